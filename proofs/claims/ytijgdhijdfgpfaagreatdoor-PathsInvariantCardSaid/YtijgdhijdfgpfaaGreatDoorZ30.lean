/- Contracts of the methods residue, at and count of manin's world. -/
import Derived.Test.YtijgdhijdfgpfaaGreatDoorZ29
import Derived.Test.YtijgdhijdfgpfaaGreatDoorZ27
import Derived.Test.YtijgdhijdfgpfaaGreatDoorZ19
import Derived.Test.YtijgdhijdfgpfaaGreatDoorZ13
import Derived.Test.YtijgdhijdfgpfaaGreatDoorZ20
import Derived.Test.YtijgdhijdfgpfaaGreatDoorZ28
import Derived.Deep.Upon
set_option linter.unusedSimpArgs false
set_option maxRecDepth 100000
set_option maxHeartbeats 8000000
namespace Go.Proofs.YtijgdhijdfgpfaaGreatDoor
open Go.RowKit
theorem c_resW (T B n wt:Nat) (L:List Nat) (f:Nat→Nat×Int) (x:Int) (w:World) (h:WorldAt w T B n wt L f) (h0:0<n) (hn:n≤120):
  Calls Tryz.prog 116 #[.pointer (some ⟨T,0,none⟩),.int .i64 x] w fun e w'=>e=.returned (.int .i64 (x % (n:Int)))∧w'=w:=by
 have h1:-(n:Int)<x.tmod n:=by have:=Int.lt_tmod_of_pos x (show(0:Int)<n by omega);omega
 have h2:x.tmod n<n:=Int.tmod_lt_of_pos x (by omega)
 have HE:=Kh (emod_of_tmod x n (by omega))
 have c0:=h.c0
 have hni:(n:Int)≠0:=by omega
 clear h
 go_enter Tryz.func116,Tryz.ntmps116
 go_wp2
 all_goals (go_ret;refine⟨ret_i ?_,rfl⟩;rw[← HE.out];first |(rw[if_pos (by omega)];done) |(rw[if_neg (by omega)];done))
theorem c_countW (T B n wt:Nat) (L:List Nat) (f:Nat→Nat×Int) (w:World) (h:WorldAt w T B n wt L f) (hwt:wt≤22) (hL:L.length≤14400):
  Calls Tryz.prog 74 #[.pointer (some ⟨T,0,none⟩)] w fun e w'=>e=.returned (.int .i64 (((wt+1)*L.length:Nat):Int))∧∃ m,w'=w.drewN m:=by
 obtain⟨p,c,e2,_⟩:=h.c2
 have c1:=h.c1
 obtain⟨P,hP⟩:∃ P,(wt+1)*L.length=P:=⟨_,rfl⟩
 have hPl:P≤331200:=by rw[← hP];exact Nat.mul_le_mul (by omega:wt+1≤23) hL
 have e1:((wt:Int)+1)*(L.length:Int)=(P:Nat):=by rw[← hP];push_cast;rfl
 rw[hP]
 clear h hP
 go_enter Tryz.func74,Tryz.ntmps74
 go_wp2_with fail
 go_quiet (fail)
 go_wp2
 go_ret
 exact⟨rfl,_,rfl⟩
theorem c_atW (T B n wt:Nat) (L:List Nat) (f:Nat→Nat×Int) (x y:Int) (w:World) (h:WorldAt w T B n wt L f) (hB:B≤w.heap.size) (h0:0<n) (hn:n≤120):
  Calls Tryz.prog 117 #[.pointer (some ⟨T,0,none⟩),.int .i64 x,.int .i64 y] w fun e w'=>e=.returned (.agg #[.int .i64 ((f ((x % n).toNat*n+(y % n).toNat)).1:Int),.int .i64 (f ((x % n).toNat*n+(y % n).toNat)).2])∧Below w.heap.size w w':=by
 obtain⟨NN,hNN⟩:∃ m,n*n=m:=⟨_,rfl⟩
 have hNl:NN≤14400:=by rw[← hNN];exact Nat.mul_le_mul hn hn
 have hu0:=Int.emod_nonneg x (show(n:Int)≠0 by omega)
 have hu1:=Int.emod_lt_of_pos x (show(0:Int)<n by omega)
 have hv0:=Int.emod_nonneg y (show(n:Int)≠0 by omega)
 have hv1:=Int.emod_lt_of_pos y (show(0:Int)<n by omega)
 obtain⟨u,hu⟩:∃ u:Nat,x % (n:Int)=u:=⟨(x % n).toNat,by omega⟩
 obtain⟨v,hv⟩:∃ v:Nat,y % (n:Int)=v:=⟨(y % n).toNat,by omega⟩
 rw[hu,hv,Int.toNat_natCast,Int.toNat_natCast]
 rw[hu]at hu0 hu1
 rw[hv]at hv0 hv1
 obtain⟨UN,hUN⟩:∃ x,u*n=x:=⟨_,rfl⟩
 have e1:(u:Int)*(n:Int)=(UN:Nat):=by rw[← hUN];push_cast;rfl
 have hIN:UN+v<NN:=by
  rw[← hUN,← hNN]
  calc u*n+v<u*n+n:=by omega
   _=(u+1)*n:=by rw[Nat.add_mul,Nat.one_mul]
   _≤n*n:=Nat.mul_le_mul_right _ (by omega)
 rw[hUN]
 obtain⟨IX,hIX⟩:∃ x,UN+v=x:=⟨_,rfl⟩
 rw[hIX]at hIN ⊢
 have e2:(UN:Int)+(v:Int)=(IX:Nat):=by omega
 have HRU:=Kh (fun w' (hb:Below w.heap.size w w')=>c_resW T B n wt L f x w' (h.keep hB hb) h0 hn)
 have HRV:=Kh (fun w' (hb:Below w.heap.size w w')=>c_resW T B n wt L f y w' (h.keep hB hb) h0 hn)
 rw[hu]at HRU
 rw[hv]at HRV
 obtain⟨gP,e3,hgP,h3⟩:=h.c3
 rw[hNN]at e3 h3
 have p0:=h3 (IX*2) (by omega)
 have p1:=h3 (IX*2+1) (by omega)
 have q0:plc f (IX*2)=.int .i64 ((f IX).1:Int):=by unfold plc;rw[if_pos (by omega),show IX*2 / 2=IX by omega]
 have q1:plc f (IX*2+1)=.int .i64 (f IX).2:=by unfold plc;rw[if_neg (by omega),show(IX*2+1) / 2=IX by omega]
 rw[q0]at p0
 rw[q1]at p1
 have t0:=h.c0
 have t3:=e3
 have hTB:T<w.heap.size:=Nat.lt_of_lt_of_le h.lt hB
 have hgB:gP<w.heap.size:=Nat.lt_of_lt_of_le hgP hB
 have i0:(0:Int)≤(IX:Int):=by omega
 have i1:(IX:Int)<(NN:Int):=by omega
 have v1:IntKind.i64.wrap (UN:Int)=(UN:Nat):=IntWalk.i64_in _ (by omega)
 have v2:IntKind.i64.wrap (IX:Int)=(IX:Nat):=IntWalk.i64_in _ (by omega)
 clear hu hv hUN hIX h e3 h3 q0 q1 hNN
 go_enter Tryz.func117,Tryz.ntmps117
 go_upto_region 1 with(fail)
 obtain⟨w0,hw0⟩:∃ w0,w.alloc (.cells #[.int .i64 0,.int .i64 0] 172)=w0:=⟨_,rfl⟩
 have hb0:Below w.heap.size w w0:=hw0▸(Below.refl _ _).alloc (Nat.le_refl _) _
 have X:=hw0▸Blk.new w 172 #[.int .i64 0,.int .i64 0]
 rw[hw0]
 obtain⟨R,hR⟩:∃ R,w.heap.size=R:=⟨_,rfl⟩
 have t0:=cell_next hb0 t0
 have t3:=cell_next hb0 t3
 have p0:=cell_next hb0 p0
 have p1:=cell_next hb0 p1
 have HRU:=Kh (fun w' (hb:Below w0.heap.size w0 w')=>HRU.out w' (hb0.trans (hb.mono hb0.size)))
 have HRV:=Kh (fun w' (hb:Below w0.heap.size w0 w')=>HRV.out w' (hb0.trans (hb.mono hb0.size)))
 have hTR:R≠T:=by omega
 have hgR:R≠gP:=by omega
 have HB0:=Kh hb0
 have HRE:=Kh hR
 rw[hR]at X HB0 ⊢
 have hru:=HRU.out w0.drew (Below.refl _ w0).drew
 have hrv:=HRV.out w0.drew (Below.refl _ w0).drew
 have HXB:=Kh X
 have r0:=X.at_ 0 rfl
 have r1:=X.at_ 1 rfl
 have f0:=X.free_ 0
 have f1:=X.free_ 1
 clear hw0 hb0 hTB hgB hR X
 have hS0:w0.drew.cell? ⟨T,0,none⟩=some (.int .i64 (n:Int))∧w0.drew.cell? ⟨T,3,none⟩=some (.slice (some ⟨gP,0,none⟩) NN NN)∧w0.drew.cell? ⟨gP,IX*2,none⟩=some (.int .i64 ((f IX).1:Int))∧w0.drew.cell? ⟨gP,IX*2+1,none⟩=some (.int .i64 (f IX).2):=⟨t0,t3,p0,p1⟩
 have HSA:=Kh (show ∀ (X:World) (v1 v2:Value),(X.cell? ⟨T,0,none⟩=some (.int .i64 (n:Int))∧X.cell? ⟨T,3,none⟩=some (.slice (some ⟨gP,0,none⟩) NN NN)∧X.cell? ⟨gP,IX*2,none⟩=some (.int .i64 ((f IX).1:Int))∧X.cell? ⟨gP,IX*2+1,none⟩=some (.int .i64 (f IX).2))→(((X.setCell ⟨R,0,none⟩ v1).setCell ⟨R,1,none⟩ v2).cell? ⟨T,0,none⟩=some (.int .i64 (n:Int))∧((X.setCell ⟨R,0,none⟩ v1).setCell ⟨R,1,none⟩ v2).cell? ⟨T,3,none⟩=some (.slice (some ⟨gP,0,none⟩) NN NN)∧((X.setCell ⟨R,0,none⟩ v1).setCell ⟨R,1,none⟩ v2).cell? ⟨gP,IX*2,none⟩=some (.int .i64 ((f IX).1:Int))∧((X.setCell ⟨R,0,none⟩ v1).setCell ⟨R,1,none⟩ v2).cell? ⟨gP,IX*2+1,none⟩=some (.int .i64 (f IX).2))from fun X v1 v2 h=>⟨by rw[World.cell?_setCell_far _ _ _ _ (by exact hTR),World.cell?_setCell_far _ _ _ _ (by exact hTR)];exact h.1,by rw[World.cell?_setCell_far _ _ _ _ (by exact hTR),World.cell?_setCell_far _ _ _ _ (by exact hTR)];exact h.2.1,by rw[World.cell?_setCell_far _ _ _ _ (by exact hgR),World.cell?_setCell_far _ _ _ _ (by exact hgR)];exact h.2.2.1,by rw[World.cell?_setCell_far _ _ _ _ (by exact hgR),World.cell?_setCell_far _ _ _ _ (by exact hgR)];exact h.2.2.2⟩)
 clear t0 t3 p0 p1
 go_region_held3 (fun w1=>w1.cell? ⟨T,0,none⟩=some (.int .i64 (n:Int))∧w1.cell? ⟨T,3,none⟩=some (.slice (some ⟨gP,0,none⟩) NN NN)∧w1.cell? ⟨gP,IX*2,none⟩=some (.int .i64 ((f IX).1:Int))∧w1.cell? ⟨gP,IX*2+1,none⟩=some (.int .i64 (f IX).2))
  (first|with_reducible exact hS0|exact HSA.out _ _ _ hS0)
  (first
   |(go_at_call 116;with_reducible refine hru.mono ?_;rintro e w2 ⟨rfl,rfl⟩)
   |(go_at_call 116;with_reducible refine hrv.mono ?_;rintro e w2 ⟨rfl,rfl⟩))
 all_goals go_wp2
 have hE:=(((HXB.out.set_ 0 (.int .i64 ((f IX).1:Int))).set_ 1 (.int .i64 (f IX).2)).below_ (Below.refl _ _).drew (by have:=HXB.out.lt;simpa using this))
 have e0:=hE.at_ 0 rfl
 have e1:=hE.at_ 1 rfl
 try simp only[Exit.inBlock,Exit.then]
 refine bodyPost_ret (by simp[results,Tryz.results117,go_sem,e0,e1];try rfl) rfl ?_
 exact⟨rfl,HRE.out▸((HB0.out.setCell (p:=⟨R,0,none⟩) (Nat.le_refl _) _).setCell (p:=⟨R,1,none⟩) (Nat.le_refl _) _).drew⟩
theorem c_Qs (g c n:Nat) (f:Nat→Int) (w:World) (hg:g<w.heap.size) (hc:∀ j,j<n→w.cell? ⟨g,j,none⟩=some (.int .i64 (f j))) (hf:∀ j,j<n→-2147483648≤f j∧f j≤2147483648) (hn:n≤1000000):
  Calls Tryz.prog 30 #[.slice (some ⟨g,0,none⟩) n c] w fun e w'=>(∃ v',e=.returned v'∧OwnQ (fun j=>IsQ (f j:Rat)) w' w.heap.size v' n)∧Below w.heap.size w w':=by
 have HN:=Kh (OwnQ.nil (fun j=>IsQ (f j:Rat)) w w.heap.size)
 have R1:=Kh hc
 have HF:=Kh hf
 clear hc hf
 go_enter Tryz.func30,Tryz.ntmps30
 go_wp2
 go_loopw [3,4] (fun v i wr=>∃ k:Nat,k≤n∧i=.int .i64 k∧OwnQ (fun j=>IsQ (f j:Rat)) wr w.heap.size v k∧Below w.heap.size w wr) (fun _ i _=>n - (intOf i).toNat)
 case atStart=>exact⟨0,Nat.zero_le _,rfl,HN.out,Below.refl _ _⟩
 case round=>
  obtain⟨k,hk,rfl,ho,hb⟩:=hrel
  have HO:=Kh ho
  have HB:=Kh hb
  clear ho HN
  by_cases hlt:k<n
  ·have a0:wr.cell? ⟨g,k,none⟩=some (.int .i64 (f k)):=(hb.cell (p:=⟨g,k,none⟩) hg).trans (R1.out k hlt)
   have HC:=Kh (c_Q (f k) wr (HF.out k hlt).1 (HF.out k hlt).2)
   clear hb
   go_wp2_with fail
   refine HC.out.mono ?_
   rintro e w2 ⟨⟨s,p1,i1,c1,t,q1,m,d1,rfl,hq⟩,hb2⟩
   obtain⟨xs,hK,hX⟩:=HO.out.keep (fun _=>IsQ.solid _) hb2
   have HK:=Kh hK
   have HX:=Kh hX
   have HQ:=Kh (show IsQ (f k:Rat) w2 s p1 i1 c1 t q1 m d1 from hq)
   have HB1:=bt HB hb2
   clear hK hX hq hb2 HO HB a0 HC
   go_wp2_with (at_builtin;refine wpl_app2 NotInt rfl (.tmp 11) (.tmp 17) _ 67 rfl Tryz.underlying22 ratInfo rfl (by decide) w.heap.size k u3 xs [.bool s,.slice p1 i1 c1,.bool t,.slice q1 m d1] rfl HK.out rfl rfl (one4 _ _ _ _ _ _ _ _) (by omega) (by omega) HB1.out.size (ni4 _ _ _ _ _ _ _ _) niz ?_;intro v' w' hown' hgr hat;have HO2:=Kh (OwnQ.push (W:=_) (fun _=>IsQ.solid _) HK.out HX.out HQ.out hown' hgr);have HB2:=Kh (own_below HB1.out HK.out.1 hgr (Nat.le_refl _) HB1.out.size);clear hown' hgr hat)
   go_roundw
   case rel=>exact⟨k+1,by omega,by go_num,HO2.out,HB2.out⟩
   case measure=>simp[intOf];omega
  ·obtain rfl:k=n:=by omega
   clear hb
   go_wp2
   go_ret
   exact⟨⟨_,rfl,HO.out⟩,HB.out⟩
theorem intZInfo:(Tryz.prog.info? 65).map (fun i=>(i.zero,i.size,i.bytes))=some (some (.agg #[.bool false,.slice none 0 0]),2,32):=by kernel_rfl
theorem makeZ (n:Nat) (h:n≤1000000) (w:World):
  (Instr.makeSlice 86 (.int .i64 (n:Int)) (.int .i64 (n:Int))).run Tryz.prog w=.ok (.slice (some ⟨w.heap.size,0,none⟩) n n) (w.alloc (.cells (madeCells #[.bool false,.slice none 0 0] (n*2)) 65)):=by
 obtain⟨i,hi,hz0,hz1,hz2⟩:=info_parts intZInfo
 have hr:=run_make (P:=Tryz.prog) w 86 65 i _ Tryz.underlying86 hi hz0 .i64 .i64 n n (by omega) (Int.le_refl _) (by rw[hz2];omega) (by omega)
 rw[Int.toNat_natCast,hz1]at hr
 exact hr
theorem madeZ {n i:Nat} {v:Value} (h:(madeCells #[.bool false,.slice none 0 0] n)[i]?=some v):NotInt v:=by
 unfold madeCells at h
 simp only[Array.getElem?_map,Array.getElem?_range]at h
 split at h
 ·simp only[Option.map_some]at h
  injection h with h
  rw[← h]
  have h3:i % 2=0∨i % 2=1:=by omega
  show NotInt ((#[.bool false,.slice none 0 0]:Array Value)[i % 2]!)
  rcases h3 with h3|h3 <;> rw[h3] <;> first|exact NotInt.bool _|exact NotInt.slice _ _ _
 ·cases h
theorem ZRow.made (f:Nat→Int) (w:World) (n:Nat):ZRow f (w.alloc (.cells (madeCells #[.bool false,.slice none 0 0] (n*2)) 65)) w.heap.size n 0:=by
 have hb:=Blk.new w 65 (madeCells #[.bool false,.slice none 0 0] (n*2))
 refine⟨Sts.of hb ?_,fun i _=>hb.free_ i,fun i hi=>?_,fun j hj=>absurd hj (Nat.not_lt_zero _)⟩
 ·intro v hv
  obtain⟨i,hi⟩:=Array.getElem?_of_mem hv
  exact madeZ hi
 ·rw[hb.cell_ i,Array.getElem?_eq_getElem (by rw[size_madeCells];exact hi)];rfl
def VarZ (w:World) (R:Nat) (z:Int):Prop:=∃ s p n c,Blk w R 65 #[.bool s,.slice p n c]∧Zs w s p n c z
theorem below_put2 {g:Nat} {w w':World} (h:Below g w w') {R i j:Nat} (hR:g≤R) {v0 v1:Value}:Below g w ((w'.setCell ⟨R,i,none⟩ v0).setCell ⟨R,j,none⟩ v1):=
 (h.setCell (p:=⟨R,i,none⟩) hR v0).setCell (p:=⟨R,j,none⟩) hR v1
theorem ZRow.var {f:Nat→Int} {w:World} {g N k R:Nat} {s:Bool} {p:Option Addr} {n c:Nat} {s':Bool} {p':Option Addr} {n' c':Nat} (h:ZRow f w g N k) (hR:Blk w R 65 #[.bool s',.slice p' n' c']) (hne:g≠R):ZRow f ((w.setCell ⟨R,0,none⟩ (.bool s)).setCell ⟨R,1,none⟩ (.slice p n c)) g N k:=by
 have hg:=but_put2 w R 0 1 (.bool s) (.slice p n c)
 have hb:((w.setCell ⟨R,0,none⟩ (.bool s)).setCell ⟨R,1,none⟩ (.slice p n c)).heap[g]?=w.heap[g]?:=hg.block g h.sts.1 (fun e=>by injection e with e;exact hne e)
 have h32:=I32.put2 (Sts.box hR) 0 1 (.bool s) (.slice p n c) (NotInt.bool _)
 refine⟨⟨Nat.lt_of_lt_of_le h.sts.1 hg.size,fun i v hv=>h.sts.2 i v ((World.cell?_of_block (a:=⟨g,i,none⟩) hb).symm.trans hv)⟩,fun i hi=>(World.frozen?_of_block (a:=⟨g,i,none⟩) hb).trans (h.free i hi),fun i hi=>by rw[World.cell?_of_block (a:=⟨g,i,none⟩) hb];exact h.has i hi,fun j hj=>?_⟩
 obtain⟨s,p,n,c,e0,e1,e2⟩:=h.val j hj
 exact⟨s,p,n,c,(World.cell?_of_block (a:=⟨g,_,none⟩) hb).trans e0,(World.cell?_of_block (a:=⟨g,_,none⟩) hb).trans e1,e2.i32 h32⟩
theorem c_timesM (v:Value) (m:Nat) (f:Nat→Int) (s:Bool) (p:Option Addr) (n c:Nat) (a:Int) (t:Bool) (q:Option Addr) (m' d:Nat) (b:Int) (w:World) (h:ZL f w v m) (ha:Zs w s p n c a) (hb:Zs w t q m' d b) (h0:0<m) (hm:m≤1000) (hn:n≤10) (hn':m'≤10) (hf:∀ j,nd (f j).natAbs≤1000) (hz:∀ j,m≤j→f j=0):
  Calls Tryz.prog 118 #[v,.agg #[.bool s,.slice p n c],.agg #[.bool t,.slice q m' d]] w fun e w'=>(∃ g,e=.returned (.slice (some ⟨g,0,none⟩) ((m+1:Nat)) ((m+1:Nat)))∧w.heap.size≤g∧ZRow (lin a b f) w' g (m+1) (m+1))∧Below w.heap.size w w':=by
 obtain⟨g1,o1,l1,rfl,hg1,r1⟩:=h.resolve_left (fun h=>by omega)
 have HR0:=Kh r1
 have HF:=Kh hf
 have HZ0:=Kh hz
 have HA:=Kh ha
 have HB:=Kh hb
 obtain⟨N,hN⟩:∃ N,m+1=N:=⟨_,rfl⟩
 have hNi:(m:Int)+1=(N:Nat):=by omega
 have hmk:=makeZ N (by omega)
 rw[hN]
 clear h r1 hf ha hb hz
 go_enter Tryz.func118,Tryz.ntmps118
 go_wp2_with fail
 obtain⟨w0,hw0⟩:∃ w0,(w.alloc (.cells #[.bool s,.slice p n c] 65)).alloc (.cells #[.bool t,.slice q m' d] 65)=w0:=⟨_,rfl⟩
 obtain⟨X0,X1,hb0⟩:=box2 w #[.bool s,.slice p n c] 65 #[.bool t,.slice q m' d] 65
 rw[hw0]at X0 X1 hb0
 have hs0:w0.heap.size=w.heap.size+1+1:=by rw[← hw0];simp
 have hrm:=ZRow.made (lin a b f) w0 N
 obtain⟨wn,hwn⟩:∃ wn,w0.alloc (.cells (madeCells #[.bool false,.slice none 0 0] (N*2)) 65)=wn:=⟨_,rfl⟩
 have hbn:Below w0.heap.size w0 wn:=hwn▸(Below.refl _ _).alloc (Nat.le_refl _) _
 rw[hwn]at hrm
 rw[hw0,hwn]
 obtain⟨gx,hgx⟩:∃ gx,w.heap.size=gx:=⟨_,rfl⟩
 obtain⟨gy,hgy⟩:∃ gy,gx+1=gy:=⟨_,rfl⟩
 obtain⟨g,hg⟩:∃ g,gy+1=g:=⟨_,rfl⟩
 rw[hgx,hgy,hg]at hs0
 rw[hgx]at X0 X1
 rw[hgy]at X1
 rw[hs0]at hrm hbn
 rw[hgx,hgy,hg]
 have HX0:=Kh X0
 have HX1:=Kh X1
 have HBN:=Kh hbn
 have HRM:=Kh hrm
 have hgl:w.heap.size≤g:=by omega
 have hxl:gx<g:=by omega
 have hyl:gy<g:=by omega
 have HW:=Kh hb0
 have HG1:=Kh (show g1<g by omega)
 have HR:=Kh (fun j (hj:j<m)=>ZE.keep (HR0.out j hj) hb0)
 have HAX:=Kh (HA.out.keep hb0)
 have HBX:=Kh (HB.out.keep hb0)
 have HS0:=Kh hs0
 clear X0 X1 hb0 hw0 hwn hrm hbn hg1 hgx hgy hg hs0 hmk HR0 HA HB
 go_loopw [16] (fun i wr=>∃ k:Nat,k≤N∧i=.int .i64 k∧ZRow (lin a b f) wr g N k∧Below g w0 wr) (fun i _=>N - (intOf i).toNat)
 case atStart=>exact⟨0,Nat.zero_le _,rfl,HRM.out,HBN.out⟩
 case round=>
  obtain⟨k,hk,rfl,hrow,hbr⟩:=hrel
  obtain⟨w1,rfl⟩:∃ w1:World,w1=wr:=⟨_,rfl⟩
  have HROW:=Kh hrow
  have HBR:=Kh hbr
  clear hrow hbr HBN HRM
  by_cases hlt:k<N
  ·have hkN:(k:Int)<(N:Int):=by omega
   go_wp2_with fail
   refine(c_Of 0 w1 (by omega) (by omega)).mono ?_
   rintro e w2 ⟨⟨s3,p3,n3,c3,rfl,hz3⟩,hb3⟩
   have hsz2:g<w2.heap.size:=Nat.lt_of_lt_of_le HROW.out.sts.1 hb3.size
   have HROW2:=Kh (ZRow.keep HROW.out hb3)
   have HBR2:=Kh (HBR.out.trans (hb3.mono (Nat.le_of_lt HROW.out.sts.1)))
   have HZ3:=Kh hz3
   clear hz3 hb3 HROW HBR
   go_upto_if 21 with(fail)
   obtain⟨w3,hw3⟩:∃ w3,w2.alloc (.cells #[.bool s3,.slice p3 n3 c3] 65)=w3:=⟨_,rfl⟩
   have hb3:Below w2.heap.size w2 w3:=hw3▸(Below.refl _ _).alloc (Nat.le_refl _) _
   have XR:=hw3▸Blk.new w2 65 #[.bool s3,.slice p3 n3 c3]
   rw[hw3]
   obtain⟨R,hR⟩:∃ R,w2.heap.size=R:=⟨_,rfl⟩
   rw[hR]at XR ⊢
   have hRg:g<R:=by omega
   have HV3:=Kh (show VarZ w3 R 0 from⟨s3,p3,n3,c3,XR,HZ3.out.keep hb3⟩)
   have HROW3:=Kh (ZRow.keep HROW2.out hb3)
   have HBR3:=Kh (HBR2.out.trans (hb3.mono (Nat.le_of_lt hsz2)))
   clear hw3 hb3 XR hR hsz2 HROW2 HBR2 HZ3
   obtain⟨u1,hu1⟩:∃ u1,(if 0<k then a*f (k - 1)else 0)=u1:=⟨_,rfl⟩
   have HU1:=Kh hu1
   clear hu1
   go_cut []from 20 to 28 (fun wd=>VarZ wd R u1∧ZRow (lin a b f) wd g N k∧Below g w0 wd)
   case first=>
    by_cases hk0:0<k
    ·obtain⟨k1,hk1⟩:∃ k1,k=k1+1:=⟨k - 1,by omega⟩
     have HU:=Kh (show a*f k1=u1 by rw[← HU1.out,if_pos hk0,hk1,Nat.add_sub_cancel])
     obtain⟨we,rfl⟩:∃ we:World,we=w3:=⟨_,rfl⟩
     have hbm:Below w0.heap.size w0 we:=HS0.out▸HBR3.out
     obtain⟨s',p',i',c',a0,a1,hx⟩:=(HR.out k1 (by omega)).keep hbm
     have HP:=Kh (show Zs we s' p' i' c' (f k1)from hx)
     have x0:=(HX0.out.below_ HBR3.out hxl).at_ 0 rfl
     have x1:=(HX0.out.below_ HBR3.out hxl).at_ 1 rfl
     have HX:=Kh (HAX.out.keep hbm)
     have HI:=Kh (show i'≤1000 by rw[← hx.2.1];exact HF.out k1)
     have HM1:=Kh (fun W (hb:Below we.heap.size we W)=>c_Mul s p n c a s' p' i' c' (f k1) W (HX.out.keep hb).raw (HP.out.keep hb).raw (by omega) (by have:=HI.out;omega))
     rw[HU.out]at HM1
     obtain⟨s5,p5,n5,c5,XR,_⟩:=HV3.out
     have HXR:=Kh XR
     have hkk1:(k:Int) - 1=(k1:Nat):=by omega
     have hk1n:k1<m:=by omega
     have hk1i:(k1:Int)<(m:Int):=by omega
     have hkw:IntKind.i64.wrap (k1:Int)=(k1:Nat):=IntWalk.i64_in _ (by omega)
     have hk00:(0:Int)≤(k1:Int):=by omega
     have hg1:=HG1.out
     have hk0i:(0:Int)<(k:Int):=by omega
     clear hx hbm HX HP hk1 HU HU1
     go_upto_region 7 with(fail)
     refine rgB (fun W=>W.cell? ⟨gx,0,none⟩=some (.bool s)∧W.cell? ⟨gx,1,none⟩=some (.slice p n c)∧W.cell? ⟨g1,o1+k1*2,none⟩=some (.bool s')∧W.cell? ⟨g1,o1+k1*2+1,none⟩=some (.slice p' i' c')∧W.cell? ⟨R,0,none⟩=some (.bool s5)∧W.frozen? ⟨R,0,none⟩=false∧W.cell? ⟨R,1,none⟩=some (.slice p5 n5 c5)∧W.frozen? ⟨R,1,none⟩=false) (fun W hb=>⟨cnx hb x0,cnx hb x1,cnx hb a0,cnx hb a1,cnx hb (XR.at_ 0 rfl),frozen_keep hb (by rw[(XR.at_ 0 rfl)];rfl) (XR.free_ 0),cnx hb (XR.at_ 1 rfl),frozen_keep hb (by rw[(XR.at_ 1 rfl)];rfl) (XR.free_ 1)⟩) (fun HSE hHeld0=>?_)
     clear x0 x1 a0 a1 XR
     refine tkE 0 ?_;refine tkE 1 ?_;refine tkE 2 ?_;refine tkE 3 ?_;refine tkE 4 ?_;refine tkE 5 ?_
     refine stE 6 rfl (fun K hK=>?_)
     focus(go_simp;refine(HM1.out _ (Below.refl _ we).drew).mono ?_;rintro e w4 ⟨⟨s4,p4,n4,c4,rfl,hz4⟩,hb4⟩;have HBE4:=Kh ((Below.refl _ we).drew.trans hb4:Below we.heap.size we w4);have HZ4:=Kh hz4;clear hz4 hb4;(first|with_reducible refine hK.out _ _ ?_ (fun hHeld1=>?_) |(go_wp2_with fail;with_reducible refine hK.out _ _ ?_ (fun hHeld1=>?_))))
     focus((try dsimp only);exact HSE.out _ HBE4.out)
     focus(clear hK K;(try simp only[Act.put,lsa,lsz,lss]))
     refine laE 7 rfl (fun K hK=>?_)
     go_simp
     refine hK.out _ _ ?_
     clear hK K
     (try simp only[Act.put,lsa,lsz,lss])
     all_goals go_wp2
     all_goals go_meet
     all_goals have hb9:=HBE4.out
     all_goals obtain⟨hv1,hv2⟩:=one_put (bk HXR hb9) HZ4.out
     all_goals exact⟨⟨_,_,_,_,hv1,hv2⟩,ZRow.var (ZRow.keep HROW3.out hb9) (bk HXR hb9) (Nat.ne_of_lt hRg),below_put2 (HBR3.out.trans (hb9.mono (Nat.le_of_lt HROW3.out.sts.1))) (Nat.le_of_lt hRg)⟩
    ·have HU:=Kh (show 0=u1 by rw[← HU1.out,if_neg hk0])
     obtain rfl:k=0:=by omega
     go_wp2
     go_meet
     exact⟨HU.out▸HV3.out,HROW3.out,HBR3.out⟩
   case rest=>
    obtain⟨hv,hr,hb⟩:=hcut
    obtain⟨we,rfl⟩:∃ we:World,we=wc:=⟨_,rfl⟩
    have HV4:=Kh hv
    have HROW4:=Kh hr
    have HBR4:=Kh hb
    clear hv hr hb HV3 HROW3 HBR3
    go_upto_if 32 with(fail)
    go_cut []from 29 to 40 (fun wd=>VarZ wd R (lin a b f k)∧ZRow (lin a b f) wd g N k∧Below g w0 wd)
    case first=>
     by_cases hkm:k<m
     ·have HU:=Kh (show u1+b*f k=lin a b f k by unfold lin;rw[HU1.out])
      have hbm:Below w0.heap.size w0 we:=HS0.out▸HBR4.out
      obtain⟨s',p',i',c',a0,a1,hx⟩:=(HR.out k hkm).keep hbm
      have HP:=Kh (show Zs we s' p' i' c' (f k)from hx)
      have x0:=(HX1.out.below_ HBR4.out hyl).at_ 0 rfl
      have x1:=(HX1.out.below_ HBR4.out hyl).at_ 1 rfl
      have HX:=Kh (HBX.out.keep hbm)
      have HI:=Kh (show i'≤1000 by rw[← hx.2.1];exact HF.out k)
      have HM1:=Kh (fun W (hb:Below we.heap.size we W)=>c_Mul t q m' d b s' p' i' c' (f k) W (HX.out.keep hb).raw (HP.out.keep hb).raw (by omega) (by have:=HI.out;omega))
      obtain⟨s5,p5,n5,c5,XR,hv5⟩:=HV4.out
      have HXR:=Kh XR
      have HV5:=Kh hv5
      have HSU:=Kh (show n5≤2000 by
       rw[← hv5.2.1,← HU1.out]
       split
       ·rw[Int.natAbs_mul]
        have h1:=nd_mul a.natAbs (f (k - 1)).natAbs
        have h2:=HF.out (k - 1)
        have h3:nd a.natAbs≤10:=by rw[HAX.out.2.1];exact hn
        omega
       ·simp[nd_zero])
      have HSP:=Kh (show nd (b*f k).natAbs≤2000 by
       rw[Int.natAbs_mul]
       have h1:=nd_mul b.natAbs (f k).natAbs
       have h2:=HF.out k
       have h3:nd b.natAbs≤10:=by rw[HBX.out.2.1];exact hn'
       omega)
      have hkmi:(k:Int)<(m:Int):=by omega
      have hg1:=HG1.out
      clear hx hbm HX HP HU1 hv5
      go_upto_region 9 with(fail)
      refine rgB (fun W=>W.cell? ⟨gy,0,none⟩=some (.bool t)∧W.cell? ⟨gy,1,none⟩=some (.slice q m' d)∧W.cell? ⟨g1,o1+k*2,none⟩=some (.bool s')∧W.cell? ⟨g1,o1+k*2+1,none⟩=some (.slice p' i' c')∧W.cell? ⟨R,0,none⟩=some (.bool s5)∧W.frozen? ⟨R,0,none⟩=false∧W.cell? ⟨R,1,none⟩=some (.slice p5 n5 c5)∧W.frozen? ⟨R,1,none⟩=false) (fun W hb=>⟨cnx hb x0,cnx hb x1,cnx hb a0,cnx hb a1,cnx hb (XR.at_ 0 rfl),frozen_keep hb (by rw[(XR.at_ 0 rfl)];rfl) (XR.free_ 0),cnx hb (XR.at_ 1 rfl),frozen_keep hb (by rw[(XR.at_ 1 rfl)];rfl) (XR.free_ 1)⟩) (fun HSE hHeld0=>?_)
      clear x0 x1 a0 a1 XR
      refine tkE 0 ?_;refine tkE 1 ?_;refine tkE 2 ?_;refine tkE 3 ?_;refine tkE 4 ?_;refine tkE 5 ?_
      refine stE 6 rfl (fun K hK=>?_)
      focus(go_simp;refine(HM1.out _ (Below.refl _ we).drew).mono ?_;rintro e w4 ⟨⟨s4,p4,n4,c4,rfl,hz4⟩,hb4⟩;have HBE4:=Kh ((Below.refl _ we).drew.trans hb4:Below we.heap.size we w4);have HZ4:=Kh hz4;clear hz4 hb4;(first|with_reducible refine hK.out _ _ ?_ (fun hHeld1=>?_) |(go_wp2_with fail;with_reducible refine hK.out _ _ ?_ (fun hHeld1=>?_))))
      focus((try dsimp only);exact HSE.out _ HBE4.out)
      focus(clear hK K;(try simp only[Act.put,lsa,lsz,lss]))
      refine stE 7 rfl (fun K hK=>?_)
      focus(go_simp;refine(c_Add s5 p5 n5 c5 u1 s4 p4 n4 c4 (b*f k) _ (HV5.out.keep HBE4.out).raw HZ4.out.raw (by have:=HSU.out;omega) (by rw[← HZ4.out.2.1];have:=HSP.out;omega)).mono ?_;rintro e w6 ⟨⟨s6,p6,n6,c6,rfl,hz6⟩,hb6⟩;have HBE6:=bt HBE4 hb6;have HZ6:=Kh hz6;clear hz6 hb6;(first|with_reducible refine hK.out _ _ ?_ (fun hHeld2=>?_) |(go_wp2_with fail;with_reducible refine hK.out _ _ ?_ (fun hHeld2=>?_))))
      focus((try dsimp only);exact HSE.out _ HBE6.out)
      focus(clear hK K;(try simp only[Act.put,lsa,lsz,lss]))
      refine laE 8 rfl (fun K hK=>?_)
      go_simp
      refine hK.out _ _ ?_
      clear hK K
      (try simp only[Act.put,lsa,lsz,lss])
      all_goals go_wp2
      all_goals go_meet
      all_goals have hb9:=HBE6.out
      all_goals obtain⟨hv1,hv2⟩:=one_put (bk HXR hb9) HZ6.out
      all_goals exact⟨⟨_,_,_,_,hv1,HU.out▸hv2⟩,ZRow.var (ZRow.keep HROW4.out hb9) (bk HXR hb9) (Nat.ne_of_lt hRg),below_put2 (HBR4.out.trans (hb9.mono (Nat.le_of_lt HROW4.out.sts.1))) (Nat.le_of_lt hRg)⟩
     ·have HU:=Kh (show u1=lin a b f k by unfold lin;rw[HU1.out,HZ0.out k (by omega),Int.mul_zero,Int.add_zero])
      go_wp2
      go_meet
      exact⟨HU.out▸HV4.out,HROW4.out,HBR4.out⟩
    case rest=>
     obtain⟨⟨s5,p5,n5,c5,XR,hv5⟩,hr,hb⟩:=hcut
     obtain⟨w7,rfl⟩:∃ w7:World,w7=wc:=⟨_,rfl⟩
     have y0:=XR.at_ 0 rfl
     have y1:=XR.at_ 1 rfl
     have HQA:=Kh (ZRow.set (k':=k+1) hr k hlt (lin a b f) (fun i' h1 h2=>⟨by omega,rfl⟩) hv5)
     have HB7:=Kh hb
     obtain⟨u0,hu0⟩:=Option.isSome_iff_exists.1 (hr.has (k*2) (by omega))
     obtain⟨u2,hu2⟩:=Option.isSome_iff_exists.1 (hr.has (k*2+1) (by omega))
     have f0:=hr.free (k*2) (by omega)
     have f1:=hr.free (k*2+1) (by omega)
     clear XR hv5 hr hb HV4 HROW4 HBR4
     go_wp2
     go_roundw
     case rel=>exact⟨k+1,by omega,by go_num,HQA.out,below_put2 HB7.out (Nat.le_refl _)⟩
     case measure=>simp[intOf];omega
  ·obtain rfl:N=k:=by omega
   have hbr:=HBR.out
   clear hbr
   go_wp2
   go_ret
   exact⟨⟨g,rfl,hgl,HROW.out⟩,HW.out.trans (HBR.out.mono hgl)⟩
theorem wpl_appN {P:Program} {W:World} {ops:Array Oper} {rest:List Oper} {o:Oper} {a:Act} {Q:Exit→Act→World→Prop} (K:Value→Prop) (hgd:o.guard=none) (s x:Operand) (t E:TypeId)
  (ho:o.op=.call { callee:=.builtin .append,args:=#[s,x],argTypes:=#[t,t] }) {z:Value} {sz bytes:Nat} (hU:P.underlying t=some (.slice E))
  (hinfo:(P.info? E).map (fun i=>(i.zero,i.size,i.bytes))=some (some z,sz,bytes)) (hzs:z.cells.size=sz) (hsz:0<sz) (B n m g c:Nat) (v:Value) (xs news:List Value)
  (hs:a.eval s=v) (hown:OwnK K W B E sz v n xs) (hx:a.eval x=.slice (some ⟨g,0,none⟩) m c) (hn:news.length=m*sz) (hcell:∀ (j:Nat) (u:Value),news[j]?=some u→W.cell? ⟨g,j,none⟩=some u) (h1:∀ u∈news,u.oneCell'=true)
  (hb:(n+m)*bytes≤140737488355328) (hm:n+m≤9223372036854775807) (hm0:0<m) (hB:B≤W.heap.size) (hKn:∀ u∈news,K u) (hKz:∀ u∈z.cells.toList,K u)
  (h:∀ v' w',OwnK K w' B E sz v' (n+m) (xs++news)→W.grownBy w' v.ownBlock→(v'.ownBlock=v.ownBlock∨v'.ownBlock=some W.heap.size)→wpList P ops Q rest (a.put o.dst v') w'):
  wpList P ops Q (o :: rest) a W:=by
 obtain⟨i0,hi,hz0,hz1,hz2⟩:=info_parts hinfo
 have hcell2:∀ (j:Nat) (u:Value),news[j]?=some u→W.cell? ((⟨g,0,none⟩:Addr).add j)=some u:=by
  intro j u hu
  have e:(⟨g,0,none⟩:Addr).add j=⟨g,j,none⟩:=by
   unfold Addr.add;split
   ·rename_i h0;rw[h0]
   ·simp
  rw[e]
  exact hcell j u hu
 obtain⟨v',w',hr,g1,g2,_,g3⟩:=run_append_own_at (P:=P) W B t o.type E i0 z sz bytes hU hi hz0 hz1 hz2 hzs hsz v n xs hown.1 ⟨g,0,none⟩ m c news hn hcell2 h1 hm hb hB
 have g4:=append_stk K W B t o.type E i0 z sz bytes hU hi hz0 hz1 hz2 hzs hsz v n xs hown.1 ⟨g,0,none⟩ m c news hn hcell2 h1 hm hb hm0 hown.2 hKn hKz hr
 refine wpList_plain hgd fun K' hK'=>?_
 unfold Oper.wp execOp
 simp only[ho,resolve,invoke,builtin,Sem.run_bind,Sem.run_pure,Result.andThen_ok,List.map_toArray,List.map_cons,List.map_nil,hs,hx,hr]
 exact hK' _ _ (h v' w' ⟨g1,g4⟩ g2 g3)
def rowCells (w:World) (g n:Nat):List Value:=(List.range n).map fun i=>cellOf w ⟨g,i,none⟩
theorem rowCells_length (w:World) (g n:Nat):(rowCells w g n).length=n:=by unfold rowCells;rw[List.length_map,List.length_range]
theorem rowCells_get {w:World} {g n j:Nat} (hj:j<n):(rowCells w g n)[j]?=some (cellOf w ⟨g,j,none⟩):=by
 unfold rowCells
 rw[List.getElem?_map,List.getElem?_range hj];rfl
theorem rowCells_lt {w:World} {g n j:Nat} {u:Value} (h:(rowCells w g n)[j]?=some u):j<n:=by
 rcases Nat.lt_or_ge j n with h1|h1
 ·exact h1
 ·rw[List.getElem?_eq_none (by rw[rowCells_length];exact h1)]at h;cases h
theorem ZRow.cellOf {f:Nat→Int} {w:World} {g N:Nat} (h:ZRow f w g N N) {i:Nat} (hi:i<N*2):w.cell? ⟨g,i,none⟩=some (cellOf w ⟨g,i,none⟩):=by
 obtain⟨u,hu⟩:=Option.isSome_iff_exists.1 (h.has i hi)
 rw[hu,cellOf_eq hu]
theorem ZRow.shape {f:Nat→Int} {w:World} {g N:Nat} (h:ZRow f w g N N) {i:Nat} (hi:i<N*2):(∃ s,Go.Proofs.YtijgdhijdfgpfaaGreatDoor.cellOf w ⟨g,i,none⟩=.bool s)∨∃ p n c,Go.Proofs.YtijgdhijdfgpfaaGreatDoor.cellOf w ⟨g,i,none⟩=.slice p n c:=by
 obtain⟨s,p,n,c,e0,e1,_⟩:=h.val (i / 2) (by omega)
 rcases Nat.mod_two_eq_zero_or_one i with h2|h2
 ·rw[show i / 2*2=i by omega]at e0
  exact .inl ⟨s,cellOf_eq e0⟩
 ·rw[show i / 2*2+1=i by omega]at e1
  exact .inr ⟨p,n,c,cellOf_eq e1⟩
theorem rowCells_all {f:Nat→Int} {w:World} {g N:Nat} (h:ZRow f w g N N) {u:Value} (hu:u∈rowCells w g (N*2)):(∃ s,u=.bool s)∨∃ p n c,u=.slice p n c:=by
 obtain⟨j,hj⟩:=List.getElem?_of_mem hu
 have hl:=rowCells_lt hj
 rw[rowCells_get hl]at hj
 injection hj with hj
 subst hj
 exact h.shape hl
theorem rowCells_one {f:Nat→Int} {w:World} {g N:Nat} (h:ZRow f w g N N):∀ u∈rowCells w g (N*2),u.oneCell'=true:=by
 intro u hu
 rcases rowCells_all h hu with⟨s,rfl⟩ |⟨p,n,c,rfl⟩ <;> rfl
theorem rowCells_ni {f:Nat→Int} {w:World} {g N:Nat} (h:ZRow f w g N N):∀ u∈rowCells w g (N*2),NotInt u:=by
 intro u hu
 rcases rowCells_all h hu with⟨s,rfl⟩ |⟨p,n,c,rfl⟩
 ·exact NotInt.bool _
 ·exact NotInt.slice _ _ _
theorem rowCells_cell {f:Nat→Int} {w:World} {g N:Nat} (h:ZRow f w g N N):∀ (j:Nat) (u:Value),(rowCells w g (N*2))[j]?=some u→w.cell? ⟨g,j,none⟩=some u:=by
 intro j u hj
 have hl:=rowCells_lt hj
 rw[rowCells_get hl]at hj
 rw[h.cellOf hl,hj]
theorem OwnZ.more {f r:Nat→Int} {W w':World} {B n m g:Nat} {v v':Value} {xs:List Value} (h1:OwnK NotInt W B 65 2 v n xs) (h2:∀ j,j<n→ZX (f j) W xs (j*2))
  (hr:ZRow r W g m m) (h3:OwnK NotInt w' B 65 2 v' (n+m) (xs++rowCells W g (m*2))) (hg:W.grownBy w' v.ownBlock) (f':Nat→Int) (e1:∀ j,j<n→f' j=f j) (e2:∀ j,j<m→f' (n+j)=r j):OwnZ f' w' B v' (n+m):=by
 have h32:=I32.grown (K:=NotInt) (fun x=>not_int32 x) h1.2 hg
 refine⟨_,h3,fun j hj=>?_⟩
 by_cases hjn:j<n
 ·rw[e1 j hjn];exact((h2 j hjn).i32 h32).app
 ·obtain⟨k,rfl⟩:∃ k,j=n+k:=⟨j - n,by omega⟩
  have hk:k<m:=by omega
  have hl:xs.length=n*2:=h1.1.1
  rw[e2 k hk]
  obtain⟨s,p,c,d,c0,c1,hz⟩:=hr.val k hk
  refine⟨s,p,c,d,?_,?_,hz.i32 h32⟩
  ·rw[List.getElem?_append_right (by omega),hl,show(n+k)*2 - n*2=k*2 by omega,rowCells_get (by omega),cellOf_eq c0]
  ·rw[List.getElem?_append_right (by omega),hl,show(n+k)*2+1 - n*2=k*2+1 by omega,rowCells_get (by omega),cellOf_eq c1]
end Go.Proofs.YtijgdhijdfgpfaaGreatDoor
namespace Go.Proofs.YtijgdhijdfgpfaaGreatDoor
open Go.RowKit Eli
theorem c_qNormalQ (s:Bool) (p:Option Addr) (n c:Nat) (t:Bool) (q:Option Addr) (m d:Nat) (x:Rat) (w:World) (h:Qs w s p n c t q m d x) (hx:hq x≤1000000000):
  Calls Tryz.prog 61 #[.agg #[.bool s,.slice p n c,.bool t,.slice q m d]] w fun e w'=>RetQ w' e x∧Below w.heap.size w w':=by
 have h1:=c_qNormal s p n c x.num t q m d x.den w h.1.raw h.2.raw (by have:=h.sizes;omega) (by have:=h.sizes;omega)
 rw[rat_self]at h1
 exact h1
theorem c_fresh (g N:Nat) (F:Nat→Rat) (w:World) (h:∀ i,i<N→QE (IsQ (F i)) w g (i*4)) (hN:N≤1000000) (hF:∀ i,i<N→hq (F i)≤1000000000):
  Calls Tryz.prog 124 #[.slice (some ⟨g,0,none⟩) N N] w fun e w'=>(∃ g',e=.returned (.slice (some ⟨g',0,none⟩) N N)∧w.heap.size≤g'∧QRow (fun i=>IsQ (F i)) w' g' N N)∧Below w.heap.size w w':=by
 have HR:=Kh h
 have HF:=Kh hF
 have hmk:=makeQ N (by omega)
 clear h hF
 go_enter Tryz.func124,Tryz.ntmps124
 go_wp2_with fail
 have hrm:=QRow.made (fun i=>IsQ (F i)) w N
 obtain⟨w0,hw0⟩:∃ w0,w.alloc (.cells (madeCells #[.bool false,.slice none 0 0,.bool false,.slice none 0 0] (N*4)) 67)=w0:=⟨_,rfl⟩
 have hb0:Below w.heap.size w w0:=hw0▸(Below.refl _ _).alloc (Nat.le_refl _) _
 rw[hw0]at hrm ⊢
 have HRM:=Kh hrm
 have HB0:=Kh hb0
 obtain⟨G,hG⟩:∃ G,w.heap.size=G:=⟨_,rfl⟩
 rw[hG]at HRM HB0 ⊢
 have HGE:=Kh hG
 clear hrm hb0 hw0 hG hmk
 go_loopw [11] (fun ii wr=>∃ k:Nat,k≤N∧ii=.int .i64 k∧QRow (fun i=>IsQ (F i)) wr G N k∧Below G w wr) (fun ii _=>N - (intOf ii).toNat)
 case atStart=>exact⟨0,Nat.zero_le _,rfl,HRM.out,HB0.out⟩
 case round=>
  obtain⟨k,hk,rfl,hrow,hb1⟩:=hrel
  obtain⟨w1,rfl⟩:∃ w1:World,w1=wr:=⟨_,rfl⟩
  have HROW:=Kh hrow
  have HB1:=Kh hb1
  clear hrow hb1 HRM HB0
  by_cases hlt:k<N
  ·have hki:(k:Int)<(N:Int):=by omega
   have hb1:=HB1.out
   rw[← HGE.out]at hb1
   obtain⟨s,p,n,c,t,q,m,d,a0,a1,a2,a3,hx⟩:=(HR.out k hlt).keep (IsQ.solid _) hb1
   have HX:=Kh (show Qs w1 s p n c t q m d (F k)from hx)
   clear hx hb1
   go_wp2_with fail
   obtain⟨w2,hw2⟩:∃ w2,w1.alloc (.cells #[.bool s,.slice p n c,.bool t,.slice q m d] 67)=w2:=⟨_,rfl⟩
   have hb2:Below w1.heap.size w1 w2:=hw2▸(Below.refl _ _).alloc (Nat.le_refl _) _
   rw[hw2]
   refine(c_qNormalQ s p n c t q m d (F k) w2 (HX.out.keep hb2) (HF.out k hlt)).mono ?_
   rintro e w3 ⟨⟨s3,p3,n3,c3,t3,q3,m3,d3,rfl,hq3⟩,hb3⟩
   have hb13:=hb2.trans (hb3.mono hb2.size)
   have hr3:=QRow.keep (fun _=>IsQ.solid _) HROW.out hb13
   have HQA:=Kh (QRow.set (k':=k+1) (fun _=>IsQ.solid _) hr3 k hlt (fun i=>IsQ (F i)) (IsQ.solid _) (fun i' h1 h2=>⟨by omega,rfl⟩) (show IsQ (F k) w3 s3 p3 n3 c3 t3 q3 m3 d3 from hq3))
   have HB3:=Kh (HB1.out.trans (hb13.mono (Nat.le_of_lt HROW.out.sts.1)))
   obtain⟨u0,hu0⟩:=Option.isSome_iff_exists.1 (hr3.has (k*4) (by omega))
   obtain⟨u1,hu1⟩:=Option.isSome_iff_exists.1 (hr3.has (k*4+1) (by omega))
   obtain⟨u2,hu2⟩:=Option.isSome_iff_exists.1 (hr3.has (k*4+2) (by omega))
   obtain⟨u3,hu3⟩:=Option.isSome_iff_exists.1 (hr3.has (k*4+3) (by omega))
   have f0:=hr3.free (k*4) (by omega)
   have f1:=hr3.free (k*4+1) (by omega)
   have f2:=hr3.free (k*4+2) (by omega)
   have f3:=hr3.free (k*4+3) (by omega)
   clear hq3 hb2 hb3 hb13 hr3 hw2 a0 a1 a2 a3
   go_wp2
   go_roundw
   case rel=>exact⟨k+1,by omega,by go_num,HQA.out,below_put4g HB3.out⟩
   case measure=>simp[intOf];omega
  ·obtain rfl:N=k:=by omega
   have hE:=HGE.out
   go_wp2
   go_ret
   exact⟨⟨G,rfl,Nat.le_of_eq hE,HROW.out⟩,hE▸HB1.out⟩
theorem c_Reduce (M B:Nat) (N k D:Int) (F:List Nat) (C:Nat) (X:Nat→Nat→Rat) (n:Nat) (w:World) (h:ModAt w M B N k D F C X) (hn:n<C) (hFl:F.length≤1000000) (hX:∀ f,f∈F→hq (X n f)≤1000000000):
  Calls Tryz.prog 87 #[.pointer (some ⟨M,0,none⟩),.int .i64 n] w fun e w'=>(∃ g,e=.returned (.tuple #[.slice (some ⟨g,0,none⟩) F.length F.length,.int .i64 0])∧w.heap.size≤g∧QRow (fun i=>IsQ (X n (F.getD i 0))) w' g F.length F.length)∧Below w.heap.size w w':=by
 obtain⟨GR,c4,_,hrows⟩:=h.c4
 obtain⟨g,r0,hg,hq⟩:=hrows n hn
 have HC:=Kh (c_fresh g F.length (fun i=>X n (F.getD i 0)) w (fun i hi=>by
  have e:F[i]?=some (F.getD i 0):=by rw[List.getD_eq_getElem?_getD,List.getElem?_eq_getElem hi];rfl
  exact hq i _ e) hFl (fun i hi=>hX _ (by rw[List.getD_eq_getElem?_getD,List.getElem?_eq_getElem hi];exact List.getElem_mem hi)))
 have hni:(n:Int)<(C:Int):=by omega
 have hn0:(0:Int)≤(n:Int):=by omega
 clear h hrows hq hX hg
 go_enter Tryz.func87,Tryz.ntmps87
 go_wp2_with fail
 refine HC.out.mono ?_
 rintro e w1 ⟨⟨g1,rfl,hg1,hrow⟩,hb1⟩
 have HP:=Kh (And.intro hg1 (And.intro hrow hb1))
 clear hg1 hrow hb1 HC
 go_wp2
 (first|go_ret2|go_ret)
 exact⟨⟨g1,rfl,HP.out.1,HP.out.2.1⟩,HP.out.2.2⟩
theorem NL.val {F:List Nat} {w:World} {B:Nat} {v:Value} (h:NL F w B v):∃ p c,v=.slice p F.length c:=by
 rcases h with⟨rfl,a,c,rfl⟩ |⟨g,cap,e,_⟩
 ·exact⟨a,c,rfl⟩
 ·exact⟨_,_,e⟩
theorem c_Dim (M B:Nat) (N k D:Int) (F:List Nat) (C:Nat) (X:Nat→Nat→Rat) (w:World) (h:ModAt w M B N k D F C X):
  Calls Tryz.prog 20 #[.pointer (some ⟨M,0,none⟩)] w fun e w'=>e=.returned (.int .i64 (F.length:Int))∧w'=w:=by
 obtain⟨v,c3,h3⟩:=h.c3
 obtain⟨p,c,rfl⟩:=h3.val
 clear h h3
 go_enter Tryz.func20,Tryz.ntmps20
 go_wp2
 go_ret
 exact⟨rfl,rfl⟩
theorem c_Spec (M B:Nat) (N k D:Int) (F:List Nat) (C:Nat) (X:Nat→Nat→Rat) (w:World) (h:ModAt w M B N k D F C X) (hB:B≤w.heap.size):
  Calls Tryz.prog 44 #[.pointer (some ⟨M,0,none⟩)] w fun e w'=>e=.returned (.agg #[.int .i64 N,.int .i64 k,.int .i64 D])∧Below w.heap.size w w':=by
 have hM:=Nat.lt_of_lt_of_le h.lt hB
 have c0:=h.c0
 have c1:=h.c1
 have c2:=h.c2
 clear h
 go_enter Tryz.func44,Tryz.ntmps44
 go_upto_if 4 with(fail)
 obtain⟨w0,hw0,X0,hb0⟩:=bx1 w #[.int .i64 0,.int .i64 0,.int .i64 0] 40
 rw[hw0]
 have c0:=cell_next hb0 c0
 have c1:=cell_next hb0 c1
 have c2:=cell_next hb0 c2
 have r0:=X0.at_ 0 rfl
 have r1:=X0.at_ 1 rfl
 have r2:=X0.at_ 2 rfl
 have f0:=X0.free_ 0
 have f1:=X0.free_ 1
 have f2:=X0.free_ 2
 go_wp2
 have hE:=((X0.set_ 0 (.int .i64 N)).set_ 1 (.int .i64 k)).set_ 2 (.int .i64 D)
 have e0:=hE.at_ 0 rfl
 have e1:=hE.at_ 1 rfl
 have e2:=hE.at_ 2 rfl
 try simp only[Exit.inBlock,Exit.then]
 refine bodyPost_ret (by simp[results,Tryz.results44,go_sem,e0,e1,e2];try rfl) rfl ?_
 exact⟨rfl,((hb0.setCell (p:=⟨w.heap.size,0,none⟩) (Nat.le_refl _) _).setCell (p:=⟨w.heap.size,1,none⟩) (Nat.le_refl _) _).setCell (p:=⟨w.heap.size,2,none⟩) (Nat.le_refl _) _⟩
end Go.Proofs.YtijgdhijdfgpfaaGreatDoor
