/- Contracts of the methods residue, at and count of manin's world. -/
import Derived.Test.YtenlbhlllgppmaaGreatDoorK28
import Derived.Test.YtenlbhlllgppmaaGreatDoorK27
set_option maxRecDepth 100000
set_option maxHeartbeats 8000000
namespace Go.Proofs.YtenlbhlllgppmaaGreatDoor
open Go.RowKit
theorem c_resW (T B n wt:Nat) (L:List Nat) (f:Nat→Nat×Int) (x:Int) (w:World) (h:WorldAt w T B n wt L f) (h0:0<n) (hn:n≤120):
  Calls Tryz.prog 143 #[.pointer (some ⟨T,0,none⟩),.int .i64 x] w fun e w'=>e=.returned (.int .i64 (x % (n:Int)))∧w'=w:=by
 have h1:-(n:Int)<x.tmod n:=by have:=Int.lt_tmod_of_pos x (show(0:Int)<n by omega);omega
 have h2:x.tmod n<n:=Int.tmod_lt_of_pos x (by omega)
 have HE:=Kh (emod_of_tmod x n (by omega))
 have c0:=h.c0
 have hni:(n:Int)≠0:=by omega
 clear h
 go_enter Tryz.func143,Tryz.ntmps143
 go_wp2
 all_goals (go_ret;refine⟨ret_i ?_,rfl⟩;rw[← HE.out];first |(rw[if_pos (by omega)];done) |(rw[if_neg (by omega)];done))
theorem c_countW (T B n wt:Nat) (L:List Nat) (f:Nat→Nat×Int) (w:World) (h:WorldAt w T B n wt L f) (hwt:wt≤22) (hL:L.length≤14400):
  Calls Tryz.prog 92 #[.pointer (some ⟨T,0,none⟩)] w fun e w'=>e=.returned (.int .i64 (((wt+1)*L.length:Nat):Int))∧∃ m,w'=w.drewN m:=by
 obtain⟨p,c,e2,_⟩:=h.c2
 have c1:=h.c1
 obtain⟨P,hP⟩:∃ P,(wt+1)*L.length=P:=⟨_,rfl⟩
 have hPl:P≤331200:=by rw[← hP];exact Nat.mul_le_mul (by omega:wt+1≤23) hL
 have e1:((wt:Int)+1)*(L.length:Int)=(P:Nat):=by rw[← hP];push_cast;rfl
 rw[hP]
 clear h hP
 go_enter Tryz.func92,Tryz.ntmps92
 go_wp2_with fail
 go_quiet (fail)
 go_wp2
 go_ret
 exact⟨rfl,_,rfl⟩
theorem c_atW (T B n wt:Nat) (L:List Nat) (f:Nat→Nat×Int) (x y:Int) (w:World) (h:WorldAt w T B n wt L f) (hB:B≤w.heap.size) (h0:0<n) (hn:n≤120):
  Calls Tryz.prog 144 #[.pointer (some ⟨T,0,none⟩),.int .i64 x,.int .i64 y] w fun e w'=>e=.returned (.agg #[.int .i64 ((f ((x % n).toNat*n+(y % n).toNat)).1:Int),.int .i64 (f ((x % n).toNat*n+(y % n).toNat)).2])∧Below w.heap.size w w':=by
 obtain⟨NN,hNN⟩:∃ m,n*n=m:=⟨_,rfl⟩
 have hNl:NN≤14400:=by rw[← hNN];exact Nat.mul_le_mul hn hn
 have hu0:=Int.emod_nonneg x (show(n:Int)≠0 by omega)
 have hu1:=Int.emod_lt_of_pos x (show(0:Int)<n by omega)
 have hv0:=Int.emod_nonneg y (show(n:Int)≠0 by omega)
 have hv1:=Int.emod_lt_of_pos y (show(0:Int)<n by omega)
 obtain⟨u,hu⟩:∃ u:Nat,x % (n:Int)=u:=⟨(x % n).toNat,by omega⟩
 obtain⟨v,hv⟩:∃ v:Nat,y % (n:Int)=v:=⟨(y % n).toNat,by omega⟩
 rw[hu,hv,Int.toNat_natCast,Int.toNat_natCast]
 rw[hu]at hu0 hu1
 rw[hv]at hv0 hv1
 obtain⟨UN,hUN⟩:∃ x,u*n=x:=⟨_,rfl⟩
 have e1:(u:Int)*(n:Int)=(UN:Nat):=by rw[← hUN];push_cast;rfl
 have hIN:UN+v<NN:=by
  rw[← hUN,← hNN]
  calc u*n+v<u*n+n:=by omega
   _=(u+1)*n:=by rw[Nat.add_mul,Nat.one_mul]
   _≤n*n:=Nat.mul_le_mul_right _ (by omega)
 rw[hUN]
 obtain⟨IX,hIX⟩:∃ x,UN+v=x:=⟨_,rfl⟩
 rw[hIX]at hIN ⊢
 have e2:(UN:Int)+(v:Int)=(IX:Nat):=by omega
 have HRU:=Kh (fun w' (hb:Below w.heap.size w w')=>c_resW T B n wt L f x w' (h.keep hB hb) h0 hn)
 have HRV:=Kh (fun w' (hb:Below w.heap.size w w')=>c_resW T B n wt L f y w' (h.keep hB hb) h0 hn)
 rw[hu]at HRU
 rw[hv]at HRV
 obtain⟨gP,e3,hgP,h3⟩:=h.c3
 rw[hNN]at e3 h3
 have p0:=h3 (IX*2) (by omega)
 have p1:=h3 (IX*2+1) (by omega)
 have q0:plc f (IX*2)=.int .i64 ((f IX).1:Int):=by unfold plc;rw[if_pos (by omega),show IX*2 / 2=IX by omega]
 have q1:plc f (IX*2+1)=.int .i64 (f IX).2:=by unfold plc;rw[if_neg (by omega),show(IX*2+1) / 2=IX by omega]
 rw[q0]at p0
 rw[q1]at p1
 have t0:=h.c0
 have t3:=e3
 have hTB:T<w.heap.size:=Nat.lt_of_lt_of_le h.lt hB
 have hgB:gP<w.heap.size:=Nat.lt_of_lt_of_le hgP hB
 have i0:(0:Int)≤(IX:Int):=by omega
 have i1:(IX:Int)<(NN:Int):=by omega
 have v1:IntKind.i64.wrap (UN:Int)=(UN:Nat):=IntWalk.i64_in _ (by omega)
 have v2:IntKind.i64.wrap (IX:Int)=(IX:Nat):=IntWalk.i64_in _ (by omega)
 clear hu hv hUN hIX h e3 h3 q0 q1 hNN
 go_enter Tryz.func144,Tryz.ntmps144
 go_upto_region 1 with(fail)
 obtain⟨w0,hw0⟩:∃ w0,w.alloc (.cells #[.int .i64 0,.int .i64 0] 215)=w0:=⟨_,rfl⟩
 have hb0:Below w.heap.size w w0:=hw0▸(Below.refl _ _).alloc (Nat.le_refl _) _
 have X:=hw0▸Blk.new w 215 #[.int .i64 0,.int .i64 0]
 rw[hw0]
 obtain⟨R,hR⟩:∃ R,w.heap.size=R:=⟨_,rfl⟩
 have t0:=cell_next hb0 t0
 have t3:=cell_next hb0 t3
 have p0:=cell_next hb0 p0
 have p1:=cell_next hb0 p1
 have HRU:=Kh (fun w' (hb:Below w0.heap.size w0 w')=>HRU.out w' (hb0.trans (hb.mono hb0.size)))
 have HRV:=Kh (fun w' (hb:Below w0.heap.size w0 w')=>HRV.out w' (hb0.trans (hb.mono hb0.size)))
 have hTR:R≠T:=by omega
 have hgR:R≠gP:=by omega
 have HB0:=Kh hb0
 have HRE:=Kh hR
 rw[hR]at X HB0 ⊢
 have hru:=HRU.out w0.drew (Below.refl _ w0).drew
 have hrv:=HRV.out w0.drew (Below.refl _ w0).drew
 have HXB:=Kh X
 have r0:=X.at_ 0 rfl
 have r1:=X.at_ 1 rfl
 have f0:=X.free_ 0
 have f1:=X.free_ 1
 clear hw0 hb0 hTB hgB hR X
 have hS0:w0.drew.cell? ⟨T,0,none⟩=some (.int .i64 (n:Int))∧w0.drew.cell? ⟨T,3,none⟩=some (.slice (some ⟨gP,0,none⟩) NN NN)∧w0.drew.cell? ⟨gP,IX*2,none⟩=some (.int .i64 ((f IX).1:Int))∧w0.drew.cell? ⟨gP,IX*2+1,none⟩=some (.int .i64 (f IX).2):=⟨t0,t3,p0,p1⟩
 have HSA:=Kh (show ∀ (X:World) (v1 v2:Value),(X.cell? ⟨T,0,none⟩=some (.int .i64 (n:Int))∧X.cell? ⟨T,3,none⟩=some (.slice (some ⟨gP,0,none⟩) NN NN)∧X.cell? ⟨gP,IX*2,none⟩=some (.int .i64 ((f IX).1:Int))∧X.cell? ⟨gP,IX*2+1,none⟩=some (.int .i64 (f IX).2))→(((X.setCell ⟨R,0,none⟩ v1).setCell ⟨R,1,none⟩ v2).cell? ⟨T,0,none⟩=some (.int .i64 (n:Int))∧((X.setCell ⟨R,0,none⟩ v1).setCell ⟨R,1,none⟩ v2).cell? ⟨T,3,none⟩=some (.slice (some ⟨gP,0,none⟩) NN NN)∧((X.setCell ⟨R,0,none⟩ v1).setCell ⟨R,1,none⟩ v2).cell? ⟨gP,IX*2,none⟩=some (.int .i64 ((f IX).1:Int))∧((X.setCell ⟨R,0,none⟩ v1).setCell ⟨R,1,none⟩ v2).cell? ⟨gP,IX*2+1,none⟩=some (.int .i64 (f IX).2))from fun X v1 v2 h=>⟨by rw[World.cell?_setCell_far _ _ _ _ (by exact hTR),World.cell?_setCell_far _ _ _ _ (by exact hTR)];exact h.1,by rw[World.cell?_setCell_far _ _ _ _ (by exact hTR),World.cell?_setCell_far _ _ _ _ (by exact hTR)];exact h.2.1,by rw[World.cell?_setCell_far _ _ _ _ (by exact hgR),World.cell?_setCell_far _ _ _ _ (by exact hgR)];exact h.2.2.1,by rw[World.cell?_setCell_far _ _ _ _ (by exact hgR),World.cell?_setCell_far _ _ _ _ (by exact hgR)];exact h.2.2.2⟩)
 clear t0 t3 p0 p1
 go_region_held3 (fun w1=>w1.cell? ⟨T,0,none⟩=some (.int .i64 (n:Int))∧w1.cell? ⟨T,3,none⟩=some (.slice (some ⟨gP,0,none⟩) NN NN)∧w1.cell? ⟨gP,IX*2,none⟩=some (.int .i64 ((f IX).1:Int))∧w1.cell? ⟨gP,IX*2+1,none⟩=some (.int .i64 (f IX).2))
  (first|with_reducible exact hS0|exact HSA.out _ _ _ hS0)
  (first
   |(go_at_call 143;with_reducible refine hru.mono ?_;rintro e w2 ⟨rfl,rfl⟩)
   |(go_at_call 143;with_reducible refine hrv.mono ?_;rintro e w2 ⟨rfl,rfl⟩))
 all_goals go_wp2
 have hE:=(((HXB.out.set_ 0 (.int .i64 ((f IX).1:Int))).set_ 1 (.int .i64 (f IX).2)).below_ (Below.refl _ _).drew (by have:=HXB.out.lt;simpa using this))
 have e0:=hE.at_ 0 rfl
 have e1:=hE.at_ 1 rfl
 try simp only[Exit.inBlock,Exit.then]
 refine bodyPost_ret (by simp[results,Tryz.results144,go_sem,e0,e1];try rfl) rfl ?_
 exact⟨rfl,HRE.out▸((HB0.out.setCell (p:=⟨R,0,none⟩) (Nat.le_refl _) _).setCell (p:=⟨R,1,none⟩) (Nat.le_refl _) _).drew⟩
def mvK (m ix:Nat) (sg:Int) (h:Nat→Int) (k c:Nat):Int:=if c % m=ix∧c / m<k then sg*h (c / m)else 0
theorem mvK_zero (m ix:Nat) (sg:Int) (h:Nat→Int) (c:Nat):mvK m ix sg h 0 c=0:=by unfold mvK;rw[if_neg (fun h=>Nat.not_lt_zero _ h.2)]
theorem mvK_far {m ix:Nat} {sg:Int} {h:Nat→Int} {k c:Nat} (hne:c≠k*m+ix):mvK m ix sg h k c=mvK m ix sg h (k+1) c:=by
 unfold mvK
 by_cases h1:c % m=ix
 ·by_cases h2:c / m<k
  ·rw[if_pos ⟨h1,h2⟩,if_pos ⟨h1,by omega⟩]
  ·have h3:c / m≠k:=fun e=>hne (by have:=Nat.div_add_mod c m;rw[e,h1,Nat.mul_comm]at this;exact this.symm)
   rw[if_neg (fun h=>h2 h.2),if_neg (fun h=>by have:=h.2;omega)]
 ·rw[if_neg (fun h=>h1 h.1),if_neg (fun h=>h1 h.1)]
theorem mvK_at {m ix:Nat} (sg:Int) (h:Nat→Int) {k:Nat} (hm:ix<m):mvK m ix sg h (k+1) (k*m+ix)=sg*h k:=by
 unfold mvK
 have h1:(k*m+ix) % m=ix:=by rw[Nat.mul_comm,Nat.mul_add_mod,Nat.mod_eq_of_lt hm]
 have h2:(k*m+ix) / m=k:=by rw[Nat.mul_comm,Nat.mul_add_div (by omega),Nat.div_eq_of_lt hm,Nat.add_zero]
 rw[if_pos ⟨h1,by omega⟩,h2]
theorem c_movedM (T B n wt:Nat) (L:List Nat) (f:Nat→Nat×Int) (i j:Nat) (a b c d:Int) (w:World) (h:WorldAt w T B n wt L f) (hB:B≤w.heap.size) (h0:0<n) (hn:n≤120) (hwt:wt≤22) (hj:j<L.length) (hL:L.length≤14400) (hLn:∀ x,x∈L→x<n*n) (hf:TabOk L.length f)
  (ha:-1073741824≤a) (ha':a≤1073741824) (hb:-1073741824≤b) (hb':b≤1073741824) (hc:-1073741824≤c) (hc':c≤1073741824) (hd:-1073741824≤d) (hd':d≤1073741824):
  Calls Tryz.prog 93 #[.pointer (some ⟨T,0,none⟩),.int .i64 i,.int .i64 j,.agg #[.int .i64 a,.int .i64 b,.int .i64 c,.int .i64 d]] w fun e w'=>(∃ g,e=.returned (.slice (some ⟨g,0,none⟩) (((wt+1)*L.length:Nat)) (((wt+1)*L.length:Nat)))∧w.heap.size≤g∧ZRow (mvd n wt L f i j (a,b,c,d)) w' g ((wt+1)*L.length) ((wt+1)*L.length))∧Below w.heap.size w w':=by
 obtain⟨CC,hCC⟩:∃ x,(wt+1)*L.length=x:=⟨_,rfl⟩
 have hCl:CC≤331200:=by rw[← hCC];exact Nat.mul_le_mul (by omega:wt+1≤23) hL
 obtain⟨aj,haj⟩:∃ x,L[j]?=some x:=⟨_,List.getElem?_eq_getElem hj⟩
 have hajn:=hLn aj (List.mem_of_getElem? haj)
 have hgd:L.getD j 0=aj:=by rw[List.getD_eq_getElem?_getD,haj];rfl
 obtain⟨u,hu⟩:∃ x,aj / n=x:=⟨_,rfl⟩
 obtain⟨v,hv⟩:∃ x,aj % n=x:=⟨_,rfl⟩
 have hun:u<n:=by rw[← hu];exact Nat.div_lt_of_lt_mul hajn
 have hvn:v<n:=by rw[← hv];exact Nat.mod_lt _ h0
 have emx:∀ x:Int,∃ r:Nat,x % (n:Int)=r∧r<n:=fun x=>⟨(x % n).toNat,by have:=Int.emod_nonneg x (show(n:Int)≠0 by omega);omega,by have:=Int.emod_nonneg x (show(n:Int)≠0 by omega);have:=Int.emod_lt_of_pos x (show(0:Int)<n by omega);omega⟩
 obtain⟨ra,hra,hran⟩:=emx a
 obtain⟨rb,hrb,hrbn⟩:=emx b
 obtain⟨rc,hrc,hrcn⟩:=emx c
 obtain⟨rd,hrd,hrdn⟩:=emx d
 obtain⟨X,hX⟩:∃ x:Nat,u*ra+v*rc=x:=⟨_,rfl⟩
 obtain⟨Y,hY⟩:∃ x:Nat,u*rb+v*rd=x:=⟨_,rfl⟩
 obtain⟨pp,hpp⟩:∃ pp,f ((((X:Int) % n).toNat)*n+(((Y:Int) % n).toNat))=pp:=⟨_,rfl⟩
 have hok:=hf ((((X:Int) % n).toNat)*n+(((Y:Int) % n).toNat))
 rw[hpp]at hok
 have HMV:=Kh (show mvd n wt L f i j (a,b,c,d)=fun k=>if pp.2=0 then 0 else if k % L.length=pp.1∧k / L.length≤wt then pp.2*mv i a b c d wt (k / L.length)else 0 by
  unfold mvd
  dsimp only
  rw[hgd,hu,hv,hra,hrb,hrc,hrd]
  have e1:((u:Nat):Int)*(ra:Int)+(v:Int)*(rc:Int)=(X:Nat):=by rw[← hX];push_cast;rfl
  have e2:((u:Nat):Int)*(rb:Int)+(v:Int)*(rd:Int)=(Y:Nat):=by rw[← hY];push_cast;rfl
  rw[e1,e2,hpp])
 rw[HMV.out,hCC]
 have HCN:=Kh (fun W (hb:Below w.heap.size w W)=>hCC▸c_countW T B n wt L f W (h.keep hB hb) hwt hL)
 have HRA:=Kh (fun W (hb:Below w.heap.size w W)=>hra▸c_resW T B n wt L f a W (h.keep hB hb) h0 hn)
 have HRB:=Kh (fun W (hb:Below w.heap.size w W)=>hrb▸c_resW T B n wt L f b W (h.keep hB hb) h0 hn)
 have HRC:=Kh (fun W (hb:Below w.heap.size w W)=>hrc▸c_resW T B n wt L f c W (h.keep hB hb) h0 hn)
 have HRD:=Kh (fun W (hb:Below w.heap.size w W)=>hrd▸c_resW T B n wt L f d W (h.keep hB hb) h0 hn)
 have HAT:=Kh (fun W (hb:Below w.heap.size w W)=>hpp▸c_atW T B n wt L f X Y W (h.keep hB hb) (Nat.le_trans hB hb.size) h0 hn)
 have HWA:=Kh (fun W (hb:Below w.heap.size w W)=>h.keep hB hb)
 have hmk:=makeZ CC (by omega)
 have HOK:=Kh hok
 have HAJ:=Kh haj
 have HU:=Kh (And.intro hu hv)
 have HXY:=Kh (And.intro hX hY)
 have HAB:=Kh (And.intro (And.intro ha ha') (And.intro (And.intro hb hb') (And.intro (And.intro hc hc') (And.intro hd hd'))))
 have HCC:=Kh hCC
 clear h hf ha ha' hb hb' hc hc' hd hd' hok haj hgd hu hv emx hra hrb hrc hrd hX hY hpp hajn hCC hLn HMV
 go_enter Tryz.func93,Tryz.ntmps93
 go_wp2_with fail
 obtain⟨w0,hw0,X0,hb0⟩:=bx1 w #[.int .i64 a,.int .i64 b,.int .i64 c,.int .i64 d] 63
 rw[hw0]
 refine(HCN.out w0 hb0).mono ?_
 rintro e w1 ⟨rfl,m1,rfl⟩
 have hb1:Below w.heap.size w (w0.drewN m1):=below_drewN' hb0 m1
 have X1:=X0.below_ (below_drewN' (Below.refl _ w0) m1) X0.lt
 generalize w0.drewN m1=w1 at hb1 X1 ⊢
 have HB1:=Kh hb1
 have HX1:=Kh X1
 clear hw0 X0 hb0 X1 hb1 HCN
 go_wp2_with fail
 have hrm:=ZRow.made (fun _=>0) w1 CC
 obtain⟨wz,hwz⟩:∃ wz,w1.alloc (.cells (madeCells #[.bool false,.slice none 0 0] (CC*2)) 84)=wz:=⟨_,rfl⟩
 have hbz:Below w1.heap.size w1 wz:=hwz▸(Below.refl _ _).alloc (Nat.le_refl _) _
 rw[hwz]at hrm ⊢
 obtain⟨go,hgo⟩:∃ g,w1.heap.size=g:=⟨_,rfl⟩
 have HGOW:=Kh (show w.heap.size<go by have:=HX1.out.lt;omega)
 have HBZ:=Kh (show Below go w1 wz from hgo▸hbz)
 rw[hgo]at hrm ⊢
 have HRM:=Kh hrm
 have HB1G:=Kh (show ∀ W,Below go w1 W→Below w.heap.size w W from fun W hb=>HB1.out.trans (hb.mono (Nat.le_of_lt HGOW.out)))
 have HXG:=Kh (show ∀ W,Below go w1 W→Blk W w.heap.size 63 #[.int .i64 a,.int .i64 b,.int .i64 c,.int .i64 d]from fun W hb=>HX1.out.below_ hb HGOW.out)
 have HGO:=Kh hgo
 clear hrm hwz hbz hgo hmk
 go_loopw [27] (fun ii wr=>∃ k:Nat,k≤CC∧ii=.int .i64 k∧ZRow (fun _=>0) wr go CC k∧Below go w1 wr) (fun ii _=>CC - (intOf ii).toNat)
 case atStart=>exact⟨0,Nat.zero_le _,rfl,HRM.out,HBZ.out⟩
 case round=>
  obtain⟨k,hk,rfl,hrow,hbr⟩:=hrel
  obtain⟨w2,rfl⟩:∃ w2:World,w2=wr:=⟨_,rfl⟩
  have HROW:=Kh hrow
  have HBR:=Kh hbr
  clear hrow hbr HRM HBZ
  by_cases hlt:k<CC
  ·have hki:(k:Int)<(CC:Int):=by omega
   go_wp2_with fail
   refine(c_Of 0 w2 (by omega) (by omega)).mono ?_
   rintro e w3 ⟨⟨s3,p3,n3,c3,rfl,hz3⟩,hb3⟩
   have hr3:=ZRow.keep HROW.out hb3
   have HQA:=Kh (ZRow.set (k':=k+1) hr3 k hlt (fun _=>0) (fun i' h1 h2=>⟨by omega,rfl⟩) hz3)
   have HB3:=Kh (HBR.out.trans (hb3.mono (Nat.le_of_lt HROW.out.sts.1)))
   obtain⟨u0,hu0⟩:=Option.isSome_iff_exists.1 (hr3.has (k*2) (by omega))
   obtain⟨u2,hu2⟩:=Option.isSome_iff_exists.1 (hr3.has (k*2+1) (by omega))
   have f0:=hr3.free (k*2) (by omega)
   have f1:=hr3.free (k*2+1) (by omega)
   clear hz3 hb3 hr3
   go_wp2
   go_roundw
   case rel=>exact⟨k+1,by omega,by go_num,HQA.out,below_put2 HB3.out (Nat.le_refl _)⟩
   case measure=>simp[intOf];omega
  ·obtain rfl:CC=k:=by omega
   have hwa:=HWA.out w2 (HB1G.out w2 HBR.out)
   obtain⟨pl,cl,t2,hptl⟩:=hwa.c2
   rcases hptl with⟨hn0,_⟩ |⟨gL,cap',e,_,hx⟩
   ·rw[hn0]at hj;simp at hj
   cases e
   obtain⟨p0,p1,_⟩:=hx j aj HAJ.out
   rw[HU.out.1]at p0
   rw[HU.out.2]at p1
   have hjl:(j:Int)<(L.length:Int):=by omega
   have X2:=HXG.out w2 HBR.out
   have x0:=X2.at_ 0 rfl
   have x1:=X2.at_ 1 rfl
   have x2:=X2.at_ 2 rfl
   have x3:=X2.at_ 3 rfl
   clear hwa hx X2
   go_wp2_with fail
   go_quiet (fail)
   generalize hw3:w2.drewN nq=w3
   have hb3:Below w2.heap.size w2 w3:=hw3▸below_drewN' (Below.refl _ _) nq
   have HB3:=Kh (HBR.out.trans (hb3.mono (Nat.le_of_lt HROW.out.sts.1)))
   have HROW3:=Kh (ZRow.keep HROW.out hb3)
   have X2:=HXG.out w3 HB3.out
   have x0:=X2.at_ 0 rfl
   have x1:=X2.at_ 1 rfl
   have x2:=X2.at_ 2 rfl
   have x3:=X2.at_ 3 rfl
   have hra:=HRA.out w3 (HB1G.out w3 HB3.out)
   have HRA:=Kh (fun m=>HRA.out (w3.drewN m) (HB1G.out _ (below_drewN' HB3.out m)))
   have HRB:=Kh (fun m=>HRB.out (w3.drewN m) (HB1G.out _ (below_drewN' HB3.out m)))
   have HRC:=Kh (fun m=>HRC.out (w3.drewN m) (HB1G.out _ (below_drewN' HB3.out m)))
   have HRD:=Kh (fun m=>HRD.out (w3.drewN m) (HB1G.out _ (below_drewN' HB3.out m)))
   clear hw3 hb3 X2 p0 p1 t2 HBR HROW hra
   go_wp2_with fail
   go_quiet (first|with_reducible exact Calls.quiet_of_same (HRA.out _)|with_reducible exact Calls.quiet_of_same (HRB.out _)|with_reducible exact Calls.quiet_of_same (HRC.out _)|with_reducible exact Calls.quiet_of_same (HRD.out _))
   generalize hw4:w3.drewN nq=w4
   have hb4:Below w3.heap.size w3 w4:=hw4▸below_drewN' (Below.refl _ _) nq
   have HB4:=Kh (HB3.out.trans (hb4.mono (Nat.le_of_lt HROW3.out.sts.1)))
   have HROW4:=Kh (ZRow.keep HROW3.out hb4)
   have hX1:(u:Int)*(ra:Int)+(v:Int)*(rc:Int)=(X:Nat):=by rw[← HXY.out.1];push_cast;rfl
   have hY1:(u:Int)*(rb:Int)+(v:Int)*(rd:Int)=(Y:Nat):=by rw[← HXY.out.2];push_cast;rfl
   obtain⟨S1,hS1⟩:∃ x:Nat,u*ra=x:=⟨_,rfl⟩
   obtain⟨S2,hS2⟩:∃ x:Nat,v*rc=x:=⟨_,rfl⟩
   obtain⟨S3,hS3⟩:∃ x:Nat,u*rb=x:=⟨_,rfl⟩
   obtain⟨S4,hS4⟩:∃ x:Nat,v*rd=x:=⟨_,rfl⟩
   have k1:(u:Int)*(ra:Int)=(S1:Nat):=by rw[← hS1];push_cast;rfl
   have k2:(v:Int)*(rc:Int)=(S2:Nat):=by rw[← hS2];push_cast;rfl
   have k3:(u:Int)*(rb:Int)=(S3:Nat):=by rw[← hS3];push_cast;rfl
   have k4:(v:Int)*(rd:Int)=(S4:Nat):=by rw[← hS4];push_cast;rfl
   have l1:S1≤14400:=by rw[← hS1];exact Nat.mul_le_mul (by omega:u≤120) (by omega:ra≤120)
   have l2:S2≤14400:=by rw[← hS2];exact Nat.mul_le_mul (by omega:v≤120) (by omega:rc≤120)
   have l3:S3≤14400:=by rw[← hS3];exact Nat.mul_le_mul (by omega:u≤120) (by omega:rb≤120)
   have l4:S4≤14400:=by rw[← hS4];exact Nat.mul_le_mul (by omega:v≤120) (by omega:rd≤120)
   rw[k1,k2]at hX1
   rw[k3,k4]at hY1
   clear hw4 hb4 x0 x1 x2 x3 hS1 hS2 hS3 hS4 HROW3 HB3
   go_wp2_with fail
   refine(HAT.out w4 (HB1G.out w4 HB4.out)).mono ?_
   rintro e w5 ⟨rfl,hb5⟩
   obtain⟨ix,sg⟩:=pp
   have HB5:=Kh (HB4.out.trans (hb5.mono (Nat.le_of_lt HROW4.out.sts.1)))
   have HROW5:=Kh (ZRow.keep HROW4.out hb5)
   clear hb5 k1 k2 k3 k4 l1 l2 l3 l4 hX1 hY1 HROW4 HB4
   dsimp only
   by_cases hs0:sg=0
   ·subst hs0
    have HZ:=Kh (show ZRow (fun k=>if((ix,(0:Int)):Nat×Int).2=0 then 0 else if k % L.length=((ix,(0:Int)):Nat×Int).1∧k / L.length≤wt then((ix,(0:Int)):Nat×Int).2*mv i a b c d wt (k / L.length)else 0) w5 go CC CC from HROW5.out.congr (fun j _=>by rw[if_pos rfl]))
    go_wp2
    go_ret
    exact⟨⟨go,rfl,Nat.le_of_lt HGOW.out,ZRow.keep HROW5.out ((Below.refl _ _).alloc (Nat.le_refl _) _)⟩,(HB1G.out w5 HB5.out).alloc (HB1G.out w5 HB5.out).size _⟩
   ·have hpm:sg=1∨sg=-1:=by
     rcases HOK.out with h |⟨_,h|h|h⟩
     ·injection h with _ h;exact absurd h hs0
     ·exact absurd h hs0
     ·exact .inl h
     ·exact .inr h
    have hix:ix<L.length:=by
     rcases HOK.out with h |⟨h,_⟩
     ·injection h with _ h;exact absurd h hs0
     ·exact h
    have hsb:(sg==0)=false:=by simpa using hs0
    have HPM:=Kh hpm
    clear hpm
    go_wp2_with fail
    obtain⟨w6,hw6⟩:∃ w6,w5.alloc (.cells #[.int .i64 (ix:Int),.int .i64 sg] 215)=w6:=⟨_,rfl⟩
    have hb6:Below w5.heap.size w5 w6:=hw6▸(Below.refl _ _).alloc (Nat.le_refl _) _
    have X6:=hw6▸Blk.new w5 215 #[.int .i64 (ix:Int),.int .i64 sg]
    rw[hw6]
    refine(c_Of sg w6 (by rcases HPM.out with h|h <;> omega) (by rcases HPM.out with h|h <;> omega)).mono ?_
    rintro e w7 ⟨⟨s0,p0,n0,c0,rfl,hz0⟩,hb7⟩
    have X7:=X6.below_ hb7 X6.lt
    have HX7:=Kh X7
    have HGP:=Kh (show go<w5.heap.size from HROW5.out.sts.1)
    have HROW7:=Kh (ZRow.keep HROW5.out (hb6.trans (hb7.mono hb6.size)))
    have HB7:=Kh (HB5.out.trans ((hb6.trans (hb7.mono hb6.size)).mono (Nat.le_of_lt HROW5.out.sts.1)))
    have HZ0:=Kh hz0
    clear hw6 hb6 X6 X7 hz0 hb7 HB5 HROW5
    go_wp2_with fail
    obtain⟨w8,hw8⟩:∃ w8,w7.alloc (.cells #[.bool s0,.slice p0 n0 c0] 84)=w8:=⟨_,rfl⟩
    have hb8:Below w7.heap.size w7 w8:=hw8▸(Below.refl _ _).alloc (Nat.le_refl _) _
    have X8:=hw8▸Blk.new w7 84 #[.bool s0,.slice p0 n0 c0]
    rw[hw8]
    have HX8:=Kh (bk HX7 hb8)
    have HROW8:=Kh (ZRow.keep HROW7.out hb8)
    have HB8:=Kh (HB7.out.trans (hb8.mono (Nat.le_of_lt HROW7.out.sts.1)))
    have HZE:=Kh (show ZE (sg*mv i a b c d 0 0) w8 w7.heap.size (0*2)from⟨s0,p0,n0,c0,X8.at_ 0 rfl,X8.at_ 1 rfl,by
     have h:=HZ0.out.keep hb8
     have e:sg*mv i a b c d 0 0=sg:=by rw[mv];simp
     rw[e];exact h⟩)
    have HG7:=Kh (show go<w7.heap.size from HROW7.out.sts.1)
    have HL8:=Kh X8.lt
    obtain⟨g7,hg7⟩:∃ x,w7.heap.size=x:=⟨_,rfl⟩
    rw[hg7]at HZE HG7 HL8 ⊢
    have HOA:=Kh (fun W=>c_Of a W (by have:=HAB.out;omega) (by have:=HAB.out;omega))
    have HOB:=Kh (fun W=>c_Of b W (by have:=HAB.out;omega) (by have:=HAB.out;omega))
    have HOC:=Kh (fun W=>c_Of c W (by have:=HAB.out;omega) (by have:=HAB.out;omega))
    have HOD:=Kh (fun W=>c_Of d W (by have:=HAB.out;omega) (by have:=HAB.out;omega))
    have HND:=Kh (show nd a.natAbs≤2∧nd b.natAbs≤2∧nd c.natAbs≤2∧nd d.natAbs≤2 from⟨nd64 HAB.out.1.1 HAB.out.1.2,nd64 HAB.out.2.1.1 HAB.out.2.1.2,nd64 HAB.out.2.2.1.1 HAB.out.2.2.1.2,nd64 HAB.out.2.2.2.1 HAB.out.2.2.2.2⟩)
    clear hw8 hb8 X8 HX7 HROW7 HB7 HZ0 hg7
    go_loopw [18,19] (fun vp vk wr=>∃ (k gp cp:Nat),k≤wt∧vk=.int .i64 k∧vp=.slice (some ⟨gp,0,none⟩) (k+1) cp∧go<gp∧gp<wr.heap.size∧(∀ jj,jj<k+1→ZE (sg*mv i a b c d k jj) wr gp (jj*2))∧Below w8.heap.size w8 wr) (fun _ vk _=>wt - (intOf vk).toNat)
    case atStart=>exact⟨0,g7,1,Nat.zero_le _,rfl,rfl,HG7.out,HL8.out,fun jj hjj=>by obtain rfl:jj=0:=(by omega);exact HZE.out,Below.refl _ _⟩
    case round=>
     obtain⟨k,gp,cp,hk,rfl,rfl,hgp,hgl,hze,hb9⟩:=hrel
     obtain⟨w9,rfl⟩:∃ w9:World,w9=wr:=⟨_,rfl⟩
     have HB9:=Kh hb9
     have HGB:=Kh hgp
     have HGB9:=Kh (show go<w9.heap.size by omega)
     have HGL:=Kh hgl
     have HZL:=Kh (show ∀ W,Below w9.heap.size w9 W→ZL (fun jj=>sg*mv i a b c d k jj) W (.slice (some ⟨gp,0,none⟩) (k+1) cp) (k+1)from fun W hb=>.inr ⟨gp,0,cp,rfl,Nat.lt_of_lt_of_le hgl hb.size,fun jj hjj=>by rw[Nat.zero_add];exact(hze jj hjj).keep hb⟩)
     have HZEK:=Kh hze
     have HB19:=Kh (show Below go w1 w9 from HB8.out.trans (hb9.mono (Nat.le_of_lt HROW8.out.sts.1)))
     have X9:=HXG.out w9 HB19.out
     have t1:=(HWA.out w9 (HB1G.out w9 HB19.out)).c1
     have HSZ:=Kh (show ∀ jj,nd (sg*mv i a b c d k jj).natAbs≤1000 from fun jj=>by
      have h1:=mv_size i a b c d HND.out.1 HND.out.2.1 HND.out.2.2.1 HND.out.2.2.2 k jj
      have h2:(sg*mv i a b c d k jj).natAbs=(mv i a b c d k jj).natAbs:=by
       rw[Int.natAbs_mul]
       rcases HPM.out with h|h <;> rw[h] <;> simp
      rw[h2];omega)
     clear hgp hgl hze hb9 HZE HG7 HL8
     by_cases hkw:k<wt
     ·have hkwi:(k:Int)<(wt:Int):=by omega
      have b0:=X9.at_ 0 rfl
      have b1:=X9.at_ 1 rfl
      have b2:=X9.at_ 2 rfl
      have b3:=X9.at_ 3 rfl
      clear X9
      by_cases hki:k<i
      ·have hkii:(k:Int)<(i:Int):=by omega
       have HS1:=Kh (show ∀ W,Below w9.heap.size w9 W→(W.cell? ⟨w.heap.size,0,none⟩=some (.int .i64 a)∧W.cell? ⟨w.heap.size,1,none⟩=some (.int .i64 b))from fun W hb=>⟨cell_next hb b0,cell_next hb b1⟩)
       have hS0:=HS1.out _ (Below.refl _ w9).drew
       have HK1:=Kh (show ∀ wb,Below w9.drew.heap.size w9.drew wb→Below w9.heap.size w9 wb from fun wb hb=>(Below.refl _ w9).drew.trans hb)
       have HK2:=Kh (show ∀ wa wb,Below w9.heap.size w9 wa→Below wa.heap.size wa wb→Below w9.heap.size w9 wb from fun wa wb h1 h2=>h1.trans (h2.mono h1.size))
       have HLE:=Kh (show ∀ jj,sg*mv i a b c d (k+1) jj=lin a b (fun jj=>sg*mv i a b c d k jj) jj from fun jj=>by rw[lin_times,mv,if_pos hki])
       clear b0 b1 b2 b3
       go_upto_region 17 with(fail)
       go_region_held3 (fun W=>W.cell? ⟨w.heap.size,0,none⟩=some (.int .i64 a)∧W.cell? ⟨w.heap.size,1,none⟩=some (.int .i64 b))
        (first|with_reducible exact hS0|with_reducible exact HS1.out _ hbN |(exfalso;assumption))
        (first
         |(go_at_call 83;(with_reducible refine(HOA.out _).mono ?_);rintro e w10 ⟨⟨sA,pA,nA,cA,rfl,hzA⟩,hb10⟩;have hbN:Below w9.heap.size w9 w10:=(by first|exact HK2.out _ _ hbN hb10|exact HK1.out _ hb10))
         |(go_at_call 83;(with_reducible refine(HOB.out _).mono ?_);rintro e w10 ⟨⟨sB,pB,nB,cB,rfl,hzB⟩,hb10⟩;have hbN:Below w9.heap.size w9 w10:=(by first|exact HK2.out _ _ hbN hb10|exact HK1.out _ hb10))
         |(go_at_call 145;refine(c_timesM _ (k+1) (fun jj=>sg*mv i a b c d k jj) sA pA nA cA a sB pB nB cB b _ (HZL.out _ hbN) (by first|exact hzA|exact hzA.keep hb10) (by first|exact hzB|exact hzB.keep hb10) (by omega) (by omega) (by rw[← hzA.2.1];have:=HND.out;omega) (by rw[← hzB.2.1];have:=HND.out;omega) HSZ.out (fun jj h=>by rw[mv_zero _ _ _ _ _ _ _ (by omega),Int.mul_zero])).mono ?_;rintro e w11 ⟨⟨gN,rfl,hgN,hzr⟩,hb11⟩;have hgN2:=Kh (Nat.le_trans hbN.size hgN);have hbN:Below w9.heap.size w9 w11:=Below.trans hbN (hb11.mono hbN.size);have HZR:=Kh hzr;have HBN:=Kh hbN;clear hzr hgN))
       all_goals go_wp2
       all_goals go_roundw
       all_goals first
        | exact⟨k+1,gN,_,by omega,by go_num,rfl,Nat.lt_of_lt_of_le HGB9.out hgN2.out,HZR.out.sts.1,fun jj hjj=>by rw[HLE.out];exact HZR.out.val jj hjj,HB9.out.trans (HBN.out.mono HB9.out.size)⟩
        |(simp[intOf];omega)
      ·have hkii:¬ ((k:Int)<(i:Int)):=by omega
       have HS1:=Kh (show ∀ W,Below w9.heap.size w9 W→(W.cell? ⟨w.heap.size,2,none⟩=some (.int .i64 c)∧W.cell? ⟨w.heap.size,3,none⟩=some (.int .i64 d))from fun W hb=>⟨cell_next hb b2,cell_next hb b3⟩)
       have hS0:=HS1.out _ (Below.refl _ w9).drew
       have HK1:=Kh (show ∀ wb,Below w9.drew.heap.size w9.drew wb→Below w9.heap.size w9 wb from fun wb hb=>(Below.refl _ w9).drew.trans hb)
       have HK2:=Kh (show ∀ wa wb,Below w9.heap.size w9 wa→Below wa.heap.size wa wb→Below w9.heap.size w9 wb from fun wa wb h1 h2=>h1.trans (h2.mono h1.size))
       have HLE:=Kh (show ∀ jj,sg*mv i a b c d (k+1) jj=lin c d (fun jj=>sg*mv i a b c d k jj) jj from fun jj=>by rw[lin_times,mv,if_neg hki])
       clear b0 b1 b2 b3
       go_upto_region 18 with(fail)
       go_region_held3 (fun W=>W.cell? ⟨w.heap.size,2,none⟩=some (.int .i64 c)∧W.cell? ⟨w.heap.size,3,none⟩=some (.int .i64 d))
        (first|with_reducible exact hS0|with_reducible exact HS1.out _ hbN |(exfalso;assumption))
        (first
         |(go_at_call 83;(with_reducible refine(HOC.out _).mono ?_);rintro e w10 ⟨⟨sC,pC,nC,cC,rfl,hzC⟩,hb10⟩;have hbN:Below w9.heap.size w9 w10:=(by first|exact HK2.out _ _ hbN hb10|exact HK1.out _ hb10))
         |(go_at_call 83;(with_reducible refine(HOD.out _).mono ?_);rintro e w10 ⟨⟨sD,pD,nD,cD,rfl,hzD⟩,hb10⟩;have hbN:Below w9.heap.size w9 w10:=(by first|exact HK2.out _ _ hbN hb10|exact HK1.out _ hb10))
         |(go_at_call 145;refine(c_timesM _ (k+1) (fun jj=>sg*mv i a b c d k jj) sC pC nC cC c sD pD nD cD d _ (HZL.out _ hbN) (by first|exact hzC|exact hzC.keep hb10) (by first|exact hzD|exact hzD.keep hb10) (by omega) (by omega) (by rw[← hzC.2.1];have:=HND.out;omega) (by rw[← hzD.2.1];have:=HND.out;omega) HSZ.out (fun jj h=>by rw[mv_zero _ _ _ _ _ _ _ (by omega),Int.mul_zero])).mono ?_;rintro e w11 ⟨⟨gN,rfl,hgN,hzr⟩,hb11⟩;have hgN2:=Kh (Nat.le_trans hbN.size hgN);have hbN:Below w9.heap.size w9 w11:=Below.trans hbN (hb11.mono hbN.size);have HZR:=Kh hzr;have HBN:=Kh hbN;clear hzr hgN))
       all_goals go_wp2
       all_goals go_roundw
       all_goals first
        | exact⟨k+1,gN,_,by omega,by go_num,rfl,Nat.lt_of_lt_of_le HGB9.out hgN2.out,HZR.out.sts.1,fun jj hjj=>by rw[HLE.out];exact HZR.out.val jj hjj,HB9.out.trans (HBN.out.mono HB9.out.size)⟩
        |(simp[intOf];omega)
     ·obtain rfl:wt=k:=by omega
      have HROW9:=Kh (show ZRow (mvK L.length ix sg (mv i a b c d wt) 0) w9 go CC CC from ZRow.congr (ZRow.keep HROW8.out HB9.out) (fun j _=>(mvK_zero _ _ _ _ _).symm))
      have HX9:=Kh (HX8.out.below_ HB9.out HX8.out.lt)
      obtain⟨gq,hgq⟩:∃ x,w5.heap.size=x:=⟨_,rfl⟩
      rw[hgq]at HX9 HGP ⊢
      obtain⟨pl2,cl2,t2,_⟩:=(HWA.out w9 (HB1G.out w9 HB19.out)).c2
      have HT2:=Kh t2
      have HTG:=Kh (show T<go from Nat.lt_of_lt_of_le (HWA.out w (Below.refl _ _)).lt (Nat.le_trans hB (Nat.le_of_lt HGOW.out)))
      have HWE:=Kh (HB1G.out w9 HB19.out)
      clear hgq X9 t2 HZL HSZ HROW8 HX8 HB8 HB9 HOA HOB HOC HOD
      go_wp2_with fail
      go_loopw [120] (fun ii wr=>∃ q:Nat,q≤wt+1∧ii=.int .i64 q∧ZRow (mvK L.length ix sg (mv i a b c d wt) q) wr go CC CC∧w9.grownBy wr (some go)) (fun ii _=>wt+1 - (intOf ii).toNat)
      case atStart=>exact⟨0,Nat.zero_le _,rfl,HROW9.out,but_below go (Below.refl _ _)⟩
      case round=>
       obtain⟨q,hq,rfl,hrow,hgr⟩:=hrel
       obtain⟨we,rfl⟩:∃ we:World,we=wr:=⟨_,rfl⟩
       have HROWE:=Kh hrow
       have HGE:=Kh hgr
       have hTg:T≠go:=Nat.ne_of_lt HTG.out
       have hpg:gp≠go:=Nat.ne_of_gt HGB.out
       have hqg:gq≠go:=Nat.ne_of_gt HGP.out
       clear hrow hgr
       by_cases hlt:q<wt+1
       ·have hqi:(q:Int)<((wt+1:Nat):Int):=by omega
        obtain⟨s,p,n5,c5,a0,a1,hz⟩:=ZE.but HROW9.out.sts HGE.out hpg (HZEK.out q hlt)
        have HZ:=Kh hz
        clear hz
        go_wp2_with fail
        obtain⟨wb,hwb⟩:∃ wb,we.alloc (.cells #[.bool s,.slice p n5 c5] 84)=wb:=⟨_,rfl⟩
        have hbb:Below we.heap.size we wb:=hwb▸(Below.refl _ _).alloc (Nat.le_refl _) _
        have X:=hwb▸Blk.new we 84 #[.bool s,.slice p n5 c5]
        rw[hwb]
        obtain⟨gb,hgb⟩:∃ gb,we.heap.size=gb:=⟨_,rfl⟩
        have hrb:=ZRow.keep HROWE.out hbb
        have hgbg:gb≠go:=by have:=HROWE.out.sts.1;omega
        have hgx:=HGE.out.trans (but_below go hbb)
        rw[hgb]at X ⊢
        obtain⟨QL,hQL⟩:∃ x,q*L.length=x:=⟨_,rfl⟩
        obtain⟨IX,hIX⟩:∃ x,QL+ix=x:=⟨_,rfl⟩
        have hIXC:IX<CC:=by
         rw[← hIX,← hQL,← HCC.out]
         have h1:q*L.length+L.length≤(wt+1)*L.length:=by rw[← Nat.succ_mul];exact Nat.mul_le_mul_right _ hlt
         omega
        have HIX:=Kh (show IX=q*L.length+ix by rw[← hIX,← hQL])
        have e1:(q:Int)*(L.length:Int)=(QL:Nat):=by rw[← hQL];push_cast;rfl
        have e2:(QL:Int)+(ix:Int)=(IX:Nat):=by omega
        have v1:IntKind.i64.wrap (QL:Int)=(QL:Nat):=IntWalk.i64_in _ (by omega)
        have v2:IntKind.i64.wrap (IX:Int)=(IX:Nat):=IntWalk.i64_in _ (by omega)
        have i0:(0:Int)≤(IX:Int):=by omega
        have i1:(IX:Int)<(CC:Int):=by omega
        have t2:=hgx.cell HT2.out (fun e=>by injection e with e;exact hTg e)
        have x0:=hgx.cell (HX9.out.at_ 0 rfl) (fun e=>by injection e with e;exact hqg e)
        have b0:=X.at_ 0 rfl
        have b1:=X.at_ 1 rfl
        obtain⟨u0,hu0⟩:=Option.isSome_iff_exists.1 (hrb.has (IX*2) (by omega))
        obtain⟨u1,hu1⟩:=Option.isSome_iff_exists.1 (hrb.has (IX*2+1) (by omega))
        have f0:=hrb.free (IX*2) (by omega)
        have f1:=hrb.free (IX*2+1) (by omega)
        have hS0:wb.drew.cell? ⟨T,2,none⟩=some (.slice pl2 L.length cl2)∧wb.drew.cell? ⟨gq,0,none⟩=some (.int .i64 (ix:Int))∧wb.drew.cell? ⟨gb,0,none⟩=some (.bool s)∧wb.drew.cell? ⟨gb,1,none⟩=some (.slice p n5 c5):=⟨t2,x0,b0,b1⟩
        have HSA:=Kh (show ∀ (X:World) (v1 v2:Value),(X.cell? ⟨T,2,none⟩=some (.slice pl2 L.length cl2)∧X.cell? ⟨gq,0,none⟩=some (.int .i64 (ix:Int))∧X.cell? ⟨gb,0,none⟩=some (.bool s)∧X.cell? ⟨gb,1,none⟩=some (.slice p n5 c5))→(((X.setCell ⟨go,IX*2,none⟩ v1).setCell ⟨go,IX*2+1,none⟩ v2).cell? ⟨T,2,none⟩=some (.slice pl2 L.length cl2)∧((X.setCell ⟨go,IX*2,none⟩ v1).setCell ⟨go,IX*2+1,none⟩ v2).cell? ⟨gq,0,none⟩=some (.int .i64 (ix:Int))∧((X.setCell ⟨go,IX*2,none⟩ v1).setCell ⟨go,IX*2+1,none⟩ v2).cell? ⟨gb,0,none⟩=some (.bool s)∧((X.setCell ⟨go,IX*2,none⟩ v1).setCell ⟨go,IX*2+1,none⟩ v2).cell? ⟨gb,1,none⟩=some (.slice p n5 c5))from fun X v1 v2 h=>⟨by rw[World.cell?_setCell_far _ _ _ _ (by exact hTg.symm),World.cell?_setCell_far _ _ _ _ (by exact hTg.symm)];exact h.1,by rw[World.cell?_setCell_far _ _ _ _ (by exact hqg.symm),World.cell?_setCell_far _ _ _ _ (by exact hqg.symm)];exact h.2.1,by rw[World.cell?_setCell_far _ _ _ _ (by exact hgbg.symm),World.cell?_setCell_far _ _ _ _ (by exact hgbg.symm)];exact h.2.2.1,by rw[World.cell?_setCell_far _ _ _ _ (by exact hgbg.symm),World.cell?_setCell_far _ _ _ _ (by exact hgbg.symm)];exact h.2.2.2⟩)
        have HRB:=Kh hrb
        have HGB2:=Kh hgx
        have HZB:=Kh (HZ.out.keep hbb)
        clear hQL hIX hrb hgx X hwb hbb b0 b1 t2 x0 hgb a0 a1 HZ
        go_upto_region 22 with(fail)
        go_region_held3 (fun w'=>w'.cell? ⟨T,2,none⟩=some (.slice pl2 L.length cl2)∧w'.cell? ⟨gq,0,none⟩=some (.int .i64 (ix:Int))∧w'.cell? ⟨gb,0,none⟩=some (.bool s)∧w'.cell? ⟨gb,1,none⟩=some (.slice p n5 c5))
         (first|with_reducible exact hS0|exact HSA.out _ _ _ hS0)
         (fail)
        all_goals go_wp2
        all_goals go_roundw
        all_goals first
         | exact⟨q+1,by omega,by go_num,ZRow.set (k':=CC) (ZRow.keep HRB.out (Below.refl _ wb).drew) IX hIXC (mvK L.length ix sg (mv i a b c d wt) (q+1)) (fun c' h1 h2=>⟨h1,mvK_far (by rw[← HIX.out];exact h2)⟩) (by rw[HIX.out,mvK_at sg _ hix];exact HZB.out.keep (Below.refl _ wb).drew),(HGB2.out.trans (but_below go (Below.refl _ wb).drew)).trans (but_put2 _ go _ _ _ _)⟩
         |(simp[intOf];omega)
       ·obtain rfl:wt+1=q:=by omega
        have HFIN:=Kh (show ZRow (fun k=>if k % L.length=ix∧k / L.length≤wt then sg*mv i a b c d wt (k / L.length)else 0) we go CC CC from HROWE.out.congr (fun c' _=>by
         unfold mvK
         by_cases h1:c' % L.length=ix∧c' / L.length≤wt
         ·rw[if_pos h1,if_pos ⟨h1.1,by omega⟩]
         ·rw[if_neg h1,if_neg (fun h=>h1 ⟨h.1,by omega⟩)]))
        have HBE:=Kh (below_but HWE.out HGE.out HWE.out.size (Nat.le_of_lt HGOW.out))
        go_wp2
        go_ret
        exact⟨⟨go,rfl,Nat.le_of_lt HGOW.out,HFIN.out⟩,HBE.out⟩
end Go.Proofs.YtenlbhlllgppmaaGreatDoor
