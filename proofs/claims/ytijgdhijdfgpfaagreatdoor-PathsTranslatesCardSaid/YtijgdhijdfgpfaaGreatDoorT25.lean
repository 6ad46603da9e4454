/- Contracts of halfplanebase: Zeros, CopyInt, CopyRat, CopyRats. -/
import Derived.Test.YtijgdhijdfgpfaaGreatDoorT24
import Derived.Test.YtijgdhijdfgpfaaGreatDoorT14
set_option maxRecDepth 100000
set_option maxHeartbeats 8000000
namespace Go.Proofs.YtijgdhijdfgpfaaGreatDoor
open Go.RowKit
theorem ratInfo:(Tryz.prog.info? 67).map (fun i=>(i.zero,i.size,i.bytes))=some (some (.agg #[.bool false,.slice none 0 0,.bool false,.slice none 0 0]),4,64):=by kernel_rfl
theorem one4 (s t:Bool) (p q:Option Addr) (n c m d:Nat):∀ u∈[Value.bool s,.slice p n c,.bool t,.slice q m d],u.oneCell'=true:=by
 intro u hu
 simp at hu
 rcases hu with rfl|rfl|rfl|rfl <;> rfl
theorem ni4 (s t:Bool) (p q:Option Addr) (n c m d:Nat):∀ u∈[Value.bool s,.slice p n c,.bool t,.slice q m d],NotInt u:=by
 intro u hu
 simp at hu
 rcases hu with rfl|rfl|rfl|rfl <;> first|exact NotInt.bool _|exact NotInt.slice _ _ _
theorem niz:∀ u∈(Value.agg #[.bool false,.slice none 0 0,.bool false,.slice none 0 0]).cells.toList,NotInt u:=by
 intro u hu
 simp[Value.cells]at hu
 rcases hu with rfl|rfl|rfl|rfl <;> first|exact NotInt.bool _|exact NotInt.slice _ _ _
theorem c_Zeros (n:Nat) (w:World) (hn:n≤1000000):
  Calls Tryz.prog 19 #[.int .i64 n] w fun e w'=>(∃ v,e=.returned v∧OwnQ (fun _=>IsQ 0) w' w.heap.size v n)∧Below w.heap.size w w':=by
 have HN:=Kh (OwnQ.nil (fun _=>IsQ 0) w w.heap.size)
 go_enter Tryz.func19,Tryz.ntmps19
 go_wp2
 go_loopw [3,4] (fun v i wr=>∃ k:Nat,k≤n∧i=.int .i64 k∧OwnQ (fun _=>IsQ 0) wr w.heap.size v k∧Below w.heap.size w wr) (fun _ i _=>n - (intOf i).toNat)
 case atStart=>exact⟨0,Nat.zero_le _,rfl,HN.out,Below.refl _ _⟩
 case round=>
  obtain⟨k,hk,rfl,ho,hb⟩:=hrel
  have HO:=Kh ho
  have HB:=Kh hb
  clear ho hb HN
  by_cases hlt:k<n
  ·go_wp2_with fail
   refine(c_Q 0 wr (by omega) (by omega)).mono ?_
   rintro e w2 ⟨⟨s1,p1,n1,c1,t1,q1,m1,d1,rfl,hq⟩,hb2⟩
   obtain⟨xs,hK,hX⟩:=HO.out.keep (fun _=>IsQ.solid _) hb2
   have HK:=Kh hK
   have HX:=Kh hX
   have HQ:=Kh (show IsQ 0 w2 s1 p1 n1 c1 t1 q1 m1 d1 from hq)
   have HB1:=bt HB hb2
   clear hK hX hq hb2 HO HB
   go_wp2_with (at_builtin;refine wpl_app2 NotInt rfl (.tmp 10) (.tmp 12) _ 67 rfl Tryz.underlying22 ratInfo rfl (by decide) w.heap.size k u3 xs [.bool s1,.slice p1 n1 c1,.bool t1,.slice q1 m1 d1] rfl HK.out rfl rfl (one4 _ _ _ _ _ _ _ _) (by omega) (by omega) HB1.out.size (ni4 _ _ _ _ _ _ _ _) niz ?_;intro v' w' hown' hgr hat;have HO2:=Kh (OwnQ.push (W:=_) (fun _=>IsQ.solid _) HK.out HX.out HQ.out hown' hgr);have HB2:=Kh (own_below HB1.out HK.out.1 hgr (Nat.le_refl _) HB1.out.size);clear hown' hgr hat)
   go_roundw
   case rel=>exact⟨k+1,by omega,by go_num,HO2.out,HB2.out⟩
   case measure=>simp[intOf];omega
  ·obtain rfl:k=n:=by omega
   go_wp2
   go_ret
   exact⟨⟨_,rfl,HO.out⟩,HB.out⟩
theorem run_clone {P:Program} (w:World) (ty:TypeId) (hU:P.underlying 63=some (.slice 149)) (hinfo:(P.info? 149).map (fun i=>(i.zero,i.size,i.bytes))=some (some (.int .u32 0),1,4)) (g:Nat)
  (hown:w.ownsRow g 149 1 (.slice (some ⟨g,0,none⟩) 0 0) 0 []) {p:Option Addr} {c n:Nat} {a:Nat→Nat} (hd:Dg w p c n a) (hn:n≤1000) (hg:g≤w.heap.size):
  ∃ p' c' w',(Builtin.append_ #[63,63] ty #[.slice (some ⟨g,0,none⟩) 0 0,.slice p n c]).run P w=.ok (.slice p' n c') w'∧Dg w' p' c' n a∧w.grownBy w' (some g):=by
 obtain⟨i0,hi,hz0,hz1,hz2⟩:=info_parts hinfo
 cases p with
 | none=>
  obtain rfl:n=0:=by
   rcases hd.at' with h1 |⟨g,o,e,_⟩
   ·exact h1
   ·cases e
  have hr:=run_app_nil (P:=P) (w:=w) g 63 ty 149 i0 1 hU hi _ _ c _ hown
  exact⟨_,_,w,hr,⟨Nat.le_refl _,hd.lt,.inl rfl⟩,⟨rfl,rfl,rfl,Nat.le_refl _,fun _ _ _=>rfl⟩⟩
 | some q=>
  have hcell:∀ (j:Nat) (u:Value),(cells32 a n)[j]?=some u→w.cell? (q.add j)=some u:=by
   intro j u hu
   obtain⟨hj,rfl⟩:=cells32_of hu
   obtain⟨g,o',e,hg,hc⟩:=hd.head (by omega)
   injection e with e
   subst e
   rw[Addr.add_lit]
   exact hc j hj
  obtain⟨v',w',hr,g1,g2,_,_⟩:=run_append_own_at (P:=P) w g 63 ty 149 i0 (.int .u32 0) 1 4 hU hi hz0 hz1 hz2 rfl (by decide) _ 0 [] hown q n c (cells32 a n) (by rw[cells32_len,Nat.mul_one]) hcell cells32_one (by unfold maxLen;omega) (by omega) hg
  obtain⟨p',c',rfl,hd'⟩:=Dg.of_own (n:=n) (a:=a) (by simpa using g1) hd.lt
  refine⟨p',c',w',?_,hd',g2⟩
  rw[hr]
theorem step_clone {P:Program} {w:World} {ops:Array Oper} {o:Oper} {b:Act} {K:Act→World→Prop} {Q:Exit→Act→World→Prop} {E:Prop} (hgd:o.guard=none) (s x:Operand)
  (ho:o.op=.call { callee:=.builtin .append,args:=#[s,x],argTypes:=#[63,63] })
  (hU:P.underlying 63=some (.slice 149)) (hinfo:(P.info? 149).map (fun i=>(i.zero,i.size,i.bytes))=some (some (.int .u32 0),1,4)) (g:Nat) (hs:b.eval s=.slice (some ⟨g,0,none⟩) 0 0)
  (hown:w.ownsRow g 149 1 (.slice (some ⟨g,0,none⟩) 0 0) 0 []) {p:Option Addr} {c n:Nat} {a:Nat→Nat} (hx:b.eval x=.slice p n c) (hd:Dg w p c n a) (hn:n≤1000) (hg:g≤w.heap.size)
  (h:∀ p' c' w',Dg w' p' c' n a→w.grownBy w' (some g)→K (b.put o.dst (.slice p' n c')) w'):
  if Region.wanted o (yielded ops b.tmps)=true then Oper.wp P o b w K Q else E:=by
 have hw:Region.wanted o (yielded ops b.tmps)=true:=by simp[Region.wanted,hgd]
 rw[if_pos hw]
 obtain⟨p',c',w',hr,h2,h3⟩:=run_clone (P:=P) w o.type hU hinfo g hown hd hn hg
 unfold Oper.wp execOp
 simp only[ho,resolve,invoke,builtin,Sem.run_bind,Sem.run_pure,Result.andThen_ok,List.map_toArray,List.map_cons,List.map_nil,hs,hx,hr]
 exact h p' c' w' h2 h3
theorem c_CopyInt (s:Bool) (p:Option Addr) (n c:Nat) (z:Int) (w:World) (h:Zr w s p n c z) (hn:n≤1000):
  Calls Tryz.prog 99 #[.agg #[.bool s,.slice p n c]] w fun e w'=>(∃ p' c',e=.returned (.agg #[.bool s,.slice p' n c'])∧Zr w' s p' n c' z)∧Below w.heap.size w w':=by
 obtain⟨a,hd,hz⟩:=h
 have HZ:=Kh hz
 have HD:=Kh hd
 clear hd hz
 go_enter Tryz.func99,Tryz.ntmps99
 go_upto_region 1 with(fail)
 obtain⟨w0,hw0,X0,X1,hb0⟩:=bx2 w #[.bool s,.slice p n c] 65 #[.bool false,.slice none 0 0] 65
 rw[hw0]
 have hs0:w.heap.size≤w0.heap.size:=hb0.size
 clear hw0
 have HB:=Kh hb0
 have HX1:=Kh X1
 have T1:=Sts.of X1 (by intro v hv;simp at hv;rcases hv with rfl|rfl <;> first|exact NotInt.bool _|exact NotInt.slice _ _ _)
 have hS1:w0.cell? ⟨w.heap.size,0,none⟩=some (.bool s)∧w0.cell? ⟨w.heap.size,1,none⟩=some (.slice p n c)∧w0.cell? ⟨w.heap.size+1,0,none⟩=some (cellOf w0 ⟨w.heap.size+1,0,none⟩)∧w0.frozen? ⟨w.heap.size+1,0,none⟩=false∧Sts w0 (w.heap.size+1)∧w0.cell? ⟨w.heap.size+1,1,none⟩=some (cellOf w0 ⟨w.heap.size+1,1,none⟩)∧w0.frozen? ⟨w.heap.size+1,1,none⟩=false∧Sts w0 (w.heap.size+1)∧Below w.heap.size w w0∧w.heap.size≤w0.heap.size:=⟨X0.at_ 0 rfl,X0.at_ 1 rfl,cellOf_some (by rw[X1.at_ 0 rfl];rfl),X1.free_ 0,T1,cellOf_some (by rw[X1.at_ 1 rfl];rfl),X1.free_ 1,T1,hb0,hs0⟩
 have hS0:w0.drew.cell? ⟨w.heap.size,0,none⟩=some (.bool s)∧w0.drew.cell? ⟨w.heap.size,1,none⟩=some (.slice p n c)∧w0.drew.cell? ⟨w.heap.size+1,0,none⟩=some (cellOf w0.drew ⟨w.heap.size+1,0,none⟩)∧w0.drew.frozen? ⟨w.heap.size+1,0,none⟩=false∧Sts w0.drew (w.heap.size+1)∧w0.drew.cell? ⟨w.heap.size+1,1,none⟩=some (cellOf w0.drew ⟨w.heap.size+1,1,none⟩)∧w0.drew.frozen? ⟨w.heap.size+1,1,none⟩=false∧Sts w0.drew (w.heap.size+1)∧Below w.heap.size w w0.drew∧w.heap.size≤w0.drew.heap.size:=S2_2_next (Below.refl _ w0).drew hS1
 have hS2:(w0.alloc (.cells #[] 149)).drew.cell? ⟨w.heap.size,0,none⟩=some (.bool s)∧(w0.alloc (.cells #[] 149)).drew.cell? ⟨w.heap.size,1,none⟩=some (.slice p n c)∧(w0.alloc (.cells #[] 149)).drew.cell? ⟨w.heap.size+1,0,none⟩=some (cellOf (w0.alloc (.cells #[] 149)).drew ⟨w.heap.size+1,0,none⟩)∧(w0.alloc (.cells #[] 149)).drew.frozen? ⟨w.heap.size+1,0,none⟩=false∧Sts (w0.alloc (.cells #[] 149)).drew (w.heap.size+1)∧(w0.alloc (.cells #[] 149)).drew.cell? ⟨w.heap.size+1,1,none⟩=some (cellOf (w0.alloc (.cells #[] 149)).drew ⟨w.heap.size+1,1,none⟩)∧(w0.alloc (.cells #[] 149)).drew.frozen? ⟨w.heap.size+1,1,none⟩=false∧Sts (w0.alloc (.cells #[] 149)).drew (w.heap.size+1)∧Below w.heap.size w (w0.alloc (.cells #[] 149)).drew∧w.heap.size≤(w0.alloc (.cells #[] 149)).drew.heap.size:=S2_2_next ((Below.refl _ w0).alloc (Nat.le_refl _) _).drew hS1
 clear X0 X1
 go_region_held3 (fun w1=>w1.cell? ⟨w.heap.size,0,none⟩=some (.bool s)∧w1.cell? ⟨w.heap.size,1,none⟩=some (.slice p n c)∧w1.cell? ⟨w.heap.size+1,0,none⟩=some (cellOf w1 ⟨w.heap.size+1,0,none⟩)∧w1.frozen? ⟨w.heap.size+1,0,none⟩=false∧Sts w1 (w.heap.size+1)∧w1.cell? ⟨w.heap.size+1,1,none⟩=some (cellOf w1 ⟨w.heap.size+1,1,none⟩)∧w1.frozen? ⟨w.heap.size+1,1,none⟩=false∧Sts w1 (w.heap.size+1)∧Below w.heap.size w w1∧w.heap.size≤w1.heap.size)
  (first|with_reducible exact hS0|with_reducible exact hS2|with_reducible exact S2_2_next hbw hS1 |(refine S2_2_next (by with_reducible assumption) ?_;assumption) |(refine S2_2_put ?_ ?_ ?_ ?_ ?_ ?_ ?_ ?_ ?_ <;> first|assumption|exact NotInt.bool _|exact NotInt.slice _ _ _ |(dsimp only;omega) |(simp;done)))
  (first
   |(refine step_clone (by rfl) _ _ (by rfl) u32U u32Info w0.heap.size (by rfl) (World.ownsRow_made w0.drew #[] 0 (Nat.le_refl _) (Nat.zero_le _) rfl) (by rfl) (HD.out.keep (by go_grown)) hn (by simp) ?_;intro p' c' w' hd' hgr;have hbw:Below w0.heap.size w0 w':=(((Below.refl _ w0).drew.alloc (Nat.le_refl _) (.cells #[] 149)).grown hgr (by simp) (by intro k hk;injection hk with hk;subst hk;exact Nat.le_refl _));have HZ2:=Kh (Zr.i32 (I32.put2 (T1.next hbw) 0 1 (.bool s) (.slice p' n c') (NotInt.bool _)) ⟨a,hd',HZ.out⟩);have r0:w'.cell? ⟨w.heap.size+1,0,none⟩=some (.bool false):=(bk HX1 hbw).at_ 0 rfl;have r1:w'.cell? ⟨w.heap.size+1,1,none⟩=some (.slice none 0 0):=(bk HX1 hbw).at_ 1 rfl;clear hd' hgr))
 go_wp2
 try simp only[Exit.inBlock,Exit.then]
 refine bodyPost_ret (by simp[results,Tryz.results99,go_sem,r0,r1];try rfl) rfl ?_
 exact⟨⟨p',c',rfl,HZ2.out⟩,S2_2_below (by assumption)⟩
theorem c_CopyRat (s:Bool) (p:Option Addr) (n c:Nat) (x:Int) (t:Bool) (q:Option Addr) (m d:Nat) (y:Int) (w:World) (h:IsR x y w s p n c t q m d):
  Calls Tryz.prog 63 #[.agg #[.bool s,.slice p n c,.bool t,.slice q m d]] w fun e w'=>(∃ p' c' q' d',e=.returned (.agg #[.bool s,.slice p' n c',.bool t,.slice q' m d'])∧IsR x y w' s p' n c' t q' m d')∧Below w.heap.size w w':=by
 obtain⟨h1,h2,h3,h4⟩:=h
 have H1:=Kh (fun w1 (hb:Below w.heap.size w w1)=>c_CopyInt s p n c x w1 (h1.keep hb) (by omega))
 have H2:=Kh (fun w1 (hb:Below w.heap.size w w1)=>c_CopyInt t q m d y w1 (h2.keep hb) (by omega))
 clear h1 h2
 go_enter Tryz.func63,Tryz.ntmps63
 go_upto_region 1 with(fail)
 obtain⟨w0,hw0,X0,X1,hb0⟩:=bx2 w #[.bool s,.slice p n c,.bool t,.slice q m d] 67 #[.bool false,.slice none 0 0,.bool false,.slice none 0 0] 67
 rw[hw0]
 have hs0:w.heap.size≤w0.heap.size:=hb0.size
 clear hw0
 have M1:True:=trivial
 have T1:=Sts.of X1 (by intro v hv;simp at hv;rcases hv with rfl|rfl|rfl|rfl <;> first|exact NotInt.bool _|exact NotInt.slice _ _ _)
 have hS0:=S4_4_next (Below.refl _ w0).drew ⟨X0.c0,X0.c1,X0.c2,X0.c3,X1.so 0,X1.free_ 0,T1,X1.so 1,X1.free_ 1,T1,X1.so 2,X1.free_ 2,T1,X1.so 3,X1.free_ 3,T1,hb0,hs0⟩
 clear X0 X1
 go_region_held3 (fun w1=>w1.cell? ⟨w.heap.size,0,none⟩=some (.bool s)∧w1.cell? ⟨w.heap.size,1,none⟩=some (.slice p n c)∧w1.cell? ⟨w.heap.size,2,none⟩=some (.bool t)∧w1.cell? ⟨w.heap.size,3,none⟩=some (.slice q m d)∧w1.cell? ⟨w.heap.size+1,0,none⟩=some (cellOf w1 ⟨w.heap.size+1,0,none⟩)∧w1.frozen? ⟨w.heap.size+1,0,none⟩=false∧Sts w1 (w.heap.size+1)∧w1.cell? ⟨w.heap.size+1,1,none⟩=some (cellOf w1 ⟨w.heap.size+1,1,none⟩)∧w1.frozen? ⟨w.heap.size+1,1,none⟩=false∧Sts w1 (w.heap.size+1)∧w1.cell? ⟨w.heap.size+1,2,none⟩=some (cellOf w1 ⟨w.heap.size+1,2,none⟩)∧w1.frozen? ⟨w.heap.size+1,2,none⟩=false∧Sts w1 (w.heap.size+1)∧w1.cell? ⟨w.heap.size+1,3,none⟩=some (cellOf w1 ⟨w.heap.size+1,3,none⟩)∧w1.frozen? ⟨w.heap.size+1,3,none⟩=false∧Sts w1 (w.heap.size+1)∧Below w.heap.size w w1∧w.heap.size≤w1.heap.size)
  (first|with_reducible exact hS0 |(refine S4_4_next (by with_reducible assumption) ?_;assumption) |(refine S4_4_put ?_ ?_ ?_ ?_ ?_ ?_ ?_ ?_ ?_ ?_ ?_ ?_ ?_ ?_ ?_ ?_ ?_ ?_ ?_ ?_ ?_ ?_ ?_ ?_ ?_ <;> first|assumption|exact NotInt.bool _|exact NotInt.slice _ _ _ |(dsimp only;omega) |(simp;done)))
  (first
   |(go_at_call 99;clear M1;refine(H1.out _ (S4_4_below (by with_reducible assumption))).mono ?_;rintro e w2 ⟨⟨p2,c2,rfl,hz2⟩,hb2⟩;have HA2:=Kh hz2;clear hz2)
   |(go_at_call 99;refine(H2.out _ (S4_4_below (by with_reducible assumption))).mono ?_;rintro e w3 ⟨⟨p3,c3,rfl,hz3⟩,hb3⟩;obtain⟨⟨hR0,hT⟩,⟨hR1,_⟩,⟨hR2,_⟩,⟨hR3,_⟩⟩:=S4_4_end hb3 (by with_reducible assumption);have HA3:=Kh (show IsR x y _ s p2 n c2 t p3 m c3 from IsR.solid x y w3 _ s p2 n c2 t p3 m c3 (I32.put4 hT 0 1 2 3 (.bool s) (.slice p2 n c2) (.bool t) (.slice p3 m c3) (NotInt.bool _) (NotInt.slice _ _ _) (NotInt.bool _)) ⟨HA2.out.keep hb3,hz3,h3,h4⟩);clear hz3 hb2 hT HA2))
 go_wp2
 try simp only[Exit.inBlock,Exit.then]
 refine bodyPost_ret (by simp[results,Tryz.results63,go_sem,hR0,hR1,hR2,hR3];try rfl) rfl ?_
 exact⟨⟨p2,c2,p3,c3,rfl,HA3.out⟩,S4_4_below (by assumption)⟩
theorem c_CopyRats (v:Value) (n:Nat) (x y:Nat→Int) (w:World) (h:QL (fun j=>IsR (x j) (y j)) w v n) (hn:n≤1000000):
  Calls Tryz.prog 33 #[v] w fun e w'=>(∃ v',e=.returned v'∧OwnQ (fun j=>IsR (x j) (y j)) w' w.heap.size v' n)∧Below w.heap.size w w':=by
 have HN:=Kh (OwnQ.nil (fun j=>IsR (x j) (y j)) w w.heap.size)
 rcases Nat.eq_zero_or_pos n with rfl|hpos
 ·have e1:∃ a c,v=.slice a 0 c:=by
   rcases h with⟨_,h⟩ |⟨_,_,_,e,_⟩
   ·exact h
   ·exact⟨_,_,e⟩
  obtain⟨a1,c1,rfl⟩:=e1
  clear h
  go_enter Tryz.func33,Tryz.ntmps33
  go_wp2
  go_loopw [3,4] (fun v i wr=>v=.slice none 0 0∧i=.int .i64 0∧wr=w) (fun _ _ _=>0)
  case atStart=>exact⟨rfl,rfl,rfl⟩
  case round=>
   obtain⟨rfl,rfl,rfl⟩:=hrel
   go_wp2
   go_ret
   exact⟨⟨_,rfl,HN.out⟩,Below.refl _ _⟩
 ·obtain⟨g1,o1,l1,rfl,hg1,r1⟩:=h.resolve_left (fun h=>by omega)
  have R1:=Kh r1
  clear h r1
  go_enter Tryz.func33,Tryz.ntmps33
  go_wp2
  go_loopw [3,4] (fun v i wr=>∃ k:Nat,k≤n∧i=.int .i64 k∧OwnQ (fun j=>IsR (x j) (y j)) wr w.heap.size v k∧Below w.heap.size w wr) (fun _ i _=>n - (intOf i).toNat)
  case atStart=>exact⟨0,Nat.zero_le _,rfl,HN.out,Below.refl _ _⟩
  case round=>
   obtain⟨k,hk,rfl,ho,hb⟩:=hrel
   have HO:=Kh ho
   have HB:=Kh hb
   clear ho HN
   by_cases hlt:k<n
   ·obtain⟨s,p,i1,c,t,q,m,d,a0,a1,a2,a3,hx⟩:=(R1.out k hlt).keep (IsR.solid _ _) hb
    have HC:=Kh (c_CopyRat s p i1 c (x k) t q m d (y k) wr hx)
    clear hx hb
    go_wp2_with fail
    refine HC.out.mono ?_
    rintro e w2 ⟨⟨p1,c1,q1,d1,rfl,hq⟩,hb2⟩
    obtain⟨xs,hK,hX⟩:=HO.out.keep (fun _=>IsR.solid _ _) hb2
    have HK:=Kh hK
    have HX:=Kh hX
    have HQ:=Kh hq
    have HB1:=bt HB hb2
    clear hK hX hq hb2 HO HB a0 a1 a2 a3 HC
    go_wp2_with (at_builtin;refine wpl_app2 NotInt rfl (.tmp 11) (.tmp 17) _ 67 rfl Tryz.underlying22 ratInfo rfl (by decide) w.heap.size k u3 xs [.bool s,.slice p1 i1 c1,.bool t,.slice q1 m d1] rfl HK.out rfl rfl (one4 _ _ _ _ _ _ _ _) (by omega) (by omega) HB1.out.size (ni4 _ _ _ _ _ _ _ _) niz ?_;intro v' w' hown' hgr hat;have HO2:=Kh (OwnQ.push (W:=_) (fun _=>IsR.solid _ _) HK.out HX.out HQ.out hown' hgr);have HB2:=Kh (own_below HB1.out HK.out.1 hgr (Nat.le_refl _) HB1.out.size);clear hown' hgr hat)
    go_roundw
    case rel=>exact⟨k+1,by omega,by go_num,HO2.out,HB2.out⟩
    case measure=>simp[intOf];omega
   ·obtain rfl:k=n:=by omega
    clear hb
    go_wp2
    go_ret
    exact⟨⟨_,rfl,HO.out⟩,HB.out⟩
def ZE (z:Int) (w:World) (g i:Nat):Prop:=∃ s p n c,w.cell? ⟨g,i,none⟩=some (.bool s)∧w.cell? ⟨g,i+1,none⟩=some (.slice p n c)∧Zs w s p n c z
theorem ZE.keep {z:Int} {w w':World} {g i:Nat} (h:ZE z w g i) (hb:Below w.heap.size w w'):ZE z w' g i:=by
 obtain⟨s,p,n,c,h0,h1,h4⟩:=h
 have hk:∀ j v,w.cell? ⟨g,j,none⟩=some v→w'.cell? ⟨g,j,none⟩=some v:=fun j v e=>(hb.cell (p:=⟨g,j,none⟩) (World.block_lt_of_cell? w ⟨g,j,none⟩ e)).trans e
 exact⟨s,p,n,c,hk _ _ h0,hk _ _ h1,h4.i32 (I32.below hb)⟩
def ZL (f:Nat→Int) (w:World) (v:Value) (n:Nat):Prop:=(n=0∧∃ a c,v=.slice a 0 c)∨∃ g o cap,v=.slice (some ⟨g,o,none⟩) n cap∧g<w.heap.size∧∀ j,j<n→ZE (f j) w g (o+j*2)
theorem ZL.keep {f:Nat→Int} {w w':World} {v:Value} {n:Nat} (h:ZL f w v n) (hb:Below w.heap.size w w'):ZL f w' v n:=by
 rcases h with h |⟨g,o,cap,e,hg,hc⟩
 ·exact .inl h
 ·exact .inr ⟨g,o,cap,e,Nat.lt_of_lt_of_le hg hb.size,fun j hj=>(hc j hj).keep hb⟩
structure ZRow (f:Nat→Int) (w:World) (g N k:Nat):Prop where
 sts:Sts w g
 free:∀ i,i<N*2→w.frozen? ⟨g,i,none⟩=false
 has:∀ i,i<N*2→(w.cell? ⟨g,i,none⟩).isSome=true
 val:∀ j,j<k→ZE (f j) w g (j*2)
theorem ZRow.keep {f:Nat→Int} {w w':World} {g N k:Nat} (h:ZRow f w g N k) (hb:Below w.heap.size w w'):ZRow f w' g N k:=
 ⟨h.sts.next hb,fun i hi=>frozen_keep hb (h.has i hi) (h.free i hi),fun i hi=>by rw[hb.cell (p:=⟨g,i,none⟩) h.sts.1];exact h.has i hi,fun j hj=>(h.val j hj).keep hb⟩
theorem ZRow.zl {f:Nat→Int} {w:World} {g N:Nat} (h:ZRow f w g N N) (c:Nat):ZL f w (.slice (some ⟨g,0,none⟩) N c) N:=
 .inr ⟨g,0,c,rfl,h.sts.1,fun j hj=>by rw[Nat.zero_add];exact h.val j hj⟩
theorem ZRow.congr {f f':Nat→Int} {w:World} {g N k:Nat} (h:ZRow f w g N k) (e:∀ j,j<k→f j=f' j):ZRow f' w g N k:=⟨h.sts,h.free,h.has,fun j hj=>by rw[← e j hj];exact h.val j hj⟩
theorem ZRow.set {f:Nat→Int} {w:World} {g N k k':Nat} (h:ZRow f w g N k) (j:Nat) (hj:j<N) (f':Nat→Int) (hk:∀ i,i<k'→i≠j→i<k∧f i=f' i)
  {s:Bool} {p:Option Addr} {n c:Nat} (hq:Zs w s p n c (f' j)):
  ZRow f' ((w.setCell ⟨g,j*2,none⟩ (.bool s)).setCell ⟨g,j*2+1,none⟩ (.slice p n c)) g N k':=by
 have h32:=I32.put2 h.sts (j*2) (j*2+1) (.bool s) (.slice p n c) (NotInt.bool _)
 have s1:=h.sts.put ⟨g,j*2,none⟩ (.bool s) (NotInt.bool _)
 have s2:=s1.put ⟨g,j*2+1,none⟩ (.slice p n c) (NotInt.slice _ _ _)
 refine⟨s2,fun i hi=>frozen_set (frozen_set (h.free i hi)),fun i hi=>some_put (some_put (h.has i hi)),fun i hi=>?_⟩
 by_cases hij:i=j
 ·subst hij
  have c0:=h.has (i*2) (by omega)
  have c1:=some_put (R:=g) (i:=i*2) (u:=.bool s) (h.has (i*2+1) (by omega))
  refine⟨s,p,n,c,?_,?_,hq.i32 h32⟩
  ·rw[World.cell?_setCell_other _ _ _ _ (by simp),World.cell?_setCell_same' _ _ _ c0]
  ·rw[World.cell?_setCell_same' _ _ _ c1]
 ·obtain⟨hik,e⟩:=hk i hi hij
  obtain⟨s',p',n',c',e0,e1,e4⟩:=h.val i hik
  rw[← e]
  have far:∀ (x:Nat) (v:Value),i*2≤x→x<i*2+2→w.cell? ⟨g,x,none⟩=some v→((w.setCell ⟨g,j*2,none⟩ (.bool s)).setCell ⟨g,j*2+1,none⟩ (.slice p n c)).cell? ⟨g,x,none⟩=some v:=by
   intro x v hx1 hx2 hv
   rw[World.cell?_setCell_other _ _ _ _ (by simp <;> omega),World.cell?_setCell_other _ _ _ _ (by simp <;> omega)]
   exact hv
  exact⟨s',p',n',c',far _ _ (by omega) (by omega) e0,far _ _ (by omega) (by omega) e1,e4.i32 h32⟩
def ZX (z:Int) (w:World) (xs:List Value) (i:Nat):Prop:=∃ s p n c,xs[i]?=some (.bool s)∧xs[i+1]?=some (.slice p n c)∧Zs w s p n c z
def OwnZ (f:Nat→Int) (w:World) (B:Nat) (v:Value) (n:Nat):Prop:=∃ xs,OwnK NotInt w B 65 2 v n xs∧∀ j,j<n→ZX (f j) w xs (j*2)
theorem OwnZ.nil (f:Nat→Int) (w:World) (B:Nat):OwnZ f w B (.slice none 0 0) 0:=⟨[],OwnK.nil _ _ _ _ _,fun _ hj=>absurd hj (Nat.not_lt_zero _)⟩
theorem ZX.i32 {z:Int} {w w':World} (h:I32 w w') {xs:List Value} {i:Nat} (hx:ZX z w xs i):ZX z w' xs i:=by
 obtain⟨s,p,n,c,h0,h1,h4⟩:=hx
 exact⟨s,p,n,c,h0,h1,h4.i32 h⟩
theorem OwnZ.keep {f:Nat→Int} {w w':World} {B n:Nat} {v:Value} (h:OwnZ f w B v n) (hb:Below w.heap.size w w'):OwnZ f w' B v n:=by
 obtain⟨xs,h1,h2⟩:=h
 exact⟨xs,h1.keep hb,fun j hj=>(h2 j hj).i32 (I32.below hb)⟩
theorem ZX.app {z:Int} {w:World} {xs ys:List Value} {i:Nat} (h:ZX z w xs i):ZX z w (xs++ys) i:=by
 obtain⟨s,p,n,c,h0,h1,h4⟩:=h
 have hk:∀ (j:Nat) (v:Value),xs[j]?=some v→(xs++ys)[j]?=some v:=by
  intro j v e
  rw[List.getElem?_append_left]
  ·exact e
  ·rcases Nat.lt_or_ge j xs.length with hlt|hge
   ·exact hlt
   ·rw[List.getElem?_eq_none hge]at e;cases e
 exact⟨s,p,n,c,hk _ _ h0,hk _ _ h1,h4⟩
theorem OwnZ.push {f:Nat→Int} {W w':World} {B n:Nat} {v v':Value} {xs:List Value} (h1:OwnK NotInt W B 65 2 v n xs) (h2:∀ j,j<n→ZX (f j) W xs (j*2))
  {s:Bool} {p:Option Addr} {k c:Nat} (hq:Zs W s p k c (f n)) (h3:OwnK NotInt w' B 65 2 v' (n+1) (xs++[.bool s,.slice p k c])) (hg:W.grownBy w' v.ownBlock):OwnZ f w' B v' (n+1):=by
 have h32:=I32.grown (K:=NotInt) (fun x=>not_int32 x) h1.2 hg
 refine⟨_,h3,fun j hj=>?_⟩
 by_cases hjn:j<n
 ·exact((h2 j hjn).i32 h32).app
 ·obtain rfl:j=n:=by omega
  have hl:xs.length=j*2:=h1.1.1
  refine⟨s,p,k,c,?_,?_,hq.i32 h32⟩
  ·rw[List.getElem?_append_right (by omega),hl,show j*2 - j*2=0 by omega];rfl
  ·rw[List.getElem?_append_right (by omega),hl,show j*2+1 - j*2=1 by omega];rfl
theorem OwnZ.row {f:Nat→Int} {w:World} {B n:Nat} {v:Value} (h:OwnZ f w B v n):(n=0∧v=.slice none 0 0)∨∃ g cap,v=.slice (some ⟨g,0,none⟩) n cap∧B≤g∧ZRow f w g n n:=by
 obtain⟨xs,h1,h2⟩:=h
 rcases own_shape h1.1 with⟨rfl,rfl,_⟩ |⟨g,cap,rfl,hB,hg,hc⟩
 ·exact .inl ⟨rfl,rfl⟩
 ·right
  have hl:xs.length=n*2:=h1.1.1
  have hs:=h1.2 g rfl
  refine⟨g,cap,rfl,hB,⟨hs,?_,?_,?_⟩⟩
  ·intro i hi
   rcases own_block h1.1 with h3 |⟨g',cs,h3,_,h4⟩
   ·simp[Value.ownBlock]at h3
   ·simp[Value.ownBlock]at h3
    subst h3
    exact h4.free_ i
  ·intro i hi
   rw[own_read h1.1 (List.getElem?_eq_getElem (by omega:i<xs.length))];rfl
  ·intro j hj
   obtain⟨s,p,n',c,e0,e1,e4⟩:=h2 j hj
   exact⟨s,p,n',c,own_read h1.1 e0,own_read h1.1 e1,e4⟩
theorem OwnZ.zl {f:Nat→Int} {w:World} {B n:Nat} {v:Value} (h:OwnZ f w B v n):ZL f w v n:=by
 rcases h.row with⟨rfl,rfl⟩ |⟨g,cap,rfl,_,hr⟩
 ·exact .inl ⟨rfl,_,_,rfl⟩
 ·exact hr.zl cap
theorem aIntInfo:(Tryz.prog.info? 65).map (fun i=>(i.zero,i.size,i.bytes))=some (some (.agg #[.bool false,.slice none 0 0]),2,32):=by kernel_rfl
theorem one2 (s:Bool) (p:Option Addr) (n c:Nat):∀ u∈[Value.bool s,.slice p n c],u.oneCell'=true:=by
 intro u hu
 simp at hu
 rcases hu with rfl|rfl <;> rfl
theorem ni2 (s:Bool) (p:Option Addr) (n c:Nat):∀ u∈[Value.bool s,.slice p n c],NotInt u:=by
 intro u hu
 simp at hu
 rcases hu with rfl|rfl <;> first|exact NotInt.bool _|exact NotInt.slice _ _ _
theorem niz2:∀ u∈(Value.agg #[.bool false,.slice none 0 0]).cells.toList,NotInt u:=by
 intro u hu
 simp[Value.cells]at hu
 rcases hu with rfl|rfl <;> first|exact NotInt.bool _|exact NotInt.slice _ _ _
theorem c_Zs (g c n:Nat) (f:Nat→Int) (w:World) (hg:g<w.heap.size) (hc:∀ j,j<n→w.cell? ⟨g,j,none⟩=some (.int .i64 (f j))) (hf:∀ j,j<n→-2147483648≤f j∧f j≤2147483648) (hn:n≤1000000):
  Calls Tryz.prog 103 #[.slice (some ⟨g,0,none⟩) n c] w fun e w'=>(∃ v',e=.returned v'∧OwnZ f w' w.heap.size v' n)∧Below w.heap.size w w':=by
 have HN:=Kh (OwnZ.nil f w w.heap.size)
 have R1:=Kh hc
 have HF:=Kh hf
 clear hc hf
 go_enter Tryz.func103,Tryz.ntmps103
 go_wp2
 go_loopw [3,4] (fun v i wr=>∃ k:Nat,k≤n∧i=.int .i64 k∧OwnZ f wr w.heap.size v k∧Below w.heap.size w wr) (fun _ i _=>n - (intOf i).toNat)
 case atStart=>exact⟨0,Nat.zero_le _,rfl,HN.out,Below.refl _ _⟩
 case round=>
  obtain⟨k,hk,rfl,ho,hb⟩:=hrel
  have HO:=Kh ho
  have HB:=Kh hb
  clear ho HN
  by_cases hlt:k<n
  ·have a0:wr.cell? ⟨g,k,none⟩=some (.int .i64 (f k)):=(hb.cell (p:=⟨g,k,none⟩) hg).trans (R1.out k hlt)
   have HC:=Kh (c_Z (f k) wr (HF.out k hlt).1 (HF.out k hlt).2)
   clear hb
   go_wp2_with fail
   refine HC.out.mono ?_
   rintro e w2 ⟨⟨s,p1,i1,c1,rfl,hq⟩,hb2⟩
   obtain⟨xs,hK,hX⟩:=HO.out.keep hb2
   have HK:=Kh hK
   have HX:=Kh hX
   have HQ:=Kh hq
   have HB1:=bt HB hb2
   clear hK hX hq hb2 HO HB a0 HC
   go_wp2_with (at_builtin;refine wpl_app2 NotInt rfl (.tmp 11) (.tmp 17) _ 65 rfl Tryz.underlying86 aIntInfo rfl (by decide) w.heap.size k u3 xs [.bool s,.slice p1 i1 c1] rfl HK.out rfl rfl (one2 _ _ _ _) (by omega) (by omega) HB1.out.size (ni2 _ _ _ _) niz2 ?_;intro v' w' hown' hgr hat;have HO2:=Kh (OwnZ.push (W:=_) HK.out HX.out HQ.out hown' hgr);have HB2:=Kh (own_below HB1.out HK.out.1 hgr (Nat.le_refl _) HB1.out.size);clear hown' hgr hat)
   go_roundw
   case rel=>exact⟨k+1,by omega,by go_num,HO2.out,HB2.out⟩
   case measure=>simp[intOf];omega
  ·obtain rfl:k=n:=by omega
   clear hb
   go_wp2
   go_ret
   exact⟨⟨_,rfl,HO.out⟩,HB.out⟩
end Go.Proofs.YtijgdhijdfgpfaaGreatDoor
namespace Go.Proofs.YtijgdhijdfgpfaaGreatDoor
def lin (a b:Int) (p:Nat→Int):Nat→Int:=fun j=>(if 0<j then a*p (j - 1)else 0)+b*p j
def mv (i:Nat) (a b c d:Int):Nat→Nat→Int
 | 0=>fun j=>if j=0 then 1 else 0
 | k+1=>if k<i then lin a b (mv i a b c d k)else lin c d (mv i a b c d k)
theorem mv_zero (i:Nat) (a b c d:Int) (k j:Nat) (h:k<j):mv i a b c d k j=0:=by
 induction k generalizing j with
 | zero=>show(if j=0 then(1:Int)else 0)=0;rw[if_neg (by omega)]
 | succ k ih=>
  rw[mv]
  split <;>(unfold lin;rw[ih j (by omega),ih (j - 1) (by omega)];simp)
theorem nd_one':nd 1=1:=by
 have h1:=nd_pos.2 (show(1:Nat)≠0 by decide)
 have h2:=(nd_le (v:=1) (k:=1)).2 (by decide)
 omega
theorem lin_size (a b:Int) (p:Nat→Int) (K:Nat) (ha:nd a.natAbs≤2) (hb:nd b.natAbs≤2) (hp:∀ j,nd (p j).natAbs≤K) (j:Nat):nd (lin a b p j).natAbs≤K+3:=by
 unfold lin
 refine Nat.le_trans (nd_add_int _ _ (K:=K+2) ?_ ?_) (by omega)
 ·split
  ·rw[Int.natAbs_mul];have:=nd_mul a.natAbs (p (j - 1)).natAbs;have:=hp (j - 1);omega
  ·rw[show(0:Int).natAbs=0 from rfl,nd_zero];omega
 ·rw[Int.natAbs_mul];have:=nd_mul b.natAbs (p j).natAbs;have:=hp j;omega
theorem mv_size (i:Nat) (a b c d:Int) (ha:nd a.natAbs≤2) (hb:nd b.natAbs≤2) (hc:nd c.natAbs≤2) (hd:nd d.natAbs≤2) (k j:Nat):nd (mv i a b c d k j).natAbs≤1+3*k:=by
 induction k generalizing j with
 | zero=>
  show nd (if j=0 then(1:Int)else 0).natAbs≤1
  split
  ·exact Nat.le_of_eq nd_one'
  ·rw[show(0:Int).natAbs=0 from rfl,nd_zero];omega
 | succ k ih=>
  rw[mv]
  split
  ·exact lin_size a b _ _ ha hb ih j
  ·exact lin_size c d _ _ hc hd ih j
def sumQ (f:Nat→Rat):Nat→Rat
 | 0=>0
 | n+1=>sumQ f n+f n
def subst (q:Nat→Rat) (w:Nat) (a b c d:Int) (n j:Nat):Rat:=sumQ (fun i=>q i*(mv i a b c d w j:Int)) n
theorem hq_int (z:Int):hq (z:Rat)=max (nd z.natAbs) 1:=by
 unfold hq;rw[Rat.num_intCast,Rat.den_intCast,nd_one']
theorem sumQ_size (f:Nat→Rat) (K:Nat) (n:Nat) (h:∀ i,i<n→hq (f i)≤K):hq (sumQ f n)≤1+n*(K+1):=by
 induction n with
 | zero=>show hq (0:Rat)≤_;simp[hq,nd_zero,nd_one']
 | succ n ih=>
  rw[sumQ,Nat.succ_mul]
  have h1:=ih (fun i hi=>h i (by omega))
  have h2:=hq_add (sumQ f n) (f n)
  have h3:=h n (by omega)
  omega
theorem lin_scaled (q:Rat) (a b:Int) (p:Nat→Int) (j:Nat):q*(lin a b p j:Int)=(if 0<j then(a:Rat)*(q*(p (j - 1):Int))else 0)+(b:Rat)*(q*(p j:Int)):=by
 unfold lin
 split <;> simp <;> grind
end Go.Proofs.YtijgdhijdfgpfaaGreatDoor
