/- Contracts of halfplanebase: CopyInt, CopyRat, CopyRats of normalized numbers. -/
import Derived.Test.YthikonjlgljikaaGreatDoorS16
import Derived.Test.YthikonjlgljikaaGreatDoorS17
import Derived.Test.YthikonjlgljikaaGreatDoorS30
import Derived.Test.YthikonjlgljikaaGreatDoorS19
import Derived.Test.YthikonjlgljikaaGreatDoorS24
set_option linter.unusedSimpArgs false
set_option maxRecDepth 100000
set_option maxHeartbeats 8000000
namespace Go.Proofs.YthikonjlgljikaaGreatDoor
open Go.RowKit
def IsS (x y:Int):FP:=fun w s p n c t q m d=>Zs w s p n c x∧Zs w t q m d y∧n≤1000∧m≤1000
theorem IsS.solid (x y:Int):Solid (IsS x y):=fun _ _ _ _ _ _ _ _ _ _ h hq=>⟨hq.1.i32 h,hq.2.1.i32 h,hq.2.2⟩
theorem c_CopyIntS (s:Bool) (p:Option Addr) (n c:Nat) (z:Int) (w:World) (h:Zs w s p n c z) (hn:n≤1000):
  Calls Tryz.prog 89 #[.agg #[.bool s,.slice p n c]] w fun e w'=>(∃ p' c',e=.returned (.agg #[.bool s,.slice p' n c'])∧Zs w' s p' n c' z)∧Below w.heap.size w w':=by
 obtain⟨hz,hz1,hd⟩:=h
 have HZ1:=Kh hz1
 have hd:Dg w p c n (dg z.natAbs):=hz1▸(show Dg w p c (nd z.natAbs) (dg z.natAbs)from hd)
 clear hz1
 have HZ:=Kh hz
 have HD:=Kh hd
 clear hd hz
 go_enter Tryz.func89,Tryz.ntmps89
 go_upto_region 1 with(fail)
 obtain⟨w0,hw0,X0,X1,hb0⟩:=bx2 w #[.bool s,.slice p n c] 33 #[.bool false,.slice none 0 0] 33
 rw[hw0]
 have hs0:w.heap.size≤w0.heap.size:=hb0.size
 clear hw0
 have HB:=Kh hb0
 have HX1:=Kh X1
 have T1:=Sts.of X1 (by intro v hv;simp at hv;rcases hv with rfl|rfl <;> first|exact NotInt.bool _|exact NotInt.slice _ _ _)
 have hS1:w0.cell? ⟨w.heap.size,0,none⟩=some (.bool s)∧w0.cell? ⟨w.heap.size,1,none⟩=some (.slice p n c)∧w0.cell? ⟨w.heap.size+1,0,none⟩=some (cellOf w0 ⟨w.heap.size+1,0,none⟩)∧w0.frozen? ⟨w.heap.size+1,0,none⟩=false∧Sts w0 (w.heap.size+1)∧w0.cell? ⟨w.heap.size+1,1,none⟩=some (cellOf w0 ⟨w.heap.size+1,1,none⟩)∧w0.frozen? ⟨w.heap.size+1,1,none⟩=false∧Sts w0 (w.heap.size+1)∧Below w.heap.size w w0∧w.heap.size≤w0.heap.size:=⟨X0.at_ 0 rfl,X0.at_ 1 rfl,cellOf_some (by rw[X1.at_ 0 rfl];rfl),X1.free_ 0,T1,cellOf_some (by rw[X1.at_ 1 rfl];rfl),X1.free_ 1,T1,hb0,hs0⟩
 have hS0:w0.drew.cell? ⟨w.heap.size,0,none⟩=some (.bool s)∧w0.drew.cell? ⟨w.heap.size,1,none⟩=some (.slice p n c)∧w0.drew.cell? ⟨w.heap.size+1,0,none⟩=some (cellOf w0.drew ⟨w.heap.size+1,0,none⟩)∧w0.drew.frozen? ⟨w.heap.size+1,0,none⟩=false∧Sts w0.drew (w.heap.size+1)∧w0.drew.cell? ⟨w.heap.size+1,1,none⟩=some (cellOf w0.drew ⟨w.heap.size+1,1,none⟩)∧w0.drew.frozen? ⟨w.heap.size+1,1,none⟩=false∧Sts w0.drew (w.heap.size+1)∧Below w.heap.size w w0.drew∧w.heap.size≤w0.drew.heap.size:=S2_2_next (Below.refl _ w0).drew hS1
 have hS2:(w0.alloc (.cells #[] 187)).drew.cell? ⟨w.heap.size,0,none⟩=some (.bool s)∧(w0.alloc (.cells #[] 187)).drew.cell? ⟨w.heap.size,1,none⟩=some (.slice p n c)∧(w0.alloc (.cells #[] 187)).drew.cell? ⟨w.heap.size+1,0,none⟩=some (cellOf (w0.alloc (.cells #[] 187)).drew ⟨w.heap.size+1,0,none⟩)∧(w0.alloc (.cells #[] 187)).drew.frozen? ⟨w.heap.size+1,0,none⟩=false∧Sts (w0.alloc (.cells #[] 187)).drew (w.heap.size+1)∧(w0.alloc (.cells #[] 187)).drew.cell? ⟨w.heap.size+1,1,none⟩=some (cellOf (w0.alloc (.cells #[] 187)).drew ⟨w.heap.size+1,1,none⟩)∧(w0.alloc (.cells #[] 187)).drew.frozen? ⟨w.heap.size+1,1,none⟩=false∧Sts (w0.alloc (.cells #[] 187)).drew (w.heap.size+1)∧Below w.heap.size w (w0.alloc (.cells #[] 187)).drew∧w.heap.size≤(w0.alloc (.cells #[] 187)).drew.heap.size:=S2_2_next ((Below.refl _ w0).alloc (Nat.le_refl _) _).drew hS1
 clear X0 X1
 go_region_held3 (fun w1=>w1.cell? ⟨w.heap.size,0,none⟩=some (.bool s)∧w1.cell? ⟨w.heap.size,1,none⟩=some (.slice p n c)∧w1.cell? ⟨w.heap.size+1,0,none⟩=some (cellOf w1 ⟨w.heap.size+1,0,none⟩)∧w1.frozen? ⟨w.heap.size+1,0,none⟩=false∧Sts w1 (w.heap.size+1)∧w1.cell? ⟨w.heap.size+1,1,none⟩=some (cellOf w1 ⟨w.heap.size+1,1,none⟩)∧w1.frozen? ⟨w.heap.size+1,1,none⟩=false∧Sts w1 (w.heap.size+1)∧Below w.heap.size w w1∧w.heap.size≤w1.heap.size)
  (first|with_reducible exact hS0|with_reducible exact hS2|with_reducible exact S2_2_next hbw hS1 |(refine S2_2_next (by with_reducible assumption) ?_;assumption) |(refine S2_2_put ?_ ?_ ?_ ?_ ?_ ?_ ?_ ?_ ?_ <;> first|assumption|exact NotInt.bool _|exact NotInt.slice _ _ _ |(dsimp only;omega) |(simp;done)))
  (first
   |(refine step_clone (by rfl) _ _ (by rfl) u32U u32Info w0.heap.size (by rfl) (World.ownsRow_made w0.drew #[] 0 (Nat.le_refl _) (Nat.zero_le _) rfl) (by rfl) (HD.out.keep (by go_grown)) hn (by simp) ?_;intro p' c' w' hd' hgr;have hbw:Below w0.heap.size w0 w':=(((Below.refl _ w0).drew.alloc (Nat.le_refl _) (.cells #[] 187)).grown hgr (by simp) (by intro k hk;injection hk with hk;subst hk;exact Nat.le_refl _));have HZ2:=Kh (show Zs _ s p' n c' z from Zs.i32 (I32.put2 (T1.next hbw) 0 1 (.bool s) (.slice p' n c') (NotInt.bool _)) ⟨HZ.out,HZ1.out,(show Dg _ p' c' (nd z.natAbs) (dg z.natAbs)from HZ1.out.symm▸hd')⟩);have r0:w'.cell? ⟨w.heap.size+1,0,none⟩=some (.bool false):=(bk HX1 hbw).at_ 0 rfl;have r1:w'.cell? ⟨w.heap.size+1,1,none⟩=some (.slice none 0 0):=(bk HX1 hbw).at_ 1 rfl;clear hd' hgr))
 go_wp2
 try simp only[Exit.inBlock,Exit.then]
 refine bodyPost_ret (by simp[results,Tryz.results89,go_sem,r0,r1];try rfl) rfl ?_
 exact⟨⟨p',c',rfl,HZ2.out⟩,S2_2_below (by assumption)⟩
theorem c_CopyRatS (s:Bool) (p:Option Addr) (n c:Nat) (x:Int) (t:Bool) (q:Option Addr) (m d:Nat) (y:Int) (w:World) (h:IsS x y w s p n c t q m d):
  Calls Tryz.prog 47 #[.agg #[.bool s,.slice p n c,.bool t,.slice q m d]] w fun e w'=>(∃ p' c' q' d',e=.returned (.agg #[.bool s,.slice p' n c',.bool t,.slice q' m d'])∧IsS x y w' s p' n c' t q' m d')∧Below w.heap.size w w':=by
 obtain⟨h1,h2,h3,h4⟩:=h
 have H1:=Kh (fun w1 (hb:Below w.heap.size w w1)=>c_CopyIntS s p n c x w1 (h1.keep hb) (by omega))
 have H2:=Kh (fun w1 (hb:Below w.heap.size w w1)=>c_CopyIntS t q m d y w1 (h2.keep hb) (by omega))
 clear h1 h2
 go_enter Tryz.func47,Tryz.ntmps47
 go_upto_region 1 with(fail)
 obtain⟨w0,hw0,X0,X1,hb0⟩:=bx2 w #[.bool s,.slice p n c,.bool t,.slice q m d] 35 #[.bool false,.slice none 0 0,.bool false,.slice none 0 0] 35
 rw[hw0]
 have hs0:w.heap.size≤w0.heap.size:=hb0.size
 clear hw0
 have M1:True:=trivial
 have T1:=Sts.of X1 (by intro v hv;simp at hv;rcases hv with rfl|rfl|rfl|rfl <;> first|exact NotInt.bool _|exact NotInt.slice _ _ _)
 have hS0:=S4_4_next (Below.refl _ w0).drew ⟨X0.c0,X0.c1,X0.c2,X0.c3,X1.so 0,X1.free_ 0,T1,X1.so 1,X1.free_ 1,T1,X1.so 2,X1.free_ 2,T1,X1.so 3,X1.free_ 3,T1,hb0,hs0⟩
 clear X0 X1
 go_region_held3 (fun w1=>w1.cell? ⟨w.heap.size,0,none⟩=some (.bool s)∧w1.cell? ⟨w.heap.size,1,none⟩=some (.slice p n c)∧w1.cell? ⟨w.heap.size,2,none⟩=some (.bool t)∧w1.cell? ⟨w.heap.size,3,none⟩=some (.slice q m d)∧w1.cell? ⟨w.heap.size+1,0,none⟩=some (cellOf w1 ⟨w.heap.size+1,0,none⟩)∧w1.frozen? ⟨w.heap.size+1,0,none⟩=false∧Sts w1 (w.heap.size+1)∧w1.cell? ⟨w.heap.size+1,1,none⟩=some (cellOf w1 ⟨w.heap.size+1,1,none⟩)∧w1.frozen? ⟨w.heap.size+1,1,none⟩=false∧Sts w1 (w.heap.size+1)∧w1.cell? ⟨w.heap.size+1,2,none⟩=some (cellOf w1 ⟨w.heap.size+1,2,none⟩)∧w1.frozen? ⟨w.heap.size+1,2,none⟩=false∧Sts w1 (w.heap.size+1)∧w1.cell? ⟨w.heap.size+1,3,none⟩=some (cellOf w1 ⟨w.heap.size+1,3,none⟩)∧w1.frozen? ⟨w.heap.size+1,3,none⟩=false∧Sts w1 (w.heap.size+1)∧Below w.heap.size w w1∧w.heap.size≤w1.heap.size)
  (first|with_reducible exact hS0 |(refine S4_4_next (by with_reducible assumption) ?_;assumption) |(refine S4_4_put ?_ ?_ ?_ ?_ ?_ ?_ ?_ ?_ ?_ ?_ ?_ ?_ ?_ ?_ ?_ ?_ ?_ ?_ ?_ ?_ ?_ ?_ ?_ ?_ ?_ <;> first|assumption|exact NotInt.bool _|exact NotInt.slice _ _ _ |(dsimp only;omega) |(simp;done)))
  (first
   |(go_at_call 89;clear M1;refine(H1.out _ (S4_4_below (by with_reducible assumption))).mono ?_;rintro e w2 ⟨⟨p2,c2,rfl,hz2⟩,hb2⟩;have HA2:=Kh hz2;clear hz2)
   |(go_at_call 89;refine(H2.out _ (S4_4_below (by with_reducible assumption))).mono ?_;rintro e w3 ⟨⟨p3,c3,rfl,hz3⟩,hb3⟩;obtain⟨⟨hR0,hT⟩,⟨hR1,_⟩,⟨hR2,_⟩,⟨hR3,_⟩⟩:=S4_4_end hb3 (by with_reducible assumption);have HA3:=Kh (show IsS x y _ s p2 n c2 t p3 m c3 from IsS.solid x y w3 _ s p2 n c2 t p3 m c3 (I32.put4 hT 0 1 2 3 (.bool s) (.slice p2 n c2) (.bool t) (.slice p3 m c3) (NotInt.bool _) (NotInt.slice _ _ _) (NotInt.bool _)) ⟨HA2.out.keep hb3,hz3,h3,h4⟩);clear hz3 hb2 hT HA2))
 go_wp2
 try simp only[Exit.inBlock,Exit.then]
 refine bodyPost_ret (by simp[results,Tryz.results47,go_sem,hR0,hR1,hR2,hR3];try rfl) rfl ?_
 exact⟨⟨p2,c2,p3,c3,rfl,HA3.out⟩,S4_4_below (by assumption)⟩
theorem c_CopyRatsS (v:Value) (n:Nat) (x y:Nat→Int) (w:World) (h:QL (fun j=>IsS (x j) (y j)) w v n) (hn:n≤1000000):
  Calls Tryz.prog 13 #[v] w fun e w'=>(∃ v',e=.returned v'∧OwnQ (fun j=>IsS (x j) (y j)) w' w.heap.size v' n)∧Below w.heap.size w w':=by
 have HN:=Kh (OwnQ.nil (fun j=>IsS (x j) (y j)) w w.heap.size)
 rcases Nat.eq_zero_or_pos n with rfl|hpos
 ·have e1:∃ a c,v=.slice a 0 c:=by
   rcases h with⟨_,h⟩ |⟨_,_,_,e,_⟩
   ·exact h
   ·exact⟨_,_,e⟩
  obtain⟨a1,c1,rfl⟩:=e1
  clear h
  go_enter Tryz.func13,Tryz.ntmps13
  go_wp2
  go_loopw [3,4] (fun v i wr=>v=.slice none 0 0∧i=.int .i64 0∧wr=w) (fun _ _ _=>0)
  case atStart=>exact⟨rfl,rfl,rfl⟩
  case round=>
   obtain⟨rfl,rfl,rfl⟩:=hrel
   go_wp2
   go_ret
   exact⟨⟨_,rfl,HN.out⟩,Below.refl _ _⟩
 ·obtain⟨g1,o1,l1,rfl,hg1,r1⟩:=h.resolve_left (fun h=>by omega)
  have R1:=Kh r1
  clear h r1
  go_enter Tryz.func13,Tryz.ntmps13
  go_wp2
  go_loopw [3,4] (fun v i wr=>∃ k:Nat,k≤n∧i=.int .i64 k∧OwnQ (fun j=>IsS (x j) (y j)) wr w.heap.size v k∧Below w.heap.size w wr) (fun _ i _=>n - (intOf i).toNat)
  case atStart=>exact⟨0,Nat.zero_le _,rfl,HN.out,Below.refl _ _⟩
  case round=>
   obtain⟨k,hk,rfl,ho,hb⟩:=hrel
   have HO:=Kh ho
   have HB:=Kh hb
   clear ho HN
   by_cases hlt:k<n
   ·obtain⟨s,p,i1,c,t,q,m,d,a0,a1,a2,a3,hx⟩:=(R1.out k hlt).keep (IsS.solid _ _) hb
    have HC:=Kh (c_CopyRatS s p i1 c (x k) t q m d (y k) wr hx)
    clear hx hb
    go_wp2_with fail
    refine HC.out.mono ?_
    rintro e w2 ⟨⟨p1,c1,q1,d1,rfl,hq⟩,hb2⟩
    obtain⟨xs,hK,hX⟩:=HO.out.keep (fun _=>IsS.solid _ _) hb2
    have HK:=Kh hK
    have HX:=Kh hX
    have HQ:=Kh hq
    have HB1:=bt HB hb2
    clear hK hX hq hb2 HO HB a0 a1 a2 a3 HC
    go_wp2_with (at_builtin;refine wpl_app2 NotInt rfl (.tmp 11) (.tmp 17) _ 35 rfl Tryz.underlying24 ratInfo rfl (by decide) w.heap.size k u3 xs [.bool s,.slice p1 i1 c1,.bool t,.slice q1 m d1] rfl HK.out rfl rfl (one4 _ _ _ _ _ _ _ _) (by omega) (by omega) HB1.out.size (ni4 _ _ _ _ _ _ _ _) niz ?_;intro v' w' hown' hgr hat;have HO2:=Kh (OwnQ.push (W:=_) (fun _=>IsS.solid _ _) HK.out HX.out HQ.out hown' hgr);have HB2:=Kh (own_below HB1.out HK.out.1 hgr (Nat.le_refl _) HB1.out.size);clear hown' hgr hat)
    go_roundw
    case rel=>exact⟨k+1,by omega,by go_num,HO2.out,HB2.out⟩
    case measure=>simp[intOf];omega
   ·obtain rfl:k=n:=by omega
    clear hb
    go_wp2
    go_ret
    exact⟨⟨_,rfl,HO.out⟩,HB.out⟩
end Go.Proofs.YthikonjlgljikaaGreatDoor
namespace Go.Proofs.YthikonjlgljikaaGreatDoor
open Go.RowKit Eli
abbrev D3_3 (B:Nat) (w0 w:World) (a0 a1 a2 b0 b1 b2:Addr) (v0 v1 v2:Value):Prop:=w.cell? a0=some v0∧w.cell? a1=some v1∧w.cell? a2=some v2∧w.cell? b0=some (cellOf w b0)∧w.frozen? b0=false∧w.cell? b1=some (cellOf w b1)∧w.frozen? b1=false∧w.cell? b2=some (cellOf w b2)∧w.frozen? b2=false∧Below B w0 w∧B≤w.heap.size
theorem T3_3_next {B:Nat} {w0 w w':World} {a0 a1 a2 b0 b1 b2:Addr} {v0 v1 v2:Value} (hb:Below w.heap.size w w') (h:D3_3 B w0 w a0 a1 a2 b0 b1 b2 v0 v1 v2):D3_3 B w0 w' a0 a1 a2 b0 b1 b2 v0 v1 v2:=TT.next (B:=B) (w0:=w0) (l:=[(a0,v0),(a1,v1),(a2,v2)]) (m:=[b0,b1,b2]) hb h
theorem T3_3_below {B:Nat} {w0 w:World} {a0 a1 a2 b0 b1 b2:Addr} {v0 v1 v2:Value} (h:D3_3 B w0 w a0 a1 a2 b0 b1 b2 v0 v1 v2):Below B w0 w:=TT.below (B:=B) (w0:=w0) (l:=[(a0,v0),(a1,v1),(a2,v2)]) (m:=[b0,b1,b2]) h
theorem T3_3_put {B:Nat} {w0 w:World} {a0 a1 a2 b0 b1 b2:Addr} {v0 v1 v2:Value} (h:D3_3 B w0 w a0 a1 a2 b0 b1 b2 v0 v1 v2) {p0 p1 p2:Addr} {u0 u1 u2:Value} (hp0:B≤p0.block) (hn0_0:p0.block≠a0.block) (hn0_1:p0.block≠a1.block) (hn0_2:p0.block≠a2.block) (hp1:B≤p1.block) (hn1_0:p1.block≠a0.block) (hn1_1:p1.block≠a1.block) (hn1_2:p1.block≠a2.block) (hp2:B≤p2.block) (hn2_0:p2.block≠a0.block) (hn2_1:p2.block≠a1.block) (hn2_2:p2.block≠a2.block):D3_3 B w0 (((w.setCell p0 u0).setCell p1 u1).setCell p2 u2) a0 a1 a2 b0 b1 b2 v0 v1 v2:=(TT.put (B:=B) (w0:=w0) (l:=[(a0,v0),(a1,v1),(a2,v2)]) (m:=[b0,b1,b2]) (TT.put (B:=B) (w0:=w0) (l:=[(a0,v0),(a1,v1),(a2,v2)]) (m:=[b0,b1,b2]) (TT.put (B:=B) (w0:=w0) (l:=[(a0,v0),(a1,v1),(a2,v2)]) (m:=[b0,b1,b2]) h p0 u0 hp0 (by simp[*])) p1 u1 hp1 (by simp[*])) p2 u2 hp2 (by simp[*]))
theorem OwnQ.base {F:Nat→FP} {w:World} {B B' n:Nat} {v:Value} (h:OwnQ F w B v n) (hB:B'≤B):OwnQ F w B' v n:=by
 obtain⟨xs,h1,h2⟩:=h
 refine⟨xs,⟨⟨h1.1.1,?_⟩,h1.2⟩,h2⟩
 rcases h1.1.2 with h |⟨g',cap,cs,e,hB',hr⟩
 ·exact .inl h
 ·exact .inr ⟨g',cap,cs,e,Nat.le_trans hB hB',hr⟩
theorem OwnQ.imp {F G:Nat→FP} {w:World} {B n:Nat} {v:Value} (h:OwnQ F w B v n) (hi:∀ j,j<n→∀ s p k c t q m d,F j w s p k c t q m d→G j w s p k c t q m d):OwnQ G w B v n:=by
 obtain⟨xs,h1,h2⟩:=h
 refine⟨xs,h1,fun j hj=>?_⟩
 obtain⟨s,p,k,c,t,q,m,d,e0,e1,e2,e3,hf⟩:=h2 j hj
 exact⟨s,p,k,c,t,q,m,d,e0,e1,e2,e3,hi j hj _ _ _ _ _ _ _ _ hf⟩
theorem IsS.rat {z:Int} {w:World} {s:Bool} {p:Option Addr} {n c:Nat} {t:Bool} {q:Option Addr} {m d:Nat} (h:IsS z 1 w s p n c t q m d):IsQ (z:Rat) w s p n c t q m d:=by
 refine⟨?_,?_⟩
 ·rw[Rat.num_intCast];exact h.1
 ·rw[Rat.den_intCast];exact h.2.1
theorem ql_value {F:Nat→FP} {w:World} {v:Value} {n:Nat} (h:QL F w v n):∃ p c,v=.slice p n c:=by
 rcases h with⟨rfl,a,c,e⟩ |⟨g,o,cap,e,_⟩
 ·exact⟨a,c,e⟩
 ·exact⟨_,cap,e⟩
theorem c_CopyMatrixS (R C:Int) (v:Value) (n:Nat) (x y:Nat→Int) (w:World) (h:QL (fun j=>IsS (x j) (y j)) w v n) (hn:n≤1000000):
  Calls Tryz.prog 75 #[.agg #[.int .i64 R,.int .i64 C,v]] w fun e w'=>(∃ v',e=.returned (.agg #[.int .i64 R,.int .i64 C,v'])∧OwnQ (fun j=>IsS (x j) (y j)) w' w.heap.size v' n)∧Below w.heap.size w w':=by
 obtain⟨p,c,rfl⟩:=ql_value h
 have HCR:=Kh (fun W (hb:Below w.heap.size w W)=>c_CopyRatsS (.slice p n c) n x y W (h.keep (fun _=>IsS.solid _ _) hb) hn)
 clear h
 go_enter Tryz.func75,Tryz.ntmps75
 go_upto_region 1 with(fail)
 obtain⟨w0,hw0,X0,X1,hb0⟩:=bx2 w #[.int .i64 R,.int .i64 C,.slice p n c] 51 #[.int .i64 0,.int .i64 0,.slice none 0 0] 51
 rw[hw0]
 have hs0:w.heap.size≤w0.heap.size:=hb0.size
 have HX1:=Kh X1
 have HLT:=Kh X1.lt
 have HST0:=Kh (Stk.of (K:=NotU32) X1 (by intro v hv;simp at hv;rcases hv with rfl|rfl|rfl <;> exact fun _ h=>by cases h))
 clear hw0
 have hS0:=T3_3_next (Below.refl _ w0).drew ⟨X0.c0,X0.c1,X0.c2,X1.so 0,X1.free_ 0,X1.so 1,X1.free_ 1,X1.so 2,X1.free_ 2,hb0,Below.size (show Below w.heap.size w w0 from hb0)⟩
 clear X0 X1
 have M1:True:=trivial
 go_region_held3 (fun w1=>w1.cell? ⟨w.heap.size,0,none⟩=some (.int .i64 R)∧w1.cell? ⟨w.heap.size,1,none⟩=some (.int .i64 C)∧w1.cell? ⟨w.heap.size,2,none⟩=some (.slice p n c)∧w1.cell? ⟨w.heap.size+1,0,none⟩=some (cellOf w1 ⟨w.heap.size+1,0,none⟩)∧w1.frozen? ⟨w.heap.size+1,0,none⟩=false∧w1.cell? ⟨w.heap.size+1,1,none⟩=some (cellOf w1 ⟨w.heap.size+1,1,none⟩)∧w1.frozen? ⟨w.heap.size+1,1,none⟩=false∧w1.cell? ⟨w.heap.size+1,2,none⟩=some (cellOf w1 ⟨w.heap.size+1,2,none⟩)∧w1.frozen? ⟨w.heap.size+1,2,none⟩=false∧Below w.heap.size w w1∧w.heap.size≤w1.heap.size)
  (first|with_reducible exact hS0|with_reducible assumption |(refine T3_3_next (by with_reducible assumption) ?_;assumption) |(refine T3_3_put ?_ ?_ ?_ ?_ ?_ ?_ ?_ ?_ ?_ ?_ ?_ ?_ ?_ <;> first|assumption |(dsimp only;omega) |(simp;done)))
  (first
   |(go_at_call 13;(refine(HCR.out _ (T3_3_below (by with_reducible assumption))).mono ?_);rintro e w7 ⟨⟨v7,rfl,ho7⟩,hb7⟩;obtain⟨p7,c7,rfl⟩:=ql_value ho7.ql;have hbe:Below w0.heap.size w0 w7:=(by first|exact(Below.refl _ w0).drew.trans hb7|exact hb7);have HO7:=Kh (OwnQ.base ho7 (show w0.heap.size≤_ from by first|exact Nat.le_refl _ |(simp only[World.drew];omega)));have r0:w7.cell? ⟨w.heap.size+1,0,none⟩=some (.int .i64 0):=(bk HX1 hbe).at_ 0 rfl;have r1:w7.cell? ⟨w.heap.size+1,1,none⟩=some (.int .i64 0):=(bk HX1 hbe).at_ 1 rfl;have r2:w7.cell? ⟨w.heap.size+1,2,none⟩=some (.slice none 0 0):=(bk HX1 hbe).at_ 2 rfl;have HST:=Kh (HST0.out.next hbe);clear ho7 hbe))
 all_goals go_wp2
 all_goals (try simp only[Exit.inBlock,Exit.then])
 all_goals refine bodyPost_ret (by simp[results,Tryz.results75,go_sem,r0,r1,r2];try rfl) rfl ?_
 all_goals refine⟨⟨_,rfl,?_⟩,T3_3_below (by assumption)⟩
 all_goals exact((HO7.out.box (fun _=>IsS.solid _ _) (put3_32 HST.out (v0:=.int .i64 R) (v1:=.int .i64 C) (v2:=.slice p7 n c7) (fun _ h=>by cases h) (fun _ h=>by cases h)) (((but_put _ (w.heap.size+1) 0 (.int .i64 R)).trans (but_put _ (w.heap.size+1) 1 (.int .i64 C))).trans (but_put _ (w.heap.size+1) 2 (.slice p7 n c7))) (by have:=HLT.out;omega)).base hs0)
theorem c_Rational (R C:Nat) (g o cap n:Nat) (f:Nat→Int) (w:World) (h:∀ j,j<n→ZE (f j) w g (o+j*2)) (hg:g<w.heap.size) (hf:∀ j,j<n→nd (f j).natAbs≤1000) (hn:n≤100000):
  Calls Tryz.prog 34 #[.agg #[.int .i64 R,.int .i64 C,.slice (some ⟨g,o,none⟩) n cap]] w fun e w'=>(∃ v,e=.returned (.agg #[.int .i64 R,.int .i64 C,v])∧OwnQ (fun j=>IsQ (f j:Rat)) w' w.heap.size v n)∧Below w.heap.size w w':=by
 have HE:=Kh h
 have HF:=Kh hf
 clear h hf
 go_enter Tryz.func34,Tryz.ntmps34
 go_wp2_with fail
 obtain⟨wx,hwx,X0,X1,X2,hb0⟩:=bx3 w #[.int .i64 R,.int .i64 C,.slice (some ⟨g,o,none⟩) n cap] 76 #[.int .i64 0,.int .i64 0,.slice none 0 0] 51 #[.int .i64 R,.int .i64 C,.slice none 0 0] 51
 rw[hwx]
 obtain⟨bm,hbm⟩:∃ x,w.heap.size=x:=⟨_,rfl⟩
 obtain⟨gr,hgr⟩:∃ x,w.heap.size+1=x:=⟨_,rfl⟩
 obtain⟨ob,hob⟩:∃ x,w.heap.size+1+1=x:=⟨_,rfl⟩
 rw[hob]at X2 ⊢
 rw[hgr]at X1 ⊢
 rw[hbm]at X0 hb0 hg ⊢
 have HORD:=Kh (show bm<gr∧gr<ob by omega)
 have HBE:=Kh hbm
 have HBX:=Kh hb0
 have HX0:=Kh X0
 have HX1:=Kh X1
 obtain⟨BB,hBB⟩:∃ x,wx.heap.size=x:=⟨_,rfl⟩
 have HBB:=Kh hBB
 have HGS:=Kh (show ∀ j,Solid (IsS (f j) 1)from fun j=>IsS.solid _ _)
 have HM0:=Kh (show MatAt (fun j=>IsS (f j) 1) wx ob BB R C 0 from
  ⟨by rw[← hBB];exact X2.lt,Nat.le_of_eq hBB.symm,X2.at_ 0 rfl,X2.at_ 1 rfl,⟨none,0,X2.at_ 2 rfl,OwnQ.nil _ _ _⟩,X2.free_ 2,Stk.of X2 (by intro v hv;simp at hv;rcases hv with rfl|rfl|rfl <;> exact fun _ h=>by cases h)⟩)
 clear hwx hb0 X0 X1 X2 hbm hgr hob hBB
 go_loopw [4] (fun ii wr=>∃ k:Nat,k≤n∧ii=.int .i64 k∧MatAt (fun j=>IsS (f j) 1) wr ob BB R C k∧wx.grownBy wr (some ob)) (fun ii _=>n - (intOf ii).toNat)
 case atStart=>exact⟨0,Nat.zero_le _,rfl,HM0.out,but_below ob (Below.refl _ _)⟩
 case round=>
  obtain⟨k,hk,rfl,hmat,hgw⟩:=hrel
  obtain⟨we,rfl⟩:∃ we:World,we=wr:=⟨_,rfl⟩
  have HMT:=Kh hmat
  have HGW:=Kh hgw
  clear hmat hgw HM0
  have HBW:=Kh (show Below bm w we from below_but HBX.out HGW.out (by have:=HBB.out;have:=HMT.out.lt;have:=HORD.out;omega) (by have:=HORD.out;omega))
  have hne:bm≠ob:=by have:=HORD.out;omega
  have x2:=HGW.out.cell (HX0.out.at_ 2 rfl) (fun e=>by injection e with e;exact hne e)
  by_cases hlt:k<n
  ·have hki:(k:Int)<(n:Int):=by omega
   have hbw:=HBW.out
   rw[← HBE.out]at hbw
   obtain⟨s1,p1,n1,c1,a0,a1,hz⟩:=(HE.out k hlt).keep hbw
   have HZ:=Kh (show Zs we s1 p1 n1 c1 (f k)from hz)
   have HN1:=Kh (show n1≤1000 by have:=HF.out k hlt;rw[hz.2.1]at this;exact this)
   have HZ1:=Kh (fun W=>c_Z 1 W (by omega) (by omega))
   obtain⟨p,c,g2,xs,hK,hXX⟩:=HMT.out.c2
   have HKK:=Kh (show ∀ W,Below we.heap.size we W→OwnK NotInt W BB 35 4 (.slice p k c) k xs from fun W hb=>hK.keep hb)
   have HXK:=Kh (show ∀ W,Below we.heap.size we W→∀ j,j<k→QX (IsS (f j) 1) W xs (j*4)from fun W hb j hj=>(hXX j hj).i32 (HGS.out j) (I32.below hb))
   have HCL:=Kh (show ∀ W,Below we.heap.size we W→W.cell? ⟨ob,2,none⟩=some (.slice p k c)from fun W hb=>cell_next hb g2)
   have hobl:ob<we.heap.size:=Nat.lt_of_lt_of_le HMT.out.lt HMT.out.hB
   have hgob:g≠ob:=by have:=HORD.out;omega
   have HGO:=Kh (And.intro hgob hne)
   clear hbw hK hXX hz
   go_upto_region 5 with(fail)
   refine rgB (fun W=>W.cell? ⟨bm,2,none⟩=some (.slice (some ⟨g,o,none⟩) n cap)∧W.cell? ⟨g,o+k*2,none⟩=some (.bool s1)∧W.cell? ⟨g,o+k*2+1,none⟩=some (.slice p1 n1 c1)∧W.cell? ⟨ob,2,none⟩=some (.slice p k c)∧W.frozen? ⟨ob,2,none⟩=false) (fun W hb=>⟨cnx hb x2,cnx hb a0,cnx hb a1,cnx hb g2,frozen_keep hb (by rw[g2];rfl) (HMT.out.fr)⟩) (fun HSE hHeld0=>?_)
   clear x2 a0 a1
   refine tkE 0 ?_;refine tkE 1 ?_;refine tkE 2 ?_;refine tkE 3 ?_;refine tkE 4 ?_;refine tkE 5 ?_;refine tkE 6 ?_
   refine stE 7 rfl (fun K hK=>?_)
   focus(go_simp;(with_reducible refine(HZ1.out _).mono ?_);rintro e w5 ⟨⟨s5,p5,n5,c5,rfl,hz5⟩,hb5⟩;have HB5:=Kh ((Below.refl _ we).drew.trans hb5:Below we.heap.size we w5);have HQ5:=Kh (show IsS (f k) 1 w5 s1 p1 n1 c1 s5 p5 n5 c5 from⟨HZ.out.keep HB5.out,hz5,HN1.out,by have:=hz5.2.1;have h2:nd (1:Int).natAbs≤1:=(by decide +kernel);omega⟩);clear hz5 hb5;(first|with_reducible refine hK.out _ _ ?_ (fun hHeld1=>?_) |(go_wp2_with fail;with_reducible refine hK.out _ _ ?_ (fun hHeld1=>?_))))
   focus((try dsimp only);exact HSE.out _ HB5.out)
   focus(clear hK K;(try simp only[Act.put,lsa,lsz,lss]))
   refine tkE 8 ?_
   refine stE 9 rfl (fun K hK=>?_)
   focus(go_simp;refine hK.out _ _ ?_ (fun hHeld2=>?_))
   focus((try dsimp only);exact HSE.out _ (HB5.out.alloc HB5.out.size _))
   focus(clear hK K;(try simp only[Act.put,lsa,lsz,lss]))
   refine stE 10 rfl (fun K hK=>?_)
   focus(refine step_app2 (W:=w5) NotInt rfl (.tmp 18) (.tmp 26) _ 35 rfl Tryz.underlying24 ratInfo rfl (by decide) BB k (.slice p k c) xs [.bool s1,.slice p1 n1 c1,.bool s5,.slice p5 n5 c5] (by rfl) (HKK.out _ HB5.out) (by rfl) rfl (one4 _ _ _ _ _ _ _ _) (by omega) (by omega) (Nat.le_trans HMT.out.hB HB5.out.size) (ni4 _ _ _ _ _ _ _ _) niz ?_;intro v9 w9 hown9 hgr9 hat9;obtain⟨p9,c9,rfl⟩:=own_slice hown9.1;have HO9:=Kh (OwnQ.push (F:=fun j=>IsS (f j) 1) (W:=w5) HGS.out (HKK.out _ HB5.out) (HXK.out _ HB5.out) HQ5.out hown9 hgr9);obtain⟨d2,df,hm9⟩:=MatAt.more HGS.out (HMT.out.keep HGS.out HB5.out) (HCL.out _ HB5.out) (HKK.out _ HB5.out).1 HO9.out hgr9;have HM9:=Kh hm9;have HB9:=Kh (show Below BB we w9 from own_below (HB5.out.mono HMT.out.hB) (HKK.out _ HB5.out).1 hgr9 (Nat.le_refl _) (Nat.le_trans HMT.out.hB HB5.out.size));have HSP:=Kh (And.intro d2 df);have HG9:=Kh ((grown_own (HGW.out.trans (but_below ob HB5.out)) hgr9 HBB.out.symm (fun b hb=>own_ge (HKK.out _ HB5.out).1 hb.symm)).trans (but_put w9 ob 2 (.slice p9 (k+1) c9)));clear hown9 hgr9 hat9 hm9;(first|with_reducible refine hK.out _ _ ?_ (fun hHeld3=>?_) |(go_wp2_with fail;with_reducible refine hK.out _ _ ?_ (fun hHeld3=>?_))))
   focus((try dsimp only);exact⟨(HB9.out.cell (p:=⟨bm,2,none⟩) (by have:=HMT.out.lt;have:=HORD.out;show bm<BB;omega)).trans (HSE.out _ (Below.refl _ we)).1,(HB9.out.cell (p:=⟨g,o+k*2,none⟩) (by have:=HMT.out.lt;have:=HORD.out;show g<BB;omega)).trans (HSE.out _ (Below.refl _ we)).2.1,(HB9.out.cell (p:=⟨g,o+k*2+1,none⟩) (by have:=HMT.out.lt;have:=HORD.out;show g<BB;omega)).trans (HSE.out _ (Below.refl _ we)).2.2.1,HSP.out⟩)
   focus(clear hK K;(try simp only[Act.put,lsa,lsz,lss]))
   refine tkE 11 ?_
   refine laE 12 rfl (fun K hK=>?_)
   go_simp
   refine hK.out _ _ ?_
   clear hK K
   (try simp only[Act.put,lsa,lsz,lss])
   all_goals go_wp2
   all_goals go_roundw
   all_goals first
    | exact⟨k+1,by omega,by go_num,HM9.out,HG9.out⟩
    |(simp[intOf];omega)
  ·obtain rfl:n=k:=by omega
   obtain⟨p,c,g2,hOQ⟩:=HMT.out.c2
   have a0:=HMT.out.c0
   have a1:=HMT.out.c1
   have HCM:=Kh (c_CopyMatrixS R C (.slice p n c) n f (fun _=>1) we hOQ.ql (by omega))
   have hgo:gr≠ob:=by have:=HORD.out;omega
   have x0:=HGW.out.cell (HX1.out.at_ 0 rfl) (fun e=>by injection e with e;exact hgo e)
   have x1:=HGW.out.cell (HX1.out.at_ 1 rfl) (fun e=>by injection e with e;exact hgo e)
   have x3:=HGW.out.cell (HX1.out.at_ 2 rfl) (fun e=>by injection e with e;exact hgo e)
   have hblk:=HGW.out.block gr (by rw[HBB.out];have:=HORD.out;have:=HMT.out.lt;omega) (fun e=>by injection e with e;exact hgo e)
   have HF0:=Kh ((World.frozen?_of_block (a:=⟨gr,0,none⟩) hblk).trans (HX1.out.free_ 0))
   have HF1:=Kh ((World.frozen?_of_block (a:=⟨gr,1,none⟩) hblk).trans (HX1.out.free_ 1))
   have HF2:=Kh ((World.frozen?_of_block (a:=⟨gr,2,none⟩) hblk).trans (HX1.out.free_ 2))
   have hstB:Stk NotU32 wx gr:=Stk.of HX1.out (by intro v hv;simp at hv;rcases hv with rfl|rfl|rfl <;> exact fun _ h=>by cases h)
   have HST:=Kh (show Stk NotU32 we gr from⟨Nat.lt_of_lt_of_le hstB.1 HGW.out.size,fun i u hu=>hstB.2 i u ((World.cell?_of_block (a:=⟨gr,i,none⟩) hblk).symm.trans hu)⟩)
   have HR:=Kh (And.intro x0 (And.intro x1 x3))
   have hgrl:gr<we.heap.size:=HST.out.1
   clear x0 x1 x3 hblk hstB hOQ
   go_wp2_with fail
   refine HCM.out.mono ?_
   rintro e w7 ⟨⟨v7,rfl,ho7⟩,hb7⟩
   obtain⟨p7,c7,rfl⟩:=ql_value ho7.ql
   have r0:=cell_next hb7 HR.out.1
   have r1:=cell_next hb7 HR.out.2.1
   have r2:=cell_next hb7 HR.out.2.2
   have f0:=frozen_keep hb7 (by rw[HR.out.1];rfl) HF0.out
   have f1:=frozen_keep hb7 (by rw[HR.out.2.1];rfl) HF1.out
   have f2:=frozen_keep hb7 (by rw[HR.out.2.2];rfl) HF2.out
   have HE3:=Kh (put3_at (w:=w7) (R:=gr) (v0:=.int .i64 (R:Int)) (v1:=.int .i64 (C:Int)) (v2:=.slice p7 n c7) (by rw[r0];rfl) (by rw[r1];rfl) (by rw[r2];rfl))
   have HI3:=Kh (put3_32 (HST.out.next hb7) (v0:=.int .i64 (R:Int)) (v1:=.int .i64 (C:Int)) (v2:=.slice p7 n c7) (fun _ h=>by cases h) (fun _ h=>by cases h))
   have HG3:=Kh (((but_put w7 gr 0 (.int .i64 (R:Int))).trans (but_put _ gr 1 (.int .i64 (C:Int)))).trans (but_put _ gr 2 (.slice p7 n c7)))
   have HO7:=Kh ho7
   have HB7:=Kh (show Below bm w w7 from HBW.out.trans (hb7.mono (by have:=HBW.out.size;have:=HBE.out;omega)))
   clear ho7 hb7
   go_wp2
   have e0:=HE3.out.1
   have e1:=HE3.out.2.1
   have e2:=HE3.out.2.2
   try simp only[Exit.inBlock,Exit.then]
   refine bodyPost_ret (by simp[results,Tryz.results34,go_sem,e0,e1,e2];try rfl) rfl ?_
   refine⟨⟨_,rfl,?_⟩,?_⟩
   ·exact((HO7.out.box (fun _=>IsS.solid _ _) HI3.out HG3.out hgrl).base (by have:=HBW.out.size;have:=HBE.out;omega)).imp (fun j _ s p k c t q m d h=>IsS.rat h)
   ·have h9:=below_but HB7.out HG3.out (by have:=HB7.out.size;have:=HBE.out;omega) (show bm≤gr by have:=HORD.out;omega)
    rw[← HBE.out]at h9
    exact h9
end Go.Proofs.YthikonjlgljikaaGreatDoor
namespace Go.Proofs.YthikonjlgljikaaGreatDoor
namespace Eli
open Sie
def RSp (rows:Nat→Nat→Int) (k:Nat) (u:Nat→Rat):Prop:=∃ z:Nat→Rat,∀ q,u q=sumQ (fun i=>z i*(rows i q:Rat)) k
theorem RSp.nil (rows:Nat→Nat→Int) (k:Nat):RSp rows k (fun _=>0):=⟨fun _=>0,fun q=>(sumQ_zero (fun i _=>by grind)).symm⟩
theorem RSp.combine {rows:Nat→Nat→Int} {k:Nat} {u v:Nat→Rat} (hu:RSp rows k u) (c:Rat) (hv:RSp rows k v):RSp rows k (fun q=>u q+c*v q):=by
 obtain⟨y,ey⟩:=hu
 obtain⟨z,ez⟩:=hv
 refine⟨fun j=>y j+c*z j,fun q=>?_⟩
 dsimp only
 rw[ey,ez,← sumQ_mul,← sumQ_add]
 exact sumQ_congr fun i _=>by grind
theorem RSp.congr {rows:Nat→Nat→Int} {k:Nat} {u v:Nat→Rat} (hu:RSp rows k u) (h:∀ q,v q=u q):RSp rows k v:=by
 obtain⟨y,ey⟩:=hu
 exact⟨y,fun q=>by rw[h,ey]⟩
theorem RSp.mono {rows:Nat→Nat→Int} {k k':Nat} {u:Nat→Rat} (hu:RSp rows k u) (h:k≤k'):RSp rows k' u:=by
 obtain⟨y,ey⟩:=hu
 refine⟨fun j=>if j<k then y j else 0,fun q=>?_⟩
 rw[ey,sumQ_tail h (fun i h1 _=>by simp only[if_neg (Nat.not_lt.2 h1)];grind)]
 exact sumQ_congr fun i hi=>by simp only[if_pos hi]
theorem RSp.row {rows:Nat→Nat→Int} {k i:Nat} (hi:i<k):RSp rows k (fun q=>(rows i q:Rat)):=by
 refine⟨fun j=>if j=i then 1 else 0,fun q=>?_⟩
 rw[sumQ_single hi (fun j _ hne=>by simp only[if_neg hne];grind)]
 simp
theorem RSp.sum {rows:Nat→Nat→Int} {k:Nat} {L:Nat→Nat→Rat} {z:Nat→Rat}:∀ t,(∀ j,j<t→z j=0∨RSp rows k (L j))→RSp rows k (fun q=>sumQ (fun j=>z j*L j q) t)
 | 0,_=>(RSp.nil rows k).congr (fun _=>rfl)
 | t+1,h=>by
  have h1:=RSp.sum t (fun j hj=>h j (by omega)) (rows:=rows) (k:=k) (L:=L) (z:=z)
  rcases h t (Nat.lt_succ_self _)with h2|h2
  ·exact h1.congr (fun q=>by rw[sumQ,h2];grind)
  ·exact(h1.combine (z t) h2).congr (fun q=>by rw[sumQ])
theorem RSp.of_sp {rows:Nat→Nat→Int} {k t:Nat} {ld:Nat→Bool} {L:Nat→Nat→Rat} {u:Nat→Rat} (hu:Sp ld L t u) (h:∀ j,j<t→ld j=true→RSp rows k (L j)):RSp rows k u:=by
 obtain⟨z,hz,ez⟩:=hu
 refine(RSp.sum (L:=L) (z:=z) t (fun j hj=>?_)).congr ez
 cases hl:ld j with
 | false=>exact .inl (hz j hj hl)
 | true=>exact .inr (h j hj hl)
theorem Sp.sum {ld:Nat→Bool} {L:Nat→Nat→Rat} {t:Nat} {R:Nat→Nat→Rat} {z:Nat→Rat}:∀ k,(∀ j,j<k→z j=0∨Sp ld L t (R j))→Sp ld L t (fun q=>sumQ (fun j=>z j*R j q) k)
 | 0,_=>(Sp.nil ld L t).congr (fun _=>rfl)
 | k+1,h=>by
  have h1:=Sp.sum k (fun j hj=>h j (by omega)) (ld:=ld) (L:=L) (t:=t) (R:=R) (z:=z)
  rcases h k (Nat.lt_succ_self _)with h2|h2
  ·exact h1.congr (fun q=>by rw[sumQ,h2];grind)
  ·exact(h1.combine (z k) h2).congr (fun q=>by rw[sumQ])
theorem RSp.sp {rows:Nat→Nat→Int} {k t:Nat} {ld:Nat→Bool} {L:Nat→Nat→Rat} {u:Nat→Rat} (hu:RSp rows k u) (h:∀ i,i<k→Sp ld L t (fun q=>(rows i q:Rat))):Sp ld L t u:=by
 obtain⟨z,ez⟩:=hu
 exact(Sp.sum (R:=fun i q=>(rows i q:Rat)) (z:=z) k (fun j hj=>.inr (h j hj))).congr ez
theorem Sp.trim {ld:Nat→Bool} {L:Nat→Nat→Rat} {t n:Nat} {u:Nat→Rat} (hu:Sp ld L t u) (h:∀ j,n≤j→ld j=false):Sp ld L n u:=by
 by_cases ht:t≤n
 ·exact hu.mono ht
 ·obtain⟨z,hz,ez⟩:=hu
  refine⟨z,fun j hj hl=>hz j (by omega) hl,fun q=>?_⟩
  rw[ez]
  exact sumQ_tail (by omega) (fun i h1 h2=>by rw[hz i h2 (h i h1)];grind)
theorem Good.high {n B:Nat} {leads:Nat→List (Nat×Rat)} (h:Good n B leads) (j:Nat) (hj:n≤j):ldOf leads j=false:=ldOf_false ((h.ord j).top hj)
theorem put_facts {leads:Nat→List (Nat×Rat)} {x:Nat×Rat} {r:List (Nat×Rat)} (hno:leads x.1=[]):
  ldOf (Eli.put leads (x :: r)) x.1=true∧(∀ q,rowOf (Eli.put leads (x :: r)) x.1 q=1 / x.2*val (x :: r) q) ∧
  (∀ j,j≠x.1→ldOf (Eli.put leads (x :: r)) j=ldOf leads j∧rowOf (Eli.put leads (x :: r)) j=rowOf leads j) ∧
  ∀ t u,Sp (ldOf leads) (rowOf leads) t u→Sp (ldOf (Eli.put leads (x :: r))) (rowOf (Eli.put leads (x :: r))) t u:=by
 obtain⟨L',hL'⟩:∃ L',Eli.put leads (x :: r)=L':=⟨_,rfl⟩
 have e1:L' x.1=scl (x :: r):=by rw[← hL'];exact if_pos rfl
 have e2:∀ j,j≠x.1→L' j=leads j:=fun j hj=>by rw[← hL'];exact if_neg hj
 have e3:scl (x :: r)≠[]:=by rw[scl,List.map_cons];exact List.cons_ne_nil _ _
 have hld:ldOf L' x.1=true:=ldOf_true (by rw[e1];exact e3)
 have hld2:∀ j,j≠x.1→ldOf L' j=ldOf leads j:=fun j hj=>by rw[ldOf,e2 j hj];rfl
 have hro:∀ j,j≠x.1→rowOf L' j=rowOf leads j:=fun j hj=>by funext q;rw[rowOf,rowOf,hld2 j hj,e2 j hj]
 have hrx:∀ q,rowOf L' x.1 q=1 / x.2*val (x :: r) q:=fun q=>by rw[rowOf,hld,if_pos rfl,e1,val_scl]
 rw[hL']
 refine⟨hld,hrx,fun j hj=>⟨hld2 j hj,hro j hj⟩,fun t u hu=>hu.turn fun j _ hl=>?_⟩
 have hne:j≠x.1:=fun e=>by rw[e,ldOf_false hno]at hl;cases hl
 exact⟨by rw[hld2 j hne];exact hl,hro j hne⟩
theorem put_new {n B:Nat} {leads:Nat→List (Nat×Rat)} {v:Nat→Int} {t:Nat} {x:Nat×Rat} {r:List (Nat×Rat)} (h:Good n B leads) (hr:RowOk n leads v t (x :: r)) (hs:red leads (x :: r)=x :: r):leads x.1=[]:=by
 refine Classical.byContradiction fun hl=>?_
 obtain⟨⟨ho,_⟩,_⟩:=hr.step h hl
 rw[hs]at ho
 have:=ho.1
 omega
theorem elim_span {n B:Nat} {rows:Nat→Nat→Int} (hB:1≤B) (hb:∀ i q,(rows i q).natAbs≤B) (h0:∀ i q,n≤q→rows i q=0) (k:Nat):
  (∀ i,i<k→Sp (ldOf (elim n rows k)) (rowOf (elim n rows k)) n (fun q=>(rows i q:Rat)))∧∀ j,ldOf (elim n rows k) j=true→RSp rows k (rowOf (elim n rows k) j):=by
 induction k with
 | zero=>exact⟨fun i hi=>absurd hi (Nat.not_lt_zero _),fun j hj=>by cases hj⟩
 | succ k ih=>
  obtain⟨ih1,ih2⟩:=ih
  have hg:=Good.elim hB hb h0 k
  have hr:=RowOk.first n (Eli.elim n rows k) (rows k) (h0 k)
  obtain⟨t,h1,_⟩:=hr.steps hg n
  have hs:=hr.end_still hg
  rw[show elim n rows (k+1)=Eli.put (elim n rows k) (redN (elim n rows k) n (spr (rows k) n))from rfl]
  generalize redN (elim n rows k) n (spr (rows k) n)=r at h1 hs ⊢
  generalize elim n rows k=leads at ih1 ih2 hg h1 hs ⊢
  obtain⟨ho,u,hu,he⟩:=h1
  have hun:=hu.trim hg.high
  have hur:RSp rows k u:=RSp.of_sp hu (fun j _ hj=>ih2 j hj)
  cases r with
  | nil=>
   refine⟨fun i hi=>?_,fun j hj=>(ih2 j hj).mono (Nat.le_succ _)⟩
   by_cases e:i=k
   ·subst e
    exact hun.congr (fun q=>by rw[he,val_nil];grind)
   ·exact ih1 i (by omega)
  | cons x r=>
   have hno:=put_new hg ⟨ho,u,hu,he⟩ hs
   obtain⟨f1,f2,f3,f4⟩:=put_facts (r:=r) hno
   have hx:=ho.2.2.1
   have hxn:=ho.2.1
   refine⟨fun i hi=>?_,fun j hj=>?_⟩
   ·by_cases e:i=k
    ·subst e
     refine((f4 _ _ hun).combine x.2 (Sp.lead hxn f1)).congr (fun q=>?_)
     rw[he,f2]
     grind
    ·exact f4 _ _ (ih1 i (by omega))
   ·by_cases e:j=x.1
    ·subst e
     have h2:RSp rows (k+1) (fun q=>(rows k q:Rat)+(-1)*u q):=(RSp.row (Nat.lt_succ_self _)).combine (-1) (hur.mono (Nat.le_succ _))
     refine((RSp.nil rows (k+1)).combine (1 / x.2) h2).congr (fun q=>?_)
     rw[f2,he]
     grind
    ·obtain⟨g1,g2⟩:=f3 j e
     rw[g1]at hj
     rw[g2]
     exact(ih2 j hj).mono (Nat.le_succ _)
end Eli
end Go.Proofs.YthikonjlgljikaaGreatDoor
namespace Go.Proofs.YthikonjlgljikaaGreatDoor
open Go.RowKit Eli
theorem OwnQ.caps {F:Nat→FP} {w:World} {B n g cap:Nat} (h:OwnQ F w B (.slice (some ⟨g,0,none⟩) n cap) n):n≤cap∧cap≤9223372036854775807:=by
 obtain⟨xs,h1,_⟩:=h
 rcases h1.1.2 with⟨e,_⟩ |⟨g',cap',cs,e,_,_,hn,hcm,_⟩
 ·cases e
 ·cases e
  exact⟨hn,by simp only[maxLen]at hcm;omega⟩
theorem c_MCount (n wt:Nat) (D:Int) (w:World) (hT:Tab w) (hck:Pl.check n ((wt:Int)+2) D=0):
  Calls Tryz.prog 36 #[.agg #[.int .i64 n,.int .i64 ((wt:Int)+2),.int .i64 D]] w fun e w'=>e=.returned (.tuple #[.int .i64 ((cntF n wt:Nat):Int),.int .i64 0])∧Below w.heap.size w w':=by
 obtain⟨h1,h2,h3,h4,h5,h6⟩:=check_zero hck
 have hpl:(pts n (n*n)).length≤14400:=Nat.le_trans (pts_length n (n*n)) (by have:n*n≤120*120:=Nat.mul_le_mul (by omega) (by omega);omega)
 have HEN:=Kh (fun W (hb:Below w.heap.size w W)=>c_enter_ok n wt D W (hT.below hb) (by omega) (by omega) (by omega) (by omega) (by omega) hck)
 have HCO:=Kh (fun T B W h=>c_countW T B n wt (pts n (n*n)) (plAll n D (pts n (n*n)) n) W h (by omega) hpl)
 obtain⟨C,hC⟩:∃ C,cntF n wt=C:=⟨_,rfl⟩
 have hC2:(wt+1)*(pts n (n*n)).length=C:=hC
 rw[hC2]at HCO
 rw[hC]
 clear hT hck h1 h2 h3 h4 h5 h6 hC hC2 hpl
 go_enter Tryz.func36,Tryz.ntmps36
 go_wp2_with fail
 have hb0:Below w.heap.size w (w.alloc (.cells #[.int .i64 n,.int .i64 ((wt:Int)+2),.int .i64 D] 23)):=(Below.refl _ _).alloc (Nat.le_refl _) _
 refine(HEN.out _ hb0).mono ?_
 rintro e w1 ⟨⟨T,rfl,hwa⟩,hb1⟩
 have HB1:=Kh (hb0.trans (hb1.mono hb0.size))
 have HWA:=Kh hwa
 clear hb0 hb1 hwa
 go_wp2_with fail
 refine(HCO.out T w1.heap.size w1 HWA.out).mono ?_
 rintro e w2 ⟨rfl,m,rfl⟩
 have HB2:=Kh (below_drewN' HB1.out m)
 go_wp2
 (first|go_ret2|go_ret)
 exact⟨rfl,HB2.out⟩
end Go.Proofs.YthikonjlgljikaaGreatDoor
