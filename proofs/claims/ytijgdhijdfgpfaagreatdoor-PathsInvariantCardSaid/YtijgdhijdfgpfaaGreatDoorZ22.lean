/- Contracts of sl2 and halfplaneref18: Lowest. -/
import Derived.Test.YtijgdhijdfgpfaaGreatDoorZ21
import Derived.Test.YtijgdhijdfgpfaaGreatDoorZ13
import Derived.Test.YtijgdhijdfgpfaaGreatDoorZ20
import Derived.Test.YtijgdhijdfgpfaaGreatDoorZ08
set_option maxRecDepth 100000
set_option maxHeartbeats 8000000
namespace Go.Proofs.YtijgdhijdfgpfaaGreatDoor
open Go.RowKit
def low (p q:Int):Int×Int:=if q<0∨(q=0∧p<0)then(-(p.tdiv ((Int.gcd p q:Nat):Int)),-(q.tdiv ((Int.gcd p q:Nat):Int)))else(p.tdiv ((Int.gcd p q:Nat):Int),q.tdiv ((Int.gcd p q:Nat):Int))
theorem tdiv_b {p g:Int} {K:Nat} (h:p.natAbs≤K):(p.tdiv g).natAbs≤K:=by
 rw[Int.natAbs_tdiv]
 exact Nat.le_trans (Nat.div_le_self _ _) h
theorem c_low (p q:Int) (w:World) (hp:-4611686018427387904≤p) (hp':p≤4611686018427387904) (hq:-4611686018427387904≤q) (hq':q≤4611686018427387904) (h0:Int.gcd p q≠0):
  Calls Tryz.prog 58 #[.int .i64 p,.int .i64 q] w fun e w'=>e=.returned (.agg #[.int .i64 (low p q).1,.int .i64 (low p q).2])∧Below w.heap.size w w':=by
 obtain⟨lo,hlo⟩:∃ lo,low p q=lo:=⟨_,rfl⟩
 rw[hlo]
 have HG:=Kh (fun w1=>c_gcd p q w1 (by omega) (by omega) (by omega) (by omega))
 have hg1:((Int.gcd p q:Nat):Int)∣p:=Int.gcd_dvd_left p q
 have hg2:((Int.gcd p q:Nat):Int)∣q:=Int.gcd_dvd_right p q
 have hgp:0<((Int.gcd p q:Nat):Int):=by omega
 obtain⟨gg,hgg⟩:∃ gg:Int,((Int.gcd p q:Nat):Int)=gg:=⟨_,rfl⟩
 have hgb:gg≤4611686018427387904:=by
  rw[← hgg]
  by_cases hp0:p=0
  ·subst hp0
   rw[Int.gcd_zero_left];omega
  ·have:=Nat.le_of_dvd (by omega) (Int.natAbs_dvd_natAbs.2 (Int.gcd_dvd_left p q));rw[Int.natAbs_natCast]at this;omega
 have HL:=Kh (show lo=if q<0∨(q=0∧p<0)then(-(p.tdiv gg),-(q.tdiv gg))else(p.tdiv gg,q.tdiv gg)by rw[← hlo];unfold low;rw[hgg])
 have b1:-4611686018427387904≤p.tdiv gg∧p.tdiv gg≤4611686018427387904:=by have:=tdiv_b (p:=p) (g:=gg) (K:=4611686018427387904) (by omega);omega
 have b2:-4611686018427387904≤q.tdiv gg∧q.tdiv gg≤4611686018427387904:=by have:=tdiv_b (p:=q) (g:=gg) (K:=4611686018427387904) (by omega);omega
 rw[hgg]at hgp
 have hg0:gg≠0:=by omega
 simp only[hgg]at HG
 clear hg1 hg2 h0 hgg hlo
 go_enter Tryz.func58,Tryz.ntmps58
 go_wp2_with fail
 all_goals obtain⟨w0,hw0⟩:∃ w0,w.alloc (.cells #[.int .i64 0,.int .i64 0] 24)=w0:=⟨_,rfl⟩
 rw[hw0]
 have X:=Blk.new w 24 #[.int .i64 0,.int .i64 0]
 rw[hw0]at X
 have HB:=Kh (show Below w.heap.size w w0 from hw0▸(Below.refl _ _).alloc (Nat.le_refl _) _)
 clear hw0
 refine(HG.out w0).mono ?_
 rintro e w1 ⟨rfl,k,rfl⟩
 have x0:w0.cell? ⟨w.heap.size,0,none⟩=some (.int .i64 0):=X.at_ 0 rfl
 have x1:w0.cell? ⟨w.heap.size,1,none⟩=some (.int .i64 0):=X.at_ 1 rfl
 have f0:w0.frozen? ⟨w.heap.size,0,none⟩=false:=X.free_ 0
 have f1:w0.frozen? ⟨w.heap.size,1,none⟩=false:=X.free_ 1
 have HB1:=Kh (fun j=>below_drewN' HB.out j)
 clear HG HB X
 by_cases hs:q<0∨(q=0∧p<0)
 ·obtain rfl:lo=(-(p.tdiv gg),-(q.tdiv gg)):=by rw[HL.out,if_pos hs]
  clear HL
  have hgn:-gg≠0:=by omega
  rcases hs with hs |⟨rfl,hs⟩
  ·go_upto_region 4 with(fail)
   go_region
   all_goals go_wp2
   all_goals refine bodyPost_ret (by simp[results,Tryz.results58,go_sem,x0,x1];try rfl) rfl ?_
   all_goals exact⟨rfl,((HB1.out _).setCell (Nat.le_refl _) _).setCell (Nat.le_refl _) _⟩
  ·go_upto_region 4 with(fail)
   go_region
   all_goals go_wp2
   all_goals refine bodyPost_ret (by simp[results,Tryz.results58,go_sem,x0,x1];try rfl) rfl ?_
   all_goals exact⟨rfl,((HB1.out _).setCell (Nat.le_refl _) _).setCell (Nat.le_refl _) _⟩
 ·obtain rfl:lo=(p.tdiv gg,q.tdiv gg):=by rw[HL.out,if_neg hs]
  clear HL
  by_cases hq0:q=0
  ·subst hq0
   have hp0:¬ p<0:=fun h=>hs (.inr ⟨rfl,h⟩)
   clear hs
   go_upto_region 4 with(fail)
   go_region
   all_goals go_wp2
   all_goals refine bodyPost_ret (by simp[results,Tryz.results58,go_sem,x0,x1];try rfl) rfl ?_
   all_goals exact⟨rfl,((HB1.out _).setCell (Nat.le_refl _) _).setCell (Nat.le_refl _) _⟩
  ·have hqn:¬ q<0:=fun h=>hs (.inl h)
   clear hs
   go_upto_region 4 with(fail)
   go_region
   all_goals go_wp2
   all_goals refine bodyPost_ret (by simp[results,Tryz.results58,go_sem,x0,x1];try rfl) rfl ?_
   all_goals exact⟨rfl,((HB1.out _).setCell (Nat.le_refl _) _).setCell (Nat.le_refl _) _⟩
def appV (a b c d p q:Int):(Int×Int)×Int:=
 if cuspE p q≠0 then((0,0),cuspE p q)
 else if inE (low (a*p+b*q) (c*p+d*q)).1=true∧inE (low (a*p+b*q) (c*p+d*q)).2=true then(low (a*p+b*q) (c*p+d*q),0)else((0,0),7)
theorem cuspE_zero {p q:Int} (h:cuspE p q=0):(-1073741824≤p∧p≤1073741824)∧(-1073741824≤q∧q≤1073741824)∧Int.gcd p q=1:=by
 unfold cuspE at h
 split at h
 ·omega
 ·rename_i h1
  split at h
  ·omega
  ·rename_i h2
   have e1:inE p=true:=by
    cases hp:inE p with
    | true=>rfl
    | false=>exact absurd (.inl hp) h1
   have e2:inE q=true:=by
    cases hp:inE q with
    | true=>rfl
    | false=>exact absurd (.inr (.inr hp)) h1
   refine⟨inE_iff.1 e1,inE_iff.1 e2,?_⟩
   rcases Nat.decEq (Int.gcd p q) 1 with h3|h3
   ·exact absurd (.inl h3) h2
   ·exact h3
theorem image_ne {a b c d p q:Int} (hd:a*d - b*c≠0) (h:Int.gcd p q=1):Int.gcd (a*p+b*q) (c*p+d*q)≠0:=by
 intro h0
 obtain⟨h1,h2⟩:=Int.gcd_eq_zero_iff.1 h0
 have e1:(a*d - b*c)*p=d*(a*p+b*q) - b*(c*p+d*q):=by
  rw[Int.sub_mul,Int.mul_add,Int.mul_add]
  have e1:d*(b*q)=b*(d*q):=by rw[← Int.mul_assoc,← Int.mul_assoc,Int.mul_comm d b]
  have e2:a*d*p=d*(a*p):=by rw[← Int.mul_assoc,Int.mul_comm d a]
  have e3:b*c*p=b*(c*p):=Int.mul_assoc _ _ _
  omega
 have e2:(a*d - b*c)*q=a*(c*p+d*q) - c*(a*p+b*q):=by
  rw[Int.sub_mul,Int.mul_add,Int.mul_add]
  have e1:a*(c*p)=c*(a*p):=by rw[← Int.mul_assoc,← Int.mul_assoc,Int.mul_comm a c]
  have e2:a*d*q=a*(d*q):=Int.mul_assoc _ _ _
  have e3:b*c*q=c*(b*q):=by rw[← Int.mul_assoc,Int.mul_comm c b]
  omega
 rw[h1,h2,Int.mul_zero,Int.mul_zero,Int.sub_zero]at e1 e2
 have p0:p=0:=(Int.mul_eq_zero.1 e1).resolve_left hd
 have q0:q=0:=(Int.mul_eq_zero.1 e2).resolve_left hd
 subst p0;subst q0
 simp at h
theorem c_Apply (a b c d p q:Int) (w:World) (ha:-1073741824≤a) (ha':a≤1073741824) (hb:-1073741824≤b) (hb':b≤1073741824) (hc:-1073741824≤c) (hc':c≤1073741824) (hd:-1073741824≤d) (hd':d≤1073741824)
  (hdet:a*d - b*c≠0) (hp:-9223372036854775808≤p) (hp':p≤9223372036854775807) (hq:-9223372036854775808≤q) (hq':q≤9223372036854775807):
  Calls Tryz.prog 31 #[.agg #[.int .i64 a,.int .i64 b,.int .i64 c,.int .i64 d],.agg #[.int .i64 p,.int .i64 q]] w fun e w'=>e=.returned (.tuple #[.agg #[.int .i64 (appV a b c d p q).1.1,.int .i64 (appV a b c d p q).1.2],.int .i64 (appV a b c d p q).2])∧Below w.heap.size w w':=by
 obtain⟨av,hav⟩:∃ av,appV a b c d p q=av:=⟨_,rfl⟩
 rw[hav]
 have HV:=Kh hav
 have HD:=Kh (fun w1=>c_Det a b c d w1 ha ha' hb hb' hc hc' hd hd')
 have HC:=Kh (fun w1=>c_CheckCusp p q w1 hp hp' hq hq')
 have HI:=Kh c_in
 have HM:=Kh (fun(h:cuspE p q=0)=>And.intro (mul_b ha ha' (cuspE_zero h).1.1 (cuspE_zero h).1.2) (And.intro (mul_b hb hb' (cuspE_zero h).2.1.1 (cuspE_zero h).2.1.2) (And.intro (mul_b hc hc' (cuspE_zero h).1.1 (cuspE_zero h).1.2) (mul_b hd hd' (cuspE_zero h).2.1.1 (cuspE_zero h).2.1.2))))
 have HN:=Kh (fun(h:cuspE p q=0)=>image_ne hdet (cuspE_zero h).2.2)
 clear hav ha ha' hb hb' hc hc' hd hd' hp hp' hq hq'
 generalize a*d - b*c=det at HD hdet
 go_enter Tryz.func31,Tryz.ntmps31
 go_wp2_with fail
 obtain⟨w0,hw0,X0,X1,X2,hb0⟩:=bx3 w #[.int .i64 a,.int .i64 b,.int .i64 c,.int .i64 d] 28 #[.int .i64 p,.int .i64 q] 24 #[.int .i64 0,.int .i64 0] 24
 rw[hw0]
 have hs0:w.heap.size≤w0.heap.size:=hb0.size
 clear hw0
 have HX0:=Kh X0
 have HX1:=Kh X1
 have HX2:=Kh X2
 clear X0 X1 X2
 refine(HD.out w0).mono ?_
 rintro e w1 ⟨rfl,hb1⟩
 replace HX0:=Kh (bk HX0 hb1)
 replace HX1:=Kh (bk HX1 hb1)
 replace HX2:=Kh (bk HX2 hb1)
 have HB1:=Kh (hb0.trans (hb1.mono hs0))
 have y0:=HX1.out.at_ 0 rfl
 have y1:=HX1.out.at_ 1 rfl
 clear hb0 hb1 hs0 HD
 go_wp2_with fail
 refine(HC.out w1).mono ?_
 rintro e w2 ⟨rfl,hb2⟩
 replace HX0:=Kh (bk HX0 hb2)
 replace HX1:=Kh (bk HX1 hb2)
 replace HX2:=Kh (bk HX2 hb2)
 have HB2:=bt HB1 hb2
 have z0:=HX2.out.at_ 0 rfl
 have z1:=HX2.out.at_ 1 rfl
 have f0:=HX2.out.free_ 0
 have f1:=HX2.out.free_ 1
 clear hb2 HB1 HC y0 y1
 by_cases hz:cuspE p q=0
 ·have m1:=(HM.out hz).1
  have m2:=(HM.out hz).2.1
  have m3:=(HM.out hz).2.2.1
  have m4:=(HM.out hz).2.2.2
  have HL:=Kh (fun w1=>c_low (a*p+b*q) (c*p+d*q) w1 (by omega) (by omega) (by omega) (by omega) (HN.out hz))
  have HV2:=Kh (show av=if inE (low (a*p+b*q) (c*p+d*q)).1=true∧inE (low (a*p+b*q) (c*p+d*q)).2=true then(low (a*p+b*q) (c*p+d*q),0)else((0,0),7)by rw[← HV.out,appV,if_neg (by simp[hz])])
  have x0:=HX0.out.at_ 0 rfl
  have x1:=HX0.out.at_ 1 rfl
  have x2:=HX0.out.at_ 2 rfl
  have x3:=HX0.out.at_ 3 rfl
  have y0:=HX1.out.at_ 0 rfl
  have y1:=HX1.out.at_ 1 rfl
  rw[hz]
  clear HV HM HN hz z0 z1 f0 f1
  go_wp2_with fail
  refine(HL.out w2).mono ?_
  rintro e w3 ⟨rfl,hb3⟩
  generalize low (a*p+b*q) (c*p+d*q)=lo at HV2
  replace HX2:=Kh (bk HX2 hb3)
  have HB3:=bt HB2 hb3
  clear hb3 HB2 HL x0 x1 x2 x3 y0 y1 m1 m2 m3 m4 HX0 HX1
  obtain⟨l1,l2⟩:=lo
  have z0:∀ o,(w3.alloc o).cell? ⟨w.heap.size+1+1,0,none⟩=some (.int .i64 0):=fun o=>(HX2.out.alloc_ o).at_ 0 rfl
  have z1:∀ o,(w3.alloc o).cell? ⟨w.heap.size+1+1,1,none⟩=some (.int .i64 0):=fun o=>(HX2.out.alloc_ o).at_ 1 rfl
  have f0:∀ o,(w3.alloc o).frozen? ⟨w.heap.size+1+1,0,none⟩=false:=fun o=>(HX2.out.alloc_ o).free_ 0
  have f1:∀ o,(w3.alloc o).frozen? ⟨w.heap.size+1+1,1,none⟩=false:=fun o=>(HX2.out.alloc_ o).free_ 1
  have HF:=Kh (fun(o:Obj) (u v:Value)=>((HB3.out.alloc HB3.out.size o).setCell (p:=⟨w.heap.size+1+1,0,none⟩) (by simp;omega) u).setCell (p:=⟨w.heap.size+1+1,1,none⟩) (by simp;omega) v)
  go_wp2_with fail
  refine(HI.out _ _).mono ?_
  rintro e w4 ⟨rfl,rfl⟩
  cases h1:inE l1 with
  | false=>
   obtain rfl:av=((0,0),7):=by rw[HV2.out,if_neg (by simp[h1])]
   clear HV2 h1 HI
   go_wp2
   refine bodyPost_ret (by simp[results,Tryz.results31,go_sem,z0,z1];try rfl) rfl ?_
   exact⟨rfl,HF.out _ _ _⟩
  | true=>
   go_wp2_with fail
   refine(HI.out _ _).mono ?_
   rintro e w5 ⟨rfl,rfl⟩
   cases h2:inE l2 with
   | false=>
    obtain rfl:av=((0,0),7):=by rw[HV2.out,if_neg (by simp[h2])]
    clear HV2 h1 h2 HI
    go_wp2
    refine bodyPost_ret (by simp[results,Tryz.results31,go_sem,z0,z1];try rfl) rfl ?_
    exact⟨rfl,HF.out _ _ _⟩
   | true=>
    obtain rfl:av=((l1,l2),0):=by rw[HV2.out,if_pos ⟨h1,h2⟩]
    clear HV2 h1 h2 HI
    go_wp2
    refine bodyPost_ret (by simp[results,Tryz.results31,go_sem,z0,z1];try rfl) rfl ?_
    exact⟨rfl,HF.out _ _ _⟩
 ·obtain rfl:av=((0,0),cuspE p q):=by rw[← HV.out,appV,if_pos hz]
  clear HV HM HN
  go_wp2
  refine bodyPost_ret (by simp[results,Tryz.results31,go_sem,z0,z1];try rfl) rfl ?_
  exact⟨rfl,(HB2.out.setCell (p:=⟨w.heap.size+1+1,0,none⟩) (by simp;omega) _).setCell (p:=⟨w.heap.size+1+1,1,none⟩) (by simp;omega) _⟩
def TV (B:Nat) (w0 w:World):List Addr→Prop
 | []=>Below B w0 w∧B≤w.heap.size
 | a :: m=>w.cell? a=some (cellOf w a)∧w.frozen? a=false∧TV B w0 w m
def TT (B:Nat) (w0 w:World) (l:List (Addr×Value)) (m:List Addr):Prop:=
 match l with
 | []=>TV B w0 w m
 |(a,v) :: l=>w.cell? a=some v∧TT B w0 w l m
theorem TV.next {B:Nat} {w0 w w':World} {m:List Addr} (hb:Below w.heap.size w w') (h:TV B w0 w m):TV B w0 w' m:=by
 induction m with
 | nil=>exact⟨h.1.trans (hb.mono h.2),Nat.le_trans h.2 hb.size⟩
 | cons a m ih=>
  obtain⟨h1,h2,h3⟩:=h
  have hl:=World.block_lt_of_cell? w a h1
  refine⟨cellOf_some (by rw[hb.cell hl];exact some_cellOf h1),frozen_keep hb (some_cellOf h1) h2,ih h3⟩
theorem TT.next {B:Nat} {w0 w w':World} {l:List (Addr×Value)} {m:List Addr} (hb:Below w.heap.size w w') (h:TT B w0 w l m):TT B w0 w' l m:=by
 induction l with
 | nil=>exact TV.next hb h
 | cons x l ih=>exact⟨(hb.cell (World.block_lt_of_cell? w x.1 h.1)).trans h.1,ih h.2⟩
theorem TV.below {B:Nat} {w0 w:World} {m:List Addr} (h:TV B w0 w m):Below B w0 w:=by
 induction m with
 | nil=>exact h.1
 | cons a m ih=>exact ih h.2.2
theorem TT.below {B:Nat} {w0 w:World} {l:List (Addr×Value)} {m:List Addr} (h:TT B w0 w l m):Below B w0 w:=by
 induction l with
 | nil=>exact TV.below h
 | cons x l ih=>exact ih h.2
theorem TV.put {B:Nat} {w0 w:World} {m:List Addr} (h:TV B w0 w m) (p:Addr) (v:Value) (hp:B≤p.block):TV B w0 (w.setCell p v) m:=by
 induction m with
 | nil=>exact⟨h.1.setCell hp v,by simpa using h.2⟩
 | cons a m ih=>exact⟨cellOf_some (cell_some_set (some_cellOf h.1)),frozen_set h.2.1,ih h.2.2⟩
theorem TT.put {B:Nat} {w0 w:World} {l:List (Addr×Value)} {m:List Addr} (h:TT B w0 w l m) (p:Addr) (v:Value) (hp:B≤p.block) (hl:∀ x∈l,p.block≠x.1.block):TT B w0 (w.setCell p v) l m:=by
 induction l with
 | nil=>exact TV.put h p v hp
 | cons x l ih=>
  refine⟨?_,ih h.2 (fun y hy=>hl y (List.mem_cons_of_mem _ hy))⟩
  rw[World.cell?_setCell_far w p x.1 v (hl x (List.mem_cons_self ..))]
  exact h.1
abbrev D9_5 (B:Nat) (w0 w:World) (a0 a1 a2 a3 a4 a5 a6 a7 a8 b0 b1 b2 b3 b4:Addr) (v0 v1 v2 v3 v4 v5 v6 v7 v8:Value):Prop:=w.cell? a0=some v0∧w.cell? a1=some v1∧w.cell? a2=some v2∧w.cell? a3=some v3∧w.cell? a4=some v4∧w.cell? a5=some v5∧w.cell? a6=some v6∧w.cell? a7=some v7∧w.cell? a8=some v8∧w.cell? b0=some (cellOf w b0)∧w.frozen? b0=false∧w.cell? b1=some (cellOf w b1)∧w.frozen? b1=false∧w.cell? b2=some (cellOf w b2)∧w.frozen? b2=false∧w.cell? b3=some (cellOf w b3)∧w.frozen? b3=false∧w.cell? b4=some (cellOf w b4)∧w.frozen? b4=false∧Below B w0 w∧B≤w.heap.size
theorem T9_5_next {B:Nat} {w0 w w':World} {a0 a1 a2 a3 a4 a5 a6 a7 a8 b0 b1 b2 b3 b4:Addr} {v0 v1 v2 v3 v4 v5 v6 v7 v8:Value} (hb:Below w.heap.size w w') (h:D9_5 B w0 w a0 a1 a2 a3 a4 a5 a6 a7 a8 b0 b1 b2 b3 b4 v0 v1 v2 v3 v4 v5 v6 v7 v8):D9_5 B w0 w' a0 a1 a2 a3 a4 a5 a6 a7 a8 b0 b1 b2 b3 b4 v0 v1 v2 v3 v4 v5 v6 v7 v8:=TT.next (B:=B) (w0:=w0) (l:=[(a0,v0),(a1,v1),(a2,v2),(a3,v3),(a4,v4),(a5,v5),(a6,v6),(a7,v7),(a8,v8)]) (m:=[b0,b1,b2,b3,b4]) hb h
theorem T9_5_below {B:Nat} {w0 w:World} {a0 a1 a2 a3 a4 a5 a6 a7 a8 b0 b1 b2 b3 b4:Addr} {v0 v1 v2 v3 v4 v5 v6 v7 v8:Value} (h:D9_5 B w0 w a0 a1 a2 a3 a4 a5 a6 a7 a8 b0 b1 b2 b3 b4 v0 v1 v2 v3 v4 v5 v6 v7 v8):Below B w0 w:=TT.below (B:=B) (w0:=w0) (l:=[(a0,v0),(a1,v1),(a2,v2),(a3,v3),(a4,v4),(a5,v5),(a6,v6),(a7,v7),(a8,v8)]) (m:=[b0,b1,b2,b3,b4]) h
theorem T9_5_put {B:Nat} {w0 w:World} {a0 a1 a2 a3 a4 a5 a6 a7 a8 b0 b1 b2 b3 b4:Addr} {v0 v1 v2 v3 v4 v5 v6 v7 v8:Value} (h:D9_5 B w0 w a0 a1 a2 a3 a4 a5 a6 a7 a8 b0 b1 b2 b3 b4 v0 v1 v2 v3 v4 v5 v6 v7 v8) {p0 p1 p2 p3 p4:Addr} {u0 u1 u2 u3 u4:Value} (hp0:B≤p0.block) (hn0_0:p0.block≠a0.block) (hn0_1:p0.block≠a1.block) (hn0_2:p0.block≠a2.block) (hn0_3:p0.block≠a3.block) (hn0_4:p0.block≠a4.block) (hn0_5:p0.block≠a5.block) (hn0_6:p0.block≠a6.block) (hn0_7:p0.block≠a7.block) (hn0_8:p0.block≠a8.block) (hp1:B≤p1.block) (hn1_0:p1.block≠a0.block) (hn1_1:p1.block≠a1.block) (hn1_2:p1.block≠a2.block) (hn1_3:p1.block≠a3.block) (hn1_4:p1.block≠a4.block) (hn1_5:p1.block≠a5.block) (hn1_6:p1.block≠a6.block) (hn1_7:p1.block≠a7.block) (hn1_8:p1.block≠a8.block) (hp2:B≤p2.block) (hn2_0:p2.block≠a0.block) (hn2_1:p2.block≠a1.block) (hn2_2:p2.block≠a2.block) (hn2_3:p2.block≠a3.block) (hn2_4:p2.block≠a4.block) (hn2_5:p2.block≠a5.block) (hn2_6:p2.block≠a6.block) (hn2_7:p2.block≠a7.block) (hn2_8:p2.block≠a8.block) (hp3:B≤p3.block) (hn3_0:p3.block≠a0.block) (hn3_1:p3.block≠a1.block) (hn3_2:p3.block≠a2.block) (hn3_3:p3.block≠a3.block) (hn3_4:p3.block≠a4.block) (hn3_5:p3.block≠a5.block) (hn3_6:p3.block≠a6.block) (hn3_7:p3.block≠a7.block) (hn3_8:p3.block≠a8.block) (hp4:B≤p4.block) (hn4_0:p4.block≠a0.block) (hn4_1:p4.block≠a1.block) (hn4_2:p4.block≠a2.block) (hn4_3:p4.block≠a3.block) (hn4_4:p4.block≠a4.block) (hn4_5:p4.block≠a5.block) (hn4_6:p4.block≠a6.block) (hn4_7:p4.block≠a7.block) (hn4_8:p4.block≠a8.block):D9_5 B w0 (((((w.setCell p0 u0).setCell p1 u1).setCell p2 u2).setCell p3 u3).setCell p4 u4) a0 a1 a2 a3 a4 a5 a6 a7 a8 b0 b1 b2 b3 b4 v0 v1 v2 v3 v4 v5 v6 v7 v8:=(TT.put (B:=B) (w0:=w0) (l:=[(a0,v0),(a1,v1),(a2,v2),(a3,v3),(a4,v4),(a5,v5),(a6,v6),(a7,v7),(a8,v8)]) (m:=[b0,b1,b2,b3,b4]) (TT.put (B:=B) (w0:=w0) (l:=[(a0,v0),(a1,v1),(a2,v2),(a3,v3),(a4,v4),(a5,v5),(a6,v6),(a7,v7),(a8,v8)]) (m:=[b0,b1,b2,b3,b4]) (TT.put (B:=B) (w0:=w0) (l:=[(a0,v0),(a1,v1),(a2,v2),(a3,v3),(a4,v4),(a5,v5),(a6,v6),(a7,v7),(a8,v8)]) (m:=[b0,b1,b2,b3,b4]) (TT.put (B:=B) (w0:=w0) (l:=[(a0,v0),(a1,v1),(a2,v2),(a3,v3),(a4,v4),(a5,v5),(a6,v6),(a7,v7),(a8,v8)]) (m:=[b0,b1,b2,b3,b4]) (TT.put (B:=B) (w0:=w0) (l:=[(a0,v0),(a1,v1),(a2,v2),(a3,v3),(a4,v4),(a5,v5),(a6,v6),(a7,v7),(a8,v8)]) (m:=[b0,b1,b2,b3,b4]) h p0 u0 hp0 (by simp[*])) p1 u1 hp1 (by simp[*])) p2 u2 hp2 (by simp[*])) p3 u3 hp3 (by simp[*])) p4 u4 hp4 (by simp[*]))
def NotU32 (v:Value):Prop:=∀ n,v≠.int .u32 n
theorem not_u32 (n:Int):¬ NotU32 (.int .u32 n):=fun h=>h _ rfl
theorem stk_put {K:Value→Prop} {w:World} {R:Nat} (h:Stk K w R) (p:Addr) (u:Value) (hu:K u):Stk K (w.setCell p u) R:=by
 refine⟨by simpa using h.1,fun i v hv=>?_⟩
 by_cases hp:p=⟨R,i,none⟩
 ·cases hc:w.cell? p with
  | none=>
   have:(w.setCell p u).cell? p=none:=setCell_none u hc
   rw[← hp,this]at hv;cases hv
  | some y=>
   rw[← hp,World.cell?_setCell_same' _ _ _ (by rw[hc];rfl)]at hv
   injection hv with hv
   rw[← hv];exact hu
 ·rw[World.cell?_setCell_other _ _ _ _ hp]at hv
  exact h.2 i v hv
theorem I32.putK {w:World} {R:Nat} (hs:Stk NotU32 w R) (i:Nat) (u:Value):I32 w (w.setCell ⟨R,i,none⟩ u):=
 ⟨by simp,fun g j n e=>by
  have hne:R≠g:=fun e2=>hs.2 j _ (by rw[e2];exact e) _ rfl
  rw[World.cell?_setCell_far w ⟨R,i,none⟩ ⟨g,j,none⟩ u hne]
  exact e⟩
theorem I32.path {w:World} {R:Nat} (hs:Stk NotU32 w R) (p:Option Addr) (n c:Nat) (i j k l:Int):
  I32 w (((((w.setCell ⟨R,0,none⟩ (.slice p n c)).setCell ⟨R,1,none⟩ (.int .i64 i)).setCell ⟨R,2,none⟩ (.int .i64 j)).setCell ⟨R,3,none⟩ (.int .i64 k)).setCell ⟨R,4,none⟩ (.int .i64 l)):=by
 have k0:NotU32 (.slice p n c):=fun _ h=>by cases h
 have k1:∀ x:Int,NotU32 (.int .i64 x):=fun x _ h=>by cases h
 have s1:=stk_put hs ⟨R,0,none⟩ (.slice p n c) k0
 have s2:=stk_put s1 ⟨R,1,none⟩ (.int .i64 i) (k1 i)
 have s3:=stk_put s2 ⟨R,2,none⟩ (.int .i64 j) (k1 j)
 have s4:=stk_put s3 ⟨R,3,none⟩ (.int .i64 k) (k1 k)
 exact((((I32.putK hs 0 _).trans (I32.putK s1 1 _)).trans (I32.putK s2 2 _)).trans (I32.putK s3 3 _)).trans (I32.putK s4 4 _)
theorem QRow.i32 {F:Nat→FP} (hF:∀ j,Solid (F j)) {w w':World} {g N k R:Nat} (h:QRow F w g N k) (h32:I32 w w') (hg:w.grownBy w' (some R)) (hne:g≠R):QRow F w' g N k:=by
 have hc:∀ j v,w.cell? ⟨g,j,none⟩=some v→w'.cell? ⟨g,j,none⟩=some v:=fun j v e=>hg.cell e (fun e2=>by injection e2 with e2;exact hne e2)
 have hbk:w'.heap[g]?=w.heap[g]?:=hg.block g h.sts.1 (fun e=>by injection e with e;exact hne e)
 refine⟨⟨Nat.lt_of_lt_of_le h.sts.1 hg.size,fun i v hv=>h.sts.2 i v ((World.cell?_of_block (a:=⟨g,i,none⟩) hbk).symm.trans hv)⟩,fun i hi=>(World.frozen?_of_block (a:=⟨g,i,none⟩) hbk).trans (h.free i hi),fun i hi=>?_,fun j hj=>?_⟩
 ·rw[World.cell?_of_block (a:=⟨g,i,none⟩) hbk];exact h.has i hi
 ·obtain⟨s,p,n,c,t,q,m,d,h0,h1,h2,h3,h4⟩:=h.val j hj
  exact⟨s,p,n,c,t,q,m,d,hc _ _ h0,hc _ _ h1,hc _ _ h2,hc _ _ h3,hF j _ _ _ _ _ _ _ _ _ _ h32 h4⟩
theorem but_put5 (w:World) (g:Nat) (v0 v1 v2 v3 v4:Value):w.grownBy (((((w.setCell ⟨g,0,none⟩ v0).setCell ⟨g,1,none⟩ v1).setCell ⟨g,2,none⟩ v2).setCell ⟨g,3,none⟩ v3).setCell ⟨g,4,none⟩ v4) (some g):=
 ((((but_put w g 0 v0).trans (but_put _ g 1 v1)).trans (but_put _ g 2 v2)).trans (but_put _ g 3 v3)).trans (but_put _ g 4 v4)
def trE (a b c d p q p' q':Int):Int:=if(appV a b c d p q).2≠0 then(appV a b c d p q).2 else(appV a b c d p' q').2
def RetP (w:World) (w':World) (e:Ending) (n:Nat) (f:Nat→Rat) (x y:Int×Int) (er:Int):Prop:=
 (er≠0∧e=.returned (.tuple #[.agg #[.slice none 0 0,.int .i64 0,.int .i64 0,.int .i64 0,.int .i64 0],.int .i64 er])) ∨
 (er=0∧∃ g cap,e=.returned (.tuple #[.agg #[.slice (some ⟨g,0,none⟩) n cap,.int .i64 x.1,.int .i64 x.2,.int .i64 y.1,.int .i64 y.2],.int .i64 0])∧w.heap.size≤g∧QRow (fun j=>IsQ (f j)) w' g n n)
theorem c_TranslateK (K:Nat) (hK1:1≤K) (hKb:K≤1000000) (v:Value) (n:Nat) (x y:Nat→Int) (p q p' q' a b c d:Int) (w:World) (h:QL (fun j=>IsB K (x j) (y j)) w v n) (h0:0<n) (hn:n≤23) (ha:-1073741824≤a) (ha':a≤1073741824) (hb:-1073741824≤b) (hb':b≤1073741824) (hc:-1073741824≤c) (hc':c≤1073741824) (hd:-1073741824≤d) (hd':d≤1073741824) (hdet:a*d - b*c≠0)
  (hp:-9223372036854775808≤p) (hp':p≤9223372036854775807) (hq:-9223372036854775808≤q) (hq':q≤9223372036854775807) (hr:-9223372036854775808≤p') (hr':p'≤9223372036854775807) (hs:-9223372036854775808≤q') (hs':q'≤9223372036854775807):
  Calls Tryz.prog 10 #[.agg #[v,.int .i64 p,.int .i64 q,.int .i64 p',.int .i64 q'],.agg #[.int .i64 a,.int .i64 b,.int .i64 c,.int .i64 d]] w fun e w'=>RetP w w' e n (subst (fun i=>Rat.divInt (x i) (y i)) (n - 1) d (-b) (-c) a n) (appV a b c d p q).1 (appV a b c d p' q').1 (trE a b c d p q p' q')∧Below w.heap.size w w':=by
 have hv:=h
 obtain⟨g1,o1,l1,rfl,hg1,_⟩:=h.resolve_left (fun h=>by omega)
 have HAP1:=Kh (fun w1=>c_Apply a b c d p q w1 ha ha' hb hb' hc hc' hd hd' hdet hp hp' hq hq')
 have HAP2:=Kh (fun w1=>c_Apply a b c d p' q' w1 ha ha' hb hb' hc hc' hd hd' hdet hr hr' hs hs')
 have HSU:=Kh (fun w1 (hbw:Below w.heap.size w w1)=>c_substK K hK1 hKb (.slice (some ⟨g1,o1,none⟩) n l1) n x y d (-b) (-c) a w1 (hv.keep (fun j=>IsB.solid _ _ _) hbw) h0 (by omega) hd hd' (by omega) (by omega) (by omega) (by omega) ha ha')
 have hbn:IntKind.i64.wrap (-b)=-b:=IntWalk.i64_in _ (by omega)
 have hcn:IntKind.i64.wrap (-c)=-c:=IntWalk.i64_in _ (by omega)
 obtain⟨er,her⟩:∃ er,trE a b c d p q p' q'=er:=⟨_,rfl⟩
 have HER:=Kh (show er=if(appV a b c d p q).2≠0 then(appV a b c d p q).2 else(appV a b c d p' q').2 by rw[← her];rfl)
 rw[her]
 obtain⟨av1,hav1⟩:∃ av,appV a b c d p q=av:=⟨_,rfl⟩
 obtain⟨av2,hav2⟩:∃ av,appV a b c d p' q'=av:=⟨_,rfl⟩
 simp only[hav1,hav2]at HAP1 HAP2 HER ⊢
 obtain⟨⟨x1,y1⟩,e1⟩:=av1
 obtain⟨⟨x2,y2⟩,e2⟩:=av2
 obtain⟨fn,hfn⟩:∃ fn,subst (fun i=>Rat.divInt (x i) (y i)) (n - 1) d (-b) (-c) a n=fn:=⟨_,rfl⟩
 rw[hfn]
 simp only[hfn]at HSU
 dsimp only at HER ⊢
 have hn1:¬ (n:Int)<1:=by omega
 have hn2:¬ (n:Int) > 23:=by omega
 clear h hv ha ha' hb hb' hc hc' hd hd' hdet hp hp' hq hq' hr hr' hs hs' hK1 hKb hav1 hav2 her hfn
 go_enter Tryz.func10,Tryz.ntmps10
 go_wp2_with fail
 obtain⟨w0,hw0,X0,X1,X2,hb0⟩:=bx3 w #[.slice (some ⟨g1,o1,none⟩) n l1,.int .i64 p,.int .i64 q,.int .i64 p',.int .i64 q'] 26 #[.int .i64 a,.int .i64 b,.int .i64 c,.int .i64 d] 28 #[.slice none 0 0,.int .i64 0,.int .i64 0,.int .i64 0,.int .i64 0] 26
 rw[hw0]
 have hs0:w.heap.size≤w0.heap.size:=hb0.size
 clear hw0
 have HX0:=Kh X0
 have HX1:=Kh X1
 have HX2:=Kh X2
 have HB0:=Kh hb0
 clear X0 X1 X2 hb0 hs0
 refine(HAP1.out w0).mono ?_
 rintro e w3 ⟨rfl,hb3⟩
 replace HX0:=Kh (bk HX0 hb3)
 replace HX1:=Kh (bk HX1 hb3)
 replace HX2:=Kh (bk HX2 hb3)
 have HB3:=bt HB0 hb3
 have HS3R:=Kh (show w.heap.size+1+1<w3.heap.size from HX2.out.lt)
 clear hb3 HB0 HAP1
 have z0:∀ o,(w3.alloc o).cell? ⟨w.heap.size+1+1,0,none⟩=some (.slice none 0 0):=fun o=>(HX2.out.alloc_ o).at_ 0 rfl
 have f0:∀ o,(w3.alloc o).frozen? ⟨w.heap.size+1+1,0,none⟩=false:=fun o=>(HX2.out.alloc_ o).free_ 0
 have z1:∀ o,(w3.alloc o).cell? ⟨w.heap.size+1+1,1,none⟩=some (.int .i64 0):=fun o=>(HX2.out.alloc_ o).at_ 1 rfl
 have f1:∀ o,(w3.alloc o).frozen? ⟨w.heap.size+1+1,1,none⟩=false:=fun o=>(HX2.out.alloc_ o).free_ 1
 have z2:∀ o,(w3.alloc o).cell? ⟨w.heap.size+1+1,2,none⟩=some (.int .i64 0):=fun o=>(HX2.out.alloc_ o).at_ 2 rfl
 have f2:∀ o,(w3.alloc o).frozen? ⟨w.heap.size+1+1,2,none⟩=false:=fun o=>(HX2.out.alloc_ o).free_ 2
 have z3:∀ o,(w3.alloc o).cell? ⟨w.heap.size+1+1,3,none⟩=some (.int .i64 0):=fun o=>(HX2.out.alloc_ o).at_ 3 rfl
 have f3:∀ o,(w3.alloc o).frozen? ⟨w.heap.size+1+1,3,none⟩=false:=fun o=>(HX2.out.alloc_ o).free_ 3
 have z4:∀ o,(w3.alloc o).cell? ⟨w.heap.size+1+1,4,none⟩=some (.int .i64 0):=fun o=>(HX2.out.alloc_ o).at_ 4 rfl
 have f4:∀ o,(w3.alloc o).frozen? ⟨w.heap.size+1+1,4,none⟩=false:=fun o=>(HX2.out.alloc_ o).free_ 4
 by_cases h1:e1=0
 ·subst h1
  have HE:=Kh (show er=e2 by rw[HER.out,if_neg (by simp)])
  have u0:∀ o,(w3.alloc o).cell? ⟨w.heap.size,3,none⟩=some (.int .i64 p'):=fun o=>(HX0.out.alloc_ o).at_ 3 rfl
  have u1:∀ o,(w3.alloc o).cell? ⟨w.heap.size,4,none⟩=some (.int .i64 q'):=fun o=>(HX0.out.alloc_ o).at_ 4 rfl
  have m0:∀ o,(w3.alloc o).cell? ⟨w.heap.size+1,0,none⟩=some (.int .i64 a):=fun o=>(HX1.out.alloc_ o).at_ 0 rfl
  have m1:∀ o,(w3.alloc o).cell? ⟨w.heap.size+1,1,none⟩=some (.int .i64 b):=fun o=>(HX1.out.alloc_ o).at_ 1 rfl
  have m2:∀ o,(w3.alloc o).cell? ⟨w.heap.size+1,2,none⟩=some (.int .i64 c):=fun o=>(HX1.out.alloc_ o).at_ 2 rfl
  have m3:∀ o,(w3.alloc o).cell? ⟨w.heap.size+1,3,none⟩=some (.int .i64 d):=fun o=>(HX1.out.alloc_ o).at_ 3 rfl
  clear z0 z1 z2 z3 z4 f0 f1 f2 f3 f4 HER
  go_wp2_with fail
  refine(HAP2.out _).mono ?_
  rintro e w5 ⟨rfl,hb5⟩
  have hal:∀ o,Below w3.heap.size w3 (w3.alloc o):=fun o=>(Below.refl _ _).alloc (Nat.le_refl _) o
  have HB5:=Kh ((HB3.out.trans ((hal _).mono HB3.out.size)).trans (hb5.mono (by have:=HB3.out.size;simp;omega)))
  have HC6:=Kh ((Blk.new w3 24 #[.int .i64 x1,.int .i64 y1]).below_ hb5 (by simp))
  replace HX0:=Kh ((HX0.out.alloc_ _).below_ hb5 (HX0.out.alloc_ _).lt)
  replace HX1:=Kh ((HX1.out.alloc_ _).below_ hb5 (HX1.out.alloc_ _).lt)
  replace HX2:=Kh ((HX2.out.alloc_ _).below_ hb5 (HX2.out.alloc_ _).lt)
  have hs3:w.heap.size≤w3.heap.size:=HB3.out.size
  clear hb5 hal HB3 HAP2 u0 u1 m0 m1 m2 m3
  by_cases h2:e2=0
  ·subst h2
   go_upto_region 9 with(fail)
   obtain⟨w6,hw6⟩:∃ w6,w5.alloc (.cells #[.int .i64 x2,.int .i64 y2] 24)=w6:=⟨_,rfl⟩
   rw[hw6]
   have hal:Below w5.heap.size w5 w6:=hw6▸(Below.refl _ _).alloc (Nat.le_refl _) _
   have X8:Blk w6 w5.heap.size 24 #[.int .i64 x2,.int .i64 y2]:=hw6▸Blk.new w5 _ _
   have X6:=bk HC6 hal
   have X0:=bk HX0 hal
   have X1:=bk HX1 hal
   have X2:=bk HX2 hal
   have hb6:=HB5.out.trans (hal.mono HB5.out.size)
   have hs5:=HC6.out.lt
   have hs3R:=HS3R.out
   have hRl:w.heap.size+1+1<w6.heap.size:=X2.lt
   have HX2b:=Kh X2
   have HSR:=Kh (Stk.of (K:=NotU32) X2 (by intro v hv;simp at hv;rcases hv with rfl|rfl <;> exact fun _ h=>by cases h))
   clear HX0 HX1 HX2 HC6 HB5 hal hw6
   have hS0:=T9_5_next (Below.refl _ w6).drew ⟨X0.c0,X1.c0,X1.c1,X1.c2,X1.c3,X6.c0,X6.c1,X8.c0,X8.c1,X2.so 0,X2.free_ 0,X2.so 1,X2.free_ 1,X2.so 2,X2.free_ 2,X2.so 3,X2.free_ 3,X2.so 4,X2.free_ 4,hb6,Below.size (show Below w.heap.size w w6 from hb6)⟩
   clear X0 X1 X2 X6 X8
   have M1:True:=trivial
   go_region_held3 (fun w1=>w1.cell? ⟨w.heap.size,0,none⟩=some (.slice (some ⟨g1,o1,none⟩) n l1)∧w1.cell? ⟨w.heap.size+1,0,none⟩=some (.int .i64 a)∧w1.cell? ⟨w.heap.size+1,1,none⟩=some (.int .i64 b)∧w1.cell? ⟨w.heap.size+1,2,none⟩=some (.int .i64 c)∧w1.cell? ⟨w.heap.size+1,3,none⟩=some (.int .i64 d)∧w1.cell? ⟨w3.heap.size,0,none⟩=some (.int .i64 x1)∧w1.cell? ⟨w3.heap.size,1,none⟩=some (.int .i64 y1)∧w1.cell? ⟨w5.heap.size,0,none⟩=some (.int .i64 x2)∧w1.cell? ⟨w5.heap.size,1,none⟩=some (.int .i64 y2)∧w1.cell? ⟨w.heap.size+1+1,0,none⟩=some (cellOf w1 ⟨w.heap.size+1+1,0,none⟩)∧w1.frozen? ⟨w.heap.size+1+1,0,none⟩=false∧w1.cell? ⟨w.heap.size+1+1,1,none⟩=some (cellOf w1 ⟨w.heap.size+1+1,1,none⟩)∧w1.frozen? ⟨w.heap.size+1+1,1,none⟩=false∧w1.cell? ⟨w.heap.size+1+1,2,none⟩=some (cellOf w1 ⟨w.heap.size+1+1,2,none⟩)∧w1.frozen? ⟨w.heap.size+1+1,2,none⟩=false∧w1.cell? ⟨w.heap.size+1+1,3,none⟩=some (cellOf w1 ⟨w.heap.size+1+1,3,none⟩)∧w1.frozen? ⟨w.heap.size+1+1,3,none⟩=false∧w1.cell? ⟨w.heap.size+1+1,4,none⟩=some (cellOf w1 ⟨w.heap.size+1+1,4,none⟩)∧w1.frozen? ⟨w.heap.size+1+1,4,none⟩=false∧Below w.heap.size w w1∧w.heap.size≤w1.heap.size)
    (first|with_reducible exact hS0|with_reducible assumption |(refine T9_5_next (by with_reducible assumption) ?_;assumption) |(refine T9_5_put ?_ ?_ ?_ ?_ ?_ ?_ ?_ ?_ ?_ ?_ ?_ ?_ ?_ ?_ ?_ ?_ ?_ ?_ ?_ ?_ ?_ ?_ ?_ ?_ ?_ ?_ ?_ ?_ ?_ ?_ ?_ ?_ ?_ ?_ ?_ ?_ ?_ ?_ ?_ ?_ ?_ ?_ ?_ ?_ ?_ ?_ ?_ ?_ ?_ ?_ ?_ <;> first|assumption |(dsimp only;omega) |(simp;done)))
    (first
     |(go_at_call 32;refine(HSU.out _ (T9_5_below (by with_reducible assumption))).mono ?_;rintro e w7 ⟨⟨g7,rfl,hg7,hr7⟩,hb7⟩;have hbe:Below w6.heap.size w6 w7:=(by first|exact(Below.refl _ w6).drew.trans hb7|exact hb7);have HG7:=Kh (show w.heap.size≤g7 from Nat.le_trans (by simp only[World.drew];omega) hg7);have HQR:=Kh (QRow.i32 (fun _=>IsQ.solid _) hr7 (I32.path (HSR.out.next hbe) (some ⟨g7,0,none⟩) n n x1 y1 x2 y2) (but_put5 _ _ _ _ _ _ _) (Nat.ne_of_gt (Nat.lt_of_lt_of_le hRl (Nat.le_trans (by simp only[World.drew];omega) hg7))));have r0:w7.cell? ⟨w.heap.size+1+1,0,none⟩=some (.slice none 0 0):=(bk HX2b hbe).at_ 0 rfl;have r1:w7.cell? ⟨w.heap.size+1+1,1,none⟩=some (.int .i64 0):=(bk HX2b hbe).at_ 1 rfl;have r2:w7.cell? ⟨w.heap.size+1+1,2,none⟩=some (.int .i64 0):=(bk HX2b hbe).at_ 2 rfl;have r3:w7.cell? ⟨w.heap.size+1+1,3,none⟩=some (.int .i64 0):=(bk HX2b hbe).at_ 3 rfl;have r4:w7.cell? ⟨w.heap.size+1+1,4,none⟩=some (.int .i64 0):=(bk HX2b hbe).at_ 4 rfl;clear hg7 hr7 hbe))
   all_goals go_wp2
   all_goals refine bodyPost_ret (by simp[results,Tryz.results10,go_sem,r0,r1,r2,r3,r4];try rfl) rfl ?_
   all_goals exact⟨.inr ⟨HE.out,g7,n,rfl,HG7.out,HQR.out⟩,T9_5_below (by assumption)⟩
  ·have HE2:=Kh h2
   have z0:∀ o,(w5.alloc o).cell? ⟨w.heap.size+1+1,0,none⟩=some (.slice none 0 0):=fun o=>(HX2.out.alloc_ o).at_ 0 rfl
   have f0:∀ o,(w5.alloc o).frozen? ⟨w.heap.size+1+1,0,none⟩=false:=fun o=>(HX2.out.alloc_ o).free_ 0
   have z1:∀ o,(w5.alloc o).cell? ⟨w.heap.size+1+1,1,none⟩=some (.int .i64 0):=fun o=>(HX2.out.alloc_ o).at_ 1 rfl
   have f1:∀ o,(w5.alloc o).frozen? ⟨w.heap.size+1+1,1,none⟩=false:=fun o=>(HX2.out.alloc_ o).free_ 1
   have z2:∀ o,(w5.alloc o).cell? ⟨w.heap.size+1+1,2,none⟩=some (.int .i64 0):=fun o=>(HX2.out.alloc_ o).at_ 2 rfl
   have f2:∀ o,(w5.alloc o).frozen? ⟨w.heap.size+1+1,2,none⟩=false:=fun o=>(HX2.out.alloc_ o).free_ 2
   have z3:∀ o,(w5.alloc o).cell? ⟨w.heap.size+1+1,3,none⟩=some (.int .i64 0):=fun o=>(HX2.out.alloc_ o).at_ 3 rfl
   have f3:∀ o,(w5.alloc o).frozen? ⟨w.heap.size+1+1,3,none⟩=false:=fun o=>(HX2.out.alloc_ o).free_ 3
   have z4:∀ o,(w5.alloc o).cell? ⟨w.heap.size+1+1,4,none⟩=some (.int .i64 0):=fun o=>(HX2.out.alloc_ o).at_ 4 rfl
   have f4:∀ o,(w5.alloc o).frozen? ⟨w.heap.size+1+1,4,none⟩=false:=fun o=>(HX2.out.alloc_ o).free_ 4
   go_wp2
   refine bodyPost_ret (by simp[results,Tryz.results10,go_sem,z0,z1,z2,z3,z4];try rfl) rfl ?_
   exact⟨.inl ⟨by rw[HE.out];assumption,by rw[HE.out]⟩,(((((HB5.out.alloc HB5.out.size _).setCell (p:=⟨w.heap.size+1+1,0,none⟩) (by dsimp only;omega) _).setCell (p:=⟨w.heap.size+1+1,1,none⟩) (by dsimp only;omega) _).setCell (p:=⟨w.heap.size+1+1,2,none⟩) (by dsimp only;omega) _).setCell (p:=⟨w.heap.size+1+1,3,none⟩) (by dsimp only;omega) _).setCell (p:=⟨w.heap.size+1+1,4,none⟩) (by dsimp only;omega) _⟩
 ·have HE:=Kh (show er=e1 by rw[HER.out,if_pos h1])
  clear HER
  go_wp2
  refine bodyPost_ret (by simp[results,Tryz.results10,go_sem,z0,z1,z2,z3,z4];try rfl) rfl ?_
  exact⟨.inl ⟨by rw[HE.out];assumption,by rw[HE.out]⟩,(((((HB3.out.alloc HB3.out.size _).setCell (p:=⟨w.heap.size+1+1,0,none⟩) (by dsimp only;omega) _).setCell (p:=⟨w.heap.size+1+1,1,none⟩) (by dsimp only;omega) _).setCell (p:=⟨w.heap.size+1+1,2,none⟩) (by dsimp only;omega) _).setCell (p:=⟨w.heap.size+1+1,3,none⟩) (by dsimp only;omega) _).setCell (p:=⟨w.heap.size+1+1,4,none⟩) (by dsimp only;omega) _⟩
theorem c_Translate (v:Value) (n:Nat) (x y:Nat→Int) (p q p' q' a b c d:Int) (w:World) (h:QL (fun j=>IsR (x j) (y j)) w v n) (h0:0<n) (hn:n≤23) (ha:-1073741824≤a) (ha':a≤1073741824) (hb:-1073741824≤b) (hb':b≤1073741824) (hc:-1073741824≤c) (hc':c≤1073741824) (hd:-1073741824≤d) (hd':d≤1073741824) (hdet:a*d - b*c≠0)
  (hp:-9223372036854775808≤p) (hp':p≤9223372036854775807) (hq:-9223372036854775808≤q) (hq':q≤9223372036854775807) (hr:-9223372036854775808≤p') (hr':p'≤9223372036854775807) (hs:-9223372036854775808≤q') (hs':q'≤9223372036854775807):
  Calls Tryz.prog 10 #[.agg #[v,.int .i64 p,.int .i64 q,.int .i64 p',.int .i64 q'],.agg #[.int .i64 a,.int .i64 b,.int .i64 c,.int .i64 d]] w fun e w'=>RetP w w' e n (subst (fun i=>Rat.divInt (x i) (y i)) (n - 1) d (-b) (-c) a n) (appV a b c d p q).1 (appV a b c d p' q').1 (trE a b c d p q p' q')∧Below w.heap.size w w':=
 c_TranslateK 4 (by decide) (by decide) v n x y p q p' q' a b c d w h h0 hn ha ha' hb hb' hc hc' hd hd' hdet hp hp' hq hq' hr hr' hs hs'
theorem QRow.grown {F:Nat→FP} (hF:∀ j,Solid (F j)) {w w':World} {g N k:Nat} {row:Option Nat} (h:QRow F w g N k) (h32:I32 w w') (hg:w.grownBy w' row) (hne:some g≠row):QRow F w' g N k:=by
 have hc:∀ j v,w.cell? ⟨g,j,none⟩=some v→w'.cell? ⟨g,j,none⟩=some v:=fun j v e=>hg.cell e hne
 have hbk:w'.heap[g]?=w.heap[g]?:=hg.block g h.sts.1 hne
 refine⟨⟨Nat.lt_of_lt_of_le h.sts.1 hg.size,fun i v hv=>h.sts.2 i v ((World.cell?_of_block (a:=⟨g,i,none⟩) hbk).symm.trans hv)⟩,fun i hi=>(World.frozen?_of_block (a:=⟨g,i,none⟩) hbk).trans (h.free i hi),fun i hi=>?_,fun j hj=>?_⟩
 ·rw[World.cell?_of_block (a:=⟨g,i,none⟩) hbk];exact h.has i hi
 ·obtain⟨s,p,n,c,t,q,m,d,h0,h1,h2,h3,h4⟩:=h.val j hj
  exact⟨s,p,n,c,t,q,m,d,hc _ _ h0,hc _ _ h1,hc _ _ h2,hc _ _ h3,hF j _ _ _ _ _ _ _ _ _ _ h32 h4⟩
def PX (w:World) (xs:List Value) (i n:Nat) (f:Nat→Rat) (x y:Int×Int):Prop:=
 ∃ g cap,xs[i*5]?=some (.slice (some ⟨g,0,none⟩) n cap)∧xs[i*5+1]?=some (.int .i64 x.1)∧xs[i*5+2]?=some (.int .i64 x.2)∧xs[i*5+3]?=some (.int .i64 y.1)∧xs[i*5+4]?=some (.int .i64 y.2)∧QRow (fun j=>IsQ (f j)) w g n n
def OwnP (F:Nat→Nat→Rat) (X Y:Nat→Int×Int) (w:World) (B:Nat) (v:Value) (k n:Nat):Prop:=
 (v.ownBlock=none∨0<k)∧∃ xs,OwnK NotU32 w B 26 5 v k xs∧∀ i,i<k→PX w xs i n (F i) (X i) (Y i)
theorem OwnP.nil (F:Nat→Nat→Rat) (X Y:Nat→Int×Int) (w:World) (B n:Nat):OwnP F X Y w B (.slice none 0 0) 0 n:=⟨.inl rfl,[],OwnK.nil _ _ _ _ _,fun _ hi=>absurd hi (Nat.not_lt_zero _)⟩
theorem PX.keep {w w':World} {xs:List Value} {i n:Nat} {f:Nat→Rat} {x y:Int×Int} (h:PX w xs i n f x y) (hb:Below w.heap.size w w'):PX w' xs i n f x y:=by
 obtain⟨g,cap,h0,h1,h2,h3,h4,h5⟩:=h
 exact⟨g,cap,h0,h1,h2,h3,h4,h5.keep (fun _=>IsQ.solid _) hb⟩
theorem OwnP.keep {F:Nat→Nat→Rat} {X Y:Nat→Int×Int} {w w':World} {B k n:Nat} {v:Value} (h:OwnP F X Y w B v k n) (hb:Below w.heap.size w w'):OwnP F X Y w' B v k n:=by
 obtain⟨hv,xs,h1,h2⟩:=h
 exact⟨hv,xs,h1.keep hb,fun i hi=>(h2 i hi).keep hb⟩
theorem OwnP.push {F:Nat→Nat→Rat} {X Y:Nat→Int×Int} {W w':World} {B k n:Nat} {v v':Value} {xs:List Value} (hv:v.ownBlock=none∨0<k) (h1:OwnK NotU32 W B 26 5 v k xs) (h2:∀ i,i<k→PX W xs i n (F i) (X i) (Y i))
  {g cap:Nat} {x y:Int×Int} (hq:QRow (fun j=>IsQ (F k j)) W g n n) (hx:X k=x) (hy:Y k=y) (h3:OwnK NotU32 w' B 26 5 v' (k+1) (xs++[.slice (some ⟨g,0,none⟩) n cap,.int .i64 x.1,.int .i64 x.2,.int .i64 y.1,.int .i64 y.2])) (hg:W.grownBy w' v.ownBlock):OwnP F X Y w' B v' (k+1) n:=by
 have h32:=I32.grown (K:=NotU32) (fun x=>not_u32 x) h1.2 hg
 have hl:xs.length=k*5:=h1.1.1
 have hne:∀ g',Sts W g'→some g'≠v.ownBlock:=by
  intro g' hs e
  rcases hv with hv|hv
  ·rw[hv]at e;cases e
  ·obtain⟨_,_,_,e1,_⟩:=h2 0 hv
   rcases own_shape h1.1 with⟨rfl,_⟩ |⟨g0,cap0,rfl,_⟩
   ·simp[Value.ownBlock]at e
   ·simp[Value.ownBlock]at e
    subst e
    exact hs.2 1 _ (own_read h1.1 (j:=1) (by simpa using e1)) _ _ rfl
 refine⟨.inr (Nat.succ_pos k),_,h3,fun i hi=>?_⟩
 by_cases hik:i<k
 ·obtain⟨g',cap',e0,e1,e2,e3,e4,e5⟩:=h2 i hik
  have hk:∀ (j:Nat) (u:Value),xs[j]?=some u→(xs++[.slice (some ⟨g,0,none⟩) n cap,.int .i64 x.1,.int .i64 x.2,.int .i64 y.1,.int .i64 y.2])[j]?=some u:=by
   intro j u e
   rw[List.getElem?_append_left]
   ·exact e
   ·rcases Nat.lt_or_ge j xs.length with hlt|hge
    ·exact hlt
    ·rw[List.getElem?_eq_none hge]at e;cases e
  exact⟨g',cap',hk _ _ e0,hk _ _ e1,hk _ _ e2,hk _ _ e3,hk _ _ e4,e5.grown (fun _=>IsQ.solid _) h32 hg (hne g' e5.sts)⟩
 ·obtain rfl:i=k:=by omega
  refine⟨g,cap,?_,?_,?_,?_,?_,hq.grown (fun _=>IsQ.solid _) h32 hg (hne g hq.sts)⟩
  ·rw[List.getElem?_append_right (by omega),hl,show i*5 - i*5=0 by omega];rfl
  ·rw[List.getElem?_append_right (by omega),hl,show i*5+1 - i*5=1 by omega,hx];rfl
  ·rw[List.getElem?_append_right (by omega),hl,show i*5+2 - i*5=2 by omega,hx];rfl
  ·rw[List.getElem?_append_right (by omega),hl,show i*5+3 - i*5=3 by omega,hy];rfl
  ·rw[List.getElem?_append_right (by omega),hl,show i*5+4 - i*5=4 by omega,hy];rfl
end Go.Proofs.YtijgdhijdfgpfaaGreatDoor
