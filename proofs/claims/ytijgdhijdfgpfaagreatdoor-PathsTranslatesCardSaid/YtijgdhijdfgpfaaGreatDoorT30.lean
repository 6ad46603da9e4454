/- Contracts of sl2 and halfplaneref18: Lowest. -/
import Derived.Test.YtijgdhijdfgpfaaGreatDoorT29
import Derived.Test.YtijgdhijdfgpfaaGreatDoorT12
set_option maxHeartbeats 8000000
namespace Go.Proofs.YtijgdhijdfgpfaaGreatDoor
open Go.RowKit
def low (p q:Int):Int×Int:=if q<0∨(q=0∧p<0)then(-(p.tdiv ((Int.gcd p q:Nat):Int)),-(q.tdiv ((Int.gcd p q:Nat):Int)))else(p.tdiv ((Int.gcd p q:Nat):Int),q.tdiv ((Int.gcd p q:Nat):Int))
theorem tdiv_b {p g:Int} {K:Nat} (h:p.natAbs≤K):(p.tdiv g).natAbs≤K:=by
 rw[Int.natAbs_tdiv]
 exact Nat.le_trans (Nat.div_le_self _ _) h
theorem tdiv_sgn {q g:Int} (hg:0<g) (h:g∣q):(q.tdiv g<0↔q<0)∧(q.tdiv g=0↔q=0):=by
 obtain⟨k,rfl⟩:=h
 rw[Int.mul_tdiv_cancel_left _ (by omega)]
 constructor
 ·constructor
  ·intro hk;exact Int.mul_neg_of_pos_of_neg hg hk
  ·intro hk
   rcases(by omega:k<0∨0≤k)with h1|h1
   ·exact h1
   ·have:=Int.mul_nonneg (Int.le_of_lt hg) h1;omega
 ·constructor
  ·intro hk;rw[hk,Int.mul_zero]
  ·intro hk
   rcases Int.mul_eq_zero.1 hk with h1|h1
   ·omega
   ·exact h1
theorem c_low (p q:Int) (w:World) (hp:-4611686018427387904≤p) (hp':p≤4611686018427387904) (hq:-4611686018427387904≤q) (hq':q≤4611686018427387904) (h0:Int.gcd p q≠0):
  Calls Tryz.prog 58 #[.int .i64 p,.int .i64 q] w fun e w'=>e=.returned (.agg #[.int .i64 (low p q).1,.int .i64 (low p q).2])∧Below w.heap.size w w':=by
 obtain⟨lo,hlo⟩:∃ lo,low p q=lo:=⟨_,rfl⟩
 rw[hlo]
 have HG:=Kh (fun w1=>c_gcd p q w1 (by omega) (by omega) (by omega) (by omega))
 have hg1:((Int.gcd p q:Nat):Int)∣p:=Int.gcd_dvd_left p q
 have hg2:((Int.gcd p q:Nat):Int)∣q:=Int.gcd_dvd_right p q
 have hgp:0<((Int.gcd p q:Nat):Int):=by omega
 obtain⟨gg,hgg⟩:∃ gg:Int,((Int.gcd p q:Nat):Int)=gg:=⟨_,rfl⟩
 have hgb:gg≤4611686018427387904:=by
  rw[← hgg]
  by_cases hp0:p=0
  ·subst hp0
   rw[Int.gcd_zero_left];omega
  ·have:=Nat.le_of_dvd (by omega) (Int.natAbs_dvd_natAbs.2 (Int.gcd_dvd_left p q));rw[Int.natAbs_natCast]at this;omega
 have HL:=Kh (show lo=if q<0∨(q=0∧p<0)then(-(p.tdiv gg),-(q.tdiv gg))else(p.tdiv gg,q.tdiv gg)by rw[← hlo];unfold low;rw[hgg])
 have b1:-4611686018427387904≤p.tdiv gg∧p.tdiv gg≤4611686018427387904:=by have:=tdiv_b (p:=p) (g:=gg) (K:=4611686018427387904) (by omega);omega
 have b2:-4611686018427387904≤q.tdiv gg∧q.tdiv gg≤4611686018427387904:=by have:=tdiv_b (p:=q) (g:=gg) (K:=4611686018427387904) (by omega);omega
 rw[hgg]at hgp
 have hg0:gg≠0:=by omega
 simp only[hgg]at HG
 clear hg1 hg2 h0 hgg hlo
 go_enter Tryz.func58,Tryz.ntmps58
 go_wp2_with fail
 all_goals obtain⟨w0,hw0⟩:∃ w0,w.alloc (.cells #[.int .i64 0,.int .i64 0] 24)=w0:=⟨_,rfl⟩
 rw[hw0]
 have X:=Blk.new w 24 #[.int .i64 0,.int .i64 0]
 rw[hw0]at X
 have HB:=Kh (show Below w.heap.size w w0 from hw0▸(Below.refl _ _).alloc (Nat.le_refl _) _)
 clear hw0
 refine(HG.out w0).mono ?_
 rintro e w1 ⟨rfl,k,rfl⟩
 have x0:w0.cell? ⟨w.heap.size,0,none⟩=some (.int .i64 0):=X.at_ 0 rfl
 have x1:w0.cell? ⟨w.heap.size,1,none⟩=some (.int .i64 0):=X.at_ 1 rfl
 have f0:w0.frozen? ⟨w.heap.size,0,none⟩=false:=X.free_ 0
 have f1:w0.frozen? ⟨w.heap.size,1,none⟩=false:=X.free_ 1
 have HB1:=Kh (fun j=>below_drewN' HB.out j)
 clear HG HB X
 by_cases hs:q<0∨(q=0∧p<0)
 ·obtain rfl:lo=(-(p.tdiv gg),-(q.tdiv gg)):=by rw[HL.out,if_pos hs]
  clear HL
  have hgn:-gg≠0:=by omega
  rcases hs with hs |⟨rfl,hs⟩
  ·go_upto_region 4 with(fail)
   go_region
   all_goals go_wp2
   all_goals refine bodyPost_ret (by simp[results,Tryz.results58,go_sem,x0,x1];try rfl) rfl ?_
   all_goals exact⟨rfl,((HB1.out _).setCell (Nat.le_refl _) _).setCell (Nat.le_refl _) _⟩
  ·go_upto_region 4 with(fail)
   go_region
   all_goals go_wp2
   all_goals refine bodyPost_ret (by simp[results,Tryz.results58,go_sem,x0,x1];try rfl) rfl ?_
   all_goals exact⟨rfl,((HB1.out _).setCell (Nat.le_refl _) _).setCell (Nat.le_refl _) _⟩
 ·obtain rfl:lo=(p.tdiv gg,q.tdiv gg):=by rw[HL.out,if_neg hs]
  clear HL
  by_cases hq0:q=0
  ·subst hq0
   have hp0:¬ p<0:=fun h=>hs (.inr ⟨rfl,h⟩)
   clear hs
   go_upto_region 4 with(fail)
   go_region
   all_goals go_wp2
   all_goals refine bodyPost_ret (by simp[results,Tryz.results58,go_sem,x0,x1];try rfl) rfl ?_
   all_goals exact⟨rfl,((HB1.out _).setCell (Nat.le_refl _) _).setCell (Nat.le_refl _) _⟩
  ·have hqn:¬ q<0:=fun h=>hs (.inl h)
   clear hs
   go_upto_region 4 with(fail)
   go_region
   all_goals go_wp2
   all_goals refine bodyPost_ret (by simp[results,Tryz.results58,go_sem,x0,x1];try rfl) rfl ?_
   all_goals exact⟨rfl,((HB1.out _).setCell (Nat.le_refl _) _).setCell (Nat.le_refl _) _⟩
theorem c_low18 (p q:Int) (w:World) (hp:-4611686018427387904≤p) (hp':p≤4611686018427387904) (hq:-4611686018427387904≤q) (hq':q≤4611686018427387904) (h0:Int.gcd p q≠0):
  Calls Tryz.prog 102 #[.int .i64 p,.int .i64 q] w fun e w'=>e=.returned (.agg #[.int .i64 (low p q).1,.int .i64 (low p q).2])∧Below w.heap.size w w':=by
 obtain⟨lo,hlo⟩:∃ lo,low p q=lo:=⟨_,rfl⟩
 rw[hlo]
 have HG:=Kh (fun w1=>c_gcd18 p q w1 (by omega) (by omega) (by omega) (by omega))
 have hg1:((Int.gcd p q:Nat):Int)∣p:=Int.gcd_dvd_left p q
 have hg2:((Int.gcd p q:Nat):Int)∣q:=Int.gcd_dvd_right p q
 have hgp:0<((Int.gcd p q:Nat):Int):=by omega
 obtain⟨gg,hgg⟩:∃ gg:Int,((Int.gcd p q:Nat):Int)=gg:=⟨_,rfl⟩
 have hgb:gg≤4611686018427387904:=by
  rw[← hgg]
  by_cases hp0:p=0
  ·subst hp0
   rw[Int.gcd_zero_left];omega
  ·have:=Nat.le_of_dvd (by omega) (Int.natAbs_dvd_natAbs.2 (Int.gcd_dvd_left p q));rw[Int.natAbs_natCast]at this;omega
 have HL:=Kh (show lo=if q<0∨(q=0∧p<0)then(-(p.tdiv gg),-(q.tdiv gg))else(p.tdiv gg,q.tdiv gg)by rw[← hlo];unfold low;rw[hgg])
 have b1:-4611686018427387904≤p.tdiv gg∧p.tdiv gg≤4611686018427387904:=by have:=tdiv_b (p:=p) (g:=gg) (K:=4611686018427387904) (by omega);omega
 have b2:-4611686018427387904≤q.tdiv gg∧q.tdiv gg≤4611686018427387904:=by have:=tdiv_b (p:=q) (g:=gg) (K:=4611686018427387904) (by omega);omega
 obtain⟨s1,s2⟩:=tdiv_sgn hgp hg2
 obtain⟨s3,_⟩:=tdiv_sgn hgp hg1
 rw[hgg]at s1 s2 s3
 rw[hgg]at hgp
 have hg0:gg≠0:=by omega
 simp only[hgg]at HG
 clear hg1 hg2 h0 hgg hlo
 go_enter Tryz.func102,Tryz.ntmps102
 go_wp2_with fail
 all_goals obtain⟨w0,hw0⟩:∃ w0,w.alloc (.cells #[.int .i64 0,.int .i64 0] 24)=w0:=⟨_,rfl⟩
 rw[hw0]
 have X:=Blk.new w 24 #[.int .i64 0,.int .i64 0]
 rw[hw0]at X
 have HB:=Kh (show Below w.heap.size w w0 from hw0▸(Below.refl _ _).alloc (Nat.le_refl _) _)
 clear hw0
 refine(HG.out w0).mono ?_
 rintro e w1 ⟨rfl,k,rfl⟩
 have x0:w0.cell? ⟨w.heap.size,0,none⟩=some (.int .i64 0):=X.at_ 0 rfl
 have x1:w0.cell? ⟨w.heap.size,1,none⟩=some (.int .i64 0):=X.at_ 1 rfl
 have f0:w0.frozen? ⟨w.heap.size,0,none⟩=false:=X.free_ 0
 have f1:w0.frozen? ⟨w.heap.size,1,none⟩=false:=X.free_ 1
 have HB1:=Kh (fun j=>below_drewN' HB.out j)
 clear HG HB X
 go_upto_region 2 with(fail)
 go_region
 go_upto_region 3 with(fail)
 generalize p.tdiv gg=u at *
 generalize q.tdiv gg=v at *
 by_cases hs:q<0∨(q=0∧p<0)
 ·obtain rfl:lo=(-u,-v):=by rw[HL.out,if_pos hs]
  clear HL
  by_cases hv:v<0
  ·clear hs s1 s2 s3
   go_wp2
   refine bodyPost_ret (by simp[results,Tryz.results102,go_sem,x0,x1];try rfl) rfl ?_
   exact⟨rfl,((HB1.out _).setCell (Nat.le_refl _) _).setCell (Nat.le_refl _) _⟩
  ·obtain rfl:v=0:=by omega
   have hu:u<0:=by omega
   clear hs s1 s2 s3 hv
   go_wp2
   refine bodyPost_ret (by simp[results,Tryz.results102,go_sem,x0,x1];try rfl) rfl ?_
   exact⟨rfl,((HB1.out _).setCell (Nat.le_refl _) _).setCell (Nat.le_refl _) _⟩
 ·obtain rfl:lo=(u,v):=by rw[HL.out,if_neg hs]
  clear HL
  by_cases hv:v=0
  ·subst hv
   have hu:¬ u<0:=by omega
   clear hs s1 s2 s3
   go_wp2
   refine bodyPost_ret (by simp[results,Tryz.results102,go_sem,x0,x1];try rfl) rfl ?_
   exact⟨rfl,((HB1.out _).setCell (Nat.le_refl _) _).setCell (Nat.le_refl _) _⟩
  ·have hv2:¬ v<0:=by omega
   clear hs s1 s2 s3
   go_wp2
   refine bodyPost_ret (by simp[results,Tryz.results102,go_sem,x0,x1];try rfl) rfl ?_
   exact⟨rfl,((HB1.out _).setCell (Nat.le_refl _) _).setCell (Nat.le_refl _) _⟩
def appV (a b c d p q:Int):(Int×Int)×Int:=
 if cuspE p q≠0 then((0,0),cuspE p q)
 else if inE (low (a*p+b*q) (c*p+d*q)).1=true∧inE (low (a*p+b*q) (c*p+d*q)).2=true then(low (a*p+b*q) (c*p+d*q),0)else((0,0),7)
theorem cuspE_zero {p q:Int} (h:cuspE p q=0):(-1073741824≤p∧p≤1073741824)∧(-1073741824≤q∧q≤1073741824)∧Int.gcd p q=1:=by
 unfold cuspE at h
 split at h
 ·omega
 ·rename_i h1
  split at h
  ·omega
  ·rename_i h2
   have e1:inE p=true:=by
    cases hp:inE p with
    | true=>rfl
    | false=>exact absurd (.inl hp) h1
   have e2:inE q=true:=by
    cases hp:inE q with
    | true=>rfl
    | false=>exact absurd (.inr (.inr hp)) h1
   refine⟨inE_iff.1 e1,inE_iff.1 e2,?_⟩
   rcases Nat.decEq (Int.gcd p q) 1 with h3|h3
   ·exact absurd (.inl h3) h2
   ·exact h3
theorem image_ne {a b c d p q:Int} (hd:a*d - b*c≠0) (h:Int.gcd p q=1):Int.gcd (a*p+b*q) (c*p+d*q)≠0:=by
 intro h0
 obtain⟨h1,h2⟩:=Int.gcd_eq_zero_iff.1 h0
 have e1:(a*d - b*c)*p=d*(a*p+b*q) - b*(c*p+d*q):=by
  rw[Int.sub_mul,Int.mul_add,Int.mul_add]
  have e1:d*(b*q)=b*(d*q):=by rw[← Int.mul_assoc,← Int.mul_assoc,Int.mul_comm d b]
  have e2:a*d*p=d*(a*p):=by rw[← Int.mul_assoc,Int.mul_comm d a]
  have e3:b*c*p=b*(c*p):=Int.mul_assoc _ _ _
  omega
 have e2:(a*d - b*c)*q=a*(c*p+d*q) - c*(a*p+b*q):=by
  rw[Int.sub_mul,Int.mul_add,Int.mul_add]
  have e1:a*(c*p)=c*(a*p):=by rw[← Int.mul_assoc,← Int.mul_assoc,Int.mul_comm a c]
  have e2:a*d*q=a*(d*q):=Int.mul_assoc _ _ _
  have e3:b*c*q=c*(b*q):=by rw[← Int.mul_assoc,Int.mul_comm c b]
  omega
 rw[h1,h2,Int.mul_zero,Int.mul_zero,Int.sub_zero]at e1 e2
 have p0:p=0:=(Int.mul_eq_zero.1 e1).resolve_left hd
 have q0:q=0:=(Int.mul_eq_zero.1 e2).resolve_left hd
 subst p0;subst q0
 simp at h
theorem c_Apply (a b c d p q:Int) (w:World) (ha:-1073741824≤a) (ha':a≤1073741824) (hb:-1073741824≤b) (hb':b≤1073741824) (hc:-1073741824≤c) (hc':c≤1073741824) (hd:-1073741824≤d) (hd':d≤1073741824)
  (hdet:a*d - b*c≠0) (hp:-9223372036854775808≤p) (hp':p≤9223372036854775807) (hq:-9223372036854775808≤q) (hq':q≤9223372036854775807):
  Calls Tryz.prog 31 #[.agg #[.int .i64 a,.int .i64 b,.int .i64 c,.int .i64 d],.agg #[.int .i64 p,.int .i64 q]] w fun e w'=>e=.returned (.tuple #[.agg #[.int .i64 (appV a b c d p q).1.1,.int .i64 (appV a b c d p q).1.2],.int .i64 (appV a b c d p q).2])∧Below w.heap.size w w':=by
 obtain⟨av,hav⟩:∃ av,appV a b c d p q=av:=⟨_,rfl⟩
 rw[hav]
 have HV:=Kh hav
 have HD:=Kh (fun w1=>c_Det a b c d w1 ha ha' hb hb' hc hc' hd hd')
 have HC:=Kh (fun w1=>c_CheckCusp p q w1 hp hp' hq hq')
 have HI:=Kh c_in
 have HM:=Kh (fun(h:cuspE p q=0)=>And.intro (mul_b ha ha' (cuspE_zero h).1.1 (cuspE_zero h).1.2) (And.intro (mul_b hb hb' (cuspE_zero h).2.1.1 (cuspE_zero h).2.1.2) (And.intro (mul_b hc hc' (cuspE_zero h).1.1 (cuspE_zero h).1.2) (mul_b hd hd' (cuspE_zero h).2.1.1 (cuspE_zero h).2.1.2))))
 have HN:=Kh (fun(h:cuspE p q=0)=>image_ne hdet (cuspE_zero h).2.2)
 clear hav ha ha' hb hb' hc hc' hd hd' hp hp' hq hq'
 generalize a*d - b*c=det at HD hdet
 go_enter Tryz.func31,Tryz.ntmps31
 go_wp2_with fail
 obtain⟨w0,hw0,X0,X1,X2,hb0⟩:=bx3 w #[.int .i64 a,.int .i64 b,.int .i64 c,.int .i64 d] 28 #[.int .i64 p,.int .i64 q] 24 #[.int .i64 0,.int .i64 0] 24
 rw[hw0]
 have hs0:w.heap.size≤w0.heap.size:=hb0.size
 clear hw0
 have HX0:=Kh X0
 have HX1:=Kh X1
 have HX2:=Kh X2
 clear X0 X1 X2
 refine(HD.out w0).mono ?_
 rintro e w1 ⟨rfl,hb1⟩
 replace HX0:=Kh (bk HX0 hb1)
 replace HX1:=Kh (bk HX1 hb1)
 replace HX2:=Kh (bk HX2 hb1)
 have HB1:=Kh (hb0.trans (hb1.mono hs0))
 have y0:=HX1.out.at_ 0 rfl
 have y1:=HX1.out.at_ 1 rfl
 clear hb0 hb1 hs0 HD
 go_wp2_with fail
 refine(HC.out w1).mono ?_
 rintro e w2 ⟨rfl,hb2⟩
 replace HX0:=Kh (bk HX0 hb2)
 replace HX1:=Kh (bk HX1 hb2)
 replace HX2:=Kh (bk HX2 hb2)
 have HB2:=bt HB1 hb2
 have z0:=HX2.out.at_ 0 rfl
 have z1:=HX2.out.at_ 1 rfl
 have f0:=HX2.out.free_ 0
 have f1:=HX2.out.free_ 1
 clear hb2 HB1 HC y0 y1
 by_cases hz:cuspE p q=0
 ·have m1:=(HM.out hz).1
  have m2:=(HM.out hz).2.1
  have m3:=(HM.out hz).2.2.1
  have m4:=(HM.out hz).2.2.2
  have HL:=Kh (fun w1=>c_low (a*p+b*q) (c*p+d*q) w1 (by omega) (by omega) (by omega) (by omega) (HN.out hz))
  have HV2:=Kh (show av=if inE (low (a*p+b*q) (c*p+d*q)).1=true∧inE (low (a*p+b*q) (c*p+d*q)).2=true then(low (a*p+b*q) (c*p+d*q),0)else((0,0),7)by rw[← HV.out,appV,if_neg (by simp[hz])])
  have x0:=HX0.out.at_ 0 rfl
  have x1:=HX0.out.at_ 1 rfl
  have x2:=HX0.out.at_ 2 rfl
  have x3:=HX0.out.at_ 3 rfl
  have y0:=HX1.out.at_ 0 rfl
  have y1:=HX1.out.at_ 1 rfl
  rw[hz]
  clear HV HM HN hz z0 z1 f0 f1
  go_wp2_with fail
  refine(HL.out w2).mono ?_
  rintro e w3 ⟨rfl,hb3⟩
  generalize low (a*p+b*q) (c*p+d*q)=lo at HV2
  replace HX2:=Kh (bk HX2 hb3)
  have HB3:=bt HB2 hb3
  clear hb3 HB2 HL x0 x1 x2 x3 y0 y1 m1 m2 m3 m4 HX0 HX1
  obtain⟨l1,l2⟩:=lo
  have z0:∀ o,(w3.alloc o).cell? ⟨w.heap.size+1+1,0,none⟩=some (.int .i64 0):=fun o=>(HX2.out.alloc_ o).at_ 0 rfl
  have z1:∀ o,(w3.alloc o).cell? ⟨w.heap.size+1+1,1,none⟩=some (.int .i64 0):=fun o=>(HX2.out.alloc_ o).at_ 1 rfl
  have f0:∀ o,(w3.alloc o).frozen? ⟨w.heap.size+1+1,0,none⟩=false:=fun o=>(HX2.out.alloc_ o).free_ 0
  have f1:∀ o,(w3.alloc o).frozen? ⟨w.heap.size+1+1,1,none⟩=false:=fun o=>(HX2.out.alloc_ o).free_ 1
  have HF:=Kh (fun(o:Obj) (u v:Value)=>((HB3.out.alloc HB3.out.size o).setCell (p:=⟨w.heap.size+1+1,0,none⟩) (by simp;omega) u).setCell (p:=⟨w.heap.size+1+1,1,none⟩) (by simp;omega) v)
  go_wp2_with fail
  refine(HI.out _ _).mono ?_
  rintro e w4 ⟨rfl,rfl⟩
  cases h1:inE l1 with
  | false=>
   obtain rfl:av=((0,0),7):=by rw[HV2.out,if_neg (by simp[h1])]
   clear HV2 h1 HI
   go_wp2
   refine bodyPost_ret (by simp[results,Tryz.results31,go_sem,z0,z1];try rfl) rfl ?_
   exact⟨rfl,HF.out _ _ _⟩
  | true=>
   go_wp2_with fail
   refine(HI.out _ _).mono ?_
   rintro e w5 ⟨rfl,rfl⟩
   cases h2:inE l2 with
   | false=>
    obtain rfl:av=((0,0),7):=by rw[HV2.out,if_neg (by simp[h2])]
    clear HV2 h1 h2 HI
    go_wp2
    refine bodyPost_ret (by simp[results,Tryz.results31,go_sem,z0,z1];try rfl) rfl ?_
    exact⟨rfl,HF.out _ _ _⟩
   | true=>
    obtain rfl:av=((l1,l2),0):=by rw[HV2.out,if_pos ⟨h1,h2⟩]
    clear HV2 h1 h2 HI
    go_wp2
    refine bodyPost_ret (by simp[results,Tryz.results31,go_sem,z0,z1];try rfl) rfl ?_
    exact⟨rfl,HF.out _ _ _⟩
 ·obtain rfl:av=((0,0),cuspE p q):=by rw[← HV.out,appV,if_pos hz]
  clear HV HM HN
  go_wp2
  refine bodyPost_ret (by simp[results,Tryz.results31,go_sem,z0,z1];try rfl) rfl ?_
  exact⟨rfl,(HB2.out.setCell (p:=⟨w.heap.size+1+1,0,none⟩) (by simp;omega) _).setCell (p:=⟨w.heap.size+1+1,1,none⟩) (by simp;omega) _⟩
theorem c_Image (a b c d p q:Int) (w:World) (ha:-1073741824≤a) (ha':a≤1073741824) (hb:-1073741824≤b) (hb':b≤1073741824) (hc:-1073741824≤c) (hc':c≤1073741824) (hd:-1073741824≤d) (hd':d≤1073741824)
  (hp:-1073741824≤p) (hp':p≤1073741824) (hq:-1073741824≤q) (hq':q≤1073741824) (h0:Int.gcd (a*p+b*q) (c*p+d*q)≠0):
  Calls Tryz.prog 66 #[.agg #[.int .i64 a,.int .i64 b,.int .i64 c,.int .i64 d],.agg #[.int .i64 p,.int .i64 q]] w fun e w'=>e=.returned (.agg #[.int .i64 (low (a*p+b*q) (c*p+d*q)).1,.int .i64 (low (a*p+b*q) (c*p+d*q)).2])∧Below w.heap.size w w':=by
 have m1:=mul_b ha ha' hp hp'
 have m2:=mul_b hb hb' hq hq'
 have m3:=mul_b hc hc' hp hp'
 have m4:=mul_b hd hd' hq hq'
 have hL:=fun w1=>c_low18 (a*p+b*q) (c*p+d*q) w1 (by omega) (by omega) (by omega) (by omega) h0
 obtain⟨lo,hlo⟩:∃ lo,low (a*p+b*q) (c*p+d*q)=lo:=⟨_,rfl⟩
 rw[hlo]at hL ⊢
 have HL:=Kh hL
 clear hL hlo
 clear ha ha' hb hb' hc hc' hd hd' hp hp' hq hq' h0
 go_enter Tryz.func66,Tryz.ntmps66
 go_wp2_with fail
 obtain⟨w0,hw0,X0,X1,X2,hb0⟩:=bx3 w #[.int .i64 a,.int .i64 b,.int .i64 c,.int .i64 d] 28 #[.int .i64 p,.int .i64 q] 24 #[.int .i64 0,.int .i64 0] 24
 rw[hw0]
 have hs0:w.heap.size≤w0.heap.size:=hb0.size
 clear hw0
 have x0:=X0.at_ 0 rfl
 have x1:=X0.at_ 1 rfl
 have x2:=X0.at_ 2 rfl
 have x3:=X0.at_ 3 rfl
 have y0:=X1.at_ 0 rfl
 have y1:=X1.at_ 1 rfl
 have HX2:=Kh X2
 have HB:=Kh hb0
 clear X0 X1 X2 hb0 hs0
 refine(HL.out w0).mono ?_
 rintro e w3 ⟨rfl,hb3⟩
 replace HX2:=Kh (bk HX2 hb3)
 have HB3:=bt HB hb3
 have z0:=HX2.out.at_ 0 rfl
 have z1:=HX2.out.at_ 1 rfl
 have f0:=HX2.out.free_ 0
 have f1:=HX2.out.free_ 1
 clear hb3 HB HL x0 x1 x2 x3 y0 y1 m1 m2 m3 m4
 go_wp2
 refine bodyPost_ret (by simp[results,Tryz.results66,go_sem,z0,z1];try rfl) rfl ?_
 exact⟨rfl,(HB3.out.setCell (p:=⟨w.heap.size+1+1,0,none⟩) (by simp;omega) _).setCell (p:=⟨w.heap.size+1+1,1,none⟩) (by simp;omega) _⟩
theorem c_Apply18 (a b c d p q:Int) (w:World) (ha:-1073741824≤a) (ha':a≤1073741824) (hb:-1073741824≤b) (hb':b≤1073741824) (hc:-1073741824≤c) (hc':c≤1073741824) (hd:-1073741824≤d) (hd':d≤1073741824)
  (hdet:a*d - b*c≠0) (hp:-9223372036854775808≤p) (hp':p≤9223372036854775807) (hq:-9223372036854775808≤q) (hq':q≤9223372036854775807):
  Calls Tryz.prog 34 #[.agg #[.int .i64 a,.int .i64 b,.int .i64 c,.int .i64 d],.agg #[.int .i64 p,.int .i64 q]] w fun e w'=>e=.returned (.tuple #[.agg #[.int .i64 (appV a b c d p q).1.1,.int .i64 (appV a b c d p q).1.2],.int .i64 (appV a b c d p q).2])∧Below w.heap.size w w':=by
 obtain⟨av,hav⟩:∃ av,appV a b c d p q=av:=⟨_,rfl⟩
 rw[hav]
 have HV:=Kh hav
 have HD:=Kh (fun w1=>c_Det18 a b c d w1 ha ha' hb hb' hc hc' hd hd')
 have HC:=Kh (fun w1=>c_CheckCusp18 p q w1 hp hp' hq hq')
 have HI:=Kh c_in18
 have HMI:=Kh (fun(h:cuspE p q=0) w1=>c_Image a b c d p q w1 ha ha' hb hb' hc hc' hd hd' (cuspE_zero h).1.1 (cuspE_zero h).1.2 (cuspE_zero h).2.1.1 (cuspE_zero h).2.1.2 (image_ne hdet (cuspE_zero h).2.2))
 have HM:=Kh (fun(h:cuspE p q=0)=>And.intro (mul_b ha ha' (cuspE_zero h).1.1 (cuspE_zero h).1.2) (And.intro (mul_b hb hb' (cuspE_zero h).2.1.1 (cuspE_zero h).2.1.2) (And.intro (mul_b hc hc' (cuspE_zero h).1.1 (cuspE_zero h).1.2) (mul_b hd hd' (cuspE_zero h).2.1.1 (cuspE_zero h).2.1.2))))
 have HN:=Kh (fun(h:cuspE p q=0)=>image_ne hdet (cuspE_zero h).2.2)
 clear hav ha ha' hb hb' hc hc' hd hd' hp hp' hq hq'
 generalize a*d - b*c=det at HD hdet
 go_enter Tryz.func34,Tryz.ntmps34
 go_wp2_with fail
 obtain⟨w0,hw0,X0,X1,X2,hb0⟩:=bx3 w #[.int .i64 a,.int .i64 b,.int .i64 c,.int .i64 d] 28 #[.int .i64 p,.int .i64 q] 24 #[.int .i64 0,.int .i64 0] 24
 rw[hw0]
 have hs0:w.heap.size≤w0.heap.size:=hb0.size
 clear hw0
 have HX0:=Kh X0
 have HX1:=Kh X1
 have HX2:=Kh X2
 clear X0 X1 X2
 refine(HD.out w0).mono ?_
 rintro e w1 ⟨rfl,hb1⟩
 replace HX0:=Kh (bk HX0 hb1)
 replace HX1:=Kh (bk HX1 hb1)
 replace HX2:=Kh (bk HX2 hb1)
 have HB1:=Kh (hb0.trans (hb1.mono hs0))
 have y0:=HX1.out.at_ 0 rfl
 have y1:=HX1.out.at_ 1 rfl
 clear hb0 hb1 hs0 HD HM HN
 go_wp2_with fail
 refine(HC.out w1).mono ?_
 rintro e w2 ⟨rfl,hb2⟩
 replace HX0:=Kh (bk HX0 hb2)
 replace HX1:=Kh (bk HX1 hb2)
 replace HX2:=Kh (bk HX2 hb2)
 have HB2:=bt HB1 hb2
 have z0:=HX2.out.at_ 0 rfl
 have z1:=HX2.out.at_ 1 rfl
 have f0:=HX2.out.free_ 0
 have f1:=HX2.out.free_ 1
 clear hb2 HB1 HC y0 y1
 by_cases hz:cuspE p q=0
 ·have HL:=Kh (HMI.out hz)
  have HV2:=Kh (show av=if inE (low (a*p+b*q) (c*p+d*q)).1=true∧inE (low (a*p+b*q) (c*p+d*q)).2=true then(low (a*p+b*q) (c*p+d*q),0)else((0,0),7)by rw[← HV.out,appV,if_neg (by simp[hz])])
  have x0:=HX0.out.at_ 0 rfl
  have x1:=HX0.out.at_ 1 rfl
  have x2:=HX0.out.at_ 2 rfl
  have x3:=HX0.out.at_ 3 rfl
  have y0:=HX1.out.at_ 0 rfl
  have y1:=HX1.out.at_ 1 rfl
  rw[hz]
  clear HV hz z0 z1 f0 f1 HMI
  go_wp2_with fail
  refine(HL.out w2).mono ?_
  rintro e w3 ⟨rfl,hb3⟩
  generalize low (a*p+b*q) (c*p+d*q)=lo at HV2
  replace HX2:=Kh (bk HX2 hb3)
  have HB3:=bt HB2 hb3
  clear hb3 HB2 HL x0 x1 x2 x3 y0 y1 HX0 HX1
  obtain⟨l1,l2⟩:=lo
  have z0:∀ o,(w3.alloc o).cell? ⟨w.heap.size+1+1,0,none⟩=some (.int .i64 0):=fun o=>(HX2.out.alloc_ o).at_ 0 rfl
  have z1:∀ o,(w3.alloc o).cell? ⟨w.heap.size+1+1,1,none⟩=some (.int .i64 0):=fun o=>(HX2.out.alloc_ o).at_ 1 rfl
  have f0:∀ o,(w3.alloc o).frozen? ⟨w.heap.size+1+1,0,none⟩=false:=fun o=>(HX2.out.alloc_ o).free_ 0
  have f1:∀ o,(w3.alloc o).frozen? ⟨w.heap.size+1+1,1,none⟩=false:=fun o=>(HX2.out.alloc_ o).free_ 1
  have HF:=Kh (fun(o:Obj) (u v:Value)=>((HB3.out.alloc HB3.out.size o).setCell (p:=⟨w.heap.size+1+1,0,none⟩) (by simp;omega) u).setCell (p:=⟨w.heap.size+1+1,1,none⟩) (by simp;omega) v)
  go_wp2_with fail
  refine(HI.out _ _).mono ?_
  rintro e w4 ⟨rfl,rfl⟩
  cases h1:inE l1 with
  | false=>
   obtain rfl:av=((0,0),7):=by rw[HV2.out,if_neg (by simp[h1])]
   clear HV2 h1 HI
   go_wp2
   refine bodyPost_ret (by simp[results,Tryz.results34,go_sem,z0,z1];try rfl) rfl ?_
   exact⟨rfl,HF.out _ _ _⟩
  | true=>
   go_wp2_with fail
   refine(HI.out _ _).mono ?_
   rintro e w5 ⟨rfl,rfl⟩
   cases h2:inE l2 with
   | false=>
    obtain rfl:av=((0,0),7):=by rw[HV2.out,if_neg (by simp[h2])]
    clear HV2 h1 h2 HI
    go_wp2
    refine bodyPost_ret (by simp[results,Tryz.results34,go_sem,z0,z1];try rfl) rfl ?_
    exact⟨rfl,HF.out _ _ _⟩
   | true=>
    obtain rfl:av=((l1,l2),0):=by rw[HV2.out,if_pos ⟨h1,h2⟩]
    clear HV2 h1 h2 HI
    go_wp2
    refine bodyPost_ret (by simp[results,Tryz.results34,go_sem,z0,z1];try rfl) rfl ?_
    exact⟨rfl,HF.out _ _ _⟩
 ·obtain rfl:av=((0,0),cuspE p q):=by rw[← HV.out,appV,if_pos hz]
  clear HV HMI
  go_wp2
  refine bodyPost_ret (by simp[results,Tryz.results34,go_sem,z0,z1];try rfl) rfl ?_
  exact⟨rfl,(HB2.out.setCell (p:=⟨w.heap.size+1+1,0,none⟩) (by simp;omega) _).setCell (p:=⟨w.heap.size+1+1,1,none⟩) (by simp;omega) _⟩
end Go.Proofs.YtijgdhijdfgpfaaGreatDoor
