/- Contracts of sl2 and halfplaneref18: Lowest. -/
import Derived.Test.YtenlbhlllgppmaaGreatDoorA16
import Derived.Test.YtenlbhlllgppmaaGreatDoorA15
import Derived.Test.YtenlbhlllgppmaaGreatDoorA08
import Derived.Lib.SmallJoins
set_option maxRecDepth 100000
set_option maxHeartbeats 8000000
namespace Go.Proofs.YtenlbhlllgppmaaGreatDoor
section
open Go.RowKit Tryz
def low (p q:Int):Int×Int:=if q<0∨(q=0/\p<0)then(-(p.tdiv ((Int.gcd p q:Nat):Int)),-(q.tdiv ((Int.gcd p q:Nat):Int)))else(p.tdiv ((Int.gcd p q:Nat):Int),q.tdiv ((Int.gcd p q:Nat):Int))
theorem Yu {p g:Int} {K:Nat} (h:p.natAbs<=K):(p.tdiv g).natAbs<=K:=by
 rw[Int.natAbs_tdiv];exact mH (Nat.div_le_self _ _) h
theorem gJ (p q:Int) (w:World) (hp:-4611686018427387904<=p) (cB:p<=4611686018427387904) (hq:-4611686018427387904<=q) (cC:q<=4611686018427387904) (h0:Int.gcd p q≠0):
  Calls prog 118 #[.int .i64 p,.int .i64 q] w λe w'=>e=.returned (.agg #[.int .i64 (low p q).1,.int .i64 (low p q).2])/\Below w.heap.size w w':=by
 obtain⟨lo,V⟩:∃lo,low p q=lo:=⟨_,rfl⟩
 rw[V];have HG:=Kh (λw1=>E7 p q w1 (by omega) (by omega) (by omega) (by omega));have aX:((Int.gcd p q:Nat):Int)∣p:=Int.gcd_dvd_left p q;have bA:((Int.gcd p q:Nat):Int)∣q:=Int.gcd_dvd_right p q;have bB:0<((Int.gcd p q:Nat):Int):=by omega
 obtain⟨I,J⟩:∃I:Int,((Int.gcd p q:Nat):Int)=I:=⟨_,rfl⟩
 have bY:I<=4611686018427387904:=by
  rw[<-J];by_cases Y:p=0
  ·subst Y
   rw[Int.gcd_zero_left];omega
  ·have:=Nat.le_of_dvd (by omega) (Int.natAbs_dvd_natAbs.2 (Int.gcd_dvd_left p q));rw[Int.natAbs_natCast]at this;omega
 have Z:=Kh (show lo=if q<0∨(q=0/\p<0)then(-(p.tdiv I),-(q.tdiv I))else(p.tdiv I,q.tdiv I)by rw[<-V];unfold low;rw[J]);have b1:-4611686018427387904<=p.tdiv I/\p.tdiv I<=4611686018427387904:=by have:=Yu (p:=p) (g:=I) (K:=4611686018427387904) (by omega);omega
 have b2:-4611686018427387904<=q.tdiv I/\q.tdiv I<=4611686018427387904:=by have:=Yu (p:=q) (g:=I) (K:=4611686018427387904) (by omega);omega
 rw[J]at bB;have bH:I≠0:=by omega
 simp only[J]at HG;clear aX bA h0 J V;go_enter func118,ntmps118
 go_wp2_with fail
 all_goals obtain⟨w0,U⟩:∃w0,w.alloc (.cells #[.int .i64 0,.int .i64 0] 47)=w0:=⟨_,rfl⟩
 rw[U];have X:=Blk.new w 47 #[.int .i64 0,.int .i64 0];rw[U]at X;have HB:=Kh (show Below w.heap.size w w0 from U▸(Below.refl _ _).alloc (mG _) _);clear U;refine(HG.1 w0).mono ?_;rintro e w1 ⟨rfl,k,rfl⟩;have x0:w0.cell? ⟨w.heap.size,0,none⟩=some (.int .i64 0):=X.at_ 0 rfl;have x1:w0.cell? ⟨w.heap.size,1,none⟩=some (.int .i64 0):=X.at_ 1 rfl;have f0:w0.frozen? ⟨w.heap.size,0,none⟩=false:=X.free_ 0;have f1:w0.frozen? ⟨w.heap.size,1,none⟩=false:=X.free_ 1;have M:=Kh (λj=>Aa HB.1 j);clear HG HB X;by_cases O:q<0∨(q=0/\p<0)
 ·obtain rfl:lo=(-(p.tdiv I),-(q.tdiv I)):=by rw[Z.1,if_pos O]
  clear Z;have cA:-I≠0:=by omega
  rcases O with O |⟨rfl,O⟩
  ·go_upto_region 4 with(fail)
   go_region
   all_goals go_wp2
   all_goals refine bodyPost_ret (by simp[results,results118,go_sem,x0,x1];try rfl) rfl ?_
   all_goals exact⟨rfl,((M.1 _).setCell (mG _) _).setCell (mG _) _⟩
  ·go_upto_region 4 with(fail)
   go_region
   all_goals go_wp2
   all_goals refine bodyPost_ret (by simp[results,results118,go_sem,x0,x1];try rfl) rfl ?_
   all_goals exact⟨rfl,((M.1 _).setCell (mG _) _).setCell (mG _) _⟩
 ·obtain rfl:lo=(p.tdiv I,q.tdiv I):=by rw[Z.1,if_neg O]
  clear Z;by_cases hq0:q=0
  ·subst hq0
   have Y:¬p<0:=λh=>O (.inr ⟨rfl,h⟩)
   clear O;go_upto_region 4 with(fail)
   go_region
   all_goals go_wp2
   all_goals refine bodyPost_ret (by simp[results,results118,go_sem,x0,x1];try rfl) rfl ?_
   all_goals exact⟨rfl,((M.1 _).setCell (mG _) _).setCell (mG _) _⟩
  ·have cD:¬q<0:=λh=>O (.inl h)
   clear O;go_upto_region 4 with(fail)
   go_region
   all_goals go_wp2
   all_goals refine bodyPost_ret (by simp[results,results118,go_sem,x0,x1];try rfl) rfl ?_
   all_goals exact⟨rfl,((M.1 _).setCell (mG _) _).setCell (mG _) _⟩
def Dy (a b c d p q:Int):(Int×Int)×Int:=
 if Av p q≠0 then((0,0),Av p q)
 else if Hq (low (a*p+b*q) (c*p+d*q)).1=true/\Hq (low (a*p+b*q) (c*p+d*q)).2=true then(low (a*p+b*q) (c*p+d*q),0)else((0,0),7)
theorem cuspE_zero {p q:Int} (h:Av p q=0):(-1073741824<=p/\p<=1073741824)/\(-1073741824<=q/\q<=1073741824)/\Int.gcd p q=1:=by
 unfold Av at h;split at h
 ·omega
 ·rename_i h1
  split at h
  ·omega
  ·rename_i h2
   have J:Hq p=true:=by
    cases hp:Hq p with
    | true=>rfl
    | false=>exact absurd (.inl hp) h1
   have M:Hq q=true:=by
    cases hp:Hq q with
    | true=>rfl
    | false=>exact absurd (.inr (.inr hp)) h1
   refine⟨Dc.1 J,Dc.1 M,?_⟩;rcases Nat.decEq (Int.gcd p q) 1 with I|I
   ·exact absurd (.inl I) h2
   ·exact I
theorem Wv {a b c d p q:Int} (M:a*d - b*c≠0) (h:Int.gcd p q=1):Int.gcd (a*p+b*q) (c*p+d*q)≠0:=by
 intro U;obtain⟨V,Y⟩:=Int.gcd_eq_zero_iff.1 U
 have I:(a*d - b*c)*p=d*(a*p+b*q) - b*(c*p+d*q):=by
  rw[Int.sub_mul,Int.mul_add,Int.mul_add];have I:d*(b*q)=b*(d*q):=by rw[<-Int.mul_assoc,<-Int.mul_assoc,Int.mul_comm d b]
  have J:a*d*p=d*(a*p):=by rw[<-Int.mul_assoc,Int.mul_comm d a]
  have O:b*c*p=b*(c*p):=Int.mul_assoc _ _ _;omega
 have J:(a*d - b*c)*q=a*(c*p+d*q) - c*(a*p+b*q):=by
  rw[Int.sub_mul,Int.mul_add,Int.mul_add];have I:a*(c*p)=c*(a*p):=by rw[<-Int.mul_assoc,<-Int.mul_assoc,Int.mul_comm a c]
  have J:a*d*q=a*(d*q):=Int.mul_assoc _ _ _;have O:b*c*q=c*(b*q):=by rw[<-Int.mul_assoc,Int.mul_comm c b]
  omega
 rw[V,Y,Int.mul_zero,Int.mul_zero,Int.sub_zero]at I J;have p0:p=0:=(Int.mul_eq_zero.1 I).resolve_left M;have q0:q=0:=(Int.mul_eq_zero.1 J).resolve_left M;subst p0;subst q0;simp at h
theorem Ry (a b c d p q:Int) (w:World) (ha:-1073741824<=a) (aK:a<=1073741824) (hb:-1073741824<=b) (aX:b<=1073741824) (hc:-1073741824<=c) (bC:c<=1073741824) (hd:-1073741824<=d) (bE:d<=1073741824)
  (Y:a*d - b*c≠0) (hp:-9223372036854775808<=p) (cF:p<=9223372036854775807) (hq:-9223372036854775808<=q) (cG:q<=9223372036854775807):
  Calls prog 67 #[.agg #[.int .i64 a,.int .i64 b,.int .i64 c,.int .i64 d],.agg #[.int .i64 p,.int .i64 q]] w λe w'=>e=.returned (.tuple #[.agg #[.int .i64 (Dy a b c d p q).1.1,.int .i64 (Dy a b c d p q).1.2],.int .i64 (Dy a b c d p q).2])/\Below w.heap.size w w':=by
 obtain⟨av,aN⟩:∃av,Dy a b c d p q=av:=⟨_,rfl⟩
 rw[aN];have HV:=Kh aN;have HD:=Kh (λw1=>gB a b c d w1 ha aK hb aX hc bC hd bE);have HC:=Kh (λw1=>C3 p q w1 hp cF hq cG);have HI:=Kh eA;have HM:=Kh (λ(h:Av p q=0)=>And.intro (mul_b ha aK (cuspE_zero h).1.1 (cuspE_zero h).1.2) (And.intro (mul_b hb aX (cuspE_zero h).2.1.1 (cuspE_zero h).2.1.2) (And.intro (mul_b hc bC (cuspE_zero h).1.1 (cuspE_zero h).1.2) (mul_b hd bE (cuspE_zero h).2.1.1 (cuspE_zero h).2.1.2))));have HN:=Kh (λ(h:Av p q=0)=>Wv Y (cuspE_zero h).2.2);clear aN ha aK hb aX hc bC hd bE hp cF hq cG;generalize a*d - b*c=det at HD Y;go_enter func67,ntmps67
 go_wp2_with fail
 obtain⟨w0,cV,X0,X1,X2,bA⟩:=Rw w #[.int .i64 a,.int .i64 b,.int .i64 c,.int .i64 d] 63 #[.int .i64 p,.int .i64 q] 47 #[.int .i64 0,.int .i64 0] 47;rw[cV];have cT:w.heap.size<=w0.heap.size:=bA.size;clear cV;have J:=Kh X0;have M:=Kh X1;have I:=Kh X2;clear X0 X1 X2;refine(HD.1 w0).mono ?_;rintro e w1 ⟨rfl,U⟩;replace J:=Kh (bk J U);replace M:=Kh (bk M U);replace I:=Kh (bk I U);have cB:=Kh (bA.trans (U.mono cT));have y0:=M.1.at_ 0 rfl;have y1:=M.1.at_ 1 rfl;clear bA U cT HD;go_wp2_with fail
 refine(HC.1 w1).mono ?_;rintro e w2 ⟨rfl,V⟩;replace J:=Kh (bk J V);replace M:=Kh (bk M V);replace I:=Kh (bk I V);have Z:=bt cB V;have z0:=I.1.at_ 0 rfl;have z1:=I.1.at_ 1 rfl;have f0:=I.1.free_ 0;have f1:=I.1.free_ 1;clear V cB HC y0 y1;by_cases hz:Av p q=0
 ·have m1:=(HM.1 hz).1
  have m2:=(HM.1 hz).2.1;have m3:=(HM.1 hz).2.2.1;have m4:=(HM.1 hz).2.2.2;have HL:=Kh (λw1=>gJ (a*p+b*q) (c*p+d*q) w1 (by omega) (by omega) (by omega) (by omega) (HN.1 hz));have O:=Kh (show av=if Hq (low (a*p+b*q) (c*p+d*q)).1=true/\Hq (low (a*p+b*q) (c*p+d*q)).2=true then(low (a*p+b*q) (c*p+d*q),0)else((0,0),7)by rw[<-HV.1,Dy,if_neg (by simp[hz])]);have x0:=J.1.at_ 0 rfl;have x1:=J.1.at_ 1 rfl;have x2:=J.1.at_ 2 rfl;have x3:=J.1.at_ 3 rfl;have y0:=M.1.at_ 0 rfl;have y1:=M.1.at_ 1 rfl;rw[hz];clear HV HM HN hz z0 z1 f0 f1;go_wp2_with fail
  refine(HL.1 w2).mono ?_;rintro e w3 ⟨rfl,bB⟩;generalize low (a*p+b*q) (c*p+d*q)=lo at O;replace I:=Kh (bk I bB);have cC:=bt Z bB;clear bB Z HL x0 x1 x2 x3 y0 y1 m1 m2 m3 m4 J M;obtain⟨l1,l2⟩:=lo;have z0:∀o,(w3.alloc o).cell? ⟨w.heap.size+1+1,0,none⟩=some (.int .i64 0):=λo=>(I.1.alloc_ o).at_ 0 rfl
  have z1:∀o,(w3.alloc o).cell? ⟨w.heap.size+1+1,1,none⟩=some (.int .i64 0):=λo=>(I.1.alloc_ o).at_ 1 rfl
  have f0:∀o,(w3.alloc o).frozen? ⟨w.heap.size+1+1,0,none⟩=false:=λo=>(I.1.alloc_ o).free_ 0
  have f1:∀o,(w3.alloc o).frozen? ⟨w.heap.size+1+1,1,none⟩=false:=λo=>(I.1.alloc_ o).free_ 1
  have HF:=Kh (λ(o:Obj) (u v:Value)=>((cC.1.alloc cC.1.size o).setCell (p:=⟨w.heap.size+1+1,0,none⟩) (by simp;omega) u).setCell (p:=⟨w.heap.size+1+1,1,none⟩) (by simp;omega) v);go_wp2_with fail
  refine(HI.1 _ _).mono ?_;rintro e w4 ⟨rfl,rfl⟩;cases h1:Hq l1 with
  | false=>
   obtain rfl:av=((0,0),7):=by rw[O.1,if_neg (by simp[h1])]
   clear O h1 HI;go_wp2;refine bodyPost_ret (by simp[results,results67,go_sem,z0,z1];try rfl) rfl ?_;exact⟨rfl,HF.1 _ _ _⟩
  | true=>
   go_wp2_with fail
   refine(HI.1 _ _).mono ?_;rintro e w5 ⟨rfl,rfl⟩;cases h2:Hq l2 with
   | false=>
    obtain rfl:av=((0,0),7):=by rw[O.1,if_neg (by simp[h2])]
    clear O h1 h2 HI;go_wp2;refine bodyPost_ret (by simp[results,results67,go_sem,z0,z1];try rfl) rfl ?_;exact⟨rfl,HF.1 _ _ _⟩
   | true=>
    obtain rfl:av=((l1,l2),0):=by rw[O.1,if_pos ⟨h1,h2⟩]
    clear O h1 h2 HI;go_wp2;refine bodyPost_ret (by simp[results,results67,go_sem,z0,z1];try rfl) rfl ?_;exact⟨rfl,HF.1 _ _ _⟩
 ·obtain rfl:av=((0,0),Av p q):=by rw[<-HV.1,Dy,if_pos hz]
  clear HV HM HN;go_wp2;refine bodyPost_ret (by simp[results,results67,go_sem,z0,z1];try rfl) rfl ?_;exact⟨rfl,(Z.1.setCell (p:=⟨w.heap.size+1+1,0,none⟩) (by simp;omega) _).setCell (p:=⟨w.heap.size+1+1,1,none⟩) (by simp;omega) _⟩
def TV (B:Nat) (w0 w:World):List Addr->Prop
 | []=>Below B w0 w/\B<=w.heap.size
 | a :: m=>w.cell? a=some (cellOf w a)/\w.frozen? a=false/\TV B w0 w m
def TT (B:Nat) (w0 w:World) (l:List (Addr×Value)) (m:List Addr):Prop:=
 match l with
 | []=>TV B w0 w m
 |(a,v) :: l=>w.cell? a=some v/\TT B w0 w l m
theorem TV.next {B:Nat} {w0 w w':World} {m:List Addr} (I:Below w.heap.size w w') (h:TV B w0 w m):TV B w0 w' m:=by
 induction m with
 | nil=>exact⟨h.1.trans (I.mono h.2),mH h.2 I.size⟩
 | cons a m ih=>
  obtain⟨J,M,O⟩:=h;have U:=World.block_lt_of_cell? w a J;refine⟨Am (by rw[I.cell U];exact Iz J),Ac I (Iz J) M,ih O⟩
theorem TT.next {B:Nat} {w0 w w':World} {l:List (Addr×Value)} {m:List Addr} (I:Below w.heap.size w w') (h:TT B w0 w l m):TT B w0 w' l m:=by
 induction l with
 | nil=>exact TV.next I h
 | cons x l ih=>exact⟨(I.cell (World.block_lt_of_cell? w x.1 h.1)).trans h.1,ih h.2⟩
theorem TV.below {B:Nat} {w0 w:World} {m:List Addr} (h:TV B w0 w m):Below B w0 w:=by
 induction m with
 | nil=>exact h.1
 | cons a m ih=>exact ih h.2.2
theorem TT.below {B:Nat} {w0 w:World} {l:List (Addr×Value)} {m:List Addr} (h:TT B w0 w l m):Below B w0 w:=by
 induction l with
 | nil=>exact TV.below h
 | cons x l ih=>exact ih h.2
theorem TV.put {B:Nat} {w0 w:World} {m:List Addr} (h:TV B w0 w m) (p:Addr) (v:Value) (I:B<=p.block):TV B w0 (w.setCell p v) m:=by
 induction m with
 | nil=>exact⟨h.1.setCell I v,by simpa using h.2⟩
 | cons a m ih=>exact⟨Am (Gg (Iz h.1)),At h.2.1,ih h.2.2⟩
theorem TT.put {B:Nat} {w0 w:World} {l:List (Addr×Value)} {m:List Addr} (h:TT B w0 w l m) (p:Addr) (v:Value) (J:B<=p.block) (I:∀x∈l,p.block≠x.1.block):TT B w0 (w.setCell p v) l m:=by
 induction l with
 | nil=>exact TV.put h p v J
 | cons x l ih=>
  refine⟨?_,ih h.2 (λy M=>I y (List.mem_cons_of_mem _ M))⟩;rw[World.cell?_setCell_far w p x.1 v (I x (List.mem_cons_self ..))];exact h.1
abbrev U7 (B:Nat) (w0 w:World) (a0 a1 a2 a3 a4 a5 a6 a7 a8 b0 b1 b2 b3 b4:Addr) (v0 v1 v2 v3 v4 v5 v6 v7 v8:Value):Prop:=w.cell? a0=some v0/\w.cell? a1=some v1/\w.cell? a2=some v2/\w.cell? a3=some v3/\w.cell? a4=some v4/\w.cell? a5=some v5/\w.cell? a6=some v6/\w.cell? a7=some v7/\w.cell? a8=some v8/\w.cell? b0=some (cellOf w b0)/\w.frozen? b0=false/\w.cell? b1=some (cellOf w b1)/\w.frozen? b1=false/\w.cell? b2=some (cellOf w b2)/\w.frozen? b2=false/\w.cell? b3=some (cellOf w b3)/\w.frozen? b3=false/\w.cell? b4=some (cellOf w b4)/\w.frozen? b4=false/\Below B w0 w/\B<=w.heap.size
theorem Lj {B:Nat} {w0 w w':World} {I J M O U V Y Z a8 b0 b1 b2 b3 b4:Addr} {v0 v1 v2 v3 v4 v5 v6 v7 v8:Value} (hb:Below w.heap.size w w') (h:U7 B w0 w I J M O U V Y Z a8 b0 b1 b2 b3 b4 v0 v1 v2 v3 v4 v5 v6 v7 v8):U7 B w0 w' I J M O U V Y Z a8 b0 b1 b2 b3 b4 v0 v1 v2 v3 v4 v5 v6 v7 v8:=TT.next (B:=B) (w0:=w0) (l:=[(I,v0),(J,v1),(M,v2),(O,v3),(U,v4),(V,v5),(Y,v6),(Z,v7),(a8,v8)]) (m:=[b0,b1,b2,b3,b4]) hb h
theorem Jn {B:Nat} {w0 w:World} {I J M O U V Y Z a8 b0 b1 b2 b3 b4:Addr} {v0 v1 v2 v3 v4 v5 v6 v7 v8:Value} (h:U7 B w0 w I J M O U V Y Z a8 b0 b1 b2 b3 b4 v0 v1 v2 v3 v4 v5 v6 v7 v8):Below B w0 w:=TT.below (B:=B) (w0:=w0) (l:=[(I,v0),(J,v1),(M,v2),(O,v3),(U,v4),(V,v5),(Y,v6),(Z,v7),(a8,v8)]) (m:=[b0,b1,b2,b3,b4]) h
theorem Vg {B:Nat} {w0 w:World} {I J M O U V Y Z a8 b0 b1 b2 b3 b4:Addr} {v0 v1 v2 v3 v4 v5 v6 v7 v8:Value} (h:U7 B w0 w I J M O U V Y Z a8 b0 b1 b2 b3 b4 v0 v1 v2 v3 v4 v5 v6 v7 v8) {p0 p1 p2 p3 p4:Addr} {u0 u1 u2 u3 u4:Value} (mC:B<=p0.block) (cF:p0.block≠I.block) (cG:p0.block≠J.block) (cT:p0.block≠M.block) (cV:p0.block≠O.block) (cX:p0.block≠U.block) (cY:p0.block≠V.block) (dC:p0.block≠Y.block) (dE:p0.block≠Z.block) (dX:p0.block≠a8.block) (mD:B<=p1.block) (dY:p1.block≠I.block) (eP:p1.block≠J.block) (eV:p1.block≠M.block) (gA:p1.block≠O.block) (gF:p1.block≠U.block) (gL:p1.block≠V.block) (gN:p1.block≠Y.block) (gP:p1.block≠Z.block) (gS:p1.block≠a8.block) (mE:B<=p2.block) (gU:p2.block≠I.block) (gX:p2.block≠J.block) (gY:p2.block≠M.block) (hB:p2.block≠O.block) (hD:p2.block≠U.block) (hE:p2.block≠V.block) (hG:p2.block≠Y.block) (hI:p2.block≠Z.block) (hJ:p2.block≠a8.block) (mL:B<=p3.block) (hL:p3.block≠I.block) (hM:p3.block≠J.block) (hN:p3.block≠M.block) (hO:p3.block≠O.block) (hP:p3.block≠U.block) (hQ:p3.block≠V.block) (hR:p3.block≠Y.block) (hS:p3.block≠Z.block) (hT:p3.block≠a8.block) (mM:B<=p4.block) (hU:p4.block≠I.block) (hV:p4.block≠J.block) (hW:p4.block≠M.block) (hX:p4.block≠O.block) (hY:p4.block≠U.block) (hZ:p4.block≠V.block) (iL:p4.block≠Y.block) (mA:p4.block≠Z.block) (mB:p4.block≠a8.block):U7 B w0 (((((w.setCell p0 u0).setCell p1 u1).setCell p2 u2).setCell p3 u3).setCell p4 u4) I J M O U V Y Z a8 b0 b1 b2 b3 b4 v0 v1 v2 v3 v4 v5 v6 v7 v8:=(TT.put (B:=B) (w0:=w0) (l:=[(I,v0),(J,v1),(M,v2),(O,v3),(U,v4),(V,v5),(Y,v6),(Z,v7),(a8,v8)]) (m:=[b0,b1,b2,b3,b4]) (TT.put (B:=B) (w0:=w0) (l:=[(I,v0),(J,v1),(M,v2),(O,v3),(U,v4),(V,v5),(Y,v6),(Z,v7),(a8,v8)]) (m:=[b0,b1,b2,b3,b4]) (TT.put (B:=B) (w0:=w0) (l:=[(I,v0),(J,v1),(M,v2),(O,v3),(U,v4),(V,v5),(Y,v6),(Z,v7),(a8,v8)]) (m:=[b0,b1,b2,b3,b4]) (TT.put (B:=B) (w0:=w0) (l:=[(I,v0),(J,v1),(M,v2),(O,v3),(U,v4),(V,v5),(Y,v6),(Z,v7),(a8,v8)]) (m:=[b0,b1,b2,b3,b4]) (TT.put (B:=B) (w0:=w0) (l:=[(I,v0),(J,v1),(M,v2),(O,v3),(U,v4),(V,v5),(Y,v6),(Z,v7),(a8,v8)]) (m:=[b0,b1,b2,b3,b4]) h p0 u0 mC (by simp[*])) p1 u1 mD (by simp[*])) p2 u2 mE (by simp[*])) p3 u3 mL (by simp[*])) p4 u4 mM (by simp[*]))
def NotU32 (v:Value):Prop:=∀n,v≠.int .u32 n
theorem Er (n:Int):¬NotU32 (.int .u32 n):=λh=>h _ rfl
theorem Bc {K:Value->Prop} {w:World} {R:Nat} (h:Stk K w R) (p:Addr) (u:Value) (J:K u):Stk K (w.setCell p u) R:=by
 refine⟨by simpa using h.1,λi v I=>?_⟩;by_cases hp:p=⟨R,i,none⟩
 ·cases hc:w.cell? p with
  | none=>
   have:(w.setCell p u).cell? p=none:=Ev u hc;rw[<-hp,this]at I;cases I
  | some y=>
   rw[<-hp,World.cell?_setCell_same' _ _ _ (by rw[hc];rfl)]at I;injection I with I
   rw[<-I];exact J
 ·rw[World.cell?_setCell_other _ _ _ _ hp]at I
  exact h.2 i v I
theorem I32.putK {w:World} {R:Nat} (M:Stk NotU32 w R) (i:Nat) (u:Value):I32 w (w.setCell ⟨R,i,none⟩ u):=
 ⟨by simp,λg j n e=>by
  have I:R≠g:=λJ=>M.2 j _ (by rw[J];exact e) _ rfl
  rw[World.cell?_setCell_far w ⟨R,i,none⟩ ⟨g,j,none⟩ u I];exact e⟩
theorem I32.path {w:World} {R:Nat} (J:Stk NotU32 w R) (p:Option Addr) (n c:Nat) (i j k l:Int):
  I32 w (((((w.setCell ⟨R,0,none⟩ (.slice p n c)).setCell ⟨R,1,none⟩ (.int .i64 i)).setCell ⟨R,2,none⟩ (.int .i64 j)).setCell ⟨R,3,none⟩ (.int .i64 k)).setCell ⟨R,4,none⟩ (.int .i64 l)):=by
 have V:NotU32 (.slice p n c):=λ_ h=>by cases h
 have I:∀x:Int,NotU32 (.int .i64 x):=λx _ h=>by cases h
 have M:=Bc J ⟨R,0,none⟩ (.slice p n c) V;have O:=Bc M ⟨R,1,none⟩ (.int .i64 i) (I i);have U:=Bc O ⟨R,2,none⟩ (.int .i64 j) (I j);have Y:=Bc U ⟨R,3,none⟩ (.int .i64 k) (I k);exact((((I32.putK J 0 _).trans (I32.putK M 1 _)).trans (I32.putK O 2 _)).trans (I32.putK U 3 _)).trans (I32.putK Y 4 _)
theorem QRow.i32 {F:Nat->FP} (hF:∀j,Bh (F j)) {w w':World} {g N k R:Nat} (h:QRow F w g N k) (U:I32 w w') (hg:w.grownBy w' (some R)) (J:g≠R):QRow F w' g N k:=by
 have M:∀j v,w.cell? ⟨g,j,none⟩=some v->w'.cell? ⟨g,j,none⟩=some v:=λj v e=>hg.cell e (λO=>by injection O with O;exact J O)
 have I:w'.heap[g]?=w.heap[g]?:=hg.block g h.sts.1 (λe=>by injection e with e;exact J e);refine⟨⟨mI h.sts.1 hg.size,λi v hv=>h.sts.2 i v ((World.cell?_of_block (a:=⟨g,i,none⟩) I).symm.trans hv)⟩,λi V=>(World.frozen?_of_block (a:=⟨g,i,none⟩) I).trans (h.free i V),λi V=>?_,λj hj=>?_⟩
 ·rw[World.cell?_of_block (a:=⟨g,i,none⟩) I];exact h.has i V
 ·obtain⟨s,p,n,c,t,q,m,d,Y,Z,h2,h3,h4⟩:=h.val j hj
  exact⟨s,p,n,c,t,q,m,d,M _ _ Y,M _ _ Z,M _ _ h2,M _ _ h3,hF j _ _ _ _ _ _ _ _ _ _ U h4⟩
theorem Jr (w:World) (g:Nat) (v0 v1 v2 v3 I:Value):w.grownBy (((((w.setCell ⟨g,0,none⟩ v0).setCell ⟨g,1,none⟩ v1).setCell ⟨g,2,none⟩ v2).setCell ⟨g,3,none⟩ v3).setCell ⟨g,4,none⟩ I) (some g):=
 ((((Ai w g 0 v0).trans (Ai _ g 1 v1)).trans (Ai _ g 2 v2)).trans (Ai _ g 3 v3)).trans (Ai _ g 4 I)
def cZ (a b c d p q p' q':Int):Int:=if(Dy a b c d p q).2≠0 then(Dy a b c d p q).2 else(Dy a b c d p' q').2
def RetP (w:World) (w':World) (e:Ending) (n:Nat) (f:Nat->Rat) (x y:Int×Int) (er:Int):Prop:=
 (er≠0/\e=.returned (.tuple #[.agg #[.slice none 0 0,.int .i64 0,.int .i64 0,.int .i64 0,.int .i64 0],.int .i64 er])) ∨
 (er=0/\∃g cap,e=.returned (.tuple #[.agg #[.slice (some ⟨g,0,none⟩) n cap,.int .i64 x.1,.int .i64 x.2,.int .i64 y.1,.int .i64 y.2],.int .i64 0])/\w.heap.size<=g/\QRow (λj=>IsQ (f j)) w' g n n)
theorem El (K:Nat) (gS:1<=K) (gU:K<=1000000) (v:Value) (n:Nat) (x y:Nat->Int) (p q p' q' a b c d:Int) (w:World) (h:QL (λj=>IsB K (x j) (y j)) w v n) (h0:0<n) (hn:n<=23) (ha:-1073741824<=a) (cB:a<=1073741824) (hb:-1073741824<=b) (cX:b<=1073741824) (hc:-1073741824<=c) (dC:c<=1073741824) (hd:-1073741824<=d) (cC:d<=1073741824) (bH:a*d - b*c≠0)
  (hp:-9223372036854775808<=p) (hB:p<=9223372036854775807) (hq:-9223372036854775808<=q) (hD:q<=9223372036854775807) (hr:-9223372036854775808<=p') (hE:p'<=9223372036854775807) (hs:-9223372036854775808<=q') (hI:q'<=9223372036854775807):
  Calls prog 25 #[.agg #[v,.int .i64 p,.int .i64 q,.int .i64 p',.int .i64 q'],.agg #[.int .i64 a,.int .i64 b,.int .i64 c,.int .i64 d]] w λe w'=>RetP w w' e n (subst (λi=>Rat.divInt (x i) (y i)) (n - 1) d (-b) (-c) a n) (Dy a b c d p q).1 (Dy a b c d p' q').1 (cZ a b c d p q p' q')/\Below w.heap.size w w':=by
 have hv:=h;obtain⟨g1,o1,l1,rfl,nJ,_⟩:=h.resolve_left (λh=>by omega);have bB:=Kh (λJ=>Ry a b c d p q J ha cB hb cX hc dC hd cC bH hp hB hq hD);have bC:=Kh (λJ=>Ry a b c d p' q' J ha cB hb cX hc dC hd cC bH hr hE hs hI);have gL:=Kh (λJ (mN:Below w.heap.size w J)=>Ou K gS gU (.slice (some ⟨g1,o1,none⟩) n l1) n x y d (-b) (-c) a J (hv.keep (λj=>IsB.solid _ _ _) mN) h0 (by omega) hd cC (by omega) (by omega) (by omega) (by omega) ha cB);have nH:IntKind.i64.wrap (-b)=-b:=IntWalk.i64_in _ (by omega);have nI:IntKind.i64.wrap (-c)=-c:=IntWalk.i64_in _ (by omega);obtain⟨er,dE⟩:∃er,cZ a b c d p q p' q'=er:=⟨_,rfl⟩
 have aX:=Kh (show er=if(Dy a b c d p q).2≠0 then(Dy a b c d p q).2 else(Dy a b c d p' q').2 by rw[<-dE];rfl);rw[dE];obtain⟨mA,cG⟩:∃av,Dy a b c d p q=av:=⟨_,rfl⟩
 obtain⟨mB,cT⟩:∃av,Dy a b c d p' q'=av:=⟨_,rfl⟩
 simp only[cG,cT]at bB bC aX ⊢;obtain⟨⟨x1,y1⟩,e1⟩:=mA;obtain⟨⟨x2,y2⟩,e2⟩:=mB;obtain⟨fn,dX⟩:∃fn,subst (λi=>Rat.divInt (x i) (y i)) (n - 1) d (-b) (-c) a n=fn:=⟨_,rfl⟩
 rw[dX];simp only[dX]at gL;dsimp only at aX ⊢;have nK:¬(n:Int)<1:=by omega
 have nL:¬(n:Int) > 23:=by omega
 clear h hv ha cB hb cX hc dC hd cC bH hp hB hq hD hr hE hs hI gS gU cG cT dE dX;go_enter func25,ntmps25
 go_wp2_with fail
 obtain⟨w0,hL,X0,X1,Z,cY⟩:=Rw w #[.slice (some ⟨g1,o1,none⟩) n l1,.int .i64 p,.int .i64 q,.int .i64 p',.int .i64 q'] 57 #[.int .i64 a,.int .i64 b,.int .i64 c,.int .i64 d] 63 #[.slice none 0 0,.int .i64 0,.int .i64 0,.int .i64 0,.int .i64 0] 57;rw[hL];have mP:w.heap.size<=w0.heap.size:=cY.size;clear hL;have U:=Kh X0;have O:=Kh X1;have I:=Kh Z;have gA:=Kh cY;clear X0 X1 Z cY mP;refine(bB.1 w0).mono ?_;rintro e M ⟨rfl,bG⟩;replace U:=Kh (bk U bG);replace O:=Kh (bk O bG);replace I:=Kh (bk I bG);have aK:=bt gA bG;have gF:=Kh (show w.heap.size+1+1<M.heap.size from I.1.lt);clear bG gA bB;have z0:∀o,(M.alloc o).cell? ⟨w.heap.size+1+1,0,none⟩=some (.slice none 0 0):=λo=>(I.1.alloc_ o).at_ 0 rfl
 have f0:∀o,(M.alloc o).frozen? ⟨w.heap.size+1+1,0,none⟩=false:=λo=>(I.1.alloc_ o).free_ 0
 have z1:∀o,(M.alloc o).cell? ⟨w.heap.size+1+1,1,none⟩=some (.int .i64 0):=λo=>(I.1.alloc_ o).at_ 1 rfl
 have f1:∀o,(M.alloc o).frozen? ⟨w.heap.size+1+1,1,none⟩=false:=λo=>(I.1.alloc_ o).free_ 1
 have z2:∀o,(M.alloc o).cell? ⟨w.heap.size+1+1,2,none⟩=some (.int .i64 0):=λo=>(I.1.alloc_ o).at_ 2 rfl
 have f2:∀o,(M.alloc o).frozen? ⟨w.heap.size+1+1,2,none⟩=false:=λo=>(I.1.alloc_ o).free_ 2
 have z3:∀o,(M.alloc o).cell? ⟨w.heap.size+1+1,3,none⟩=some (.int .i64 0):=λo=>(I.1.alloc_ o).at_ 3 rfl
 have f3:∀o,(M.alloc o).frozen? ⟨w.heap.size+1+1,3,none⟩=false:=λo=>(I.1.alloc_ o).free_ 3
 have z4:∀o,(M.alloc o).cell? ⟨w.heap.size+1+1,4,none⟩=some (.int .i64 0):=λo=>(I.1.alloc_ o).at_ 4 rfl
 have f4:∀o,(M.alloc o).frozen? ⟨w.heap.size+1+1,4,none⟩=false:=λo=>(I.1.alloc_ o).free_ 4
 by_cases h1:e1=0
 ·subst h1
  have HE:=Kh (show er=e2 by rw[aX.1,if_neg (by simp)]);have u0:∀o,(M.alloc o).cell? ⟨w.heap.size,3,none⟩=some (.int .i64 p'):=λo=>(U.1.alloc_ o).at_ 3 rfl
  have u1:∀o,(M.alloc o).cell? ⟨w.heap.size,4,none⟩=some (.int .i64 q'):=λo=>(U.1.alloc_ o).at_ 4 rfl
  have m0:∀o,(M.alloc o).cell? ⟨w.heap.size+1,0,none⟩=some (.int .i64 a):=λo=>(O.1.alloc_ o).at_ 0 rfl
  have m1:∀o,(M.alloc o).cell? ⟨w.heap.size+1,1,none⟩=some (.int .i64 b):=λo=>(O.1.alloc_ o).at_ 1 rfl
  have m2:∀o,(M.alloc o).cell? ⟨w.heap.size+1,2,none⟩=some (.int .i64 c):=λo=>(O.1.alloc_ o).at_ 2 rfl
  have m3:∀o,(M.alloc o).cell? ⟨w.heap.size+1,3,none⟩=some (.int .i64 d):=λo=>(O.1.alloc_ o).at_ 3 rfl
  clear z0 z1 z2 z3 z4 f0 f1 f2 f3 f4 aX;go_wp2_with fail
  refine(bC.1 _).mono ?_;rintro e w5 ⟨rfl,bA⟩;have V:∀o,Below M.heap.size M (M.alloc o):=λo=>(Below.refl _ _).alloc (mG _) o
  have bE:=Kh ((aK.1.trans ((V _).mono aK.1.size)).trans (bA.mono (by have:=aK.1.size;simp;omega)));have cV:=Kh ((Blk.new M 47 #[.int .i64 x1,.int .i64 y1]).below_ bA (by simp));replace U:=Kh ((U.1.alloc_ _).below_ bA (U.1.alloc_ _).lt);replace O:=Kh ((O.1.alloc_ _).below_ bA (O.1.alloc_ _).lt);replace I:=Kh ((I.1.alloc_ _).below_ bA (I.1.alloc_ _).lt);have nM:w.heap.size<=M.heap.size:=aK.1.size;clear bA V aK bC u0 u1 m0 m1 m2 m3;by_cases h2:e2=0
  ·subst h2
   go_upto_region 9 with(fail)
   obtain⟨w6,cD⟩:∃w6,w5.alloc (.cells #[.int .i64 x2,.int .i64 y2] 47)=w6:=⟨_,rfl⟩
   rw[cD];have V:Below w5.heap.size w5 w6:=cD▸(Below.refl _ _).alloc (mG _) _;have X8:Blk w6 w5.heap.size 47 #[.int .i64 x2,.int .i64 y2]:=cD▸Blk.new w5 _ _;have X6:=bk cV V;have X0:=bk U V;have X1:=bk O V;have Z:=bk I V;have gX:=bE.1.trans (V.mono bE.1.size);have nN:=cV.1.lt;have nE:=gF.1;have mE:w.heap.size+1+1<w6.heap.size:=Z.lt;have Y:=Kh Z;have hX:=Kh (Stk.of (K:=NotU32) Z (by intro v hv;simp at hv;rcases hv with rfl|rfl <;> exact λ_ h=>by cases h));clear U O I cV bE V cD;have mL:=Lj (Below.refl _ w6).drew ⟨X0.c0,X1.c0,X1.c1,X1.c2,X1.c3,X6.c0,X6.c1,X8.c0,X8.c1,Z.so 0,Z.free_ 0,Z.so 1,Z.free_ 1,Z.so 2,Z.free_ 2,Z.so 3,Z.free_ 3,Z.so 4,Z.free_ 4,gX,Below.size (show Below w.heap.size w w6 from gX)⟩;clear X0 X1 Z X6 X8;have M1:True:=trivial
   go_region_held3 (λJ=>J.cell? ⟨w.heap.size,0,none⟩=some (.slice (some ⟨g1,o1,none⟩) n l1)/\J.cell? ⟨w.heap.size+1,0,none⟩=some (.int .i64 a)/\J.cell? ⟨w.heap.size+1,1,none⟩=some (.int .i64 b)/\J.cell? ⟨w.heap.size+1,2,none⟩=some (.int .i64 c)/\J.cell? ⟨w.heap.size+1,3,none⟩=some (.int .i64 d)/\J.cell? ⟨M.heap.size,0,none⟩=some (.int .i64 x1)/\J.cell? ⟨M.heap.size,1,none⟩=some (.int .i64 y1)/\J.cell? ⟨w5.heap.size,0,none⟩=some (.int .i64 x2)/\J.cell? ⟨w5.heap.size,1,none⟩=some (.int .i64 y2)/\J.cell? ⟨w.heap.size+1+1,0,none⟩=some (cellOf J ⟨w.heap.size+1+1,0,none⟩)/\J.frozen? ⟨w.heap.size+1+1,0,none⟩=false/\J.cell? ⟨w.heap.size+1+1,1,none⟩=some (cellOf J ⟨w.heap.size+1+1,1,none⟩)/\J.frozen? ⟨w.heap.size+1+1,1,none⟩=false/\J.cell? ⟨w.heap.size+1+1,2,none⟩=some (cellOf J ⟨w.heap.size+1+1,2,none⟩)/\J.frozen? ⟨w.heap.size+1+1,2,none⟩=false/\J.cell? ⟨w.heap.size+1+1,3,none⟩=some (cellOf J ⟨w.heap.size+1+1,3,none⟩)/\J.frozen? ⟨w.heap.size+1+1,3,none⟩=false/\J.cell? ⟨w.heap.size+1+1,4,none⟩=some (cellOf J ⟨w.heap.size+1+1,4,none⟩)/\J.frozen? ⟨w.heap.size+1+1,4,none⟩=false/\Below w.heap.size w J/\w.heap.size<=J.heap.size)
    (first|with_reducible exact mL|with_reducible assumption |(refine Lj (by with_reducible assumption) ?_;assumption) |(refine Vg ?_ ?_ ?_ ?_ ?_ ?_ ?_ ?_ ?_ ?_ ?_ ?_ ?_ ?_ ?_ ?_ ?_ ?_ ?_ ?_ ?_ ?_ ?_ ?_ ?_ ?_ ?_ ?_ ?_ ?_ ?_ ?_ ?_ ?_ ?_ ?_ ?_ ?_ ?_ ?_ ?_ ?_ ?_ ?_ ?_ ?_ ?_ ?_ ?_ ?_ ?_ <;> first|assumption |(dsimp only;omega) |(simp;done)))
    (first
     |(go_at_call 68;refine(gL.1 _ (Jn (by with_reducible assumption))).mono ?_;rintro e w7 ⟨⟨g7,rfl,dY,hG⟩,gY⟩;have aN:Below w6.heap.size w6 w7:=(by first|exact(Below.refl _ w6).drew.trans gY|exact gY);have hV:=Kh (show w.heap.size<=g7 from mH (by simp only[World.drew];omega) dY);have hW:=Kh (QRow.i32 (λ_=>IsQ.solid _) hG (I32.path (hX.1.next aN) (some ⟨g7,0,none⟩) n n x1 y1 x2 y2) (Jr _ _ _ _ _ _ _) (Nat.ne_of_gt (mI mE (mH (by simp only[World.drew];omega) dY))));have r0:w7.cell? ⟨w.heap.size+1+1,0,none⟩=some (.slice none 0 0):=(bk Y aN).at_ 0 rfl;have r1:w7.cell? ⟨w.heap.size+1+1,1,none⟩=some (.int .i64 0):=(bk Y aN).at_ 1 rfl;have r2:w7.cell? ⟨w.heap.size+1+1,2,none⟩=some (.int .i64 0):=(bk Y aN).at_ 2 rfl;have r3:w7.cell? ⟨w.heap.size+1+1,3,none⟩=some (.int .i64 0):=(bk Y aN).at_ 3 rfl;have r4:w7.cell? ⟨w.heap.size+1+1,4,none⟩=some (.int .i64 0):=(bk Y aN).at_ 4 rfl;clear dY hG aN))
   all_goals go_wp2
   all_goals refine bodyPost_ret (by simp[results,results25,go_sem,r0,r1,r2,r3,r4];try rfl) rfl ?_
   all_goals exact⟨.inr ⟨HE.1,g7,n,rfl,hV.1,hW.1⟩,Jn (by assumption)⟩
  ·have nF:=Kh h2
   have z0:∀o,(w5.alloc o).cell? ⟨w.heap.size+1+1,0,none⟩=some (.slice none 0 0):=λo=>(I.1.alloc_ o).at_ 0 rfl
   have f0:∀o,(w5.alloc o).frozen? ⟨w.heap.size+1+1,0,none⟩=false:=λo=>(I.1.alloc_ o).free_ 0
   have z1:∀o,(w5.alloc o).cell? ⟨w.heap.size+1+1,1,none⟩=some (.int .i64 0):=λo=>(I.1.alloc_ o).at_ 1 rfl
   have f1:∀o,(w5.alloc o).frozen? ⟨w.heap.size+1+1,1,none⟩=false:=λo=>(I.1.alloc_ o).free_ 1
   have z2:∀o,(w5.alloc o).cell? ⟨w.heap.size+1+1,2,none⟩=some (.int .i64 0):=λo=>(I.1.alloc_ o).at_ 2 rfl
   have f2:∀o,(w5.alloc o).frozen? ⟨w.heap.size+1+1,2,none⟩=false:=λo=>(I.1.alloc_ o).free_ 2
   have z3:∀o,(w5.alloc o).cell? ⟨w.heap.size+1+1,3,none⟩=some (.int .i64 0):=λo=>(I.1.alloc_ o).at_ 3 rfl
   have f3:∀o,(w5.alloc o).frozen? ⟨w.heap.size+1+1,3,none⟩=false:=λo=>(I.1.alloc_ o).free_ 3
   have z4:∀o,(w5.alloc o).cell? ⟨w.heap.size+1+1,4,none⟩=some (.int .i64 0):=λo=>(I.1.alloc_ o).at_ 4 rfl
   have f4:∀o,(w5.alloc o).frozen? ⟨w.heap.size+1+1,4,none⟩=false:=λo=>(I.1.alloc_ o).free_ 4
   go_wp2;refine bodyPost_ret (by simp[results,results25,go_sem,z0,z1,z2,z3,z4];try rfl) rfl ?_;exact⟨.inl ⟨by rw[HE.1];assumption,by rw[HE.1]⟩,(((((bE.1.alloc bE.1.size _).setCell (p:=⟨w.heap.size+1+1,0,none⟩) (by dsimp only;omega) _).setCell (p:=⟨w.heap.size+1+1,1,none⟩) (by dsimp only;omega) _).setCell (p:=⟨w.heap.size+1+1,2,none⟩) (by dsimp only;omega) _).setCell (p:=⟨w.heap.size+1+1,3,none⟩) (by dsimp only;omega) _).setCell (p:=⟨w.heap.size+1+1,4,none⟩) (by dsimp only;omega) _⟩
 ·have HE:=Kh (show er=e1 by rw[aX.1,if_pos h1])
  clear aX;go_wp2;refine bodyPost_ret (by simp[results,results25,go_sem,z0,z1,z2,z3,z4];try rfl) rfl ?_;exact⟨.inl ⟨by rw[HE.1];assumption,by rw[HE.1]⟩,(((((aK.1.alloc aK.1.size _).setCell (p:=⟨w.heap.size+1+1,0,none⟩) (by dsimp only;omega) _).setCell (p:=⟨w.heap.size+1+1,1,none⟩) (by dsimp only;omega) _).setCell (p:=⟨w.heap.size+1+1,2,none⟩) (by dsimp only;omega) _).setCell (p:=⟨w.heap.size+1+1,3,none⟩) (by dsimp only;omega) _).setCell (p:=⟨w.heap.size+1+1,4,none⟩) (by dsimp only;omega) _⟩
theorem QRow.grown {F:Nat->FP} (hF:∀j,Bh (F j)) {w w':World} {g N k:Nat} {row:Option Nat} (h:QRow F w g N k) (O:I32 w w') (hg:w.grownBy w' row) (J:some g≠row):QRow F w' g N k:=by
 have M:∀j v,w.cell? ⟨g,j,none⟩=some v->w'.cell? ⟨g,j,none⟩=some v:=λj v e=>hg.cell e J
 have I:w'.heap[g]?=w.heap[g]?:=hg.block g h.sts.1 J;refine⟨⟨mI h.sts.1 hg.size,λi v hv=>h.sts.2 i v ((World.cell?_of_block (a:=⟨g,i,none⟩) I).symm.trans hv)⟩,λi U=>(World.frozen?_of_block (a:=⟨g,i,none⟩) I).trans (h.free i U),λi U=>?_,λj hj=>?_⟩
 ·rw[World.cell?_of_block (a:=⟨g,i,none⟩) I];exact h.has i U
 ·obtain⟨s,p,n,c,t,q,m,d,V,Y,Z,h3,h4⟩:=h.val j hj
  exact⟨s,p,n,c,t,q,m,d,M _ _ V,M _ _ Y,M _ _ Z,M _ _ h3,hF j _ _ _ _ _ _ _ _ _ _ O h4⟩
def PX (w:World) (xs:List Value) (i n:Nat) (f:Nat->Rat) (x y:Int×Int):Prop:=
 ∃g cap,xs[i*5]?=some (.slice (some ⟨g,0,none⟩) n cap)/\xs[i*5+1]?=some (.int .i64 x.1)/\xs[i*5+2]?=some (.int .i64 x.2)/\xs[i*5+3]?=some (.int .i64 y.1)/\xs[i*5+4]?=some (.int .i64 y.2)/\QRow (λj=>IsQ (f j)) w g n n
def OwnP (F:Nat->Nat->Rat) (X Y:Nat->Int×Int) (w:World) (B:Nat) (v:Value) (k n:Nat):Prop:=
 (v.ownBlock=none∨0<k)/\∃xs,OwnK NotU32 w B 57 5 v k xs/\∀i,i<k->PX w xs i n (F i) (X i) (Y i)
theorem OwnP.nil (F:Nat->Nat->Rat) (X Y:Nat->Int×Int) (w:World) (B n:Nat):OwnP F X Y w B (.slice none 0 0) 0 n:=⟨.inl rfl,[],OwnK.nil _ _ _ _ _,λ_ I=>absurd I (Nat.not_lt_zero _)⟩
theorem PX.keep {w w':World} {I:List Value} {i n:Nat} {f:Nat->Rat} {x y:Int×Int} (h:PX w I i n f x y) (Z:Below w.heap.size w w'):PX w' I i n f x y:=by
 obtain⟨g,cap,J,M,O,U,V,Y⟩:=h;exact⟨g,cap,J,M,O,U,V,Y.keep (λ_=>IsQ.solid _) Z⟩
theorem OwnP.keep {F:Nat->Nat->Rat} {X Y:Nat->Int×Int} {w w':World} {B k n:Nat} {v:Value} (h:OwnP F X Y w B v k n) (I:Below w.heap.size w w'):OwnP F X Y w' B v k n:=by
 obtain⟨U,V,J,M⟩:=h;exact⟨U,V,J.keep I,λi O=>(M i O).keep I⟩
theorem OwnP.push {F:Nat->Nat->Rat} {X Y:Nat->Int×Int} {W w':World} {B k n:Nat} {v v':Value} {I:List Value} (h:v.ownBlock=none∨0<k) (h1:OwnK NotU32 W B 57 5 v k I) (h2:∀i,i<k->PX W I i n (F i) (X i) (Y i))
  {g cap:Nat} {x y:Int×Int} (hq:QRow (λj=>IsQ (F k j)) W g n n) (hx:X k=x) (hy:Y k=y) (h3:OwnK NotU32 w' B 57 5 v' (k+1) (I++[.slice (some ⟨g,0,none⟩) n cap,.int .i64 x.1,.int .i64 x.2,.int .i64 y.1,.int .i64 y.2])) (hg:W.grownBy w' v.ownBlock):OwnP F X Y w' B v' (k+1) n:=by
 have O:=I32.grown (K:=NotU32) (λx=>Er x) h1.2 hg;have V:I.length=k*5:=h1.1.1
 have Z:∀J,Sts W J->some J≠v.ownBlock:=by
  intro J hs e;rcases h with h|h
  ·rw[h]at e;cases e
  ·obtain⟨_,_,_,e1,_⟩:=h2 0 h
   rcases Dk h1.1 with⟨rfl,_⟩ |⟨g0,aX,rfl,_⟩
   ·simp[Value.ownBlock]at e
   ·simp[Value.ownBlock]at e
    subst e;exact hs.2 1 _ (Aq h1.1 (j:=1) (by simpa using e1)) _ _ rfl
 refine⟨.inr (Nat.succ_pos k),_,h3,λi hi=>?_⟩;by_cases hik:i<k
 ·obtain⟨J,M,e0,e1,e2,e3,e4,e5⟩:=h2 i hik
  have U:∀(j:Nat) (u:Value),I[j]?=some u->(I++[.slice (some ⟨g,0,none⟩) n cap,.int .i64 x.1,.int .i64 x.2,.int .i64 y.1,.int .i64 y.2])[j]?=some u:=by
   intro j u e;rw[List.getElem?_append_left]
   ·exact e
   ·rcases Nat.lt_or_ge j I.length with hlt|aN
    ·exact hlt
    ·rw[List.getElem?_eq_none aN]at e;cases e
  exact⟨J,M,U _ _ e0,U _ _ e1,U _ _ e2,U _ _ e3,U _ _ e4,e5.grown (λ_=>IsQ.solid _) O hg (Z J e5.sts)⟩
 ·obtain rfl:i=k:=by omega
  refine⟨g,cap,?_,?_,?_,?_,?_,hq.grown (λ_=>IsQ.solid _) O hg (Z g hq.sts)⟩
  ·rw[List.getElem?_append_right (by omega),V,show i*5 - i*5=0 by omega];rfl
  ·rw[List.getElem?_append_right (by omega),V,show i*5+1 - i*5=1 by omega,hx];rfl
  ·rw[List.getElem?_append_right (by omega),V,show i*5+2 - i*5=2 by omega,hx];rfl
  ·rw[List.getElem?_append_right (by omega),V,show i*5+3 - i*5=3 by omega,hy];rfl
  ·rw[List.getElem?_append_right (by omega),V,show i*5+4 - i*5=4 by omega,hy];rfl
def PLs (F:Nat->Nat->Rat) (X Y:Nat->Int×Int) (w:World) (v:Value) (k n:Nat):Prop:=
 (k=0/\∃a c,v=.slice a 0 c)∨∃g0 c0,v=.slice (some ⟨g0,0,none⟩) k c0/\g0<w.heap.size/\∀i,i<k->∃g cap,w.cell? ⟨g0,i*5,none⟩=some (.slice (some ⟨g,0,none⟩) n cap)/\w.cell? ⟨g0,i*5+1,none⟩=some (.int .i64 (X i).1)/\w.cell? ⟨g0,i*5+2,none⟩=some (.int .i64 (X i).2)/\w.cell? ⟨g0,i*5+3,none⟩=some (.int .i64 (Y i).1)/\w.cell? ⟨g0,i*5+4,none⟩=some (.int .i64 (Y i).2)/\QRow (λj=>IsQ (F i j)) w g n n
theorem PLs.keep {F:Nat->Nat->Rat} {X Y:Nat->Int×Int} {w w':World} {k n:Nat} {v:Value} (h:PLs F X Y w v k n) (M:Below w.heap.size w w'):PLs F X Y w' v k n:=by
 rcases h with h |⟨J,c0,e,hg,hc⟩
 ·exact .inl h
 ·refine .inr ⟨J,c0,e,mI hg M.size,λi hi=>?_⟩
  obtain⟨g,cap,O,U,V,Z,e4,e5⟩:=hc i hi;have I:∀j v,w.cell? ⟨J,j,none⟩=some v->w'.cell? ⟨J,j,none⟩=some v:=λj v e=>(M.cell (p:=⟨J,j,none⟩) hg).trans e
  exact⟨g,cap,I _ _ O,I _ _ U,I _ _ V,I _ _ Z,I _ _ e4,e5.keep (λ_=>IsQ.solid _) M⟩
def IsA (x y:Int):FP:=λw s p n c t q m d=>Zr w s p n c x/\Zr w t q m d y
theorem IsA.solid (x y:Int):Bh (IsA x y):=λ_ _ _ _ _ _ _ _ _ _ h hq=>⟨hq.1.i32 h,hq.2.i32 h⟩
def Shorts (x y:Nat->Int) (w:World) (vp:Option Addr) (i:Nat):Prop:=∀j,j<i->∃g o,vp=some ⟨g,o,none⟩/\g<w.heap.size/\QE (IsR (x j) (y j)) w g (o+j*4)
theorem Shorts.ql {x y:Nat->Int} {w:World} {I:Option Addr} {n c:Nat} (h:Shorts x y w I n):QL (λj=>IsR (x j) (y j)) w (.slice I n c) n:=by
 rcases Nat.eq_zero_or_pos n with rfl|J
 ·exact .inl ⟨rfl,_,_,rfl⟩
 ·obtain⟨g,o,rfl,hg,_⟩:=h 0 J
  refine .inr ⟨g,o,c,rfl,hg,λj M=>?_⟩;obtain⟨O,U,e,_,hq⟩:=h j M;injection e with e
  injection e with e1 e2
  subst e1;subst e2;exact hq
end
section
open Go.RowKit Go.ChangeShapes Go.WideShapes Go.Deep Tryz
theorem Z9:prog.cellsOf 47=2:=by kernel_rfl
theorem Qn:prog.cellsOf 3=1:=by kernel_rfl
theorem bO {w:World} {a:Addr} {v:Value} (h:w.cell? a=some v):a.spot=none:=by
 cases hsp:a.spot with
 | none=>rfl
 | some s=>
  simp only[World.cell?]at h;split at h
  ·simp[hsp]at h
  ·cases h
theorem Ze {w:World} {a:Addr} {v:Value} (h:w.cell? (a.add 0)=some v):∃g o,a=⟨g,o,none⟩/\g<w.heap.size:=by
 have e:a.add 0=a:=by unfold Addr.add;rw[if_pos rfl]
 rw[e]at h;have I:=bO h;have J:=World.block_lt_of_cell? w a h;obtain⟨g,o,s⟩:=a;dsimp only at I J;subst I;exact⟨g,o,rfl,J⟩
theorem Ml {k:IntKind} {n:Int} (h:(Lit.int k n).wf=true):k.min<=n/\n<=k.max:=by simpa [Lit.wf] using h
section
variable {H:Type} {enc:TypeId×Value->H} {w:World} {sp:Nat->Bool} {hd:Bool}
theorem D1 {P:Program} {W M:World}:∀{U:List TypeId} {V:List Value} {O:List (DataW H)} {J:List MemPlace},DataW.TrodAll enc P W 0 sp hd U V O J->(∀p∈J,W.sameAt M p)->DataW.TrodAll enc P M 0 sp hd U V O J
 | [],[],[],_,h,_=>h
 | _ :: _,_ :: _,_ :: _,_,⟨p,q,⟨n,h1⟩,h2,e⟩,hs=>⟨p,q,⟨n,DataW.trod_carry n _ _ _ h1 (λx I=>hs x (by rw[e];exact List.mem_append_left _ I))⟩,D1 h2 (λx I=>hs x (by rw[e];exact List.mem_append_right _ I)),e⟩
end
theorem Sd:Kids prog (·<prog.types.size):=kids_rows (by kernel_rfl) (by kernel_rfl)
theorem Sb:∀t e,t<prog.types.size->prog.underlying t=some (.slice e)->0<prog.cellsOf e:=slices_full_of prog (by kernel_rfl)
end
section
open Go.ChangeShapes Go.WideShapes Go.ChangeAt Go.RowKit Go.Joins Tryz
theorem R8:prog.cellsOf 48=1:=by kernel_rfl
theorem aA:prog.cellsOf 45=1:=by kernel_rfl
theorem aB:prog.cellsOf 50=11:=by kernel_rfl
theorem Zf {Y:Type} {cs:Array Y} (h:cs.size=11):∃c0 c1 c2 c3 c4 J M O U V I,cs=#[c0,c1,c2,c3,c4,J,M,O,U,V,I]:=by
 obtain⟨l⟩:=cs
 match l,h with
 | [c0,c1,c2,c3,c4,J,M,O,U,V,I],_=>exact⟨c0,c1,c2,c3,c4,J,M,O,U,V,I,rfl⟩
theorem gZ {O:Type} {l:List O} (h:l.length=8):∃c0 c1 c2 c3 c4 I J M,l=[c0,c1,c2,c3,c4,I,J,M]:=by
 match l,h with
 | [c0,c1,c2,c3,c4,I,J,M],_=>exact⟨c0,c1,c2,c3,c4,I,J,M,rfl⟩
section
variable {H:Type} {enc:TypeId×Value->H} {w:World} {sp:Nat->Bool} {hd:Bool}
theorem Xm {n:Nat} {v:Value} {y:DataW H×List MemPlace} (h:DataW.trod enc prog w 0 sp hd n 45 [v]=some y):
  ∃(p:Option Addr) (Z c:Nat) (x:Nat->Int),v=.slice p Z c/\(∀k,k<Z->∃g o,p=some ⟨g,o,none⟩/\g<w.heap.size/\w.cell? ⟨g,o+k,none⟩=some (.int .i8 (x k)))/\∀k,k<Z->-128<=x k/\x k<=127:=by
 rcases open_ints underlying45 underlying48 R8 h with⟨V,_⟩ |⟨a,len,cap,I,V,_,h3,_,h5,_,h7,h8⟩
 ·have Y:v=.slice none 0 0:=by
   have U:[v]=[.slice none 0 0]:=V;injection U
  subst Y;exact⟨none,0,0,λ_=>0,rfl,λk J=>absurd J (Nat.not_lt_zero _),λk J=>absurd J (Nat.not_lt_zero _)⟩
 ·have Y:v=.slice (some a) len cap:=by
   have U:[v]=[.slice (some a) len cap]:=V;injection U
  subst Y;have aX:len<=I.length:=by rw[h5];split <;> omega
  refine⟨some a,len,cap,λi=>I.getD i 0,rfl,λk J=>?_,λk J=>?_⟩
  ·obtain⟨g,o,rfl,hg⟩:=Ze (h7 0 (by omega))
   have O:=h7 k (by omega);rw[Addr.add_lit]at O;exact⟨g,o,rfl,hg,O⟩
  ·have M:k<I.length:=by omega
   have e:I.getD k 0=I[k]:=by rw[List.getD_eq_getElem?_getD,List.getElem?_eq_getElem M];rfl
   have O:=Ml (h8 (I.getD k 0) (by rw[e];exact List.getElem_mem M));exact O
theorem H9 {n:Nat} {v0 v1:Value} {y:DataW H×List MemPlace} (h:DataW.trod enc prog w 0 sp hd n 47 [v0,v1]=some y):∃p q:Int,v0=.int .i64 p/\v1=.int .i64 q/\(-9223372036854775808<=p/\p<=9223372036854775807)/\(-9223372036854775808<=q/\q<=9223372036854775807):=by
 obtain⟨Y,Z,V,_,_,I,J⟩:=trod_struct2 (cs:=[v0,v1]) underlying47 h;dsimp only at I J;rw[Qn]at I J;obtain⟨p,M,_,w0⟩:=DataW.trod_int underlying3 I;obtain⟨q,O,_,U⟩:=DataW.trod_int underlying3 J;simp at M O;exact⟨p,q,M,O,Ml w0,Ml U⟩
theorem Fx {n:Nat} {v:Value} {y:DataW H×List MemPlace} (h:DataW.trod enc prog w 0 sp hd n 48 [v]=some y):∃a:Int,v=.int .i8 a/\(-128<=a/\a<=127):=by
 obtain⟨a,I,_,w0⟩:=DataW.trod_int underlying48 h;simp at I;exact⟨a,I,Ml w0⟩
theorem N0 {P:Program} {I:Nat} {t:TypeId} {M O U V Y Z f6 f7:Field} {aN:Nat} {cs:List Value} {x:DataW H×List MemPlace} (ht:P.underlying t=some (.struct #[M,O,U,V,Y,Z,f6,f7])) (h:DataW.trod enc P w I sp hd aN t cs=some x):
  ∃y0 y1 y2 y3 y4 y5 y6 y7 n,DataW.trod enc P w I sp hd n M.type ((cs.drop M.offset).take (P.cellsOf M.type))=some y0/\DataW.trod enc P w I sp hd n O.type ((cs.drop O.offset).take (P.cellsOf O.type))=some y1/\DataW.trod enc P w I sp hd n U.type ((cs.drop U.offset).take (P.cellsOf U.type))=some y2/\DataW.trod enc P w I sp hd n V.type ((cs.drop V.offset).take (P.cellsOf V.type))=some y3/\DataW.trod enc P w I sp hd n Y.type ((cs.drop Y.offset).take (P.cellsOf Y.type))=some y4/\DataW.trod enc P w I sp hd n Z.type ((cs.drop Z.offset).take (P.cellsOf Z.type))=some y5/\DataW.trod enc P w I sp hd n f6.type ((cs.drop f6.offset).take (P.cellsOf f6.type))=some y6/\DataW.trod enc P w I sp hd n f7.type ((cs.drop f7.offset).take (P.cellsOf f7.type))=some y7:=by
 obtain⟨xs,n,_,rfl,hl,aX,J⟩:=DataW.trod_struct ht h;obtain⟨y0,y1,y2,y3,y4,y5,y6,y7,rfl⟩:=gZ aX;exact⟨y0,y1,y2,y3,y4,y5,y6,y7,n,by simpa using J 0 M rfl,by simpa using J 1 O rfl,by simpa using J 2 U rfl,by simpa using J 3 V rfl,by simpa using J 4 Y rfl,by simpa using J 5 Z rfl,by simpa using J 6 f6 rfl,by simpa using J 7 f7 rfl⟩
theorem Np {r:Reach} {b0:Nat} {v:Value} {d:DataW H} {ps:List MemPlace} (hv:Value.okWide prog w r b0 50 v) (h:DataW.Trod enc prog w 0 sp hd 50 v d ps):
  ∃(p:Option Addr) (J cp:Nat) (x:Nat->Int) (M O U V Y Z a b c e:Int),v=.agg #[.slice p J cp,.int .i64 M,.int .i64 O,.int .i64 U,.int .i64 V,.int .i64 Y,.int .i64 Z,.int .i8 a,.int .i8 b,.int .i8 c,.int .i8 e] /\
   ((∀k,k<J->∃g o,p=some ⟨g,o,none⟩/\g<w.heap.size/\w.cell? ⟨g,o+k,none⟩=some (.int .i8 (x k)))/\∀k,k<J->-128<=x k/\x k<=127) /\
   ((-9223372036854775808<=M/\M<=9223372036854775807)/\(-9223372036854775808<=O/\O<=9223372036854775807))/\((-9223372036854775808<=U/\U<=9223372036854775807)/\(-9223372036854775808<=V/\V<=9223372036854775807))/\((-9223372036854775808<=Y/\Y<=9223372036854775807)/\(-9223372036854775808<=Z/\Z<=9223372036854775807)) /\
   (-128<=a/\a<=127)/\(-128<=b/\b<=127)/\(-128<=c/\c<=127)/\(-128<=e/\e<=127):=by
 obtain⟨cs,rfl,I⟩:=okWide_struct underlying50 hv;obtain⟨v0,v1,v2,v3,v4,v5,v6,v7,v8,v9,cB,rfl⟩:=Zf (I.trans aB);clear hv I;obtain⟨cC,hf⟩:=h;obtain⟨y0,U,V,y3,y4,y5,y6,y7,n,h0,h1,h2,h3,h4,h5,h6,h7⟩:=N0 underlying50 hf;dsimp only at h0 h1 h2 h3 h4 h5 h6 h7;rw[aA]at h0;rw[Z9]at h1 h2 h3;rw[R8]at h4 h5 h6 h7;have g0:DataW.trod enc prog w 0 sp hd n 45 [v0]=some y0:=h0;have g1:DataW.trod enc prog w 0 sp hd n 47 [v1,v2]=some U:=h1;have g2:DataW.trod enc prog w 0 sp hd n 47 [v3,v4]=some V:=h2;have g3:DataW.trod enc prog w 0 sp hd n 47 [v5,v6]=some y3:=h3;have g4:DataW.trod enc prog w 0 sp hd n 48 [v7]=some y4:=h4;have g5:DataW.trod enc prog w 0 sp hd n 48 [v8]=some y5:=h5;have g6:DataW.trod enc prog w 0 sp hd n 48 [v9]=some y6:=h6;have g7:DataW.trod enc prog w 0 sp hd n 48 [cB]=some y7:=h7;clear h0 h1 h2 h3 h4 h5 h6 h7 hf;obtain⟨p,J,cp,x,rfl,hp⟩:=Xm g0;obtain⟨M,O,rfl,rfl,bY⟩:=H9 g1;obtain⟨u1,u2,rfl,rfl,bH⟩:=H9 g2;obtain⟨Y,Z,rfl,rfl,cA⟩:=H9 g3;obtain⟨a,rfl,ha⟩:=Fx g4;obtain⟨b,rfl,hb⟩:=Fx g5;obtain⟨c,rfl,hc⟩:=Fx g6;obtain⟨e,rfl,he⟩:=Fx g7;exact⟨p,J,cp,x,M,O,u1,u2,Y,Z,a,b,c,e,rfl,hp,bY,bH,cA,ha,hb,hc,he⟩
end
end
section
open Go.RowKit Tryz
theorem Xh (x:Rat):Rat.divInt (-x.num) x.den=-x:=by
 rw[<-Rat.neg_divInt,B7]
theorem Pn (x y:Rat):Rat.divInt (x.num*y.den) (x.den*y.num)=x / y:=by
 rw[<-Rat.divInt_mul_divInt,B7,Rat.div_def,Rat.inv_def]
theorem E8 (s:Bool) (p:Option Addr) (n c:Nat) (t:Bool) (q:Option Addr) (m d:Nat) (x:Rat) (w:World) (h:Qs w s p n c t q m d x) (J:hq x<=1000000000):
  Calls prog 97 #[.agg #[.bool s,.slice p n c,.bool t,.slice q m d]] w λe w'=>cL e x/\Below w.heap.size w w':=by
 have I:=R7 s p n c x.num t q m d x.den w h.1.raw h.2.raw (by have:=h.sizes;omega) (by have:=h.sizes;omega);rw[B7]at I;exact I
theorem I1 (s:Bool) (p:Option Addr) (n c:Nat) (t:Bool) (q:Option Addr) (m d:Nat) (x:Rat) (w:World) (h:Qs w s p n c t q m d x) (hx:hq x<=1000000000):
  Calls prog 51 #[.agg #[.bool s,.slice p n c,.bool t,.slice q m d]] w λe w'=>Gr w' e (-x)/\Below w.heap.size w w':=by
 have HV:=Kh (Xh x);have HS:=Kh h.sizes;have bB:=Kh (show nd (-x.num).natAbs<=4398046511100 by rw[Int.natAbs_neg];have:=En x;omega);have HD:=Kh (λI (hb:Below w.heap.size w I)=>h.2.keep hb);have aX:=Kh (λI (hb:Below w.heap.size w I)=>Vo s p n c x.num I (h.1.keep hb).raw (by have:=HS.1;omega));clear h;go_enter func51,ntmps51
 go_upto_region 1 with(fail)
 obtain⟨w0,Z,O,J,U⟩:=bx2 w #[.bool s,.slice p n c,.bool t,.slice q m d] 86 #[.bool false,.slice none 0 0,.bool false,.slice none 0 0] 86;rw[Z];have cD:w.heap.size<=w0.heap.size:=U.size;clear Z;have M1:True:=trivial;have T1:=Sts.of J (by intro v hv;simp at hv;rcases hv with rfl|rfl|rfl|rfl <;> first|exact NotInt.bool _|exact NotInt.slice _ _ _);have bY:=D4 (Below.refl _ w0).drew ⟨O.c0,O.c1,O.c2,O.c3,J.so 0,J.free_ 0,T1,J.so 1,J.free_ 1,T1,J.so 2,J.free_ 2,T1,J.so 3,J.free_ 3,T1,U,cD⟩;clear O J
 go_region_held3 (λI=>I.cell? ⟨w.heap.size,0,none⟩=some (.bool s)/\I.cell? ⟨w.heap.size,1,none⟩=some (.slice p n c)/\I.cell? ⟨w.heap.size,2,none⟩=some (.bool t)/\I.cell? ⟨w.heap.size,3,none⟩=some (.slice q m d)/\I.cell? ⟨w.heap.size+1,0,none⟩=some (cellOf I ⟨w.heap.size+1,0,none⟩)/\I.frozen? ⟨w.heap.size+1,0,none⟩=false/\Sts I (w.heap.size+1)/\I.cell? ⟨w.heap.size+1,1,none⟩=some (cellOf I ⟨w.heap.size+1,1,none⟩)/\I.frozen? ⟨w.heap.size+1,1,none⟩=false/\Sts I (w.heap.size+1)/\I.cell? ⟨w.heap.size+1,2,none⟩=some (cellOf I ⟨w.heap.size+1,2,none⟩)/\I.frozen? ⟨w.heap.size+1,2,none⟩=false/\Sts I (w.heap.size+1)/\I.cell? ⟨w.heap.size+1,3,none⟩=some (cellOf I ⟨w.heap.size+1,3,none⟩)/\I.frozen? ⟨w.heap.size+1,3,none⟩=false/\Sts I (w.heap.size+1)/\Below w.heap.size w I/\w.heap.size<=I.heap.size)
  (first|with_reducible exact bY |(refine D4 (by with_reducible assumption) ?_;assumption) |(refine N6 ?_ ?_ ?_ ?_ ?_ ?_ ?_ ?_ ?_ ?_ ?_ ?_ ?_ ?_ ?_ ?_ ?_ ?_ ?_ ?_ ?_ ?_ ?_ ?_ ?_ <;> first|assumption|exact NotInt.bool _|exact NotInt.slice _ _ _ |(dsimp only;omega) |(simp;done)))
  (first
   |(go_at_call 98;refine(aX.1 _ (Ej (by with_reducible assumption))).mono ?_;rintro e w2 ⟨⟨s2,p2,n2,e2,rfl,aD⟩,V⟩;have M:=Kh aD;have aN:=Kh (show Below w.heap.size w w2 from Below.trans (Ej (by with_reducible assumption)) (Below.mono V (Below.size (Ej (by with_reducible assumption)))));have bA:=Kh (Jx s2 p2 n2 e2 (-x.num) t q m d x.den w2 M.1.raw (HD.1 _ aN.1).raw (by rw[<-M.1.2.1];exact bB.1) (by have:=HS.1;omega));clear aD)
   |(go_at_call 85;refine bA.1.mono ?_;rintro e w4 ⟨⟨s4,p4,n4,e4,t4,q4,m4,d4,rfl,Y⟩,cB⟩;clear V;obtain⟨⟨bC,hT⟩,⟨bE,_⟩,⟨bG,_⟩,⟨bH,_⟩⟩:=Vd cB (by with_reducible assumption);have cC:=Kh (Y.put4 hT (.bool s4) (.slice p4 n4 e4) (.bool t4) (.slice q4 m4 d4) (NotInt.bool _) (NotInt.slice _ _ _) (NotInt.bool _));clear Y hT))
 go_wp2;try simp only[Exit.inBlock,Exit.then]
 refine bodyPost_ret (by simp[results,results51,go_sem,bC,bE,bG,bH];try rfl) rfl ?_;exact⟨⟨s4,p4,n4,e4,t4,q4,m4,d4,rfl,HV.1▸cC.1⟩,Ej (by assumption)⟩
theorem Z6 (s:Bool) (p:Option Addr) (n c:Nat) (t:Bool) (q:Option Addr) (m d:Nat) (x:Rat) (s':Bool) (p':Option Addr) (n' U:Nat) (t':Bool) (q':Option Addr) (m' V:Nat) (y:Rat) (w:World) (h:Qs w s p n c t q m d x) (h':Qs w s' p' n' U t' q' m' V y) (hx:hq x<=1000000000) (hy:hq y<=1000000000):
  Calls prog 146 #[.agg #[.bool s,.slice p n c,.bool t,.slice q m d],.agg #[.bool s',.slice p' n' U,.bool t',.slice q' m' V]] w λe w'=>Gr w' e (x - y)/\Below w.heap.size w w':=by
 have HV:=Kh (Rat.sub_eq_add_neg x y).symm;have HY:=Kh (show hq (-y)<=1000000000 by rw[hq,Rat.neg_num,Rat.neg_den,Int.natAbs_neg];exact hy);have HD:=Kh (λI (hb:Below w.heap.size w I)=>h.keep hb);have bY:=Kh (λI (hb:Below w.heap.size w I)=>I1 s' p' n' U t' q' m' V y I (h'.keep hb) hy);clear h h';go_enter func146,ntmps146
 go_upto_region 1 with(fail)
 obtain⟨w0,aK,M,O,J,Y⟩:=Rw w #[.bool s,.slice p n c,.bool t,.slice q m d] 86 #[.bool s',.slice p' n' U,.bool t',.slice q' m' V] 86 #[.bool false,.slice none 0 0,.bool false,.slice none 0 0] 86;rw[aK];have dC:w.heap.size<=w0.heap.size:=Y.size;clear aK;have M1:True:=trivial;have T2:=Sts.of J (by intro v hv;simp at hv;rcases hv with rfl|rfl|rfl|rfl <;> first|exact NotInt.bool _|exact NotInt.slice _ _ _);have cT:=A7 (Below.refl _ w0).drew ⟨M.c0,M.c1,M.c2,M.c3,O.c0,O.c1,O.c2,O.c3,J.so 0,J.free_ 0,T2,J.so 1,J.free_ 1,T2,J.so 2,J.free_ 2,T2,J.so 3,J.free_ 3,T2,Y,dC⟩;clear M O J
 go_region_held3 (λI=>I.cell? ⟨w.heap.size,0,none⟩=some (.bool s)/\I.cell? ⟨w.heap.size,1,none⟩=some (.slice p n c)/\I.cell? ⟨w.heap.size,2,none⟩=some (.bool t)/\I.cell? ⟨w.heap.size,3,none⟩=some (.slice q m d)/\I.cell? ⟨w.heap.size+1,0,none⟩=some (.bool s')/\I.cell? ⟨w.heap.size+1,1,none⟩=some (.slice p' n' U)/\I.cell? ⟨w.heap.size+1,2,none⟩=some (.bool t')/\I.cell? ⟨w.heap.size+1,3,none⟩=some (.slice q' m' V)/\I.cell? ⟨w.heap.size+1+1,0,none⟩=some (cellOf I ⟨w.heap.size+1+1,0,none⟩)/\I.frozen? ⟨w.heap.size+1+1,0,none⟩=false/\Sts I (w.heap.size+1+1)/\I.cell? ⟨w.heap.size+1+1,1,none⟩=some (cellOf I ⟨w.heap.size+1+1,1,none⟩)/\I.frozen? ⟨w.heap.size+1+1,1,none⟩=false/\Sts I (w.heap.size+1+1)/\I.cell? ⟨w.heap.size+1+1,2,none⟩=some (cellOf I ⟨w.heap.size+1+1,2,none⟩)/\I.frozen? ⟨w.heap.size+1+1,2,none⟩=false/\Sts I (w.heap.size+1+1)/\I.cell? ⟨w.heap.size+1+1,3,none⟩=some (cellOf I ⟨w.heap.size+1+1,3,none⟩)/\I.frozen? ⟨w.heap.size+1+1,3,none⟩=false/\Sts I (w.heap.size+1+1)/\Below w.heap.size w I/\w.heap.size<=I.heap.size)
  (first|with_reducible exact cT |(refine A7 (by with_reducible assumption) ?_;assumption) |(refine D6 ?_ ?_ ?_ ?_ ?_ ?_ ?_ ?_ ?_ ?_ ?_ ?_ ?_ ?_ ?_ ?_ ?_ ?_ ?_ ?_ ?_ ?_ ?_ ?_ ?_ ?_ ?_ ?_ ?_ ?_ ?_ ?_ ?_ ?_ ?_ ?_ ?_ ?_ ?_ ?_ ?_ <;> first|assumption|exact NotInt.bool _|exact NotInt.slice _ _ _ |(dsimp only;omega) |(simp;done)))
  (first
   |(go_at_call 51;refine(bY.1 _ (Bl (by with_reducible assumption))).mono ?_;rintro e w2 ⟨⟨s2,p2,n2,e2,t2,q2,m2,d2,rfl,aN⟩,Z⟩;have cB:=Kh aN;have bH:=Kh (show Below w.heap.size w w2 from Below.trans (Bl (by with_reducible assumption)) (Below.mono Z (Below.size (Bl (by with_reducible assumption)))));have cA:=Kh (Fo s p n c t q m d x s2 p2 n2 e2 t2 q2 m2 d2 (-y) w2 (HD.1 _ bH.1) cB.1 hx HY.1);clear aN)
   |(go_at_call 39;refine cA.1.mono ?_;rintro e w4 ⟨⟨s4,p4,n4,e4,t4,q4,m4,d4,rfl,aD⟩,cX⟩;clear Z;obtain⟨⟨cC,hT⟩,⟨cD,_⟩,⟨cF,_⟩,⟨cG,_⟩⟩:=Jm cX (by with_reducible assumption);have cY:=Kh (aD.put4 hT (.bool s4) (.slice p4 n4 e4) (.bool t4) (.slice q4 m4 d4) (NotInt.bool _) (NotInt.slice _ _ _) (NotInt.bool _));clear aD hT))
 go_wp2;try simp only[Exit.inBlock,Exit.then]
 refine bodyPost_ret (by simp[results,results146,go_sem,cC,cD,cF,cG];try rfl) rfl ?_;exact⟨⟨s4,p4,n4,e4,t4,q4,m4,d4,rfl,HV.1▸cY.1⟩,Bl (by assumption)⟩
theorem V6 (s:Bool) (p:Option Addr) (n c:Nat) (z:Int) (w:World) (h:Zs w s p n c z) (hn:n<=1000000000):
  Calls prog 94 #[.agg #[.bool s,.slice p n c]] w λe w'=>Gr w' e (z:Rat)/\Below w.heap.size w w':=by
 have HC:=Kh (λw1 (hb:Below w.heap.size w w1)=>Jt s p n c z w1 (h.keep hb).raw (by omega));have HO:=Kh (λw1=>Gc 1 w1 (by omega) (by omega));clear h;go_enter func94,ntmps94
 go_wp2_with fail
 obtain⟨w0,aX,X1,X0,aD⟩:=bx2 w #[.bool s,.slice p n c] 84 #[.bool false,.slice none 0 0,.bool false,.slice none 0 0] 86;rw[aX];have J:=Kh X0;have U:=Kh aD;clear X0 X1 aD aX;refine(HC.1 _ U.1).mono ?_;rintro e w1 ⟨⟨s2,p2,n2,e2,rfl,bA⟩,V⟩;have Z:=Kh bA;have Y:=bt U V;replace J:=Kh (bk J V);clear bA V HC;go_wp2_with fail
 refine(HO.1 _).mono ?_;rintro e w2 ⟨⟨t2,q2,m2,d2,rfl,bB⟩,M⟩;have HQ:=Kh (show Qs w2 s2 p2 n2 e2 t2 q2 m2 d2 (z:Rat)from⟨Z.1.keep M,bB⟩);have I:=Kh (bk J M);have HB:=bt Y M;clear bB M J Y Z HO U;have r0:=I.1.at_ 0 rfl;have r1:=I.1.at_ 1 rfl;have r2:=I.1.at_ 2 rfl;have r3:=I.1.at_ 3 rfl;have f0:=I.1.free_ 0;have f1:=I.1.free_ 1;have f2:=I.1.free_ 2;have f3:=I.1.free_ 3;obtain⟨w9,O⟩:∃w9,(((w2.setCell ⟨w.heap.size+1,0,none⟩ (.bool s2)).setCell ⟨w.heap.size+1,1,none⟩ (.slice p2 n2 e2)).setCell ⟨w.heap.size+1,2,none⟩ (.bool t2)).setCell ⟨w.heap.size+1,3,none⟩ (.slice q2 m2 d2)=w9:=⟨_,rfl⟩
 obtain⟨E0,E1,E2,E3,aN⟩:=B9 I.1 HQ.1 O;have aK:Below w.heap.size w w9:=by rw[<-O];exact As HB.1 (by omega) _ _ _ _
 have cD:=Kh O;have cB:=Kh (And.intro E0 (And.intro E1 (And.intro E2 E3)));have cC:=Kh aN;have cA:=Kh aK;clear E0 E1 E2 E3 aN aK O HQ HB I;go_wp2;try rw[cD.1]
 obtain⟨E0,E1,E2,E3⟩:=cB.1;try simp only[Exit.inBlock,Exit.then]
 refine bodyPost_ret (by simp[results,results94,go_sem,E0,E1,E2,E3];try rfl) rfl ?_;exact⟨⟨s2,p2,n2,e2,t2,q2,m2,d2,rfl,cC.1⟩,cA.1⟩
theorem Z5 (s:Bool) (p:Option Addr) (n c:Nat) (t:Bool) (q:Option Addr) (m d:Nat) (x:Rat) (s':Bool) (p':Option Addr) (n' c':Nat) (t':Bool) (q':Option Addr) (m' d':Nat) (y:Rat) (w:World) (h:Qs w s p n c t q m d x) (h':Qs w s' p' n' c' t' q' m' d' y) (hx:hq x<=1000000000) (hy:hq y<=1000000000) (h0:y≠0):
  Calls prog 96 #[.agg #[.bool s,.slice p n c,.bool t,.slice q m d],.agg #[.bool s',.slice p' n' c',.bool t',.slice q' m' d']] w λe w'=>(∃s4 p4 n4 c4 t4 q4 m4 d4,e=.returned (.tuple #[.agg #[.bool s4,.slice p4 n4 c4,.bool t4,.slice q4 m4 d4],.int .i64 0])/\Qs w' s4 p4 n4 c4 t4 q4 m4 d4 (x / y))/\Below w.heap.size w w':=by
 have HV:=Kh (Pn x y);have HS:=Kh (And.intro h.sizes h'.sizes);have gS:=Kh (show nd (x.num*y.den).natAbs<=4398046511100 by rw[Int.natAbs_mul,Int.natAbs_natCast];have:=Cd x.num.natAbs y.den;have:=En x;have:=Ff y;omega);have gU:=Kh (show nd (x.den*y.num).natAbs<=4398046511100 by rw[Int.natAbs_mul,Int.natAbs_natCast];have:=Cd x.den y.num.natAbs;have:=Ff x;have:=En y;omega);have cA:=Kh (λI (hb:Below w.heap.size w I)=>E8 s' p' n' c' t' q' m' d' y I (h'.keep hb) hy);have gL:=Kh (λI (hb:Below w.heap.size w I)=>Gw s p n c x.num t' q' m' d' y.den I (h.1.keep hb).raw (h'.2.keep hb).raw (by have:=HS.1;omega) (by have:=HS.1;omega));have gN:=Kh (λI (hb:Below w.heap.size w I)=>Gw t q m d x.den s' p' n' c' y.num I (h.2.keep hb).raw (h'.1.keep hb).raw (by have:=HS.1;omega) (by have:=HS.1;omega));clear h h';go_enter func96,ntmps96
 go_wp2_with fail
 obtain⟨w0,cX,Y,Z,M,O⟩:=Rw w #[.bool s,.slice p n c,.bool t,.slice q m d] 86 #[.bool s',.slice p' n' c',.bool t',.slice q' m' d'] 86 #[.bool false,.slice none 0 0,.bool false,.slice none 0 0] 86;rw[cX];have aN:w.heap.size<=w0.heap.size:=O.size;clear cX;have cB:=Kh Y;have J:=Kh Z;have cC:=Kh M;have V:=Kh O;clear Y Z M O aN;have r0:=J.1.at_ 0 rfl;have r1:=J.1.at_ 1 rfl;have r2:=J.1.at_ 2 rfl;have r3:=J.1.at_ 3 rfl;go_wp2_with fail
 refine(cA.1 _ V.1).mono ?_;rintro e I ⟨⟨sg,rfl,cV⟩,U⟩
 have hN:(sg==0)=false:=by
  have:sg≠0:=λe=>h0 (cV.1 e)
  simpa using this
 have O:=V.1.trans (U.mono V.1.size);have aN:=O.size;have Y:=bk cB U;have Z:=bk J U;have M:=bk cC U;clear cA cB J cC V U cV r0 r1 r2 r3;obtain⟨w0,rfl⟩:∃w0:World,w0=I:=⟨_,rfl⟩
 go_upto_region 3 with(fail)
 have M1:True:=trivial;have T2:=Sts.of M (by intro v hv;simp at hv;rcases hv with rfl|rfl|rfl|rfl <;> first|exact NotInt.bool _|exact NotInt.slice _ _ _);have hE:=A7 (Below.refl _ w0).drew ⟨Y.c0,Y.c1,Y.c2,Y.c3,Z.c0,Z.c1,Z.c2,Z.c3,M.so 0,M.free_ 0,T2,M.so 1,M.free_ 1,T2,M.so 2,M.free_ 2,T2,M.so 3,M.free_ 3,T2,O,aN⟩;clear Y Z M
 go_region_held3 (λI=>I.cell? ⟨w.heap.size,0,none⟩=some (.bool s)/\I.cell? ⟨w.heap.size,1,none⟩=some (.slice p n c)/\I.cell? ⟨w.heap.size,2,none⟩=some (.bool t)/\I.cell? ⟨w.heap.size,3,none⟩=some (.slice q m d)/\I.cell? ⟨w.heap.size+1,0,none⟩=some (.bool s')/\I.cell? ⟨w.heap.size+1,1,none⟩=some (.slice p' n' c')/\I.cell? ⟨w.heap.size+1,2,none⟩=some (.bool t')/\I.cell? ⟨w.heap.size+1,3,none⟩=some (.slice q' m' d')/\I.cell? ⟨w.heap.size+1+1,0,none⟩=some (cellOf I ⟨w.heap.size+1+1,0,none⟩)/\I.frozen? ⟨w.heap.size+1+1,0,none⟩=false/\Sts I (w.heap.size+1+1)/\I.cell? ⟨w.heap.size+1+1,1,none⟩=some (cellOf I ⟨w.heap.size+1+1,1,none⟩)/\I.frozen? ⟨w.heap.size+1+1,1,none⟩=false/\Sts I (w.heap.size+1+1)/\I.cell? ⟨w.heap.size+1+1,2,none⟩=some (cellOf I ⟨w.heap.size+1+1,2,none⟩)/\I.frozen? ⟨w.heap.size+1+1,2,none⟩=false/\Sts I (w.heap.size+1+1)/\I.cell? ⟨w.heap.size+1+1,3,none⟩=some (cellOf I ⟨w.heap.size+1+1,3,none⟩)/\I.frozen? ⟨w.heap.size+1+1,3,none⟩=false/\Sts I (w.heap.size+1+1)/\Below w.heap.size w I/\w.heap.size<=I.heap.size)
  (first|with_reducible exact hE |(refine A7 (by with_reducible assumption) ?_;assumption) |(refine D6 ?_ ?_ ?_ ?_ ?_ ?_ ?_ ?_ ?_ ?_ ?_ ?_ ?_ ?_ ?_ ?_ ?_ ?_ ?_ ?_ ?_ ?_ ?_ ?_ ?_ ?_ ?_ ?_ ?_ ?_ ?_ ?_ ?_ ?_ ?_ ?_ ?_ ?_ ?_ ?_ ?_ <;> first|assumption|exact NotInt.bool _|exact NotInt.slice _ _ _ |(dsimp only;omega) |(simp;done)))
  (first
   |(go_at_call 84;clear M1;refine(gL.1 _ (Bl (by with_reducible assumption))).mono ?_;rintro e w2 ⟨⟨s2,p2,n2,e2,rfl,cY⟩,hG⟩;have aD:=Kh cY;clear cY)
   |(go_at_call 84;refine(gN.1 _ (Bl (by with_reducible assumption))).mono ?_;rintro e w3 ⟨⟨s3,p3,n3,e3,rfl,aX⟩,cG⟩;have gP:=Kh (Jx s2 p2 n2 e2 (x.num*y.den) s3 p3 n3 e3 (x.den*y.num) w3 (aD.1.keep cG).raw aX.raw (by rw[<-aD.1.2.1];exact gS.1) (by rw[<-aX.2.1];exact gU.1));clear aX hG aD)
   |(go_at_call 85;refine gP.1.mono ?_;rintro e w4 ⟨⟨s4,p4,n4,e4,t4,q4,m4,d4,rfl,cT⟩,hI⟩;clear cG;obtain⟨⟨gX,hT⟩,⟨gY,_⟩,⟨hB,_⟩,⟨hD,_⟩⟩:=Jm hI (by with_reducible assumption);have hJ:=Kh (cT.put4 hT (.bool s4) (.slice p4 n4 e4) (.bool t4) (.slice q4 m4 d4) (NotInt.bool _) (NotInt.slice _ _ _) (NotInt.bool _));clear cT hT))
 go_wp2;try simp only[Exit.inBlock,Exit.then]
 refine bodyPost_ret (by simp[results,results96,go_sem,gX,gY,hB,hD];try rfl) rfl ?_;exact⟨⟨s4,p4,n4,e4,t4,q4,m4,d4,rfl,HV.1▸hJ.1⟩,Bl (by assumption)⟩
end
end Go.Proofs.YtenlbhlllgppmaaGreatDoor
