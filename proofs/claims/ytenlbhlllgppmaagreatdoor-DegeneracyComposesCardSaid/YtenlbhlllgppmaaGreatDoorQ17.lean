/- Contracts of sl2 and halfplaneref18: Lowest. -/
import Derived.Test.YtenlbhlllgppmaaGreatDoorQ16
import Derived.Test.YtenlbhlllgppmaaGreatDoorQ15
import Derived.Test.YtenlbhlllgppmaaGreatDoorQ08
import Derived.Lib.SmallJoins
set_option maxRecDepth 100000
set_option maxHeartbeats 8000000
namespace Go.Proofs.YtenlbhlllgppmaaGreatDoor
section
open Go.RowKit Tryz
def low (p q:Int):Int×Int:=if q<0∨(q=0/\p<0)then(-(p.tdiv ((Int.gcd p q:Nat):Int)),-(q.tdiv ((Int.gcd p q:Nat):Int)))else(p.tdiv ((Int.gcd p q:Nat):Int),q.tdiv ((Int.gcd p q:Nat):Int))
theorem Yu {p g:Int} {K:Nat} (h:p.natAbs<=K):(p.tdiv g).natAbs<=K:=by
 rw[Int.natAbs_tdiv];exact kU (Nat.div_le_self _ _) h
theorem gJ (p q:Int) (w:World) (hp:-4611686018427387904<=p) (bY:p<=4611686018427387904) (hq:-4611686018427387904<=q) (cA:q<=4611686018427387904) (h0:Int.gcd p q≠0):
  Calls prog 118 #[.int .i64 p,.int .i64 q] w λe w'=>e=.returned (.agg #[.int .i64 (low p q).1,.int .i64 (low p q).2])/\Below w.heap.size w w':=by
 obtain⟨lo,V⟩:∃lo,low p q=lo:=⟨_,rfl⟩
 rw[V];have HG:=Kh (λw1=>E7 p q w1 (by omega) (by omega) (by omega) (by omega));have aL:((Int.gcd p q:Nat):Int)∣p:=Int.gcd_dvd_left p q;have aN:((Int.gcd p q:Nat):Int)∣q:=Int.gcd_dvd_right p q;have aT:0<((Int.gcd p q:Nat):Int):=by omega
 obtain⟨H,I⟩:∃H:Int,((Int.gcd p q:Nat):Int)=H:=⟨_,rfl⟩
 have bC:H<=4611686018427387904:=by
  rw[<-I];by_cases Y:p=0
  ·subst Y
   rw[Int.gcd_zero_left];omega
  ·have:=Nat.le_of_dvd (by omega) (Int.natAbs_dvd_natAbs.2 (Int.gcd_dvd_left p q));rw[Int.natAbs_natCast]at this;omega
 have Z:=Kh (show lo=if q<0∨(q=0/\p<0)then(-(p.tdiv H),-(q.tdiv H))else(p.tdiv H,q.tdiv H)by rw[<-V];unfold low;rw[I]);have b1:-4611686018427387904<=p.tdiv H/\p.tdiv H<=4611686018427387904:=by have:=Yu (p:=p) (g:=H) (K:=4611686018427387904) (by omega);omega
 have b2:-4611686018427387904<=q.tdiv H/\q.tdiv H<=4611686018427387904:=by have:=Yu (p:=q) (g:=H) (K:=4611686018427387904) (by omega);omega
 rw[I]at aT;have bB:H≠0:=by omega
 simp only[I]at HG;clear aL aN h0 I V;go_enter func118,ntmps118
 go_wp2_with fail
 all_goals obtain⟨w0,U⟩:∃w0,w.alloc (.cells #[.int .i64 0,.int .i64 0] 47)=w0:=⟨_,rfl⟩
 rw[U];have X:=Blk.new w 47 #[.int .i64 0,.int .i64 0];rw[U]at X;have HB:=Kh (show Below w.heap.size w w0 from U▸(Below.refl _ _).alloc (kT _) _);clear U;refine(HG.1 w0).mono ?_;rintro e w1 ⟨rfl,k,rfl⟩;have x0:w0.cell? ⟨w.heap.size,0,none⟩=some (.int .i64 0):=X.at_ 0 rfl;have x1:w0.cell? ⟨w.heap.size,1,none⟩=some (.int .i64 0):=X.at_ 1 rfl;have f0:w0.frozen? ⟨w.heap.size,0,none⟩=false:=X.free_ 0;have f1:w0.frozen? ⟨w.heap.size,1,none⟩=false:=X.free_ 1;have J:=Kh (λj=>Aa HB.1 j);clear HG HB X;by_cases O:q<0∨(q=0/\p<0)
 ·obtain rfl:lo=(-(p.tdiv H),-(q.tdiv H)):=by rw[Z.1,if_pos O]
  clear Z;have bE:-H≠0:=by omega
  rcases O with O |⟨rfl,O⟩
  ·go_upto_region 4 with(fail)
   go_region
   all_goals go_wp2
   all_goals refine bodyPost_ret (by simp[results,results118,go_sem,x0,x1];try rfl) rfl ?_
   all_goals exact⟨rfl,((J.1 _).setCell (kT _) _).setCell (kT _) _⟩
  ·go_upto_region 4 with(fail)
   go_region
   all_goals go_wp2
   all_goals refine bodyPost_ret (by simp[results,results118,go_sem,x0,x1];try rfl) rfl ?_
   all_goals exact⟨rfl,((J.1 _).setCell (kT _) _).setCell (kT _) _⟩
 ·obtain rfl:lo=(p.tdiv H,q.tdiv H):=by rw[Z.1,if_neg O]
  clear Z;by_cases hq0:q=0
  ·subst hq0
   have Y:¬p<0:=λh=>O (.inr ⟨rfl,h⟩)
   clear O;go_upto_region 4 with(fail)
   go_region
   all_goals go_wp2
   all_goals refine bodyPost_ret (by simp[results,results118,go_sem,x0,x1];try rfl) rfl ?_
   all_goals exact⟨rfl,((J.1 _).setCell (kT _) _).setCell (kT _) _⟩
  ·have cB:¬q<0:=λh=>O (.inl h)
   clear O;go_upto_region 4 with(fail)
   go_region
   all_goals go_wp2
   all_goals refine bodyPost_ret (by simp[results,results118,go_sem,x0,x1];try rfl) rfl ?_
   all_goals exact⟨rfl,((J.1 _).setCell (kT _) _).setCell (kT _) _⟩
def Dy (a b c d p q:Int):(Int×Int)×Int:=
 if Av p q≠0 then((0,0),Av p q)
 else if Hq (low (a*p+b*q) (c*p+d*q)).1=true/\Hq (low (a*p+b*q) (c*p+d*q)).2=true then(low (a*p+b*q) (c*p+d*q),0)else((0,0),7)
theorem cuspE_zero {p q:Int} (h:Av p q=0):(-1073741824<=p/\p<=1073741824)/\(-1073741824<=q/\q<=1073741824)/\Int.gcd p q=1:=by
 unfold Av at h;split at h
 ·omega
 ·rename_i h1
  split at h
  ·omega
  ·rename_i h2
   have I:Hq p=true:=by
    cases hp:Hq p with
    | true=>rfl
    | false=>exact absurd (.inl hp) h1
   have J:Hq q=true:=by
    cases hp:Hq q with
    | true=>rfl
    | false=>exact absurd (.inr (.inr hp)) h1
   refine⟨Dc.1 I,Dc.1 J,?_⟩;rcases Nat.decEq (Int.gcd p q) 1 with H|H
   ·exact absurd (.inl H) h2
   ·exact H
theorem Wv {a b c d p q:Int} (J:a*d - b*c≠0) (h:Int.gcd p q=1):Int.gcd (a*p+b*q) (c*p+d*q)≠0:=by
 intro U;obtain⟨V,Y⟩:=Int.gcd_eq_zero_iff.1 U
 have H:(a*d - b*c)*p=d*(a*p+b*q) - b*(c*p+d*q):=by
  rw[Int.sub_mul,Int.mul_add,Int.mul_add];have H:d*(b*q)=b*(d*q):=by rw[<-Int.mul_assoc,<-Int.mul_assoc,Int.mul_comm d b]
  have I:a*d*p=d*(a*p):=by rw[<-Int.mul_assoc,Int.mul_comm d a]
  have O:b*c*p=b*(c*p):=Int.mul_assoc _ _ _;omega
 have I:(a*d - b*c)*q=a*(c*p+d*q) - c*(a*p+b*q):=by
  rw[Int.sub_mul,Int.mul_add,Int.mul_add];have H:a*(c*p)=c*(a*p):=by rw[<-Int.mul_assoc,<-Int.mul_assoc,Int.mul_comm a c]
  have I:a*d*q=a*(d*q):=Int.mul_assoc _ _ _;have O:b*c*q=c*(b*q):=by rw[<-Int.mul_assoc,Int.mul_comm c b]
  omega
 rw[V,Y,Int.mul_zero,Int.mul_zero,Int.sub_zero]at H I;have p0:p=0:=(Int.mul_eq_zero.1 H).resolve_left J;have q0:q=0:=(Int.mul_eq_zero.1 I).resolve_left J;subst p0;subst q0;simp at h
theorem Ry (a b c d p q:Int) (w:World) (ha:-1073741824<=a) (aJ:a<=1073741824) (hb:-1073741824<=b) (aL:b<=1073741824) (hc:-1073741824<=c) (aU:c<=1073741824) (hd:-1073741824<=d) (aX:d<=1073741824)
  (Y:a*d - b*c≠0) (hp:-9223372036854775808<=p) (cC:p<=9223372036854775807) (hq:-9223372036854775808<=q) (cD:q<=9223372036854775807):
  Calls prog 67 #[.agg #[.int .i64 a,.int .i64 b,.int .i64 c,.int .i64 d],.agg #[.int .i64 p,.int .i64 q]] w λe w'=>e=.returned (.tuple #[.agg #[.int .i64 (Dy a b c d p q).1.1,.int .i64 (Dy a b c d p q).1.2],.int .i64 (Dy a b c d p q).2])/\Below w.heap.size w w':=by
 obtain⟨av,aK⟩:∃av,Dy a b c d p q=av:=⟨_,rfl⟩
 rw[aK];have HV:=Kh aK;have HD:=Kh (λw1=>gB a b c d w1 ha aJ hb aL hc aU hd aX);have HC:=Kh (λw1=>C3 p q w1 hp cC hq cD);have HI:=Kh eA;have HM:=Kh (λ(h:Av p q=0)=>And.intro (mul_b ha aJ (cuspE_zero h).1.1 (cuspE_zero h).1.2) (And.intro (mul_b hb aL (cuspE_zero h).2.1.1 (cuspE_zero h).2.1.2) (And.intro (mul_b hc aU (cuspE_zero h).1.1 (cuspE_zero h).1.2) (mul_b hd aX (cuspE_zero h).2.1.1 (cuspE_zero h).2.1.2))));have HN:=Kh (λ(h:Av p q=0)=>Wv Y (cuspE_zero h).2.2);clear aK ha aJ hb aL hc aU hd aX hp cC hq cD;generalize a*d - b*c=det at HD Y;go_enter func67,ntmps67
 go_wp2_with fail
 obtain⟨w0,cG,X0,X1,X2,aN⟩:=Rw w #[.int .i64 a,.int .i64 b,.int .i64 c,.int .i64 d] 63 #[.int .i64 p,.int .i64 q] 47 #[.int .i64 0,.int .i64 0] 47;rw[cG];have cF:w.heap.size<=w0.heap.size:=aN.size;clear cG;have I:=Kh X0;have J:=Kh X1;have H:=Kh X2;clear X0 X1 X2;refine(HD.1 w0).mono ?_;rintro e w1 ⟨rfl,U⟩;replace I:=Kh (bk I U);replace J:=Kh (bk J U);replace H:=Kh (bk H U);have bY:=Kh (aN.trans (U.mono cF));have y0:=J.1.at_ 0 rfl;have y1:=J.1.at_ 1 rfl;clear aN U cF HD;go_wp2_with fail
 refine(HC.1 w1).mono ?_;rintro e w2 ⟨rfl,V⟩;replace I:=Kh (bk I V);replace J:=Kh (bk J V);replace H:=Kh (bk H V);have Z:=bt bY V;have z0:=H.1.at_ 0 rfl;have z1:=H.1.at_ 1 rfl;have f0:=H.1.free_ 0;have f1:=H.1.free_ 1;clear V bY HC y0 y1;by_cases hz:Av p q=0
 ·have m1:=(HM.1 hz).1
  have m2:=(HM.1 hz).2.1;have m3:=(HM.1 hz).2.2.1;have m4:=(HM.1 hz).2.2.2;have HL:=Kh (λw1=>gJ (a*p+b*q) (c*p+d*q) w1 (by omega) (by omega) (by omega) (by omega) (HN.1 hz));have O:=Kh (show av=if Hq (low (a*p+b*q) (c*p+d*q)).1=true/\Hq (low (a*p+b*q) (c*p+d*q)).2=true then(low (a*p+b*q) (c*p+d*q),0)else((0,0),7)by rw[<-HV.1,Dy,if_neg (by simp[hz])]);have x0:=I.1.at_ 0 rfl;have x1:=I.1.at_ 1 rfl;have x2:=I.1.at_ 2 rfl;have x3:=I.1.at_ 3 rfl;have y0:=J.1.at_ 0 rfl;have y1:=J.1.at_ 1 rfl;rw[hz];clear HV HM HN hz z0 z1 f0 f1;go_wp2_with fail
  refine(HL.1 w2).mono ?_;rintro e w3 ⟨rfl,aT⟩;generalize low (a*p+b*q) (c*p+d*q)=lo at O;replace H:=Kh (bk H aT);have cA:=bt Z aT;clear aT Z HL x0 x1 x2 x3 y0 y1 m1 m2 m3 m4 I J;obtain⟨l1,l2⟩:=lo;have z0:∀o,(w3.alloc o).cell? ⟨w.heap.size+1+1,0,none⟩=some (.int .i64 0):=λo=>(H.1.alloc_ o).at_ 0 rfl
  have z1:∀o,(w3.alloc o).cell? ⟨w.heap.size+1+1,1,none⟩=some (.int .i64 0):=λo=>(H.1.alloc_ o).at_ 1 rfl
  have f0:∀o,(w3.alloc o).frozen? ⟨w.heap.size+1+1,0,none⟩=false:=λo=>(H.1.alloc_ o).free_ 0
  have f1:∀o,(w3.alloc o).frozen? ⟨w.heap.size+1+1,1,none⟩=false:=λo=>(H.1.alloc_ o).free_ 1
  have HF:=Kh (λ(o:Obj) (u v:Value)=>((cA.1.alloc cA.1.size o).setCell (p:=⟨w.heap.size+1+1,0,none⟩) (by simp;omega) u).setCell (p:=⟨w.heap.size+1+1,1,none⟩) (by simp;omega) v);go_wp2_with fail
  refine(HI.1 _ _).mono ?_;rintro e w4 ⟨rfl,rfl⟩;cases h1:Hq l1 with
  | false=>
   obtain rfl:av=((0,0),7):=by rw[O.1,if_neg (by simp[h1])]
   clear O h1 HI;go_wp2;refine bodyPost_ret (by simp[results,results67,go_sem,z0,z1];try rfl) rfl ?_;exact⟨rfl,HF.1 _ _ _⟩
  | true=>
   go_wp2_with fail
   refine(HI.1 _ _).mono ?_;rintro e w5 ⟨rfl,rfl⟩;cases h2:Hq l2 with
   | false=>
    obtain rfl:av=((0,0),7):=by rw[O.1,if_neg (by simp[h2])]
    clear O h1 h2 HI;go_wp2;refine bodyPost_ret (by simp[results,results67,go_sem,z0,z1];try rfl) rfl ?_;exact⟨rfl,HF.1 _ _ _⟩
   | true=>
    obtain rfl:av=((l1,l2),0):=by rw[O.1,if_pos ⟨h1,h2⟩]
    clear O h1 h2 HI;go_wp2;refine bodyPost_ret (by simp[results,results67,go_sem,z0,z1];try rfl) rfl ?_;exact⟨rfl,HF.1 _ _ _⟩
 ·obtain rfl:av=((0,0),Av p q):=by rw[<-HV.1,Dy,if_pos hz]
  clear HV HM HN;go_wp2;refine bodyPost_ret (by simp[results,results67,go_sem,z0,z1];try rfl) rfl ?_;exact⟨rfl,(Z.1.setCell (p:=⟨w.heap.size+1+1,0,none⟩) (by simp;omega) _).setCell (p:=⟨w.heap.size+1+1,1,none⟩) (by simp;omega) _⟩
def TV (B:Nat) (w0 w:World):List Addr->Prop
 | []=>Below B w0 w/\B<=w.heap.size
 | a :: m=>w.cell? a=some (cellOf w a)/\w.frozen? a=false/\TV B w0 w m
def TT (B:Nat) (w0 w:World) (l:List (Addr×Value)) (m:List Addr):Prop:=
 match l with
 | []=>TV B w0 w m
 |(a,v) :: l=>w.cell? a=some v/\TT B w0 w l m
theorem TV.next {B:Nat} {w0 w w':World} {m:List Addr} (H:Below w.heap.size w w') (h:TV B w0 w m):TV B w0 w' m:=by
 induction m with
 | nil=>exact⟨h.1.trans (H.mono h.2),kU h.2 H.size⟩
 | cons a m ih=>
  obtain⟨I,J,O⟩:=h;have U:=World.block_lt_of_cell? w a I;refine⟨Am (by rw[H.cell U];exact B8 I),Ab H (B8 I) J,ih O⟩
theorem TT.next {B:Nat} {w0 w w':World} {l:List (Addr×Value)} {m:List Addr} (H:Below w.heap.size w w') (h:TT B w0 w l m):TT B w0 w' l m:=by
 induction l with
 | nil=>exact TV.next H h
 | cons x l ih=>exact⟨(H.cell (World.block_lt_of_cell? w x.1 h.1)).trans h.1,ih h.2⟩
theorem TV.below {B:Nat} {w0 w:World} {m:List Addr} (h:TV B w0 w m):Below B w0 w:=by
 induction m with
 | nil=>exact h.1
 | cons a m ih=>exact ih h.2.2
theorem TT.below {B:Nat} {w0 w:World} {l:List (Addr×Value)} {m:List Addr} (h:TT B w0 w l m):Below B w0 w:=by
 induction l with
 | nil=>exact TV.below h
 | cons x l ih=>exact ih h.2
theorem TV.put {B:Nat} {w0 w:World} {m:List Addr} (h:TV B w0 w m) (p:Addr) (v:Value) (H:B<=p.block):TV B w0 (w.setCell p v) m:=by
 induction m with
 | nil=>exact⟨h.1.setCell H v,by simpa using h.2⟩
 | cons a m ih=>exact⟨Am (A8 (B8 h.1)),At h.2.1,ih h.2.2⟩
theorem TT.put {B:Nat} {w0 w:World} {l:List (Addr×Value)} {m:List Addr} (h:TT B w0 w l m) (p:Addr) (v:Value) (I:B<=p.block) (H:∀x∈l,p.block≠x.1.block):TT B w0 (w.setCell p v) l m:=by
 induction l with
 | nil=>exact TV.put h p v I
 | cons x l ih=>
  refine⟨?_,ih h.2 (λy J=>H y (List.mem_cons_of_mem _ J))⟩;rw[World.cell?_setCell_far w p x.1 v (H x (List.mem_cons_self ..))];exact h.1
abbrev U7 (B:Nat) (w0 w:World) (a0 a1 a2 a3 a4 a5 a6 a7 a8 b0 b1 b2 b3 b4:Addr) (v0 v1 v2 v3 v4 v5 v6 v7 v8:Value):Prop:=w.cell? a0=some v0/\w.cell? a1=some v1/\w.cell? a2=some v2/\w.cell? a3=some v3/\w.cell? a4=some v4/\w.cell? a5=some v5/\w.cell? a6=some v6/\w.cell? a7=some v7/\w.cell? a8=some v8/\w.cell? b0=some (cellOf w b0)/\w.frozen? b0=false/\w.cell? b1=some (cellOf w b1)/\w.frozen? b1=false/\w.cell? b2=some (cellOf w b2)/\w.frozen? b2=false/\w.cell? b3=some (cellOf w b3)/\w.frozen? b3=false/\w.cell? b4=some (cellOf w b4)/\w.frozen? b4=false/\Below B w0 w/\B<=w.heap.size
theorem Lj {B:Nat} {w0 w w':World} {H I J O U V Y Z a8 b0 b1 b2 b3 b4:Addr} {v0 v1 v2 v3 v4 v5 v6 v7 v8:Value} (hb:Below w.heap.size w w') (h:U7 B w0 w H I J O U V Y Z a8 b0 b1 b2 b3 b4 v0 v1 v2 v3 v4 v5 v6 v7 v8):U7 B w0 w' H I J O U V Y Z a8 b0 b1 b2 b3 b4 v0 v1 v2 v3 v4 v5 v6 v7 v8:=TT.next (B:=B) (w0:=w0) (l:=[(H,v0),(I,v1),(J,v2),(O,v3),(U,v4),(V,v5),(Y,v6),(Z,v7),(a8,v8)]) (m:=[b0,b1,b2,b3,b4]) hb h
theorem Jn {B:Nat} {w0 w:World} {H I J O U V Y Z a8 b0 b1 b2 b3 b4:Addr} {v0 v1 v2 v3 v4 v5 v6 v7 v8:Value} (h:U7 B w0 w H I J O U V Y Z a8 b0 b1 b2 b3 b4 v0 v1 v2 v3 v4 v5 v6 v7 v8):Below B w0 w:=TT.below (B:=B) (w0:=w0) (l:=[(H,v0),(I,v1),(J,v2),(O,v3),(U,v4),(V,v5),(Y,v6),(Z,v7),(a8,v8)]) (m:=[b0,b1,b2,b3,b4]) h
theorem Vg {B:Nat} {w0 w:World} {H I J O U V Y Z a8 b0 b1 b2 b3 b4:Addr} {v0 v1 v2 v3 v4 v5 v6 v7 v8:Value} (h:U7 B w0 w H I J O U V Y Z a8 b0 b1 b2 b3 b4 v0 v1 v2 v3 v4 v5 v6 v7 v8) {p0 p1 p2 p3 p4:Addr} {u0 u1 u2 u3 u4:Value} (lE:B<=p0.block) (cC:p0.block≠H.block) (cD:p0.block≠I.block) (cF:p0.block≠J.block) (cG:p0.block≠O.block) (cT:p0.block≠U.block) (cX:p0.block≠V.block) (dC:p0.block≠Y.block) (dE:p0.block≠Z.block) (dY:p0.block≠a8.block) (lF:B<=p1.block) (eP:p1.block≠H.block) (gA:p1.block≠I.block) (gF:p1.block≠J.block) (gL:p1.block≠O.block) (gN:p1.block≠U.block) (gP:p1.block≠V.block) (gS:p1.block≠Y.block) (gU:p1.block≠Z.block) (hB:p1.block≠a8.block) (lG:B<=p2.block) (hD:p2.block≠H.block) (hE:p2.block≠I.block) (hG:p2.block≠J.block) (hI:p2.block≠O.block) (hJ:p2.block≠U.block) (hL:p2.block≠V.block) (hM:p2.block≠Y.block) (hN:p2.block≠Z.block) (hO:p2.block≠a8.block) (lH:B<=p3.block) (hP:p3.block≠H.block) (hQ:p3.block≠I.block) (hR:p3.block≠J.block) (hS:p3.block≠O.block) (hT:p3.block≠U.block) (hU:p3.block≠V.block) (hV:p3.block≠Y.block) (hW:p3.block≠Z.block) (hX:p3.block≠a8.block) (lI:B<=p4.block) (hY:p4.block≠H.block) (hZ:p4.block≠I.block) (iL:p4.block≠J.block) (kY:p4.block≠O.block) (kZ:p4.block≠U.block) (lA:p4.block≠V.block) (lB:p4.block≠Y.block) (lC:p4.block≠Z.block) (lD:p4.block≠a8.block):U7 B w0 (((((w.setCell p0 u0).setCell p1 u1).setCell p2 u2).setCell p3 u3).setCell p4 u4) H I J O U V Y Z a8 b0 b1 b2 b3 b4 v0 v1 v2 v3 v4 v5 v6 v7 v8:=(TT.put (B:=B) (w0:=w0) (l:=[(H,v0),(I,v1),(J,v2),(O,v3),(U,v4),(V,v5),(Y,v6),(Z,v7),(a8,v8)]) (m:=[b0,b1,b2,b3,b4]) (TT.put (B:=B) (w0:=w0) (l:=[(H,v0),(I,v1),(J,v2),(O,v3),(U,v4),(V,v5),(Y,v6),(Z,v7),(a8,v8)]) (m:=[b0,b1,b2,b3,b4]) (TT.put (B:=B) (w0:=w0) (l:=[(H,v0),(I,v1),(J,v2),(O,v3),(U,v4),(V,v5),(Y,v6),(Z,v7),(a8,v8)]) (m:=[b0,b1,b2,b3,b4]) (TT.put (B:=B) (w0:=w0) (l:=[(H,v0),(I,v1),(J,v2),(O,v3),(U,v4),(V,v5),(Y,v6),(Z,v7),(a8,v8)]) (m:=[b0,b1,b2,b3,b4]) (TT.put (B:=B) (w0:=w0) (l:=[(H,v0),(I,v1),(J,v2),(O,v3),(U,v4),(V,v5),(Y,v6),(Z,v7),(a8,v8)]) (m:=[b0,b1,b2,b3,b4]) h p0 u0 lE (by simp[*])) p1 u1 lF (by simp[*])) p2 u2 lG (by simp[*])) p3 u3 lH (by simp[*])) p4 u4 lI (by simp[*]))
def NotU32 (v:Value):Prop:=∀n,v≠.int .u32 n
theorem Er (n:Int):¬NotU32 (.int .u32 n):=λh=>h _ rfl
theorem Bc {K:Value->Prop} {w:World} {R:Nat} (h:Stk K w R) (p:Addr) (u:Value) (I:K u):Stk K (w.setCell p u) R:=by
 refine⟨by simpa using h.1,λi v H=>?_⟩;by_cases hp:p=⟨R,i,none⟩
 ·cases hc:w.cell? p with
  | none=>
   have:(w.setCell p u).cell? p=none:=Ev u hc;rw[<-hp,this]at H;cases H
  | some y=>
   rw[<-hp,World.cell?_setCell_same' _ _ _ (by rw[hc];rfl)]at H;injection H with H
   rw[<-H];exact I
 ·rw[World.cell?_setCell_other _ _ _ _ hp]at H
  exact h.2 i v H
theorem I32.putK {w:World} {R:Nat} (J:Stk NotU32 w R) (i:Nat) (u:Value):I32 w (w.setCell ⟨R,i,none⟩ u):=
 ⟨by simp,λg j n e=>by
  have H:R≠g:=λI=>J.2 j _ (by rw[I];exact e) _ rfl
  rw[World.cell?_setCell_far w ⟨R,i,none⟩ ⟨g,j,none⟩ u H];exact e⟩
theorem I32.path {w:World} {R:Nat} (I:Stk NotU32 w R) (p:Option Addr) (n c:Nat) (i j k l:Int):
  I32 w (((((w.setCell ⟨R,0,none⟩ (.slice p n c)).setCell ⟨R,1,none⟩ (.int .i64 i)).setCell ⟨R,2,none⟩ (.int .i64 j)).setCell ⟨R,3,none⟩ (.int .i64 k)).setCell ⟨R,4,none⟩ (.int .i64 l)):=by
 have V:NotU32 (.slice p n c):=λ_ h=>by cases h
 have H:∀x:Int,NotU32 (.int .i64 x):=λx _ h=>by cases h
 have J:=Bc I ⟨R,0,none⟩ (.slice p n c) V;have O:=Bc J ⟨R,1,none⟩ (.int .i64 i) (H i);have U:=Bc O ⟨R,2,none⟩ (.int .i64 j) (H j);have Y:=Bc U ⟨R,3,none⟩ (.int .i64 k) (H k);exact((((I32.putK I 0 _).trans (I32.putK J 1 _)).trans (I32.putK O 2 _)).trans (I32.putK U 3 _)).trans (I32.putK Y 4 _)
theorem QRow.i32 {F:Nat->FP} (hF:∀j,Bh (F j)) {w w':World} {g N k R:Nat} (h:QRow F w g N k) (U:I32 w w') (hg:w.grownBy w' (some R)) (I:g≠R):QRow F w' g N k:=by
 have J:∀j v,w.cell? ⟨g,j,none⟩=some v->w'.cell? ⟨g,j,none⟩=some v:=λj v e=>hg.cell e (λO=>by injection O with O;exact I O)
 have H:w'.heap[g]?=w.heap[g]?:=hg.block g h.sts.1 (λe=>by injection e with e;exact I e);refine⟨⟨kV h.sts.1 hg.size,λi v hv=>h.sts.2 i v ((World.cell?_of_block (a:=⟨g,i,none⟩) H).symm.trans hv)⟩,λi V=>(World.frozen?_of_block (a:=⟨g,i,none⟩) H).trans (h.free i V),λi V=>?_,λj hj=>?_⟩
 ·rw[World.cell?_of_block (a:=⟨g,i,none⟩) H];exact h.has i V
 ·obtain⟨s,p,n,c,t,q,m,d,Y,Z,h2,h3,h4⟩:=h.val j hj
  exact⟨s,p,n,c,t,q,m,d,J _ _ Y,J _ _ Z,J _ _ h2,J _ _ h3,hF j _ _ _ _ _ _ _ _ _ _ U h4⟩
theorem Jr (w:World) (g:Nat) (v0 v1 v2 v3 H:Value):w.grownBy (((((w.setCell ⟨g,0,none⟩ v0).setCell ⟨g,1,none⟩ v1).setCell ⟨g,2,none⟩ v2).setCell ⟨g,3,none⟩ v3).setCell ⟨g,4,none⟩ H) (some g):=
 ((((Ai w g 0 v0).trans (Ai _ g 1 v1)).trans (Ai _ g 2 v2)).trans (Ai _ g 3 v3)).trans (Ai _ g 4 H)
def cZ (a b c d p q p' q':Int):Int:=if(Dy a b c d p q).2≠0 then(Dy a b c d p q).2 else(Dy a b c d p' q').2
def RetP (w:World) (w':World) (e:Ending) (n:Nat) (f:Nat->Rat) (x y:Int×Int) (er:Int):Prop:=
 (er≠0/\e=.returned (.tuple #[.agg #[.slice none 0 0,.int .i64 0,.int .i64 0,.int .i64 0,.int .i64 0],.int .i64 er])) ∨
 (er=0/\∃g cap,e=.returned (.tuple #[.agg #[.slice (some ⟨g,0,none⟩) n cap,.int .i64 x.1,.int .i64 x.2,.int .i64 y.1,.int .i64 y.2],.int .i64 0])/\w.heap.size<=g/\QRow (λj=>IsQ (f j)) w' g n n)
theorem El (K:Nat) (hB:1<=K) (hD:K<=1000000) (v:Value) (n:Nat) (x y:Nat->Int) (p q p' q' a b c d:Int) (w:World) (h:QL (λj=>IsB K (x j) (y j)) w v n) (h0:0<n) (hn:n<=23) (ha:-1073741824<=a) (bY:a<=1073741824) (hb:-1073741824<=b) (cT:b<=1073741824) (hc:-1073741824<=c) (dC:c<=1073741824) (hd:-1073741824<=d) (cA:d<=1073741824) (bB:a*d - b*c≠0)
  (hp:-9223372036854775808<=p) (hI:p<=9223372036854775807) (hq:-9223372036854775808<=q) (hJ:q<=9223372036854775807) (hr:-9223372036854775808<=p') (hL:p'<=9223372036854775807) (hs:-9223372036854775808<=q') (hN:q'<=9223372036854775807):
  Calls prog 25 #[.agg #[v,.int .i64 p,.int .i64 q,.int .i64 p',.int .i64 q'],.agg #[.int .i64 a,.int .i64 b,.int .i64 c,.int .i64 d]] w λe w'=>RetP w w' e n (subst (λi=>Rat.divInt (x i) (y i)) (n - 1) d (-b) (-c) a n) (Dy a b c d p q).1 (Dy a b c d p' q').1 (cZ a b c d p q p' q')/\Below w.heap.size w w':=by
 have hv:=h;obtain⟨g1,o1,l1,rfl,mF,_⟩:=h.resolve_left (λh=>by omega);have aT:=Kh (λI=>Ry a b c d p q I ha bY hb cT hc dC hd cA bB hp hI hq hJ);have aU:=Kh (λI=>Ry a b c d p' q' I ha bY hb cT hc dC hd cA bB hr hL hs hN);have gP:=Kh (λI (lJ:Below w.heap.size w I)=>Ou K hB hD (.slice (some ⟨g1,o1,none⟩) n l1) n x y d (-b) (-c) a I (hv.keep (λj=>IsB.solid _ _ _) lJ) h0 (by omega) hd cA (by omega) (by omega) (by omega) (by omega) ha bY);have mD:IntKind.i64.wrap (-b)=-b:=IntWalk.i64_in _ (by omega);have mE:IntKind.i64.wrap (-c)=-c:=IntWalk.i64_in _ (by omega);obtain⟨er,dE⟩:∃er,cZ a b c d p q p' q'=er:=⟨_,rfl⟩
 have aL:=Kh (show er=if(Dy a b c d p q).2≠0 then(Dy a b c d p q).2 else(Dy a b c d p' q').2 by rw[<-dE];rfl);rw[dE];obtain⟨lC,cD⟩:∃av,Dy a b c d p q=av:=⟨_,rfl⟩
 obtain⟨lD,cF⟩:∃av,Dy a b c d p' q'=av:=⟨_,rfl⟩
 simp only[cD,cF]at aT aU aL ⊢;obtain⟨⟨x1,y1⟩,e1⟩:=lC;obtain⟨⟨x2,y2⟩,e2⟩:=lD;obtain⟨fn,dY⟩:∃fn,subst (λi=>Rat.divInt (x i) (y i)) (n - 1) d (-b) (-c) a n=fn:=⟨_,rfl⟩
 rw[dY];simp only[dY]at gP;dsimp only at aL ⊢;have mG:¬(n:Int)<1:=by omega
 have mH:¬(n:Int) > 23:=by omega
 clear h hv ha bY hb cT hc dC hd cA bB hp hI hq hJ hr hL hs hN hB hD cD cF dE dY;go_enter func25,ntmps25
 go_wp2_with fail
 obtain⟨w0,hP,X0,X1,Z,cX⟩:=Rw w #[.slice (some ⟨g1,o1,none⟩) n l1,.int .i64 p,.int .i64 q,.int .i64 p',.int .i64 q'] 57 #[.int .i64 a,.int .i64 b,.int .i64 c,.int .i64 d] 63 #[.slice none 0 0,.int .i64 0,.int .i64 0,.int .i64 0,.int .i64 0] 57;rw[hP];have lL:w.heap.size<=w0.heap.size:=cX.size;clear hP;have U:=Kh X0;have O:=Kh X1;have H:=Kh Z;have gL:=Kh cX;clear X0 X1 Z cX lL;refine(aT.1 w0).mono ?_;rintro e J ⟨rfl,bA⟩;replace U:=Kh (bk U bA);replace O:=Kh (bk O bA);replace H:=Kh (bk H bA);have aJ:=bt gL bA;have gN:=Kh (show w.heap.size+1+1<J.heap.size from H.1.lt);clear bA gL aT;have z0:∀o,(J.alloc o).cell? ⟨w.heap.size+1+1,0,none⟩=some (.slice none 0 0):=λo=>(H.1.alloc_ o).at_ 0 rfl
 have f0:∀o,(J.alloc o).frozen? ⟨w.heap.size+1+1,0,none⟩=false:=λo=>(H.1.alloc_ o).free_ 0
 have z1:∀o,(J.alloc o).cell? ⟨w.heap.size+1+1,1,none⟩=some (.int .i64 0):=λo=>(H.1.alloc_ o).at_ 1 rfl
 have f1:∀o,(J.alloc o).frozen? ⟨w.heap.size+1+1,1,none⟩=false:=λo=>(H.1.alloc_ o).free_ 1
 have z2:∀o,(J.alloc o).cell? ⟨w.heap.size+1+1,2,none⟩=some (.int .i64 0):=λo=>(H.1.alloc_ o).at_ 2 rfl
 have f2:∀o,(J.alloc o).frozen? ⟨w.heap.size+1+1,2,none⟩=false:=λo=>(H.1.alloc_ o).free_ 2
 have z3:∀o,(J.alloc o).cell? ⟨w.heap.size+1+1,3,none⟩=some (.int .i64 0):=λo=>(H.1.alloc_ o).at_ 3 rfl
 have f3:∀o,(J.alloc o).frozen? ⟨w.heap.size+1+1,3,none⟩=false:=λo=>(H.1.alloc_ o).free_ 3
 have z4:∀o,(J.alloc o).cell? ⟨w.heap.size+1+1,4,none⟩=some (.int .i64 0):=λo=>(H.1.alloc_ o).at_ 4 rfl
 have f4:∀o,(J.alloc o).frozen? ⟨w.heap.size+1+1,4,none⟩=false:=λo=>(H.1.alloc_ o).free_ 4
 by_cases h1:e1=0
 ·subst h1
  have HE:=Kh (show er=e2 by rw[aL.1,if_neg (by simp)]);have u0:∀o,(J.alloc o).cell? ⟨w.heap.size,3,none⟩=some (.int .i64 p'):=λo=>(U.1.alloc_ o).at_ 3 rfl
  have u1:∀o,(J.alloc o).cell? ⟨w.heap.size,4,none⟩=some (.int .i64 q'):=λo=>(U.1.alloc_ o).at_ 4 rfl
  have m0:∀o,(J.alloc o).cell? ⟨w.heap.size+1,0,none⟩=some (.int .i64 a):=λo=>(O.1.alloc_ o).at_ 0 rfl
  have m1:∀o,(J.alloc o).cell? ⟨w.heap.size+1,1,none⟩=some (.int .i64 b):=λo=>(O.1.alloc_ o).at_ 1 rfl
  have m2:∀o,(J.alloc o).cell? ⟨w.heap.size+1,2,none⟩=some (.int .i64 c):=λo=>(O.1.alloc_ o).at_ 2 rfl
  have m3:∀o,(J.alloc o).cell? ⟨w.heap.size+1,3,none⟩=some (.int .i64 d):=λo=>(O.1.alloc_ o).at_ 3 rfl
  clear z0 z1 z2 z3 z4 f0 f1 f2 f3 f4 aL;go_wp2_with fail
  refine(aU.1 _).mono ?_;rintro e w5 ⟨rfl,aN⟩;have V:∀o,Below J.heap.size J (J.alloc o):=λo=>(Below.refl _ _).alloc (kT _) o
  have aX:=Kh ((aJ.1.trans ((V _).mono aJ.1.size)).trans (aN.mono (by have:=aJ.1.size;simp;omega)));have cG:=Kh ((Blk.new J 47 #[.int .i64 x1,.int .i64 y1]).below_ aN (by simp));replace U:=Kh ((U.1.alloc_ _).below_ aN (U.1.alloc_ _).lt);replace O:=Kh ((O.1.alloc_ _).below_ aN (O.1.alloc_ _).lt);replace H:=Kh ((H.1.alloc_ _).below_ aN (H.1.alloc_ _).lt);have mI:w.heap.size<=J.heap.size:=aJ.1.size;clear aN V aJ aU u0 u1 m0 m1 m2 m3;by_cases h2:e2=0
  ·subst h2
   go_upto_region 9 with(fail)
   obtain⟨w6,cB⟩:∃w6,w5.alloc (.cells #[.int .i64 x2,.int .i64 y2] 47)=w6:=⟨_,rfl⟩
   rw[cB];have V:Below w5.heap.size w5 w6:=cB▸(Below.refl _ _).alloc (kT _) _;have X8:Blk w6 w5.heap.size 47 #[.int .i64 x2,.int .i64 y2]:=cB▸Blk.new w5 _ _;have X6:=bk cG V;have X0:=bk U V;have X1:=bk O V;have Z:=bk H V;have hE:=aX.1.trans (V.mono aX.1.size);have mJ:=cG.1.lt;have mA:=gN.1;have lG:w.heap.size+1+1<w6.heap.size:=Z.lt;have Y:=Kh Z;have kY:=Kh (Stk.of (K:=NotU32) Z (by intro v hv;simp at hv;rcases hv with rfl|rfl <;> exact λ_ h=>by cases h));clear U O H cG aX V cB;have lH:=Lj (Below.refl _ w6).drew ⟨X0.c0,X1.c0,X1.c1,X1.c2,X1.c3,X6.c0,X6.c1,X8.c0,X8.c1,Z.so 0,Z.free_ 0,Z.so 1,Z.free_ 1,Z.so 2,Z.free_ 2,Z.so 3,Z.free_ 3,Z.so 4,Z.free_ 4,hE,Below.size (show Below w.heap.size w w6 from hE)⟩;clear X0 X1 Z X6 X8;have M1:True:=trivial
   go_region_held3 (λI=>I.cell? ⟨w.heap.size,0,none⟩=some (.slice (some ⟨g1,o1,none⟩) n l1)/\I.cell? ⟨w.heap.size+1,0,none⟩=some (.int .i64 a)/\I.cell? ⟨w.heap.size+1,1,none⟩=some (.int .i64 b)/\I.cell? ⟨w.heap.size+1,2,none⟩=some (.int .i64 c)/\I.cell? ⟨w.heap.size+1,3,none⟩=some (.int .i64 d)/\I.cell? ⟨J.heap.size,0,none⟩=some (.int .i64 x1)/\I.cell? ⟨J.heap.size,1,none⟩=some (.int .i64 y1)/\I.cell? ⟨w5.heap.size,0,none⟩=some (.int .i64 x2)/\I.cell? ⟨w5.heap.size,1,none⟩=some (.int .i64 y2)/\I.cell? ⟨w.heap.size+1+1,0,none⟩=some (cellOf I ⟨w.heap.size+1+1,0,none⟩)/\I.frozen? ⟨w.heap.size+1+1,0,none⟩=false/\I.cell? ⟨w.heap.size+1+1,1,none⟩=some (cellOf I ⟨w.heap.size+1+1,1,none⟩)/\I.frozen? ⟨w.heap.size+1+1,1,none⟩=false/\I.cell? ⟨w.heap.size+1+1,2,none⟩=some (cellOf I ⟨w.heap.size+1+1,2,none⟩)/\I.frozen? ⟨w.heap.size+1+1,2,none⟩=false/\I.cell? ⟨w.heap.size+1+1,3,none⟩=some (cellOf I ⟨w.heap.size+1+1,3,none⟩)/\I.frozen? ⟨w.heap.size+1+1,3,none⟩=false/\I.cell? ⟨w.heap.size+1+1,4,none⟩=some (cellOf I ⟨w.heap.size+1+1,4,none⟩)/\I.frozen? ⟨w.heap.size+1+1,4,none⟩=false/\Below w.heap.size w I/\w.heap.size<=I.heap.size)
    (first|with_reducible exact lH|with_reducible assumption |(refine Lj (by with_reducible assumption) ?_;assumption) |(refine Vg ?_ ?_ ?_ ?_ ?_ ?_ ?_ ?_ ?_ ?_ ?_ ?_ ?_ ?_ ?_ ?_ ?_ ?_ ?_ ?_ ?_ ?_ ?_ ?_ ?_ ?_ ?_ ?_ ?_ ?_ ?_ ?_ ?_ ?_ ?_ ?_ ?_ ?_ ?_ ?_ ?_ ?_ ?_ ?_ ?_ ?_ ?_ ?_ ?_ ?_ ?_ <;> first|assumption |(dsimp only;omega) |(simp;done)))
    (first
     |(go_at_call 68;refine(gP.1 _ (Jn (by with_reducible assumption))).mono ?_;rintro e w7 ⟨⟨g7,rfl,eP,hM⟩,hG⟩;have aK:Below w6.heap.size w6 w7:=(by first|exact(Below.refl _ w6).drew.trans hG|exact hG);have hZ:=Kh (show w.heap.size<=g7 from kU (by simp only[World.drew];omega) eP);have iL:=Kh (QRow.i32 (λ_=>IsQ.solid _) hM (I32.path (kY.1.next aK) (some ⟨g7,0,none⟩) n n x1 y1 x2 y2) (Jr _ _ _ _ _ _ _) (Nat.ne_of_gt (kV lG (kU (by simp only[World.drew];omega) eP))));have r0:w7.cell? ⟨w.heap.size+1+1,0,none⟩=some (.slice none 0 0):=(bk Y aK).at_ 0 rfl;have r1:w7.cell? ⟨w.heap.size+1+1,1,none⟩=some (.int .i64 0):=(bk Y aK).at_ 1 rfl;have r2:w7.cell? ⟨w.heap.size+1+1,2,none⟩=some (.int .i64 0):=(bk Y aK).at_ 2 rfl;have r3:w7.cell? ⟨w.heap.size+1+1,3,none⟩=some (.int .i64 0):=(bk Y aK).at_ 3 rfl;have r4:w7.cell? ⟨w.heap.size+1+1,4,none⟩=some (.int .i64 0):=(bk Y aK).at_ 4 rfl;clear eP hM aK))
   all_goals go_wp2
   all_goals refine bodyPost_ret (by simp[results,results25,go_sem,r0,r1,r2,r3,r4];try rfl) rfl ?_
   all_goals exact⟨.inr ⟨HE.1,g7,n,rfl,hZ.1,iL.1⟩,Jn (by assumption)⟩
  ·have mB:=Kh h2
   have z0:∀o,(w5.alloc o).cell? ⟨w.heap.size+1+1,0,none⟩=some (.slice none 0 0):=λo=>(H.1.alloc_ o).at_ 0 rfl
   have f0:∀o,(w5.alloc o).frozen? ⟨w.heap.size+1+1,0,none⟩=false:=λo=>(H.1.alloc_ o).free_ 0
   have z1:∀o,(w5.alloc o).cell? ⟨w.heap.size+1+1,1,none⟩=some (.int .i64 0):=λo=>(H.1.alloc_ o).at_ 1 rfl
   have f1:∀o,(w5.alloc o).frozen? ⟨w.heap.size+1+1,1,none⟩=false:=λo=>(H.1.alloc_ o).free_ 1
   have z2:∀o,(w5.alloc o).cell? ⟨w.heap.size+1+1,2,none⟩=some (.int .i64 0):=λo=>(H.1.alloc_ o).at_ 2 rfl
   have f2:∀o,(w5.alloc o).frozen? ⟨w.heap.size+1+1,2,none⟩=false:=λo=>(H.1.alloc_ o).free_ 2
   have z3:∀o,(w5.alloc o).cell? ⟨w.heap.size+1+1,3,none⟩=some (.int .i64 0):=λo=>(H.1.alloc_ o).at_ 3 rfl
   have f3:∀o,(w5.alloc o).frozen? ⟨w.heap.size+1+1,3,none⟩=false:=λo=>(H.1.alloc_ o).free_ 3
   have z4:∀o,(w5.alloc o).cell? ⟨w.heap.size+1+1,4,none⟩=some (.int .i64 0):=λo=>(H.1.alloc_ o).at_ 4 rfl
   have f4:∀o,(w5.alloc o).frozen? ⟨w.heap.size+1+1,4,none⟩=false:=λo=>(H.1.alloc_ o).free_ 4
   go_wp2;refine bodyPost_ret (by simp[results,results25,go_sem,z0,z1,z2,z3,z4];try rfl) rfl ?_;exact⟨.inl ⟨by rw[HE.1];assumption,by rw[HE.1]⟩,(((((aX.1.alloc aX.1.size _).setCell (p:=⟨w.heap.size+1+1,0,none⟩) (by dsimp only;omega) _).setCell (p:=⟨w.heap.size+1+1,1,none⟩) (by dsimp only;omega) _).setCell (p:=⟨w.heap.size+1+1,2,none⟩) (by dsimp only;omega) _).setCell (p:=⟨w.heap.size+1+1,3,none⟩) (by dsimp only;omega) _).setCell (p:=⟨w.heap.size+1+1,4,none⟩) (by dsimp only;omega) _⟩
 ·have HE:=Kh (show er=e1 by rw[aL.1,if_pos h1])
  clear aL;go_wp2;refine bodyPost_ret (by simp[results,results25,go_sem,z0,z1,z2,z3,z4];try rfl) rfl ?_;exact⟨.inl ⟨by rw[HE.1];assumption,by rw[HE.1]⟩,(((((aJ.1.alloc aJ.1.size _).setCell (p:=⟨w.heap.size+1+1,0,none⟩) (by dsimp only;omega) _).setCell (p:=⟨w.heap.size+1+1,1,none⟩) (by dsimp only;omega) _).setCell (p:=⟨w.heap.size+1+1,2,none⟩) (by dsimp only;omega) _).setCell (p:=⟨w.heap.size+1+1,3,none⟩) (by dsimp only;omega) _).setCell (p:=⟨w.heap.size+1+1,4,none⟩) (by dsimp only;omega) _⟩
theorem QRow.grown {F:Nat->FP} (hF:∀j,Bh (F j)) {w w':World} {g N k:Nat} {row:Option Nat} (h:QRow F w g N k) (O:I32 w w') (hg:w.grownBy w' row) (I:some g≠row):QRow F w' g N k:=by
 have J:∀j v,w.cell? ⟨g,j,none⟩=some v->w'.cell? ⟨g,j,none⟩=some v:=λj v e=>hg.cell e I
 have H:w'.heap[g]?=w.heap[g]?:=hg.block g h.sts.1 I;refine⟨⟨kV h.sts.1 hg.size,λi v hv=>h.sts.2 i v ((World.cell?_of_block (a:=⟨g,i,none⟩) H).symm.trans hv)⟩,λi U=>(World.frozen?_of_block (a:=⟨g,i,none⟩) H).trans (h.free i U),λi U=>?_,λj hj=>?_⟩
 ·rw[World.cell?_of_block (a:=⟨g,i,none⟩) H];exact h.has i U
 ·obtain⟨s,p,n,c,t,q,m,d,V,Y,Z,h3,h4⟩:=h.val j hj
  exact⟨s,p,n,c,t,q,m,d,J _ _ V,J _ _ Y,J _ _ Z,J _ _ h3,hF j _ _ _ _ _ _ _ _ _ _ O h4⟩
def PX (w:World) (xs:List Value) (i n:Nat) (f:Nat->Rat) (x y:Int×Int):Prop:=
 ∃g cap,xs[i*5]?=some (.slice (some ⟨g,0,none⟩) n cap)/\xs[i*5+1]?=some (.int .i64 x.1)/\xs[i*5+2]?=some (.int .i64 x.2)/\xs[i*5+3]?=some (.int .i64 y.1)/\xs[i*5+4]?=some (.int .i64 y.2)/\QRow (λj=>IsQ (f j)) w g n n
def OwnP (F:Nat->Nat->Rat) (X Y:Nat->Int×Int) (w:World) (B:Nat) (v:Value) (k n:Nat):Prop:=
 (v.ownBlock=none∨0<k)/\∃xs,OwnK NotU32 w B 57 5 v k xs/\∀i,i<k->PX w xs i n (F i) (X i) (Y i)
theorem OwnP.nil (F:Nat->Nat->Rat) (X Y:Nat->Int×Int) (w:World) (B n:Nat):OwnP F X Y w B (.slice none 0 0) 0 n:=⟨.inl rfl,[],OwnK.nil _ _ _ _ _,λ_ H=>absurd H (Nat.not_lt_zero _)⟩
theorem PX.keep {w w':World} {H:List Value} {i n:Nat} {f:Nat->Rat} {x y:Int×Int} (h:PX w H i n f x y) (Z:Below w.heap.size w w'):PX w' H i n f x y:=by
 obtain⟨g,cap,I,J,O,U,V,Y⟩:=h;exact⟨g,cap,I,J,O,U,V,Y.keep (λ_=>IsQ.solid _) Z⟩
theorem OwnP.keep {F:Nat->Nat->Rat} {X Y:Nat->Int×Int} {w w':World} {B k n:Nat} {v:Value} (h:OwnP F X Y w B v k n) (H:Below w.heap.size w w'):OwnP F X Y w' B v k n:=by
 obtain⟨U,V,I,J⟩:=h;exact⟨U,V,I.keep H,λi O=>(J i O).keep H⟩
theorem OwnP.push {F:Nat->Nat->Rat} {X Y:Nat->Int×Int} {W w':World} {B k n:Nat} {v v':Value} {H:List Value} (h:v.ownBlock=none∨0<k) (h1:OwnK NotU32 W B 57 5 v k H) (h2:∀i,i<k->PX W H i n (F i) (X i) (Y i))
  {g cap:Nat} {x y:Int×Int} (hq:QRow (λj=>IsQ (F k j)) W g n n) (hx:X k=x) (hy:Y k=y) (h3:OwnK NotU32 w' B 57 5 v' (k+1) (H++[.slice (some ⟨g,0,none⟩) n cap,.int .i64 x.1,.int .i64 x.2,.int .i64 y.1,.int .i64 y.2])) (hg:W.grownBy w' v.ownBlock):OwnP F X Y w' B v' (k+1) n:=by
 have O:=I32.grown (K:=NotU32) (λx=>Er x) h1.2 hg;have V:H.length=k*5:=h1.1.1
 have Z:∀I,Sts W I->some I≠v.ownBlock:=by
  intro I hs e;rcases h with h|h
  ·rw[h]at e;cases e
  ·obtain⟨_,_,_,e1,_⟩:=h2 0 h
   rcases Dk h1.1 with⟨rfl,_⟩ |⟨g0,aL,rfl,_⟩
   ·simp[Value.ownBlock]at e
   ·simp[Value.ownBlock]at e
    subst e;exact hs.2 1 _ (Aq h1.1 (j:=1) (by simpa using e1)) _ _ rfl
 refine⟨.inr (Nat.succ_pos k),_,h3,λi hi=>?_⟩;by_cases hik:i<k
 ·obtain⟨I,J,e0,e1,e2,e3,e4,e5⟩:=h2 i hik
  have U:∀(j:Nat) (u:Value),H[j]?=some u->(H++[.slice (some ⟨g,0,none⟩) n cap,.int .i64 x.1,.int .i64 x.2,.int .i64 y.1,.int .i64 y.2])[j]?=some u:=by
   intro j u e;rw[List.getElem?_append_left]
   ·exact e
   ·rcases Nat.lt_or_ge j H.length with hlt|aK
    ·exact hlt
    ·rw[List.getElem?_eq_none aK]at e;cases e
  exact⟨I,J,U _ _ e0,U _ _ e1,U _ _ e2,U _ _ e3,U _ _ e4,e5.grown (λ_=>IsQ.solid _) O hg (Z I e5.sts)⟩
 ·obtain rfl:i=k:=by omega
  refine⟨g,cap,?_,?_,?_,?_,?_,hq.grown (λ_=>IsQ.solid _) O hg (Z g hq.sts)⟩
  ·rw[List.getElem?_append_right (by omega),V,show i*5 - i*5=0 by omega];rfl
  ·rw[List.getElem?_append_right (by omega),V,show i*5+1 - i*5=1 by omega,hx];rfl
  ·rw[List.getElem?_append_right (by omega),V,show i*5+2 - i*5=2 by omega,hx];rfl
  ·rw[List.getElem?_append_right (by omega),V,show i*5+3 - i*5=3 by omega,hy];rfl
  ·rw[List.getElem?_append_right (by omega),V,show i*5+4 - i*5=4 by omega,hy];rfl
def PLs (F:Nat->Nat->Rat) (X Y:Nat->Int×Int) (w:World) (v:Value) (k n:Nat):Prop:=
 (k=0/\∃a c,v=.slice a 0 c)∨∃g0 c0,v=.slice (some ⟨g0,0,none⟩) k c0/\g0<w.heap.size/\∀i,i<k->∃g cap,w.cell? ⟨g0,i*5,none⟩=some (.slice (some ⟨g,0,none⟩) n cap)/\w.cell? ⟨g0,i*5+1,none⟩=some (.int .i64 (X i).1)/\w.cell? ⟨g0,i*5+2,none⟩=some (.int .i64 (X i).2)/\w.cell? ⟨g0,i*5+3,none⟩=some (.int .i64 (Y i).1)/\w.cell? ⟨g0,i*5+4,none⟩=some (.int .i64 (Y i).2)/\QRow (λj=>IsQ (F i j)) w g n n
theorem PLs.keep {F:Nat->Nat->Rat} {X Y:Nat->Int×Int} {w w':World} {k n:Nat} {v:Value} (h:PLs F X Y w v k n) (J:Below w.heap.size w w'):PLs F X Y w' v k n:=by
 rcases h with h |⟨I,c0,e,hg,hc⟩
 ·exact .inl h
 ·refine .inr ⟨I,c0,e,kV hg J.size,λi hi=>?_⟩
  obtain⟨g,cap,O,U,V,Z,e4,e5⟩:=hc i hi;have H:∀j v,w.cell? ⟨I,j,none⟩=some v->w'.cell? ⟨I,j,none⟩=some v:=λj v e=>(J.cell (p:=⟨I,j,none⟩) hg).trans e
  exact⟨g,cap,H _ _ O,H _ _ U,H _ _ V,H _ _ Z,H _ _ e4,e5.keep (λ_=>IsQ.solid _) J⟩
def IsA (x y:Int):FP:=λw s p n c t q m d=>Zr w s p n c x/\Zr w t q m d y
theorem IsA.solid (x y:Int):Bh (IsA x y):=λ_ _ _ _ _ _ _ _ _ _ h hq=>⟨hq.1.i32 h,hq.2.i32 h⟩
def Shorts (x y:Nat->Int) (w:World) (vp:Option Addr) (i:Nat):Prop:=∀j,j<i->∃g o,vp=some ⟨g,o,none⟩/\g<w.heap.size/\QE (IsR (x j) (y j)) w g (o+j*4)
theorem Shorts.ql {x y:Nat->Int} {w:World} {H:Option Addr} {n c:Nat} (h:Shorts x y w H n):QL (λj=>IsR (x j) (y j)) w (.slice H n c) n:=by
 rcases Nat.eq_zero_or_pos n with rfl|I
 ·exact .inl ⟨rfl,_,_,rfl⟩
 ·obtain⟨g,o,rfl,hg,_⟩:=h 0 I
  refine .inr ⟨g,o,c,rfl,hg,λj J=>?_⟩;obtain⟨O,U,e,_,hq⟩:=h j J;injection e with e
  injection e with e1 e2
  subst e1;subst e2;exact hq
end
section
open Go.RowKit Go.ChangeShapes Go.WideShapes Go.Deep Tryz
theorem Z9:prog.cellsOf 47=2:=by kernel_rfl
theorem Qn:prog.cellsOf 3=1:=by kernel_rfl
theorem bO {w:World} {a:Addr} {v:Value} (h:w.cell? a=some v):a.spot=none:=by
 cases hsp:a.spot with
 | none=>rfl
 | some s=>
  simp only[World.cell?]at h;split at h
  ·simp[hsp]at h
  ·cases h
theorem Ze {w:World} {a:Addr} {v:Value} (h:w.cell? (a.add 0)=some v):∃g o,a=⟨g,o,none⟩/\g<w.heap.size:=by
 have e:a.add 0=a:=by unfold Addr.add;rw[if_pos rfl]
 rw[e]at h;have I:=bO h;have J:=World.block_lt_of_cell? w a h;obtain⟨g,o,s⟩:=a;dsimp only at I J;subst I;exact⟨g,o,rfl,J⟩
theorem Ml {k:IntKind} {n:Int} (h:(Lit.int k n).wf=true):k.min<=n/\n<=k.max:=by simpa [Lit.wf] using h
section
variable {H:Type} {enc:TypeId×Value->H} {w:World} {sp:Nat->Bool} {hd:Bool}
theorem dI {I:Type} {cs:Array I} (h:cs.size=5):∃c0 c1 c2 c3 c4,cs=#[c0,c1,c2,c3,c4]:=by
 obtain⟨l⟩:=cs
 match l,h with
 | [c0,c1,c2,c3,c4],_=>exact⟨c0,c1,c2,c3,c4,rfl⟩
theorem jC {P:Program} {r:Reach} {J:Nat} {t:TypeId} {O:Array Field} {v:Value} (V:P.underlying t=some (.struct O)) (U:P.cellsOf t=5) (Y:Value.okWide P w r J t v):∃v0 v1 v2 v3 Z,v=.agg #[v0,v1,v2,v3,Z]:=by
 obtain⟨cs,rfl,I⟩:=okWide_struct V Y;obtain⟨c0,c1,c2,c3,c4,rfl⟩:=dI (I.trans U);exact⟨c0,c1,c2,c3,c4,rfl⟩
theorem D1 {P:Program} {W O:World}:∀{V:List TypeId} {Y:List Value} {U:List (DataW H)} {J:List MemPlace},DataW.TrodAll enc P W 0 sp hd V Y U J->(∀p∈J,W.sameAt O p)->DataW.TrodAll enc P O 0 sp hd V Y U J
 | [],[],[],_,h,_=>h
 | _ :: _,_ :: _,_ :: _,_,⟨p,q,⟨n,h1⟩,h2,e⟩,hs=>⟨p,q,⟨n,DataW.trod_carry n _ _ _ h1 (λx I=>hs x (by rw[e];exact List.mem_append_left _ I))⟩,D1 h2 (λx I=>hs x (by rw[e];exact List.mem_append_right _ I)),e⟩
end
theorem Sd:Kids prog (·<prog.types.size):=kids_rows (by kernel_rfl) (by kernel_rfl)
theorem Sb:∀t e,t<prog.types.size->prog.underlying t=some (.slice e)->0<prog.cellsOf e:=slices_full_of prog (by kernel_rfl)
end
section
open Go.ChangeShapes Go.WideShapes Go.ChangeAt Go.RowKit Go.Joins Tryz
theorem R8:prog.cellsOf 48=1:=by kernel_rfl
theorem aA:prog.cellsOf 45=1:=by kernel_rfl
theorem aB:prog.cellsOf 50=11:=by kernel_rfl
theorem Zf {Z:Type} {cs:Array Z} (h:cs.size=11):∃c0 c1 c2 c3 c4 J O U V Y I,cs=#[c0,c1,c2,c3,c4,J,O,U,V,Y,I]:=by
 obtain⟨l⟩:=cs
 match l,h with
 | [c0,c1,c2,c3,c4,J,O,U,V,Y,I],_=>exact⟨c0,c1,c2,c3,c4,J,O,U,V,Y,I,rfl⟩
theorem gZ {U:Type} {l:List U} (h:l.length=8):∃c0 c1 c2 c3 c4 I J O,l=[c0,c1,c2,c3,c4,I,J,O]:=by
 match l,h with
 | [c0,c1,c2,c3,c4,I,J,O],_=>exact⟨c0,c1,c2,c3,c4,I,J,O,rfl⟩
section
variable {H:Type} {enc:TypeId×Value->H} {w:World} {sp:Nat->Bool} {hd:Bool}
theorem Xm {n:Nat} {v:Value} {y:DataW H×List MemPlace} (h:DataW.trod enc prog w 0 sp hd n 45 [v]=some y):
  ∃(p:Option Addr) (ln c:Nat) (x:Nat->Int),v=.slice p ln c/\(∀k,k<ln->∃g o,p=some ⟨g,o,none⟩/\g<w.heap.size/\w.cell? ⟨g,o+k,none⟩=some (.int .i8 (x k)))/\∀k,k<ln->-128<=x k/\x k<=127:=by
 rcases open_ints underlying45 underlying48 R8 h with⟨Y,_⟩ |⟨a,len,cap,I,Y,_,h3,_,h5,_,h7,h8⟩
 ·have Z:v=.slice none 0 0:=by
   have V:[v]=[.slice none 0 0]:=Y;injection V
  subst Z;exact⟨none,0,0,λ_=>0,rfl,λk J=>absurd J (Nat.not_lt_zero _),λk J=>absurd J (Nat.not_lt_zero _)⟩
 ·have Z:v=.slice (some a) len cap:=by
   have V:[v]=[.slice (some a) len cap]:=Y;injection V
  subst Z;have aN:len<=I.length:=by rw[h5];split <;> omega
  refine⟨some a,len,cap,λi=>I.getD i 0,rfl,λk J=>?_,λk J=>?_⟩
  ·obtain⟨g,o,rfl,hg⟩:=Ze (h7 0 (by omega))
   have U:=h7 k (by omega);rw[Addr.add_lit]at U;exact⟨g,o,rfl,hg,U⟩
  ·have O:k<I.length:=by omega
   have e:I.getD k 0=I[k]:=by rw[List.getD_eq_getElem?_getD,List.getElem?_eq_getElem O];rfl
   have U:=Ml (h8 (I.getD k 0) (by rw[e];exact List.getElem_mem O));exact U
theorem H9 {n:Nat} {v0 v1:Value} {y:DataW H×List MemPlace} (h:DataW.trod enc prog w 0 sp hd n 47 [v0,v1]=some y):∃p q:Int,v0=.int .i64 p/\v1=.int .i64 q/\(-9223372036854775808<=p/\p<=9223372036854775807)/\(-9223372036854775808<=q/\q<=9223372036854775807):=by
 obtain⟨Z,z1,Y,_,_,I,J⟩:=trod_struct2 (cs:=[v0,v1]) underlying47 h;dsimp only at I J;rw[Qn]at I J;obtain⟨p,O,_,w0⟩:=DataW.trod_int underlying3 I;obtain⟨q,U,_,V⟩:=DataW.trod_int underlying3 J;simp at O U;exact⟨p,q,O,U,Ml w0,Ml V⟩
theorem Fx {n:Nat} {v:Value} {y:DataW H×List MemPlace} (h:DataW.trod enc prog w 0 sp hd n 48 [v]=some y):∃a:Int,v=.int .i8 a/\(-128<=a/\a<=127):=by
 obtain⟨a,I,_,w0⟩:=DataW.trod_int underlying48 h;simp at I;exact⟨a,I,Ml w0⟩
theorem N0 {P:Program} {I:Nat} {t:TypeId} {O U V Y Z f5 f6 f7:Field} {aL:Nat} {cs:List Value} {x:DataW H×List MemPlace} (ht:P.underlying t=some (.struct #[O,U,V,Y,Z,f5,f6,f7])) (h:DataW.trod enc P w I sp hd aL t cs=some x):
  ∃y0 y1 y2 y3 y4 y5 y6 y7 n,DataW.trod enc P w I sp hd n O.type ((cs.drop O.offset).take (P.cellsOf O.type))=some y0/\DataW.trod enc P w I sp hd n U.type ((cs.drop U.offset).take (P.cellsOf U.type))=some y1/\DataW.trod enc P w I sp hd n V.type ((cs.drop V.offset).take (P.cellsOf V.type))=some y2/\DataW.trod enc P w I sp hd n Y.type ((cs.drop Y.offset).take (P.cellsOf Y.type))=some y3/\DataW.trod enc P w I sp hd n Z.type ((cs.drop Z.offset).take (P.cellsOf Z.type))=some y4/\DataW.trod enc P w I sp hd n f5.type ((cs.drop f5.offset).take (P.cellsOf f5.type))=some y5/\DataW.trod enc P w I sp hd n f6.type ((cs.drop f6.offset).take (P.cellsOf f6.type))=some y6/\DataW.trod enc P w I sp hd n f7.type ((cs.drop f7.offset).take (P.cellsOf f7.type))=some y7:=by
 obtain⟨xs,n,_,rfl,hl,aN,J⟩:=DataW.trod_struct ht h;obtain⟨y0,y1,y2,y3,y4,y5,y6,y7,rfl⟩:=gZ aN;exact⟨y0,y1,y2,y3,y4,y5,y6,y7,n,by simpa using J 0 O rfl,by simpa using J 1 U rfl,by simpa using J 2 V rfl,by simpa using J 3 Y rfl,by simpa using J 4 Z rfl,by simpa using J 5 f5 rfl,by simpa using J 6 f6 rfl,by simpa using J 7 f7 rfl⟩
theorem Np {r:Reach} {b0:Nat} {v:Value} {d:DataW H} {ps:List MemPlace} (hv:Value.okWide prog w r b0 50 v) (h:DataW.Trod enc prog w 0 sp hd 50 v d ps):
  ∃(p:Option Addr) (J cp:Nat) (x:Nat->Int) (O U V Y Z z2 a b c e:Int),v=.agg #[.slice p J cp,.int .i64 O,.int .i64 U,.int .i64 V,.int .i64 Y,.int .i64 Z,.int .i64 z2,.int .i8 a,.int .i8 b,.int .i8 c,.int .i8 e] /\
   ((∀k,k<J->∃g o,p=some ⟨g,o,none⟩/\g<w.heap.size/\w.cell? ⟨g,o+k,none⟩=some (.int .i8 (x k)))/\∀k,k<J->-128<=x k/\x k<=127) /\
   ((-9223372036854775808<=O/\O<=9223372036854775807)/\(-9223372036854775808<=U/\U<=9223372036854775807))/\((-9223372036854775808<=V/\V<=9223372036854775807)/\(-9223372036854775808<=Y/\Y<=9223372036854775807))/\((-9223372036854775808<=Z/\Z<=9223372036854775807)/\(-9223372036854775808<=z2/\z2<=9223372036854775807)) /\
   (-128<=a/\a<=127)/\(-128<=b/\b<=127)/\(-128<=c/\c<=127)/\(-128<=e/\e<=127):=by
 obtain⟨cs,rfl,I⟩:=okWide_struct underlying50 hv;obtain⟨v0,v1,v2,v3,v4,v5,v6,v7,v8,v9,cA,rfl⟩:=Zf (I.trans aB);clear hv I;obtain⟨cB,hf⟩:=h;obtain⟨y0,V,Y,y3,y4,y5,y6,y7,n,h0,h1,h2,h3,h4,h5,h6,h7⟩:=N0 underlying50 hf;dsimp only at h0 h1 h2 h3 h4 h5 h6 h7;rw[aA]at h0;rw[Z9]at h1 h2 h3;rw[R8]at h4 h5 h6 h7;have g0:DataW.trod enc prog w 0 sp hd n 45 [v0]=some y0:=h0;have g1:DataW.trod enc prog w 0 sp hd n 47 [v1,v2]=some V:=h1;have g2:DataW.trod enc prog w 0 sp hd n 47 [v3,v4]=some Y:=h2;have g3:DataW.trod enc prog w 0 sp hd n 47 [v5,v6]=some y3:=h3;have g4:DataW.trod enc prog w 0 sp hd n 48 [v7]=some y4:=h4;have g5:DataW.trod enc prog w 0 sp hd n 48 [v8]=some y5:=h5;have g6:DataW.trod enc prog w 0 sp hd n 48 [v9]=some y6:=h6;have g7:DataW.trod enc prog w 0 sp hd n 48 [cA]=some y7:=h7;clear h0 h1 h2 h3 h4 h5 h6 h7 hf;obtain⟨p,J,cp,x,rfl,hp⟩:=Xm g0;obtain⟨O,U,rfl,rfl,bE⟩:=H9 g1;obtain⟨u1,u2,rfl,rfl,bC⟩:=H9 g2;obtain⟨Z,z2,rfl,rfl,bY⟩:=H9 g3;obtain⟨a,rfl,ha⟩:=Fx g4;obtain⟨b,rfl,hb⟩:=Fx g5;obtain⟨c,rfl,hc⟩:=Fx g6;obtain⟨e,rfl,he⟩:=Fx g7;exact⟨p,J,cp,x,O,U,u1,u2,Z,z2,a,b,c,e,rfl,hp,bE,bC,bY,ha,hb,hc,he⟩
end
end
section
open Go.ChangeShapes Go.WideShapes Go.ChangeAt Go.RowKit Go.Joins Go.Deep Tryz
theorem aC:prog.cellsOf 44=5:=by kernel_rfl
theorem Wa:prog.cellsOf 23=3:=by kernel_rfl
theorem Ma {H:Type} {enc:TypeId×Value->H} {w:World} {sp:Nat->Bool} {U:Bool} {r:Reach} {b0:Nat} {v:Value} {d:DataW H} {ps:List MemPlace} (hv:Value.okWide prog w r b0 44 v) (h:DataW.Trod enc prog w 0 sp U 44 v d ps):
  ∃N k D L T:Int,v=.agg #[.int .i64 N,.int .i64 k,.int .i64 D,.int .i64 L,.int .i64 T]/\(-9223372036854775808<=T/\T<=9223372036854775807):=by
 obtain⟨v0,v1,v2,v3,v4,rfl⟩:=jC underlying44 aC hv;obtain⟨aT,hf⟩:=h;obtain⟨y0,y1,y2,n,_,_,I,J,O⟩:=trod_struct3 underlying44 hf;dsimp only at I J O;rw[Wa]at I;rw[Qn]at J O;have g0:DataW.trod enc prog w 0 sp U n 23 [v0,v1,v2]=some y0:=I;have g1:DataW.trod enc prog w 0 sp U n 3 [v3]=some y1:=J;have g2:DataW.trod enc prog w 0 sp U n 3 [v4]=some y2:=O;clear I J O hf;obtain⟨z0,z1,z2,m,_,_,V,Y,Z⟩:=trod_struct3 (cs:=[v0,v1,v2]) underlying23 g0;dsimp only at V Y Z;rw[Qn]at V Y Z;obtain⟨N,e0,_,_⟩:=DataW.trod_int underlying3 V;obtain⟨k,e1,_,_⟩:=DataW.trod_int underlying3 Y;obtain⟨D,e2,_,_⟩:=DataW.trod_int underlying3 Z;obtain⟨L,e3,_,_⟩:=DataW.trod_int underlying3 g1;obtain⟨T,e4,_,wT⟩:=DataW.trod_int underlying3 g2;simp at e0 e1 e2 e3 e4;subst e0 e1 e2 e3 e4;exact⟨N,k,D,L,T,rfl,Ml wT⟩
end
end Go.Proofs.YtenlbhlllgppmaaGreatDoor
