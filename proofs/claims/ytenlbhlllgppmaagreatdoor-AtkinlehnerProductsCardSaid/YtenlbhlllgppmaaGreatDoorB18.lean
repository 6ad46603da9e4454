/- Contracts of sl2 and halfplaneref18: Lowest. -/
import Derived.Test.YtenlbhlllgppmaaGreatDoorB17
import Derived.Test.YtenlbhlllgppmaaGreatDoorB16
import Derived.Test.YtenlbhlllgppmaaGreatDoorB08
set_option maxRecDepth 100000
set_option maxHeartbeats 8000000
namespace Go.Proofs.YtenlbhlllgppmaaGreatDoor
open Tryz
open Go.RowKit
def low (p q:Int):Int×Int:=if q<0∨(q=0/\p<0)then(-(p.tdiv ((Int.gcd p q:Nat):Int)),-(q.tdiv ((Int.gcd p q:Nat):Int)))else(p.tdiv ((Int.gcd p q:Nat):Int),q.tdiv ((Int.gcd p q:Nat):Int))
theorem aI {p g:Int} {K:Nat} (h:p.natAbs<=K):(p.tdiv g).natAbs<=K:=by
 rw[Int.natAbs_tdiv];exact nS (Nat.div_le_self _ _) h
theorem kC (p q:Int) (w:World) (hp:-4611686018427387904<=p) (cX:p<=4611686018427387904) (hq:-4611686018427387904<=q) (dC:q<=4611686018427387904) (h0:Int.gcd p q≠0):
  Calls prog 118 #[.int .i64 p,.int .i64 q] w λe w'=>e=.returned (.agg #[.int .i64 (low p q).1,.int .i64 (low p q).2])/\Below w.heap.size w w':=by
 obtain⟨lo,Y⟩:∃lo,low p q=lo:=⟨_,rfl⟩
 rw[Y];have HG:=Kh (λw1=>Em p q w1 (by omega) (by omega) (by omega) (by omega));have bE:((Int.gcd p q:Nat):Int)∣p:=Int.gcd_dvd_left p q;have bY:((Int.gcd p q:Nat):Int)∣q:=Int.gcd_dvd_right p q;have cA:0<((Int.gcd p q:Nat):Int):=by omega
 obtain⟨I,J⟩:∃I:Int,((Int.gcd p q:Nat):Int)=I:=⟨_,rfl⟩
 have cG:I<=4611686018427387904:=by
  rw[<-J];by_cases Z:p=0
  ·subst Z
   rw[Int.gcd_zero_left];omega
  ·have:=Nat.le_of_dvd (by omega) (Int.natAbs_dvd_natAbs.2 (Int.gcd_dvd_left p q));rw[Int.natAbs_natCast]at this;omega
 have HL:=Kh (show lo=if q<0∨(q=0/\p<0)then(-(p.tdiv I),-(q.tdiv I))else(p.tdiv I,q.tdiv I)by rw[<-Y];unfold low;rw[J]);have b1:-4611686018427387904<=p.tdiv I/\p.tdiv I<=4611686018427387904:=by have:=aI (p:=p) (g:=I) (K:=4611686018427387904) (by omega);omega
 have b2:-4611686018427387904<=q.tdiv I/\q.tdiv I<=4611686018427387904:=by have:=aI (p:=q) (g:=I) (K:=4611686018427387904) (by omega);omega
 rw[J]at cA;have cF:I≠0:=by omega
 simp only[J]at HG;clear bE bY h0 J Y;go_enter func118,ntmps118
 go_wp2_with fail
 all_goals obtain⟨w0,V⟩:∃w0,w.alloc (.cells #[.int .i64 0,.int .i64 0] 47)=w0:=⟨_,rfl⟩
 rw[V];have X:=Blk.new w 47 #[.int .i64 0,.int .i64 0];rw[V]at X;have HB:=Kh (show Below w.heap.size w w0 from V▸(Below.refl _ _).alloc (nR _) _);clear V;refine(HG.1 w0).mono ?_;rintro e w1 ⟨rfl,k,rfl⟩;have x0:w0.cell? ⟨w.heap.size,0,none⟩=some (.int .i64 0):=X.at_ 0 rfl;have x1:w0.cell? ⟨w.heap.size,1,none⟩=some (.int .i64 0):=X.at_ 1 rfl;have f0:w0.frozen? ⟨w.heap.size,0,none⟩=false:=X.free_ 0;have f1:w0.frozen? ⟨w.heap.size,1,none⟩=false:=X.free_ 1;have O:=Kh (λj=>Aa HB.1 j);clear HG HB X;by_cases U:q<0∨(q=0/\p<0)
 ·obtain rfl:lo=(-(p.tdiv I),-(q.tdiv I)):=by rw[HL.1,if_pos U]
  clear HL;have cT:-I≠0:=by omega
  rcases U with U |⟨rfl,U⟩
  ·go_upto_region 4 with(fail)
   go_region
   all_goals go_wp2
   all_goals refine bodyPost_ret (by simp[results,results118,go_sem,x0,x1];try rfl) rfl ?_
   all_goals exact⟨rfl,((O.1 _).setCell (nR _) _).setCell (nR _) _⟩
  ·go_upto_region 4 with(fail)
   go_region
   all_goals go_wp2
   all_goals refine bodyPost_ret (by simp[results,results118,go_sem,x0,x1];try rfl) rfl ?_
   all_goals exact⟨rfl,((O.1 _).setCell (nR _) _).setCell (nR _) _⟩
 ·obtain rfl:lo=(p.tdiv I,q.tdiv I):=by rw[HL.1,if_neg U]
  clear HL;by_cases hq0:q=0
  ·subst hq0
   have Z:¬p<0:=λh=>U (.inr ⟨rfl,h⟩)
   clear U;go_upto_region 4 with(fail)
   go_region
   all_goals go_wp2
   all_goals refine bodyPost_ret (by simp[results,results118,go_sem,x0,x1];try rfl) rfl ?_
   all_goals exact⟨rfl,((O.1 _).setCell (nR _) _).setCell (nR _) _⟩
  ·have dE:¬q<0:=λh=>U (.inl h)
   clear U;go_upto_region 4 with(fail)
   go_region
   all_goals go_wp2
   all_goals refine bodyPost_ret (by simp[results,results118,go_sem,x0,x1];try rfl) rfl ?_
   all_goals exact⟨rfl,((O.1 _).setCell (nR _) _).setCell (nR _) _⟩
def Ec (a b c d p q:Int):(Int×Int)×Int:=
 if At p q≠0 then((0,0),At p q)
 else if Io (low (a*p+b*q) (c*p+d*q)).1=true/\Io (low (a*p+b*q) (c*p+d*q)).2=true then(low (a*p+b*q) (c*p+d*q),0)else((0,0),7)
theorem cuspE_zero {p q:Int} (h:At p q=0):(-1073741824<=p/\p<=1073741824)/\(-1073741824<=q/\q<=1073741824)/\Int.gcd p q=1:=by
 unfold At at h;split at h
 ·omega
 ·rename_i h1
  split at h
  ·omega
  ·rename_i h2
   have J:Io p=true:=by
    cases hp:Io p with
    | true=>rfl
    | false=>exact absurd (.inl hp) h1
   have O:Io q=true:=by
    cases hp:Io q with
    | true=>rfl
    | false=>exact absurd (.inr (.inr hp)) h1
   refine⟨Du.1 J,Du.1 O,?_⟩;rcases Nat.decEq (Int.gcd p q) 1 with I|I
   ·exact absurd (.inl I) h2
   ·exact I
theorem Yl {a b c d p q:Int} (O:a*d - b*c≠0) (h:Int.gcd p q=1):Int.gcd (a*p+b*q) (c*p+d*q)≠0:=by
 intro V;obtain⟨Y,Z⟩:=Int.gcd_eq_zero_iff.1 V
 have I:(a*d - b*c)*p=d*(a*p+b*q) - b*(c*p+d*q):=by
  rw[Int.sub_mul,Int.mul_add,Int.mul_add];have I:d*(b*q)=b*(d*q):=by rw[<-Int.mul_assoc,<-Int.mul_assoc,Int.mul_comm d b]
  have J:a*d*p=d*(a*p):=by rw[<-Int.mul_assoc,Int.mul_comm d a]
  have U:b*c*p=b*(c*p):=Int.mul_assoc _ _ _;omega
 have J:(a*d - b*c)*q=a*(c*p+d*q) - c*(a*p+b*q):=by
  rw[Int.sub_mul,Int.mul_add,Int.mul_add];have I:a*(c*p)=c*(a*p):=by rw[<-Int.mul_assoc,<-Int.mul_assoc,Int.mul_comm a c]
  have J:a*d*q=a*(d*q):=Int.mul_assoc _ _ _;have U:b*c*q=c*(b*q):=by rw[<-Int.mul_assoc,Int.mul_comm c b]
  omega
 rw[Y,Z,Int.mul_zero,Int.mul_zero,Int.sub_zero]at I J;have p0:p=0:=(Int.mul_eq_zero.1 I).resolve_left O;have q0:q=0:=(Int.mul_eq_zero.1 J).resolve_left O;subst p0;subst q0;simp at h
theorem Sr (a b c d p q:Int) (w:World) (ha:-1073741824<=a) (bB:a<=1073741824) (hb:-1073741824<=b) (bE:b<=1073741824) (hc:-1073741824<=c) (cB:c<=1073741824) (hd:-1073741824<=d) (cC:d<=1073741824)
  (Z:a*d - b*c≠0) (hp:-9223372036854775808<=p) (dY:p<=9223372036854775807) (hq:-9223372036854775808<=q) (eP:q<=9223372036854775807):
  Calls prog 67 #[.agg #[.int .i64 a,.int .i64 b,.int .i64 c,.int .i64 d],.agg #[.int .i64 p,.int .i64 q]] w λe w'=>e=.returned (.tuple #[.agg #[.int .i64 (Ec a b c d p q).1.1,.int .i64 (Ec a b c d p q).1.2],.int .i64 (Ec a b c d p q).2])/\Below w.heap.size w w':=by
 obtain⟨av,bC⟩:∃av,Ec a b c d p q=av:=⟨_,rfl⟩
 rw[bC];have HV:=Kh bC;have HD:=Kh (λw1=>jW a b c d w1 ha bB hb bE hc cB hd cC);have HC:=Kh (λw1=>Dk p q w1 hp dY hq eP);have HI:=Kh gG;have HM:=Kh (λ(h:At p q=0)=>And.intro (mul_b ha bB (cuspE_zero h).1.1 (cuspE_zero h).1.2) (And.intro (mul_b hb bE (cuspE_zero h).2.1.1 (cuspE_zero h).2.1.2) (And.intro (mul_b hc cB (cuspE_zero h).1.1 (cuspE_zero h).1.2) (mul_b hd cC (cuspE_zero h).2.1.1 (cuspE_zero h).2.1.2))));have HN:=Kh (λ(h:At p q=0)=>Yl Z (cuspE_zero h).2.2);clear bC ha bB hb bE hc cB hd cC hp dY hq eP;generalize a*d - b*c=det at HD Z;go_enter func67,ntmps67
 go_wp2_with fail
 obtain⟨w0,gF,X0,X1,X2,bY⟩:=Kk w #[.int .i64 a,.int .i64 b,.int .i64 c,.int .i64 d] 63 #[.int .i64 p,.int .i64 q] 47 #[.int .i64 0,.int .i64 0] 47;rw[gF];have gA:w.heap.size<=w0.heap.size:=bY.size;clear gF;have J:=Kh X0;have O:=Kh X1;have I:=Kh X2;clear X0 X1 X2;refine(HD.1 w0).mono ?_;rintro e w1 ⟨rfl,V⟩;replace J:=Kh (bk J V);replace O:=Kh (bk O V);replace I:=Kh (bk I V);have cX:=Kh (bY.trans (V.mono gA));have y0:=O.1.at_ 0 rfl;have y1:=O.1.at_ 1 rfl;clear bY V gA HD;go_wp2_with fail
 refine(HC.1 w1).mono ?_;rintro e w2 ⟨rfl,Y⟩;replace J:=Kh (bk J Y);replace O:=Kh (bk O Y);replace I:=Kh (bk I Y);have aX:=bt cX Y;have z0:=I.1.at_ 0 rfl;have z1:=I.1.at_ 1 rfl;have f0:=I.1.free_ 0;have f1:=I.1.free_ 1;clear Y cX HC y0 y1;by_cases hz:At p q=0
 ·have m1:=(HM.1 hz).1
  have m2:=(HM.1 hz).2.1;have m3:=(HM.1 hz).2.2.1;have m4:=(HM.1 hz).2.2.2;have HL:=Kh (λw1=>kC (a*p+b*q) (c*p+d*q) w1 (by omega) (by omega) (by omega) (by omega) (HN.1 hz));have U:=Kh (show av=if Io (low (a*p+b*q) (c*p+d*q)).1=true/\Io (low (a*p+b*q) (c*p+d*q)).2=true then(low (a*p+b*q) (c*p+d*q),0)else((0,0),7)by rw[<-HV.1,Ec,if_neg (by simp[hz])]);have x0:=J.1.at_ 0 rfl;have x1:=J.1.at_ 1 rfl;have x2:=J.1.at_ 2 rfl;have x3:=J.1.at_ 3 rfl;have y0:=O.1.at_ 0 rfl;have y1:=O.1.at_ 1 rfl;rw[hz];clear HV HM HN hz z0 z1 f0 f1;go_wp2_with fail
  refine(HL.1 w2).mono ?_;rintro e w3 ⟨rfl,cA⟩;generalize low (a*p+b*q) (c*p+d*q)=lo at U;replace I:=Kh (bk I cA);have dC:=bt aX cA;clear cA aX HL x0 x1 x2 x3 y0 y1 m1 m2 m3 m4 J O;obtain⟨l1,l2⟩:=lo;have z0:∀o,(w3.alloc o).cell? ⟨w.heap.size+1+1,0,none⟩=some (.int .i64 0):=λo=>(I.1.alloc_ o).at_ 0 rfl
  have z1:∀o,(w3.alloc o).cell? ⟨w.heap.size+1+1,1,none⟩=some (.int .i64 0):=λo=>(I.1.alloc_ o).at_ 1 rfl
  have f0:∀o,(w3.alloc o).frozen? ⟨w.heap.size+1+1,0,none⟩=false:=λo=>(I.1.alloc_ o).free_ 0
  have f1:∀o,(w3.alloc o).frozen? ⟨w.heap.size+1+1,1,none⟩=false:=λo=>(I.1.alloc_ o).free_ 1
  have HF:=Kh (λ(o:Obj) (u v:Value)=>((dC.1.alloc dC.1.size o).setCell (p:=⟨w.heap.size+1+1,0,none⟩) (by simp;omega) u).setCell (p:=⟨w.heap.size+1+1,1,none⟩) (by simp;omega) v);go_wp2_with fail
  refine(HI.1 _ _).mono ?_;rintro e w4 ⟨rfl,rfl⟩;cases h1:Io l1 with
  | false=>
   obtain rfl:av=((0,0),7):=by rw[U.1,if_neg (by simp[h1])]
   clear U h1 HI;go_wp2;refine bodyPost_ret (by simp[results,results67,go_sem,z0,z1];try rfl) rfl ?_;exact⟨rfl,HF.1 _ _ _⟩
  | true=>
   go_wp2_with fail
   refine(HI.1 _ _).mono ?_;rintro e w5 ⟨rfl,rfl⟩;cases h2:Io l2 with
   | false=>
    obtain rfl:av=((0,0),7):=by rw[U.1,if_neg (by simp[h2])]
    clear U h1 h2 HI;go_wp2;refine bodyPost_ret (by simp[results,results67,go_sem,z0,z1];try rfl) rfl ?_;exact⟨rfl,HF.1 _ _ _⟩
   | true=>
    obtain rfl:av=((l1,l2),0):=by rw[U.1,if_pos ⟨h1,h2⟩]
    clear U h1 h2 HI;go_wp2;refine bodyPost_ret (by simp[results,results67,go_sem,z0,z1];try rfl) rfl ?_;exact⟨rfl,HF.1 _ _ _⟩
 ·obtain rfl:av=((0,0),At p q):=by rw[<-HV.1,Ec,if_pos hz]
  clear HV HM HN;go_wp2;refine bodyPost_ret (by simp[results,results67,go_sem,z0,z1];try rfl) rfl ?_;exact⟨rfl,(aX.1.setCell (p:=⟨w.heap.size+1+1,0,none⟩) (by simp;omega) _).setCell (p:=⟨w.heap.size+1+1,1,none⟩) (by simp;omega) _⟩
def TV (B:Nat) (w0 w:World):List Addr->Prop
 | []=>Below B w0 w/\B<=w.heap.size
 | a :: m=>w.cell? a=some (cellOf w a)/\w.frozen? a=false/\TV B w0 w m
def TT (B:Nat) (w0 w:World) (l:List (Addr×Value)) (m:List Addr):Prop:=
 match l with
 | []=>TV B w0 w m
 |(a,v) :: l=>w.cell? a=some v/\TT B w0 w l m
theorem TV.next {B:Nat} {w0 w w':World} {m:List Addr} (I:Below w.heap.size w w') (h:TV B w0 w m):TV B w0 w' m:=by
 induction m with
 | nil=>exact⟨h.1.trans (I.mono h.2),nS h.2 I.size⟩
 | cons a m ih=>
  obtain⟨J,O,U⟩:=h;have V:=World.block_lt_of_cell? w a J;refine⟨Ar (by rw[I.cell V];exact Bx J),Ab I (Bx J) O,ih U⟩
theorem TT.next {B:Nat} {w0 w w':World} {l:List (Addr×Value)} {m:List Addr} (I:Below w.heap.size w w') (h:TT B w0 w l m):TT B w0 w' l m:=by
 induction l with
 | nil=>exact TV.next I h
 | cons x l ih=>exact⟨(I.cell (World.block_lt_of_cell? w x.1 h.1)).trans h.1,ih h.2⟩
theorem TV.below {B:Nat} {w0 w:World} {m:List Addr} (h:TV B w0 w m):Below B w0 w:=by
 induction m with
 | nil=>exact h.1
 | cons a m ih=>exact ih h.2.2
theorem TT.below {B:Nat} {w0 w:World} {l:List (Addr×Value)} {m:List Addr} (h:TT B w0 w l m):Below B w0 w:=by
 induction l with
 | nil=>exact TV.below h
 | cons x l ih=>exact ih h.2
theorem TV.put {B:Nat} {w0 w:World} {m:List Addr} (h:TV B w0 w m) (p:Addr) (v:Value) (I:B<=p.block):TV B w0 (w.setCell p v) m:=by
 induction m with
 | nil=>exact⟨h.1.setCell I v,by simpa using h.2⟩
 | cons a m ih=>exact⟨Ar (Bh (Bx h.1)),Ao h.2.1,ih h.2.2⟩
theorem TT.put {B:Nat} {w0 w:World} {l:List (Addr×Value)} {m:List Addr} (h:TT B w0 w l m) (p:Addr) (v:Value) (J:B<=p.block) (I:∀x∈l,p.block≠x.1.block):TT B w0 (w.setCell p v) l m:=by
 induction l with
 | nil=>exact TV.put h p v J
 | cons x l ih=>
  refine⟨?_,ih h.2 (λy O=>I y (List.mem_cons_of_mem _ O))⟩;rw[World.cell?_setCell_far w p x.1 v (I x (List.mem_cons_self ..))];exact h.1
abbrev Wb (B:Nat) (w0 w:World) (a0 a1 a2 a3 a4 a5 a6 a7 a8 b0 b1 b2 b3 b4:Addr) (v0 v1 v2 v3 v4 v5 v6 v7 v8:Value):Prop:=w.cell? a0=some v0/\w.cell? a1=some v1/\w.cell? a2=some v2/\w.cell? a3=some v3/\w.cell? a4=some v4/\w.cell? a5=some v5/\w.cell? a6=some v6/\w.cell? a7=some v7/\w.cell? a8=some v8/\w.cell? b0=some (cellOf w b0)/\w.frozen? b0=false/\w.cell? b1=some (cellOf w b1)/\w.frozen? b1=false/\w.cell? b2=some (cellOf w b2)/\w.frozen? b2=false/\w.cell? b3=some (cellOf w b3)/\w.frozen? b3=false/\w.cell? b4=some (cellOf w b4)/\w.frozen? b4=false/\Below B w0 w/\B<=w.heap.size
theorem Mf {B:Nat} {w0 w w':World} {I J O U V Y Z a7 a8 b0 b1 b2 b3 b4:Addr} {v0 v1 v2 v3 v4 v5 v6 v7 v8:Value} (hb:Below w.heap.size w w') (h:Wb B w0 w I J O U V Y Z a7 a8 b0 b1 b2 b3 b4 v0 v1 v2 v3 v4 v5 v6 v7 v8):Wb B w0 w' I J O U V Y Z a7 a8 b0 b1 b2 b3 b4 v0 v1 v2 v3 v4 v5 v6 v7 v8:=TT.next (B:=B) (w0:=w0) (l:=[(I,v0),(J,v1),(O,v2),(U,v3),(V,v4),(Y,v5),(Z,v6),(a7,v7),(a8,v8)]) (m:=[b0,b1,b2,b3,b4]) hb h
theorem Kd {B:Nat} {w0 w:World} {I J O U V Y Z a7 a8 b0 b1 b2 b3 b4:Addr} {v0 v1 v2 v3 v4 v5 v6 v7 v8:Value} (h:Wb B w0 w I J O U V Y Z a7 a8 b0 b1 b2 b3 b4 v0 v1 v2 v3 v4 v5 v6 v7 v8):Below B w0 w:=TT.below (B:=B) (w0:=w0) (l:=[(I,v0),(J,v1),(O,v2),(U,v3),(V,v4),(Y,v5),(Z,v6),(a7,v7),(a8,v8)]) (m:=[b0,b1,b2,b3,b4]) h
theorem Wj {B:Nat} {w0 w:World} {I J O U V Y Z a7 a8 b0 b1 b2 b3 b4:Addr} {v0 v1 v2 v3 v4 v5 v6 v7 v8:Value} (h:Wb B w0 w I J O U V Y Z a7 a8 b0 b1 b2 b3 b4 v0 v1 v2 v3 v4 v5 v6 v7 v8) {p0 p1 p2 p3 p4:Addr} {u0 u1 u2 u3 u4:Value} (oA:B<=p0.block) (dY:p0.block≠I.block) (eP:p0.block≠J.block) (gA:p0.block≠O.block) (gF:p0.block≠U.block) (gL:p0.block≠V.block) (gN:p0.block≠Y.block) (gP:p0.block≠Z.block) (gS:p0.block≠a7.block) (gU:p0.block≠a8.block) (oB:B<=p1.block) (hB:p1.block≠I.block) (hD:p1.block≠J.block) (hE:p1.block≠O.block) (hG:p1.block≠U.block) (hH:p1.block≠V.block) (hI:p1.block≠Y.block) (hJ:p1.block≠Z.block) (hL:p1.block≠a7.block) (hM:p1.block≠a8.block) (oC:B<=p2.block) (hN:p2.block≠I.block) (hO:p2.block≠J.block) (hP:p2.block≠O.block) (hQ:p2.block≠U.block) (hR:p2.block≠V.block) (hS:p2.block≠Y.block) (hT:p2.block≠Z.block) (hU:p2.block≠a7.block) (hV:p2.block≠a8.block) (oD:B<=p3.block) (hW:p3.block≠I.block) (hX:p3.block≠J.block) (hY:p3.block≠O.block) (hZ:p3.block≠U.block) (iL:p3.block≠V.block) (mA:p3.block≠Y.block) (mB:p3.block≠Z.block) (mC:p3.block≠a7.block) (mD:p3.block≠a8.block) (oE:B<=p4.block) (mE:p4.block≠I.block) (nA:p4.block≠J.block) (nB:p4.block≠O.block) (nC:p4.block≠U.block) (nD:p4.block≠V.block) (nW:p4.block≠Y.block) (nX:p4.block≠Z.block) (nY:p4.block≠a7.block) (nZ:p4.block≠a8.block):Wb B w0 (((((w.setCell p0 u0).setCell p1 u1).setCell p2 u2).setCell p3 u3).setCell p4 u4) I J O U V Y Z a7 a8 b0 b1 b2 b3 b4 v0 v1 v2 v3 v4 v5 v6 v7 v8:=(TT.put (B:=B) (w0:=w0) (l:=[(I,v0),(J,v1),(O,v2),(U,v3),(V,v4),(Y,v5),(Z,v6),(a7,v7),(a8,v8)]) (m:=[b0,b1,b2,b3,b4]) (TT.put (B:=B) (w0:=w0) (l:=[(I,v0),(J,v1),(O,v2),(U,v3),(V,v4),(Y,v5),(Z,v6),(a7,v7),(a8,v8)]) (m:=[b0,b1,b2,b3,b4]) (TT.put (B:=B) (w0:=w0) (l:=[(I,v0),(J,v1),(O,v2),(U,v3),(V,v4),(Y,v5),(Z,v6),(a7,v7),(a8,v8)]) (m:=[b0,b1,b2,b3,b4]) (TT.put (B:=B) (w0:=w0) (l:=[(I,v0),(J,v1),(O,v2),(U,v3),(V,v4),(Y,v5),(Z,v6),(a7,v7),(a8,v8)]) (m:=[b0,b1,b2,b3,b4]) (TT.put (B:=B) (w0:=w0) (l:=[(I,v0),(J,v1),(O,v2),(U,v3),(V,v4),(Y,v5),(Z,v6),(a7,v7),(a8,v8)]) (m:=[b0,b1,b2,b3,b4]) h p0 u0 oA (by simp[*])) p1 u1 oB (by simp[*])) p2 u2 oC (by simp[*])) p3 u3 oD (by simp[*])) p4 u4 oE (by simp[*]))
def NotU32 (v:Value):Prop:=∀n,v≠.int .u32 n
theorem Fg (n:Int):¬NotU32 (.int .u32 n):=λh=>h _ rfl
theorem Bd {K:Value->Prop} {w:World} {R:Nat} (h:Stk K w R) (p:Addr) (u:Value) (J:K u):Stk K (w.setCell p u) R:=by
 refine⟨by simpa using h.1,λi v I=>?_⟩;by_cases hp:p=⟨R,i,none⟩
 ·cases hc:w.cell? p with
  | none=>
   have:(w.setCell p u).cell? p=none:=Fo u hc;rw[<-hp,this]at I;cases I
  | some y=>
   rw[<-hp,World.cell?_setCell_same' _ _ _ (by rw[hc];rfl)]at I;injection I with I
   rw[<-I];exact J
 ·rw[World.cell?_setCell_other _ _ _ _ hp]at I
  exact h.2 i v I
theorem I32.putK {w:World} {R:Nat} (O:Stk NotU32 w R) (i:Nat) (u:Value):I32 w (w.setCell ⟨R,i,none⟩ u):=
 ⟨by simp,λg j n e=>by
  have I:R≠g:=λJ=>O.2 j _ (by rw[J];exact e) _ rfl
  rw[World.cell?_setCell_far w ⟨R,i,none⟩ ⟨g,j,none⟩ u I];exact e⟩
theorem I32.path {w:World} {R:Nat} (J:Stk NotU32 w R) (p:Option Addr) (n c:Nat) (i j k l:Int):
  I32 w (((((w.setCell ⟨R,0,none⟩ (.slice p n c)).setCell ⟨R,1,none⟩ (.int .i64 i)).setCell ⟨R,2,none⟩ (.int .i64 j)).setCell ⟨R,3,none⟩ (.int .i64 k)).setCell ⟨R,4,none⟩ (.int .i64 l)):=by
 have Y:NotU32 (.slice p n c):=λ_ h=>by cases h
 have I:∀x:Int,NotU32 (.int .i64 x):=λx _ h=>by cases h
 have O:=Bd J ⟨R,0,none⟩ (.slice p n c) Y;have U:=Bd O ⟨R,1,none⟩ (.int .i64 i) (I i);have V:=Bd U ⟨R,2,none⟩ (.int .i64 j) (I j);have Z:=Bd V ⟨R,3,none⟩ (.int .i64 k) (I k);exact((((I32.putK J 0 _).trans (I32.putK O 1 _)).trans (I32.putK U 2 _)).trans (I32.putK V 3 _)).trans (I32.putK Z 4 _)
theorem QRow.i32 {F:Nat->FP} (hF:∀j,Bu (F j)) {w w':World} {g N k R:Nat} (h:QRow F w g N k) (V:I32 w w') (hg:w.grownBy w' (some R)) (J:g≠R):QRow F w' g N k:=by
 have O:∀j v,w.cell? ⟨g,j,none⟩=some v->w'.cell? ⟨g,j,none⟩=some v:=λj v e=>hg.cell e (λU=>by injection U with U;exact J U)
 have I:w'.heap[g]?=w.heap[g]?:=hg.block g h.sts.1 (λe=>by injection e with e;exact J e);refine⟨⟨nT h.sts.1 hg.size,λi v hv=>h.sts.2 i v ((World.cell?_of_block (a:=⟨g,i,none⟩) I).symm.trans hv)⟩,λi Y=>(World.frozen?_of_block (a:=⟨g,i,none⟩) I).trans (h.free i Y),λi Y=>?_,λj hj=>?_⟩
 ·rw[World.cell?_of_block (a:=⟨g,i,none⟩) I];exact h.has i Y
 ·obtain⟨s,p,n,c,t,q,m,d,Z,h1,h2,h3,h4⟩:=h.val j hj
  exact⟨s,p,n,c,t,q,m,d,O _ _ Z,O _ _ h1,O _ _ h2,O _ _ h3,hF j _ _ _ _ _ _ _ _ _ _ V h4⟩
theorem Kj (w:World) (g:Nat) (v0 v1 v2 v3 I:Value):w.grownBy (((((w.setCell ⟨g,0,none⟩ v0).setCell ⟨g,1,none⟩ v1).setCell ⟨g,2,none⟩ v2).setCell ⟨g,3,none⟩ v3).setCell ⟨g,4,none⟩ I) (some g):=
 ((((Ad w g 0 v0).trans (Ad _ g 1 v1)).trans (Ad _ g 2 v2)).trans (Ad _ g 3 v3)).trans (Ad _ g 4 I)
def jD (a b c d p q p' q':Int):Int:=if(Ec a b c d p q).2≠0 then(Ec a b c d p q).2 else(Ec a b c d p' q').2
def RetP (w:World) (w':World) (e:Ending) (n:Nat) (f:Nat->Rat) (x y:Int×Int) (er:Int):Prop:=
 (er≠0/\e=.returned (.tuple #[.agg #[.slice none 0 0,.int .i64 0,.int .i64 0,.int .i64 0,.int .i64 0],.int .i64 er])) ∨
 (er=0/\∃g cap,e=.returned (.tuple #[.agg #[.slice (some ⟨g,0,none⟩) n cap,.int .i64 x.1,.int .i64 x.2,.int .i64 y.1,.int .i64 y.2],.int .i64 0])/\w.heap.size<=g/\QRow (λj=>IsQ (f j)) w' g n n)
theorem Hq (K:Nat) (hM:1<=K) (hN:K<=1000000) (v:Value) (n:Nat) (x y:Nat->Int) (p q p' q' a b c d:Int) (w:World) (h:QL (λj=>IsB K (x j) (y j)) w v n) (h0:0<n) (hn:n<=23) (ha:-1073741824<=a) (cX:a<=1073741824) (hb:-1073741824<=b) (gL:b<=1073741824) (hc:-1073741824<=c) (gP:c<=1073741824) (hd:-1073741824<=d) (dC:d<=1073741824) (cF:a*d - b*c≠0)
  (hp:-9223372036854775808<=p) (hQ:p<=9223372036854775807) (hq:-9223372036854775808<=q) (hR:q<=9223372036854775807) (hr:-9223372036854775808<=p') (hS:p'<=9223372036854775807) (hs:-9223372036854775808<=q') (hU:q'<=9223372036854775807):
  Calls prog 25 #[.agg #[v,.int .i64 p,.int .i64 q,.int .i64 p',.int .i64 q'],.agg #[.int .i64 a,.int .i64 b,.int .i64 c,.int .i64 d]] w λe w'=>RetP w w' e n (subst (λi=>Rat.divInt (x i) (y i)) (n - 1) d (-b) (-c) a n) (Ec a b c d p q).1 (Ec a b c d p' q').1 (jD a b c d p q p' q')/\Below w.heap.size w w':=by
 have hv:=h;obtain⟨g1,o1,l1,rfl,oZ,_⟩:=h.resolve_left (λh=>by omega);have cA:=Kh (λJ=>Sr a b c d p q J ha cX hb gL hc gP hd dC cF hp hQ hq hR);have cB:=Kh (λJ=>Sr a b c d p' q' J ha cX hb gL hc gP hd dC cF hr hS hs hU);have hI:=Kh (λJ (oE:Below w.heap.size w J)=>Ph K hM hN (.slice (some ⟨g1,o1,none⟩) n l1) n x y d (-b) (-c) a J (hv.keep (λj=>IsB.solid _ _ _) oE) h0 (by omega) hd dC (by omega) (by omega) (by omega) (by omega) ha cX);have oX:IntKind.i64.wrap (-b)=-b:=IntWalk.i64_in _ (by omega);have oY:IntKind.i64.wrap (-c)=-c:=IntWalk.i64_in _ (by omega);obtain⟨er,gS⟩:∃er,jD a b c d p q p' q'=er:=⟨_,rfl⟩
 have bE:=Kh (show er=if(Ec a b c d p q).2≠0 then(Ec a b c d p q).2 else(Ec a b c d p' q').2 by rw[<-gS];rfl);rw[gS];obtain⟨nX,eP⟩:∃av,Ec a b c d p q=av:=⟨_,rfl⟩
 obtain⟨nY,gA⟩:∃av,Ec a b c d p' q'=av:=⟨_,rfl⟩
 simp only[eP,gA]at cA cB bE ⊢;obtain⟨⟨x1,y1⟩,e1⟩:=nX;obtain⟨⟨x2,y2⟩,e2⟩:=nY;obtain⟨fn,gU⟩:∃fn,subst (λi=>Rat.divInt (x i) (y i)) (n - 1) d (-b) (-c) a n=fn:=⟨_,rfl⟩
 rw[gU];simp only[gU]at hI;dsimp only at bE ⊢;have pA:¬(n:Int)<1:=by omega
 have pB:¬(n:Int) > 23:=by omega
 clear h hv ha cX hb gL hc gP hd dC cF hp hQ hq hR hr hS hs hU hM hN eP gA gS gU;go_enter func25,ntmps25
 go_wp2_with fail
 obtain⟨w0,hW,X0,X1,X2,gN⟩:=Kk w #[.slice (some ⟨g1,o1,none⟩) n l1,.int .i64 p,.int .i64 q,.int .i64 p',.int .i64 q'] 57 #[.int .i64 a,.int .i64 b,.int .i64 c,.int .i64 d] 63 #[.slice none 0 0,.int .i64 0,.int .i64 0,.int .i64 0,.int .i64 0] 57;rw[hW];have oG:w.heap.size<=w0.heap.size:=gN.size;clear hW;have V:=Kh X0;have U:=Kh X1;have I:=Kh X2;have hG:=Kh gN;clear X0 X1 X2 gN oG;refine(cA.1 w0).mono ?_;rintro e O ⟨rfl,cD⟩;replace V:=Kh (bk V cD);replace U:=Kh (bk U cD);replace I:=Kh (bk I cD);have bB:=bt hG cD;have hH:=Kh (show w.heap.size+1+1<O.heap.size from I.1.lt);clear cD hG cA;have z0:∀o,(O.alloc o).cell? ⟨w.heap.size+1+1,0,none⟩=some (.slice none 0 0):=λo=>(I.1.alloc_ o).at_ 0 rfl
 have f0:∀o,(O.alloc o).frozen? ⟨w.heap.size+1+1,0,none⟩=false:=λo=>(I.1.alloc_ o).free_ 0
 have z1:∀o,(O.alloc o).cell? ⟨w.heap.size+1+1,1,none⟩=some (.int .i64 0):=λo=>(I.1.alloc_ o).at_ 1 rfl
 have f1:∀o,(O.alloc o).frozen? ⟨w.heap.size+1+1,1,none⟩=false:=λo=>(I.1.alloc_ o).free_ 1
 have z2:∀o,(O.alloc o).cell? ⟨w.heap.size+1+1,2,none⟩=some (.int .i64 0):=λo=>(I.1.alloc_ o).at_ 2 rfl
 have f2:∀o,(O.alloc o).frozen? ⟨w.heap.size+1+1,2,none⟩=false:=λo=>(I.1.alloc_ o).free_ 2
 have z3:∀o,(O.alloc o).cell? ⟨w.heap.size+1+1,3,none⟩=some (.int .i64 0):=λo=>(I.1.alloc_ o).at_ 3 rfl
 have f3:∀o,(O.alloc o).frozen? ⟨w.heap.size+1+1,3,none⟩=false:=λo=>(I.1.alloc_ o).free_ 3
 have z4:∀o,(O.alloc o).cell? ⟨w.heap.size+1+1,4,none⟩=some (.int .i64 0):=λo=>(I.1.alloc_ o).at_ 4 rfl
 have f4:∀o,(O.alloc o).frozen? ⟨w.heap.size+1+1,4,none⟩=false:=λo=>(I.1.alloc_ o).free_ 4
 by_cases h1:e1=0
 ·subst h1
  have HE:=Kh (show er=e2 by rw[bE.1,if_neg (by simp)]);have u0:∀o,(O.alloc o).cell? ⟨w.heap.size,3,none⟩=some (.int .i64 p'):=λo=>(V.1.alloc_ o).at_ 3 rfl
  have u1:∀o,(O.alloc o).cell? ⟨w.heap.size,4,none⟩=some (.int .i64 q'):=λo=>(V.1.alloc_ o).at_ 4 rfl
  have m0:∀o,(O.alloc o).cell? ⟨w.heap.size+1,0,none⟩=some (.int .i64 a):=λo=>(U.1.alloc_ o).at_ 0 rfl
  have m1:∀o,(O.alloc o).cell? ⟨w.heap.size+1,1,none⟩=some (.int .i64 b):=λo=>(U.1.alloc_ o).at_ 1 rfl
  have m2:∀o,(O.alloc o).cell? ⟨w.heap.size+1,2,none⟩=some (.int .i64 c):=λo=>(U.1.alloc_ o).at_ 2 rfl
  have m3:∀o,(O.alloc o).cell? ⟨w.heap.size+1,3,none⟩=some (.int .i64 d):=λo=>(U.1.alloc_ o).at_ 3 rfl
  clear z0 z1 z2 z3 z4 f0 f1 f2 f3 f4 bE;go_wp2_with fail
  refine(cB.1 _).mono ?_;rintro e w5 ⟨rfl,bY⟩;have Y:∀o,Below O.heap.size O (O.alloc o):=λo=>(Below.refl _ _).alloc (nR _) o
  have cC:=Kh ((bB.1.trans ((Y _).mono bB.1.size)).trans (bY.mono (by have:=bB.1.size;simp;omega)));have gF:=Kh ((Blk.new O 47 #[.int .i64 x1,.int .i64 y1]).below_ bY (by simp));replace V:=Kh ((V.1.alloc_ _).below_ bY (V.1.alloc_ _).lt);replace U:=Kh ((U.1.alloc_ _).below_ bY (U.1.alloc_ _).lt);replace I:=Kh ((I.1.alloc_ _).below_ bY (I.1.alloc_ _).lt);have pC:w.heap.size<=O.heap.size:=bB.1.size;clear bY Y bB cB u0 u1 m0 m1 m2 m3;by_cases h2:e2=0
  ·subst h2
   go_upto_region 9 with(fail)
   obtain⟨w6,dE⟩:∃w6,w5.alloc (.cells #[.int .i64 x2,.int .i64 y2] 47)=w6:=⟨_,rfl⟩
   rw[dE];have Y:Below w5.heap.size w5 w6:=dE▸(Below.refl _ _).alloc (nR _) _;have X8:Blk w6 w5.heap.size 47 #[.int .i64 x2,.int .i64 y2]:=dE▸Blk.new w5 _ _;have X6:=bk gF Y;have X0:=bk V Y;have X1:=bk U Y;have X2:=bk I Y;have hO:=cC.1.trans (Y.mono cC.1.size);have pD:=gF.1.lt;have oU:=hH.1;have oB:w.heap.size+1+1<w6.heap.size:=X2.lt;have Z:=Kh X2;have nB:=Kh (Stk.of (K:=NotU32) X2 (by intro v hv;simp at hv;rcases hv with rfl|rfl <;> exact λ_ h=>by cases h));clear V U I gF cC Y dE;have oC:=Mf (Below.refl _ w6).drew ⟨X0.c0,X1.c0,X1.c1,X1.c2,X1.c3,X6.c0,X6.c1,X8.c0,X8.c1,X2.so 0,X2.free_ 0,X2.so 1,X2.free_ 1,X2.so 2,X2.free_ 2,X2.so 3,X2.free_ 3,X2.so 4,X2.free_ 4,hO,Below.size (show Below w.heap.size w w6 from hO)⟩;clear X0 X1 X2 X6 X8;have M1:True:=trivial
   go_region_held3 (λJ=>J.cell? ⟨w.heap.size,0,none⟩=some (.slice (some ⟨g1,o1,none⟩) n l1)/\J.cell? ⟨w.heap.size+1,0,none⟩=some (.int .i64 a)/\J.cell? ⟨w.heap.size+1,1,none⟩=some (.int .i64 b)/\J.cell? ⟨w.heap.size+1,2,none⟩=some (.int .i64 c)/\J.cell? ⟨w.heap.size+1,3,none⟩=some (.int .i64 d)/\J.cell? ⟨O.heap.size,0,none⟩=some (.int .i64 x1)/\J.cell? ⟨O.heap.size,1,none⟩=some (.int .i64 y1)/\J.cell? ⟨w5.heap.size,0,none⟩=some (.int .i64 x2)/\J.cell? ⟨w5.heap.size,1,none⟩=some (.int .i64 y2)/\J.cell? ⟨w.heap.size+1+1,0,none⟩=some (cellOf J ⟨w.heap.size+1+1,0,none⟩)/\J.frozen? ⟨w.heap.size+1+1,0,none⟩=false/\J.cell? ⟨w.heap.size+1+1,1,none⟩=some (cellOf J ⟨w.heap.size+1+1,1,none⟩)/\J.frozen? ⟨w.heap.size+1+1,1,none⟩=false/\J.cell? ⟨w.heap.size+1+1,2,none⟩=some (cellOf J ⟨w.heap.size+1+1,2,none⟩)/\J.frozen? ⟨w.heap.size+1+1,2,none⟩=false/\J.cell? ⟨w.heap.size+1+1,3,none⟩=some (cellOf J ⟨w.heap.size+1+1,3,none⟩)/\J.frozen? ⟨w.heap.size+1+1,3,none⟩=false/\J.cell? ⟨w.heap.size+1+1,4,none⟩=some (cellOf J ⟨w.heap.size+1+1,4,none⟩)/\J.frozen? ⟨w.heap.size+1+1,4,none⟩=false/\Below w.heap.size w J/\w.heap.size<=J.heap.size)
    (first|with_reducible exact oC|with_reducible assumption |(refine Mf (by with_reducible assumption) ?_;assumption) |(refine Wj ?_ ?_ ?_ ?_ ?_ ?_ ?_ ?_ ?_ ?_ ?_ ?_ ?_ ?_ ?_ ?_ ?_ ?_ ?_ ?_ ?_ ?_ ?_ ?_ ?_ ?_ ?_ ?_ ?_ ?_ ?_ ?_ ?_ ?_ ?_ ?_ ?_ ?_ ?_ ?_ ?_ ?_ ?_ ?_ ?_ ?_ ?_ ?_ ?_ ?_ ?_ <;> first|assumption |(dsimp only;omega) |(simp;done)))
    (first
     |(go_at_call 68;refine(hI.1 _ (Kd (by with_reducible assumption))).mono ?_;rintro e w7 ⟨⟨g7,rfl,hB,hT⟩,hP⟩;have bC:Below w6.heap.size w6 w7:=(by first|exact(Below.refl _ w6).drew.trans hP|exact hP);have mE:=Kh (show w.heap.size<=g7 from nS (by simp only[World.drew];omega) hB);have nA:=Kh (QRow.i32 (λ_=>IsQ.solid _) hT (I32.path (nB.1.next bC) (some ⟨g7,0,none⟩) n n x1 y1 x2 y2) (Kj _ _ _ _ _ _ _) (Nat.ne_of_gt (nT oB (nS (by simp only[World.drew];omega) hB))));have r0:w7.cell? ⟨w.heap.size+1+1,0,none⟩=some (.slice none 0 0):=(bk Z bC).at_ 0 rfl;have r1:w7.cell? ⟨w.heap.size+1+1,1,none⟩=some (.int .i64 0):=(bk Z bC).at_ 1 rfl;have r2:w7.cell? ⟨w.heap.size+1+1,2,none⟩=some (.int .i64 0):=(bk Z bC).at_ 2 rfl;have r3:w7.cell? ⟨w.heap.size+1+1,3,none⟩=some (.int .i64 0):=(bk Z bC).at_ 3 rfl;have r4:w7.cell? ⟨w.heap.size+1+1,4,none⟩=some (.int .i64 0):=(bk Z bC).at_ 4 rfl;clear hB hT bC))
   all_goals go_wp2
   all_goals refine bodyPost_ret (by simp[results,results25,go_sem,r0,r1,r2,r3,r4];try rfl) rfl ?_
   all_goals exact⟨.inr ⟨HE.1,g7,n,rfl,mE.1,nA.1⟩,Kd (by assumption)⟩
  ·have oV:=Kh h2
   have z0:∀o,(w5.alloc o).cell? ⟨w.heap.size+1+1,0,none⟩=some (.slice none 0 0):=λo=>(I.1.alloc_ o).at_ 0 rfl
   have f0:∀o,(w5.alloc o).frozen? ⟨w.heap.size+1+1,0,none⟩=false:=λo=>(I.1.alloc_ o).free_ 0
   have z1:∀o,(w5.alloc o).cell? ⟨w.heap.size+1+1,1,none⟩=some (.int .i64 0):=λo=>(I.1.alloc_ o).at_ 1 rfl
   have f1:∀o,(w5.alloc o).frozen? ⟨w.heap.size+1+1,1,none⟩=false:=λo=>(I.1.alloc_ o).free_ 1
   have z2:∀o,(w5.alloc o).cell? ⟨w.heap.size+1+1,2,none⟩=some (.int .i64 0):=λo=>(I.1.alloc_ o).at_ 2 rfl
   have f2:∀o,(w5.alloc o).frozen? ⟨w.heap.size+1+1,2,none⟩=false:=λo=>(I.1.alloc_ o).free_ 2
   have z3:∀o,(w5.alloc o).cell? ⟨w.heap.size+1+1,3,none⟩=some (.int .i64 0):=λo=>(I.1.alloc_ o).at_ 3 rfl
   have f3:∀o,(w5.alloc o).frozen? ⟨w.heap.size+1+1,3,none⟩=false:=λo=>(I.1.alloc_ o).free_ 3
   have z4:∀o,(w5.alloc o).cell? ⟨w.heap.size+1+1,4,none⟩=some (.int .i64 0):=λo=>(I.1.alloc_ o).at_ 4 rfl
   have f4:∀o,(w5.alloc o).frozen? ⟨w.heap.size+1+1,4,none⟩=false:=λo=>(I.1.alloc_ o).free_ 4
   go_wp2;refine bodyPost_ret (by simp[results,results25,go_sem,z0,z1,z2,z3,z4];try rfl) rfl ?_;exact⟨.inl ⟨by rw[HE.1];assumption,by rw[HE.1]⟩,(((((cC.1.alloc cC.1.size _).setCell (p:=⟨w.heap.size+1+1,0,none⟩) (by dsimp only;omega) _).setCell (p:=⟨w.heap.size+1+1,1,none⟩) (by dsimp only;omega) _).setCell (p:=⟨w.heap.size+1+1,2,none⟩) (by dsimp only;omega) _).setCell (p:=⟨w.heap.size+1+1,3,none⟩) (by dsimp only;omega) _).setCell (p:=⟨w.heap.size+1+1,4,none⟩) (by dsimp only;omega) _⟩
 ·have HE:=Kh (show er=e1 by rw[bE.1,if_pos h1])
  clear bE;go_wp2;refine bodyPost_ret (by simp[results,results25,go_sem,z0,z1,z2,z3,z4];try rfl) rfl ?_;exact⟨.inl ⟨by rw[HE.1];assumption,by rw[HE.1]⟩,(((((bB.1.alloc bB.1.size _).setCell (p:=⟨w.heap.size+1+1,0,none⟩) (by dsimp only;omega) _).setCell (p:=⟨w.heap.size+1+1,1,none⟩) (by dsimp only;omega) _).setCell (p:=⟨w.heap.size+1+1,2,none⟩) (by dsimp only;omega) _).setCell (p:=⟨w.heap.size+1+1,3,none⟩) (by dsimp only;omega) _).setCell (p:=⟨w.heap.size+1+1,4,none⟩) (by dsimp only;omega) _⟩
theorem QRow.grown {F:Nat->FP} (hF:∀j,Bu (F j)) {w w':World} {g N k:Nat} {row:Option Nat} (h:QRow F w g N k) (U:I32 w w') (hg:w.grownBy w' row) (J:some g≠row):QRow F w' g N k:=by
 have O:∀j v,w.cell? ⟨g,j,none⟩=some v->w'.cell? ⟨g,j,none⟩=some v:=λj v e=>hg.cell e J
 have I:w'.heap[g]?=w.heap[g]?:=hg.block g h.sts.1 J;refine⟨⟨nT h.sts.1 hg.size,λi v hv=>h.sts.2 i v ((World.cell?_of_block (a:=⟨g,i,none⟩) I).symm.trans hv)⟩,λi V=>(World.frozen?_of_block (a:=⟨g,i,none⟩) I).trans (h.free i V),λi V=>?_,λj hj=>?_⟩
 ·rw[World.cell?_of_block (a:=⟨g,i,none⟩) I];exact h.has i V
 ·obtain⟨s,p,n,c,t,q,m,d,Y,Z,h2,h3,h4⟩:=h.val j hj
  exact⟨s,p,n,c,t,q,m,d,O _ _ Y,O _ _ Z,O _ _ h2,O _ _ h3,hF j _ _ _ _ _ _ _ _ _ _ U h4⟩
def PX (w:World) (xs:List Value) (i n:Nat) (f:Nat->Rat) (x y:Int×Int):Prop:=
 ∃g cap,xs[i*5]?=some (.slice (some ⟨g,0,none⟩) n cap)/\xs[i*5+1]?=some (.int .i64 x.1)/\xs[i*5+2]?=some (.int .i64 x.2)/\xs[i*5+3]?=some (.int .i64 y.1)/\xs[i*5+4]?=some (.int .i64 y.2)/\QRow (λj=>IsQ (f j)) w g n n
def OwnP (F:Nat->Nat->Rat) (X Y:Nat->Int×Int) (w:World) (B:Nat) (v:Value) (k n:Nat):Prop:=
 (v.ownBlock=none∨0<k)/\∃xs,OwnK NotU32 w B 57 5 v k xs/\∀i,i<k->PX w xs i n (F i) (X i) (Y i)
theorem OwnP.nil (F:Nat->Nat->Rat) (X Y:Nat->Int×Int) (w:World) (B n:Nat):OwnP F X Y w B (.slice none 0 0) 0 n:=⟨.inl rfl,[],OwnK.nil _ _ _ _ _,λ_ I=>absurd I (Nat.not_lt_zero _)⟩
theorem PX.keep {w w':World} {I:List Value} {i n:Nat} {f:Nat->Rat} {x y:Int×Int} (h:PX w I i n f x y) (hb:Below w.heap.size w w'):PX w' I i n f x y:=by
 obtain⟨g,cap,J,O,U,V,Y,Z⟩:=h;exact⟨g,cap,J,O,U,V,Y,Z.keep (λ_=>IsQ.solid _) hb⟩
theorem OwnP.keep {F:Nat->Nat->Rat} {X Y:Nat->Int×Int} {w w':World} {B k n:Nat} {v:Value} (h:OwnP F X Y w B v k n) (I:Below w.heap.size w w'):OwnP F X Y w' B v k n:=by
 obtain⟨V,Z,J,O⟩:=h;exact⟨V,Z,J.keep I,λi U=>(O i U).keep I⟩
theorem OwnP.push {F:Nat->Nat->Rat} {X Y:Nat->Int×Int} {W w':World} {B k n:Nat} {v v':Value} {I:List Value} (hv:v.ownBlock=none∨0<k) (h1:OwnK NotU32 W B 57 5 v k I) (h2:∀i,i<k->PX W I i n (F i) (X i) (Y i))
  {g cap:Nat} {x y:Int×Int} (hq:QRow (λj=>IsQ (F k j)) W g n n) (hx:X k=x) (hy:Y k=y) (h3:OwnK NotU32 w' B 57 5 v' (k+1) (I++[.slice (some ⟨g,0,none⟩) n cap,.int .i64 x.1,.int .i64 x.2,.int .i64 y.1,.int .i64 y.2])) (hg:W.grownBy w' v.ownBlock):OwnP F X Y w' B v' (k+1) n:=by
 have U:=I32.grown (K:=NotU32) (λx=>Fg x) h1.2 hg;have Z:I.length=k*5:=h1.1.1
 have h:∀J,Sts W J->some J≠v.ownBlock:=by
  intro J hs e;rcases hv with hv|hv
  ·rw[hv]at e;cases e
  ·obtain⟨_,_,_,e1,_⟩:=h2 0 hv
   rcases De h1.1 with⟨rfl,_⟩ |⟨g0,bE,rfl,_⟩
   ·simp[Value.ownBlock]at e
   ·simp[Value.ownBlock]at e
    subst e;exact hs.2 1 _ (An h1.1 (j:=1) (by simpa using e1)) _ _ rfl
 refine⟨.inr (Nat.succ_pos k),_,h3,λi hi=>?_⟩;by_cases hik:i<k
 ·obtain⟨J,O,e0,e1,e2,e3,e4,e5⟩:=h2 i hik
  have V:∀(j:Nat) (u:Value),I[j]?=some u->(I++[.slice (some ⟨g,0,none⟩) n cap,.int .i64 x.1,.int .i64 x.2,.int .i64 y.1,.int .i64 y.2])[j]?=some u:=by
   intro j u e;rw[List.getElem?_append_left]
   ·exact e
   ·rcases Nat.lt_or_ge j I.length with hlt|bC
    ·exact hlt
    ·rw[List.getElem?_eq_none bC]at e;cases e
  exact⟨J,O,V _ _ e0,V _ _ e1,V _ _ e2,V _ _ e3,V _ _ e4,e5.grown (λ_=>IsQ.solid _) U hg (h J e5.sts)⟩
 ·obtain rfl:i=k:=by omega
  refine⟨g,cap,?_,?_,?_,?_,?_,hq.grown (λ_=>IsQ.solid _) U hg (h g hq.sts)⟩
  ·rw[List.getElem?_append_right (by omega),Z,show i*5 - i*5=0 by omega];rfl
  ·rw[List.getElem?_append_right (by omega),Z,show i*5+1 - i*5=1 by omega,hx];rfl
  ·rw[List.getElem?_append_right (by omega),Z,show i*5+2 - i*5=2 by omega,hx];rfl
  ·rw[List.getElem?_append_right (by omega),Z,show i*5+3 - i*5=3 by omega,hy];rfl
  ·rw[List.getElem?_append_right (by omega),Z,show i*5+4 - i*5=4 by omega,hy];rfl
theorem Zf (x:Rat):Rat.divInt (-x.num) x.den=-x:=by
 rw[<-Rat.neg_divInt,Bl]
theorem Ql (x y:Rat):Rat.divInt (x.num*y.den) (x.den*y.num)=x / y:=by
 rw[<-Rat.divInt_mul_divInt,Bl,Rat.div_def,Rat.inv_def]
theorem Hr (s:Bool) (p:Option Addr) (n c:Nat) (t:Bool) (q:Option Addr) (m d:Nat) (x:Rat) (w:World) (h:Qs w s p n c t q m d x) (J:hq x<=1000000000):
  Calls prog 97 #[.agg #[.bool s,.slice p n c,.bool t,.slice q m d]] w λe w'=>Wg e x/\Below w.heap.size w w':=by
 have I:=Nx s p n c x.num t q m d x.den w h.1.raw h.2.raw (by have:=h.sizes;omega) (by have:=h.sizes;omega);rw[Bl]at I;exact I
theorem Xh (s:Bool) (p:Option Addr) (n c:Nat) (t:Bool) (q:Option Addr) (m d:Nat) (x:Rat) (w:World) (h:Qs w s p n c t q m d x) (J:hq x<=1000000000000):
  Calls prog 97 #[.agg #[.bool s,.slice p n c,.bool t,.slice q m d]] w λe w'=>Wg e x/\Below w.heap.size w w':=by
 have I:=Nx s p n c x.num t q m d x.den w h.1.raw h.2.raw (by have:=h.sizes;omega) (by have:=h.sizes;omega);rw[Bl]at I;exact I
theorem Jn (s:Bool) (p:Option Addr) (n c:Nat) (t:Bool) (q:Option Addr) (m d:Nat) (x:Rat) (w:World) (h:Qs w s p n c t q m d x) (hx:hq x<=1000000000):
  Calls prog 51 #[.agg #[.bool s,.slice p n c,.bool t,.slice q m d]] w λe w'=>Eg w' e (-x)/\Below w.heap.size w w':=by
 have HV:=Kh (Zf x);have HS:=Kh h.sizes;have cA:=Kh (show nd (-x.num).natAbs<=4398046511100 by rw[Int.natAbs_neg];have:=E9 x;omega);have HD:=Kh (λI (hb:Below w.heap.size w I)=>h.2.keep hb);have bE:=Kh (λI (hb:Below w.heap.size w I)=>Wx s p n c x.num I (h.1.keep hb).raw (by have:=HS.1;omega));clear h;go_enter func51,ntmps51
 go_upto_region 1 with(fail)
 obtain⟨w0,aX,U,J,V⟩:=bx2 w #[.bool s,.slice p n c,.bool t,.slice q m d] 86 #[.bool false,.slice none 0 0,.bool false,.slice none 0 0] 86;rw[aX];have dE:w.heap.size<=w0.heap.size:=V.size;clear aX;have M1:True:=trivial;have T1:=Sts.of J (by intro v hv;simp at hv;rcases hv with rfl|rfl|rfl|rfl <;> first|exact NotInt.bool _|exact NotInt.slice _ _ _);have cG:=Da (Below.refl _ w0).drew ⟨U.c0,U.c1,U.c2,U.c3,J.so 0,J.free_ 0,T1,J.so 1,J.free_ 1,T1,J.so 2,J.free_ 2,T1,J.so 3,J.free_ 3,T1,V,dE⟩;clear U J
 go_region_held3 (λI=>I.cell? ⟨w.heap.size,0,none⟩=some (.bool s)/\I.cell? ⟨w.heap.size,1,none⟩=some (.slice p n c)/\I.cell? ⟨w.heap.size,2,none⟩=some (.bool t)/\I.cell? ⟨w.heap.size,3,none⟩=some (.slice q m d)/\I.cell? ⟨w.heap.size+1,0,none⟩=some (cellOf I ⟨w.heap.size+1,0,none⟩)/\I.frozen? ⟨w.heap.size+1,0,none⟩=false/\Sts I (w.heap.size+1)/\I.cell? ⟨w.heap.size+1,1,none⟩=some (cellOf I ⟨w.heap.size+1,1,none⟩)/\I.frozen? ⟨w.heap.size+1,1,none⟩=false/\Sts I (w.heap.size+1)/\I.cell? ⟨w.heap.size+1,2,none⟩=some (cellOf I ⟨w.heap.size+1,2,none⟩)/\I.frozen? ⟨w.heap.size+1,2,none⟩=false/\Sts I (w.heap.size+1)/\I.cell? ⟨w.heap.size+1,3,none⟩=some (cellOf I ⟨w.heap.size+1,3,none⟩)/\I.frozen? ⟨w.heap.size+1,3,none⟩=false/\Sts I (w.heap.size+1)/\Below w.heap.size w I/\w.heap.size<=I.heap.size)
  (first|with_reducible exact cG |(refine Da (by with_reducible assumption) ?_;assumption) |(refine Kb ?_ ?_ ?_ ?_ ?_ ?_ ?_ ?_ ?_ ?_ ?_ ?_ ?_ ?_ ?_ ?_ ?_ ?_ ?_ ?_ ?_ ?_ ?_ ?_ ?_ <;> first|assumption|exact NotInt.bool _|exact NotInt.slice _ _ _ |(dsimp only;omega) |(simp;done)))
  (first
   |(go_at_call 98;refine(bE.1 _ (Cs (by with_reducible assumption))).mono ?_;rintro e w2 ⟨⟨s2,p2,n2,e2,rfl,bA⟩,Y⟩;have O:=Kh bA;have bC:=Kh (show Below w.heap.size w w2 from Below.trans (Cs (by with_reducible assumption)) (Below.mono Y (Below.size (Cs (by with_reducible assumption)))));have bY:=Kh (Kp s2 p2 n2 e2 (-x.num) t q m d x.den w2 O.1.raw (HD.1 _ bC.1).raw (by rw[<-O.1.2.1];exact cA.1) (by have:=HS.1;omega));clear bA)
   |(go_at_call 85;refine bY.1.mono ?_;rintro e w4 ⟨⟨s4,p4,n4,e4,t4,q4,m4,d4,rfl,Z⟩,cX⟩;clear Y;obtain⟨⟨cB,hT⟩,⟨cC,_⟩,⟨cD,_⟩,⟨cF,_⟩⟩:=Ov cX (by with_reducible assumption);have dC:=Kh (Z.put4 hT (.bool s4) (.slice p4 n4 e4) (.bool t4) (.slice q4 m4 d4) (NotInt.bool _) (NotInt.slice _ _ _) (NotInt.bool _));clear Z hT))
 go_wp2;try simp only[Exit.inBlock,Exit.then]
 refine bodyPost_ret (by simp[results,results51,go_sem,cB,cC,cD,cF];try rfl) rfl ?_;exact⟨⟨s4,p4,n4,e4,t4,q4,m4,d4,rfl,HV.1▸dC.1⟩,Cs (by assumption)⟩
theorem cL (s:Bool) (p:Option Addr) (n c:Nat) (t:Bool) (q:Option Addr) (m d:Nat) (x:Rat) (s':Bool) (p':Option Addr) (n' V:Nat) (t':Bool) (q':Option Addr) (m' Y:Nat) (y:Rat) (w:World) (h:Qs w s p n c t q m d x) (h':Qs w s' p' n' V t' q' m' Y y) (hx:hq x<=1000000000) (hy:hq y<=1000000000):
  Calls prog 146 #[.agg #[.bool s,.slice p n c,.bool t,.slice q m d],.agg #[.bool s',.slice p' n' V,.bool t',.slice q' m' Y]] w λe w'=>Eg w' e (x - y)/\Below w.heap.size w w':=by
 have HV:=Kh (Rat.sub_eq_add_neg x y).symm;have HY:=Kh (show hq (-y)<=1000000000 by rw[hq,Rat.neg_num,Rat.neg_den,Int.natAbs_neg];exact hy);have HD:=Kh (λI (hb:Below w.heap.size w I)=>h.keep hb);have cG:=Kh (λI (hb:Below w.heap.size w I)=>Jn s' p' n' V t' q' m' Y y I (h'.keep hb) hy);clear h h';go_enter func146,ntmps146
 go_upto_region 1 with(fail)
 obtain⟨w0,bB,O,U,J,Z⟩:=Kk w #[.bool s,.slice p n c,.bool t,.slice q m d] 86 #[.bool s',.slice p' n' V,.bool t',.slice q' m' Y] 86 #[.bool false,.slice none 0 0,.bool false,.slice none 0 0] 86;rw[bB];have gP:w.heap.size<=w0.heap.size:=Z.size;clear bB;have M1:True:=trivial;have T2:=Sts.of J (by intro v hv;simp at hv;rcases hv with rfl|rfl|rfl|rfl <;> first|exact NotInt.bool _|exact NotInt.slice _ _ _);have gA:=A6 (Below.refl _ w0).drew ⟨O.c0,O.c1,O.c2,O.c3,U.c0,U.c1,U.c2,U.c3,J.so 0,J.free_ 0,T2,J.so 1,J.free_ 1,T2,J.so 2,J.free_ 2,T2,J.so 3,J.free_ 3,T2,Z,gP⟩;clear O U J
 go_region_held3 (λI=>I.cell? ⟨w.heap.size,0,none⟩=some (.bool s)/\I.cell? ⟨w.heap.size,1,none⟩=some (.slice p n c)/\I.cell? ⟨w.heap.size,2,none⟩=some (.bool t)/\I.cell? ⟨w.heap.size,3,none⟩=some (.slice q m d)/\I.cell? ⟨w.heap.size+1,0,none⟩=some (.bool s')/\I.cell? ⟨w.heap.size+1,1,none⟩=some (.slice p' n' V)/\I.cell? ⟨w.heap.size+1,2,none⟩=some (.bool t')/\I.cell? ⟨w.heap.size+1,3,none⟩=some (.slice q' m' Y)/\I.cell? ⟨w.heap.size+1+1,0,none⟩=some (cellOf I ⟨w.heap.size+1+1,0,none⟩)/\I.frozen? ⟨w.heap.size+1+1,0,none⟩=false/\Sts I (w.heap.size+1+1)/\I.cell? ⟨w.heap.size+1+1,1,none⟩=some (cellOf I ⟨w.heap.size+1+1,1,none⟩)/\I.frozen? ⟨w.heap.size+1+1,1,none⟩=false/\Sts I (w.heap.size+1+1)/\I.cell? ⟨w.heap.size+1+1,2,none⟩=some (cellOf I ⟨w.heap.size+1+1,2,none⟩)/\I.frozen? ⟨w.heap.size+1+1,2,none⟩=false/\Sts I (w.heap.size+1+1)/\I.cell? ⟨w.heap.size+1+1,3,none⟩=some (cellOf I ⟨w.heap.size+1+1,3,none⟩)/\I.frozen? ⟨w.heap.size+1+1,3,none⟩=false/\Sts I (w.heap.size+1+1)/\Below w.heap.size w I/\w.heap.size<=I.heap.size)
  (first|with_reducible exact gA |(refine A6 (by with_reducible assumption) ?_;assumption) |(refine D3 ?_ ?_ ?_ ?_ ?_ ?_ ?_ ?_ ?_ ?_ ?_ ?_ ?_ ?_ ?_ ?_ ?_ ?_ ?_ ?_ ?_ ?_ ?_ ?_ ?_ ?_ ?_ ?_ ?_ ?_ ?_ ?_ ?_ ?_ ?_ ?_ ?_ ?_ ?_ ?_ ?_ <;> first|assumption|exact NotInt.bool _|exact NotInt.slice _ _ _ |(dsimp only;omega) |(simp;done)))
  (first
   |(go_at_call 51;refine(cG.1 _ (Bg (by with_reducible assumption))).mono ?_;rintro e w2 ⟨⟨s2,p2,n2,e2,t2,q2,m2,d2,rfl,bC⟩,aX⟩;have cX:=Kh bC;have cF:=Kh (show Below w.heap.size w w2 from Below.trans (Bg (by with_reducible assumption)) (Below.mono aX (Below.size (Bg (by with_reducible assumption)))));have cT:=Kh (Gh s p n c t q m d x s2 p2 n2 e2 t2 q2 m2 d2 (-y) w2 (HD.1 _ cF.1) cX.1 hx HY.1);clear bC)
   |(go_at_call 39;refine cT.1.mono ?_;rintro e w4 ⟨⟨s4,p4,n4,e4,t4,q4,m4,d4,rfl,bA⟩,gL⟩;clear aX;obtain⟨⟨dC,hT⟩,⟨dE,_⟩,⟨dY,_⟩,⟨eP,_⟩⟩:=Hl gL (by with_reducible assumption);have gN:=Kh (bA.put4 hT (.bool s4) (.slice p4 n4 e4) (.bool t4) (.slice q4 m4 d4) (NotInt.bool _) (NotInt.slice _ _ _) (NotInt.bool _));clear bA hT))
 go_wp2;try simp only[Exit.inBlock,Exit.then]
 refine bodyPost_ret (by simp[results,results146,go_sem,dC,dE,dY,eP];try rfl) rfl ?_;exact⟨⟨s4,p4,n4,e4,t4,q4,m4,d4,rfl,HV.1▸gN.1⟩,Bg (by assumption)⟩
theorem Xi (s:Bool) (p:Option Addr) (n c:Nat) (z:Int) (w:World) (h:Zs w s p n c z) (hn:n<=1000000000):
  Calls prog 94 #[.agg #[.bool s,.slice p n c]] w λe w'=>Eg w' e (z:Rat)/\Below w.heap.size w w':=by
 have HC:=Kh (λw1 (hb:Below w.heap.size w w1)=>Kl s p n c z w1 (h.keep hb).raw (by omega));have HO:=Kh (λw1=>G9 1 w1 (by omega) (by omega));clear h;go_enter func94,ntmps94
 go_wp2_with fail
 obtain⟨w0,bE,X1,X0,bA⟩:=bx2 w #[.bool s,.slice p n c] 84 #[.bool false,.slice none 0 0,.bool false,.slice none 0 0] 86;rw[bE];have J:=Kh X0;have V:=Kh bA;clear X0 X1 bA bE;refine(HC.1 _ V.1).mono ?_;rintro e w1 ⟨⟨s2,p2,n2,e2,rfl,bY⟩,Y⟩;have aX:=Kh bY;have Z:=bt V Y;replace J:=Kh (bk J Y);clear bY Y HC;go_wp2_with fail
 refine(HO.1 _).mono ?_;rintro e w2 ⟨⟨t2,q2,m2,d2,rfl,cA⟩,O⟩;have HQ:=Kh (show Qs w2 s2 p2 n2 e2 t2 q2 m2 d2 (z:Rat)from⟨aX.1.keep O,cA⟩);have I:=Kh (bk J O);have HB:=bt Z O;clear cA O J Z aX HO V;have r0:=I.1.at_ 0 rfl;have r1:=I.1.at_ 1 rfl;have r2:=I.1.at_ 2 rfl;have r3:=I.1.at_ 3 rfl;have f0:=I.1.free_ 0;have f1:=I.1.free_ 1;have f2:=I.1.free_ 2;have f3:=I.1.free_ 3;obtain⟨w9,U⟩:∃w9,(((w2.setCell ⟨w.heap.size+1,0,none⟩ (.bool s2)).setCell ⟨w.heap.size+1,1,none⟩ (.slice p2 n2 e2)).setCell ⟨w.heap.size+1,2,none⟩ (.bool t2)).setCell ⟨w.heap.size+1,3,none⟩ (.slice q2 m2 d2)=w9:=⟨_,rfl⟩
 obtain⟨E0,E1,E2,E3,bC⟩:=Cd I.1 HQ.1 U;have bB:Below w.heap.size w w9:=by rw[<-U];exact As HB.1 (by omega) _ _ _ _
 have dE:=Kh U;have cX:=Kh (And.intro E0 (And.intro E1 (And.intro E2 E3)));have dC:=Kh bC;have cT:=Kh bB;clear E0 E1 E2 E3 bC bB U HQ HB I;go_wp2;try rw[dE.1]
 obtain⟨E0,E1,E2,E3⟩:=cX.1;try simp only[Exit.inBlock,Exit.then]
 refine bodyPost_ret (by simp[results,results94,go_sem,E0,E1,E2,E3];try rfl) rfl ?_;exact⟨⟨s2,p2,n2,e2,t2,q2,m2,d2,rfl,dC.1⟩,cT.1⟩
theorem cK (s:Bool) (p:Option Addr) (n c:Nat) (t:Bool) (q:Option Addr) (m d:Nat) (x:Rat) (s':Bool) (p':Option Addr) (n' c':Nat) (t':Bool) (q':Option Addr) (m' d':Nat) (y:Rat) (w:World) (h:Qs w s p n c t q m d x) (h':Qs w s' p' n' c' t' q' m' d' y) (hx:hq x<=1000000000) (hy:hq y<=1000000000) (h0:y≠0):
  Calls prog 96 #[.agg #[.bool s,.slice p n c,.bool t,.slice q m d],.agg #[.bool s',.slice p' n' c',.bool t',.slice q' m' d']] w λe w'=>(∃s4 p4 n4 c4 t4 q4 m4 d4,e=.returned (.tuple #[.agg #[.bool s4,.slice p4 n4 c4,.bool t4,.slice q4 m4 d4],.int .i64 0])/\Qs w' s4 p4 n4 c4 t4 q4 m4 d4 (x / y))/\Below w.heap.size w w':=by
 have HV:=Kh (Ql x y);have HS:=Kh (And.intro h.sizes h'.sizes);have hM:=Kh (show nd (x.num*y.den).natAbs<=4398046511100 by rw[Int.natAbs_mul,Int.natAbs_natCast];have:=Cm x.num.natAbs y.den;have:=E9 x;have:=F4 y;omega);have hN:=Kh (show nd (x.den*y.num).natAbs<=4398046511100 by rw[Int.natAbs_mul,Int.natAbs_natCast];have:=Cm x.den y.num.natAbs;have:=F4 x;have:=E9 y;omega);have cT:=Kh (λI (hb:Below w.heap.size w I)=>Hr s' p' n' c' t' q' m' d' y I (h'.keep hb) hy);have hI:=Kh (λI (hb:Below w.heap.size w I)=>Ho s p n c x.num t' q' m' d' y.den I (h.1.keep hb).raw (h'.2.keep hb).raw (by have:=HS.1;omega) (by have:=HS.1;omega));have hJ:=Kh (λI (hb:Below w.heap.size w I)=>Ho t q m d x.den s' p' n' c' y.num I (h.2.keep hb).raw (h'.1.keep hb).raw (by have:=HS.1;omega) (by have:=HS.1;omega));clear h h';go_enter func96,ntmps96
 go_wp2_with fail
 obtain⟨w0,gL,Z,X1,O,U⟩:=Kk w #[.bool s,.slice p n c,.bool t,.slice q m d] 86 #[.bool s',.slice p' n' c',.bool t',.slice q' m' d'] 86 #[.bool false,.slice none 0 0,.bool false,.slice none 0 0] 86;rw[gL];have bC:w.heap.size<=w0.heap.size:=U.size;clear gL;have cX:=Kh Z;have J:=Kh X1;have dC:=Kh O;have Y:=Kh U;clear Z X1 O U bC;have r0:=J.1.at_ 0 rfl;have r1:=J.1.at_ 1 rfl;have r2:=J.1.at_ 2 rfl;have r3:=J.1.at_ 3 rfl;go_wp2_with fail
 refine(cT.1 _ Y.1).mono ?_;rintro e I ⟨⟨sg,rfl,gF⟩,V⟩
 have hZ:(sg==0)=false:=by
  have:sg≠0:=λe=>h0 (gF.1 e)
  simpa using this
 have U:=Y.1.trans (V.mono Y.1.size);have bC:=U.size;have Z:=bk cX V;have X1:=bk J V;have O:=bk dC V;clear cT cX J dC Y V gF r0 r1 r2 r3;obtain⟨w0,rfl⟩:∃w0:World,w0=I:=⟨_,rfl⟩
 go_upto_region 3 with(fail)
 have M1:True:=trivial;have T2:=Sts.of O (by intro v hv;simp at hv;rcases hv with rfl|rfl|rfl|rfl <;> first|exact NotInt.bool _|exact NotInt.slice _ _ _);have hS:=A6 (Below.refl _ w0).drew ⟨Z.c0,Z.c1,Z.c2,Z.c3,X1.c0,X1.c1,X1.c2,X1.c3,O.so 0,O.free_ 0,T2,O.so 1,O.free_ 1,T2,O.so 2,O.free_ 2,T2,O.so 3,O.free_ 3,T2,U,bC⟩;clear Z X1 O
 go_region_held3 (λI=>I.cell? ⟨w.heap.size,0,none⟩=some (.bool s)/\I.cell? ⟨w.heap.size,1,none⟩=some (.slice p n c)/\I.cell? ⟨w.heap.size,2,none⟩=some (.bool t)/\I.cell? ⟨w.heap.size,3,none⟩=some (.slice q m d)/\I.cell? ⟨w.heap.size+1,0,none⟩=some (.bool s')/\I.cell? ⟨w.heap.size+1,1,none⟩=some (.slice p' n' c')/\I.cell? ⟨w.heap.size+1,2,none⟩=some (.bool t')/\I.cell? ⟨w.heap.size+1,3,none⟩=some (.slice q' m' d')/\I.cell? ⟨w.heap.size+1+1,0,none⟩=some (cellOf I ⟨w.heap.size+1+1,0,none⟩)/\I.frozen? ⟨w.heap.size+1+1,0,none⟩=false/\Sts I (w.heap.size+1+1)/\I.cell? ⟨w.heap.size+1+1,1,none⟩=some (cellOf I ⟨w.heap.size+1+1,1,none⟩)/\I.frozen? ⟨w.heap.size+1+1,1,none⟩=false/\Sts I (w.heap.size+1+1)/\I.cell? ⟨w.heap.size+1+1,2,none⟩=some (cellOf I ⟨w.heap.size+1+1,2,none⟩)/\I.frozen? ⟨w.heap.size+1+1,2,none⟩=false/\Sts I (w.heap.size+1+1)/\I.cell? ⟨w.heap.size+1+1,3,none⟩=some (cellOf I ⟨w.heap.size+1+1,3,none⟩)/\I.frozen? ⟨w.heap.size+1+1,3,none⟩=false/\Sts I (w.heap.size+1+1)/\Below w.heap.size w I/\w.heap.size<=I.heap.size)
  (first|with_reducible exact hS |(refine A6 (by with_reducible assumption) ?_;assumption) |(refine D3 ?_ ?_ ?_ ?_ ?_ ?_ ?_ ?_ ?_ ?_ ?_ ?_ ?_ ?_ ?_ ?_ ?_ ?_ ?_ ?_ ?_ ?_ ?_ ?_ ?_ ?_ ?_ ?_ ?_ ?_ ?_ ?_ ?_ ?_ ?_ ?_ ?_ ?_ ?_ ?_ ?_ <;> first|assumption|exact NotInt.bool _|exact NotInt.slice _ _ _ |(dsimp only;omega) |(simp;done)))
  (first
   |(go_at_call 84;clear M1;refine(hI.1 _ (Bg (by with_reducible assumption))).mono ?_;rintro e w2 ⟨⟨s2,p2,n2,e2,rfl,gN⟩,hU⟩;have bA:=Kh gN;clear gN)
   |(go_at_call 84;refine(hJ.1 _ (Bg (by with_reducible assumption))).mono ?_;rintro e w3 ⟨⟨s3,p3,n3,e3,rfl,bE⟩,eP⟩;have hL:=Kh (Kp s2 p2 n2 e2 (x.num*y.den) s3 p3 n3 e3 (x.den*y.num) w3 (bA.1.keep eP).raw bE.raw (by rw[<-bA.1.2.1];exact hM.1) (by rw[<-bE.2.1];exact hN.1));clear bE hU bA)
   |(go_at_call 85;refine hL.1.mono ?_;rintro e w4 ⟨⟨s4,p4,n4,e4,t4,q4,m4,d4,rfl,gA⟩,hV⟩;clear eP;obtain⟨⟨hO,hT⟩,⟨hP,_⟩,⟨hQ,_⟩,⟨hR,_⟩⟩:=Hl hV (by with_reducible assumption);have hW:=Kh (gA.put4 hT (.bool s4) (.slice p4 n4 e4) (.bool t4) (.slice q4 m4 d4) (NotInt.bool _) (NotInt.slice _ _ _) (NotInt.bool _));clear gA hT))
 go_wp2;try simp only[Exit.inBlock,Exit.then]
 refine bodyPost_ret (by simp[results,results96,go_sem,hO,hP,hQ,hR];try rfl) rfl ?_;exact⟨⟨s4,p4,n4,e4,t4,q4,m4,d4,rfl,HV.1▸hW.1⟩,Bg (by assumption)⟩
end Go.Proofs.YtenlbhlllgppmaaGreatDoor
namespace Go.Proofs.YtenlbhlllgppmaaGreatDoor
open Tryz
namespace Sie
open Tryz
theorem N4 {O:Type} (l:List O) (f:O->Nat) (W:Nat) (J:∀x∈l,f x<W+1):l.length=(l.filter (λx=>f x=W)).length+(l.filter (λx=>f x<W)).length:=by
 induction l with
 | nil=>rfl
 | cons x l ih=>
  have V:=ih (λy U=>J y (List.mem_cons_of_mem _ U));have Y:=J x (List.mem_cons_self ..);by_cases h:f x=W
  ·have I:¬f x<W:=by omega
   simp only[List.filter_cons,h,decide_true,if_true,List.length_cons,Nat.lt_irrefl,decide_false,Bool.false_eq_true,if_false];omega
  ·have I:f x<W:=by omega
   simp only[List.filter_cons,h,decide_false,Bool.false_eq_true,if_false,List.length_cons,I,decide_true,if_true];omega
theorem box {O:Type} (W:Nat):∀(l:List O) (f:O->Nat) (c:Nat),(∀x∈l,f x<W)->W*c<l.length->∃v,v<W/\c<(l.filter (λx=>f x=v)).length:=by
 induction W with
 | zero=>
  intro l f c I J;cases l with
  | nil=>simp at J
  | cons x l=>exact absurd (I x (List.mem_cons_self ..)) (Nat.not_lt_zero _)
 | succ W ih=>
  intro l f c I J;have h1:=N4 l f W I;by_cases h:c<(l.filter (λx=>f x=W)).length
  ·exact⟨W,nU _,h⟩
  ·have U:W*c<(l.filter (λx=>f x<W)).length:=by
    rw[Nat.succ_mul]at J;omega
   obtain⟨v,Y,V⟩:=ih (l.filter (λx=>f x<W)) f c (λx Z=>by simpa using (List.mem_filter.1 Z).2) U;refine⟨v,by omega,nT V ?_⟩;rw[List.filter_filter]
   exact Nat.le_of_eq (congrArg List.length (List.filter_congr λx _=>by
    by_cases h:f x=v
    ·simp[h,Y]
    ·simp[h]))
theorem eM (W:Nat) (n:Nat):∀(l:List Nat) (s:Nat->Nat->Nat),l.Nodup->(∀q,q<n->∀x∈l,s q x<W)->W ^ n<l.length->∃x y,x∈l/\y∈l/\x≠y/\∀q,q<n->s q x=s q y:=by
 induction n with
 | zero=>
  intro l s I U J;rw[Nat.pow_zero]at J
  match l,I,J with
  | x :: y :: l,I,_=>
   refine⟨x,y,List.mem_cons_self ..,List.mem_cons_of_mem _ (List.mem_cons_self ..),?_,λq hq=>absurd hq (Nat.not_lt_zero _)⟩;intro h;rw[List.nodup_cons]at I;exact I.1 (h▸List.mem_cons_self ..)
 | succ n ih=>
  intro l s I U J;rw[Nat.pow_succ,Nat.mul_comm]at J;obtain⟨v,_,h2⟩:=box W l (s n) (W ^ n) (U n (nU _)) J;obtain⟨x,y,V,hy,O,he⟩:=ih (l.filter (λx=>s n x=v)) s (I.sublist List.filter_sublist) (λq hq x V=>U q (by omega) x (List.mem_filter.1 V).1) h2;have Y:=List.mem_filter.1 V;have Z:=List.mem_filter.1 hy;refine⟨x,y,Y.1,Z.1,O,λq hq=>?_⟩;by_cases h:q=n
  ·subst h
   have b1:=Y.2;have b2:=Z.2;simp at b1 b2;rw[b1,b2]
  ·exact he q (by omega)
theorem He (r:Nat) (k:Nat):∀x y:Nat,x<r ^ k->y<r ^ k->(∀i,i<k->x / r ^ i % r=y / r ^ i % r)->x=y:=by
 induction k with
 | zero=>intro x y I J _;rw[Nat.pow_zero]at I J;omega
 | succ k ih=>
  intro x y I J h;have U:=h 0 (Nat.succ_pos _);rw[Nat.pow_zero,Nat.div_one,Nat.div_one]at U;rw[Nat.pow_succ]at I J
  have Z:x / r=y / r:=by
   refine ih (x / r) (y / r) (Nat.div_lt_of_lt_mul (by rw[Nat.mul_comm];exact I)) (Nat.div_lt_of_lt_mul (by rw[Nat.mul_comm];exact J)) (λi hi=>?_);have V:=h (i+1) (by omega);rw[Nat.pow_succ,Nat.mul_comm,<-Nat.div_div_eq_div_mul,<-Nat.div_div_eq_div_mul]at V;exact V
  have O:=Nat.div_add_mod x r;have Y:=Nat.div_add_mod y r;rw[Z]at O;rw[<-O,U,Y]
def sum (f:Nat->Int):Nat->Int
 | 0=>0
 | n+1=>sum f n+f n
theorem eF (f g:Nat->Int) (n:Nat):sum (λi=>f i - g i) n=sum f n - sum g n:=by
 induction n with
 | zero=>rfl
 | succ n ih=>rw[sum,sum,sum,ih];omega
theorem Na {f:Nat->Int} {n:Nat} {K:Int} (h:∀i,i<n->-K<=f i/\f i<=K):-(n*K)<=sum f n/\sum f n<=n*K:=by
 induction n with
 | zero=>rw[sum];omega
 | succ n ih=>
  have J:=ih (λi U=>h i (by omega));have O:=h n (nU _);have I:((n+1:Nat):Int)*K=(n:Int)*K+K:=by rw[Int.natCast_add,Int.add_mul];omega
  rw[sum,I];omega
theorem I0 {a x:Int} {B X:Nat} (I:a.natAbs<=B) (J:0<=x) (V:x<=X):-((B:Int)*X)<=a*x/\a*x<=(B:Int)*X:=by
 have O:(a*x).natAbs<=B*X:=by
  rw[Int.natAbs_mul];exact Nat.mul_le_mul I (by omega)
 have U:((B*X:Nat):Int)=(B:Int)*X:=by rw[Int.natCast_mul]
 omega
def cap (n B:Nat):Nat:=(2*(n+1)*B+1) ^ n
theorem lE (n B:Nat):(2*(n+1)*B*cap n B+1) ^ n<(cap n B+1) ^ (n+1):=by
 have V:0<cap n B:=Nat.pow_pos (Nat.succ_pos _)
 have J:2*(n+1)*B*cap n B+1<=(2*(n+1)*B+1)*cap n B:=by
  rw[Nat.add_mul,Nat.one_mul];omega
 have I:=Nat.pow_le_pow_left J n;rw[Nat.mul_pow]at I;have O:(2*(n+1)*B+1) ^ n=cap n B:=rfl;rw[O]at I;have U:cap n B ^ n<=(cap n B+1) ^ n:=Nat.pow_le_pow_left (Nat.le_succ _) n;have Y:0<(cap n B+1) ^ n:=Nat.pow_pos (Nat.succ_pos _);have Z:cap n B*cap n B ^ n<=cap n B*(cap n B+1) ^ n:=Nat.mul_le_mul_left _ U;have h:(cap n B+1) ^ (n+1)=cap n B*(cap n B+1) ^ n+(cap n B+1) ^ n:=by rw[Nat.pow_succ,Nat.mul_comm,Nat.add_mul,Nat.one_mul]
 omega
theorem small (n B:Nat) (a:Nat->Nat->Int) (ha:∀q i,q<n->i<n+1->(a q i).natAbs<=B):
  ∃m:Nat->Int,(∃i,i<n+1/\m i≠0)/\(∀i,i<n+1->(m i).natAbs<=cap n B)/\∀q,q<n->sum (λi=>a q i*m i) (n+1)=0:=by
 obtain⟨X,hX⟩:∃X,cap n B=X:=⟨_,rfl⟩
 have I:=lE n B;rw[hX]at I ⊢;obtain⟨r,hr⟩:∃r,X+1=r:=⟨_,rfl⟩
 rw[hr]at I;obtain⟨d,hd⟩:∃d:Nat->Nat->Int,d=λx i=>((x / r ^ i % r:Nat):Int):=⟨_,rfl⟩
 have J:∀x i,0<=d x i/\d x i<=(X:Int):=λx i=>by
  have O:x / r ^ i % r<r:=Nat.mod_lt _ (by omega);rw[hd];dsimp only;omega
 have Y:∀q x,q<n->-((n+1:Nat)*((B:Int)*X))<=sum (λi=>a q i*d x i) (n+1)/\sum (λi=>a q i*d x i) (n+1)<=(n+1:Nat)*((B:Int)*X):=λq x hq=>
  Na (λi V=>I0 (ha q i hq V) (J x i).1 (J x i).2)
 obtain⟨T,hT⟩:∃T:Nat,(n+1)*(B*X)=T:=⟨_,rfl⟩
 have U:((n+1:Nat):Int)*((B:Int)*X)=(T:Int):=by rw[<-hT,Int.natCast_mul,Int.natCast_mul]
 have hW:2*(n+1)*B*X+1=2*T+1:=by rw[<-hT,Nat.mul_assoc 2,Nat.mul_assoc 2,Nat.mul_assoc (n+1)]
 rw[hW]at I
 obtain⟨x,y,hx,hy,Z,he⟩:=eM (2*T+1) n (List.range (r ^ (n+1))) (λq x=>(sum (λi=>a q i*d x i) (n+1)+T).toNat) List.nodup_range (λq hq x _=>by
  have O:=Y q x hq;rw[U]at O;omega) (by rw[List.length_range];exact I)
 rw[List.mem_range]at hx hy;refine⟨λi=>d x i - d y i,?_,λi V=>?_,λq hq=>?_⟩
 ·refine Classical.byContradiction λaX=>Z (He r (n+1) x y hx hy λi V=>?_)
  have O:d x i - d y i=0:=Classical.byContradiction λh=>aX ⟨i,V,h⟩
  rw[hd]at O;dsimp only at O;omega
 ·have O:=J x i
  have h2:=J y i;show(d x i - d y i).natAbs<=X;omega
 ·have O:=he q hq
  have h2:=Y q x hq;have h3:=Y q y hq;rw[U]at h2 h3;have h4:(λi=>a q i*(d x i - d y i))=λi=>a q i*d x i - a q i*d y i:=by funext i;rw[Int.mul_sub]
  rw[h4,eF];omega
end Sie
end Go.Proofs.YtenlbhlllgppmaaGreatDoor
