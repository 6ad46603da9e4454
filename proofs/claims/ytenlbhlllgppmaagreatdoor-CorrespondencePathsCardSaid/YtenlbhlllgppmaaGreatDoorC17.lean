/- Contracts of sl2 and halfplaneref18: Lowest. -/
import Derived.Test.YtenlbhlllgppmaaGreatDoorC16
import Derived.Test.YtenlbhlllgppmaaGreatDoorC15
import Derived.Test.YtenlbhlllgppmaaGreatDoorC08
set_option maxRecDepth 100000
set_option maxHeartbeats 8000000
namespace Go.Proofs.YtenlbhlllgppmaaGreatDoor
open Go.RowKit Tryz
def low (p q:Int):Int×Int:=if q<0∨(q=0/\p<0)then(-(p.tdiv ((Int.gcd p q:Nat):Int)),-(q.tdiv ((Int.gcd p q:Nat):Int)))else(p.tdiv ((Int.gcd p q:Nat):Int),q.tdiv ((Int.gcd p q:Nat):Int))
theorem Z1 {p g:Int} {K:Nat} (h:p.natAbs<=K):(p.tdiv g).natAbs<=K:=by
 rw[Int.natAbs_tdiv];exact nM (Nat.div_le_self _ _) h
theorem jU (p q:Int) (w:World) (hp:-4611686018427387904<=p) (cD:p<=4611686018427387904) (hq:-4611686018427387904<=q) (cF:q<=4611686018427387904) (h0:Int.gcd p q≠0):
  Calls prog 118 #[.int .i64 p,.int .i64 q] w λe w'=>e=.returned (.agg #[.int .i64 (low p q).1,.int .i64 (low p q).2])/\Below w.heap.size w w':=by
 obtain⟨lo,U⟩:∃lo,low p q=lo:=⟨_,rfl⟩
 rw[U];have HG:=Kh (λw1=>Ec p q w1 (by omega) (by omega) (by omega) (by omega));have aX:((Int.gcd p q:Nat):Int)∣p:=Int.gcd_dvd_left p q;have bA:((Int.gcd p q:Nat):Int)∣q:=Int.gcd_dvd_right p q;have bB:0<((Int.gcd p q:Nat):Int):=by omega
 obtain⟨E,I⟩:∃E:Int,((Int.gcd p q:Nat):Int)=E:=⟨_,rfl⟩
 have cB:E<=4611686018427387904:=by
  rw[<-I];by_cases V:p=0
  ·subst V
   rw[Int.gcd_zero_left];omega
  ·have:=Nat.le_of_dvd (by omega) (Int.natAbs_dvd_natAbs.2 (Int.gcd_dvd_left p q));rw[Int.natAbs_natCast]at this;omega
 have Z:=Kh (show lo=if q<0∨(q=0/\p<0)then(-(p.tdiv E),-(q.tdiv E))else(p.tdiv E,q.tdiv E)by rw[<-U];unfold low;rw[I]);have b1:-4611686018427387904<=p.tdiv E/\p.tdiv E<=4611686018427387904:=by have:=Z1 (p:=p) (g:=E) (K:=4611686018427387904) (by omega);omega
 have b2:-4611686018427387904<=q.tdiv E/\q.tdiv E<=4611686018427387904:=by have:=Z1 (p:=q) (g:=E) (K:=4611686018427387904) (by omega);omega
 rw[I]at bB;have cA:E≠0:=by omega
 simp only[I]at HG;clear aX bA h0 I U;go_enter func118,ntmps118
 go_wp2_with fail
 all_goals obtain⟨w0,O⟩:∃w0,w.alloc (.cells #[.int .i64 0,.int .i64 0] 47)=w0:=⟨_,rfl⟩
 rw[O];have X:=Blk.new w 47 #[.int .i64 0,.int .i64 0];rw[O]at X;have HB:=Kh (show Below w.heap.size w w0 from O▸(Below.refl _ _).alloc (nL _) _);clear O;refine(HG.1 w0).mono ?_;rintro e w1 ⟨rfl,k,rfl⟩;have x0:w0.cell? ⟨w.heap.size,0,none⟩=some (.int .i64 0):=X.at_ 0 rfl;have x1:w0.cell? ⟨w.heap.size,1,none⟩=some (.int .i64 0):=X.at_ 1 rfl;have f0:w0.frozen? ⟨w.heap.size,0,none⟩=false:=X.free_ 0;have f1:w0.frozen? ⟨w.heap.size,1,none⟩=false:=X.free_ 1;have J:=Kh (λj=>Aa HB.1 j);clear HG HB X;by_cases M:q<0∨(q=0/\p<0)
 ·obtain rfl:lo=(-(p.tdiv E),-(q.tdiv E)):=by rw[Z.1,if_pos M]
  clear Z;have cC:-E≠0:=by omega
  rcases M with M |⟨rfl,M⟩
  ·go_upto_region 4 with(fail)
   go_region
   all_goals go_wp2
   all_goals refine bodyPost_ret (by simp[results,results118,go_sem,x0,x1];try rfl) rfl ?_
   all_goals exact⟨rfl,((J.1 _).setCell (nL _) _).setCell (nL _) _⟩
  ·go_upto_region 4 with(fail)
   go_region
   all_goals go_wp2
   all_goals refine bodyPost_ret (by simp[results,results118,go_sem,x0,x1];try rfl) rfl ?_
   all_goals exact⟨rfl,((J.1 _).setCell (nL _) _).setCell (nL _) _⟩
 ·obtain rfl:lo=(p.tdiv E,q.tdiv E):=by rw[Z.1,if_neg M]
  clear Z;by_cases hq0:q=0
  ·subst hq0
   have V:¬p<0:=λh=>M (.inr ⟨rfl,h⟩)
   clear M;go_upto_region 4 with(fail)
   go_region
   all_goals go_wp2
   all_goals refine bodyPost_ret (by simp[results,results118,go_sem,x0,x1];try rfl) rfl ?_
   all_goals exact⟨rfl,((J.1 _).setCell (nL _) _).setCell (nL _) _⟩
  ·have cG:¬q<0:=λh=>M (.inl h)
   clear M;go_upto_region 4 with(fail)
   go_region
   all_goals go_wp2
   all_goals refine bodyPost_ret (by simp[results,results118,go_sem,x0,x1];try rfl) rfl ?_
   all_goals exact⟨rfl,((J.1 _).setCell (nL _) _).setCell (nL _) _⟩
def Cg (a b c d p q:Int):(Int×Int)×Int:=
 if Al p q≠0 then((0,0),Al p q)
 else if Hp (low (a*p+b*q) (c*p+d*q)).1=true/\Hp (low (a*p+b*q) (c*p+d*q)).2=true then(low (a*p+b*q) (c*p+d*q),0)else((0,0),7)
theorem cuspE_zero {p q:Int} (h:Al p q=0):(-1073741824<=p/\p<=1073741824)/\(-1073741824<=q/\q<=1073741824)/\Int.gcd p q=1:=by
 unfold Al at h;split at h
 ·omega
 ·rename_i h1
  split at h
  ·omega
  ·rename_i h2
   have I:Hp p=true:=by
    cases hp:Hp p with
    | true=>rfl
    | false=>exact absurd (.inl hp) h1
   have J:Hp q=true:=by
    cases hp:Hp q with
    | true=>rfl
    | false=>exact absurd (.inr (.inr hp)) h1
   refine⟨Dl.1 I,Dl.1 J,?_⟩;rcases Nat.decEq (Int.gcd p q) 1 with E|E
   ·exact absurd (.inl E) h2
   ·exact E
theorem Xt {a b c d p q:Int} (J:a*d - b*c≠0) (h:Int.gcd p q=1):Int.gcd (a*p+b*q) (c*p+d*q)≠0:=by
 intro O;obtain⟨U,V⟩:=Int.gcd_eq_zero_iff.1 O
 have E:(a*d - b*c)*p=d*(a*p+b*q) - b*(c*p+d*q):=by
  rw[Int.sub_mul,Int.mul_add,Int.mul_add];have E:d*(b*q)=b*(d*q):=by rw[<-Int.mul_assoc,<-Int.mul_assoc,Int.mul_comm d b]
  have I:a*d*p=d*(a*p):=by rw[<-Int.mul_assoc,Int.mul_comm d a]
  have M:b*c*p=b*(c*p):=Int.mul_assoc _ _ _;omega
 have I:(a*d - b*c)*q=a*(c*p+d*q) - c*(a*p+b*q):=by
  rw[Int.sub_mul,Int.mul_add,Int.mul_add];have E:a*(c*p)=c*(a*p):=by rw[<-Int.mul_assoc,<-Int.mul_assoc,Int.mul_comm a c]
  have I:a*d*q=a*(d*q):=Int.mul_assoc _ _ _;have M:b*c*q=c*(b*q):=by rw[<-Int.mul_assoc,Int.mul_comm c b]
  omega
 rw[U,V,Int.mul_zero,Int.mul_zero,Int.sub_zero]at E I;have p0:p=0:=(Int.mul_eq_zero.1 E).resolve_left J;have q0:q=0:=(Int.mul_eq_zero.1 I).resolve_left J;subst p0;subst q0;simp at h
theorem R8 (a b c d p q:Int) (w:World) (ha:-1073741824<=a) (aK:a<=1073741824) (hb:-1073741824<=b) (aX:b<=1073741824) (hc:-1073741824<=c) (bC:c<=1073741824) (hd:-1073741824<=d) (bE:d<=1073741824)
  (V:a*d - b*c≠0) (hp:-9223372036854775808<=p) (cI:p<=9223372036854775807) (hq:-9223372036854775808<=q) (cM:q<=9223372036854775807):
  Calls prog 67 #[.agg #[.int .i64 a,.int .i64 b,.int .i64 c,.int .i64 d],.agg #[.int .i64 p,.int .i64 q]] w λe w'=>e=.returned (.tuple #[.agg #[.int .i64 (Cg a b c d p q).1.1,.int .i64 (Cg a b c d p q).1.2],.int .i64 (Cg a b c d p q).2])/\Below w.heap.size w w':=by
 obtain⟨av,aN⟩:∃av,Cg a b c d p q=av:=⟨_,rfl⟩
 rw[aN];have HV:=Kh aN;have HD:=Kh (λw1=>jM a b c d w1 ha aK hb aX hc bC hd bE);have HC:=Kh (λw1=>Da p q w1 hp cI hq cM);have HI:=Kh fV;have HM:=Kh (λ(h:Al p q=0)=>And.intro (mul_b ha aK (cuspE_zero h).1.1 (cuspE_zero h).1.2) (And.intro (mul_b hb aX (cuspE_zero h).2.1.1 (cuspE_zero h).2.1.2) (And.intro (mul_b hc bC (cuspE_zero h).1.1 (cuspE_zero h).1.2) (mul_b hd bE (cuspE_zero h).2.1.1 (cuspE_zero h).2.1.2))));have HN:=Kh (λ(h:Al p q=0)=>Xt V (cuspE_zero h).2.2);clear aN ha aK hb aX hc bC hd bE hp cI hq cM;generalize a*d - b*c=det at HD V;go_enter func67,ntmps67
 go_wp2_with fail
 obtain⟨w0,cT,X0,X1,X2,bA⟩:=T9 w #[.int .i64 a,.int .i64 b,.int .i64 c,.int .i64 d] 63 #[.int .i64 p,.int .i64 q] 47 #[.int .i64 0,.int .i64 0] 47;rw[cT];have cS:w.heap.size<=w0.heap.size:=bA.size;clear cT;have I:=Kh X0;have J:=Kh X1;have E:=Kh X2;clear X0 X1 X2;refine(HD.1 w0).mono ?_;rintro e w1 ⟨rfl,O⟩;replace I:=Kh (bk I O);replace J:=Kh (bk J O);replace E:=Kh (bk E O);have cD:=Kh (bA.trans (O.mono cS));have y0:=J.1.at_ 0 rfl;have y1:=J.1.at_ 1 rfl;clear bA O cS HD;go_wp2_with fail
 refine(HC.1 w1).mono ?_;rintro e w2 ⟨rfl,U⟩;replace I:=Kh (bk I U);replace J:=Kh (bk J U);replace E:=Kh (bk E U);have Z:=bt cD U;have z0:=E.1.at_ 0 rfl;have z1:=E.1.at_ 1 rfl;have f0:=E.1.free_ 0;have f1:=E.1.free_ 1;clear U cD HC y0 y1;by_cases hz:Al p q=0
 ·have m1:=(HM.1 hz).1
  have m2:=(HM.1 hz).2.1;have m3:=(HM.1 hz).2.2.1;have m4:=(HM.1 hz).2.2.2;have HL:=Kh (λw1=>jU (a*p+b*q) (c*p+d*q) w1 (by omega) (by omega) (by omega) (by omega) (HN.1 hz));have M:=Kh (show av=if Hp (low (a*p+b*q) (c*p+d*q)).1=true/\Hp (low (a*p+b*q) (c*p+d*q)).2=true then(low (a*p+b*q) (c*p+d*q),0)else((0,0),7)by rw[<-HV.1,Cg,if_neg (by simp[hz])]);have x0:=I.1.at_ 0 rfl;have x1:=I.1.at_ 1 rfl;have x2:=I.1.at_ 2 rfl;have x3:=I.1.at_ 3 rfl;have y0:=J.1.at_ 0 rfl;have y1:=J.1.at_ 1 rfl;rw[hz];clear HV HM HN hz z0 z1 f0 f1;go_wp2_with fail
  refine(HL.1 w2).mono ?_;rintro e w3 ⟨rfl,bB⟩;generalize low (a*p+b*q) (c*p+d*q)=lo at M;replace E:=Kh (bk E bB);have cF:=bt Z bB;clear bB Z HL x0 x1 x2 x3 y0 y1 m1 m2 m3 m4 I J;obtain⟨l1,l2⟩:=lo;have z0:∀o,(w3.alloc o).cell? ⟨w.heap.size+1+1,0,none⟩=some (.int .i64 0):=λo=>(E.1.alloc_ o).at_ 0 rfl
  have z1:∀o,(w3.alloc o).cell? ⟨w.heap.size+1+1,1,none⟩=some (.int .i64 0):=λo=>(E.1.alloc_ o).at_ 1 rfl
  have f0:∀o,(w3.alloc o).frozen? ⟨w.heap.size+1+1,0,none⟩=false:=λo=>(E.1.alloc_ o).free_ 0
  have f1:∀o,(w3.alloc o).frozen? ⟨w.heap.size+1+1,1,none⟩=false:=λo=>(E.1.alloc_ o).free_ 1
  have HF:=Kh (λ(o:Obj) (u v:Value)=>((cF.1.alloc cF.1.size o).setCell (p:=⟨w.heap.size+1+1,0,none⟩) (by simp;omega) u).setCell (p:=⟨w.heap.size+1+1,1,none⟩) (by simp;omega) v);go_wp2_with fail
  refine(HI.1 _ _).mono ?_;rintro e w4 ⟨rfl,rfl⟩;cases h1:Hp l1 with
  | false=>
   obtain rfl:av=((0,0),7):=by rw[M.1,if_neg (by simp[h1])]
   clear M h1 HI;go_wp2;refine bodyPost_ret (by simp[results,results67,go_sem,z0,z1];try rfl) rfl ?_;exact⟨rfl,HF.1 _ _ _⟩
  | true=>
   go_wp2_with fail
   refine(HI.1 _ _).mono ?_;rintro e w5 ⟨rfl,rfl⟩;cases h2:Hp l2 with
   | false=>
    obtain rfl:av=((0,0),7):=by rw[M.1,if_neg (by simp[h2])]
    clear M h1 h2 HI;go_wp2;refine bodyPost_ret (by simp[results,results67,go_sem,z0,z1];try rfl) rfl ?_;exact⟨rfl,HF.1 _ _ _⟩
   | true=>
    obtain rfl:av=((l1,l2),0):=by rw[M.1,if_pos ⟨h1,h2⟩]
    clear M h1 h2 HI;go_wp2;refine bodyPost_ret (by simp[results,results67,go_sem,z0,z1];try rfl) rfl ?_;exact⟨rfl,HF.1 _ _ _⟩
 ·obtain rfl:av=((0,0),Al p q):=by rw[<-HV.1,Cg,if_pos hz]
  clear HV HM HN;go_wp2;refine bodyPost_ret (by simp[results,results67,go_sem,z0,z1];try rfl) rfl ?_;exact⟨rfl,(Z.1.setCell (p:=⟨w.heap.size+1+1,0,none⟩) (by simp;omega) _).setCell (p:=⟨w.heap.size+1+1,1,none⟩) (by simp;omega) _⟩
def TV (B:Nat) (w0 w:World):List Addr->Prop
 | []=>Below B w0 w/\B<=w.heap.size
 | a :: m=>w.cell? a=some (cellOf w a)/\w.frozen? a=false/\TV B w0 w m
def TT (B:Nat) (w0 w:World) (l:List (Addr×Value)) (m:List Addr):Prop:=
 match l with
 | []=>TV B w0 w m
 |(a,v) :: l=>w.cell? a=some v/\TT B w0 w l m
theorem TV.next {B:Nat} {w0 w w':World} {m:List Addr} (E:Below w.heap.size w w') (h:TV B w0 w m):TV B w0 w' m:=by
 induction m with
 | nil=>exact⟨h.1.trans (E.mono h.2),nM h.2 E.size⟩
 | cons a m ih=>
  obtain⟨I,J,M⟩:=h;have O:=World.block_lt_of_cell? w a I;refine⟨Ah (by rw[E.cell O];exact Ca I),Ab E (Ca I) J,ih M⟩
theorem TT.next {B:Nat} {w0 w w':World} {l:List (Addr×Value)} {m:List Addr} (E:Below w.heap.size w w') (h:TT B w0 w l m):TT B w0 w' l m:=by
 induction l with
 | nil=>exact TV.next E h
 | cons x l ih=>exact⟨(E.cell (World.block_lt_of_cell? w x.1 h.1)).trans h.1,ih h.2⟩
theorem TV.below {B:Nat} {w0 w:World} {m:List Addr} (h:TV B w0 w m):Below B w0 w:=by
 induction m with
 | nil=>exact h.1
 | cons a m ih=>exact ih h.2.2
theorem TT.below {B:Nat} {w0 w:World} {l:List (Addr×Value)} {m:List Addr} (h:TT B w0 w l m):Below B w0 w:=by
 induction l with
 | nil=>exact TV.below h
 | cons x l ih=>exact ih h.2
theorem TV.put {B:Nat} {w0 w:World} {m:List Addr} (h:TV B w0 w m) (p:Addr) (v:Value) (E:B<=p.block):TV B w0 (w.setCell p v) m:=by
 induction m with
 | nil=>exact⟨h.1.setCell E v,by simpa using h.2⟩
 | cons a m ih=>exact⟨Ah (Bb (Ca h.1)),Aw h.2.1,ih h.2.2⟩
theorem TT.put {B:Nat} {w0 w:World} {l:List (Addr×Value)} {m:List Addr} (h:TT B w0 w l m) (p:Addr) (v:Value) (I:B<=p.block) (E:∀x∈l,p.block≠x.1.block):TT B w0 (w.setCell p v) l m:=by
 induction l with
 | nil=>exact TV.put h p v I
 | cons x l ih=>
  refine⟨?_,ih h.2 (λy J=>E y (List.mem_cons_of_mem _ J))⟩;rw[World.cell?_setCell_far w p x.1 v (E x (List.mem_cons_self ..))];exact h.1
abbrev Vx (B:Nat) (w0 w:World) (a0 a1 a2 a3 a4 a5 a6 a7 a8 b0 b1 b2 b3 b4:Addr) (v0 v1 v2 v3 v4 v5 v6 v7 v8:Value):Prop:=w.cell? a0=some v0/\w.cell? a1=some v1/\w.cell? a2=some v2/\w.cell? a3=some v3/\w.cell? a4=some v4/\w.cell? a5=some v5/\w.cell? a6=some v6/\w.cell? a7=some v7/\w.cell? a8=some v8/\w.cell? b0=some (cellOf w b0)/\w.frozen? b0=false/\w.cell? b1=some (cellOf w b1)/\w.frozen? b1=false/\w.cell? b2=some (cellOf w b2)/\w.frozen? b2=false/\w.cell? b3=some (cellOf w b3)/\w.frozen? b3=false/\w.cell? b4=some (cellOf w b4)/\w.frozen? b4=false/\Below B w0 w/\B<=w.heap.size
theorem Lo {B:Nat} {w0 w w':World} {a0 E I J M O U V Z b0 b1 b2 b3 b4:Addr} {v0 v1 v2 v3 v4 v5 v6 v7 v8:Value} (hb:Below w.heap.size w w') (h:Vx B w0 w a0 E I J M O U V Z b0 b1 b2 b3 b4 v0 v1 v2 v3 v4 v5 v6 v7 v8):Vx B w0 w' a0 E I J M O U V Z b0 b1 b2 b3 b4 v0 v1 v2 v3 v4 v5 v6 v7 v8:=TT.next (B:=B) (w0:=w0) (l:=[(a0,v0),(E,v1),(I,v2),(J,v3),(M,v4),(O,v5),(U,v6),(V,v7),(Z,v8)]) (m:=[b0,b1,b2,b3,b4]) hb h
theorem Js {B:Nat} {w0 w:World} {a0 E I J M O U V Z b0 b1 b2 b3 b4:Addr} {v0 v1 v2 v3 v4 v5 v6 v7 v8:Value} (h:Vx B w0 w a0 E I J M O U V Z b0 b1 b2 b3 b4 v0 v1 v2 v3 v4 v5 v6 v7 v8):Below B w0 w:=TT.below (B:=B) (w0:=w0) (l:=[(a0,v0),(E,v1),(I,v2),(J,v3),(M,v4),(O,v5),(U,v6),(V,v7),(Z,v8)]) (m:=[b0,b1,b2,b3,b4]) h
theorem V9 {B:Nat} {w0 w:World} {a0 E I J M O U V Z b0 b1 b2 b3 b4:Addr} {v0 v1 v2 v3 v4 v5 v6 v7 v8:Value} (h:Vx B w0 w a0 E I J M O U V Z b0 b1 b2 b3 b4 v0 v1 v2 v3 v4 v5 v6 v7 v8) {p0 p1 p2 p3 p4:Addr} {u0 u1 u2 u3 u4:Value} (iL:B<=p0.block) (cG:p0.block≠a0.block) (cI:p0.block≠E.block) (cM:p0.block≠I.block) (cS:p0.block≠J.block) (cT:p0.block≠M.block) (cX:p0.block≠O.block) (dC:p0.block≠U.block) (dE:p0.block≠V.block) (dY:p0.block≠Z.block) (mA:B<=p1.block) (eF:p1.block≠a0.block) (eG:p1.block≠E.block) (eP:p1.block≠I.block) (eT:p1.block≠J.block) (eX:p1.block≠M.block) (eY:p1.block≠O.block) (gA:p1.block≠U.block) (gF:p1.block≠V.block) (gI:p1.block≠Z.block) (mB:B<=p2.block) (gL:p2.block≠a0.block) (gN:p2.block≠E.block) (gP:p2.block≠I.block) (gS:p2.block≠J.block) (gU:p2.block≠M.block) (hB:p2.block≠O.block) (hD:p2.block≠U.block) (hE:p2.block≠V.block) (hG:p2.block≠Z.block) (mC:B<=p3.block) (hH:p3.block≠a0.block) (hI:p3.block≠E.block) (hJ:p3.block≠I.block) (hL:p3.block≠J.block) (hM:p3.block≠M.block) (hN:p3.block≠O.block) (hO:p3.block≠U.block) (hP:p3.block≠V.block) (hQ:p3.block≠Z.block) (mD:B<=p4.block) (hR:p4.block≠a0.block) (hS:p4.block≠E.block) (hT:p4.block≠I.block) (hU:p4.block≠J.block) (hV:p4.block≠M.block) (hW:p4.block≠O.block) (hX:p4.block≠U.block) (hY:p4.block≠V.block) (hZ:p4.block≠Z.block):Vx B w0 (((((w.setCell p0 u0).setCell p1 u1).setCell p2 u2).setCell p3 u3).setCell p4 u4) a0 E I J M O U V Z b0 b1 b2 b3 b4 v0 v1 v2 v3 v4 v5 v6 v7 v8:=(TT.put (B:=B) (w0:=w0) (l:=[(a0,v0),(E,v1),(I,v2),(J,v3),(M,v4),(O,v5),(U,v6),(V,v7),(Z,v8)]) (m:=[b0,b1,b2,b3,b4]) (TT.put (B:=B) (w0:=w0) (l:=[(a0,v0),(E,v1),(I,v2),(J,v3),(M,v4),(O,v5),(U,v6),(V,v7),(Z,v8)]) (m:=[b0,b1,b2,b3,b4]) (TT.put (B:=B) (w0:=w0) (l:=[(a0,v0),(E,v1),(I,v2),(J,v3),(M,v4),(O,v5),(U,v6),(V,v7),(Z,v8)]) (m:=[b0,b1,b2,b3,b4]) (TT.put (B:=B) (w0:=w0) (l:=[(a0,v0),(E,v1),(I,v2),(J,v3),(M,v4),(O,v5),(U,v6),(V,v7),(Z,v8)]) (m:=[b0,b1,b2,b3,b4]) (TT.put (B:=B) (w0:=w0) (l:=[(a0,v0),(E,v1),(I,v2),(J,v3),(M,v4),(O,v5),(U,v6),(V,v7),(Z,v8)]) (m:=[b0,b1,b2,b3,b4]) h p0 u0 iL (by simp[*])) p1 u1 mA (by simp[*])) p2 u2 mB (by simp[*])) p3 u3 mC (by simp[*])) p4 u4 mD (by simp[*]))
def NotU32 (v:Value):Prop:=∀n,v≠.int .u32 n
theorem Et (n:Int):¬NotU32 (.int .u32 n):=λh=>h _ rfl
theorem Be {K:Value->Prop} {w:World} {R:Nat} (h:Stk K w R) (p:Addr) (u:Value) (I:K u):Stk K (w.setCell p u) R:=by
 refine⟨by simpa using h.1,λi v E=>?_⟩;by_cases hp:p=⟨R,i,none⟩
 ·cases hc:w.cell? p with
  | none=>
   have:(w.setCell p u).cell? p=none:=Ex u hc;rw[<-hp,this]at E;cases E
  | some y=>
   rw[<-hp,World.cell?_setCell_same' _ _ _ (by rw[hc];rfl)]at E;injection E with E
   rw[<-E];exact I
 ·rw[World.cell?_setCell_other _ _ _ _ hp]at E
  exact h.2 i v E
theorem I32.putK {w:World} {R:Nat} (J:Stk NotU32 w R) (i:Nat) (u:Value):I32 w (w.setCell ⟨R,i,none⟩ u):=
 ⟨by simp,λg j n e=>by
  have E:R≠g:=λI=>J.2 j _ (by rw[I];exact e) _ rfl
  rw[World.cell?_setCell_far w ⟨R,i,none⟩ ⟨g,j,none⟩ u E];exact e⟩
theorem I32.path {w:World} {R:Nat} (I:Stk NotU32 w R) (p:Option Addr) (n c:Nat) (i j k l:Int):
  I32 w (((((w.setCell ⟨R,0,none⟩ (.slice p n c)).setCell ⟨R,1,none⟩ (.int .i64 i)).setCell ⟨R,2,none⟩ (.int .i64 j)).setCell ⟨R,3,none⟩ (.int .i64 k)).setCell ⟨R,4,none⟩ (.int .i64 l)):=by
 have U:NotU32 (.slice p n c):=λ_ h=>by cases h
 have E:∀x:Int,NotU32 (.int .i64 x):=λx _ h=>by cases h
 have J:=Be I ⟨R,0,none⟩ (.slice p n c) U;have M:=Be J ⟨R,1,none⟩ (.int .i64 i) (E i);have O:=Be M ⟨R,2,none⟩ (.int .i64 j) (E j);have V:=Be O ⟨R,3,none⟩ (.int .i64 k) (E k);exact((((I32.putK I 0 _).trans (I32.putK J 1 _)).trans (I32.putK M 2 _)).trans (I32.putK O 3 _)).trans (I32.putK V 4 _)
theorem QRow.i32 {F:Nat->FP} (hF:∀j,Bi (F j)) {w w':World} {g N k R:Nat} (h:QRow F w g N k) (O:I32 w w') (hg:w.grownBy w' (some R)) (I:g≠R):QRow F w' g N k:=by
 have J:∀j v,w.cell? ⟨g,j,none⟩=some v->w'.cell? ⟨g,j,none⟩=some v:=λj v e=>hg.cell e (λM=>by injection M with M;exact I M)
 have E:w'.heap[g]?=w.heap[g]?:=hg.block g h.sts.1 (λe=>by injection e with e;exact I e);refine⟨⟨nN h.sts.1 hg.size,λi v hv=>h.sts.2 i v ((World.cell?_of_block (a:=⟨g,i,none⟩) E).symm.trans hv)⟩,λi U=>(World.frozen?_of_block (a:=⟨g,i,none⟩) E).trans (h.free i U),λi U=>?_,λj hj=>?_⟩
 ·rw[World.cell?_of_block (a:=⟨g,i,none⟩) E];exact h.has i U
 ·obtain⟨s,p,n,c,t,q,m,d,V,Z,h2,h3,h4⟩:=h.val j hj
  exact⟨s,p,n,c,t,q,m,d,J _ _ V,J _ _ Z,J _ _ h2,J _ _ h3,hF j _ _ _ _ _ _ _ _ _ _ O h4⟩
theorem Jw (w:World) (g:Nat) (v0 v1 v2 v3 E:Value):w.grownBy (((((w.setCell ⟨g,0,none⟩ v0).setCell ⟨g,1,none⟩ v1).setCell ⟨g,2,none⟩ v2).setCell ⟨g,3,none⟩ v3).setCell ⟨g,4,none⟩ E) (some g):=
 ((((Ar w g 0 v0).trans (Ar _ g 1 v1)).trans (Ar _ g 2 v2)).trans (Ar _ g 3 v3)).trans (Ar _ g 4 E)
def eZ (a b c d p q p' q':Int):Int:=if(Cg a b c d p q).2≠0 then(Cg a b c d p q).2 else(Cg a b c d p' q').2
def RetP (w:World) (w':World) (e:Ending) (n:Nat) (f:Nat->Rat) (x y:Int×Int) (er:Int):Prop:=
 (er≠0/\e=.returned (.tuple #[.agg #[.slice none 0 0,.int .i64 0,.int .i64 0,.int .i64 0,.int .i64 0],.int .i64 er])) ∨
 (er=0/\∃g cap,e=.returned (.tuple #[.agg #[.slice (some ⟨g,0,none⟩) n cap,.int .i64 x.1,.int .i64 x.2,.int .i64 y.1,.int .i64 y.2],.int .i64 0])/\w.heap.size<=g/\QRow (λj=>IsQ (f j)) w' g n n)
theorem Gt (K:Nat) (gI:1<=K) (gL:K<=1000000) (v:Value) (n:Nat) (x y:Nat->Int) (p q p' q' a b c d:Int) (w:World) (h:QL (λj=>IsB K (x j) (y j)) w v n) (h0:0<n) (hn:n<=23) (ha:-1073741824<=a) (cC:a<=1073741824) (hb:-1073741824<=b) (cT:b<=1073741824) (hc:-1073741824<=c) (dC:c<=1073741824) (hd:-1073741824<=d) (cD:d<=1073741824) (cA:a*d - b*c≠0)
  (hp:-9223372036854775808<=p) (gS:p<=9223372036854775807) (hq:-9223372036854775808<=q) (gU:q<=9223372036854775807) (hr:-9223372036854775808<=p') (hB:p'<=9223372036854775807) (hs:-9223372036854775808<=q') (hE:q'<=9223372036854775807):
  Calls prog 25 #[.agg #[v,.int .i64 p,.int .i64 q,.int .i64 p',.int .i64 q'],.agg #[.int .i64 a,.int .i64 b,.int .i64 c,.int .i64 d]] w λe w'=>RetP w w' e n (subst (λi=>Rat.divInt (x i) (y i)) (n - 1) d (-b) (-c) a n) (Cg a b c d p q).1 (Cg a b c d p' q').1 (eZ a b c d p q p' q')/\Below w.heap.size w w':=by
 have hv:=h;obtain⟨g1,o1,l1,rfl,oH,_⟩:=h.resolve_left (λh=>by omega);have bB:=Kh (λI=>R8 a b c d p q I ha cC hb cT hc dC hd cD cA hp gS hq gU);have bC:=Kh (λI=>R8 a b c d p' q' I ha cC hb cT hc dC hd cD cA hr hB hs hE);have eY:=Kh (λI (mE:Below w.heap.size w I)=>Ou K gI gL (.slice (some ⟨g1,o1,none⟩) n l1) n x y d (-b) (-c) a I (hv.keep (λj=>IsB.solid _ _ _) mE) h0 (by omega) hd cD (by omega) (by omega) (by omega) (by omega) ha cC);have oF:IntKind.i64.wrap (-b)=-b:=IntWalk.i64_in _ (by omega);have oG:IntKind.i64.wrap (-c)=-c:=IntWalk.i64_in _ (by omega);obtain⟨er,dE⟩:∃er,eZ a b c d p q p' q'=er:=⟨_,rfl⟩
 have aX:=Kh (show er=if(Cg a b c d p q).2≠0 then(Cg a b c d p q).2 else(Cg a b c d p' q').2 by rw[<-dE];rfl);rw[dE];obtain⟨hY,cI⟩:∃av,Cg a b c d p q=av:=⟨_,rfl⟩
 obtain⟨hZ,cM⟩:∃av,Cg a b c d p' q'=av:=⟨_,rfl⟩
 simp only[cI,cM]at bB bC aX ⊢;obtain⟨⟨x1,y1⟩,e1⟩:=hY;obtain⟨⟨x2,y2⟩,e2⟩:=hZ;obtain⟨fn,dY⟩:∃fn,subst (λi=>Rat.divInt (x i) (y i)) (n - 1) d (-b) (-c) a n=fn:=⟨_,rfl⟩
 rw[dY];simp only[dY]at eY;dsimp only at aX ⊢;have oI:¬(n:Int)<1:=by omega
 have oJ:¬(n:Int) > 23:=by omega
 clear h hv ha cC hb cT hc dC hd cD cA hp gS hq gU hr hB hs hE gI gL cI cM dE dY;go_enter func25,ntmps25
 go_wp2_with fail
 obtain⟨w0,hH,X0,X1,Z,cX⟩:=T9 w #[.slice (some ⟨g1,o1,none⟩) n l1,.int .i64 p,.int .i64 q,.int .i64 p',.int .i64 q'] 57 #[.int .i64 a,.int .i64 b,.int .i64 c,.int .i64 d] 63 #[.slice none 0 0,.int .i64 0,.int .i64 0,.int .i64 0,.int .i64 0] 57;rw[hH];have nB:w.heap.size<=w0.heap.size:=cX.size;clear hH;have O:=Kh X0;have M:=Kh X1;have E:=Kh Z;have eT:=Kh cX;clear X0 X1 Z cX nB;refine(bB.1 w0).mono ?_;rintro e J ⟨rfl,bY⟩;replace O:=Kh (bk O bY);replace M:=Kh (bk M bY);replace E:=Kh (bk E bY);have aK:=bt eT bY;have eX:=Kh (show w.heap.size+1+1<J.heap.size from E.1.lt);clear bY eT bB;have z0:∀o,(J.alloc o).cell? ⟨w.heap.size+1+1,0,none⟩=some (.slice none 0 0):=λo=>(E.1.alloc_ o).at_ 0 rfl
 have f0:∀o,(J.alloc o).frozen? ⟨w.heap.size+1+1,0,none⟩=false:=λo=>(E.1.alloc_ o).free_ 0
 have z1:∀o,(J.alloc o).cell? ⟨w.heap.size+1+1,1,none⟩=some (.int .i64 0):=λo=>(E.1.alloc_ o).at_ 1 rfl
 have f1:∀o,(J.alloc o).frozen? ⟨w.heap.size+1+1,1,none⟩=false:=λo=>(E.1.alloc_ o).free_ 1
 have z2:∀o,(J.alloc o).cell? ⟨w.heap.size+1+1,2,none⟩=some (.int .i64 0):=λo=>(E.1.alloc_ o).at_ 2 rfl
 have f2:∀o,(J.alloc o).frozen? ⟨w.heap.size+1+1,2,none⟩=false:=λo=>(E.1.alloc_ o).free_ 2
 have z3:∀o,(J.alloc o).cell? ⟨w.heap.size+1+1,3,none⟩=some (.int .i64 0):=λo=>(E.1.alloc_ o).at_ 3 rfl
 have f3:∀o,(J.alloc o).frozen? ⟨w.heap.size+1+1,3,none⟩=false:=λo=>(E.1.alloc_ o).free_ 3
 have z4:∀o,(J.alloc o).cell? ⟨w.heap.size+1+1,4,none⟩=some (.int .i64 0):=λo=>(E.1.alloc_ o).at_ 4 rfl
 have f4:∀o,(J.alloc o).frozen? ⟨w.heap.size+1+1,4,none⟩=false:=λo=>(E.1.alloc_ o).free_ 4
 by_cases h1:e1=0
 ·subst h1
  have HE:=Kh (show er=e2 by rw[aX.1,if_neg (by simp)]);have u0:∀o,(J.alloc o).cell? ⟨w.heap.size,3,none⟩=some (.int .i64 p'):=λo=>(O.1.alloc_ o).at_ 3 rfl
  have u1:∀o,(J.alloc o).cell? ⟨w.heap.size,4,none⟩=some (.int .i64 q'):=λo=>(O.1.alloc_ o).at_ 4 rfl
  have m0:∀o,(J.alloc o).cell? ⟨w.heap.size+1,0,none⟩=some (.int .i64 a):=λo=>(M.1.alloc_ o).at_ 0 rfl
  have m1:∀o,(J.alloc o).cell? ⟨w.heap.size+1,1,none⟩=some (.int .i64 b):=λo=>(M.1.alloc_ o).at_ 1 rfl
  have m2:∀o,(J.alloc o).cell? ⟨w.heap.size+1,2,none⟩=some (.int .i64 c):=λo=>(M.1.alloc_ o).at_ 2 rfl
  have m3:∀o,(J.alloc o).cell? ⟨w.heap.size+1,3,none⟩=some (.int .i64 d):=λo=>(M.1.alloc_ o).at_ 3 rfl
  clear z0 z1 z2 z3 z4 f0 f1 f2 f3 f4 aX;go_wp2_with fail
  refine(bC.1 _).mono ?_;rintro e w5 ⟨rfl,bA⟩;have U:∀o,Below J.heap.size J (J.alloc o):=λo=>(Below.refl _ _).alloc (nL _) o
  have bE:=Kh ((aK.1.trans ((U _).mono aK.1.size)).trans (bA.mono (by have:=aK.1.size;simp;omega)));have cS:=Kh ((Blk.new J 47 #[.int .i64 x1,.int .i64 y1]).below_ bA (by simp));replace O:=Kh ((O.1.alloc_ _).below_ bA (O.1.alloc_ _).lt);replace M:=Kh ((M.1.alloc_ _).below_ bA (M.1.alloc_ _).lt);replace E:=Kh ((E.1.alloc_ _).below_ bA (E.1.alloc_ _).lt);have oK:w.heap.size<=J.heap.size:=aK.1.size;clear bA U aK bC u0 u1 m0 m1 m2 m3;by_cases h2:e2=0
  ·subst h2
   go_upto_region 9 with(fail)
   obtain⟨w6,cF⟩:∃w6,w5.alloc (.cells #[.int .i64 x2,.int .i64 y2] 47)=w6:=⟨_,rfl⟩
   rw[cF];have U:Below w5.heap.size w5 w6:=cF▸(Below.refl _ _).alloc (nL _) _;have X8:Blk w6 w5.heap.size 47 #[.int .i64 x2,.int .i64 y2]:=cF▸Blk.new w5 _ _;have X6:=bk cS U;have X0:=bk O U;have X1:=bk M U;have Z:=bk E U;have gN:=bE.1.trans (U.mono bE.1.size);have oL:=cS.1.lt;have oC:=eX.1;have mB:w.heap.size+1+1<w6.heap.size:=Z.lt;have V:=Kh Z;have hU:=Kh (Stk.of (K:=NotU32) Z (by intro v hv;simp at hv;rcases hv with rfl|rfl <;> exact λ_ h=>by cases h));clear O M E cS bE U cF;have mC:=Lo (Below.refl _ w6).drew ⟨X0.c0,X1.c0,X1.c1,X1.c2,X1.c3,X6.c0,X6.c1,X8.c0,X8.c1,Z.so 0,Z.free_ 0,Z.so 1,Z.free_ 1,Z.so 2,Z.free_ 2,Z.so 3,Z.free_ 3,Z.so 4,Z.free_ 4,gN,Below.size (show Below w.heap.size w w6 from gN)⟩;clear X0 X1 Z X6 X8;have M1:True:=trivial
   go_region_held3 (λI=>I.cell? ⟨w.heap.size,0,none⟩=some (.slice (some ⟨g1,o1,none⟩) n l1)/\I.cell? ⟨w.heap.size+1,0,none⟩=some (.int .i64 a)/\I.cell? ⟨w.heap.size+1,1,none⟩=some (.int .i64 b)/\I.cell? ⟨w.heap.size+1,2,none⟩=some (.int .i64 c)/\I.cell? ⟨w.heap.size+1,3,none⟩=some (.int .i64 d)/\I.cell? ⟨J.heap.size,0,none⟩=some (.int .i64 x1)/\I.cell? ⟨J.heap.size,1,none⟩=some (.int .i64 y1)/\I.cell? ⟨w5.heap.size,0,none⟩=some (.int .i64 x2)/\I.cell? ⟨w5.heap.size,1,none⟩=some (.int .i64 y2)/\I.cell? ⟨w.heap.size+1+1,0,none⟩=some (cellOf I ⟨w.heap.size+1+1,0,none⟩)/\I.frozen? ⟨w.heap.size+1+1,0,none⟩=false/\I.cell? ⟨w.heap.size+1+1,1,none⟩=some (cellOf I ⟨w.heap.size+1+1,1,none⟩)/\I.frozen? ⟨w.heap.size+1+1,1,none⟩=false/\I.cell? ⟨w.heap.size+1+1,2,none⟩=some (cellOf I ⟨w.heap.size+1+1,2,none⟩)/\I.frozen? ⟨w.heap.size+1+1,2,none⟩=false/\I.cell? ⟨w.heap.size+1+1,3,none⟩=some (cellOf I ⟨w.heap.size+1+1,3,none⟩)/\I.frozen? ⟨w.heap.size+1+1,3,none⟩=false/\I.cell? ⟨w.heap.size+1+1,4,none⟩=some (cellOf I ⟨w.heap.size+1+1,4,none⟩)/\I.frozen? ⟨w.heap.size+1+1,4,none⟩=false/\Below w.heap.size w I/\w.heap.size<=I.heap.size)
    (first|with_reducible exact mC|with_reducible assumption |(refine Lo (by with_reducible assumption) ?_;assumption) |(refine V9 ?_ ?_ ?_ ?_ ?_ ?_ ?_ ?_ ?_ ?_ ?_ ?_ ?_ ?_ ?_ ?_ ?_ ?_ ?_ ?_ ?_ ?_ ?_ ?_ ?_ ?_ ?_ ?_ ?_ ?_ ?_ ?_ ?_ ?_ ?_ ?_ ?_ ?_ ?_ ?_ ?_ ?_ ?_ ?_ ?_ ?_ ?_ ?_ ?_ ?_ ?_ <;> first|assumption |(dsimp only;omega) |(simp;done)))
    (first
     |(go_at_call 68;refine(eY.1 _ (Js (by with_reducible assumption))).mono ?_;rintro e w7 ⟨⟨g7,rfl,eF,hD⟩,gP⟩;have aN:Below w6.heap.size w6 w7:=(by first|exact(Below.refl _ w6).drew.trans gP|exact gP);have hS:=Kh (show w.heap.size<=g7 from nM (by simp only[World.drew];omega) eF);have hT:=Kh (QRow.i32 (λ_=>IsQ.solid _) hD (I32.path (hU.1.next aN) (some ⟨g7,0,none⟩) n n x1 y1 x2 y2) (Jw _ _ _ _ _ _ _) (Nat.ne_of_gt (nN mB (nM (by simp only[World.drew];omega) eF))));have r0:w7.cell? ⟨w.heap.size+1+1,0,none⟩=some (.slice none 0 0):=(bk V aN).at_ 0 rfl;have r1:w7.cell? ⟨w.heap.size+1+1,1,none⟩=some (.int .i64 0):=(bk V aN).at_ 1 rfl;have r2:w7.cell? ⟨w.heap.size+1+1,2,none⟩=some (.int .i64 0):=(bk V aN).at_ 2 rfl;have r3:w7.cell? ⟨w.heap.size+1+1,3,none⟩=some (.int .i64 0):=(bk V aN).at_ 3 rfl;have r4:w7.cell? ⟨w.heap.size+1+1,4,none⟩=some (.int .i64 0):=(bk V aN).at_ 4 rfl;clear eF hD aN))
   all_goals go_wp2
   all_goals refine bodyPost_ret (by simp[results,results25,go_sem,r0,r1,r2,r3,r4];try rfl) rfl ?_
   all_goals exact⟨.inr ⟨HE.1,g7,n,rfl,hS.1,hT.1⟩,Js (by assumption)⟩
  ·have oD:=Kh h2
   have z0:∀o,(w5.alloc o).cell? ⟨w.heap.size+1+1,0,none⟩=some (.slice none 0 0):=λo=>(E.1.alloc_ o).at_ 0 rfl
   have f0:∀o,(w5.alloc o).frozen? ⟨w.heap.size+1+1,0,none⟩=false:=λo=>(E.1.alloc_ o).free_ 0
   have z1:∀o,(w5.alloc o).cell? ⟨w.heap.size+1+1,1,none⟩=some (.int .i64 0):=λo=>(E.1.alloc_ o).at_ 1 rfl
   have f1:∀o,(w5.alloc o).frozen? ⟨w.heap.size+1+1,1,none⟩=false:=λo=>(E.1.alloc_ o).free_ 1
   have z2:∀o,(w5.alloc o).cell? ⟨w.heap.size+1+1,2,none⟩=some (.int .i64 0):=λo=>(E.1.alloc_ o).at_ 2 rfl
   have f2:∀o,(w5.alloc o).frozen? ⟨w.heap.size+1+1,2,none⟩=false:=λo=>(E.1.alloc_ o).free_ 2
   have z3:∀o,(w5.alloc o).cell? ⟨w.heap.size+1+1,3,none⟩=some (.int .i64 0):=λo=>(E.1.alloc_ o).at_ 3 rfl
   have f3:∀o,(w5.alloc o).frozen? ⟨w.heap.size+1+1,3,none⟩=false:=λo=>(E.1.alloc_ o).free_ 3
   have z4:∀o,(w5.alloc o).cell? ⟨w.heap.size+1+1,4,none⟩=some (.int .i64 0):=λo=>(E.1.alloc_ o).at_ 4 rfl
   have f4:∀o,(w5.alloc o).frozen? ⟨w.heap.size+1+1,4,none⟩=false:=λo=>(E.1.alloc_ o).free_ 4
   go_wp2;refine bodyPost_ret (by simp[results,results25,go_sem,z0,z1,z2,z3,z4];try rfl) rfl ?_;exact⟨.inl ⟨by rw[HE.1];assumption,by rw[HE.1]⟩,(((((bE.1.alloc bE.1.size _).setCell (p:=⟨w.heap.size+1+1,0,none⟩) (by dsimp only;omega) _).setCell (p:=⟨w.heap.size+1+1,1,none⟩) (by dsimp only;omega) _).setCell (p:=⟨w.heap.size+1+1,2,none⟩) (by dsimp only;omega) _).setCell (p:=⟨w.heap.size+1+1,3,none⟩) (by dsimp only;omega) _).setCell (p:=⟨w.heap.size+1+1,4,none⟩) (by dsimp only;omega) _⟩
 ·have HE:=Kh (show er=e1 by rw[aX.1,if_pos h1])
  clear aX;go_wp2;refine bodyPost_ret (by simp[results,results25,go_sem,z0,z1,z2,z3,z4];try rfl) rfl ?_;exact⟨.inl ⟨by rw[HE.1];assumption,by rw[HE.1]⟩,(((((aK.1.alloc aK.1.size _).setCell (p:=⟨w.heap.size+1+1,0,none⟩) (by dsimp only;omega) _).setCell (p:=⟨w.heap.size+1+1,1,none⟩) (by dsimp only;omega) _).setCell (p:=⟨w.heap.size+1+1,2,none⟩) (by dsimp only;omega) _).setCell (p:=⟨w.heap.size+1+1,3,none⟩) (by dsimp only;omega) _).setCell (p:=⟨w.heap.size+1+1,4,none⟩) (by dsimp only;omega) _⟩
def tE (x:Pl.Cos) (p q p' q':Int):Int:=eZ (x.1.1:Nat) (x.1.2.1:Nat) 0 (x.1.2.2:Nat) p q p' q'
def Xr (p q p' q':Int):List Pl.Cos->Int
 | []=>0
 | x :: L=>if tE x p q p' q'≠0 then tE x p q p' q' else Xr p q p' q' L
theorem I8 {p q p' q':Int}:∀{L:List Pl.Cos},(∀x∈L,tE x p q p' q'=0)->Xr p q p' q' L=0
 | [],_=>rfl
 | x :: L,h=>by
  rw[Xr,if_neg (by rw[h x (List.mem_cons_self ..)];simp)];exact I8 λy E=>h y (List.mem_cons_of_mem _ E)
theorem Q8 {p q p' q':Int}:∀{L:List Pl.Cos} (i:Nat) (E:i<L.length),(∀j (J:j<i),tE (L[j]'(by omega)) p q p' q'=0)->tE L[i] p q p' q'≠0->Xr p q p' q' L=tE L[i] p q p' q'
 | [],i,E,_,_=>absurd E (Nat.not_lt_zero _)
 | x :: L,0,_,_,h=>by rw[Xr];exact if_pos h
 | x :: L,i+1,E,h0,h=>by
  have I:tE x p q p' q'=0:=h0 0 (Nat.succ_pos i);rw[Xr,if_neg (by rw[I];simp)];exact Q8 (L:=L) i (by simpa using E) (λj J=>h0 (j+1) (by omega)) h
def N2 (Q:Nat->Rat) (n:Nat) (x:Pl.Cos) (j:Nat):Rat:=(x.2:Rat)*subst Q (n - 1) (x.1.2.2:Nat) (-(x.1.2.1:Nat)) (-0) (x.1.1:Nat) n j
def D2 (p q:Int) (x:Pl.Cos):Int×Int:=(Cg (x.1.1:Nat) (x.1.2.1:Nat) 0 (x.1.2.2:Nat) p q).1
theorem QRow.grown {F:Nat->FP} (hF:∀j,Bi (F j)) {w w':World} {g N k:Nat} {row:Option Nat} (h:QRow F w g N k) (M:I32 w w') (hg:w.grownBy w' row) (I:some g≠row):QRow F w' g N k:=by
 have J:∀j v,w.cell? ⟨g,j,none⟩=some v->w'.cell? ⟨g,j,none⟩=some v:=λj v e=>hg.cell e I
 have E:w'.heap[g]?=w.heap[g]?:=hg.block g h.sts.1 I;refine⟨⟨nN h.sts.1 hg.size,λi v hv=>h.sts.2 i v ((World.cell?_of_block (a:=⟨g,i,none⟩) E).symm.trans hv)⟩,λi O=>(World.frozen?_of_block (a:=⟨g,i,none⟩) E).trans (h.free i O),λi O=>?_,λj hj=>?_⟩
 ·rw[World.cell?_of_block (a:=⟨g,i,none⟩) E];exact h.has i O
 ·obtain⟨s,p,n,c,t,q,m,d,U,V,Z,h3,h4⟩:=h.val j hj
  exact⟨s,p,n,c,t,q,m,d,J _ _ U,J _ _ V,J _ _ Z,J _ _ h3,hF j _ _ _ _ _ _ _ _ _ _ M h4⟩
def PX (w:World) (xs:List Value) (i n:Nat) (f:Nat->Rat) (x y:Int×Int):Prop:=
 ∃g cap,xs[i*5]?=some (.slice (some ⟨g,0,none⟩) n cap)/\xs[i*5+1]?=some (.int .i64 x.1)/\xs[i*5+2]?=some (.int .i64 x.2)/\xs[i*5+3]?=some (.int .i64 y.1)/\xs[i*5+4]?=some (.int .i64 y.2)/\QRow (λj=>IsQ (f j)) w g n n
def OwnP (F:Nat->Nat->Rat) (X Y:Nat->Int×Int) (w:World) (B:Nat) (v:Value) (k n:Nat):Prop:=
 (v.ownBlock=none∨0<k)/\∃xs,OwnK NotU32 w B 57 5 v k xs/\∀i,i<k->PX w xs i n (F i) (X i) (Y i)
theorem OwnP.nil (F:Nat->Nat->Rat) (X Y:Nat->Int×Int) (w:World) (B n:Nat):OwnP F X Y w B (.slice none 0 0) 0 n:=⟨.inl rfl,[],OwnK.nil _ _ _ _ _,λ_ E=>absurd E (Nat.not_lt_zero _)⟩
theorem PX.keep {w w':World} {E:List Value} {i n:Nat} {f:Nat->Rat} {x y:Int×Int} (h:PX w E i n f x y) (Z:Below w.heap.size w w'):PX w' E i n f x y:=by
 obtain⟨g,cap,I,J,M,O,U,V⟩:=h;exact⟨g,cap,I,J,M,O,U,V.keep (λ_=>IsQ.solid _) Z⟩
theorem OwnP.keep {F:Nat->Nat->Rat} {X Y:Nat->Int×Int} {w w':World} {B k n:Nat} {v:Value} (h:OwnP F X Y w B v k n) (E:Below w.heap.size w w'):OwnP F X Y w' B v k n:=by
 obtain⟨O,U,I,J⟩:=h;exact⟨O,U,I.keep E,λi M=>(J i M).keep E⟩
theorem OwnP.push {F:Nat->Nat->Rat} {X Y:Nat->Int×Int} {W w':World} {B k n:Nat} {v v':Value} {E:List Value} (Z:v.ownBlock=none∨0<k) (h:OwnK NotU32 W B 57 5 v k E) (h2:∀i,i<k->PX W E i n (F i) (X i) (Y i))
  {g cap:Nat} {x y:Int×Int} (hq:QRow (λj=>IsQ (F k j)) W g n n) (hx:X k=x) (hy:Y k=y) (h3:OwnK NotU32 w' B 57 5 v' (k+1) (E++[.slice (some ⟨g,0,none⟩) n cap,.int .i64 x.1,.int .i64 x.2,.int .i64 y.1,.int .i64 y.2])) (hg:W.grownBy w' v.ownBlock):OwnP F X Y w' B v' (k+1) n:=by
 have M:=I32.grown (K:=NotU32) (λx=>Et x) h.2 hg;have U:E.length=k*5:=h.1.1
 have V:∀I,Sts W I->some I≠v.ownBlock:=by
  intro I hs e;rcases Z with Z|Z
  ·rw[Z]at e;cases e
  ·obtain⟨_,_,_,e1,_⟩:=h2 0 Z
   rcases Cb h.1 with⟨rfl,_⟩ |⟨g0,aN,rfl,_⟩
   ·simp[Value.ownBlock]at e
   ·simp[Value.ownBlock]at e
    subst e;exact hs.2 1 _ (Ai h.1 (j:=1) (by simpa using e1)) _ _ rfl
 refine⟨.inr (Nat.succ_pos k),_,h3,λi hi=>?_⟩;by_cases hik:i<k
 ·obtain⟨I,J,e0,e1,e2,e3,e4,e5⟩:=h2 i hik
  have O:∀(j:Nat) (u:Value),E[j]?=some u->(E++[.slice (some ⟨g,0,none⟩) n cap,.int .i64 x.1,.int .i64 x.2,.int .i64 y.1,.int .i64 y.2])[j]?=some u:=by
   intro j u e;rw[List.getElem?_append_left]
   ·exact e
   ·rcases Nat.lt_or_ge j E.length with hlt|aK
    ·exact hlt
    ·rw[List.getElem?_eq_none aK]at e;cases e
  exact⟨I,J,O _ _ e0,O _ _ e1,O _ _ e2,O _ _ e3,O _ _ e4,e5.grown (λ_=>IsQ.solid _) M hg (V I e5.sts)⟩
 ·obtain rfl:i=k:=by omega
  refine⟨g,cap,?_,?_,?_,?_,?_,hq.grown (λ_=>IsQ.solid _) M hg (V g hq.sts)⟩
  ·rw[List.getElem?_append_right (by omega),U,show i*5 - i*5=0 by omega];rfl
  ·rw[List.getElem?_append_right (by omega),U,show i*5+1 - i*5=1 by omega,hx];rfl
  ·rw[List.getElem?_append_right (by omega),U,show i*5+2 - i*5=2 by omega,hx];rfl
  ·rw[List.getElem?_append_right (by omega),U,show i*5+3 - i*5=3 by omega,hy];rfl
  ·rw[List.getElem?_append_right (by omega),U,show i*5+4 - i*5=4 by omega,hy];rfl
theorem Yz:(prog.info? 57).map (λi=>(i.zero,i.size,i.bytes))=some (some (.agg #[.slice none 0 0,.int .i64 0,.int .i64 0,.int .i64 0,.int .i64 0]),5,56):=by kernel_rfl
theorem mS (p:Option Addr) (n c:Nat) (a b x y:Int):∀u∈[Value.slice p n c,.int .i64 a,.int .i64 b,.int .i64 x,.int .i64 y],u.oneCell'=true:=by
 intro u E;simp at E;rcases E with rfl|rfl|rfl|rfl|rfl <;> rfl
theorem nI (p:Option Addr) (n c:Nat) (a b x y:Int):∀u∈[Value.slice p n c,.int .i64 a,.int .i64 b,.int .i64 x,.int .i64 y],NotU32 u:=by
 intro u E;simp at E;rcases E with rfl|rfl|rfl|rfl|rfl <;> exact λ_ h=>by cases h
theorem nJ:∀u∈(Value.agg #[.slice none 0 0,.int .i64 0,.int .i64 0,.int .i64 0,.int .i64 0]).cells.toList,NotU32 u:=by
 intro u E;simp[Value.cells]at E;rcases E with rfl|rfl <;> exact λ_ h=>by cases h
def R4 (x:Pl.Cos):Prop:=(1<=x.1.1/\x.1.1<=128)/\x.1.2.1<=128/\(1<=x.1.2.2/\x.1.2.2<=128)/\(-1<=x.2/\x.2<=1)
theorem Rc (a:Int) (n:Nat):-1<=Pl.kroP a n/\Pl.kroP a n<=1:=by
 unfold Pl.kroP;dsimp only;split
 ·omega
 ·have h:=Ng (n / 2 ^ Lib.ctz 64 n+1) (a % (n / 2 ^ Lib.ctz 64 n:Nat)).toNat (n / 2 ^ Lib.ctz 64 n) 1 (.inl rfl)
  split <;> omega
theorem O1 {chi:Nat->Int} (I:∀a,-1<=chi a/\chi a<=1) {N n:Nat} (hn:n<=128):∀k,k<=n->∀x∈Pl.cosAt chi N n k,R4 x
 | 0,_,x,E=>by simp[Pl.cosAt]at E
 | k+1,hk,x,E=>by
  rw[Pl.cosAt,List.mem_append]at E;rcases E with E|E
  ·exact O1 I hn k (by omega) x E
  ·split at E
   ·rename_i h
    unfold Pl.cosRow at E;obtain⟨j,J,rfl⟩:=List.mem_map.1 E;rw[List.mem_range]at J;have M:=Nat.div_le_self n (k+1);exact⟨⟨by simp,by simp;omega⟩,by simp;omega,⟨by simp;omega,by simp;omega⟩,I _⟩
   ·cases E
theorem bX (N k D n:Int):∀x∈Pl.cosL (Pl.kroP D) N k D n,R4 x:=by
 unfold Pl.cosL;split
 ·rename_i h
  obtain⟨_,I,J⟩:=Pl.cosE_ok h;exact O1 (Rc D) (by omega) _ (nL _)
 ·intro x E;cases E
def fC (w':World) (e:Ending) (B:Nat) (er:Int) (L:List Pl.Cos) (F:Nat->Nat->Rat) (X Y:Nat->Int×Int) (n:Nat):Prop:=
 (er≠0/\e=.returned (.tuple #[.slice none 0 0,.int .i64 er]))∨(er=0/\∃v,e=.returned (.tuple #[v,.int .i64 0])/\OwnP F X Y w' B v L.length n)
def I0 (N k D n:Int) (len:Nat) (p q p' q':Int) (L:List Pl.Cos):Int:=
 if Pl.cosE N k D n≠0 then Pl.cosE N k D n else if(len:Int)≠k - 1 then 4 else Xr p q p' q' L
end Go.Proofs.YtenlbhlllgppmaaGreatDoor
