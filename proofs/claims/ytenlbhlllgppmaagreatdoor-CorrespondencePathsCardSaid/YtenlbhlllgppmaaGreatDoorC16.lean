/- Contracts of sl2 and halfplaneref18: In, Fits, Det, CheckCusp. -/
import Derived.Test.YtenlbhlllgppmaaGreatDoorC02
namespace Go.Proofs.YtenlbhlllgppmaaGreatDoor
open Go.RowKit Tryz
def Hp (n:Int):Bool:=decide (-1073741824<=n)&&decide (n<=1073741824)
theorem Xu {n:Int} (h:-1073741824<=n) (E:n<=1073741824):Hp n=true:=by simp[Hp,h,E]
theorem Dl {n:Int}:Hp n=true↔-1073741824<=n/\n<=1073741824:=by simp[Hp]
def Al (p q:Int):Int:=if Hp p=false∨q<0∨Hp q=false then 2 else if Int.gcd p q≠1∨(q=0/\p≠1)then 3 else 0
theorem mul_b {x y:Int} (U:-1073741824<=x) (M:x<=1073741824) (V:-1073741824<=y) (O:y<=1073741824):-1152921504606846976<=x*y/\x*y<=1152921504606846976:=by
 have E:x.natAbs<=1073741824:=by omega
 have I:y.natAbs<=1073741824:=by omega
 have J:=Nat.mul_le_mul E I;rw[<-Int.natAbs_mul]at J;omega
theorem fV (n:Int) (w:World):Calls prog 111 #[.int .i64 n] w λe w'=>e=.returned (.bool (Hp n))/\w'=w:=by
 go_enter func111,ntmps111
 go_wp2;all_goals (go_ret;exact⟨Cx (by rw[Bool.eq_iff_iff];simp[Hp];omega),rfl⟩)
theorem fU (a b c d:Int) (w:World) (ha:-1073741824<=a) (U:a<=1073741824) (hb:-1073741824<=b) (V:b<=1073741824) (hc:-1073741824<=c) (Z:c<=1073741824) (hd:-1073741824<=d) (aD:d<=1073741824):
  Calls prog 160 #[.agg #[.int .i64 a,.int .i64 b,.int .i64 c,.int .i64 d]] w λe w'=>e=.returned (.bool true)/\Below w.heap.size w w':=by
 have H:∀(n:Int) (w:World),-1073741824<=n->n<=1073741824->Calls prog 111 #[.int .i64 n] w λe w'=>e=.returned (.bool true)/\w'=w:=by
  intro n w M O;have h:=fV n w;rw[Xu M O]at h;exact h
 have I:=Kh H;clear H;go_enter func160,ntmps160
 go_wp2_with fail
 all_goals obtain⟨w0,E⟩:∃w0,w.alloc (.cells #[.int .i64 a,.int .i64 b,.int .i64 c,.int .i64 d] 63)=w0:=⟨_,rfl⟩
 rw[E];have X:=Blk.new w 63 #[.int .i64 a,.int .i64 b,.int .i64 c,.int .i64 d];rw[E]at X;have J:=Kh (show Below w.heap.size w w0 from E▸(Below.refl _ _).alloc (nL _) _);clear E;have x0:=X.at_ 0 rfl;have x1:=X.at_ 1 rfl;have x2:=X.at_ 2 rfl;have x3:=X.at_ 3 rfl;clear X;refine(I.1 a w0 (by omega) (by omega)).mono ?_;rintro e w1 ⟨rfl,rfl⟩;go_wp2_with fail
 refine(I.1 b w1 (by omega) (by omega)).mono ?_;rintro e w2 ⟨rfl,rfl⟩;go_wp2_with fail
 refine(I.1 c w2 (by omega) (by omega)).mono ?_;rintro e w3 ⟨rfl,rfl⟩;go_wp2_with fail
 refine(I.1 d w3 (by omega) (by omega)).mono ?_;rintro e w4 ⟨rfl,rfl⟩;go_wp2;go_ret;exact⟨rfl,J.1⟩
theorem jM (a b c d:Int) (w:World) (Z:-1073741824<=a) (I:a<=1073741824) (h:-1073741824<=b) (J:b<=1073741824) (hc:-1073741824<=c) (O:c<=1073741824) (hd:-1073741824<=d) (U:d<=1073741824):
  Calls prog 117 #[.agg #[.int .i64 a,.int .i64 b,.int .i64 c,.int .i64 d]] w λe w'=>e=.returned (.tuple #[.int .i64 (a*d - b*c),.int .i64 0])/\Below w.heap.size w w':=by
 have m1:=mul_b Z I hd U;have m2:=mul_b h J hc O;have HF:=Kh (λw1=>fU a b c d w1 Z I h J hc O hd U);clear Z I h J hc O hd U;go_enter func117,ntmps117
 go_wp2_with fail
 all_goals obtain⟨w0,E⟩:∃w0,w.alloc (.cells #[.int .i64 a,.int .i64 b,.int .i64 c,.int .i64 d] 63)=w0:=⟨_,rfl⟩
 rw[E];have X:=Blk.new w 63 #[.int .i64 a,.int .i64 b,.int .i64 c,.int .i64 d];rw[E]at X;have HB:=Kh (show Below w.heap.size w w0 from E▸(Below.refl _ _).alloc (nL _) _);clear E;refine(HF.1 w0).mono ?_;rintro e w1 ⟨rfl,M⟩;replace X:=X.below_ M X.lt;have V:=bt HB M;have x0:=X.at_ 0 rfl;have x1:=X.at_ 1 rfl;have x2:=X.at_ 2 rfl;have x3:=X.at_ 3 rfl;clear X M HF HB;go_wp2;go_ret2
 exact⟨rfl,V.1⟩
theorem Da (p q:Int) (w:World) (hp:-9223372036854775808<=p) (aK:p<=9223372036854775807) (hq:-9223372036854775808<=q) (aN:q<=9223372036854775807):
  Calls prog 64 #[.agg #[.int .i64 p,.int .i64 q]] w λe w'=>e=.returned (.int .i64 (Al p q))/\Below w.heap.size w w':=by
 have O:=Kh fV;have U:=Kh (λZ (h1:-1073741824<=p) (h2:p<=1073741824) (h3:-1073741824<=q) (h4:q<=1073741824)=>Ec p q Z (by omega) (by omega) (by omega) (by omega));obtain⟨z,E⟩:∃z,Al p q=z:=⟨_,rfl⟩
 rw[E];have M:=Kh E;clear E;go_enter func64,ntmps64
 go_wp2_with fail
 all_goals obtain⟨w0,J⟩:∃w0,w.alloc (.cells #[.int .i64 p,.int .i64 q] 47)=w0:=⟨_,rfl⟩
 rw[J];have X:=Blk.new w 47 #[.int .i64 p,.int .i64 q];rw[J]at X;have V:=Kh (show Below w.heap.size w w0 from J▸(Below.refl _ _).alloc (nL _) _);clear J;have x0:=X.at_ 0 rfl;have x1:=X.at_ 1 rfl;clear X;refine(O.1 p w0).mono ?_;rintro e Z ⟨rfl,rfl⟩;cases hip:Hp p with
 | false=>
  obtain rfl:z=2:=by rw[<-M.1,Al,if_pos (.inl hip)]
  clear M U O;go_wp2;go_ret;exact⟨rfl,V.1⟩
 | true=>
  by_cases hq0:q<0
  ·obtain rfl:z=2:=by rw[<-M.1,Al,if_pos (.inr (.inl hq0))]
   clear M U O;go_wp2;go_ret;exact⟨rfl,V.1⟩
  ·go_wp2_with fail
   refine(O.1 q Z).mono ?_;rintro e h ⟨rfl,rfl⟩;cases hiq:Hp q with
   | false=>
    obtain rfl:z=2:=by rw[<-M.1,Al,if_pos (.inr (.inr hiq))]
    clear M U O;go_wp2;go_ret;exact⟨rfl,V.1⟩
   | true=>
    go_wp2_with fail
    obtain⟨i1,i2⟩:=Dl.1 hip;obtain⟨i3,i4⟩:=Dl.1 hiq;have E:z=if Int.gcd p q≠1∨(q=0/\p≠1)then 3 else 0:=by rw[<-M.1,Al,if_neg (by rw[hip,hiq];simp;omega)]
    clear M O;refine(U.1 h i1 i2 i3 i4).mono ?_;rintro e w3 ⟨rfl,k,rfl⟩;have I:=Kh (Aa V.1 k);obtain⟨y0,y1⟩:(h.drewN k).cell? _=_/\(h.drewN k).cell? _=_:=And.intro x0 x1;clear U hip hiq;by_cases hg:Int.gcd p q=1
    ·rw[hg]
     by_cases hq1:q=0
     ·subst hq1
      by_cases hp1:p=1
      ·subst hp1
       obtain rfl:z=0:=by rw[E,if_neg (by simp[hg])]
       clear E;go_wp2;go_ret;exact⟨rfl,I.1⟩
      ·obtain rfl:z=3:=by rw[E,if_pos (.inr ⟨rfl,hp1⟩)]
       clear E hg;go_wp2;go_ret;exact⟨rfl,I.1⟩
     ·obtain rfl:z=0:=by rw[E,if_neg (by simp[hg,hq1])]
      clear E hg;go_wp2;go_ret;exact⟨rfl,I.1⟩
    ·obtain rfl:z=3:=by rw[E,if_pos (.inl hg)]
     have aD:((Int.gcd p q:Nat):Int)≠1:=by omega
     generalize ((Int.gcd p q:Nat):Int)=gg at *;clear E hg;go_wp2;go_ret;exact⟨rfl,I.1⟩
end Go.Proofs.YtenlbhlllgppmaaGreatDoor
