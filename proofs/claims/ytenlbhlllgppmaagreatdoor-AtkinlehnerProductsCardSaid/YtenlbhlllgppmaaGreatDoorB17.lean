/- Contracts of sl2 and halfplaneref18: In, Fits, Det, CheckCusp. -/
import Derived.Test.YtenlbhlllgppmaaGreatDoorB02
namespace Go.Proofs.YtenlbhlllgppmaaGreatDoor
open Go.RowKit Tryz
def Io (n:Int):Bool:=decide (-1073741824<=n)&&decide (n<=1073741824)
theorem Yn {n:Int} (h:-1073741824<=n) (I:n<=1073741824):Io n=true:=by simp[Io,h,I]
theorem Du {n:Int}:Io n=true↔-1073741824<=n/\n<=1073741824:=by simp[Io]
def At (p q:Int):Int:=if Io p=false∨q<0∨Io q=false then 2 else if Int.gcd p q≠1∨(q=0/\p≠1)then 3 else 0
theorem mul_b {x y:Int} (Y:-1073741824<=x) (U:x<=1073741824) (Z:-1073741824<=y) (V:y<=1073741824):-1152921504606846976<=x*y/\x*y<=1152921504606846976:=by
 have I:x.natAbs<=1073741824:=by omega
 have J:y.natAbs<=1073741824:=by omega
 have O:=Nat.mul_le_mul I J;rw[<-Int.natAbs_mul]at O;omega
theorem gG (n:Int) (w:World):Calls prog 111 #[.int .i64 n] w λe w'=>e=.returned (.bool (Io n))/\w'=w:=by
 go_enter func111,ntmps111
 go_wp2;all_goals (go_ret;exact⟨C7 (by rw[Bool.eq_iff_iff];simp[Io];omega),rfl⟩)
theorem gE (a b c d:Int) (w:World) (ha:-1073741824<=a) (Y:a<=1073741824) (hb:-1073741824<=b) (Z:b<=1073741824) (hc:-1073741824<=c) (aX:c<=1073741824) (hd:-1073741824<=d) (bA:d<=1073741824):
  Calls prog 160 #[.agg #[.int .i64 a,.int .i64 b,.int .i64 c,.int .i64 d]] w λe w'=>e=.returned (.bool true)/\Below w.heap.size w w':=by
 have H:∀(n:Int) (w:World),-1073741824<=n->n<=1073741824->Calls prog 111 #[.int .i64 n] w λe w'=>e=.returned (.bool true)/\w'=w:=by
  intro n w U V;have h:=gG n w;rw[Yn U V]at h;exact h
 have J:=Kh H;clear H;go_enter func160,ntmps160
 go_wp2_with fail
 all_goals obtain⟨w0,I⟩:∃w0,w.alloc (.cells #[.int .i64 a,.int .i64 b,.int .i64 c,.int .i64 d] 63)=w0:=⟨_,rfl⟩
 rw[I];have X:=Blk.new w 63 #[.int .i64 a,.int .i64 b,.int .i64 c,.int .i64 d];rw[I]at X;have O:=Kh (show Below w.heap.size w w0 from I▸(Below.refl _ _).alloc (nR _) _);clear I;have x0:=X.at_ 0 rfl;have x1:=X.at_ 1 rfl;have x2:=X.at_ 2 rfl;have x3:=X.at_ 3 rfl;clear X;refine(J.1 a w0 (by omega) (by omega)).mono ?_;rintro e w1 ⟨rfl,rfl⟩;go_wp2_with fail
 refine(J.1 b w1 (by omega) (by omega)).mono ?_;rintro e w2 ⟨rfl,rfl⟩;go_wp2_with fail
 refine(J.1 c w2 (by omega) (by omega)).mono ?_;rintro e w3 ⟨rfl,rfl⟩;go_wp2_with fail
 refine(J.1 d w3 (by omega) (by omega)).mono ?_;rintro e w4 ⟨rfl,rfl⟩;go_wp2;go_ret;exact⟨rfl,O.1⟩
theorem jW (a b c d:Int) (w:World) (h:-1073741824<=a) (J:a<=1073741824) (hb:-1073741824<=b) (O:b<=1073741824) (hc:-1073741824<=c) (V:c<=1073741824) (hd:-1073741824<=d) (Y:d<=1073741824):
  Calls prog 117 #[.agg #[.int .i64 a,.int .i64 b,.int .i64 c,.int .i64 d]] w λe w'=>e=.returned (.tuple #[.int .i64 (a*d - b*c),.int .i64 0])/\Below w.heap.size w w':=by
 have m1:=mul_b h J hd Y;have m2:=mul_b hb O hc V;have HF:=Kh (λw1=>gE a b c d w1 h J hb O hc V hd Y);clear h J hb O hc V hd Y;go_enter func117,ntmps117
 go_wp2_with fail
 all_goals obtain⟨w0,I⟩:∃w0,w.alloc (.cells #[.int .i64 a,.int .i64 b,.int .i64 c,.int .i64 d] 63)=w0:=⟨_,rfl⟩
 rw[I];have X:=Blk.new w 63 #[.int .i64 a,.int .i64 b,.int .i64 c,.int .i64 d];rw[I]at X;have HB:=Kh (show Below w.heap.size w w0 from I▸(Below.refl _ _).alloc (nR _) _);clear I;refine(HF.1 w0).mono ?_;rintro e w1 ⟨rfl,U⟩;replace X:=X.below_ U X.lt;have Z:=bt HB U;have x0:=X.at_ 0 rfl;have x1:=X.at_ 1 rfl;have x2:=X.at_ 2 rfl;have x3:=X.at_ 3 rfl;clear X U HF HB;go_wp2;go_ret2
 exact⟨rfl,Z.1⟩
theorem Dk (p q:Int) (w:World) (hp:-9223372036854775808<=p) (bB:p<=9223372036854775807) (hq:-9223372036854775808<=q) (bC:q<=9223372036854775807):
  Calls prog 64 #[.agg #[.int .i64 p,.int .i64 q]] w λe w'=>e=.returned (.int .i64 (At p q))/\Below w.heap.size w w':=by
 have V:=Kh gG;have Y:=Kh (λh (h1:-1073741824<=p) (h2:p<=1073741824) (h3:-1073741824<=q) (h4:q<=1073741824)=>Em p q h (by omega) (by omega) (by omega) (by omega));obtain⟨z,I⟩:∃z,At p q=z:=⟨_,rfl⟩
 rw[I];have U:=Kh I;clear I;go_enter func64,ntmps64
 go_wp2_with fail
 all_goals obtain⟨w0,O⟩:∃w0,w.alloc (.cells #[.int .i64 p,.int .i64 q] 47)=w0:=⟨_,rfl⟩
 rw[O];have X:=Blk.new w 47 #[.int .i64 p,.int .i64 q];rw[O]at X;have Z:=Kh (show Below w.heap.size w w0 from O▸(Below.refl _ _).alloc (nR _) _);clear O;have x0:=X.at_ 0 rfl;have x1:=X.at_ 1 rfl;clear X;refine(V.1 p w0).mono ?_;rintro e h ⟨rfl,rfl⟩;cases hip:Io p with
 | false=>
  obtain rfl:z=2:=by rw[<-U.1,At,if_pos (.inl hip)]
  clear U Y V;go_wp2;go_ret;exact⟨rfl,Z.1⟩
 | true=>
  by_cases hq0:q<0
  ·obtain rfl:z=2:=by rw[<-U.1,At,if_pos (.inr (.inl hq0))]
   clear U Y V;go_wp2;go_ret;exact⟨rfl,Z.1⟩
  ·go_wp2_with fail
   refine(V.1 q h).mono ?_;rintro e w2 ⟨rfl,rfl⟩;cases hiq:Io q with
   | false=>
    obtain rfl:z=2:=by rw[<-U.1,At,if_pos (.inr (.inr hiq))]
    clear U Y V;go_wp2;go_ret;exact⟨rfl,Z.1⟩
   | true=>
    go_wp2_with fail
    obtain⟨i1,i2⟩:=Du.1 hip;obtain⟨i3,i4⟩:=Du.1 hiq;have I:z=if Int.gcd p q≠1∨(q=0/\p≠1)then 3 else 0:=by rw[<-U.1,At,if_neg (by rw[hip,hiq];simp;omega)]
    clear U V;refine(Y.1 w2 i1 i2 i3 i4).mono ?_;rintro e w3 ⟨rfl,k,rfl⟩;have J:=Kh (Aa Z.1 k);obtain⟨y0,y1⟩:(w2.drewN k).cell? _=_/\(w2.drewN k).cell? _=_:=And.intro x0 x1;clear Y hip hiq;by_cases hg:Int.gcd p q=1
    ·rw[hg]
     by_cases hq1:q=0
     ·subst hq1
      by_cases hp1:p=1
      ·subst hp1
       obtain rfl:z=0:=by rw[I,if_neg (by simp[hg])]
       clear I;go_wp2;go_ret;exact⟨rfl,J.1⟩
      ·obtain rfl:z=3:=by rw[I,if_pos (.inr ⟨rfl,hp1⟩)]
       clear I hg;go_wp2;go_ret;exact⟨rfl,J.1⟩
     ·obtain rfl:z=0:=by rw[I,if_neg (by simp[hg,hq1])]
      clear I hg;go_wp2;go_ret;exact⟨rfl,J.1⟩
    ·obtain rfl:z=3:=by rw[I,if_pos (.inl hg)]
     have bA:((Int.gcd p q:Nat):Int)≠1:=by omega
     generalize ((Int.gcd p q:Nat):Int)=gg at *;clear I hg;go_wp2;go_ret;exact⟨rfl,J.1⟩
end Go.Proofs.YtenlbhlllgppmaaGreatDoor
