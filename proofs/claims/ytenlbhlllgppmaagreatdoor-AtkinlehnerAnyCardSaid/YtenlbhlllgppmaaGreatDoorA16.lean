/- Contracts of sl2 and halfplaneref18: In, Fits, Det, CheckCusp. -/
import Derived.Test.YtenlbhlllgppmaaGreatDoorA02
namespace Go.Proofs.YtenlbhlllgppmaaGreatDoor
open Go.RowKit Tryz
def Hq (n:Int):Bool:=decide (-1073741824<=n)&&decide (n<=1073741824)
theorem Ww {n:Int} (h:-1073741824<=n) (I:n<=1073741824):Hq n=true:=by simp[Hq,h,I]
theorem Dc {n:Int}:Hq n=true↔-1073741824<=n/\n<=1073741824:=by simp[Hq]
def Av (p q:Int):Int:=if Hq p=false∨q<0∨Hq q=false then 2 else if Int.gcd p q≠1∨(q=0/\p≠1)then 3 else 0
theorem mul_b {x y:Int} (V:-1073741824<=x) (O:x<=1073741824) (Y:-1073741824<=y) (U:y<=1073741824):-1152921504606846976<=x*y/\x*y<=1152921504606846976:=by
 have I:x.natAbs<=1073741824:=by omega
 have J:y.natAbs<=1073741824:=by omega
 have M:=Nat.mul_le_mul I J;rw[<-Int.natAbs_mul]at M;omega
theorem eA (n:Int) (w:World):Calls prog 111 #[.int .i64 n] w λe w'=>e=.returned (.bool (Hq n))/\w'=w:=by
 go_enter func111,ntmps111
 go_wp2;all_goals (go_ret;exact⟨Ca (by rw[Bool.eq_iff_iff];simp[Hq];omega),rfl⟩)
theorem dZ (a b c d:Int) (w:World) (ha:-1073741824<=a) (V:a<=1073741824) (hb:-1073741824<=b) (Y:b<=1073741824) (hc:-1073741824<=c) (Z:c<=1073741824) (hd:-1073741824<=d) (aD:d<=1073741824):
  Calls prog 160 #[.agg #[.int .i64 a,.int .i64 b,.int .i64 c,.int .i64 d]] w λe w'=>e=.returned (.bool true)/\Below w.heap.size w w':=by
 have H:∀(n:Int) (w:World),-1073741824<=n->n<=1073741824->Calls prog 111 #[.int .i64 n] w λe w'=>e=.returned (.bool true)/\w'=w:=by
  intro n w O U;have h:=eA n w;rw[Ww O U]at h;exact h
 have J:=Kh H;clear H;go_enter func160,ntmps160
 go_wp2_with fail
 all_goals obtain⟨w0,I⟩:∃w0,w.alloc (.cells #[.int .i64 a,.int .i64 b,.int .i64 c,.int .i64 d] 63)=w0:=⟨_,rfl⟩
 rw[I];have X:=Blk.new w 63 #[.int .i64 a,.int .i64 b,.int .i64 c,.int .i64 d];rw[I]at X;have M:=Kh (show Below w.heap.size w w0 from I▸(Below.refl _ _).alloc (mG _) _);clear I;have x0:=X.at_ 0 rfl;have x1:=X.at_ 1 rfl;have x2:=X.at_ 2 rfl;have x3:=X.at_ 3 rfl;clear X;refine(J.1 a w0 (by omega) (by omega)).mono ?_;rintro e w1 ⟨rfl,rfl⟩;go_wp2_with fail
 refine(J.1 b w1 (by omega) (by omega)).mono ?_;rintro e w2 ⟨rfl,rfl⟩;go_wp2_with fail
 refine(J.1 c w2 (by omega) (by omega)).mono ?_;rintro e w3 ⟨rfl,rfl⟩;go_wp2_with fail
 refine(J.1 d w3 (by omega) (by omega)).mono ?_;rintro e w4 ⟨rfl,rfl⟩;go_wp2;go_ret;exact⟨rfl,M.1⟩
theorem gB (a b c d:Int) (w:World) (Z:-1073741824<=a) (J:a<=1073741824) (h:-1073741824<=b) (M:b<=1073741824) (hc:-1073741824<=c) (U:c<=1073741824) (hd:-1073741824<=d) (V:d<=1073741824):
  Calls prog 117 #[.agg #[.int .i64 a,.int .i64 b,.int .i64 c,.int .i64 d]] w λe w'=>e=.returned (.tuple #[.int .i64 (a*d - b*c),.int .i64 0])/\Below w.heap.size w w':=by
 have m1:=mul_b Z J hd V;have m2:=mul_b h M hc U;have HF:=Kh (λw1=>dZ a b c d w1 Z J h M hc U hd V);clear Z J h M hc U hd V;go_enter func117,ntmps117
 go_wp2_with fail
 all_goals obtain⟨w0,I⟩:∃w0,w.alloc (.cells #[.int .i64 a,.int .i64 b,.int .i64 c,.int .i64 d] 63)=w0:=⟨_,rfl⟩
 rw[I];have X:=Blk.new w 63 #[.int .i64 a,.int .i64 b,.int .i64 c,.int .i64 d];rw[I]at X;have HB:=Kh (show Below w.heap.size w w0 from I▸(Below.refl _ _).alloc (mG _) _);clear I;refine(HF.1 w0).mono ?_;rintro e w1 ⟨rfl,O⟩;replace X:=X.below_ O X.lt;have Y:=bt HB O;have x0:=X.at_ 0 rfl;have x1:=X.at_ 1 rfl;have x2:=X.at_ 2 rfl;have x3:=X.at_ 3 rfl;clear X O HF HB;go_wp2;go_ret2
 exact⟨rfl,Y.1⟩
theorem C3 (p q:Int) (w:World) (hp:-9223372036854775808<=p) (aK:p<=9223372036854775807) (hq:-9223372036854775808<=q) (aN:q<=9223372036854775807):
  Calls prog 64 #[.agg #[.int .i64 p,.int .i64 q]] w λe w'=>e=.returned (.int .i64 (Av p q))/\Below w.heap.size w w':=by
 have U:=Kh eA;have V:=Kh (λZ (h1:-1073741824<=p) (h2:p<=1073741824) (h3:-1073741824<=q) (h4:q<=1073741824)=>E7 p q Z (by omega) (by omega) (by omega) (by omega));obtain⟨z,I⟩:∃z,Av p q=z:=⟨_,rfl⟩
 rw[I];have O:=Kh I;clear I;go_enter func64,ntmps64
 go_wp2_with fail
 all_goals obtain⟨w0,M⟩:∃w0,w.alloc (.cells #[.int .i64 p,.int .i64 q] 47)=w0:=⟨_,rfl⟩
 rw[M];have X:=Blk.new w 47 #[.int .i64 p,.int .i64 q];rw[M]at X;have Y:=Kh (show Below w.heap.size w w0 from M▸(Below.refl _ _).alloc (mG _) _);clear M;have x0:=X.at_ 0 rfl;have x1:=X.at_ 1 rfl;clear X;refine(U.1 p w0).mono ?_;rintro e Z ⟨rfl,rfl⟩;cases hip:Hq p with
 | false=>
  obtain rfl:z=2:=by rw[<-O.1,Av,if_pos (.inl hip)]
  clear O V U;go_wp2;go_ret;exact⟨rfl,Y.1⟩
 | true=>
  by_cases hq0:q<0
  ·obtain rfl:z=2:=by rw[<-O.1,Av,if_pos (.inr (.inl hq0))]
   clear O V U;go_wp2;go_ret;exact⟨rfl,Y.1⟩
  ·go_wp2_with fail
   refine(U.1 q Z).mono ?_;rintro e h ⟨rfl,rfl⟩;cases hiq:Hq q with
   | false=>
    obtain rfl:z=2:=by rw[<-O.1,Av,if_pos (.inr (.inr hiq))]
    clear O V U;go_wp2;go_ret;exact⟨rfl,Y.1⟩
   | true=>
    go_wp2_with fail
    obtain⟨i1,i2⟩:=Dc.1 hip;obtain⟨i3,i4⟩:=Dc.1 hiq;have I:z=if Int.gcd p q≠1∨(q=0/\p≠1)then 3 else 0:=by rw[<-O.1,Av,if_neg (by rw[hip,hiq];simp;omega)]
    clear O U;refine(V.1 h i1 i2 i3 i4).mono ?_;rintro e w3 ⟨rfl,k,rfl⟩;have J:=Kh (Aa Y.1 k);obtain⟨y0,y1⟩:(h.drewN k).cell? _=_/\(h.drewN k).cell? _=_:=And.intro x0 x1;clear V hip hiq;by_cases hg:Int.gcd p q=1
    ·rw[hg]
     by_cases hq1:q=0
     ·subst hq1
      by_cases hp1:p=1
      ·subst hp1
       obtain rfl:z=0:=by rw[I,if_neg (by simp[hg])]
       clear I;go_wp2;go_ret;exact⟨rfl,J.1⟩
      ·obtain rfl:z=3:=by rw[I,if_pos (.inr ⟨rfl,hp1⟩)]
       clear I hg;go_wp2;go_ret;exact⟨rfl,J.1⟩
     ·obtain rfl:z=0:=by rw[I,if_neg (by simp[hg,hq1])]
      clear I hg;go_wp2;go_ret;exact⟨rfl,J.1⟩
    ·obtain rfl:z=3:=by rw[I,if_pos (.inl hg)]
     have aD:((Int.gcd p q:Nat):Int)≠1:=by omega
     generalize ((Int.gcd p q:Nat):Int)=gg at *;clear I hg;go_wp2;go_ret;exact⟨rfl,J.1⟩
end Go.Proofs.YtenlbhlllgppmaaGreatDoor
