/- cmp.Compare, cmp.Or, projline.compare. -/
import Derived.Test.YtenlbhlllgppmaaGreatDoorC29
set_option linter.unusedSimpArgs false
set_option maxRecDepth 100000
set_option maxHeartbeats 8000000
namespace Go.Proofs.YtenlbhlllgppmaaGreatDoor
section
open Go.RowKit Eli Tryz
theorem jP (x:Int) (w:World):Calls prog 223 #[.int .i64 x] w λe w'=>e=.returned (.bool false)/\w'=w:=by
 have E:(x != x)=false:=by simp
 go_enter func223,ntmps223
 go_wp2;go_ret;exact⟨rfl,rfl⟩
def Q3 (x y:Int):Int:=if x<y then -1 else if y<x then 1 else 0
theorem fS (x y:Int) (w:World):Calls prog 212 #[.int .i64 x,.int .i64 y] w λe w'=>e=.returned (.int .i64 (Q3 x y))/\w'=w:=by
 have E:=Kh (λx w=>jP x w);unfold Q3;go_enter func212,ntmps212
 go_wp2_with fail
 refine(E.1 x w).mono ?_;rintro e J ⟨rfl,rfl⟩;go_wp2_with fail
 refine(E.1 y J).mono ?_;rintro e O ⟨rfl,rfl⟩;rcases Int.lt_trichotomy x y with h|h|h
 ·go_wp2
  go_ret;exact⟨rfl,rfl⟩
 ·have I:¬x<y:=by omega
  have M:¬y<x:=by omega
  go_wp2;go_ret;exact⟨rfl,rfl⟩
 ·have I:¬x<y:=by omega
  go_wp2;go_ret;exact⟨rfl,rfl⟩
def lH (a b:Int):Int:=if a=0 then b else a
theorem jR (a b:Int) (g cap:Nat) (w:World) (M:w.cell? ⟨g,0,none⟩=some (.int .i64 a)) (O:w.cell? ⟨g,1,none⟩=some (.int .i64 b)):
  Calls prog 211 #[.slice (some ⟨g,0,none⟩) 2 cap] w λe w'=>e=.returned (.int .i64 (lH a b))/\w'=w:=by
 unfold lH;go_enter func211,ntmps211
 go_wp2;go_loopw [8] (λi wr=>wr=w/\((i=.int .i64 0)∨(i=.int .i64 1/\a=0)∨(i=.int .i64 2/\a=0/\b=0))) (λi _=>2 - (intOf i).toNat)
 case atStart=>exact⟨rfl,.inl rfl⟩
 case round=>
  obtain⟨rfl,hr⟩:=hrel;rcases hr with rfl |⟨rfl,E⟩ |⟨rfl,E,I⟩
  ·by_cases E:a=0
   ·subst E
    go_wp2;go_roundw
    case rel=>exact⟨by trivial,.inr (.inl ⟨by trivial,by trivial⟩)⟩
    case measure=>simp[intOf]
   ·have I:(a != 0)=true:=by simpa using E
    have J:=Kh E;clear E;go_wp2
    all_goals first
     |(exfalso;exact J.1 (by assumption))
     |(go_ret;exact⟨rfl,rfl⟩)
  ·subst E
   by_cases hb0:b=0
   ·subst hb0
    go_wp2;go_roundw
    case rel=>exact⟨by trivial,.inr (.inr ⟨by trivial,by trivial,by trivial⟩)⟩
    case measure=>simp[intOf]
   ·have I:(b != 0)=true:=by simpa using hb0
    clear hb0;go_wp2;go_ret;exact⟨rfl,rfl⟩
  ·subst E
   subst I;go_wp2;go_ret;exact⟨rfl,rfl⟩
def M0 (u v u' v':Int):Int:=lH (Q3 u u') (Q3 v v')
theorem Sb (u v t I J t':Int) (w:World):Calls prog 194 #[.agg #[.int .i64 u,.int .i64 v,.int .i64 t],.agg #[.int .i64 I,.int .i64 J,.int .i64 t']] w λe w'=>e=.returned (.int .i64 (M0 u v I J))/\Below w.heap.size w w':=by
 have HC:=Kh (λx y w=>fS x y w);unfold M0;go_enter func194,ntmps194
 go_upto_region 1 with(fail)
 obtain⟨h,V,X,Y,O⟩:=bx2 w #[.int .i64 u,.int .i64 v,.int .i64 t] 213 #[.int .i64 I,.int .i64 J,.int .i64 t'] 213;rw[V];obtain⟨g0,E⟩:∃x,w.heap.size=x:=⟨_,rfl⟩
 obtain⟨g1,U⟩:∃x,w.heap.size+1=x:=⟨_,rfl⟩
 have HB:=Kh O;rw[U]at Y ⊢;rw[E]at X;try rw[E]
 have r0:=X.at_ 0 rfl;have r1:=X.at_ 1 rfl;have q0:=Y.at_ 0 rfl;have q1:=Y.at_ 1 rfl;have HG:=Kh E;clear V X Y O U E;refine Lg (λW=>W.cell? ⟨g0,0,none⟩=some (.int .i64 u)/\W.cell? ⟨g0,1,none⟩=some (.int .i64 v)/\W.cell? ⟨g1,0,none⟩=some (.int .i64 I)/\W.cell? ⟨g1,1,none⟩=some (.int .i64 J)) (λW Z=>⟨Av Z r0,Av Z r1,Av Z q0,Av Z q1⟩) (λM hHeld0=>?_);refine Ap 0 ?_;refine Ap 1 ?_;refine Ap 2 ?_;refine Ap 3 ?_;refine Ap 5 ?_;refine Ap 6 ?_;refine Ap 7 ?_;refine Ap 8 ?_;refine Hq 4 rfl (λK hK=>?_);focus(go_simp;refine(HC.1 u I _).mono ?_;rintro e wz ⟨rfl,rfl⟩;(first|with_reducible refine hK.out _ _ ?_ (λhHeld1=>?_) |(go_wp2_with fail;with_reducible refine hK.out _ _ ?_ (λhHeld1=>?_))))
 focus((try dsimp only);with_reducible assumption)
 focus(clear hK K;(try simp only[Act.put,Bn,Bp,Bo]))
 refine Hq 9 rfl (λK hK=>?_);focus(go_simp;refine(HC.1 v J _).mono ?_;rintro e wz ⟨rfl,rfl⟩;(first|with_reducible refine hK.out _ _ ?_ (λhHeld2=>?_) |(go_wp2_with fail;with_reducible refine hK.out _ _ ?_ (λhHeld2=>?_))))
 focus((try dsimp only);with_reducible assumption)
 focus(clear hK K;(try simp only[Act.put,Bn,Bp,Bo]))
 refine Hq 10 rfl (λK hK=>?_);focus(go_simp;refine hK.out _ _ ?_ (λhHeld3=>?_))
 focus((try dsimp only);exact M.1 _ (Below.refl _ h |>.drew.alloc (nL _) _))
 focus(clear hK K;(try simp only[Act.put,Bn,Bp,Bo]))
 refine Hq 11 rfl (λK hK=>?_);focus(go_simp;refine(jR (Q3 u I) (Q3 v J) h.heap.size 2 _ (by simp) (by simp)).mono ?_;rintro e wz ⟨rfl,rfl⟩;(first|with_reducible refine hK.out _ _ ?_ (λhHeld4=>?_) |(go_wp2_with fail;with_reducible refine hK.out _ _ ?_ (λhHeld4=>?_))))
 focus((try dsimp only);exact M.1 _ (Below.refl _ h |>.drew.alloc (nL _) _))
 focus(clear hK K;(try simp only[Act.put,Bn,Bp,Bo]))
 refine Le 12 rfl (λK hK=>?_);go_simp
 refine hK.out _ _ ?_;clear hK K
 (try simp only[Act.put,Bn,Bp,Bo])
 go_wp2;go_ret;exact⟨rfl,HB.1.trans ((((Below.refl _ h).drew.alloc (nL _) _)).mono HB.1.size)⟩
theorem iN {n i j:Nat} (J:0<n) (E:i<j) (I:j<(pts n (n*n)).length):(pts n (n*n)).getD i 0<(pts n (n*n)).getD j 0:=by
 have M:(pts n (n*n)).Pairwise (· < ·):=by
  rw[B8 J _ (nL _)];exact List.Pairwise.filter _ List.pairwise_lt_range
 have h:=List.pairwise_iff_getElem.1 M i j (by omega) I E;rw[List.getD_eq_getElem?_getD,List.getD_eq_getElem?_getD,List.getElem?_eq_getElem I,List.getElem?_eq_getElem (show i<_ by omega)];exact h
theorem Sg {n a b:Nat} (U:0<n):M0 ((a / n:Nat):Int) ((a % n:Nat):Int) ((b / n:Nat):Int) ((b % n:Nat):Int)<0↔a<b:=by
 have Z:=Nat.div_add_mod a n;have h2:=Nat.div_add_mod b n;have h3:=Nat.mod_lt a U;have h4:=Nat.mod_lt b U;obtain⟨u,V⟩:∃u,a / n=u:=⟨_,rfl⟩
 obtain⟨v,O⟩:∃v,a % n=v:=⟨_,rfl⟩
 obtain⟨I,J⟩:∃u,b / n=u:=⟨_,rfl⟩
 obtain⟨v',E⟩:∃v,b % n=v:=⟨_,rfl⟩
 rw[V,O]at Z;rw[O]at h3;rw[J,E]at h2;rw[E]at h4;rw[V,O,J,E];unfold M0 lH Q3;rcases Nat.lt_trichotomy u I with h|h|h
 ·have M:n*(u+1)<=n*I:=Nat.mul_le_mul_left n h
  rw[Nat.mul_add,Nat.mul_one]at M;rw[if_pos (show(u:Int)<I by omega),if_neg (by decide)];constructor
  ·intro _;omega
  ·intro _;decide
 ·subst h
  rw[if_neg (show ¬(u:Int)<u by omega),if_neg (show ¬(u:Int)<u by omega),if_pos rfl];split
  ·constructor
   ·intro _;omega
   ·intro _;decide
  ·split
   ·constructor
    ·intro h;omega
    ·intro _;omega
   ·constructor
    ·intro h;omega
    ·intro _;omega
 ·have M:n*(I+1)<=n*u:=Nat.mul_le_mul_left n h
  rw[Nat.mul_add,Nat.mul_one]at M;rw[if_neg (show ¬(u:Int)<I by omega),if_pos (show(I:Int)<u by omega),if_neg (by decide)];constructor
  ·intro h;omega
  ·intro _;omega
theorem W4 (n p a u v g cap:Nat) (L:List Nat) (w:World) (h0:0<n) (_hn:n<=120) (dE:L.length<=14400) (bB:∀i j,i<j->j<L.length->L.getD i 0<L.getD j 0) (hp:p<L.length) (ha:L.getD p 0=a) (hu:a / n=u) (hv:a % n=v)
  (aD:∀i x u,L[i]?=some x->∀k,(N3 n x)[k]?=some u->k<3->w.cell? ⟨g,i*3+k,none⟩=some u):
  Calls prog 193 #[.slice (some ⟨g,0,none⟩) L.length cap,.agg #[.int .i64 (u:Int),.int .i64 (v:Int),.int .i64 1],.func (.func 194) #[] #[]] w λe w'=>(∃b,e=.returned (.tuple #[.int .i64 p,.bool b]))/\Below w.heap.size w w':=by
 have HC:=Kh (λu v t u' v' t' w=>Sb u v t u' v' t' w);obtain⟨N,hN⟩:∃N,L.length=N:=⟨_,rfl⟩
 have hL:=Kh (show L[p]?=some a by rw[<-ha,List.getD_eq_getElem?_getD,List.getElem?_eq_getElem hp];rfl)
 have cA:=Kh (λ(h:Nat) (hh:h<N)=>(show ∃b x y:Nat,L[h]?=some b/\b / n=x/\b % n=y/\(M0 x y u v<0↔h<p)from by
  have Z:h<L.length:=by omega
  refine⟨L[h],_,_,List.getElem?_eq_getElem Z,rfl,rfl,?_⟩;have h2:=Sg (a:=L[h]) (b:=a) h0;rw[hu,hv]at h2;have h3:L.getD h 0=L[h]:=by rw[List.getD_eq_getElem?_getD,List.getElem?_eq_getElem Z];rfl
  rw[h2];constructor
  ·intro h4
   rcases Nat.lt_or_ge h p with h5|h5
   ·exact h5
   ·rcases Nat.lt_or_ge p h with h6|h6
    ·have h7:=bB p h h6 Z
     omega
    ·obtain rfl:h=p:=by omega
     omega
  ·intro h4
   have h7:=bB h p h4 hp;omega))
 have cB:=Kh (λ(h b x y:Nat) (W:World) (E:Below w.heap.size w W) (Z:L[h]?=some b) (h2:b / n=x) (h3:b % n=y)=>(show W.cell? ⟨g,h*3,none⟩=some (.int .i64 (x:Int))/\W.cell? ⟨g,h*3+1,none⟩=some (.int .i64 (y:Int))/\W.cell? ⟨g,h*3+2,none⟩=some (.int .i64 1)from by
  subst h2 h3;exact⟨Av E (aD h b _ Z 0 rfl (by decide)),Av E (aD h b _ Z 1 rfl (by decide)),Av E (aD h b _ Z 2 rfl (by decide))⟩))
 have hM:=Kh (And.intro hu hv);rw[hN]at dE hp ⊢;clear bB aD ha hN hu hv;go_enter func193,ntmps193
 go_wp2_with fail
 obtain⟨w1,bC,X,cF⟩:=bx1 w #[.int .i64 (u:Int),.int .i64 (v:Int),.int .i64 1] 213;rw[bC];obtain⟨gb,aK⟩:∃x,w.heap.size=x:=⟨_,rfl⟩
 rw[aK]at X;try rw[aK]
 have HX:=Kh X;have cX:=Kh cF;have hI:=Kh aK;clear bC X cF aK;go_loopw [9,10] (λvi vj wr=>∃i j:Nat,vi=.int .i64 i/\vj=.int .i64 j/\i<=p/\p<=j/\j<=N/\Below w1.heap.size w1 wr) (λvi vj _=>(intOf vj).toNat - (intOf vi).toNat)
 case atStart=>exact⟨0,N,rfl,rfl,Nat.zero_le _,Nat.le_of_lt hp,nL _,Below.refl _ _⟩
 case round=>
  obtain⟨i,j,rfl,rfl,hi,hj,eF,E⟩:=hrel;have bA:=Kh (bk HX E);have U:=bt cX E;have V:=Kh E;clear E;have r0:=bA.1.at_ 0 rfl;have r1:=bA.1.at_ 1 rfl;have r2:=bA.1.at_ 2 rfl;by_cases hlt:i<j
  ·obtain⟨h,hh⟩:∃h,(i+j) / 2=h:=⟨_,rfl⟩
   have hS:i<=h:=by omega
   have hT:h<j:=by omega
   have hW:(i:Int)<j:=by omega
   have bC:IntKind.i64.wrap ((i:Int)+j)=((i+j:Nat):Int):=by rw[<-Int.natCast_add];exact IntWalk.i64_in _ (by omega)
   obtain⟨b,x,y,M,hx,hy,I⟩:=cA.1 h (by omega);obtain⟨l0,l1,l2⟩:=cB.1 h b x y wr U.1 M hx hy;have hR:(h:Int)<(N:Int):=by omega
   have cC:=Kh I;have HH:=Kh hh;clear M hx hy I hh;have dC:=Kh (show((i:Int)+j) / 2=(h:Int)by have:=HH.1;omega);go_upto_region 5 with(fail)
   rw[dC.1];obtain⟨z,hz⟩:∃z,M0 x y u v=z:=⟨_,rfl⟩
   have aN:=Kh (λW=>(by rw[<-hz];exact HC.1 x y 1 u v 1 W:Calls prog 194 #[.agg #[.int .i64 (x:Int),.int .i64 (y:Int),.int .i64 1],.agg #[.int .i64 (u:Int),.int .i64 (v:Int),.int .i64 1]] W λe w'=>e=.returned (.int .i64 z)/\Below W.heap.size W w'));have cD:=Kh (show z<0↔h<p by rw[<-hz];exact cC.1);clear hz cC HC;refine Lg (λW=>W.cell? ⟨g,h*3,none⟩=some (.int .i64 (x:Int))/\W.cell? ⟨g,h*3+1,none⟩=some (.int .i64 (y:Int))/\W.cell? ⟨g,h*3+2,none⟩=some (.int .i64 1)/\W.cell? ⟨gb,0,none⟩=some (.int .i64 (u:Int))/\W.cell? ⟨gb,1,none⟩=some (.int .i64 (v:Int))/\W.cell? ⟨gb,2,none⟩=some (.int .i64 1)) (λW E=>⟨Av E l0,Av E l1,Av E l2,Av E r0,Av E r1,Av E r2⟩) (λaX hHeld0=>?_);refine Ap 0 ?_;refine Ap 1 ?_;refine Ap 2 ?_;refine Ap 3 ?_;refine Ap 4 ?_;refine Ap 5 ?_;refine Hq 6 rfl (λK hK=>?_);focus(go_simp;refine(aN.1 _).mono ?_;rintro e wz ⟨rfl,O⟩;have J:=Kh ((Below.refl _ wr).drew.trans O);clear O;(first|with_reducible refine hK.out _ _ ?_ (λhHeld1=>?_) |(go_wp2_with fail;with_reducible refine hK.out _ _ ?_ (λhHeld1=>?_))))
   focus((try dsimp only);exact aX.1 _ J.1)
   focus(clear hK K;(try simp only[Act.put,Bn,Bp,Bo]))
   refine Le 7 rfl (λK hK=>?_);go_simp
   refine hK.out _ _ ?_;clear hK K
   (try simp only[Act.put,Bn,Bp,Bo])
   by_cases hhp:h<p
   ·have eT:z<0:=cD.1.2 hhp
    go_wp2;go_roundw
    case rel=>exact⟨h+1,j,by go_num,rfl,hhp,hj,eF,V.1.trans (J.1.mono V.1.size)⟩
    case measure=>simp[intOf];omega
   ·have eT:¬z<0:=λZ=>hhp (cD.1.1 Z)
    go_wp2;go_roundw
    case rel=>exact⟨i,h,rfl,rfl,hi,by omega,by omega,V.1.trans (J.1.mono V.1.size)⟩
    case measure=>simp[intOf];omega
  ·obtain rfl:i=p:=by omega
   obtain rfl:i=j:=by omega
   obtain⟨b,x,y,M,hx,hy,I⟩:=cA.1 i (by omega);obtain⟨l0,l1,l2⟩:=cB.1 i b x y wr U.1 M hx hy;obtain⟨z,hz⟩:∃z,M0 x y u v=z:=⟨_,rfl⟩
   have aN:=Kh (λW=>(by rw[<-hz];exact HC.1 x y 1 u v 1 W:Calls prog 194 #[.agg #[.int .i64 (x:Int),.int .i64 (y:Int),.int .i64 1],.agg #[.int .i64 (u:Int),.int .i64 (v:Int),.int .i64 1]] W λe w'=>e=.returned (.int .i64 z)/\Below W.heap.size W w'));have hV:(i:Int)<(N:Int):=by omega
   clear M hx hy I hz HC;go_upto_region 8 with(fail)
   refine Lg (λW=>W.cell? ⟨g,i*3,none⟩=some (.int .i64 (x:Int))/\W.cell? ⟨g,i*3+1,none⟩=some (.int .i64 (y:Int))/\W.cell? ⟨g,i*3+2,none⟩=some (.int .i64 1)/\W.cell? ⟨gb,0,none⟩=some (.int .i64 (u:Int))/\W.cell? ⟨gb,1,none⟩=some (.int .i64 (v:Int))/\W.cell? ⟨gb,2,none⟩=some (.int .i64 1)) (λW E=>⟨Av E l0,Av E l1,Av E l2,Av E r0,Av E r1,Av E r2⟩) (λaX hHeld0=>?_);refine Ap 0 ?_;refine Ap 1 ?_;refine Ap 2 ?_;refine Ap 3 ?_;refine Ap 4 ?_;refine Ap 5 ?_;refine Ap 6 ?_;refine Ap 7 ?_;refine Ap 8 ?_;refine Ap 9 ?_;refine Ap 10 ?_;refine Hq 11 rfl (λK hK=>?_);focus(go_simp;refine(aN.1 _).mono ?_;rintro e wz ⟨rfl,O⟩;have J:=Kh ((Below.refl _ wr).drew.trans O);clear O;(first|with_reducible refine hK.out _ _ ?_ (λhHeld1=>?_) |(go_wp2_with fail;with_reducible refine hK.out _ _ ?_ (λhHeld1=>?_))))
   focus((try dsimp only);exact aX.1 _ J.1)
   focus(clear hK K;(try simp only[Act.put,Bn,Bp,Bo]))
   refine Ap 12 ?_;refine Ap 13 ?_;refine Ap 14 ?_;refine Le 15 rfl (λK hK=>?_);go_simp
   refine hK.out _ _ ?_;clear hK K
   (try simp only[Act.put,Bn,Bp,Bo])
   go_wp2;go_ret2
   exact⟨⟨_,rfl⟩,U.1.trans (J.1.mono U.1.size)⟩
theorem fT (n p a u v:Nat) (w:World) (h0:0<n) (hn:n<=120) (hp:p<(pts n (n*n)).length) (ha:(pts n (n*n)).getD p 0=a) (hu:a / n=u) (hv:a % n=v):
  Calls prog 155 #[.int .i64 n,.agg #[.int .i64 (u:Int),.int .i64 (v:Int),.int .i64 1]] w λe w'=>e=.returned (.int .i64 p)/\Below w.heap.size w w':=by
 have HS:=Kh (λg cap W E=>W4 n p a u v g cap (pts n (n*n)) W h0 hn (nM (B9 n (n*n)) (Nat.mul_le_mul hn hn)) (λi j h1 h2=>iN h0 h1 h2) hp ha hu hv E);have I:=Kh (λW=>Ms n W h0 hn);have bY:0<(pts n (n*n)).length:=by omega
 obtain⟨L,hL⟩:∃L,pts n (n*n)=L:=⟨_,rfl⟩
 rw[hL]at HS I bY;clear hp ha hu hv hL;go_enter func155,ntmps155
 go_wp2_with fail
 obtain⟨w1,aD,X,V⟩:=bx1 w #[.int .i64 (u:Int),.int .i64 (v:Int),.int .i64 1] 213;rw[aD];obtain⟨gb,O⟩:∃x,w.heap.size=x:=⟨_,rfl⟩
 rw[O]at X;try rw[O]
 have HX:=Kh X;have U:=Kh V;clear aD X V O;refine(I.1 w1).mono ?_;rintro e w2 ⟨⟨vl,rfl,h⟩,M⟩;obtain⟨g,cap,rfl,_,_,_,cS,_,E,_⟩:=Hb h (by omega);have bA:=Kh (λW (hb:Below w2.heap.size w2 W)=>HS.1 g cap W (λi x z hi k h1 h2=>(Av hb (E _ _ (by rw[Ee hi h2];exact h1)))));have J:=Kh (bk HX M);have aK:=bt U M;clear h E M HS HX U I;have r0:=J.1.at_ 0 rfl;have r1:=J.1.at_ 1 rfl;have r2:=J.1.at_ 2 rfl;go_wp2_with fail
 refine(bA.1 w2 (Below.refl _ _)).mono ?_;rintro e w3 ⟨⟨b,rfl⟩,Z⟩;have aN:=bt aK Z;clear Z;go_wp2;go_ret;exact⟨rfl,aN.1⟩
theorem eO (x:Int) (w:World) (E:-1073741824<=x) (I:x<=1073741824):Calls prog 190 #[.int .i64 x] w λe w'=>e=.returned (.bool true)/\w'=w:=by
 go_enter func190,ntmps190
 go_wp2;go_ret;exact⟨rfl,rfl⟩
theorem Wv (x m:Nat) (w:World) (h:x<m) (_hm:m<=1000):Calls prog 192 #[.int .i64 x,.int .i64 m] w λe w'=>e=.returned (.int .i64 x)/\w'=w:=by
 have I:(x:Int).tmod (m:Int)=(x:Int):=by rw[Int.tmod_eq_of_lt (by omega) (by omega)]
 have E:(m:Int)≠0:=by omega
 go_enter func192,ntmps192
 go_wp2;go_ret;exact⟨rfl,rfl⟩
theorem Wt (n a u v:Nat) (w:World) (h0:0<n) (hn:n<=120) (ha:Fj n a=true) (hu:a / n=u) (hv:a % n=v) (cT:a<n*n):
  Calls prog 191 #[.int .i64 n,.int .i64 u,.int .i64 v] w λe w'=>e=.returned (.agg #[.int .i64 (u:Int),.int .i64 (v:Int),.int .i64 1])/\Below w.heap.size w w':=by
 have HC:=Kh (λu v t u' v' t' w=>Sb u v t u' v' t' w)
 have hH:=Kh (λ(s:Nat) (h1:1<=s) (h2:s<n) (h3:Nat.gcd s n=1)=>(show ¬M0 ((s*u % n:Nat):Int) ((s*v % n:Nat):Int) u v<0 from λh=>by
  have h4:=Cs.1 ha s h1 (by omega) (by simp[pun,h3]);have h5:=(Sg (a:=Az n s a) (b:=a) h0)
  rw[Dd h0,De,hu,hv]at h5;have h6:=h5.1 h;omega))
 have oC:u<n:=by rw[<-hu];exact Nat.div_lt_of_lt_mul cT
 have oD:v<n:=by rw[<-hv];exact Nat.mod_lt _ h0
 have hG:=Kh (λW=>Lr 1 n W h0 (by omega) (by simp));have nZ:(n:Int)≠0:=by omega
 clear ha hu hv cT;go_enter func191,ntmps191
 go_upto_region 2 with(fail)
 obtain⟨w1,eG,X,Y,cX⟩:=bx2 w #[.int .i64 0,.int .i64 0,.int .i64 0] 213 #[.int .i64 (u:Int),.int .i64 (v:Int),.int .i64 0] 213;rw[eG];obtain⟨gr,bC⟩:∃x,w.heap.size=x:=⟨_,rfl⟩
 obtain⟨gl,bB⟩:∃x,w.heap.size+1=x:=⟨_,rfl⟩
 rw[bB]at Y;rw[bC]at X;try rw[bB]
 try rw[bC]
 have HX:=Kh X;have HY:=Kh Y;have gN:=Kh cX;have E:=Kh (show w.heap.size<=gr/\w.heap.size<=gl/\gr≠gl by omega);clear eG X Y cX bB bC;go_wp2_with fail
 go_loopw [8,9] (λvb vs wr=>∃s:Nat,vb=.int .i64 1/\vs=.int .i64 s/\2<=s/\s<=n+2/\Below w1.heap.size w1 wr) (λ_ vs _=>n+2 - (intOf vs).toNat)
 case atStart=>exact⟨2,rfl,rfl,by omega,by omega,Below.refl _ _⟩
 case round=>
  obtain⟨s,rfl,rfl,oA,oB,hb⟩:=hrel;obtain⟨w3,rfl⟩:∃w3:World,w3=wr:=⟨_,rfl⟩
  have cD:=Kh (bk HX hb);have cF:=Kh (bk HY hb);have gP:=bt gN hb;have hB:=Kh hb;clear hb;by_cases hlt:s<n
  ·have dY:(s:Int)<n:=by omega
   obtain⟨g,hg⟩:∃g,Nat.gcd s n=g:=⟨_,rfl⟩
   have HG:=Kh (show((Int.gcd (s:Int) (n:Int):Nat):Int)=g by rw[Int.gcd_natCast_natCast,hg]);have hE:=Kh hg;clear hg;go_wp2_with fail
   refine(Ec (s:Int) (n:Int) w3 (by omega) (by omega) (by omega) (by omega)).mono ?_;rw[HG.1];rintro e U ⟨rfl,nd,eF⟩;have I:Below w3.heap.size w3 U:=by rw[eF];exact Aa (Below.refl _ _) nd
   have V:=bt hB I;have nS:=Kh (bk cD I);have cG:=Kh (bk cF I);clear eF I;by_cases hg1:g=1
   ·subst hg1
    have cB:=Kh (hH.1 s (by omega) hlt hE.1);obtain⟨x,hx⟩:∃x,s*u % n=x:=⟨_,rfl⟩
    obtain⟨y,hy⟩:∃y,s*v % n=y:=⟨_,rfl⟩
    have hP:s*u<=120*120:=Nat.mul_le_mul (by omega) (by omega);have hQ:s*v<=120*120:=Nat.mul_le_mul (by omega) (by omega);obtain⟨su,J⟩:∃x,s*u=x:=⟨_,rfl⟩
    obtain⟨sv,M⟩:∃x,s*v=x:=⟨_,rfl⟩
    rw[J]at hP hx;rw[M]at hQ hy;have m1:IntKind.i64.wrap ((s:Int)*(u:Int))=(su:Int):=by rw[show(s:Int)*(u:Int)=(su:Int)by rw[<-J];push_cast;rfl];exact IntWalk.i64_in _ (by omega)
    have m2:IntKind.i64.wrap ((s:Int)*(v:Int))=(sv:Int):=by rw[show(s:Int)*(v:Int)=(sv:Int)by rw[<-M];push_cast;rfl];exact IntWalk.i64_in _ (by omega)
    have m3:(su:Int).tmod (n:Int)=(x:Int):=by rw[Int.tmod_eq_emod_of_nonneg (by omega),<-hx];push_cast;rfl
    have m4:(sv:Int).tmod (n:Int)=(y:Int):=by rw[Int.tmod_eq_emod_of_nonneg (by omega),<-hy];push_cast;rfl
    obtain⟨z,hz⟩:∃z,M0 x y u v=z:=⟨_,rfl⟩
    rw[J,M,hx,hy,hz]at cB;have hD:=Kh (λW=>(by rw[<-hz];exact HC.1 x y 0 u v 0 W:Calls prog 194 #[.agg #[.int .i64 (x:Int),.int .i64 (y:Int),.int .i64 0],.agg #[.int .i64 (u:Int),.int .i64 (v:Int),.int .i64 0]] W λe w'=>e=.returned (.int .i64 z)/\Below W.heap.size W w'));have nB:n≠0:=by omega
    clear J M hx hy hz;have y0:=cG.1.at_ 0 rfl;go_upto_region 6 with(fail)
    refine Lg (λW=>W.cell? ⟨gl,0,none⟩=some (.int .i64 (u:Int))) (λW hb=>Av hb y0) (λcC hHeld0=>?_);refine Ap 0 ?_;refine Ap 1 ?_;refine Ap 2 ?_;refine Ap 3 ?_;refine Ap 4 ?_;refine Ap 5 ?_;refine Ap 6 ?_;refine Ap 7 ?_;refine Ap 8 ?_;refine Ap 9 ?_;refine Ap 10 ?_;refine Hq 11 rfl (λK hK=>?_);focus(go_simp;refine hK.out _ _ ?_ (λhHeld1=>?_))
    focus((try dsimp only);exact cC.1 _ ((Below.refl _ U).drew.alloc (nL _) _))
    focus(clear hK K;(try simp only[Act.put,Bn,Bp,Bo]))
    refine Le 12 rfl (λK hK=>?_);go_simp
    refine hK.out _ _ ?_;clear hK K
    (try simp only[Act.put,Bn,Bp,Bo])
    obtain⟨X5,aX⟩:=Qk U #[.int .i64 x,.int .i64 y,.int .i64 0] 213;obtain⟨w5,bY⟩:∃w5,(U.alloc (.cells #[.int .i64 x,.int .i64 y,.int .i64 0] 213)).drew=w5:=⟨_,rfl⟩
    have bA:Below (U.alloc (.cells #[.int .i64 x,.int .i64 y,.int .i64 0] 213)).heap.size (U.alloc (.cells #[.int .i64 x,.int .i64 y,.int .i64 0] 213)) w5:=bY▸(Below.refl _ _).drew;have X6:=X5.below_ bA X5.lt;have O:Below U.heap.size U w5:=aX.trans (bA.mono aX.size);rw[bY];obtain⟨g5,dC⟩:∃g5,U.heap.size=g5:=⟨_,rfl⟩
    rw[dC]at X6 ⊢;have gS:=bt V O;have Y5:=bk cG O;have x0:=X6.at_ 0 rfl;have x1:=X6.at_ 1 rfl;have x2:=X6.at_ 2 rfl;have hY:=Y5.at_ 0 rfl;have hZ:=Y5.at_ 1 rfl;have iL:=Y5.at_ 2 rfl;clear X5 aX bA bY O X6 Y5 dC y0 cC hHeld0;go_wp2_with fail
    refine(hD.1 w5).mono ?_;rintro e w6 ⟨rfl,O⟩;have gU:=bt gS O;have oE:¬z<0:=Int.not_lt.2 cB.1;have hO:IntKind.i64.wrap ((s:Int)+1)=((s+1:Nat):Int):=by rw[show(s:Int)+1=((s+1:Nat):Int)by push_cast;rfl];exact IntWalk.i64_in _ (by omega)
    clear O x0 x1 x2 hY hZ iL;go_wp2;go_roundw
    case rel=>exact⟨s+1,rfl,by go_num,by omega,by omega,gU.1⟩
    case measure=>simp[intOf];omega
   ·have nW:((g:Int) != 1)=true:=by rw[bne_iff_ne];omega
    have hO:IntKind.i64.wrap ((s:Int)+1)=((s+1:Nat):Int):=by rw[show(s:Int)+1=((s+1:Nat):Int)by push_cast;rfl];exact IntWalk.i64_in _ (by omega)
    go_wp2;go_roundw
    case rel=>exact⟨s+1,rfl,by go_num,by omega,by omega,V.1⟩
    case measure=>simp[intOf];omega
  ·have dY:¬(s:Int)<n:=by omega
   go_wp2_with fail
   refine(hG.1 w3).mono ?_;rintro e U ⟨⟨k,rfl,nX,hk⟩,I⟩
   have dE:n≠1->k=1:=λbE=>by
    obtain⟨q,hq⟩:=hk;rcases Int.lt_trichotomy q 0 with h|h|h
    ·have h2:(n:Int)*q<=n*(-1):=Int.mul_le_mul_of_nonneg_left (by omega) (by omega)
     omega
    ·rw[h,Int.mul_zero]at hq;omega
    ·have h2:(n:Int)*1<=n*q:=Int.mul_le_mul_of_nonneg_left (by omega) (by omega)
     omega
   have X4:=bk cD I;have Y4:=bk cF I;have V:=bt gP I;have x0:=X4.at_ 0 rfl;have x1:=X4.at_ 1 rfl;have x2:=X4.at_ 2 rfl;have y0:=Y4.at_ 0 rfl;have y1:=Y4.at_ 1 rfl;have y2:=Y4.at_ 2 rfl;have f0:=X4.free_ 0;have f1:=X4.free_ 1;have f2:=X4.free_ 2;have k2:=Y4.free_ 2;have hN:=E.1.2.2;have mE:gl≠gr:=λh=>hN h.symm
   have lx:=X4.lt;have ly:=Y4.lt;clear hk I;by_cases bE:n=1
   ·subst bE
    clear dE;go_wp2;have Z:=Kh (Dm (w:=((U.setCell ⟨gl,2,none⟩ (.int .i64 (k:Int))).setCell ⟨gl,2,none⟩ (.int .i64 1))) (R:=gr) (v0:=.int .i64 (u:Int)) (v1:=.int .i64 (v:Int)) (v2:=.int .i64 1) (Ak (Ak (by rw[x0];rfl))) (Ak (Ak (by rw[x1];rfl))) (Ak (Ak (by rw[x2];rfl))));obtain⟨e0,e1,e2⟩:=Z.1;try simp only[Exit.inBlock,Exit.then]
    refine bodyPost_ret (by simp[results,results191,go_sem,e0,e1,e2];try rfl) rfl ?_;exact⟨rfl,((((V.1.setCell E.1.2.1 _).setCell E.1.2.1 _).setCell E.1.1 _).setCell E.1.1 _).setCell E.1.1 _⟩
   ·obtain rfl:=dE bE
    have nY:((n:Int)==1)=false:=beq_eq_false_iff_ne.2 (by omega);go_wp2;have Z:=Kh (Dm (w:=(U.setCell ⟨gl,2,none⟩ (.int .i64 1))) (R:=gr) (v0:=.int .i64 (u:Int)) (v1:=.int .i64 (v:Int)) (v2:=.int .i64 1) (Ak (by rw[x0];rfl)) (Ak (by rw[x1];rfl)) (Ak (by rw[x2];rfl)));obtain⟨e0,e1,e2⟩:=Z.1;try simp only[Exit.inBlock,Exit.then]
    refine bodyPost_ret (by simp[results,results191,go_sem,e0,e1,e2];try rfl) rfl ?_;exact⟨rfl,(((V.1.setCell E.1.2.1 _).setCell E.1.1 _).setCell E.1.1 _).setCell E.1.1 _⟩
theorem Ud (n p a u v:Nat) (w:World) (h0:0<n) (hn:n<=120) (hp:p<(pts n (n*n)).length) (ha:(pts n (n*n)).getD p 0=a) (hu:a / n=u) (hv:a % n=v):
  Calls prog 154 #[.int .i64 n,.int .i64 u,.int .i64 v] w λe w'=>e=.returned (.tuple #[.agg #[.int .i64 (u:Int),.int .i64 (v:Int),.int .i64 1],.int .i64 0])/\Below w.heap.size w w':=by
 have hm:=Bl hp;rw[ha]at hm;have M:=Jg (Ij hm).1;have V:=Gm hm;have hf:=hm;rw[B8 h0 _ (nL _),List.mem_filter]at hf;simp only[Bool.and_eq_true]at hf;have cM:=Kh (λW=>Wt n a u v W h0 hn hf.2.2 hu hv V);have cX:u<n:=by rw[<-hu];exact Nat.div_lt_of_lt_mul V
 have dC:v<n:=by rw[<-hv];exact Nat.mod_lt _ h0
 rw[hu,hv]at M;obtain⟨g,hg⟩:∃g,Nat.gcd u v=g:=⟨_,rfl⟩
 rw[hg]at M;have HG:=Kh (show((Int.gcd (u:Int) (v:Int):Nat):Int)=g by rw[Int.gcd_natCast_natCast,hg]);have cI:=Kh (show((Int.gcd (g:Int) (n:Int):Nat):Int)=1 by rw[Int.gcd_natCast_natCast,M];rfl)
 have eY:g<=120:=by
  rcases Nat.eq_zero_or_pos u with h|h
  ·rw[h,Nat.gcd_zero_left]at hg;omega
  ·have:=Nat.gcd_le_left v h;omega
 clear hm M V hf hp ha hu hv hg;go_enter func154,ntmps154
 go_wp2_with fail
 obtain⟨w0,bE,X,bA⟩:=bx1 w #[.int .i64 0,.int .i64 0,.int .i64 0] 213;rw[bE];obtain⟨gr,Z⟩:∃x,w.heap.size=x:=⟨_,rfl⟩
 rw[Z]at X;try rw[Z]
 have cS:=Kh X;have cD:=Kh bA;have U:=Kh (show w.heap.size<=gr by omega);clear bE X bA Z;refine(Sc n w0 (by omega) (by omega)).mono ?_;rintro e w' ⟨rfl,E⟩;obtain rfl:w0=w':=E.symm;go_wp2_with fail
 refine(eO u w0 (by omega) (by omega)).mono ?_;rintro e w' ⟨rfl,E⟩;obtain rfl:w0=w':=E.symm;go_wp2_with fail
 refine(eO v w0 (by omega) (by omega)).mono ?_;rintro e w' ⟨rfl,E⟩;obtain rfl:w0=w':=E.symm;go_wp2_with fail
 refine(Ec (u:Int) (v:Int) w0 (by omega) (by omega) (by omega) (by omega)).mono ?_;rw[HG.1];rintro e w1 ⟨rfl,nd,J⟩;have aK:=Kh (show Below w0.heap.size w0 w1 by rw[J];exact Aa (Below.refl _ _) nd);clear J;go_wp2_with fail
 refine(Ec (g:Int) (n:Int) w1 (by omega) (by omega) (by omega) (by omega)).mono ?_;rw[cI.1];rintro e w2 ⟨rfl,dE,J⟩;have aN:=Kh (aK.1.trans ((show Below w1.heap.size w1 w2 by rw[J];exact Aa (Below.refl _ _) dE).mono aK.1.size));clear J;go_wp2_with fail
 refine(Wv u n w2 cX (by omega)).mono ?_;rintro e w' ⟨rfl,E⟩;obtain rfl:w2=w':=E.symm;go_wp2_with fail
 refine(Wv v n w2 dC (by omega)).mono ?_;rintro e w' ⟨rfl,E⟩;obtain rfl:w2=w':=E.symm;go_wp2_with fail
 refine(cM.1 w2).mono ?_;rintro e w3 ⟨rfl,bB⟩;have I:=aN.1.trans (bB.mono aN.1.size);have O:=bk cS I;have cF:=bt cD I;have x0:=O.at_ 0 rfl;have x1:=O.at_ 1 rfl;have x2:=O.at_ 2 rfl;have f0:=O.free_ 0;have f1:=O.free_ 1;have f2:=O.free_ 2;have lx:=O.lt;clear bB I O;go_wp2;have cG:=Kh (Dm (w:=w3) (R:=gr) (v0:=.int .i64 (u:Int)) (v1:=.int .i64 (v:Int)) (v2:=.int .i64 1) (by rw[x0];rfl) (by rw[x1];rfl) (by rw[x2];rfl));obtain⟨e0,e1,e2⟩:=cG.1;try simp only[Exit.inBlock,Exit.then]
 refine bodyPost_ret (by simp[results,results154,go_sem,e0,e1,e2];try rfl) rfl ?_;exact⟨rfl,((cF.1.setCell (p:=⟨gr,0,none⟩) U.1 _).setCell (p:=⟨gr,1,none⟩) U.1 _).setCell (p:=⟨gr,2,none⟩) U.1 _⟩
theorem aU (n p a u v:Nat) (w:World) (h0:0<n) (hn:n<=120) (hp:p<(pts n (n*n)).length) (h:(pts n (n*n)).getD p 0=a) (hu:a / n=u) (hv:a % n=v):
  Calls prog 108 #[.int .i64 n,.int .i64 u,.int .i64 v] w λe w'=>e=.returned (.tuple #[.int .i64 p,.int .i64 0])/\Below w.heap.size w w':=by
 have HN:=Kh (λW=>Ud n p a u v W h0 hn hp h hu hv);have HF:=Kh (λW=>fT n p a u v W h0 hn hp h hu hv);clear hp h hu hv;go_enter func108,ntmps108
 go_wp2_with fail
 refine(HN.1 w).mono ?_;rintro e w1 ⟨rfl,I⟩;have U:=Kh I;clear I;go_upto_region 2 with(fail)
 obtain⟨w2,O,X,J⟩:=bx1 w1 #[.int .i64 (u:Int),.int .i64 (v:Int),.int .i64 1] 213;rw[O];obtain⟨gr,E⟩:∃x,w1.heap.size=x:=⟨_,rfl⟩
 rw[E]at X;try rw[E]
 have V:=bt U J;have x0:=X.at_ 0 rfl;have x1:=X.at_ 1 rfl;have x2:=X.at_ 2 rfl;clear O X J E;go_wp2_with fail
 refine(HF.1 w2).mono ?_;rintro e w3 ⟨rfl,M⟩;have Z:=bt V M;clear M;go_wp2;go_ret2
 exact⟨rfl,Z.1⟩
theorem fM (n wt:Nat) (D:Int) (j q t a u v:Nat) (w:World) (hT:Tab w) (bY:Pl.check n ((wt:Int)+2) D=0) (hj:j<(wt+1)*(pts n (n*n)).length) (hq:j % (pts n (n*n)).length=q) (ht:j / (pts n (n*n)).length=t) (ha:(pts n (n*n)).getD q 0=a) (hu:a / n=u) (hv:a % n=v):
  Calls prog 107 #[.agg #[.int .i64 n,.int .i64 ((wt:Int)+2),.int .i64 D],.int .i64 j] w λe w'=>e=.returned (.tuple #[.agg #[.int .i64 t,.int .i64 u,.int .i64 v],.int .i64 0])/\Below w.heap.size w w':=by
 obtain⟨h1,h2,h3,h4,h5,h6⟩:=Ba bY;have V:(pts n (n*n)).length<=14400:=nM (B9 n (n*n)) (by have:n*n<=120*120:=Nat.mul_le_mul (by omega) (by omega);omega);have aK:=Kh (λW (E:Below w.heap.size w W)=>Gf n wt D W (hT.below E) (by omega) (by omega) (by omega) (by omega) (by omega) bY);have gN:wt<=22:=by omega
 obtain⟨L,hL⟩:∃L,pts n (n*n)=L:=⟨_,rfl⟩
 rw[hL]at aK V hj hq ht ha
 have M:0<L.length:=by
  rcases Nat.eq_zero_or_pos L.length with h|h
  ·rw[h,Nat.mul_zero]at hj;omega
  ·exact h
 have cX:q<L.length:=by rw[<-hq];exact Nat.mod_lt _ M
 have cG:=Kh (show L[q]?=some a by rw[<-ha,List.getD_eq_getElem?_getD,List.getElem?_eq_getElem cX];rfl);have aD:=Kh (λT B f W (h:WorldAt W T B n wt L f)=>J0 T B n wt L f W h gN V)
 have cF:=Kh (λT B f W (h:WorldAt W T B n wt L f)=>(show ∃g cap,W.cell? ⟨T,2,none⟩=some (.slice (some ⟨g,0,none⟩) L.length cap)/\W.cell? ⟨g,q*3,none⟩=some (.int .i64 (u:Int))/\W.cell? ⟨g,q*3+1,none⟩=some (.int .i64 (v:Int))/\W.cell? ⟨g,q*3+2,none⟩=some (.int .i64 1)from by
  obtain⟨p,c,e2,hp⟩:=h.c2;rcases hp with⟨e,_⟩ |⟨g,cap,e,_,hc⟩
  ·rw[e]at M;exact absurd M (by simp)
  ·injection e with e1 e2' e3
   subst e1;obtain⟨b1,b2,b3⟩:=hc q a cG.1;rw[hu]at b1;rw[hv]at b2;exact⟨g,c,e2,b1,b2,b3⟩))
 obtain⟨N,hN⟩:∃N,L.length=N:=⟨_,rfl⟩
 rw[hN]at V hj hq ht M cX aD cF;obtain⟨C,hC⟩:∃C,(wt+1)*N=C:=⟨_,rfl⟩
 rw[hC]at hj aD;have mE:C<=23*14400:=by rw[<-hC];exact Nat.mul_le_mul (by omega) V
 have nT:t<=331200:=by rw[<-ht];exact nM (Nat.div_le_self _ _) (by omega)
 have m1:(j:Int).tmod (N:Int)=(q:Int):=by rw[Int.tmod_eq_emod_of_nonneg (by omega),<-hq];push_cast;rfl
 have m2:(j:Int).tdiv (N:Int)=(t:Int):=by rw[Int.tdiv_eq_ediv_of_nonneg (by omega),<-ht];push_cast;rfl
 have m3:IntKind.i64.wrap (t:Int)=(t:Int):=IntWalk.i64_in _ (by omega);have nA:(N:Int)≠0:=by omega
 have nB:N≠0:=by omega
 have nD:¬(j:Int)<0:=by omega
 have nQ:¬(C:Int)<=(j:Int):=by omega
 have nS:(q:Int)<(N:Int):=by omega
 clear hT bY h1 h2 h3 h4 h5 h6 hL hN hC hq ht ha hu hv cG;go_enter func107,ntmps107
 go_wp2_with fail
 obtain⟨w0,dE,_,X,cM⟩:=bx2 w #[.int .i64 n,.int .i64 ((wt:Int)+2),.int .i64 D] 23 #[.int .i64 0,.int .i64 0,.int .i64 0] 180;rw[dE];obtain⟨I,cB⟩:∃x,w.heap.size+1=x:=⟨_,rfl⟩
 rw[cB]at X;try rw[cB]
 have HX:=Kh X;have Z:=Kh cM;have aN:=Kh (show w.heap.size<=I by omega);clear dE X cM cB;refine(aK.1 w0 Z.1).mono ?_;rintro e w1 ⟨⟨T,rfl,dY⟩,bC⟩;have cI:=Kh (bk HX bC);have cD:=bt Z bC;have bA:=Kh dY;clear dY bC HX Z aK;go_wp2_with fail
 refine(aD.1 T _ _ w1 bA.1).mono ?_;rintro e J ⟨rfl,nd,cT⟩;have O:Below w1.heap.size w1 J:=by rw[cT];exact Aa (Below.refl _ _) nd
 have gA:=Kh (bk cI O);have eX:=bt cD O;obtain⟨g,cap,t2,l0,l1,l2⟩:=cF.1 T _ _ J (bA.1.keep (nL _) O);clear cT O cI cD bA;go_upto_region 6 with(fail)
 refine Lg (λW=>W.cell? ⟨T,2,none⟩=some (.slice (some ⟨g,0,none⟩) N cap)/\W.cell? ⟨g,q*3,none⟩=some (.int .i64 (u:Int))/\W.cell? ⟨g,q*3+1,none⟩=some (.int .i64 (v:Int))/\W.cell? ⟨g,q*3+2,none⟩=some (.int .i64 1)) (λW E=>⟨Av E t2,Av E l0,Av E l1,Av E l2⟩) (λaX hHeld0=>?_);refine Ap 0 ?_;refine Ap 1 ?_;refine Ap 2 ?_;refine Ap 3 ?_;refine Ap 4 ?_;refine Ap 5 ?_;refine Ap 6 ?_;refine Ap 7 ?_;refine Ap 8 ?_;refine Ap 9 ?_;refine Ap 10 ?_;refine Ap 11 ?_;refine Ap 12 ?_;refine Hq 13 rfl (λK hK=>?_);focus(go_simp;refine hK.out _ _ ?_ (λhHeld1=>?_))
 focus((try dsimp only);exact aX.1 _ ((Below.refl _ J).drew.alloc (nL _) _))
 focus(clear hK K;(try simp only[Act.put,Bn,Bp,Bo]))
 refine Le 14 rfl (λK hK=>?_);go_simp
 refine hK.out _ _ ?_;clear hK K
 (try simp only[Act.put,Bn,Bp,Bo])
 obtain⟨X3,bE⟩:=Qk J #[.int .i64 (u:Int),.int .i64 (v:Int),.int .i64 1] 213;obtain⟨w3,cC⟩:∃w3,(J.alloc (.cells #[.int .i64 (u:Int),.int .i64 (v:Int),.int .i64 1] 213)).drew=w3:=⟨_,rfl⟩
 have cA:Below (J.alloc (.cells #[.int .i64 (u:Int),.int .i64 (v:Int),.int .i64 1] 213)).heap.size (J.alloc (.cells #[.int .i64 (u:Int),.int .i64 (v:Int),.int .i64 1] 213)) w3:=cC▸(Below.refl _ _).drew;have X4:=X3.below_ cA X3.lt;have U:Below J.heap.size J w3:=bE.trans (cA.mono bE.size);rw[cC];obtain⟨gp,cS⟩:∃x,J.heap.size=x:=⟨_,rfl⟩
 rw[cS]at X4 ⊢;have XR:=bk gA U;have eY:=bt eX U;have t2:=Ad U t2;have x0:=X4.at_ 0 rfl;have x1:=X4.at_ 1 rfl;have r0:=XR.at_ 0 rfl;have r1:=XR.at_ 1 rfl;have r2:=XR.at_ 2 rfl;have f0:=XR.free_ 0;have f1:=XR.free_ 1;have f2:=XR.free_ 2;clear X3 bE cC cA X4 U cS XR l0 l1 l2 aX hHeld0 hHeld1;go_upto_region 7 with(fail)
 refine kX [13] (λW=>W.cell? ⟨T,2,none⟩=some (.slice (some ⟨g,0,none⟩) N cap)/\W.cell? ⟨gp,0,none⟩=some (.int .i64 (u:Int))/\W.cell? ⟨gp,1,none⟩=some (.int .i64 (v:Int))/\W.cell? ⟨I,0,none⟩=some (.int .i64 0)/\W.frozen? ⟨I,0,none⟩=false/\W.cell? ⟨I,1,none⟩=some (.int .i64 0)/\W.frozen? ⟨I,1,none⟩=false/\W.cell? ⟨I,2,none⟩=some (.int .i64 0)/\W.frozen? ⟨I,2,none⟩=false) (λW E=>⟨Av E t2,Av E x0,Av E x1,Av E r0,Ab E (by rw[r0];rfl) (f0),Av E r1,Ab E (by rw[r1];rfl) (f1),Av E r2,Ab E (by rw[r2];rfl) (f2)⟩) (λaX hHeld0=>?_);refine Dh 0 ?_;refine Dh 1 ?_;refine Dh 2 ?_;refine Dh 3 ?_;refine Dh 4 ?_;refine Dh 5 ?_;refine Dh 6 ?_;refine Dh 7 ?_;refine Dh 8 ?_;refine Dh 9 ?_;refine Dh 10 ?_;refine Dh 11 ?_;refine kZ 12 rfl (λK hK=>?_);go_simp
 refine hK.out _ _ ?_;clear hK K
 (try simp only[Act.put,Bn,Bp,Bo])
 refine dW 13 ?_;refine kA ?_;go_wp2
 (try simp only[Exit.inBlock,Exit.then])
 exact bodyPost_ret (v:=.tuple #[.agg #[.int .i64 t,.int .i64 u,.int .i64 v],.int .i64 0]) (by rw[results_cell_tmp rfl];go_simp) rfl ⟨rfl,Aa (((eY.1.setCell (p:=⟨I,0,none⟩) aN.1 _).setCell (p:=⟨I,1,none⟩) aN.1 _).setCell (p:=⟨I,2,none⟩) aN.1 _) 1⟩
end
section
open Eli
structure G0 (n:Nat) (a b c d:Int):Prop where
 det:a*d - b*c=1
 low:(n:Int)∣c
theorem eH {n:Nat} {a b c d:Int} (hn:0<n) (h:G0 n a b c d):∃s:Nat,1<=s/\s<=n/\pun n s=true/\(s:Int) % n=d % n/\s % n=(d % n).toNat % n:=by
 have hr:((d % n).toNat:Int)=d % n:=Int.toNat_of_nonneg (Int.emod_nonneg _ (by omega));obtain⟨r,E⟩:∃r,(d % n).toNat=r:=⟨_,rfl⟩
 rw[E]at hr ⊢
 have hp:pun n r=true:=by
  have M:((Nat.gcd r n:Nat):Int)∣r:=Int.natCast_dvd_natCast.2 (Nat.gcd_dvd_left ..);have I:((Nat.gcd r n:Nat):Int)∣n:=Int.natCast_dvd_natCast.2 (Nat.gcd_dvd_right ..)
  have O:((Nat.gcd r n:Nat):Int)∣d:=by
   have e:d=n*(d / n)+r:=by rw[hr];exact(Int.mul_ediv_add_emod d n).symm
   rw[e];exact Int.dvd_add (Int.dvd_trans I (Int.dvd_mul_right _ _)) M
  have U:((Nat.gcd r n:Nat):Int)∣1:=by
   rw[<-h.det];exact Int.dvd_sub (Int.dvd_trans O (Int.dvd_mul_left _ _)) (Int.dvd_trans (Int.dvd_trans I h.low) (Int.dvd_mul_left _ _))
  simp only[pun,beq_iff_eq];exact Nat.dvd_one.1 (Int.natCast_dvd_natCast.1 U)
 obtain⟨s,V,Z,h3,J⟩:=Ej hn hp;have h5:(s:Int) % n=(r:Int) % n:=by exact_mod_cast congrArg (λz:Nat=>(z:Int)) J
 exact⟨s,V,Z,h3,by rw[h5,hr,Int.emod_emod],J⟩
theorem Xx {k d:Int} {m:Nat} (U:0<m) (I:k.natAbs=m) (hg:Int.gcd k d=1):∃r:Nat,r<m/\(m:Int)∣r*d - 1:=by
 have V:=Int.toNat_of_nonneg (Int.emod_nonneg d (show(m:Int)≠0 by omega));obtain⟨s,J⟩:∃s,(d % m).toNat=s:=⟨_,rfl⟩
 rw[J]at V;have E:=Int.mul_ediv_add_emod d m;rw[<-V]at E
 have h1:Nat.gcd s m=1:=by
  have g1:((Nat.gcd s m:Nat):Int)∣s:=Int.natCast_dvd_natCast.2 (Nat.gcd_dvd_left ..);have M:((Nat.gcd s m:Nat):Int)∣m:=Int.natCast_dvd_natCast.2 (Nat.gcd_dvd_right ..);have g3:((Nat.gcd s m:Nat):Int)∣k:=Int.dvd_natAbs.1 (by rw[I];exact M);have g4:((Nat.gcd s m:Nat):Int)∣d:=by rw[<-E];exact Int.dvd_add (Int.dvd_trans M (Int.dvd_mul_right _ _)) g1
  have O:=Int.dvd_coe_gcd g3 g4;rw[hg]at O;exact Nat.dvd_one.1 (Int.natCast_dvd_natCast.1 O)
 obtain⟨r,_,_,_,h2⟩:=Kz m s U h1;have h3:((r*s:Nat):Int) % m=(1:Nat) % m:=by exact_mod_cast congrArg (λz:Nat=>(z:Int)) h2
 obtain⟨e,he⟩:=Int.dvd_of_emod_eq_zero (Int.emod_eq_emod_iff_emod_sub_eq_zero.1 h3);have h4:=Nat.div_add_mod r m;have h5:(m:Int)*((r / m:Nat):Int)+((r % m:Nat):Int)=r:=by exact_mod_cast congrArg (λz:Nat=>(z:Int)) h4
 rw[Int.natCast_mul]at he;refine⟨r % m,Nat.mod_lt _ U,e+r*(d / m) - ((r / m:Nat):Int)*d,?_⟩;obtain⟨q,hq⟩:∃q,d / m=q:=⟨_,rfl⟩
 rw[hq]at E ⊢;obtain⟨t,Z⟩:∃t:Int,((r / m:Nat):Int)=t:=⟨_,rfl⟩
 obtain⟨v,h⟩:∃v:Int,((r % m:Nat):Int)=v:=⟨_,rfl⟩
 rw[Z,h]at h5;rw[Z,h];have e1:v=r - m*t:=by omega
 have e2:(r:Int)*s=1+m*e:=by omega
 rw[e1];have e3:(r:Int)*d=r*(m*q)+r*s:=by rw[<-Int.mul_add,E]
 grind
theorem Xp {x y:Int×Int} (h:Nb x y):Int.gcd x.1 x.2=1/\Int.gcd y.1 y.2=1:=by
 have one:∀u v p q:Int,u*p+v*q=1->Int.gcd u v=1:=λu v p q h=>by
  have E:((Int.gcd u v:Nat):Int)∣1:=by
   rw[<-h];exact Int.dvd_add (Int.dvd_trans (Int.gcd_dvd_left ..) (Int.dvd_mul_right _ _)) (Int.dvd_trans (Int.gcd_dvd_right ..) (Int.dvd_mul_right _ _))
  exact Nat.dvd_one.1 (Int.natCast_dvd_natCast.1 E)
 rcases h with h|h
 ·exact⟨one _ _ (-y.2) y.1 (by rw[<-h];grind),one _ _ x.2 (-x.1) (by rw[<-h];grind)⟩
 ·exact⟨one _ _ y.2 (-y.1) (by grind),one _ _ (-x.2) x.1 (by grind)⟩
def img (a b c d:Int) (x:Int×Int):Int×Int:=low (a*x.1+b*x.2) (c*x.1+d*x.2)
theorem G1 {a b c d:Int} (h:a*d - b*c=1) {x:Int×Int} (hx:Int.gcd x.1 x.2=1):
  Gd (img a b c d x)/\(((img a b c d x).1=a*x.1+b*x.2/\(img a b c d x).2=c*x.1+d*x.2)∨((img a b c d x).1=-(a*x.1+b*x.2)/\(img a b c d x).2=-(c*x.1+d*x.2))):=by
 have hg:Int.gcd (a*x.1+b*x.2) (c*x.1+d*x.2)=1:=by
  obtain⟨A,hA⟩:∃A,a*x.1+b*x.2=A:=⟨_,rfl⟩
  obtain⟨B,hB⟩:∃B,c*x.1+d*x.2=B:=⟨_,rfl⟩
  rw[hA,hB];have U:x.1=A*d+B*(-b):=by rw[<-hA,<-hB];grind
  have V:x.2=A*(-c)+B*a:=by rw[<-hA,<-hB];grind
  have Z:((Int.gcd A B:Nat):Int)∣x.1:=by
   rw[U];exact Int.dvd_add (Int.dvd_trans (Int.gcd_dvd_left ..) (Int.dvd_mul_right _ _)) (Int.dvd_trans (Int.gcd_dvd_right ..) (Int.dvd_mul_right _ _))
  have h2:((Int.gcd A B:Nat):Int)∣x.2:=by
   rw[V];exact Int.dvd_add (Int.dvd_trans (Int.gcd_dvd_left ..) (Int.dvd_mul_right _ _)) (Int.dvd_trans (Int.gcd_dvd_right ..) (Int.dvd_mul_right _ _))
  have O:=Int.dvd_coe_gcd Z h2;rw[hx]at O;exact Nat.dvd_one.1 (Int.natCast_dvd_natCast.1 O)
 obtain⟨k,u,v,hk,J,M,hq,E,I,_⟩:=Ef (p:=a*x.1+b*x.2) (q:=c*x.1+d*x.2) (by rw[hg];decide);have e:img a b c d x=(u,v):=E;rw[e];refine⟨I,?_⟩;rw[M,hq,Int.gcd_mul_left,J,Nat.mul_one]at hg;rcases(show k=1∨k=-1 by omega)with rfl|rfl
 ·left;rw[M,hq,Int.one_mul,Int.one_mul];exact⟨rfl,rfl⟩
 ·right;rw[M,hq];constructor <;>(dsimp only;omega)
section
variable {n wt:Nat} {D:Int} {x:Nat->Rat} {Q:Nat->Rat} {a b c d:Int} {s:Nat}
theorem S5 (E:Pl.check n ((wt:Int)+2) D=0) (hg:G0 n a b c d) (M:1<=s) (O:s<=n) (U:pun n s=true) (V:(s:Int) % n=d % n) {p q r t:Int} (Z:p*t - q*r=1):
  ph n wt D x (subst Q wt d (-b) (-c) a (wt+1)) (a*p+b*r) (a*q+b*t) (c*p+d*r) (c*q+d*t)=(Pl.kroP D s:Rat)*ph n wt D x Q p q r t:=by
 have I:=hg.det
 have J:∀z y:Int,(c*z+d*y) % (n:Int)=((s:Int)*y) % n:=λz y=>by
  rw[Int.emod_eq_emod_iff_emod_sub_eq_zero];have e:c*z+d*y - s*y=c*z - (s - d)*y:=by grind
  rw[e];refine Int.emod_eq_zero_of_dvd (Int.dvd_sub (Int.dvd_trans hg.low (Int.dvd_mul_right _ _)) (Int.dvd_trans (Int.dvd_of_emod_eq_zero ?_) (Int.dvd_mul_right _ _)));exact Int.emod_eq_emod_iff_emod_sub_eq_zero.1 V
 unfold ph;rw[Lj,show d*(a*p+b*r)+-b*(c*p+d*r)=p by grind,show d*(a*q+b*t)+-b*(c*q+d*t)=q by grind,show -c*(a*p+b*r)+a*(c*p+d*r)=r by grind,show -c*(a*q+b*t)+a*(c*q+d*t)=t by grind,Me E (Db (n:=n) (by omega) Z) M O U (J p r) (J q t),Gr]
theorem Kv {y z:Int×Int} (h:Nb y z):Aj n wt D x Q (-y.1,-y.2) z=Aj n wt D x Q y z:=by
 unfold Aj;dsimp only;rcases h with h|h
 ·rw[if_neg (by grind),if_pos h,Int.neg_neg,Int.neg_neg]
 ·rw[if_pos (by grind),if_neg (by omega)]
theorem Kw (E:Pl.check n ((wt:Int)+2) D=0) (J:RelZ n wt D x) {y z:Int×Int} (h:Nb y z):Aj n wt D x Q y (-z.1,-z.2)=Aj n wt D x Q y z:=by
 unfold Aj;dsimp only;rcases h with h|h
 ·rw[if_neg (by grind),if_pos h]
  exact Km E J (by grind)
 ·rw[if_pos (by grind),if_neg (by omega)]
  have I:=Km (Q:=Q) E J (a:=z.1) (b:=-y.1) (c:=z.2) (d:=-y.2) (by grind);rw[Int.neg_neg,Int.neg_neg]at I;exact I
theorem iC (E:a*d - b*c=1) {y z:Int×Int} (h:Nb y z):Nb (a*y.1+b*y.2,c*y.1+d*y.2) (a*z.1+b*z.2,c*z.1+d*z.2):=by
 have e:(a*z.1+b*z.2)*(c*y.1+d*y.2) - (a*y.1+b*y.2)*(c*z.1+d*z.2)=(a*d - b*c)*(z.1*y.2 - y.1*z.2):=by grind
 rw[E,Int.one_mul]at e;unfold Nb at *;dsimp only;rw[e];exact h
theorem Nk {y z:Int×Int} (h:Nb y z):Nb (-y.1,-y.2) z:=by
 have e:z.1 * -y.2 - -y.1*z.2=-(z.1*y.2 - y.1*z.2):=by grind
 unfold Nb at *;dsimp only;rw[e];omega
theorem Nl {y z:Int×Int} (h:Nb y z):Nb y (-z.1,-z.2):=(Nk h.symm).symm
theorem Zt (E:Pl.check n ((wt:Int)+2) D=0) (hg:G0 n a b c d) (I:1<=s) (J:s<=n) (M:pun n s=true) (O:(s:Int) % n=d % n) {y z:Int×Int} (h:Nb y z):
  Aj n wt D x (subst Q wt d (-b) (-c) a (wt+1)) (a*y.1+b*y.2,c*y.1+d*y.2) (a*z.1+b*z.2,c*z.1+d*z.2)=(Pl.kroP D s:Rat)*Aj n wt D x Q y z:=by
 have e:(a*z.1+b*z.2)*(c*y.1+d*y.2) - (a*y.1+b*y.2)*(c*z.1+d*z.2)=(a*d - b*c)*(z.1*y.2 - y.1*z.2):=by grind
 rw[hg.det,Int.one_mul]at e;unfold Aj;dsimp only;rw[e];rcases h with h|h
 ·rw[if_pos h,if_pos h]
  exact S5 E hg I J M O h
 ·rw[if_neg (by omega),if_neg (by omega),show -(a*y.1+b*y.2)=a * -y.1+b * -y.2 by grind,show -(c*y.1+d*y.2)=c * -y.1+d * -y.2 by grind]
  exact S5 E hg I J M O (by grind)
theorem Zu (I:Pl.check n ((wt:Int)+2) D=0) (hR:RelZ n wt D x) (hg:G0 n a b c d) (h1:1<=s) (h2:s<=n) (h3:pun n s=true) (h4:(s:Int) % n=d % n) {y z:Int×Int} (h:Nb y z):
  Nb (img a b c d y) (img a b c d z)/\Aj n wt D x (subst Q wt d (-b) (-c) a (wt+1)) (img a b c d y) (img a b c d z)=(Pl.kroP D s:Rat)*Aj n wt D x Q y z:=by
 obtain⟨gy,gz⟩:=Xp h;have E:=iC hg.det h;rw[<-Zt (x:=x) (Q:=Q) I hg h1 h2 h3 h4 h];obtain⟨_,J⟩:=G1 hg.det gy;obtain⟨_,M⟩:=G1 hg.det gz;obtain⟨Y,hY⟩:∃Y:Int×Int,(a*y.1+b*y.2,c*y.1+d*y.2)=Y:=⟨_,rfl⟩
 obtain⟨Z,hZ⟩:∃Z:Int×Int,(a*z.1+b*z.2,c*z.1+d*z.2)=Z:=⟨_,rfl⟩
 have O:img a b c d y=Y∨img a b c d y=(-Y.1,-Y.2):=by
  rw[<-hY];rcases J with J|J
  ·left;exact Prod.ext J.1 J.2
  ·right;exact Prod.ext J.1 J.2
 have U:img a b c d z=Z∨img a b c d z=(-Z.1,-Z.2):=by
  rw[<-hZ];rcases M with M|M
  ·left;exact Prod.ext M.1 M.2
  ·right;exact Prod.ext M.1 M.2
 rw[hY,hZ]at E ⊢;rcases O with V|V <;> rcases U with e2|e2 <;> rw[V,e2]
 ·exact⟨E,rfl⟩
 ·exact⟨Nl E,Kw I hR E⟩
 ·exact⟨Nk E,Kv E⟩
 ·exact⟨Nk (Nl E),(Kv (Nl E)).trans (Kw I hR E)⟩
end
def Cu (x:Int×Int):Prop:=Gd x/\Int.gcd x.1 x.2=1
theorem Cu.inf:Cu (1,0):=⟨⟨Int.le_refl 0,λ_=>rfl⟩,by decide⟩
theorem Cu.zero:Cu (0,1):=⟨⟨by decide,λh=>absurd h (by decide)⟩,by decide⟩
theorem iK {x:Int×Int} (h:Cu x) (Z:0<x.2):∃y:Int×Int,y.1*x.2 - x.1*y.2=1/\0<=y.2/\y.2<x.2/\Cu y:=by
 obtain⟨m,V⟩:∃m:Nat,x.2.natAbs=m:=⟨_,rfl⟩
 obtain⟨r,hr,e,U⟩:=Xx (k:=x.2) (d:=-x.1) (m:=m) (by omega) V (by rw[Int.gcd_neg,Int.gcd_comm];exact h.2);have I:(m:Int)=x.2:=by omega
 rw[I]at U;have E:-e*x.2 - x.1*r=1:=by grind
 have hn:Nb x (-e,(r:Int)):=.inl E;refine⟨(-e,(r:Int)),E,Int.natCast_nonneg r,by show(r:Int)<x.2;omega,⟨Int.natCast_nonneg r,λJ=>?_⟩,(Xp hn).2⟩;have M:(r:Int)=0:=J;show -e=1;rw[M,Int.mul_zero,Int.sub_zero]at E;have O:x.2=1:=Int.eq_one_of_dvd_one (by omega) ⟨-e,by rw[Int.mul_comm];exact E.symm⟩;rw[O,Int.mul_one]at E;exact E
theorem J8 {P:Int×Int->Prop} (h1:P (1,0)) (h2:∀x y:Int×Int,Cu x->Cu y->0<x.2->y.1*x.2 - x.1*y.2=1->0<=y.2->y.2<x.2->P y->P x):∀x,Cu x->P x:=by
 have O:∀k:Nat,∀x:Int×Int,x.2.toNat<=k->Cu x->P x:=by
  intro k;induction k with
  | zero=>
   intro x M E;have I:=E.1.1;have J:x.2=0:=by omega
   have V:=E.1.2 J;obtain⟨p,q⟩:=x;dsimp only at J V;rw[J,V];exact h1
  | succ k ih=>
   intro x M E;rcases Int.lt_or_le 0 x.2 with I|I
   ·obtain⟨y,Z,h,g3,U⟩:=iK E I
    exact h2 x y E U I Z h g3 (ih y (by omega) U)
   ·exact ih x (by omega) E
 exact λx M=>O _ x (nL _) M
section
variable {n wt:Nat} {D:Int} {x:Nat->Rat} {Q:Nat->Rat} {a b c d:Int} {s:Nat}
theorem Zb (J:Pl.check n ((wt:Int)+2) D=0) (h:RelZ n wt D x) (hg:G0 n a b c d) (h1:1<=s) (h2:s<=n) (h3:pun n s=true) (h4:(s:Int) % n=d % n) {u v:Int×Int} (hu:Cu u) (hv:Cu v):
  Pot (Aj n wt D x (subst Q wt d (-b) (-c) a (wt+1))) (img a b c d v) - Pot (Aj n wt D x (subst Q wt d (-b) (-c) a (wt+1))) (img a b c d u)=(Pl.kroP D s:Rat)*(Pot (Aj n wt D x Q) v - Pot (Aj n wt D x Q) u):=by
 obtain⟨I,E⟩:∃I,Aj n wt D x (subst Q wt d (-b) (-c) a (wt+1))=I:=⟨_,rfl⟩
 obtain⟨st,M⟩:∃st,Aj n wt D x Q=st:=⟨_,rfl⟩
 have O:∀u,Cu u->Pot I (img a b c d u) - Pot I (img a b c d (1,0))=(Pl.kroP D s:Rat)*(Pot st u - Pot st (1,0)):=by
  refine J8 (by grind) (λz y hz hy h0 Z g2 g3 ih=>?_);have hn:Nb y z:=Nb.symm (.inl Z);obtain⟨e1,U⟩:=Zu (x:=x) (Q:=Q) J h hg h1 h2 h3 h4 hn;have V:=(P0 (Q:=subst Q wt d (-b) (-c) a (wt+1)) J h).diff _ _ _ (G1 hg.det hy.2).1 (G1 hg.det hz.2).1 e1 (nL _);have e4:=Ch (st:=st) Z g2 g3;rw[E,M]at U;rw[E]at V;rw[V]at U;rw[e4];grind
 rw[E,M];have k1:=O u hu;have k2:=O v hv;grind
end
theorem Fu {a b c d:Int} (h:a*d - b*c≠0) {x:Int×Int} (Z:Cu x):Int.gcd (a*x.1+b*x.2) (c*x.1+d*x.2)≠0:=by
 intro V;obtain⟨E,I⟩:=Int.gcd_eq_zero_iff.1 V
 have J:(a*d - b*c)*x.1=0:=by
  have:(a*d - b*c)*x.1=d*(a*x.1+b*x.2) - b*(c*x.1+d*x.2):=by grind
  rw[this,E,I];simp
 have M:(a*d - b*c)*x.2=0:=by
  have:(a*d - b*c)*x.2=a*(c*x.1+d*x.2) - c*(a*x.1+b*x.2):=by grind
  rw[this,E,I];simp
 have O:=(Int.mul_eq_zero.1 J).resolve_left h;have U:=(Int.mul_eq_zero.1 M).resolve_left h;have:=Z.2;rw[O,U]at this;simp at this
theorem Br {a b c d:Int} (h:a*d - b*c≠0) {x:Int×Int} (J:Cu x):Cu (img a b c d x):=by
 obtain⟨k,u,v,_,hg,_,_,I,E,_⟩:=Ef (Fu h J);have e:img a b c d x=(u,v):=I;rw[e];exact⟨E,hg⟩
theorem Gz {a b c d E I J M:Int} (h:a*d - b*c≠0) (U:E*M - I*J≠0) {x:Int×Int} (O:Cu x):img E I J M (img a b c d x)=img (E*a+I*c) (E*b+I*d) (J*a+M*c) (J*b+M*d) x:=
 U6 (Fu h O) (Fu U (Br h O))
theorem Yf {k:Int} {x:Int×Int} (J:k≠0) (E:Cu x):low (k*x.1) (k*x.2)=x:=by
 rw[Ni J E.2,if_neg];rintro(h |⟨I,M⟩)
 ·have:=E.1.1;omega
 ·have:=E.1.2 I;omega
theorem Nf {a b c d k:Int} {x y:Int×Int} (J:k≠0) (M:Cu y) (E:a*x.1+b*x.2=k*y.1) (I:c*x.1+d*x.2=k*y.2):img a b c d x=y:=by
 unfold img;rw[E,I];exact Yf J M
end
end Go.Proofs.YtenlbhlllgppmaaGreatDoor
