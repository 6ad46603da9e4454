/- Contract of manin.Relations: the relations between Manin symbols. -/
import Derived.Test.YtenlbhlllgppmaaGreatDoorC24
set_option linter.unusedSimpArgs false
set_option maxRecDepth 100000
set_option maxHeartbeats 8000000
namespace Go.Proofs.YtenlbhlllgppmaaGreatDoor
open Tryz
open Go.RowKit
def F9 (n wt:Nat) (L:List Nat) (f:Nat->Nat×Int) (r:Nat) (gs:List M4):Nat->Nat->Int
 | 0,k=>if k=r then 1 else 0
 | t+1,k=>F9 n wt L f r gs t k+L8 n wt L f (r / L.length) (r % L.length) (gs.getD t (0,0,0,0)) k
def Dk (q:Nat):List M4:=if q=0 then [gTurn]else [gThird,gTwice]
theorem Zh {n wt:Nat} {L:List Nat} {f:Nat->Nat×Int} {q r:Nat} (k:Nat) (hq:q<2) (hr:r<(wt+1)*L.length):Ks n wt L f (q*((wt+1)*L.length)+r) k=F9 n wt L f r (Dk q) (Dk q).length k:=by
 rcases(by omega:q=0∨q=1)with rfl|rfl
 ·unfold Ks;rw[Nat.zero_mul,Nat.zero_add,if_pos hr];rfl
 ·unfold Ks;rw[Nat.one_mul,if_neg (by omega),Nat.add_sub_cancel_left];rfl
def Qh (g:M4):Prop:=(-1<=g.1/\g.1<=1)/\(-1<=g.2.1/\g.2.1<=1)/\(-1<=g.2.2.1/\g.2.2.1<=1)/\(-1<=g.2.2.2/\g.2.2.2<=1)
theorem Sk (q t:Nat):Qh ((Dk q).getD t (0,0,0,0)):=by
 unfold Dk;split
 ·rcases t with _|t
  ·exact(show Qh gTurn by unfold Qh;decide)
  ·exact(show Qh (0,0,0,0)by unfold Qh;decide)
 ·rcases t with _|_|t
  ·exact(show Qh gThird by unfold Qh;decide)
  ·exact(show Qh gTwice by unfold Qh;decide)
  ·exact(show Qh (0,0,0,0)by unfold Qh;decide)
theorem Pa (q:Nat):(Dk q).length<=2:=by unfold Dk;split <;> decide
theorem Rq {n wt:Nat} {L:List Nat} {f:Nat->Nat×Int} {r:Nat} {gs:List M4} (E:TabOk L.length f) (hg:∀t,Qh (gs.getD t (0,0,0,0))) (I:wt<=22) (t k:Nat):(F9 n wt L f r gs t k).natAbs<=1+t*4194304:=by
 induction t with
 | zero=>unfold F9;split <;> simp
 | succ t ih=>
  unfold F9;have V:2 ^ wt<=4194304:=nM (Nat.pow_le_pow_right (by decide) I) (by decide);obtain⟨J,M,O,U⟩:=hg t;have h:=Eg (n:=n) (w:=wt) (L:=L) (i:=r / L.length) (j:=r % L.length) (g:=gs.getD t (0,0,0,0)) E (by omega) (by omega) k;omega
theorem Pn {x:Int} (h:x.natAbs<=1000000000):nd x.natAbs<=1:=Bf.2 (show x.natAbs<4294967296 ^ 1 by omega)
def E6 (F Y:Nat->Int) (k:Nat):Nat->Int:=λj=>if j<k then F j+Y j else F j
theorem T4 (F Y:Nat->Int) (j:Nat):E6 F Y 0 j=F j:=by unfold E6;rw[if_neg (Nat.not_lt_zero j)]
theorem R6 (F Y:Nat->Int) (k:Nat):E6 F Y k k=F k:=by unfold E6;rw[if_neg (Nat.lt_irrefl k)]
theorem N9 (F Y:Nat->Int) (k:Nat):E6 F Y (k+1) k=F k+Y k:=by unfold E6;rw[if_pos (nO k)]
theorem N8 {F Y:Nat->Int} {k j:Nat} (h:j≠k):E6 F Y k j=E6 F Y (k+1) j:=by
 unfold E6;by_cases hj:j<k
 ·rw[if_pos hj,if_pos (by omega)]
 ·rw[if_neg hj,if_neg (by omega)]
theorem T3 {F Y:Nat->Int} {k:Nat} (h:Y k=0) (j:Nat):E6 F Y k j=E6 F Y (k+1) j:=by
 by_cases hj:j=k
 ·subst hj;rw[R6,N9,h,Int.add_zero]
 ·exact N8 hj
theorem Tz {F Y:Nat->Int} {k j:Nat} (h:j<k):E6 F Y k j=F j+Y j:=by unfold E6;rw[if_pos h]
theorem OwnZ.ret {f:Nat->Int} {w:World} {B n:Nat} {v:Value} (h:OwnZ f w B v n) (h0:0<n):∃g cap,v=.slice (some ⟨g,0,none⟩) n cap/\n<=cap/\cap<=9223372036854775807/\B<=g/\g<w.heap.size/\∀j,j<n->ZE (f j) w g (j*2):=by
 obtain⟨xs,I,V⟩:=h;rcases I.1.2 with⟨_,e2⟩ |⟨g,cap,cs,E,hB,hg,hn,J,Z,_⟩
 ·omega
 ·have hs:=I.2 g (by rw[E];rfl)
  have M:=I.1;subst E;refine⟨g,cap,rfl,hn,by simp only[maxLen]at J;omega,hB,hs.1,λj hj=>?_⟩;obtain⟨s,p,n',c,O,E,U⟩:=V j hj;exact⟨s,p,n',c,Ai M O,Ai M E,U⟩
theorem OwnZ.congr {f f':Nat->Int} {w:World} {B n:Nat} {v:Value} (h:OwnZ f w B v n) (e:∀j,j<n->f j=f' j):OwnZ f' w B v n:=by
 obtain⟨M,I,J⟩:=h;exact⟨M,I,λj E=>by rw[<-e j E];exact J j E⟩
theorem OwnZ.slice {f:Nat->Int} {w:World} {B n:Nat} {v:Value} (h:OwnZ f w B v n):∃p c,v=.slice p n c:=by
 obtain⟨I,E,_⟩:=h;exact Bg E.1
theorem OwnZ.box {f:Nat->Int} {w w':World} {B n G:Nat} {v:Value} (h:OwnZ f w B v n) (J:I32 w w') (hg:w.grownBy w' (some G)) (hG:G<B):OwnZ f w' B v n:=by
 obtain⟨xs,I,U⟩:=h
 have E:∀g,v.ownBlock=some g->some g≠some G:=λg e O=>by
  have:=Cl I.1 e.symm;injection O with O;omega
 refine⟨xs,⟨I.1.kept hg ?_,λg e=>?_⟩,λj Z=>(U j Z).i32 J⟩
 ·cases hv:v.ownBlock with
  | none=>exact .inl rfl
  | some g=>exact .inr (E g hv)
 ·have M:=I.2 g e
  have V:=hg.block g M.1 (E g e);exact⟨nN M.1 hg.size,λi u hu=>M.2 i u ((World.cell?_of_block (a:=⟨g,i,none⟩) V).symm.trans hu)⟩
structure OutAt (F:Nat->Int) (w:World) (go B C2 C m:Nat):Prop where
 lt:go<B
 hB:B<=w.heap.size
 c0:w.cell? ⟨go,0,none⟩=some (.int .i64 (C2:Int))
 c1:w.cell? ⟨go,1,none⟩=some (.int .i64 (C:Int))
 c2:∃p c,w.cell? ⟨go,2,none⟩=some (.slice p m c)/\OwnZ F w B (.slice p m c) m
 fr:w.frozen? ⟨go,2,none⟩=false
 stk:Stk NotU32 w go
theorem OutAt.keep {F:Nat->Int} {w w':World} {go B C2 C m:Nat} (h:OutAt F w go B C2 C m) (E:Below w.heap.size w w'):OutAt F w' go B C2 C m:=by
 obtain⟨p,c,I,J⟩:=h.c2;exact⟨h.lt,nM h.hB E.size,Ad E h.c0,Ad E h.c1,⟨p,c,Ad E I,J.keep E⟩,Ab E (by rw[I];rfl) h.fr,h.stk.next E⟩
theorem H7 {J W w':World} {go B:Nat} {v:Value} (h:J.grownBy W (some go)) (hg:W.grownBy w' v.ownBlock) (hB:B=J.heap.size) (E:∀b,v.ownBlock=some b->B<=b):J.grownBy w' (some go):=
 ⟨hg.os.trans h.os,hg.tape.trans h.tape,hg.output.trans h.output,nM h.size hg.size,λk M I=>(hg.block k (nN M h.size) (λe=>by have:=E k e.symm;omega)).trans (h.block k M I)⟩
theorem OutAt.more {F r:Nat->Int} {W w':World} {go B C2 C m k g:Nat} {p:Option Addr} {c:Nat} {p':Option Addr} {M:Nat} {U:List Value} (h:OutAt F W go B C2 C m) (hv:W.cell? ⟨go,2,none⟩=some (.slice p m c)) (h1:OwnK NotInt W B 84 2 (.slice p m c) m U) (h2:∀j,j<m->ZX (F j) W U (j*2))
  (hr:ZRow r W g k k) (h3:OwnK NotInt w' B 84 2 (.slice p' (m+k) M) (m+k) (U++Ax W g (k*2))) (hg:W.grownBy w' (Value.slice p m c).ownBlock) (e2:∀j,j<k->F (m+j)=r j):
  w'.cell? ⟨go,2,none⟩=some (.slice p m c)/\w'.frozen? ⟨go,2,none⟩=false/\OutAt F (w'.setCell ⟨go,2,none⟩ (.slice p' (m+k) M)) go B C2 C (m+k):=by
 have O:some go≠(Value.slice p m c).ownBlock:=λe=>by
  have:=Cl h1.1 e;have:=h.lt;omega
 have I:go<W.heap.size:=nN h.lt h.hB;have E:=hg.block go I (λe=>O e);have V:w'.cell? ⟨go,2,none⟩=some (.slice p m c):=(World.cell?_of_block (a:=⟨go,2,none⟩) E).trans hv;have Z:w'.frozen? ⟨go,2,none⟩=false:=(World.frozen?_of_block (a:=⟨go,2,none⟩) E).trans h.fr;have J:Stk NotU32 w' go:=⟨nN I hg.size,λi u hu=>h.stk.2 i u ((World.cell?_of_block (a:=⟨go,i,none⟩) E).symm.trans hu)⟩
 have hO:=OwnZ.more h1 h2 hr h3 hg F (λ_ _=>rfl) e2;refine⟨V,Z,h.lt,by simpa using nM h.hB hg.size,?_,?_,⟨p',M,World.cell?_setCell_same' _ _ _ (by rw[V];rfl),hO.box (I32.putU J 2 _) (Ar w' go 2 _) h.lt⟩,Aw Z,Be J _ _ (λ_ h=>by cases h)⟩
 ·rw[World.cell?_setCell_other _ _ _ _ (by simp)];exact(World.cell?_of_block (a:=⟨go,0,none⟩) E).trans h.c0
 ·rw[World.cell?_setCell_other _ _ _ _ (by simp)];exact(World.cell?_of_block (a:=⟨go,1,none⟩) E).trans h.c1
theorem cU (w:World) (O M h:Nat) (J:Blk w O 63 #[.int .i64 0,.int .i64 (-1),.int .i64 1,.int .i64 0]) (E:Blk w M 63 #[.int .i64 0,.int .i64 (-1),.int .i64 1,.int .i64 (-1),.int .i64 (-1),.int .i64 1,.int .i64 (-1),.int .i64 0]) (Z:Blk w h 113 #[.slice (some ⟨O,0,none⟩) 1 1,.slice (some ⟨M,0,none⟩) 2 2]) (q:Nat) (hq:q<2):
  ∃I,(I=O∨I=M)/\w.cell? ⟨h,q,none⟩=some (.slice (some ⟨I,0,none⟩) (Dk q).length (Dk q).length)/\∀t,t<(Dk q).length->w.cell? ⟨I,t*4,none⟩=some (.int .i64 ((Dk q).getD t (0,0,0,0)).1)/\w.cell? ⟨I,t*4+1,none⟩=some (.int .i64 ((Dk q).getD t (0,0,0,0)).2.1)/\w.cell? ⟨I,t*4+2,none⟩=some (.int .i64 ((Dk q).getD t (0,0,0,0)).2.2.1)/\w.cell? ⟨I,t*4+3,none⟩=some (.int .i64 ((Dk q).getD t (0,0,0,0)).2.2.2):=by
 rcases(by omega:q=0∨q=1)with rfl|rfl
 ·refine⟨O,.inl rfl,Z.at_ 0 rfl,λt U=>?_⟩
  have V:t<1:=U;obtain rfl:t=0:=by omega
  exact⟨J.at_ 0 rfl,J.at_ 1 rfl,J.at_ 2 rfl,J.at_ 3 rfl⟩
 ·refine⟨M,.inr rfl,Z.at_ 1 rfl,λt U=>?_⟩
  have V:t<2:=U;rcases(by omega:t=0∨t=1)with rfl|rfl
  ·exact⟨E.at_ 0 rfl,E.at_ 1 rfl,E.at_ 2 rfl,E.at_ 3 rfl⟩
  ·exact⟨E.at_ 4 rfl,E.at_ 5 rfl,E.at_ 6 rfl,E.at_ 7 rfl⟩
theorem ZE.but32 {z:Int} {w w':World} {g i G:Nat} (h:ZE z w g i) (I:I32 w w') (hg:w.grownBy w' (some G)) (E:g≠G):ZE z w' g i:=by
 obtain⟨s,p,n,c,J,M,O⟩:=h;exact⟨s,p,n,c,hg.cell J (λe=>by injection e with e;exact E e),hg.cell M (λe=>by injection e with e;exact E e),O.i32 I⟩
theorem Dm {w:World} {R:Nat} {v0 v1 v2:Value} (E:(w.cell? ⟨R,0,none⟩).isSome=true) (I:(w.cell? ⟨R,1,none⟩).isSome=true) (J:(w.cell? ⟨R,2,none⟩).isSome=true):
  (((w.setCell ⟨R,0,none⟩ v0).setCell ⟨R,1,none⟩ v1).setCell ⟨R,2,none⟩ v2).cell? ⟨R,0,none⟩=some v0/\(((w.setCell ⟨R,0,none⟩ v0).setCell ⟨R,1,none⟩ v1).setCell ⟨R,2,none⟩ v2).cell? ⟨R,1,none⟩=some v1/\(((w.setCell ⟨R,0,none⟩ v0).setCell ⟨R,1,none⟩ v1).setCell ⟨R,2,none⟩ v2).cell? ⟨R,2,none⟩=some v2:=by
 refine⟨?_,?_,?_⟩
 ·rw[World.cell?_setCell_other _ _ _ _ (by simp),World.cell?_setCell_other _ _ _ _ (by simp),World.cell?_setCell_same' _ _ _ E]
 ·rw[World.cell?_setCell_other _ _ _ _ (by simp),World.cell?_setCell_same' _ _ _ (Ak I)]
 ·rw[World.cell?_setCell_same' _ _ _ (Ak (Ak J))]
theorem Ji {w:World} {R:Nat} (E:Stk NotU32 w R) {v0 v1 v2:Value} (J:NotU32 v0) (M:NotU32 v1):I32 w (((w.setCell ⟨R,0,none⟩ v0).setCell ⟨R,1,none⟩ v1).setCell ⟨R,2,none⟩ v2):=by
 have I:=Be E ⟨R,0,none⟩ v0 J;have O:=Be I ⟨R,1,none⟩ v1 M;exact((I32.putU E 0 v0).trans (I32.putU I 1 v1)).trans (I32.putU O 2 v2)
theorem Jz (n wt:Nat) (D:Int) (L:List Nat) (C:Nat) (w:World) (hT:Tab w) (h0:0<n) (hn:n<=120) (hV:wt<=22) (hD:-120<=D) (uH:D<=120) (rG:Pl.check n ((wt:Int)+2) D=0) (hk:∀l,Pl.kroP D l=0∨Pl.kroP D l=1∨Pl.kroP D l=-1) (hL:pts n (n*n)=L) (gF:(wt+1)*L.length=C) (pD:0<C) (hC:C<=72):
  Calls prog 47 #[.agg #[.int .i64 n,.int .i64 ((wt:Int)+2),.int .i64 D]] w λe w'=>V1 (2*C) C (λp=>Ks n wt L (Bd n D L n) (p / C) (p % C)) e w'/\Below w.heap.size w w':=by
 have qK:∀x,x∈L->x<n*n:=λx h=>Gm (hL▸h)
 have wG:L.length<=72:=nM (by rw[<-gF];exact Nat.le_mul_of_pos_left _ (by omega)) hC
 have uL:0<L.length:=by
  rcases Nat.eq_zero_or_pos L.length with h|h
  ·rw[h,Nat.mul_zero]at gF;omega
  ·exact h
 have oT:=Kh (λW (hb:Below w.heap.size w W)=>hL▸Gf n wt D W (hT.below hb) h0 hn hV hD uH rG);obtain⟨f,hf⟩:∃f,Bd n D L n=f:=⟨_,rfl⟩
 rw[hf]at oT ⊢;have oW:=Kh (show TabOk L.length f from hf▸Fi hk n);have tL:=Kh (λT B W (h:WorldAt W T B n wt L f) (hB:B<=W.heap.size) i j (hj:j<L.length) (g:M4) (hg:Qh g)=>gF▸Wr T B n wt L f i j g.1 g.2.1 g.2.2.1 g.2.2.2 W h hB h0 hn hV hj (by omega) qK oW.1 (by have:=hg.1;omega) (by have:=hg.1;omega) (by have:=hg.2.1;omega) (by have:=hg.2.1;omega) (by have:=hg.2.2.1;omega) (by have:=hg.2.2.1;omega) (by have:=hg.2.2.2;omega) (by have:=hg.2.2.2;omega));have qD:=Kh (λT B W (h:WorldAt W T B n wt L f)=>gF▸J0 T B n wt L f W h hV (by omega));have qC:=Kh gF;have wJ:=Yi C (by omega);clear hT rG hk hL gF hf qK;go_enter func47,ntmps47
 go_wp2_with fail
 obtain⟨w0,rP,X0,X1,nS⟩:=bx2 w #[.int .i64 n,.int .i64 ((wt:Int)+2),.int .i64 D] 23 #[.int .i64 0,.int .i64 0,.slice none 0 0] 99;rw[rP];refine(oT.1 w0 nS).mono ?_;rintro e w1 ⟨⟨T,rfl,rT⟩,pF⟩;have nD:=Kh (X1.below_ pF X1.lt);have mB:=Kh (nS.trans (pF.mono nS.size));have oX:=Kh rT;obtain⟨gr,aD⟩:∃x,w.heap.size+1=x:=⟨_,rfl⟩
 have tC:=Kh aD;rw[aD]at nD ⊢;clear rP X0 X1 nS pF rT oT aD;go_wp2_with fail
 obtain⟨w2,rQ,Y0,Y1,Y2,nT⟩:=T9 w1 #[.int .i64 0,.int .i64 (-1),.int .i64 1,.int .i64 0] 63 #[.int .i64 0,.int .i64 (-1),.int .i64 1,.int .i64 (-1)] 63 #[.int .i64 (-1),.int .i64 1,.int .i64 (-1),.int .i64 0] 63;rw[rQ];refine(qD.1 T w1.heap.size w2 (oX.1.keep (nL _) nT)).mono ?_;rintro e w3 ⟨rfl,m1,rfl⟩;have O:Below w2.heap.size w2 (w2.drewN m1):=Aa (Below.refl _ _) m1;generalize w2.drewN m1=w3 at O ⊢;have cF:=Kh (Y0.below_ O Y0.lt);have cG:=Kh (Y1.below_ O Y1.lt);have cI:=Kh (Y2.below_ O Y2.lt);have bA:=Kh (nT.trans (O.mono nT.size));obtain⟨C2,pE⟩:∃x,2*C=x:=⟨_,rfl⟩
 have e2:(2:Int)*(C:Int)=(C2:Nat):=by rw[<-pE];push_cast;rfl
 have v2:IntKind.i64.wrap (C2:Int)=(C2:Nat):=IntWalk.i64_in _ (by omega);have sW:=Kh pE;obtain⟨ga,gL⟩:∃x,w1.heap.size=x:=⟨_,rfl⟩
 obtain⟨gb,nX⟩:∃x,ga+1=x:=⟨_,rfl⟩
 obtain⟨gc,pJ⟩:∃x,gb+1=x:=⟨_,rfl⟩
 have cD:=Kh gL;rw[gL,nX,pJ]at cI;rw[gL,nX]at cG;rw[gL]at cF bA;rw[gL,nX,pJ];clear rQ Y0 Y1 Y2 nT O pE gL nX pJ;go_upto_region 9 with(fail)
 obtain⟨w4,rR,Z0,hO⟩:=bx1 w3 #[.int .i64 C2,.int .i64 C,.slice none 0 0] 99;rw[rR];obtain⟨go,pK⟩:∃x,w3.heap.size=x:=⟨_,rfl⟩
 rw[pK]at Z0 ⊢;have qH:=Kh pK;have oZ:=Kh Z0;have oQ:=Kh (bA.1.trans (hO.mono (by have h1:=bA.1.size;have h2:=cD.1;omega)));have cF:=Kh (bk cF hO);have cG:=Kh (bk cG hO);have cI:=Kh (bk cI hO);clear rR Z0 hO pK;obtain⟨w5,pP⟩:∃w5,w4.alloc (.cells #[.int .i64 0,.int .i64 (-1),.int .i64 1,.int .i64 0] 63)=w5:=⟨_,rfl⟩
 have Z:Below w4.heap.size w4 w5:=pP▸(Below.refl _ _).alloc (nL _) _;have uZ:=cF.1.at_ 0 rfl;have vA:=cF.1.at_ 1 rfl;have vB:=cF.1.at_ 2 rfl;have vC:=cF.1.at_ 3 rfl;have sE:=(bk cG Z).at_ 0 rfl;have sF:=(bk cG Z).at_ 1 rfl;have sG:=(bk cG Z).at_ 2 rfl;have sH:=(bk cG Z).at_ 3 rfl;have sI:=(bk cI Z).at_ 0 rfl;have sJ:=(bk cI Z).at_ 1 rfl;have sK:=(bk cI Z).at_ 2 rfl;have sL:=(bk cI Z).at_ 3 rfl;rw[<-pP]at sE sF sG sH sI sJ sK sL;clear pP Z;go_wp2_with fail
 have uS:(#[.slice (some ⟨w4.heap.size,0,none⟩) 1 1,.slice (some ⟨w4.heap.size+1,0,none⟩) 2 2]:Array Value)=#[.slice (some ⟨w4.heap.size,0,none⟩) 1 1,.slice (some ⟨w4.heap.size+1,0,none⟩) 2 2]:=rfl;obtain⟨wB,rS,U0,U1,U2,gI⟩:=T9 w4 #[.int .i64 0,.int .i64 (-1),.int .i64 1,.int .i64 0] 63 #[.int .i64 0,.int .i64 (-1),.int .i64 1,.int .i64 (-1),.int .i64 (-1),.int .i64 1,.int .i64 (-1),.int .i64 0] 63 #[.slice (some ⟨w4.heap.size,0,none⟩) 1 1,.slice (some ⟨w4.heap.size+1,0,none⟩) 2 2] 113;rw[rS];obtain⟨s9,gN⟩:∃x,w4.heap.size=x:=⟨_,rfl⟩
 obtain⟨s2,oB⟩:∃x,s9+1=x:=⟨_,rfl⟩
 obtain⟨s3,pO⟩:∃x,s2+1=x:=⟨_,rfl⟩
 have vK:go<s9:=by rw[<-gN];exact oZ.1.lt
 rw[gN,oB,pO]at U2;rw[gN,oB]at U1;rw[gN]at U0;rw[gN,oB,pO];have tK:=Kh (λq hq=>cU wB s9 s2 s3 U0 U1 U2 q hq);have hN:=Kh (bk oZ gI);have mC:=Kh (oQ.1.trans (gI.mono (by have h1:=oQ.1.size;have h2:=cD.1;omega)));have tW:=Kh (show WorldAt wB T ga n wt L f from cD.1▸oX.1.keep (nL _) (cD.1▸mC.1));have qF:=Kh (show s3<wB.heap.size from U2.lt);have cX:=Kh (show ga<=go by have h1:=bA.1.size;have h2:=cD.1;have h3:=qH.1;omega);have qN:=Kh (show s3≠go/\s9≠go/\s2≠go by omega)
 have cB:=Kh (show gr<ga/\Blk wB gr 99 #[.int .i64 0,.int .i64 0,.slice none 0 0]by
  have h1:gr<ga:=by have:=nD.1.lt;have:=cD.1;omega
  exact⟨h1,nD.1.below_ mC.1 h1⟩)
 obtain⟨GB,nR⟩:∃x,wB.heap.size=x:=⟨_,rfl⟩
 have mD:=Kh nR;rw[nR]at qF;obtain⟨F,hF⟩:∃F:Nat->Int,(λp=>Ks n wt L f (p / C) (p % C))=F:=⟨_,rfl⟩
 have HF:=Kh (show ∀q r j,q<2->r<C->j<C->F ((q*C+r)*C+j)=F9 n wt L f r (Dk q) (Dk q).length j by
  intro q r j h1 h2 h3;rw[<-hF];dsimp only;rw[show((q*C+r)*C+j) / C=q*C+r by rw[Nat.mul_comm,Nat.mul_add_div pD,Nat.div_eq_of_lt h3,Nat.add_zero],show((q*C+r)*C+j) % C=j by rw[Nat.mul_comm,Nat.mul_add_mod,Nat.mod_eq_of_lt h3],<-qC.1];exact Zh j h1 (by rw[qC.1];exact h2))
 have qP:=Kh (show OutAt F wB go GB C2 C (0*C*C)from
  ⟨by have:=qF.1;omega,Nat.le_of_eq nR.symm,hN.1.at_ 0 rfl,hN.1.at_ 1 rfl,⟨none,0,by rw[Nat.zero_mul,Nat.zero_mul];exact hN.1.at_ 2 rfl,by rw[Nat.zero_mul,Nat.zero_mul];exact OwnZ.nil _ _ _⟩,hN.1.free_ 2,Stk.of hN.1 (by intro v hv;simp at hv;rcases hv with rfl|rfl|rfl <;> exact λ_ h=>by cases h)⟩)
 have sZ:=Kh hF;have tU:=Kh (λr q t k (ht:t<=2)=>(show(F9 n wt L f r (Dk q) t k).natAbs<=1+t*4194304 from Rq oW.1 (Sk q) hV t k));have tV:=Kh (λI J (g:M4) (hg:Qh g) k=>(show(L8 n wt L f I J g k).natAbs<=4194304 from nM (Eg oW.1 (by have:=hg.1;have:=hg.2.1;omega) (by have:=hg.2.2.1;have:=hg.2.2.2;omega) k) (nM (Nat.pow_le_pow_right (by decide) hV) (by decide))));have qI:=Kh (λq=>Pa q);clear U0 U1 U2 gI gN oB pO rS uS nR hF uZ vA vB vC sE sF sG sH sI sJ sK sL cF cG cI oZ oQ bA nD oX qD qH e2 v2;go_loopw [45] (λii wr=>∃q:Nat,q<=2/\ii=.int .i64 q/\OutAt F wr go GB C2 C (q*C*C)/\wB.grownBy wr (some go)) (λii _=>2 - (intOf ii).toNat)
 case atStart=>exact⟨0,Nat.zero_le _,rfl,qP.1,Ag go (Below.refl _ _)⟩
 case round=>
  obtain⟨q,hq,rfl,cS,aD⟩:=hrel;obtain⟨wa,rfl⟩:∃wa:World,wa=wr:=⟨_,rfl⟩
  have eX:=Kh cS;have M:=Kh aD;clear cS aD qP;by_cases hq2:q<2
  ·have wL:(q:Int)<2:=by omega
   obtain⟨SL,rB,l0,rM⟩:=tK.1 q hq2;have rC:SL≠go:=by have:=qN.1;rcases rB with rfl|rfl <;> omega
   have qL:=Kh rM;have l1:=M.1.cell l0 (λe=>by injection e with e;exact qN.1.1 e);obtain⟨ln,nZ⟩:∃x,(Dk q).length=x:=⟨_,rfl⟩
   have wI:ln<=2:=nZ▸qI.1 q;rw[nZ]at l1 qL;have tI:=Kh nZ;clear l0 rM rB nZ;go_wp2_with fail
   have qQ:=Kh (show OutAt F wa go GB C2 C ((q*C+0)*C)from eX.1);go_loopw [13] (λii wr=>∃r:Nat,r<=C/\ii=.int .i64 r/\OutAt F wr go GB C2 C ((q*C+r)*C)/\wB.grownBy wr (some go)) (λii _=>C - (intOf ii).toNat)
   case atStart=>exact⟨0,Nat.zero_le _,rfl,qQ.1,M.1⟩
   case round=>
    obtain⟨r,hr,rfl,cS,aD⟩:=hrel;obtain⟨wx,rfl⟩:∃wx:World,wx=wr:=⟨_,rfl⟩
    have eY:=Kh cS;have mE:=Kh aD;clear cS aD qQ eX M l1;by_cases hrC:r<C
    ·have wM:(r:Int)<(C:Int):=by omega
     go_wp2_with fail
     have oA:=ZRow.made (λ_=>0) wx C;obtain⟨wz,pQ⟩:∃wz,wx.alloc (.cells (madeCells #[.bool false,.slice none 0 0] (C*2)) 84)=wz:=⟨_,rfl⟩
     have pI:Below wx.heap.size wx wz:=pQ▸(Below.refl _ _).alloc (nL _) _;rw[pQ]at oA ⊢;obtain⟨G,hG⟩:∃g,wx.heap.size=g:=⟨_,rfl⟩
     rw[hG]at oA pI ⊢;have qS:=Kh oA;have qB:=Kh pI;have oJ:=Kh hG;have hH:=Kh (show GB<=G by have:=eY.1.hB;omega);clear oA pI pQ hG;go_loopw [58] (λii wr=>∃k:Nat,k<=C/\ii=.int .i64 k/\ZRow (λ_=>0) wr G C k/\Below G wx wr) (λii _=>C - (intOf ii).toNat)
     case atStart=>exact⟨0,Nat.zero_le _,rfl,qS.1,qB.1⟩
     case round=>
      obtain⟨k,hk,rfl,V,hQ⟩:=hrel;obtain⟨w2,rfl⟩:∃w2:World,w2=wr:=⟨_,rfl⟩
      have E:=Kh V;have bE:=Kh hQ;clear V hQ qS qB;by_cases hlt:k<C
      ·have uP:(k:Int)<(C:Int):=by omega
       go_wp2_with fail
       refine(Ge 0 w2 (by omega) (by omega)).mono ?_;rintro e w3 ⟨⟨rZ,p3,n3,c3,rfl,hW⟩,O⟩;have U:=ZRow.keep E.1 O;have nB:=Kh (ZRow.set (k':=k+1) U k hlt (λ_=>0) (λi' h1 h2=>⟨by omega,rfl⟩) hW);have bA:=Kh (bE.1.trans (O.mono (Nat.le_of_lt E.1.sts.1)));obtain⟨u0,uR⟩:=nP (U.has (k*2) (by omega));obtain⟨u2,hu2⟩:=nP (U.has (k*2+1) (by omega));have f0:=U.free (k*2) (by omega);have f1:=U.free (k*2+1) (by omega);clear hW O U;go_wp2;go_roundw
       case rel=>exact⟨k+1,by omega,by go_num,nB.1,C4 bA.1 (nL _)⟩
       case measure=>simp[intOf];omega
      ·obtain rfl:C=k:=by omega
       go_wp2_with fail
       refine(Ge 1 w2 (by omega) (by omega)).mono ?_;rintro e w3 ⟨⟨rZ,p3,n3,c3,rfl,hW⟩,O⟩;have U:=ZRow.keep E.1 O;have nB:=Kh (ZRow.set (k':=C) U r hrC (F9 n wt L f r (Dk q) 0) (λi' h1 h2=>⟨h1,by unfold F9;rw[if_neg h2]⟩) (by unfold F9;rw[if_pos rfl];exact hW));have bA:=Kh (bE.1.trans (O.mono (Nat.le_of_lt E.1.sts.1)));obtain⟨u0,uR⟩:=nP (U.has (r*2) (by omega));obtain⟨u2,hu2⟩:=nP (U.has (r*2+1) (by omega));have f0:=U.free (r*2) (by omega);have f1:=U.free (r*2+1) (by omega);have pZ:=Kh (C4 (v0:=.bool rZ) (v1:=.slice p3 n3 c3) (i:=r*2) (j:=r*2+1) bA.1 (nL G));clear hW O U E bE bA;go_wp2_with fail
       go_loopw [72] (λii wr=>∃t:Nat,t<=ln/\ii=.int .i64 t/\ZRow (F9 n wt L f r (Dk q) t) wr G C C/\Below G wx wr) (λii _=>ln - (intOf ii).toNat)
       case atStart=>exact⟨0,Nat.zero_le _,rfl,nB.1,pZ.1⟩
       case round=>
        obtain⟨t,ht,rfl,V,hQ⟩:=hrel;obtain⟨aK,rfl⟩:∃aK:World,aK=wr:=⟨_,rfl⟩
        have E:=Kh V;have bE:=Kh hQ;clear V hQ nB pZ;by_cases htl:t<ln
        ·have wO:(t:Int)<(ln:Int):=by omega
         obtain⟨⟨a,b,c,d⟩,hg⟩:∃g:M4,(Dk q).getD t (0,0,0,0)=g:=⟨_,rfl⟩
         have pM:Qh (a,b,c,d):=hg▸Sk q t;obtain⟨m0,m1,m2,m3⟩:=qL.1 t htl;rw[hg]at m0 m1 m2 m3;dsimp only at m0 m1 m2 m3
         have hR:∀i v,wB.cell? ⟨SL,i,none⟩=some v->aK.cell? ⟨SL,i,none⟩=some v:=λi v e=>by
          have h1:=World.block_lt_of_cell? wB ⟨SL,i,none⟩ e;have h2:=mE.1.cell e (λe=>by injection e with e;exact rC e);exact(bE.1.cell (p:=⟨SL,i,none⟩) (by have:=mD.1;have:=hH.1;show SL<G;have h3:SL<wB.heap.size:=h1;omega)).trans h2
         have m0:=hR _ _ m0;have m1:=hR _ _ m1;have m2:=hR _ _ m2;have m3:=hR _ _ m3;have qV:=Kh (show ∀W,Below G wx W->WorldAt W T ga n wt L f from λW hb=>tW.1.next ((Aq (Below.refl ga wB) mE.1 (by have:=mD.1;have:=cX.1;have:=eY.1.lt;omega) cX.1).trans (hb.mono (by have:=cX.1;have:=eY.1.lt;have:=hH.1;omega))) (nL _));obtain⟨pl,cl,t2,_⟩:=(qV.1 aK bE.1).c2;obtain⟨I,hI⟩:∃x,r / L.length=x:=⟨_,rfl⟩
         obtain⟨J,hJ⟩:∃x,r % L.length=x:=⟨_,rfl⟩
         have uJ:J<L.length:=by rw[<-hJ];exact Nat.mod_lt _ uL
         have wF:I<=72:=by rw[<-hI];exact nM (Nat.div_le_self _ _) (by omega)
         have e1:Int.tdiv (r:Int) (L.length:Int)=(I:Nat):=by rw[Int.tdiv_eq_ediv_of_nonneg (by omega),<-hI];rfl
         have e2:Int.tmod (r:Int) (L.length:Int)=(J:Nat):=by rw[Int.tmod_eq_emod_of_nonneg (by omega),<-hJ];rfl
         have e3:((L.length:Int)==0)=false:=beq_eq_false_iff_ne.2 (by omega);have e4:L.length≠0:=by omega
         have v1:IntKind.i64.wrap (I:Int)=(I:Nat):=IntWalk.i64_in _ (by omega);have v2:IntKind.i64.wrap (J:Int)=(J:Nat):=IntWalk.i64_in _ (by omega);obtain⟨Fr,nQ⟩:∃Fr:Nat->Int,F9 n wt L f r (Dk q) t=Fr:=⟨_,rfl⟩
         obtain⟨Y,hY⟩:∃Y:Nat->Int,L8 n wt L f I J (a,b,c,d)=Y:=⟨_,rfl⟩
         have tQ:=Kh (show ∀j,F9 n wt L f r (Dk q) (t+1) j=Fr j+Y j from λj=>by rw[F9,hg,hI,hJ,nQ,hY]);have qM:=Kh (λW (hb:Below G wx W)=>hY▸tL.1 T ga W (qV.1 W hb) (by have h1:=cX.1;have h2:=eY.1.lt;have h3:=hH.1;have h4:=oJ.1;have h5:=hb.size;omega) I J uJ (a,b,c,d) pM);have tS:=Kh (show ∀k,(Fr k).natAbs<=20000000 from λk=>by have h:=tU.1 r q t k (by omega);rw[nQ]at h;have:t*4194304<=2*4194304:=Nat.mul_le_mul_right _ (by omega);omega);have qU:=Kh (show ∀k,(Y k).natAbs<=20000000 from λk=>by have h:=tV.1 I J (a,b,c,d) pM k;rw[hY]at h;omega);have dY:=Kh (show ZRow Fr aK G C C from nQ▸E.1);clear pM hR hI hJ nQ hY hg E;go_wp2_with fail
         obtain⟨we,oD⟩:∃we,aK.alloc (.cells #[.int .i64 a,.int .i64 b,.int .i64 c,.int .i64 d] 63)=we:=⟨_,rfl⟩
         have nW:Below aK.heap.size aK we:=oD▸(Below.refl _ _).alloc (nL _) _;have X:=oD▸Blk.new aK 63 #[.int .i64 a,.int .i64 b,.int .i64 c,.int .i64 d];rw[oD];obtain⟨gx,rJ⟩:∃gx,aK.heap.size=gx:=⟨_,rfl⟩
         have hE:=Kh (bE.1.trans (nW.mono (Nat.le_of_lt dY.1.sts.1)));have dE:=Kh (ZRow.keep dY.1 nW);have t2:=Ad nW t2;rw[rJ]at X ⊢;have x0:=X.at_ 0 rfl;have x1:=X.at_ 1 rfl;have x2:=X.at_ 2 rfl;have x3:=X.at_ 3 rfl;have oV:=Kh (show ∀W,Below we.heap.size we W->(W.cell? ⟨T,2,none⟩=some (.slice pl L.length cl)/\W.cell? ⟨gx,0,none⟩=some (.int .i64 a)/\W.cell? ⟨gx,1,none⟩=some (.int .i64 b)/\W.cell? ⟨gx,2,none⟩=some (.int .i64 c)/\W.cell? ⟨gx,3,none⟩=some (.int .i64 d))from λW hb=>⟨Ad hb t2,Ad hb x0,Ad hb x1,Ad hb x2,Ad hb x3⟩);have rA:=oV.1 _ (Below.refl _ we).drew;have tH:=Kh (show ∀wb,Below we.drew.heap.size we.drew wb->Below we.heap.size we wb from λwb hb=>(Below.refl _ we).drew.trans hb);have oK:=Kh (qM.1 we.drew hE.1.drew);clear oD nW X rJ m0 m1 m2 m3 bE dY;go_upto_region 25 with(fail)
         go_region_held3 (λW=>W.cell? ⟨T,2,none⟩=some (.slice pl L.length cl)/\W.cell? ⟨gx,0,none⟩=some (.int .i64 a)/\W.cell? ⟨gx,1,none⟩=some (.int .i64 b)/\W.cell? ⟨gx,2,none⟩=some (.int .i64 c)/\W.cell? ⟨gx,3,none⟩=some (.int .i64 d))
          (first|with_reducible exact rA|with_reducible exact oV.1 _ pG |(exfalso;assumption))
          (first
           |(go_at_call 93;(with_reducible refine oK.1.mono ?_);rintro e w5 ⟨⟨gm,rfl,rH,oM⟩,Z⟩;have pG:Below we.heap.size we w5:=tH.1 _ Z;have tB:=Kh (show we.heap.size<=gm from rH);have qT:=Kh oM;clear rH oM))
         have pY:=Kh pG;clear Z pG oV rA t2 x0 x1 x2 x3 oK;have dC:=Kh (ZRow.keep dE.1 pY.1);have qA:=Kh (hE.1.trans (pY.1.mono (Nat.le_of_lt dE.1.sts.1)));have qG:=Kh (show gm≠G by have h1:=dE.1.sts.1;have h2:=tB.1;omega);have hM:=Kh (show ZRow (E6 Fr Y 0) w5 G C C from ZRow.congr dC.1 (λj _=>(T4 Fr Y j).symm));go_wp2_with fail
         go_loopw [94] (λii wr=>∃k:Nat,k<=C/\ii=.int .i64 k/\ZRow (E6 Fr Y k) wr G C C/\w5.grownBy wr (some G)) (λii _=>C - (intOf ii).toNat)
         case atStart=>exact⟨0,Nat.zero_le _,rfl,hM.1,Ag G (Below.refl _ _)⟩
         case round=>
          obtain⟨k,hk,rfl,V,aD⟩:=hrel;obtain⟨w6,rfl⟩:∃w6:World,w6=wr:=⟨_,rfl⟩
          have bY:=Kh V;have eT:=Kh aD;clear V aD hM;by_cases hlt:k<C
          ·have uP:(k:Int)<(C:Int):=by omega
           obtain⟨s,p,n5,c5,a0,a1,hz⟩:=ZE.but dC.1.sts eT.1 qG.1 (qT.1.val k hlt);have HZ:=Kh hz;clear hz;go_wp2_with fail
           obtain⟨w7,oC⟩:∃w7,w6.alloc (.cells #[.bool s,.slice p n5 c5] 84)=w7:=⟨_,rfl⟩
           have nU:Below w6.heap.size w6 w7:=oC▸(Below.refl _ _).alloc (nL _) _;have X:=oC▸Blk.new w6 84 #[.bool s,.slice p n5 c5];rw[oC];obtain⟨gy,rK⟩:∃gy,w6.heap.size=gy:=⟨_,rfl⟩
           have qJ:=Kh (show gy≠G by have h1:=bY.1.sts.1;omega);rw[rK]at X ⊢;have pA:=Kh (HZ.1.keep nU);have qO:=Kh (show n5<=10 by rw[<-HZ.1.2.1];exact nM (Pn (by have:=qU.1 k;omega)) (by omega));refine(Ht s p n5 c5 (Y k) w7 pA.1.raw (by have:=qO.1;omega)).mono ?_;rintro e w8 ⟨rfl,nV⟩;have hP:=nU.trans (nV.mono nU.size);have aN:=Kh (ZRow.keep bY.1 hP);have oI:=Kh (eT.1.trans (Ag G hP));have oY:=Kh (X.below_ nV X.lt);have tY:=Kh (pA.1.keep nV);clear oC nU X rK nV hP a0 a1 bY eT HZ pA;by_cases hz0:Y k=0
           ·have uQ:(Int.sign (Y k) != 0)=false:=by rw[hz0];rfl
            have tT:=Kh (show ZRow (E6 Fr Y (k+1)) w8 G C C from ZRow.congr aN.1 (λj _=>T3 hz0 j));clear hz0;go_wp2;go_roundw
            case rel=>exact⟨k+1,by omega,by go_num,tT.1,oI.1⟩
            case measure=>simp[intOf];omega
           ·have uQ:(Int.sign (Y k) != 0)=true:=by
             have h:Int.sign (Y k)≠0:=λe=>hz0 (Int.sign_eq_zero_iff_zero.1 e)
             simpa using h
            obtain⟨s5,p5,n6,c6,f0,f1,oE⟩:=aN.1.val k hlt;rw[R6]at oE;have sY:=Kh oE;have tM:=Kh (show n6<=10 by rw[<-oE.2.1];exact nM (Pn (by have:=tS.1 k;omega)) (by omega));have vL:=qJ.1;have x0:=oY.1.at_ 0 rfl;have x1:=oY.1.at_ 1 rfl;have wE:G<w8.heap.size:=aN.1.sts.1;have wH:gy<w8.heap.size:=oY.1.lt;have pN:=aN.1;clear hz0 oE;go_upto_region 29 with(fail)
            refine Lg (λW=>W.cell? ⟨gy,0,none⟩=some (.bool s)/\W.cell? ⟨gy,1,none⟩=some (.slice p n5 c5)/\W.cell? ⟨G,k*2,none⟩=some (.bool s5)/\W.frozen? ⟨G,k*2,none⟩=false/\W.cell? ⟨G,k*2+1,none⟩=some (.slice p5 n6 c6)/\W.frozen? ⟨G,k*2+1,none⟩=false) (λW hb=>⟨Av hb x0,Av hb x1,Av hb f0,Ab hb (by rw[f0];rfl) (pN.free (k*2) (by omega)),Av hb f1,Ab hb (by rw[f1];rfl) (pN.free (k*2+1) (by omega))⟩) (λtR hHeld0=>?_);clear x0 x1 f0 f1 pN;refine Ap 0 ?_;refine Ap 1 ?_;refine Ap 2 ?_;refine Ap 3 ?_;refine Ap 4 ?_;refine Ap 5 ?_;refine Ap 6 ?_;refine Hq 7 rfl (λK hK=>?_);focus(go_simp;refine(R7 s5 p5 n6 c6 (Fr k) s p n5 c5 (Y k) _ (sY.1.keep (Below.refl _ w8).drew).raw (tY.1.keep (Below.refl _ w8).drew).raw (by have:=tM.1;omega) (by have:=qO.1;omega)).mono ?_;rintro e w9 ⟨⟨s6,p6,n7,c7,rfl,rU⟩,gI⟩;have oR:=Kh ((Below.refl _ w8).drew.trans gI:Below w8.heap.size w8 w9);have rN:=ZRow.keep aN.1 oR.1;have qR:=Kh (ZRow.set (k':=C) rN k hlt (E6 Fr Y (k+1)) (λi h1 h2=>⟨h1,N8 h2⟩) (by rw[N9];exact rU));have oU:=Kh (show ∀v0 v1,w5.grownBy ((w9.setCell ⟨G,k*2,none⟩ v0).setCell ⟨G,k*2+1,none⟩ v1) (some G)from λ_ _=>(oI.1.trans (Ag G oR.1)).trans (Jv w9 G _ _ _ _));clear rU gI rN;(first|with_reducible refine hK.out _ _ ?_ (λhHeld1=>?_) |(go_wp2_with fail;with_reducible refine hK.out _ _ ?_ (λhHeld1=>?_))))
            focus((try dsimp only);exact tR.1 _ oR.1)
            focus(clear hK K;(try simp only[Act.put,Bn,Bp,Bo]))
            refine Ap 8 ?_;refine Le 9 rfl (λK hK=>?_);go_simp
            refine hK.out _ _ ?_;clear hK K
            (try simp only[Act.put,Bn,Bp,Bo])
            all_goals go_wp2
            all_goals go_roundw
            all_goals first
             | exact⟨k+1,by omega,by go_num,qR.1,oU.1 _ _⟩
             |(simp[intOf];omega)
          ·obtain rfl:C=k:=by omega
           have tP:=Kh (show ZRow (F9 n wt L f r (Dk q) (t+1)) w6 G C C from ZRow.congr bY.1 (λj hj=>by rw[Tz hj,tQ.1]));have sV:=Kh (show Below G wx w6 from Aq qA.1 eT.1 (Nat.le_of_lt dC.1.sts.1) (nL _));go_wp2;go_roundw
           case rel=>exact⟨t+1,by omega,by go_num,tP.1,sV.1⟩
           case measure=>simp[intOf];omega
        ·obtain rfl:ln=t:=by omega
         have pH:Below wx.heap.size wx aK:=oJ.1▸bE.1;have nA:=Kh (eY.1.keep pH);have tD:=Kh (mE.1.trans (Ag go pH));obtain⟨p,c,g2,xs,hK,hX⟩:=nA.1.c2;obtain⟨m,hm⟩:∃x,(q*C+r)*C=x:=⟨_,rfl⟩
         have wK:m<=20000:=by
          rw[<-hm];have h1:q*C<=1*72:=Nat.mul_le_mul (by omega) hC;exact nM (Nat.mul_le_mul (by omega:q*C+r<=144) hC) (by decide)
         rw[hm]at g2 hK hX nA;have tJ:=Kh (show m+C=(q*C+(r+1))*C by rw[<-hm,<-Nat.add_assoc,Nat.add_mul _ 1 C,Nat.one_mul]);have HK:=Kh hK;have HX:=Kh hX;have tA:=Kh g2;have sX:=Kh (show ∀j,j<C->F (m+j)=F9 n wt L f r (Dk q) ln j from λj hj=>by rw[<-hm,HF.1 q r j hq2 hrC hj,tI.1]);clear pH hK hX hm;go_wp2_with (at_builtin;refine K5 NotInt rfl (.tmp 114) (.tmp 115) _ 84 rfl underlying97 Wa rfl (by decide) GB m C G C (.slice p m c) xs (Ax aK G (C*2)) rfl HK.1 rfl (Ci _ _ _) (Lh E.1) (Nu E.1) (by omega) (by omega) pD nA.1.hB (Py E.1) mR ?_;intro v' w9 eF hS rD;obtain⟨p',c',rfl⟩:=Bg eF.1;obtain⟨d2,df,qY⟩:=OutAt.more nA.1 tA.1 HK.1 HX.1 E.1 eF hS sX.1;have tN:=Kh qY;have oU:=Kh ((H7 tD.1 hS mD.1.symm (λb hb=>Cl HK.1.1 hb.symm)).trans (Ar w9 go 2 (.slice p' (m+C) c')));clear qY eF hS rD g2)
         go_roundw
         case rel=>exact⟨r+1,by omega,by go_num,by rw[<-tJ.1];exact tN.1,oU.1⟩
         case measure=>simp[intOf];omega
    ·obtain rfl:C=r:=by omega
     have tO:=Kh (show OutAt F wx go GB C2 C ((q+1)*C*C)by
      have e:(q+1)*C=q*C+C:=by rw[Nat.add_mul,Nat.one_mul]
      rw[e];exact eY.1)
     go_wp2;go_roundw
     case rel=>exact⟨q+1,by omega,by go_num,tO.1,mE.1⟩
     case measure=>simp[intOf];omega
  ·obtain rfl:q=2:=by omega
   obtain⟨p,c,g2,qZ⟩:=eX.1.c2;obtain⟨gA,cA,hv,rE,rF,uO,_,rV⟩:=qZ.ret (Nat.mul_pos (by omega) pD);have nY:gr≠go:=by have:=cB.1.1;have:=cX.1;omega
   have rI:gr<GB:=by have:=cB.1.1;have:=cX.1;have:=eX.1.lt;omega
   have cM:=M.1.block gr (by rw[mD.1];exact rI) (λe=>by injection e with e;exact nY e);have r0:=M.1.cell (cB.1.2.at_ 0 rfl) (λe=>by injection e with e;exact nY e);have r1:=M.1.cell (cB.1.2.at_ 1 rfl) (λe=>by injection e with e;exact nY e);have r2:=M.1.cell (cB.1.2.at_ 2 rfl) (λe=>by injection e with e;exact nY e);have f0:wa.frozen? ⟨gr,0,none⟩=false:=(World.frozen?_of_block (a:=⟨gr,0,none⟩) cM).trans (cB.1.2.free_ 0);have f1:wa.frozen? ⟨gr,1,none⟩=false:=(World.frozen?_of_block (a:=⟨gr,1,none⟩) cM).trans (cB.1.2.free_ 1);have f2:wa.frozen? ⟨gr,2,none⟩=false:=(World.frozen?_of_block (a:=⟨gr,2,none⟩) cM).trans (cB.1.2.free_ 2);have hU:Stk NotU32 wB gr:=Stk.of cB.1.2 (by intro v hv;simp at hv;rcases hv with rfl|rfl|rfl <;> exact λ_ h=>by cases h);have rO:Stk NotU32 wa gr:=⟨nN hU.1 M.1.size,λi u hu=>hU.2 i u ((World.cell?_of_block (a:=⟨gr,i,none⟩) cM).symm.trans hu)⟩
   have a0:=eX.1.c0;have a1:=eX.1.c1;rw[hv]at g2;have oS:=Kh (Dm (w:=wa) (R:=gr) (v0:=.int .i64 (C2:Int)) (v1:=.int .i64 (C:Int)) (v2:=.slice (some ⟨gA,0,none⟩) (2*C*C) cA) (by rw[r0];rfl) (by rw[r1];rfl) (by rw[r2];rfl));have tF:=Kh (Ji rO (v0:=.int .i64 (C2:Int)) (v1:=.int .i64 (C:Int)) (v2:=.slice (some ⟨gA,0,none⟩) (2*C*C) cA) (λ_ h=>by cases h) (λ_ h=>by cases h));have qE:=Kh (((Ar wa gr 0 (.int .i64 (C2:Int))).trans (Ar _ gr 1 (.int .i64 (C:Int)))).trans (Ar _ gr 2 (.slice (some ⟨gA,0,none⟩) (2*C*C) cA)));have nC:=Kh (show gA<wa.heap.size/\gA≠gr/\(∀j,j<2*C*C->ZE (F j) wa gA (j*2))/\2*C*C<=cA/\cA<=9223372036854775807 from⟨by assumption,by omega,rV,rE,rF⟩);have hE:=Kh (show Below w.heap.size w wa from Aq (mB.1.trans (mC.1.mono (by have h1:=mB.1.size;have h2:=cD.1;omega))) M.1 (by have h1:=mB.1.size;have h2:=mC.1.size;omega) (by have h1:=mB.1.size;have h2:=cD.1;have h3:=cX.1;omega));clear qZ hv rE rF uO rV cM hU rO;go_wp2;have e0:=oS.1.1;have e1:=oS.1.2.1;have e2:=oS.1.2.2;try simp only[Exit.inBlock,Exit.then]
   refine bodyPost_ret (by simp[results,results47,go_sem,e0,e1,e2];try rfl) rfl ?_;refine⟨⟨gA,0,cA,by rw[sW.1],by simpa using nC.1.1,λj hj=>?_,nC.1.2.2.2⟩,?_⟩
   ·rw[sZ.1,Nat.zero_add];exact(nC.1.2.2.1 j hj).but32 tF.1 qE.1 nC.1.2.1
   ·exact Aq hE.1 qE.1 hE.1.size (by have:=tC.1;omega)
end Go.Proofs.YtenlbhlllgppmaaGreatDoor
namespace Go.Proofs.YtenlbhlllgppmaaGreatDoor
open Tryz
open Go.RowKit Eli
theorem Zj {P:Program} (K:Value->Prop) (W:World) (t ty E:TypeId) {z:Value} {sz J:Nat} (hU:P.underlying t=some (.slice E))
  (V:(P.info? E).map (λi=>(i.zero,i.size,i.bytes))=some (some z,sz,J)) (bA:z.cells.size=sz) (aD:0<sz) (B n m g c:Nat) (v:Value) (xs I:List Value)
  (M:OwnK K W B E sz v n xs) (hn:I.length=m*sz) (U:∀(j:Nat) (u:Value),I[j]?=some u->W.cell? ⟨g,j,none⟩=some u) (h1:∀u∈I,u.oneCell'=true)
  (hb:(n+m)*J<=140737488355328) (hm:n+m<=9223372036854775807) (hB:B<=W.heap.size) (cA:∀u∈I,K u) (cB:∀u∈z.cells.toList,K u):
  ∃v' w',(Builtin.append_ #[t,t] ty #[v,.slice (some ⟨g,0,none⟩) m c]).run P W=.ok v' w'/\OwnK K w' B E sz v' (n+m) (xs++I)/\W.grownBy w' v.ownBlock:=by
 obtain⟨i0,hi,aK,aN,aX⟩:=info_parts V;rcases Nat.eq_zero_or_pos m with rfl|cF
 ·obtain rfl:I=[]:=List.eq_nil_of_length_eq_zero (by rw[hn,Nat.zero_mul])
  have Z:Src P i0.size t (.slice (some ⟨g,0,none⟩) 0 c) 0 [] W:=Src.ofSlice W hU _ 0 c [] (by simp) (λj u h=>by simp at h) (λu h=>by cases h)
  obtain⟨a,k,hv,cD⟩:∃a k,v=.slice a n k/\n<=k:=by
   rcases Cb M.1 with⟨rfl,rfl,_⟩ |⟨g',cap,rfl,_,_,hc⟩
   ·exact⟨none,0,rfl,nL _⟩
   ·exact⟨_,cap,rfl,hc⟩
  have hr:=run_append_nothing (P:=P) W t t ty E i0 hU hi a n k cD (.slice (some ⟨g,0,none⟩) 0 c) Z;rw[<-hv]at hr;exact⟨v,W,hr,by rw[List.append_nil,Nat.add_zero];exact M,⟨rfl,rfl,rfl,nL _,λ_ _ _=>rfl⟩⟩
 ·have O:∀(j:Nat) (u:Value),I[j]?=some u->W.cell? ((⟨g,0,none⟩:Addr).add j)=some u:=by
   intro j u hu
   have e:(⟨g,0,none⟩:Addr).add j=⟨g,j,none⟩:=by
    unfold Addr.add;split
    ·rename_i h0;rw[h0]
    ·simp
   rw[e];exact U j u hu
  obtain⟨v',w',hr,g1,g2,_,_⟩:=run_append_own_at (P:=P) W B t ty E i0 z sz J hU hi aK aN aX bA aD v n xs M.1 ⟨g,0,none⟩ m c I hn O h1 hm hb hB;have g4:=Ep K W B t ty E i0 z sz J hU hi aK aN aX bA aD v n xs M.1 ⟨g,0,none⟩ m c I hn O h1 hm hb cF M.2 cA cB hr;exact⟨v',w',hr,⟨g1,g4⟩,g2⟩
theorem QRow.cellOf {F:Nat->FP} {w:World} {g N:Nat} (h:QRow F w g N N) {i:Nat} (I:i<N*4):w.cell? ⟨g,i,none⟩=some (cellOf w ⟨g,i,none⟩):=by
 obtain⟨u,E⟩:=nP (h.has i I);rw[E,Af E]
theorem QRow.shape {F:Nat->FP} {w:World} {g N:Nat} (h:QRow F w g N N) {u:Value} (Z:u∈Ax w g (N*4)):(∃s,u=.bool s)∨∃p n c,u=.slice p n c:=by
 obtain⟨i,E⟩:=List.getElem?_of_mem Z;have V:=D3 E;rw[Bc V]at E;injection E with E
 subst E;obtain⟨s,p,n,c,t,q,m,d,J,M,O,U,_⟩:=h.val (i / 4) (by omega);rcases(by omega:i % 4=0∨i % 4=1∨i % 4=2∨i % 4=3)with I|I|I|I
 ·rw[show i / 4*4=i by omega]at J
  exact .inl ⟨s,Af J⟩
 ·rw[show i / 4*4+1=i by omega]at M
  exact .inr ⟨p,n,c,Af M⟩
 ·rw[show i / 4*4+2=i by omega]at O
  exact .inl ⟨t,Af O⟩
 ·rw[show i / 4*4+3=i by omega]at U
  exact .inr ⟨q,m,d,Af U⟩
theorem QRow.one {F:Nat->FP} {w:World} {g N:Nat} (h:QRow F w g N N):∀u∈Ax w g (N*4),u.oneCell'=true:=by
 intro u E;rcases h.shape E with⟨s,rfl⟩ |⟨p,n,c,rfl⟩ <;> rfl
theorem QRow.ni {F:Nat->FP} {w:World} {g N:Nat} (h:QRow F w g N N):∀u∈Ax w g (N*4),NotInt u:=by
 intro u E;rcases h.shape E with⟨s,rfl⟩ |⟨p,n,c,rfl⟩
 ·exact NotInt.bool _
 ·exact NotInt.slice _ _ _
theorem QRow.cells {F:Nat->FP} {w:World} {g N:Nat} (h:QRow F w g N N):∀(j:Nat) (u:Value),(Ax w g (N*4))[j]?=some u->w.cell? ⟨g,j,none⟩=some u:=by
 intro j u E;have I:=D3 E;rw[Bc I]at E;rw[h.cellOf I,E]
theorem OwnQ.more {F R:Nat->FP} (hF:∀j,Bi (F j)) {W w':World} {B n m g:Nat} {v V:Value} {J:List Value} (M:OwnK NotInt W B 86 4 v n J) (h:∀j,j<n->QX (F j) W J (j*4))
  (hr:QRow R W g m m) (h3:OwnK NotInt w' B 86 4 V (n+m) (J++Ax W g (m*4))) (hg:W.grownBy w' v.ownBlock) (Z:∀j,j<m->F (n+j)=R j):OwnQ F w' B V (n+m):=by
 have E:=I32.grown (K:=NotInt) (λx=>Fx x) M.2 hg;refine⟨_,h3,λj hj=>?_⟩;by_cases hjn:j<n
 ·exact((h j hjn).i32 (hF j) E).app
 ·obtain⟨k,rfl⟩:∃k,j=n+k:=⟨j - n,by omega⟩
  have O:k<m:=by omega
  have I:J.length=n*4:=M.1.1;obtain⟨s,p,c,d,t,q,e,f,c0,c1,c2,c3,U⟩:=hr.val k O;rw[<-Z k O]at U;refine⟨s,p,c,d,t,q,e,f,?_,?_,?_,?_,hF _ _ _ _ _ _ _ _ _ _ _ E U⟩
  ·rw[List.getElem?_append_right (by omega),I,show(n+k)*4 - n*4=k*4 by omega,Bc (by omega),Af c0]
  ·rw[List.getElem?_append_right (by omega),I,show(n+k)*4+1 - n*4=k*4+1 by omega,Bc (by omega),Af c1]
  ·rw[List.getElem?_append_right (by omega),I,show(n+k)*4+2 - n*4=k*4+2 by omega,Bc (by omega),Af c2]
  ·rw[List.getElem?_append_right (by omega),I,show(n+k)*4+3 - n*4=k*4+3 by omega,Bc (by omega),Af c3]
structure MatAt (F:Nat->FP) (w:World) (go B R C m:Nat):Prop where
 lt:go<B
 hB:B<=w.heap.size
 c0:w.cell? ⟨go,0,none⟩=some (.int .i64 (R:Int))
 c1:w.cell? ⟨go,1,none⟩=some (.int .i64 (C:Int))
 c2:∃p c,w.cell? ⟨go,2,none⟩=some (.slice p m c)/\OwnQ F w B (.slice p m c) m
 fr:w.frozen? ⟨go,2,none⟩=false
 stk:Stk NotU32 w go
theorem MatAt.keep {F:Nat->FP} (hF:∀j,Bi (F j)) {w w':World} {go B R C m:Nat} (h:MatAt F w go B R C m) (E:Below w.heap.size w w'):MatAt F w' go B R C m:=by
 obtain⟨p,c,I,J⟩:=h.c2;exact⟨h.lt,nM h.hB E.size,Ad E h.c0,Ad E h.c1,⟨p,c,Ad E I,J.keep hF E⟩,Ab E (by rw[I];rfl) h.fr,h.stk.next E⟩
theorem OwnQ.box {F:Nat->FP} (hF:∀j,Bi (F j)) {w w':World} {B n G:Nat} {v:Value} (h:OwnQ F w B v n) (J:I32 w w') (hg:w.grownBy w' (some G)) (hG:G<B):OwnQ F w' B v n:=by
 obtain⟨xs,I,U⟩:=h
 have E:∀g,v.ownBlock=some g->some g≠some G:=λg e O=>by
  have:=Cl I.1 e.symm;injection O with O;omega
 refine⟨xs,⟨I.1.kept hg ?_,λg e=>?_⟩,λj Z=>(U j Z).i32 (hF j) J⟩
 ·cases hv:v.ownBlock with
  | none=>exact .inl rfl
  | some g=>exact .inr (E g hv)
 ·have M:=I.2 g e
  have V:=hg.block g M.1 (E g e);exact⟨nN M.1 hg.size,λi u hu=>M.2 i u ((World.cell?_of_block (a:=⟨g,i,none⟩) V).symm.trans hu)⟩
theorem MatAt.more {F:Nat->FP} (hF:∀j,Bi (F j)) {W w':World} {go B R C m n:Nat} {xs:List Value} {p:Option Addr} {c:Nat} {p':Option Addr} {M:Nat} (h:MatAt F W go B R C m) (hv:W.cell? ⟨go,2,none⟩=some (.slice p m c)) (Z:W.ownsRow B 86 4 (.slice p m c) m xs) (hO:OwnQ F w' B (.slice p' n M) n) (hg:W.grownBy w' (Value.slice p m c).ownBlock):
  w'.cell? ⟨go,2,none⟩=some (.slice p m c)/\w'.frozen? ⟨go,2,none⟩=false/\MatAt F (w'.setCell ⟨go,2,none⟩ (.slice p' n M)) go B R C n:=by
 have O:some go≠(Value.slice p m c).ownBlock:=λe=>by
  have:=Cl Z e;have:=h.lt;omega
 have I:go<W.heap.size:=nN h.lt h.hB;have E:=hg.block go I (λe=>O e);have U:w'.cell? ⟨go,2,none⟩=some (.slice p m c):=(World.cell?_of_block (a:=⟨go,2,none⟩) E).trans hv;have V:w'.frozen? ⟨go,2,none⟩=false:=(World.frozen?_of_block (a:=⟨go,2,none⟩) E).trans h.fr;have J:Stk NotU32 w' go:=⟨nN I hg.size,λi u hu=>h.stk.2 i u ((World.cell?_of_block (a:=⟨go,i,none⟩) E).symm.trans hu)⟩
 refine⟨U,V,h.lt,by simpa using nM h.hB hg.size,?_,?_,⟨p',M,World.cell?_setCell_same' _ _ _ (by rw[U];rfl),hO.box hF (I32.putU J 2 _) (Ar w' go 2 _) h.lt⟩,Aw V,Be J _ _ (λ_ h=>by cases h)⟩
 ·rw[World.cell?_setCell_other _ _ _ _ (by simp)];exact(World.cell?_of_block (a:=⟨go,0,none⟩) E).trans h.c0
 ·rw[World.cell?_setCell_other _ _ _ _ (by simp)];exact(World.cell?_of_block (a:=⟨go,1,none⟩) E).trans h.c1
end Go.Proofs.YtenlbhlllgppmaaGreatDoor
namespace Go.Proofs.YtenlbhlllgppmaaGreatDoor
open Tryz
open Go.RowKit
def IsS (x y:Int):FP:=λw s p n c t q m d=>Zs w s p n c x/\Zs w t q m d y/\n<=1000/\m<=1000
theorem IsS.solid (x y:Int):Bi (IsS x y):=λ_ _ _ _ _ _ _ _ _ _ h hq=>⟨hq.1.i32 h,hq.2.1.i32 h,hq.2.2⟩
end Go.Proofs.YtenlbhlllgppmaaGreatDoor
namespace Go.Proofs.YtenlbhlllgppmaaGreatDoor
open Tryz
open Go.RowKit Eli
theorem OwnQ.base {F:Nat->FP} {w:World} {B B' n:Nat} {v:Value} (h:OwnQ F w B v n) (hB:B'<=B):OwnQ F w B' v n:=by
 obtain⟨O,E,M⟩:=h;refine⟨O,⟨⟨E.1.1,?_⟩,E.2⟩,M⟩;rcases E.1.2 with h |⟨J,cap,cs,e,I,hr⟩
 ·exact .inl h
 ·exact .inr ⟨J,cap,cs,e,nM hB I,hr⟩
theorem OwnQ.imp {F G:Nat->FP} {w:World} {B n:Nat} {v:Value} (h:OwnQ F w B v n) (hi:∀j,j<n->∀s p k c t q m d,F j w s p k c t q m d->G j w s p k c t q m d):OwnQ G w B v n:=by
 obtain⟨xs,U,V⟩:=h;refine⟨xs,U,λj E=>?_⟩;obtain⟨s,p,k,c,t,q,m,d,I,J,M,O,Z⟩:=V j E;exact⟨s,p,k,c,t,q,m,d,I,J,M,O,hi j E _ _ _ _ _ _ _ _ Z⟩
theorem Pv {F:Nat->FP} {w:World} {v:Value} {n:Nat} (h:QL F w v n):∃p c,v=.slice p n c:=by
 rcases h with⟨rfl,a,c,e⟩ |⟨g,o,cap,e,_⟩
 ·exact⟨a,c,e⟩
 ·exact⟨_,cap,e⟩
end Go.Proofs.YtenlbhlllgppmaaGreatDoor
namespace Go.Proofs.YtenlbhlllgppmaaGreatDoor
open Tryz
namespace Eli
open Tryz
open Sie
def RSp (rows:Nat->Nat->Int) (k:Nat) (u:Nat->Rat):Prop:=∃z:Nat->Rat,∀q,u q=sumQ (λi=>z i*(rows i q:Rat)) k
theorem RSp.nil (rows:Nat->Nat->Int) (k:Nat):RSp rows k (λ_=>0):=⟨λ_=>0,λq=>(A7 (λi _=>by grind)).symm⟩
theorem RSp.combine {rows:Nat->Nat->Int} {k:Nat} {u v:Nat->Rat} (J:RSp rows k u) (c:Rat) (M:RSp rows k v):RSp rows k (λq=>u q+c*v q):=by
 obtain⟨y,E⟩:=J;obtain⟨z,I⟩:=M;refine⟨λj=>y j+c*z j,λq=>?_⟩;dsimp only;rw[E,I,<-Am,<-As];exact Ac λi _=>by grind
theorem RSp.congr {rows:Nat->Nat->Int} {k:Nat} {u v:Nat->Rat} (I:RSp rows k u) (h:∀q,v q=u q):RSp rows k v:=by
 obtain⟨y,E⟩:=I;exact⟨y,λq=>by rw[h,E]⟩
theorem RSp.mono {rows:Nat->Nat->Int} {k k':Nat} {u:Nat->Rat} (M:RSp rows k u) (h:k<=k'):RSp rows k' u:=by
 obtain⟨y,E⟩:=M;refine⟨λj=>if j<k then y j else 0,λq=>?_⟩;rw[E,Im h (λi I _=>by simp only[if_neg (Nat.not_lt.2 I)];grind)];exact Ac λi J=>by simp only[if_pos J]
theorem RSp.row {rows:Nat->Nat->Int} {k i:Nat} (I:i<k):RSp rows k (λq=>(rows i q:Rat)):=by
 refine⟨λj=>if j=i then 1 else 0,λq=>?_⟩;rw[A6 I (λj _ E=>by simp only[if_neg E];grind)];simp
theorem RSp.sum {rows:Nat->Nat->Int} {k:Nat} {L:Nat->Nat->Rat} {z:Nat->Rat}:∀t,(∀j,j<t->z j=0∨RSp rows k (L j))->RSp rows k (λq=>sumQ (λj=>z j*L j q) t)
 | 0,_=>(RSp.nil rows k).congr (λ_=>rfl)
 | t+1,h=>by
  have I:=RSp.sum t (λj J=>h j (by omega)) (rows:=rows) (k:=k) (L:=L) (z:=z);rcases h t (nO _)with E|E
  ·exact I.congr (λq=>by rw[sumQ,E];grind)
  ·exact(I.combine (z t) E).congr (λq=>by rw[sumQ])
theorem RSp.of_sp {rows:Nat->Nat->Int} {k t:Nat} {ld:Nat->Bool} {L:Nat->Nat->Rat} {u:Nat->Rat} (J:Sp ld L t u) (h:∀j,j<t->ld j=true->RSp rows k (L j)):RSp rows k u:=by
 obtain⟨z,M,I⟩:=J;refine(RSp.sum (L:=L) (z:=z) t (λj E=>?_)).congr I;cases hl:ld j with
 | false=>exact .inl (M j E hl)
 | true=>exact .inr (h j E hl)
theorem Sp.sum {ld:Nat->Bool} {L:Nat->Nat->Rat} {t:Nat} {R:Nat->Nat->Rat} {z:Nat->Rat}:∀k,(∀j,j<k->z j=0∨Sp ld L t (R j))->Sp ld L t (λq=>sumQ (λj=>z j*R j q) k)
 | 0,_=>(Sp.nil ld L t).congr (λ_=>rfl)
 | k+1,h=>by
  have I:=Sp.sum k (λj J=>h j (by omega)) (ld:=ld) (L:=L) (t:=t) (R:=R) (z:=z);rcases h k (nO _)with E|E
  ·exact I.congr (λq=>by rw[sumQ,E];grind)
  ·exact(I.combine (z k) E).congr (λq=>by rw[sumQ])
theorem RSp.sp {rows:Nat->Nat->Int} {k t:Nat} {ld:Nat->Bool} {L:Nat->Nat->Rat} {u:Nat->Rat} (J:RSp rows k u) (h:∀i,i<k->Sp ld L t (λq=>(rows i q:Rat))):Sp ld L t u:=by
 obtain⟨z,E⟩:=J;exact(Sp.sum (R:=λi q=>(rows i q:Rat)) (z:=z) k (λj I=>.inr (h j I))).congr E
theorem Sp.trim {ld:Nat->Bool} {L:Nat->Nat->Rat} {t n:Nat} {u:Nat->Rat} (E:Sp ld L t u) (h:∀j,n<=j->ld j=false):Sp ld L n u:=by
 by_cases ht:t<=n
 ·exact E.mono ht
 ·obtain⟨z,I,J⟩:=E
  refine⟨z,λj V U=>I j (by omega) U,λq=>?_⟩;rw[J];exact Im (by omega) (λi M O=>by rw[I i O (h i M)];grind)
theorem Good.high {n B:Nat} {leads:Nat->List (Nat×Rat)} (h:Good n B leads) (j:Nat) (E:n<=j):ldOf leads j=false:=B7 ((h.ord j).top E)
theorem Vg {leads:Nat->List (Nat×Rat)} {x:Nat×Rat} {r:List (Nat×Rat)} (h:leads x.1=[]):
  ldOf (Eli.put leads (x :: r)) x.1=true/\(∀q,rowOf (Eli.put leads (x :: r)) x.1 q=1 / x.2*val (x :: r) q) /\
  (∀j,j≠x.1->ldOf (Eli.put leads (x :: r)) j=ldOf leads j/\rowOf (Eli.put leads (x :: r)) j=rowOf leads j) /\
  ∀t u,Sp (ldOf leads) (rowOf leads) t u->Sp (ldOf (Eli.put leads (x :: r))) (rowOf (Eli.put leads (x :: r))) t u:=by
 obtain⟨J,M⟩:∃J,Eli.put leads (x :: r)=J:=⟨_,rfl⟩
 have e1:J x.1=scl (x :: r):=by rw[<-M];exact if_pos rfl
 have e2:∀j,j≠x.1->J j=leads j:=λj I=>by rw[<-M];exact if_neg I
 have e3:scl (x :: r)≠[]:=by rw[scl,List.map_cons];exact List.cons_ne_nil _ _
 have O:ldOf J x.1=true:=C5 (by rw[e1];exact e3);have E:∀j,j≠x.1->ldOf J j=ldOf leads j:=λj I=>by rw[ldOf,e2 j I];rfl
 have V:∀j,j≠x.1->rowOf J j=rowOf leads j:=λj I=>by funext q;rw[rowOf,rowOf,E j I,e2 j I]
 have aD:∀q,rowOf J x.1 q=1 / x.2*val (x :: r) q:=λq=>by rw[rowOf,O,if_pos rfl,e1,Tp]
 rw[M];refine⟨O,aD,λj I=>⟨E j I,V j I⟩,λt u hu=>hu.turn λj _ Z=>?_⟩;have U:j≠x.1:=λe=>by rw[e,B7 h]at Z;cases Z
 exact⟨by rw[E j U];exact Z,V j U⟩
theorem dK {n B:Nat} {leads:Nat->List (Nat×Rat)} {v:Nat->Int} {t:Nat} {x:Nat×Rat} {r:List (Nat×Rat)} (h:Good n B leads) (hr:RowOk n leads v t (x :: r)) (J:Ro leads (x :: r)=x :: r):leads x.1=[]:=by
 refine Classical.byContradiction λI=>?_
 obtain⟨⟨E,_⟩,_⟩:=hr.step h I;rw[J]at E;have:=E.1;omega
theorem Ly {n B:Nat} {rows:Nat->Nat->Int} (hB:1<=B) (hb:∀i q,(rows i q).natAbs<=B) (h0:∀i q,n<=q->rows i q=0) (k:Nat):
  (∀i,i<k->Sp (ldOf (elim n rows k)) (rowOf (elim n rows k)) n (λq=>(rows i q:Rat)))/\∀j,ldOf (elim n rows k) j=true->RSp rows k (rowOf (elim n rows k) j):=by
 induction k with
 | zero=>exact⟨λi V=>absurd V (Nat.not_lt_zero _),λj I=>by cases I⟩
 | succ k ih=>
  obtain⟨J,E⟩:=ih;have hg:=Good.elim hB hb h0 k;have hr:=RowOk.first n (Eli.elim n rows k) (rows k) (h0 k)
  obtain⟨t,U,_⟩:=hr.steps hg n;have hs:=hr.end_still hg;rw[show elim n rows (k+1)=Eli.put (elim n rows k) (Ev (elim n rows k) n (Qf (rows k) n))from rfl];generalize Ev (elim n rows k) n (Qf (rows k) n)=r at U hs ⊢;generalize elim n rows k=leads at J E hg U hs ⊢;obtain⟨h,u,hu,O⟩:=U;have M:=hu.trim hg.high;have aN:RSp rows k u:=RSp.of_sp hu (λj _ I=>E j I);cases r with
  | nil=>
   refine⟨λi V=>?_,λj I=>(E j I).mono (Nat.le_succ _)⟩;by_cases e:i=k
   ·subst e
    exact M.congr (λq=>by rw[O,Jl];grind)
   ·exact J i (by omega)
  | cons x r=>
   have Z:=dK hg ⟨h,u,hu,O⟩ hs;obtain⟨f1,f2,f3,f4⟩:=Vg (r:=r) Z;have hx:=h.2.2.1;have aX:=h.2.1;refine⟨λi V=>?_,λj I=>?_⟩
   ·by_cases e:i=k
    ·subst e
     refine((f4 _ _ M).combine x.2 (Sp.lead aX f1)).congr (λq=>?_);rw[O,f2];grind
    ·exact f4 _ _ (J i (by omega))
   ·by_cases e:j=x.1
    ·subst e
     have h2:RSp rows (k+1) (λq=>(rows k q:Rat)+(-1)*u q):=(RSp.row (nO _)).combine (-1) (aN.mono (Nat.le_succ _));refine((RSp.nil rows (k+1)).combine (1 / x.2) h2).congr (λq=>?_);rw[f2,O];grind
    ·obtain⟨g1,g2⟩:=f3 j e
     rw[g1]at I;rw[g2];exact(E j I).mono (Nat.le_succ _)
theorem Inv.unique {B:Nat} {ld:Nat->Bool} {L:Nat->Nat->Rat} {R:Nat->Nat->Int} (h:Inv B ld L R) {n:Nat} {x y u v:Nat->Rat} (hu:Sp ld L n u) (hv:Sp ld L n v)
  (he:∀q,q<n->sumQ (λf=>(if ld f then 0 else x f)*L f q) n+u q=sumQ (λf=>(if ld f then 0 else y f)*L f q) n+v q):∀f,f<n->ld f=false->x f=y f:=by
 obtain⟨a,Z,O⟩:=hu;obtain⟨b,hb,U⟩:=hv
 have V:=h.tri (t:=n) (z:=λj=>((if ld j then 0 else x j)+a j)+(-1)*((if ld j then 0 else y j)+b j)) (λq hq=>by
  have e:=he q hq;rw[O,U]at e
  have M:sumQ (λj=>(((if ld j then 0 else x j)+a j)+(-1)*((if ld j then 0 else y j)+b j))*L j q) n
   =(sumQ (λf=>(if ld f then 0 else x f)*L f q) n+sumQ (λj=>a j*L j q) n)+(-1)*(sumQ (λf=>(if ld f then 0 else y f)*L f q) n+sumQ (λj=>b j*L j q) n):=by
   rw[<-As,<-As,<-Am,<-As];exact Ac λi _=>by grind
  rw[M,e];grind)
 intro f E I;have J:=V f E;rw[Z f E I,hb f E I,I]at J;simp only[Bool.false_eq_true,if_false]at J;grind
theorem Oy {n B:Nat} {leads:Nat->List (Nat×Rat)} (h:Good n B leads) (V:Nat->Rat):∀m,m<=n ->
  ∃u,Sp (ldOf leads) (rowOf leads) n u/\∀q,(if q<m then V q else 0)=sumQ (λf=>(if ldOf leads f then 0 else sumQ (λj=>V j*B6 leads n n j f) m)*rowOf leads f q) n+u q
 | 0,_=>⟨λ_=>0,Sp.nil _ _ _,λq=>by
   rw[if_neg (Nat.not_lt_zero _),A7 (λi _=>?_)]
   ·grind
   ·rw[sumQ];split <;> grind⟩
 | m+1,hm=>by
  obtain⟨u,O,J⟩:=Oy h V m (by omega);obtain⟨w,U,M⟩:=Zm h n m (by omega) (by omega) n (by omega) (nL _);refine⟨_,O.combine (V m) U,λq=>?_⟩
  have E:(if q<m+1 then V q else 0)=(if q<m then V q else 0)+V m*(if q=m then(1:Rat)else 0):=by
   by_cases h1:q=m
   ·rw[h1,if_pos (by omega),if_neg (by omega),if_pos rfl];grind
   ·rw[if_neg h1]
    by_cases h2:q<m
    ·rw[if_pos (by omega),if_pos h2];grind
    ·rw[if_neg (by omega),if_neg h2];grind
  have I:sumQ (λf=>(if ldOf leads f then 0 else sumQ (λj=>V j*B6 leads n n j f) (m+1))*rowOf leads f q) n=sumQ (λf=>(if ldOf leads f then 0 else sumQ (λj=>V j*B6 leads n n j f) m)*rowOf leads f q) n+V m*sumQ (λf=>(if ldOf leads f then 0 else B6 leads n n m f)*rowOf leads f q) n:=by
   rw[<-Am,<-As];refine Ac λf _=>?_
   rw[sumQ];split <;> grind
  rw[E,J,M,I];grind
theorem Q2 {n B:Nat} {leads:Nat->List (Nat×Rat)} (h:Good n B leads) {V:Nat->Rat} (hV:Sp (ldOf leads) (rowOf leads) n V) {f:Nat} (I:f<n) (M:leads f=[]):sumQ (λj=>V j*B6 leads n n j f) n=0:=by
 obtain⟨u,O,E⟩:=Oy h V n (nL _);obtain⟨R,J⟩:=h.inv
 exact J.unique (x:=λf=>sumQ (λj=>V j*B6 leads n n j f) n) (y:=λ_=>0) O hV (λq hq=>by
  rw[<-E,if_pos hq,A7 (λi _=>?_)]
  ·grind
  ·split <;> grind) f I (B7 M)
end Eli
end Go.Proofs.YtenlbhlllgppmaaGreatDoor
