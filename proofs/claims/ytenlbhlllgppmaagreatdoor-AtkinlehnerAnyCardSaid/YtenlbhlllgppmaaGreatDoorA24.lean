/- Contract of manin.Relations: the relations between Manin symbols. -/
import Derived.Test.YtenlbhlllgppmaaGreatDoorA23
set_option linter.unusedSimpArgs false
set_option maxRecDepth 100000
set_option maxHeartbeats 8000000
namespace Go.Proofs.YtenlbhlllgppmaaGreatDoor
open Tryz
open Go.RowKit
def F5 (n wt:Nat) (L:List Nat) (f:Nat->Nat×Int) (r:Nat) (gs:List M4):Nat->Nat->Int
 | 0,k=>if k=r then 1 else 0
 | t+1,k=>F5 n wt L f r gs t k+L8 n wt L f (r / L.length) (r % L.length) (gs.getD t (0,0,0,0)) k
def Db (q:Nat):List M4:=if q=0 then [gTurn]else [gThird,gTwice]
theorem Ye {n wt:Nat} {L:List Nat} {f:Nat->Nat×Int} {q r:Nat} (k:Nat) (hq:q<2) (hr:r<(wt+1)*L.length):Kr n wt L f (q*((wt+1)*L.length)+r) k=F5 n wt L f r (Db q) (Db q).length k:=by
 rcases(by omega:q=0∨q=1)with rfl|rfl
 ·unfold Kr;rw[Nat.zero_mul,Nat.zero_add,if_pos hr];rfl
 ·unfold Kr;rw[Nat.one_mul,if_neg (by omega),Nat.add_sub_cancel_left];rfl
def P5 (g:M4):Prop:=(-1<=g.1/\g.1<=1)/\(-1<=g.2.1/\g.2.1<=1)/\(-1<=g.2.2.1/\g.2.2.1<=1)/\(-1<=g.2.2.2/\g.2.2.2<=1)
theorem Sc (q t:Nat):P5 ((Db q).getD t (0,0,0,0)):=by
 unfold Db;split
 ·rcases t with _|t
  ·exact(show P5 gTurn by unfold P5;decide)
  ·exact(show P5 (0,0,0,0)by unfold P5;decide)
 ·rcases t with _|_|t
  ·exact(show P5 gThird by unfold P5;decide)
  ·exact(show P5 gTwice by unfold P5;decide)
  ·exact(show P5 (0,0,0,0)by unfold P5;decide)
theorem O6 (q:Nat):(Db q).length<=2:=by unfold Db;split <;> decide
theorem Re {n wt:Nat} {L:List Nat} {f:Nat->Nat×Int} {r:Nat} {gs:List M4} (I:TabOk L.length f) (hg:∀t,P5 (gs.getD t (0,0,0,0))) (J:wt<=22) (t k:Nat):(F5 n wt L f r gs t k).natAbs<=1+t*4194304:=by
 induction t with
 | zero=>unfold F5;split <;> simp
 | succ t ih=>
  unfold F5;have Y:2 ^ wt<=4194304:=mH (Nat.pow_le_pow_right (by decide) J) (by decide);obtain⟨M,O,U,V⟩:=hg t;have h:=Ed (n:=n) (w:=wt) (L:=L) (i:=r / L.length) (j:=r % L.length) (g:=gs.getD t (0,0,0,0)) I (by omega) (by omega) k;omega
theorem Pe {x:Int} (h:x.natAbs<=1000000000):nd x.natAbs<=1:=Be.2 (show x.natAbs<4294967296 ^ 1 by omega)
def E5 (F Y:Nat->Int) (k:Nat):Nat->Int:=λj=>if j<k then F j+Y j else F j
theorem Tp (F Y:Nat->Int) (j:Nat):E5 F Y 0 j=F j:=by unfold E5;rw[if_neg (Nat.not_lt_zero j)]
theorem Rs (F Y:Nat->Int) (k:Nat):E5 F Y k k=F k:=by unfold E5;rw[if_neg (Nat.lt_irrefl k)]
theorem N8 (F Y:Nat->Int) (k:Nat):E5 F Y (k+1) k=F k+Y k:=by unfold E5;rw[if_pos (mJ k)]
theorem N7 {F Y:Nat->Int} {k j:Nat} (h:j≠k):E5 F Y k j=E5 F Y (k+1) j:=by
 unfold E5;by_cases hj:j<k
 ·rw[if_pos hj,if_pos (by omega)]
 ·rw[if_neg hj,if_neg (by omega)]
theorem To {F Y:Nat->Int} {k:Nat} (h:Y k=0) (j:Nat):E5 F Y k j=E5 F Y (k+1) j:=by
 by_cases hj:j=k
 ·subst hj;rw[Rs,N8,h,Int.add_zero]
 ·exact N7 hj
theorem Tn {F Y:Nat->Int} {k j:Nat} (h:j<k):E5 F Y k j=F j+Y j:=by unfold E5;rw[if_pos h]
theorem OwnZ.ret {f:Nat->Int} {w:World} {B n:Nat} {v:Value} (h:OwnZ f w B v n) (h0:0<n):∃g cap,v=.slice (some ⟨g,0,none⟩) n cap/\n<=cap/\cap<=9223372036854775807/\B<=g/\g<w.heap.size/\∀j,j<n->ZE (f j) w g (j*2):=by
 obtain⟨xs,J,Y⟩:=h;rcases J.1.2 with⟨_,e2⟩ |⟨g,cap,cs,I,hB,hg,hn,M,Z,_⟩
 ·omega
 ·have hs:=J.2 g (by rw[I];rfl)
  have O:=J.1;subst I;refine⟨g,cap,rfl,hn,by simp only[maxLen]at M;omega,hB,hs.1,λj hj=>?_⟩;obtain⟨s,p,n',c,U,I,V⟩:=Y j hj;exact⟨s,p,n',c,Aq O U,Aq O I,V⟩
theorem OwnZ.congr {f I:Nat->Int} {w:World} {B n:Nat} {v:Value} (h:OwnZ f w B v n) (e:∀j,j<n->f j=I j):OwnZ I w B v n:=by
 obtain⟨U,M,O⟩:=h;exact⟨U,M,λj J=>by rw[<-e j J];exact O j J⟩
theorem OwnZ.slice {f:Nat->Int} {w:World} {B n:Nat} {v:Value} (h:OwnZ f w B v n):∃p c,v=.slice p n c:=by
 obtain⟨J,I,_⟩:=h;exact Bf I.1
theorem OwnZ.box {f:Nat->Int} {w w':World} {B n G:Nat} {v:Value} (h:OwnZ f w B v n) (M:I32 w w') (hg:w.grownBy w' (some G)) (hG:G<B):OwnZ f w' B v n:=by
 obtain⟨xs,J,V⟩:=h
 have I:∀g,v.ownBlock=some g->some g≠some G:=λg e U=>by
  have:=Ch J.1 e.symm;injection U with U;omega
 refine⟨xs,⟨J.1.kept hg ?_,λg e=>?_⟩,λj Z=>(V j Z).i32 M⟩
 ·cases hv:v.ownBlock with
  | none=>exact .inl rfl
  | some g=>exact .inr (I g hv)
 ·have O:=J.2 g e
  have Y:=hg.block g O.1 (I g e);exact⟨mI O.1 hg.size,λi u hu=>O.2 i u ((World.cell?_of_block (a:=⟨g,i,none⟩) Y).symm.trans hu)⟩
structure OutAt (F:Nat->Int) (w:World) (go B C2 C m:Nat):Prop where
 lt:go<B
 hB:B<=w.heap.size
 c0:w.cell? ⟨go,0,none⟩=some (.int .i64 (C2:Int))
 c1:w.cell? ⟨go,1,none⟩=some (.int .i64 (C:Int))
 c2:∃p c,w.cell? ⟨go,2,none⟩=some (.slice p m c)/\OwnZ F w B (.slice p m c) m
 fr:w.frozen? ⟨go,2,none⟩=false
 stk:Stk NotU32 w go
theorem OutAt.keep {F:Nat->Int} {w w':World} {go B C2 C m:Nat} (h:OutAt F w go B C2 C m) (I:Below w.heap.size w w'):OutAt F w' go B C2 C m:=by
 obtain⟨p,c,J,M⟩:=h.c2;exact⟨h.lt,mH h.hB I.size,cell_next I h.c0,cell_next I h.c1,⟨p,c,cell_next I J,M.keep I⟩,Ac I (by rw[J];rfl) h.fr,h.stk.next I⟩
theorem Hz {M W w':World} {go B:Nat} {v:Value} (h:M.grownBy W (some go)) (hg:W.grownBy w' v.ownBlock) (hB:B=M.heap.size) (I:∀b,v.ownBlock=some b->B<=b):M.grownBy w' (some go):=
 ⟨hg.os.trans h.os,hg.tape.trans h.tape,hg.output.trans h.output,mH h.size hg.size,λk O J=>(hg.block k (mI O h.size) (λe=>by have:=I k e.symm;omega)).trans (h.block k O J)⟩
theorem OutAt.more {F r:Nat->Int} {W w':World} {go B C2 C m k g:Nat} {p:Option Addr} {c:Nat} {p':Option Addr} {O:Nat} {V:List Value} (h:OutAt F W go B C2 C m) (hv:W.cell? ⟨go,2,none⟩=some (.slice p m c)) (h1:OwnK NotInt W B 84 2 (.slice p m c) m V) (h2:∀j,j<m->ZX (F j) W V (j*2))
  (hr:ZRow r W g k k) (h3:OwnK NotInt w' B 84 2 (.slice p' (m+k) O) (m+k) (V++Ax W g (k*2))) (hg:W.grownBy w' (Value.slice p m c).ownBlock) (e2:∀j,j<k->F (m+j)=r j):
  w'.cell? ⟨go,2,none⟩=some (.slice p m c)/\w'.frozen? ⟨go,2,none⟩=false/\OutAt F (w'.setCell ⟨go,2,none⟩ (.slice p' (m+k) O)) go B C2 C (m+k):=by
 have U:some go≠(Value.slice p m c).ownBlock:=λe=>by
  have:=Ch h1.1 e;have:=h.lt;omega
 have J:go<W.heap.size:=mI h.lt h.hB;have I:=hg.block go J (λe=>U e);have Y:w'.cell? ⟨go,2,none⟩=some (.slice p m c):=(World.cell?_of_block (a:=⟨go,2,none⟩) I).trans hv;have Z:w'.frozen? ⟨go,2,none⟩=false:=(World.frozen?_of_block (a:=⟨go,2,none⟩) I).trans h.fr;have M:Stk NotU32 w' go:=⟨mI J hg.size,λi u hu=>h.stk.2 i u ((World.cell?_of_block (a:=⟨go,i,none⟩) I).symm.trans hu)⟩
 have hO:=OwnZ.more h1 h2 hr h3 hg F (λ_ _=>rfl) e2;refine⟨Y,Z,h.lt,by simpa using mH h.hB hg.size,?_,?_,⟨p',O,World.cell?_setCell_same' _ _ _ (by rw[Y];rfl),hO.box (I32.putU M 2 _) (Ai w' go 2 _) h.lt⟩,At Z,Bc M _ _ (λ_ h=>by cases h)⟩
 ·rw[World.cell?_setCell_other _ _ _ _ (by simp)];exact(World.cell?_of_block (a:=⟨go,0,none⟩) I).trans h.c0
 ·rw[World.cell?_setCell_other _ _ _ _ (by simp)];exact(World.cell?_of_block (a:=⟨go,1,none⟩) I).trans h.c1
theorem aO (w:World) (U O h:Nat) (M:Blk w U 63 #[.int .i64 0,.int .i64 (-1),.int .i64 1,.int .i64 0]) (I:Blk w O 63 #[.int .i64 0,.int .i64 (-1),.int .i64 1,.int .i64 (-1),.int .i64 (-1),.int .i64 1,.int .i64 (-1),.int .i64 0]) (Z:Blk w h 113 #[.slice (some ⟨U,0,none⟩) 1 1,.slice (some ⟨O,0,none⟩) 2 2]) (q:Nat) (hq:q<2):
  ∃J,(J=U∨J=O)/\w.cell? ⟨h,q,none⟩=some (.slice (some ⟨J,0,none⟩) (Db q).length (Db q).length)/\∀t,t<(Db q).length->w.cell? ⟨J,t*4,none⟩=some (.int .i64 ((Db q).getD t (0,0,0,0)).1)/\w.cell? ⟨J,t*4+1,none⟩=some (.int .i64 ((Db q).getD t (0,0,0,0)).2.1)/\w.cell? ⟨J,t*4+2,none⟩=some (.int .i64 ((Db q).getD t (0,0,0,0)).2.2.1)/\w.cell? ⟨J,t*4+3,none⟩=some (.int .i64 ((Db q).getD t (0,0,0,0)).2.2.2):=by
 rcases(by omega:q=0∨q=1)with rfl|rfl
 ·refine⟨U,.inl rfl,Z.at_ 0 rfl,λt V=>?_⟩
  have Y:t<1:=V;obtain rfl:t=0:=by omega
  exact⟨M.at_ 0 rfl,M.at_ 1 rfl,M.at_ 2 rfl,M.at_ 3 rfl⟩
 ·refine⟨O,.inr rfl,Z.at_ 1 rfl,λt V=>?_⟩
  have Y:t<2:=V;rcases(by omega:t=0∨t=1)with rfl|rfl
  ·exact⟨I.at_ 0 rfl,I.at_ 1 rfl,I.at_ 2 rfl,I.at_ 3 rfl⟩
  ·exact⟨I.at_ 4 rfl,I.at_ 5 rfl,I.at_ 6 rfl,I.at_ 7 rfl⟩
theorem ZE.but32 {z:Int} {w w':World} {g i G:Nat} (h:ZE z w g i) (J:I32 w w') (hg:w.grownBy w' (some G)) (I:g≠G):ZE z w' g i:=by
 obtain⟨s,p,n,c,M,O,U⟩:=h;exact⟨s,p,n,c,hg.cell M (λe=>by injection e with e;exact I e),hg.cell O (λe=>by injection e with e;exact I e),U.i32 J⟩
theorem Hy {w:World} {R:Nat} {v0 v1 v2:Value} (I:(w.cell? ⟨R,0,none⟩).isSome=true) (J:(w.cell? ⟨R,1,none⟩).isSome=true) (M:(w.cell? ⟨R,2,none⟩).isSome=true):
  (((w.setCell ⟨R,0,none⟩ v0).setCell ⟨R,1,none⟩ v1).setCell ⟨R,2,none⟩ v2).cell? ⟨R,0,none⟩=some v0/\(((w.setCell ⟨R,0,none⟩ v0).setCell ⟨R,1,none⟩ v1).setCell ⟨R,2,none⟩ v2).cell? ⟨R,1,none⟩=some v1/\(((w.setCell ⟨R,0,none⟩ v0).setCell ⟨R,1,none⟩ v1).setCell ⟨R,2,none⟩ v2).cell? ⟨R,2,none⟩=some v2:=by
 refine⟨?_,?_,?_⟩
 ·rw[World.cell?_setCell_other _ _ _ _ (by simp),World.cell?_setCell_other _ _ _ _ (by simp),World.cell?_setCell_same' _ _ _ I]
 ·rw[World.cell?_setCell_other _ _ _ _ (by simp),World.cell?_setCell_same' _ _ _ (Ah J)]
 ·rw[World.cell?_setCell_same' _ _ _ (Ah (Ah M))]
theorem Hi {w:World} {R:Nat} (I:Stk NotU32 w R) {v0 v1 v2:Value} (M:NotU32 v0) (O:NotU32 v1):I32 w (((w.setCell ⟨R,0,none⟩ v0).setCell ⟨R,1,none⟩ v1).setCell ⟨R,2,none⟩ v2):=by
 have J:=Bc I ⟨R,0,none⟩ v0 M;have U:=Bc J ⟨R,1,none⟩ v1 O;exact((I32.putU I 0 v0).trans (I32.putU J 1 v1)).trans (I32.putU U 2 v2)
theorem Ju (n wt:Nat) (D:Int) (L:List Nat) (C:Nat) (w:World) (hT:Tab w) (h0:0<n) (hn:n<=120) (iL:wt<=22) (hD:-120<=D) (tI:D<=120) (qI:Pl.check n ((wt:Int)+2) D=0) (hk:∀l,Pl.kroP D l=0∨Pl.kroP D l=1∨Pl.kroP D l=-1) (hL:pts n (n*n)=L) (gP:(wt+1)*L.length=C) (oF:0<C) (hC:C<=72):
  Calls prog 47 #[.agg #[.int .i64 n,.int .i64 ((wt:Int)+2),.int .i64 D]] w λe w'=>Vb (2*C) C (λp=>Kr n wt L (Bb n D L n) (p / C) (p % C)) e w'/\Below w.heap.size w w':=by
 have pM:∀x,x∈L->x<n*n:=λx h=>Gn (hL▸h)
 have vI:L.length<=72:=mH (by rw[<-gP];exact Nat.le_mul_of_pos_left _ (by omega)) hC
 have tM:0<L.length:=by
  rcases Nat.eq_zero_or_pos L.length with h|h
  ·rw[h,Nat.mul_zero]at gP;omega
  ·exact h
 have nV:=Kh (λW (hb:Below w.heap.size w W)=>hL▸Gf n wt D W (hT.below hb) h0 hn iL hD tI qI);obtain⟨f,hf⟩:∃f,Bb n D L n=f:=⟨_,rfl⟩
 rw[hf]at nV ⊢;have nY:=Kh (show TabOk L.length f from hf▸Fi hk n);have sM:=Kh (λT B W (h:WorldAt W T B n wt L f) (hB:B<=W.heap.size) i j (hj:j<L.length) (g:M4) (hg:P5 g)=>gP▸Vy T B n wt L f i j g.1 g.2.1 g.2.2.1 g.2.2.2 W h hB h0 hn iL hj (by omega) pM nY.1 (by have:=hg.1;omega) (by have:=hg.1;omega) (by have:=hg.2.1;omega) (by have:=hg.2.1;omega) (by have:=hg.2.2.1;omega) (by have:=hg.2.2.1;omega) (by have:=hg.2.2.2;omega) (by have:=hg.2.2.2;omega));have pF:=Kh (λT B W (h:WorldAt W T B n wt L f)=>gP▸Jv T B n wt L f W h iL (by omega));have pE:=Kh gP;have vL:=W9 C (by omega);clear hT qI hk hL gP hf pM;go_enter func47,ntmps47
 go_wp2_with fail
 obtain⟨w0,qR,X0,X1,mU⟩:=bx2 w #[.int .i64 n,.int .i64 ((wt:Int)+2),.int .i64 D] 23 #[.int .i64 0,.int .i64 0,.slice none 0 0] 99;rw[qR];refine(nV.1 w0 mU).mono ?_;rintro e w1 ⟨⟨T,rfl,qV⟩,oH⟩;have mR:=Kh (X1.below_ oH X1.lt);have mE:=Kh (mU.trans (oH.mono mU.size));have nZ:=Kh qV;obtain⟨gr,aK⟩:∃x,w.heap.size+1=x:=⟨_,rfl⟩
 have sE:=Kh aK;rw[aK]at mR ⊢;clear qR X0 X1 mU oH qV nV aK;go_wp2_with fail
 obtain⟨w2,qS,Y0,Y1,Y2,mV⟩:=Rw w1 #[.int .i64 0,.int .i64 (-1),.int .i64 1,.int .i64 0] 63 #[.int .i64 0,.int .i64 (-1),.int .i64 1,.int .i64 (-1)] 63 #[.int .i64 (-1),.int .i64 1,.int .i64 (-1),.int .i64 0] 63;rw[qS];refine(pF.1 T w1.heap.size w2 (nZ.1.keep (mG _) mV)).mono ?_;rintro e w3 ⟨rfl,m1,rfl⟩;have U:Below w2.heap.size w2 (w2.drewN m1):=Aa (Below.refl _ _) m1;generalize w2.drewN m1=w3 at U ⊢;have cD:=Kh (Y0.below_ U Y0.lt);have cF:=Kh (Y1.below_ U Y1.lt);have cG:=Kh (Y2.below_ U Y2.lt);have bB:=Kh (mV.trans (U.mono mV.size));obtain⟨C2,oG⟩:∃x,2*C=x:=⟨_,rfl⟩
 have e2:(2:Int)*(C:Int)=(C2:Nat):=by rw[<-oG];push_cast;rfl
 have v2:IntKind.i64.wrap (C2:Int)=(C2:Nat):=IntWalk.i64_in _ (by omega);have rY:=Kh oG;obtain⟨ga,gU⟩:∃x,w1.heap.size=x:=⟨_,rfl⟩
 obtain⟨gb,mZ⟩:∃x,ga+1=x:=⟨_,rfl⟩
 obtain⟨gc,oL⟩:∃x,gb+1=x:=⟨_,rfl⟩
 have cC:=Kh gU;rw[gU,mZ,oL]at cG;rw[gU,mZ]at cF;rw[gU]at cD bB;rw[gU,mZ,oL];clear qS Y0 Y1 Y2 mV U oG gU mZ oL;go_upto_region 9 with(fail)
 obtain⟨w4,qT,Z0,hR⟩:=bx1 w3 #[.int .i64 C2,.int .i64 C,.slice none 0 0] 99;rw[qT];obtain⟨go,oM⟩:∃x,w3.heap.size=x:=⟨_,rfl⟩
 rw[oM]at Z0 ⊢;have pJ:=Kh oM;have oB:=Kh Z0;have nS:=Kh (bB.1.trans (hR.mono (by have h1:=bB.1.size;have h2:=cC.1;omega)));have cD:=Kh (bk cD hR);have cF:=Kh (bk cF hR);have cG:=Kh (bk cG hR);clear qT Z0 hR oM;obtain⟨w5,oR⟩:∃w5,w4.alloc (.cells #[.int .i64 0,.int .i64 (-1),.int .i64 1,.int .i64 0] 63)=w5:=⟨_,rfl⟩
 have aD:Below w4.heap.size w4 w5:=oR▸(Below.refl _ _).alloc (mG _) _;have uA:=cD.1.at_ 0 rfl;have uB:=cD.1.at_ 1 rfl;have uC:=cD.1.at_ 2 rfl;have uD:=cD.1.at_ 3 rfl;have rG:=(bk cF aD).at_ 0 rfl;have rH:=(bk cF aD).at_ 1 rfl;have rI:=(bk cF aD).at_ 2 rfl;have rJ:=(bk cF aD).at_ 3 rfl;have rK:=(bk cG aD).at_ 0 rfl;have rL:=(bk cG aD).at_ 1 rfl;have rM:=(bk cG aD).at_ 2 rfl;have rN:=(bk cG aD).at_ 3 rfl;rw[<-oR]at rG rH rI rJ rK rL rM rN;clear oR aD;go_wp2_with fail
 have tT:(#[.slice (some ⟨w4.heap.size,0,none⟩) 1 1,.slice (some ⟨w4.heap.size+1,0,none⟩) 2 2]:Array Value)=#[.slice (some ⟨w4.heap.size,0,none⟩) 1 1,.slice (some ⟨w4.heap.size+1,0,none⟩) 2 2]:=rfl;obtain⟨wB,qU,U0,U1,U2,gS⟩:=Rw w4 #[.int .i64 0,.int .i64 (-1),.int .i64 1,.int .i64 0] 63 #[.int .i64 0,.int .i64 (-1),.int .i64 1,.int .i64 (-1),.int .i64 (-1),.int .i64 1,.int .i64 (-1),.int .i64 0] 63 #[.slice (some ⟨w4.heap.size,0,none⟩) 1 1,.slice (some ⟨w4.heap.size+1,0,none⟩) 2 2] 113;rw[qU];obtain⟨s9,gX⟩:∃x,w4.heap.size=x:=⟨_,rfl⟩
 obtain⟨s2,nD⟩:∃x,s9+1=x:=⟨_,rfl⟩
 obtain⟨s3,oQ⟩:∃x,s2+1=x:=⟨_,rfl⟩
 have uN:go<s9:=by rw[<-gX];exact oB.1.lt
 rw[gX,nD,oQ]at U2;rw[gX,nD]at U1;rw[gX]at U0;rw[gX,nD,oQ];have sL:=Kh (λq hq=>aO wB s9 s2 s3 U0 U1 U2 q hq);have hQ:=Kh (bk oB gS);have mL:=Kh (nS.1.trans (gS.mono (by have h1:=nS.1.size;have h2:=cC.1;omega)));have sX:=Kh (show WorldAt wB T ga n wt L f from cC.1▸nZ.1.keep (mG _) (cC.1▸mL.1));have pH:=Kh (show s3<wB.heap.size from U2.lt);have cY:=Kh (show ga<=go by have h1:=bB.1.size;have h2:=cC.1;have h3:=pJ.1;omega);have pP:=Kh (show s3≠go/\s9≠go/\s2≠go by omega)
 have bY:=Kh (show gr<ga/\Blk wB gr 99 #[.int .i64 0,.int .i64 0,.slice none 0 0]by
  have h1:gr<ga:=by have:=mR.1.lt;have:=cC.1;omega
  exact⟨h1,mR.1.below_ mL.1 h1⟩)
 obtain⟨GB,mT⟩:∃x,wB.heap.size=x:=⟨_,rfl⟩
 have mM:=Kh mT;rw[mT]at pH;obtain⟨F,hF⟩:∃F:Nat->Int,(λp=>Kr n wt L f (p / C) (p % C))=F:=⟨_,rfl⟩
 have HF:=Kh (show ∀q r j,q<2->r<C->j<C->F ((q*C+r)*C+j)=F5 n wt L f r (Db q) (Db q).length j by
  intro q r j h1 h2 h3;rw[<-hF];dsimp only;rw[show((q*C+r)*C+j) / C=q*C+r by rw[Nat.mul_comm,Nat.mul_add_div oF,Nat.div_eq_of_lt h3,Nat.add_zero],show((q*C+r)*C+j) % C=j by rw[Nat.mul_comm,Nat.mul_add_mod,Nat.mod_eq_of_lt h3],<-pE.1];exact Ye j h1 (by rw[pE.1];exact h2))
 have pR:=Kh (show OutAt F wB go GB C2 C (0*C*C)from
  ⟨by have:=pH.1;omega,Nat.le_of_eq mT.symm,hQ.1.at_ 0 rfl,hQ.1.at_ 1 rfl,⟨none,0,by rw[Nat.zero_mul,Nat.zero_mul];exact hQ.1.at_ 2 rfl,by rw[Nat.zero_mul,Nat.zero_mul];exact OwnZ.nil _ _ _⟩,hQ.1.free_ 2,Stk.of hQ.1 (by intro v hv;simp at hv;rcases hv with rfl|rfl|rfl <;> exact λ_ h=>by cases h)⟩)
 have sB:=Kh hF;have sV:=Kh (λr q t k (ht:t<=2)=>(show(F5 n wt L f r (Db q) t k).natAbs<=1+t*4194304 from Re nY.1 (Sc q) iL t k));have sW:=Kh (λI J (g:M4) (hg:P5 g) k=>(show(L8 n wt L f I J g k).natAbs<=4194304 from mH (Ed nY.1 (by have:=hg.1;have:=hg.2.1;omega) (by have:=hg.2.2.1;have:=hg.2.2.2;omega) k) (mH (Nat.pow_le_pow_right (by decide) iL) (by decide))));have pK:=Kh (λq=>O6 q);clear U0 U1 U2 gS gX nD oQ qU tT mT hF uA uB uC uD rG rH rI rJ rK rL rM rN cD cF cG oB nS bB mR nZ pF pJ e2 v2;go_loopw [45] (λii wr=>∃q:Nat,q<=2/\ii=.int .i64 q/\OutAt F wr go GB C2 C (q*C*C)/\wB.grownBy wr (some go)) (λii _=>2 - (intOf ii).toNat)
 case atStart=>exact⟨0,Nat.zero_le _,rfl,pR.1,Af go (Below.refl _ _)⟩
 case round=>
  obtain⟨q,hq,rfl,cV,aK⟩:=hrel;obtain⟨wa,rfl⟩:∃wa:World,wa=wr:=⟨_,rfl⟩
  have gL:=Kh cV;have O:=Kh aK;clear cV aK pR;by_cases hq2:q<2
  ·have vN:(q:Int)<2:=by omega
   obtain⟨SL,qD,l0,qO⟩:=sL.1 q hq2;have qE:SL≠go:=by have:=pP.1;rcases qD with rfl|rfl <;> omega
   have pN:=Kh qO;have l1:=O.1.cell l0 (λe=>by injection e with e;exact pP.1.1 e);obtain⟨ln,nB⟩:∃x,(Db q).length=x:=⟨_,rfl⟩
   have vK:ln<=2:=nB▸pK.1 q;rw[nB]at l1 pN;have sJ:=Kh nB;clear l0 qO qD nB;go_wp2_with fail
   have pS:=Kh (show OutAt F wa go GB C2 C ((q*C+0)*C)from gL.1);go_loopw [13] (λii wr=>∃r:Nat,r<=C/\ii=.int .i64 r/\OutAt F wr go GB C2 C ((q*C+r)*C)/\wB.grownBy wr (some go)) (λii _=>C - (intOf ii).toNat)
   case atStart=>exact⟨0,Nat.zero_le _,rfl,pS.1,O.1⟩
   case round=>
    obtain⟨r,hr,rfl,cV,aK⟩:=hrel;obtain⟨wx,rfl⟩:∃wx:World,wx=wr:=⟨_,rfl⟩
    have gN:=Kh cV;have mN:=Kh aK;clear cV aK pS gL O l1;by_cases hrC:r<C
    ·have vO:(r:Int)<(C:Int):=by omega
     go_wp2_with fail
     have nC:=ZRow.made (λ_=>0) wx C;obtain⟨wz,oS⟩:∃wz,wx.alloc (.cells (madeCells #[.bool false,.slice none 0 0] (C*2)) 84)=wz:=⟨_,rfl⟩
     have oK:Below wx.heap.size wx wz:=oS▸(Below.refl _ _).alloc (mG _) _;rw[oS]at nC ⊢;obtain⟨G,hG⟩:∃g,wx.heap.size=g:=⟨_,rfl⟩
     rw[hG]at nC oK ⊢;have pU:=Kh nC;have pD:=Kh oK;have nL:=Kh hG;have hO:=Kh (show GB<=G by have:=gN.1.hB;omega);clear nC oK oS hG;go_loopw [58] (λii wr=>∃k:Nat,k<=C/\ii=.int .i64 k/\ZRow (λ_=>0) wr G C k/\Below G wx wr) (λii _=>C - (intOf ii).toNat)
     case atStart=>exact⟨0,Nat.zero_le _,rfl,pU.1,pD.1⟩
     case round=>
      obtain⟨k,hk,rfl,Z,hU⟩:=hrel;obtain⟨w2,rfl⟩:∃w2:World,w2=wr:=⟨_,rfl⟩
      have M:=Kh Z;have bG:=Kh hU;clear Z hU pU pD;by_cases hlt:k<C
      ·have tQ:(k:Int)<(C:Int):=by omega
       go_wp2_with fail
       refine(Gc 0 w2 (by omega) (by omega)).mono ?_;rintro e w3 ⟨⟨rB,p3,n3,c3,rfl,mA⟩,U⟩;have V:=ZRow.keep M.1 U;have mP:=Kh (ZRow.set (k':=k+1) V k hlt (λ_=>0) (λi' h1 h2=>⟨by omega,rfl⟩) mA);have bB:=Kh (bG.1.trans (U.mono (Nat.le_of_lt M.1.sts.1)));obtain⟨u0,tS⟩:=mK (V.has (k*2) (by omega));obtain⟨u2,hu2⟩:=mK (V.has (k*2+1) (by omega));have f0:=V.free (k*2) (by omega);have f1:=V.free (k*2+1) (by omega);clear mA U V;go_wp2;go_roundw
       case rel=>exact⟨k+1,by omega,by go_num,mP.1,Cr bB.1 (mG _)⟩
       case measure=>simp[intOf];omega
      ·obtain rfl:C=k:=by omega
       go_wp2_with fail
       refine(Gc 1 w2 (by omega) (by omega)).mono ?_;rintro e w3 ⟨⟨rB,p3,n3,c3,rfl,mA⟩,U⟩;have V:=ZRow.keep M.1 U;have mP:=Kh (ZRow.set (k':=C) V r hrC (F5 n wt L f r (Db q) 0) (λi' h1 h2=>⟨h1,by unfold F5;rw[if_neg h2]⟩) (by unfold F5;rw[if_pos rfl];exact mA));have bB:=Kh (bG.1.trans (U.mono (Nat.le_of_lt M.1.sts.1)));obtain⟨u0,tS⟩:=mK (V.has (r*2) (by omega));obtain⟨u2,hu2⟩:=mK (V.has (r*2+1) (by omega));have f0:=V.free (r*2) (by omega);have f1:=V.free (r*2+1) (by omega);have pB:=Kh (Cr (v0:=.bool rB) (v1:=.slice p3 n3 c3) (i:=r*2) (j:=r*2+1) bB.1 (mG G));clear mA U V M bG bB;go_wp2_with fail
       go_loopw [72] (λii wr=>∃t:Nat,t<=ln/\ii=.int .i64 t/\ZRow (F5 n wt L f r (Db q) t) wr G C C/\Below G wx wr) (λii _=>ln - (intOf ii).toNat)
       case atStart=>exact⟨0,Nat.zero_le _,rfl,mP.1,pB.1⟩
       case round=>
        obtain⟨t,ht,rfl,Z,hU⟩:=hrel;obtain⟨aN,rfl⟩:∃aN:World,aN=wr:=⟨_,rfl⟩
        have M:=Kh Z;have bG:=Kh hU;clear Z hU mP pB;by_cases htl:t<ln
        ·have vQ:(t:Int)<(ln:Int):=by omega
         obtain⟨⟨a,b,c,d⟩,hg⟩:∃g:M4,(Db q).getD t (0,0,0,0)=g:=⟨_,rfl⟩
         have oO:P5 (a,b,c,d):=hg▸Sc q t;obtain⟨m0,m1,m2,m3⟩:=pN.1 t htl;rw[hg]at m0 m1 m2 m3;dsimp only at m0 m1 m2 m3
         have hV:∀i v,wB.cell? ⟨SL,i,none⟩=some v->aN.cell? ⟨SL,i,none⟩=some v:=λi v e=>by
          have h1:=World.block_lt_of_cell? wB ⟨SL,i,none⟩ e;have h2:=mN.1.cell e (λe=>by injection e with e;exact qE e);exact(bG.1.cell (p:=⟨SL,i,none⟩) (by have:=mM.1;have:=hO.1;show SL<G;have h3:SL<wB.heap.size:=h1;omega)).trans h2
         have m0:=hV _ _ m0;have m1:=hV _ _ m1;have m2:=hV _ _ m2;have m3:=hV _ _ m3;have pX:=Kh (show ∀W,Below G wx W->WorldAt W T ga n wt L f from λW hb=>sX.1.next ((An (Below.refl ga wB) mN.1 (by have:=mM.1;have:=cY.1;have:=gN.1.lt;omega) cY.1).trans (hb.mono (by have:=cY.1;have:=gN.1.lt;have:=hO.1;omega))) (mG _));obtain⟨pl,cl,t2,_⟩:=(pX.1 aN bG.1).c2;obtain⟨I,hI⟩:∃x,r / L.length=x:=⟨_,rfl⟩
         obtain⟨J,hJ⟩:∃x,r % L.length=x:=⟨_,rfl⟩
         have tK:J<L.length:=by rw[<-hJ];exact Nat.mod_lt _ tM
         have vH:I<=72:=by rw[<-hI];exact mH (Nat.div_le_self _ _) (by omega)
         have e1:Int.tdiv (r:Int) (L.length:Int)=(I:Nat):=by rw[Int.tdiv_eq_ediv_of_nonneg (by omega),<-hI];rfl
         have e2:Int.tmod (r:Int) (L.length:Int)=(J:Nat):=by rw[Int.tmod_eq_emod_of_nonneg (by omega),<-hJ];rfl
         have e3:((L.length:Int)==0)=false:=beq_eq_false_iff_ne.2 (by omega);have e4:L.length≠0:=by omega
         have v1:IntKind.i64.wrap (I:Int)=(I:Nat):=IntWalk.i64_in _ (by omega);have v2:IntKind.i64.wrap (J:Int)=(J:Nat):=IntWalk.i64_in _ (by omega);obtain⟨Fr,mS⟩:∃Fr:Nat->Int,F5 n wt L f r (Db q) t=Fr:=⟨_,rfl⟩
         obtain⟨Y,hY⟩:∃Y:Nat->Int,L8 n wt L f I J (a,b,c,d)=Y:=⟨_,rfl⟩
         have sR:=Kh (show ∀j,F5 n wt L f r (Db q) (t+1) j=Fr j+Y j from λj=>by rw[F5,hg,hI,hJ,mS,hY]);have pO:=Kh (λW (hb:Below G wx W)=>hY▸sM.1 T ga W (pX.1 W hb) (by have h1:=cY.1;have h2:=gN.1.lt;have h3:=hO.1;have h4:=nL.1;have h5:=hb.size;omega) I J tK (a,b,c,d) oO);have sT:=Kh (show ∀k,(Fr k).natAbs<=20000000 from λk=>by have h:=sV.1 r q t k (by omega);rw[mS]at h;have:t*4194304<=2*4194304:=Nat.mul_le_mul_right _ (by omega);omega);have pW:=Kh (show ∀k,(Y k).natAbs<=20000000 from λk=>by have h:=sW.1 I J (a,b,c,d) oO k;rw[hY]at h;omega);have dX:=Kh (show ZRow Fr aN G C C from mS▸M.1);clear oO hV hI hJ mS hY hg M;go_wp2_with fail
         obtain⟨we,nF⟩:∃we,aN.alloc (.cells #[.int .i64 a,.int .i64 b,.int .i64 c,.int .i64 d] 63)=we:=⟨_,rfl⟩
         have mY:Below aN.heap.size aN we:=nF▸(Below.refl _ _).alloc (mG _) _;have X:=nF▸Blk.new aN 63 #[.int .i64 a,.int .i64 b,.int .i64 c,.int .i64 d];rw[nF];obtain⟨gx,qL⟩:∃gx,aN.heap.size=gx:=⟨_,rfl⟩
         have hN:=Kh (bG.1.trans (mY.mono (Nat.le_of_lt dX.1.sts.1)));have dE:=Kh (ZRow.keep dX.1 mY);have t2:=cell_next mY t2;rw[qL]at X ⊢;have x0:=X.at_ 0 rfl;have x1:=X.at_ 1 rfl;have x2:=X.at_ 2 rfl;have x3:=X.at_ 3 rfl;have nX:=Kh (show ∀W,Below we.heap.size we W->(W.cell? ⟨T,2,none⟩=some (.slice pl L.length cl)/\W.cell? ⟨gx,0,none⟩=some (.int .i64 a)/\W.cell? ⟨gx,1,none⟩=some (.int .i64 b)/\W.cell? ⟨gx,2,none⟩=some (.int .i64 c)/\W.cell? ⟨gx,3,none⟩=some (.int .i64 d))from λW hb=>⟨cell_next hb t2,cell_next hb x0,cell_next hb x1,cell_next hb x2,cell_next hb x3⟩);have qC:=nX.1 _ (Below.refl _ we).drew;have sI:=Kh (show ∀wb,Below we.drew.heap.size we.drew wb->Below we.heap.size we wb from λwb hb=>(Below.refl _ we).drew.trans hb);have nM:=Kh (pO.1 we.drew hN.1.drew);clear nF mY X qL m0 m1 m2 m3 bG dX;go_upto_region 25 with(fail)
         go_region_held3 (λW=>W.cell? ⟨T,2,none⟩=some (.slice pl L.length cl)/\W.cell? ⟨gx,0,none⟩=some (.int .i64 a)/\W.cell? ⟨gx,1,none⟩=some (.int .i64 b)/\W.cell? ⟨gx,2,none⟩=some (.int .i64 c)/\W.cell? ⟨gx,3,none⟩=some (.int .i64 d))
          (first|with_reducible exact qC|with_reducible exact nX.1 _ oI |(exfalso;assumption))
          (first
           |(go_at_call 93;(with_reducible refine nM.1.mono ?_);rintro e w5 ⟨⟨gm,rfl,qJ,nO⟩,aD⟩;have oI:Below we.heap.size we w5:=sI.1 _ aD;have sD:=Kh (show we.heap.size<=gm from qJ);have pV:=Kh nO;clear qJ nO))
         have pA:=Kh oI;clear aD oI nX qC t2 x0 x1 x2 x3 nM;have dC:=Kh (ZRow.keep dE.1 pA.1);have pC:=Kh (hN.1.trans (pA.1.mono (Nat.le_of_lt dE.1.sts.1)));have pI:=Kh (show gm≠G by have h1:=dE.1.sts.1;have h2:=sD.1;omega);have hP:=Kh (show ZRow (E5 Fr Y 0) w5 G C C from ZRow.congr dC.1 (λj _=>(Tp Fr Y j).symm));go_wp2_with fail
         go_loopw [94] (λii wr=>∃k:Nat,k<=C/\ii=.int .i64 k/\ZRow (E5 Fr Y k) wr G C C/\w5.grownBy wr (some G)) (λii _=>C - (intOf ii).toNat)
         case atStart=>exact⟨0,Nat.zero_le _,rfl,hP.1,Af G (Below.refl _ _)⟩
         case round=>
          obtain⟨k,hk,rfl,Z,aK⟩:=hrel;obtain⟨w6,rfl⟩:∃w6:World,w6=wr:=⟨_,rfl⟩
          have bH:=Kh Z;have gF:=Kh aK;clear Z aK hP;by_cases hlt:k<C
          ·have tQ:(k:Int)<(C:Int):=by omega
           obtain⟨s,p,n5,c5,a0,a1,hz⟩:=ZE.but dC.1.sts gF.1 pI.1 (pV.1.val k hlt);have HZ:=Kh hz;clear hz;go_wp2_with fail
           obtain⟨w7,nE⟩:∃w7,w6.alloc (.cells #[.bool s,.slice p n5 c5] 84)=w7:=⟨_,rfl⟩
           have mW:Below w6.heap.size w6 w7:=nE▸(Below.refl _ _).alloc (mG _) _;have X:=nE▸Blk.new w6 84 #[.bool s,.slice p n5 c5];rw[nE];obtain⟨gy,qM⟩:∃gy,w6.heap.size=gy:=⟨_,rfl⟩
           have pL:=Kh (show gy≠G by have h1:=bH.1.sts.1;omega);rw[qM]at X ⊢;have oC:=Kh (HZ.1.keep mW);have pQ:=Kh (show n5<=10 by rw[<-HZ.1.2.1];exact mH (Pe (by have:=pW.1 k;omega)) (by omega));refine(Ht s p n5 c5 (Y k) w7 oC.1.raw (by have:=pQ.1;omega)).mono ?_;rintro e w8 ⟨rfl,mX⟩;have hS:=mW.trans (mX.mono mW.size);have aX:=Kh (ZRow.keep bH.1 hS);have nK:=Kh (gF.1.trans (Af G hS));have oA:=Kh (X.below_ mX X.lt);have sZ:=Kh (oC.1.keep mX);clear nE mW X qM mX hS a0 a1 bH gF HZ oC;by_cases hz0:Y k=0
           ·have tR:(Int.sign (Y k) != 0)=false:=by rw[hz0];rfl
            have sU:=Kh (show ZRow (E5 Fr Y (k+1)) w8 G C C from ZRow.congr aX.1 (λj _=>To hz0 j));clear hz0;go_wp2;go_roundw
            case rel=>exact⟨k+1,by omega,by go_num,sU.1,nK.1⟩
            case measure=>simp[intOf];omega
           ·have tR:(Int.sign (Y k) != 0)=true:=by
             have h:Int.sign (Y k)≠0:=λe=>hz0 (Int.sign_eq_zero_iff_zero.1 e)
             simpa using h
            obtain⟨s5,p5,n6,c6,f0,f1,nG⟩:=aX.1.val k hlt;rw[Rs]at nG;have sA:=Kh nG;have sN:=Kh (show n6<=10 by rw[<-nG.2.1];exact mH (Pe (by have:=sT.1 k;omega)) (by omega));have uO:=pL.1;have x0:=oA.1.at_ 0 rfl;have x1:=oA.1.at_ 1 rfl;have vG:G<w8.heap.size:=aX.1.sts.1;have vJ:gy<w8.heap.size:=oA.1.lt;have oP:=aX.1;clear hz0 nG;go_upto_region 29 with(fail)
            refine K6 (λW=>W.cell? ⟨gy,0,none⟩=some (.bool s)/\W.cell? ⟨gy,1,none⟩=some (.slice p n5 c5)/\W.cell? ⟨G,k*2,none⟩=some (.bool s5)/\W.frozen? ⟨G,k*2,none⟩=false/\W.cell? ⟨G,k*2+1,none⟩=some (.slice p5 n6 c6)/\W.frozen? ⟨G,k*2+1,none⟩=false) (λW hb=>⟨Au hb x0,Au hb x1,Au hb f0,Ac hb (by rw[f0];rfl) (oP.free (k*2) (by omega)),Au hb f1,Ac hb (by rw[f1];rfl) (oP.free (k*2+1) (by omega))⟩) (λsS hHeld0=>?_);clear x0 x1 f0 f1 oP;refine Al 0 ?_;refine Al 1 ?_;refine Al 2 ?_;refine Al 3 ?_;refine Al 4 ?_;refine Al 5 ?_;refine Al 6 ?_;refine F9 7 rfl (λK hK=>?_);focus(go_simp;refine(Rx s5 p5 n6 c6 (Fr k) s p n5 c5 (Y k) _ (sA.1.keep (Below.refl _ w8).drew).raw (sZ.1.keep (Below.refl _ w8).drew).raw (by have:=sN.1;omega) (by have:=pQ.1;omega)).mono ?_;rintro e w9 ⟨⟨s6,p6,n7,c7,rfl,qW⟩,gS⟩;have nT:=Kh ((Below.refl _ w8).drew.trans gS:Below w8.heap.size w8 w9);have qP:=ZRow.keep aX.1 nT.1;have pT:=Kh (ZRow.set (k':=C) qP k hlt (E5 Fr Y (k+1)) (λi h1 h2=>⟨h1,N7 h2⟩) (by rw[N8];exact qW));have nW:=Kh (show ∀v0 v1,w5.grownBy ((w9.setCell ⟨G,k*2,none⟩ v0).setCell ⟨G,k*2+1,none⟩ v1) (some G)from λ_ _=>(nK.1.trans (Af G nT.1)).trans (Jq w9 G _ _ _ _));clear qW gS qP;(first|with_reducible refine hK.out _ _ ?_ (λhHeld1=>?_) |(go_wp2_with fail;with_reducible refine hK.out _ _ ?_ (λhHeld1=>?_))))
            focus((try dsimp only);exact sS.1 _ nT.1)
            focus(clear hK K;(try simp only[Act.put,Br,Bt,Bs]))
            refine Al 8 ?_;refine K5 9 rfl (λK hK=>?_);go_simp
            refine hK.out _ _ ?_;clear hK K
            (try simp only[Act.put,Br,Bt,Bs])
            all_goals go_wp2
            all_goals go_roundw
            all_goals first
             | exact⟨k+1,by omega,by go_num,pT.1,nW.1 _ _⟩
             |(simp[intOf];omega)
          ·obtain rfl:C=k:=by omega
           have sQ:=Kh (show ZRow (F5 n wt L f r (Db q) (t+1)) w6 G C C from ZRow.congr bH.1 (λj hj=>by rw[Tn hj,sR.1]));have rX:=Kh (show Below G wx w6 from An pC.1 gF.1 (Nat.le_of_lt dC.1.sts.1) (mG _));go_wp2;go_roundw
           case rel=>exact⟨t+1,by omega,by go_num,sQ.1,rX.1⟩
           case measure=>simp[intOf];omega
        ·obtain rfl:ln=t:=by omega
         have oJ:Below wx.heap.size wx aN:=nL.1▸bG.1;have mO:=Kh (gN.1.keep oJ);have sF:=Kh (mN.1.trans (Af go oJ));obtain⟨p,c,g2,xs,hK,hX⟩:=mO.1.c2;obtain⟨m,hm⟩:∃x,(q*C+r)*C=x:=⟨_,rfl⟩
         have vM:m<=20000:=by
          rw[<-hm];have h1:q*C<=1*72:=Nat.mul_le_mul (by omega) hC;exact mH (Nat.mul_le_mul (by omega:q*C+r<=144) hC) (by decide)
         rw[hm]at g2 hK hX mO;have sK:=Kh (show m+C=(q*C+(r+1))*C by rw[<-hm,<-Nat.add_assoc,Nat.add_mul _ 1 C,Nat.one_mul]);have HK:=Kh hK;have HX:=Kh hX;have sC:=Kh g2;have rZ:=Kh (show ∀j,j<C->F (m+j)=F5 n wt L f r (Db q) ln j from λj hj=>by rw[<-hm,HF.1 q r j hq2 hrC hj,sJ.1]);clear oJ hK hX hm;go_wp2_with (at_builtin;refine K3 NotInt rfl (.tmp 114) (.tmp 115) _ 84 rfl underlying97 Vh rfl (by decide) GB m C G C (.slice p m c) xs (Ax aN G (C*2)) rfl HK.1 rfl (Ce _ _ _) (Ld M.1) (Nv M.1) (by omega) (by omega) oF mO.1.hB (Po M.1) kG ?_;intro v' w9 dY hW qF;obtain⟨p',c',rfl⟩:=Bf dY.1;obtain⟨d2,df,qA⟩:=OutAt.more mO.1 sC.1 HK.1 HX.1 M.1 dY hW rZ.1;have sO:=Kh qA;have nW:=Kh ((Hz sF.1 hW mM.1.symm (λb hb=>Ch HK.1.1 hb.symm)).trans (Ai w9 go 2 (.slice p' (m+C) c')));clear qA dY hW qF g2)
         go_roundw
         case rel=>exact⟨r+1,by omega,by go_num,by rw[<-sK.1];exact sO.1,nW.1⟩
         case measure=>simp[intOf];omega
    ·obtain rfl:C=r:=by omega
     have sP:=Kh (show OutAt F wx go GB C2 C ((q+1)*C*C)by
      have e:(q+1)*C=q*C+C:=by rw[Nat.add_mul,Nat.one_mul]
      rw[e];exact gN.1)
     go_wp2;go_roundw
     case rel=>exact⟨q+1,by omega,by go_num,sP.1,mN.1⟩
     case measure=>simp[intOf];omega
  ·obtain rfl:q=2:=by omega
   obtain⟨p,c,g2,qB⟩:=gL.1.c2;obtain⟨gA,cA,hv,qG,qH,tP,_,qX⟩:=qB.ret (Nat.mul_pos (by omega) oF);have nA:gr≠go:=by have:=bY.1.1;have:=cY.1;omega
   have qK:gr<GB:=by have:=bY.1.1;have:=cY.1;have:=gL.1.lt;omega
   have cT:=O.1.block gr (by rw[mM.1];exact qK) (λe=>by injection e with e;exact nA e);have r0:=O.1.cell (bY.1.2.at_ 0 rfl) (λe=>by injection e with e;exact nA e);have r1:=O.1.cell (bY.1.2.at_ 1 rfl) (λe=>by injection e with e;exact nA e);have r2:=O.1.cell (bY.1.2.at_ 2 rfl) (λe=>by injection e with e;exact nA e);have f0:wa.frozen? ⟨gr,0,none⟩=false:=(World.frozen?_of_block (a:=⟨gr,0,none⟩) cT).trans (bY.1.2.free_ 0);have f1:wa.frozen? ⟨gr,1,none⟩=false:=(World.frozen?_of_block (a:=⟨gr,1,none⟩) cT).trans (bY.1.2.free_ 1);have f2:wa.frozen? ⟨gr,2,none⟩=false:=(World.frozen?_of_block (a:=⟨gr,2,none⟩) cT).trans (bY.1.2.free_ 2);have hZ:Stk NotU32 wB gr:=Stk.of bY.1.2 (by intro v hv;simp at hv;rcases hv with rfl|rfl|rfl <;> exact λ_ h=>by cases h);have qQ:Stk NotU32 wa gr:=⟨mI hZ.1 O.1.size,λi u hu=>hZ.2 i u ((World.cell?_of_block (a:=⟨gr,i,none⟩) cT).symm.trans hu)⟩
   have a0:=gL.1.c0;have a1:=gL.1.c1;rw[hv]at g2;have nU:=Kh (Hy (w:=wa) (R:=gr) (v0:=.int .i64 (C2:Int)) (v1:=.int .i64 (C:Int)) (v2:=.slice (some ⟨gA,0,none⟩) (2*C*C) cA) (by rw[r0];rfl) (by rw[r1];rfl) (by rw[r2];rfl));have sG:=Kh (Hi qQ (v0:=.int .i64 (C2:Int)) (v1:=.int .i64 (C:Int)) (v2:=.slice (some ⟨gA,0,none⟩) (2*C*C) cA) (λ_ h=>by cases h) (λ_ h=>by cases h));have pG:=Kh (((Ai wa gr 0 (.int .i64 (C2:Int))).trans (Ai _ gr 1 (.int .i64 (C:Int)))).trans (Ai _ gr 2 (.slice (some ⟨gA,0,none⟩) (2*C*C) cA)));have mQ:=Kh (show gA<wa.heap.size/\gA≠gr/\(∀j,j<2*C*C->ZE (F j) wa gA (j*2))/\2*C*C<=cA/\cA<=9223372036854775807 from⟨by assumption,by omega,qX,qG,qH⟩);have hN:=Kh (show Below w.heap.size w wa from An (mE.1.trans (mL.1.mono (by have h1:=mE.1.size;have h2:=cC.1;omega))) O.1 (by have h1:=mE.1.size;have h2:=mL.1.size;omega) (by have h1:=mE.1.size;have h2:=cC.1;have h3:=cY.1;omega));clear qB hv qG qH tP qX cT hZ qQ;go_wp2;have e0:=nU.1.1;have e1:=nU.1.2.1;have e2:=nU.1.2.2;try simp only[Exit.inBlock,Exit.then]
   refine bodyPost_ret (by simp[results,results47,go_sem,e0,e1,e2];try rfl) rfl ?_;refine⟨⟨gA,0,cA,by rw[rY.1],by simpa using mQ.1.1,λj hj=>?_,mQ.1.2.2.2⟩,?_⟩
   ·rw[sB.1,Nat.zero_add];exact(mQ.1.2.2.1 j hj).but32 sG.1 pG.1 mQ.1.2.1
   ·exact An hN.1 pG.1 hN.1.size (by have:=sE.1;omega)
end Go.Proofs.YtenlbhlllgppmaaGreatDoor
namespace Go.Proofs.YtenlbhlllgppmaaGreatDoor
open Tryz
open Go.RowKit Eli
theorem Yg {P:Program} (K:Value->Prop) (W:World) (t ty E:TypeId) {z:Value} {U J:Nat} (hU:P.underlying t=some (.slice E))
  (Y:(P.info? E).map (λi=>(i.zero,i.size,i.bytes))=some (some z,U,J)) (bA:z.cells.size=U) (aD:0<U) (B n m g c:Nat) (v:Value) (xs I:List Value)
  (M:OwnK K W B E U v n xs) (hn:I.length=m*U) (V:∀(j:Nat) (u:Value),I[j]?=some u->W.cell? ⟨g,j,none⟩=some u) (h1:∀u∈I,u.oneCell'=true)
  (hb:(n+m)*J<=140737488355328) (hm:n+m<=9223372036854775807) (hB:B<=W.heap.size) (bH:∀u∈I,K u) (bY:∀u∈z.cells.toList,K u):
  ∃v' w',(Builtin.append_ #[t,t] ty #[v,.slice (some ⟨g,0,none⟩) m c]).run P W=.ok v' w'/\OwnK K w' B E U v' (n+m) (xs++I)/\W.grownBy w' v.ownBlock:=by
 obtain⟨i0,hi,aK,aN,aX⟩:=info_parts Y;rcases Nat.eq_zero_or_pos m with rfl|cC
 ·obtain rfl:I=[]:=List.eq_nil_of_length_eq_zero (by rw[hn,Nat.zero_mul])
  have Z:Src P i0.size t (.slice (some ⟨g,0,none⟩) 0 c) 0 [] W:=Src.ofSlice W hU _ 0 c [] (by simp) (λj u h=>by simp at h) (λu h=>by cases h)
  obtain⟨a,k,hv,cB⟩:∃a k,v=.slice a n k/\n<=k:=by
   rcases Dk M.1 with⟨rfl,rfl,_⟩ |⟨g',cap,rfl,_,_,hc⟩
   ·exact⟨none,0,rfl,mG _⟩
   ·exact⟨_,cap,rfl,hc⟩
  have hr:=run_append_nothing (P:=P) W t t ty E i0 hU hi a n k cB (.slice (some ⟨g,0,none⟩) 0 c) Z;rw[<-hv]at hr;exact⟨v,W,hr,by rw[List.append_nil,Nat.add_zero];exact M,⟨rfl,rfl,rfl,mG _,λ_ _ _=>rfl⟩⟩
 ·have O:∀(j:Nat) (u:Value),I[j]?=some u->W.cell? ((⟨g,0,none⟩:Addr).add j)=some u:=by
   intro j u hu
   have e:(⟨g,0,none⟩:Addr).add j=⟨g,j,none⟩:=by
    unfold Addr.add;split
    ·rename_i h0;rw[h0]
    ·simp
   rw[e];exact V j u hu
  obtain⟨v',w',hr,g1,g2,_,_⟩:=run_append_own_at (P:=P) W B t ty E i0 z U J hU hi aK aN aX bA aD v n xs M.1 ⟨g,0,none⟩ m c I hn O h1 hm hb hB;have g4:=Ek K W B t ty E i0 z U J hU hi aK aN aX bA aD v n xs M.1 ⟨g,0,none⟩ m c I hn O h1 hm hb cC M.2 bH bY hr;exact⟨v',w',hr,⟨g1,g4⟩,g2⟩
theorem fY {P:Program} {W:World} {Y:Array Oper} {o:Oper} {a:Act} {K':Act->World->Prop} {Q:Exit->Act->World->Prop} {E':Prop} (K:Value->Prop) (aN:o.guard=none) (s x:Operand) (t E:TypeId)
  (ho:o.op=.call { callee:=.builtin .append,args:=#[s,x],argTypes:=#[t,t] }) {z:Value} {U J:Nat} (hU:P.underlying t=some (.slice E))
  (O:(P.info? E).map (λi=>(i.zero,i.size,i.bytes))=some (some z,U,J)) (bA:z.cells.size=U) (aX:0<U) (B n m g c:Nat) (v:Value) (xs I:List Value)
  (hs:a.eval s=v) (V:OwnK K W B E U v n xs) (hx:a.eval x=.slice (some ⟨g,0,none⟩) m c) (hn:I.length=m*U) (M:∀(j:Nat) (u:Value),I[j]?=some u->W.cell? ⟨g,j,none⟩=some u) (h1:∀u∈I,u.oneCell'=true)
  (hb:(n+m)*J<=140737488355328) (hm:n+m<=9223372036854775807) (hB:B<=W.heap.size) (aD:∀u∈I,K u) (aK:∀u∈z.cells.toList,K u)
  (h:∀Z w',OwnK K w' B E U Z (n+m) (xs++I)->W.grownBy w' v.ownBlock->K' (a.put o.dst Z) w'):
  if Region.wanted o (yielded Y a.tmps)=true then Oper.wp P o a W K' Q else E':=by
 have hw:Region.wanted o (yielded Y a.tmps)=true:=by simp[Region.wanted,aN]
 rw[if_pos hw];obtain⟨Z,w',hr,g1,g2⟩:=Yg (P:=P) K W t o.type E hU O bA aX B n m g c v xs I V hn M h1 hb hm hB aD aK;unfold Oper.wp execOp;simp only[ho,resolve,invoke,builtin,Sem.run_bind,Sem.run_pure,Result.andThen_ok,List.map_toArray,List.map_cons,List.map_nil,hs,hx,hr];exact h Z w' g1 g2
theorem QRow.cellOf {F:Nat->FP} {w:World} {g N:Nat} (h:QRow F w g N N) {i:Nat} (J:i<N*4):w.cell? ⟨g,i,none⟩=some (cellOf w ⟨g,i,none⟩):=by
 obtain⟨u,I⟩:=mK (h.has i J);rw[I,Ae I]
theorem QRow.shape {F:Nat->FP} {w:World} {g N:Nat} (h:QRow F w g N N) {u:Value} (Z:u∈Ax w g (N*4)):(∃s,u=.bool s)∨∃p n c,u=.slice p n c:=by
 obtain⟨i,I⟩:=List.getElem?_of_mem Z;have Y:=Dv I;rw[A9 Y]at I;injection I with I
 subst I;obtain⟨s,p,n,c,t,q,m,d,M,O,U,V,_⟩:=h.val (i / 4) (by omega);rcases(by omega:i % 4=0∨i % 4=1∨i % 4=2∨i % 4=3)with J|J|J|J
 ·rw[show i / 4*4=i by omega]at M
  exact .inl ⟨s,Ae M⟩
 ·rw[show i / 4*4+1=i by omega]at O
  exact .inr ⟨p,n,c,Ae O⟩
 ·rw[show i / 4*4+2=i by omega]at U
  exact .inl ⟨t,Ae U⟩
 ·rw[show i / 4*4+3=i by omega]at V
  exact .inr ⟨q,m,d,Ae V⟩
theorem QRow.one {F:Nat->FP} {w:World} {g N:Nat} (h:QRow F w g N N):∀u∈Ax w g (N*4),u.oneCell'=true:=by
 intro u I;rcases h.shape I with⟨s,rfl⟩ |⟨p,n,c,rfl⟩ <;> rfl
theorem QRow.ni {F:Nat->FP} {w:World} {g N:Nat} (h:QRow F w g N N):∀u∈Ax w g (N*4),NotInt u:=by
 intro u I;rcases h.shape I with⟨s,rfl⟩ |⟨p,n,c,rfl⟩
 ·exact NotInt.bool _
 ·exact NotInt.slice _ _ _
theorem QRow.cells {F:Nat->FP} {w:World} {g N:Nat} (h:QRow F w g N N):∀(j:Nat) (u:Value),(Ax w g (N*4))[j]?=some u->w.cell? ⟨g,j,none⟩=some u:=by
 intro j u I;have J:=Dv I;rw[A9 J]at I;rw[h.cellOf J,I]
theorem OwnQ.more {F R:Nat->FP} (hF:∀j,Bh (F j)) {W w':World} {B n m g:Nat} {v Y:Value} {M:List Value} (O:OwnK NotInt W B 86 4 v n M) (h:∀j,j<n->QX (F j) W M (j*4))
  (hr:QRow R W g m m) (h3:OwnK NotInt w' B 86 4 Y (n+m) (M++Ax W g (m*4))) (hg:W.grownBy w' v.ownBlock) (Z:∀j,j<m->F (n+j)=R j):OwnQ F w' B Y (n+m):=by
 have I:=I32.grown (K:=NotInt) (λx=>Fv x) O.2 hg;refine⟨_,h3,λj hj=>?_⟩;by_cases hjn:j<n
 ·exact((h j hjn).i32 (hF j) I).app
 ·obtain⟨k,rfl⟩:∃k,j=n+k:=⟨j - n,by omega⟩
  have U:k<m:=by omega
  have J:M.length=n*4:=O.1.1;obtain⟨s,p,c,d,t,q,e,f,c0,c1,c2,c3,V⟩:=hr.val k U;rw[<-Z k U]at V;refine⟨s,p,c,d,t,q,e,f,?_,?_,?_,?_,hF _ _ _ _ _ _ _ _ _ _ _ I V⟩
  ·rw[List.getElem?_append_right (by omega),J,show(n+k)*4 - n*4=k*4 by omega,A9 (by omega),Ae c0]
  ·rw[List.getElem?_append_right (by omega),J,show(n+k)*4+1 - n*4=k*4+1 by omega,A9 (by omega),Ae c1]
  ·rw[List.getElem?_append_right (by omega),J,show(n+k)*4+2 - n*4=k*4+2 by omega,A9 (by omega),Ae c2]
  ·rw[List.getElem?_append_right (by omega),J,show(n+k)*4+3 - n*4=k*4+3 by omega,A9 (by omega),Ae c3]
structure MatAt (F:Nat->FP) (w:World) (go B R C m:Nat):Prop where
 lt:go<B
 hB:B<=w.heap.size
 c0:w.cell? ⟨go,0,none⟩=some (.int .i64 (R:Int))
 c1:w.cell? ⟨go,1,none⟩=some (.int .i64 (C:Int))
 c2:∃p c,w.cell? ⟨go,2,none⟩=some (.slice p m c)/\OwnQ F w B (.slice p m c) m
 fr:w.frozen? ⟨go,2,none⟩=false
 stk:Stk NotU32 w go
theorem MatAt.keep {F:Nat->FP} (hF:∀j,Bh (F j)) {w w':World} {go B R C m:Nat} (h:MatAt F w go B R C m) (I:Below w.heap.size w w'):MatAt F w' go B R C m:=by
 obtain⟨p,c,J,M⟩:=h.c2;exact⟨h.lt,mH h.hB I.size,cell_next I h.c0,cell_next I h.c1,⟨p,c,cell_next I J,M.keep hF I⟩,Ac I (by rw[J];rfl) h.fr,h.stk.next I⟩
theorem OwnQ.box {F:Nat->FP} (hF:∀j,Bh (F j)) {w w':World} {B n G:Nat} {v:Value} (h:OwnQ F w B v n) (M:I32 w w') (hg:w.grownBy w' (some G)) (hG:G<B):OwnQ F w' B v n:=by
 obtain⟨xs,J,V⟩:=h
 have I:∀g,v.ownBlock=some g->some g≠some G:=λg e U=>by
  have:=Ch J.1 e.symm;injection U with U;omega
 refine⟨xs,⟨J.1.kept hg ?_,λg e=>?_⟩,λj Z=>(V j Z).i32 (hF j) M⟩
 ·cases hv:v.ownBlock with
  | none=>exact .inl rfl
  | some g=>exact .inr (I g hv)
 ·have O:=J.2 g e
  have Y:=hg.block g O.1 (I g e);exact⟨mI O.1 hg.size,λi u hu=>O.2 i u ((World.cell?_of_block (a:=⟨g,i,none⟩) Y).symm.trans hu)⟩
theorem MatAt.more {F:Nat->FP} (hF:∀j,Bh (F j)) {W w':World} {go B R C m n:Nat} {xs:List Value} {p:Option Addr} {c:Nat} {p':Option Addr} {O:Nat} (h:MatAt F W go B R C m) (hv:W.cell? ⟨go,2,none⟩=some (.slice p m c)) (Z:W.ownsRow B 86 4 (.slice p m c) m xs) (hO:OwnQ F w' B (.slice p' n O) n) (hg:W.grownBy w' (Value.slice p m c).ownBlock):
  w'.cell? ⟨go,2,none⟩=some (.slice p m c)/\w'.frozen? ⟨go,2,none⟩=false/\MatAt F (w'.setCell ⟨go,2,none⟩ (.slice p' n O)) go B R C n:=by
 have U:some go≠(Value.slice p m c).ownBlock:=λe=>by
  have:=Ch Z e;have:=h.lt;omega
 have J:go<W.heap.size:=mI h.lt h.hB;have I:=hg.block go J (λe=>U e);have V:w'.cell? ⟨go,2,none⟩=some (.slice p m c):=(World.cell?_of_block (a:=⟨go,2,none⟩) I).trans hv;have Y:w'.frozen? ⟨go,2,none⟩=false:=(World.frozen?_of_block (a:=⟨go,2,none⟩) I).trans h.fr;have M:Stk NotU32 w' go:=⟨mI J hg.size,λi u hu=>h.stk.2 i u ((World.cell?_of_block (a:=⟨go,i,none⟩) I).symm.trans hu)⟩
 refine⟨V,Y,h.lt,by simpa using mH h.hB hg.size,?_,?_,⟨p',O,World.cell?_setCell_same' _ _ _ (by rw[V];rfl),hO.box hF (I32.putU M 2 _) (Ai w' go 2 _) h.lt⟩,At Y,Bc M _ _ (λ_ h=>by cases h)⟩
 ·rw[World.cell?_setCell_other _ _ _ _ (by simp)];exact(World.cell?_of_block (a:=⟨go,0,none⟩) I).trans h.c0
 ·rw[World.cell?_setCell_other _ _ _ _ (by simp)];exact(World.cell?_of_block (a:=⟨go,1,none⟩) I).trans h.c1
end Go.Proofs.YtenlbhlllgppmaaGreatDoor
namespace Go.Proofs.YtenlbhlllgppmaaGreatDoor
open Tryz
open Go.RowKit
def IsS (x y:Int):FP:=λw s p n c t q m d=>Zs w s p n c x/\Zs w t q m d y/\n<=1000/\m<=1000
theorem IsS.solid (x y:Int):Bh (IsS x y):=λ_ _ _ _ _ _ _ _ _ _ h hq=>⟨hq.1.i32 h,hq.2.1.i32 h,hq.2.2⟩
end Go.Proofs.YtenlbhlllgppmaaGreatDoor
namespace Go.Proofs.YtenlbhlllgppmaaGreatDoor
open Tryz
open Go.RowKit Eli
theorem OwnQ.base {F:Nat->FP} {w:World} {B B' n:Nat} {v:Value} (h:OwnQ F w B v n) (hB:B'<=B):OwnQ F w B' v n:=by
 obtain⟨U,I,O⟩:=h;refine⟨U,⟨⟨I.1.1,?_⟩,I.2⟩,O⟩;rcases I.1.2 with h |⟨M,cap,cs,e,J,hr⟩
 ·exact .inl h
 ·exact .inr ⟨M,cap,cs,e,mH hB J,hr⟩
theorem OwnQ.imp {F G:Nat->FP} {w:World} {B n:Nat} {v:Value} (h:OwnQ F w B v n) (hi:∀j,j<n->∀s p k c t q m d,F j w s p k c t q m d->G j w s p k c t q m d):OwnQ G w B v n:=by
 obtain⟨xs,V,Y⟩:=h;refine⟨xs,V,λj I=>?_⟩;obtain⟨s,p,k,c,t,q,m,d,J,M,O,U,Z⟩:=Y j I;exact⟨s,p,k,c,t,q,m,d,J,M,O,U,hi j I _ _ _ _ _ _ _ _ Z⟩
theorem Fk {F:Nat->FP} {w:World} {v:Value} {n:Nat} (h:QL F w v n):∃p c,v=.slice p n c:=by
 rcases h with⟨rfl,a,c,e⟩ |⟨g,o,cap,e,_⟩
 ·exact⟨a,c,e⟩
 ·exact⟨_,cap,e⟩
end Go.Proofs.YtenlbhlllgppmaaGreatDoor
namespace Go.Proofs.YtenlbhlllgppmaaGreatDoor
open Tryz
namespace Eli
open Tryz
open Sie
def RSp (rows:Nat->Nat->Int) (k:Nat) (u:Nat->Rat):Prop:=∃z:Nat->Rat,∀q,u q=sumQ (λi=>z i*(rows i q:Rat)) k
theorem RSp.nil (rows:Nat->Nat->Int) (k:Nat):RSp rows k (λ_=>0):=⟨λ_=>0,λq=>(A4 (λi _=>by grind)).symm⟩
theorem RSp.combine {rows:Nat->Nat->Int} {k:Nat} {u v:Nat->Rat} (M:RSp rows k u) (c:Rat) (O:RSp rows k v):RSp rows k (λq=>u q+c*v q):=by
 obtain⟨y,I⟩:=M;obtain⟨z,J⟩:=O;refine⟨λj=>y j+c*z j,λq=>?_⟩;dsimp only;rw[I,J,<-Ap,<-Ar];exact Ad λi _=>by grind
theorem RSp.congr {rows:Nat->Nat->Int} {k:Nat} {u v:Nat->Rat} (J:RSp rows k u) (h:∀q,v q=u q):RSp rows k v:=by
 obtain⟨y,I⟩:=J;exact⟨y,λq=>by rw[h,I]⟩
theorem RSp.mono {rows:Nat->Nat->Int} {k k':Nat} {u:Nat->Rat} (O:RSp rows k u) (h:k<=k'):RSp rows k' u:=by
 obtain⟨y,I⟩:=O;refine⟨λj=>if j<k then y j else 0,λq=>?_⟩;rw[I,Ij h (λi J _=>by simp only[if_neg (Nat.not_lt.2 J)];grind)];exact Ad λi M=>by simp only[if_pos M]
theorem RSp.row {rows:Nat->Nat->Int} {k i:Nat} (J:i<k):RSp rows k (λq=>(rows i q:Rat)):=by
 refine⟨λj=>if j=i then 1 else 0,λq=>?_⟩;rw[Ba J (λj _ I=>by simp only[if_neg I];grind)];simp
theorem RSp.sum {rows:Nat->Nat->Int} {k:Nat} {L:Nat->Nat->Rat} {z:Nat->Rat}:∀t,(∀j,j<t->z j=0∨RSp rows k (L j))->RSp rows k (λq=>sumQ (λj=>z j*L j q) t)
 | 0,_=>(RSp.nil rows k).congr (λ_=>rfl)
 | t+1,h=>by
  have J:=RSp.sum t (λj M=>h j (by omega)) (rows:=rows) (k:=k) (L:=L) (z:=z);rcases h t (mJ _)with I|I
  ·exact J.congr (λq=>by rw[sumQ,I];grind)
  ·exact(J.combine (z t) I).congr (λq=>by rw[sumQ])
theorem RSp.of_sp {rows:Nat->Nat->Int} {k t:Nat} {ld:Nat->Bool} {L:Nat->Nat->Rat} {u:Nat->Rat} (M:Sp ld L t u) (h:∀j,j<t->ld j=true->RSp rows k (L j)):RSp rows k u:=by
 obtain⟨z,O,J⟩:=M;refine(RSp.sum (L:=L) (z:=z) t (λj I=>?_)).congr J;cases hl:ld j with
 | false=>exact .inl (O j I hl)
 | true=>exact .inr (h j I hl)
theorem Sp.sum {ld:Nat->Bool} {L:Nat->Nat->Rat} {t:Nat} {R:Nat->Nat->Rat} {z:Nat->Rat}:∀k,(∀j,j<k->z j=0∨Sp ld L t (R j))->Sp ld L t (λq=>sumQ (λj=>z j*R j q) k)
 | 0,_=>(Sp.nil ld L t).congr (λ_=>rfl)
 | k+1,h=>by
  have J:=Sp.sum k (λj M=>h j (by omega)) (ld:=ld) (L:=L) (t:=t) (R:=R) (z:=z);rcases h k (mJ _)with I|I
  ·exact J.congr (λq=>by rw[sumQ,I];grind)
  ·exact(J.combine (z k) I).congr (λq=>by rw[sumQ])
theorem RSp.sp {rows:Nat->Nat->Int} {k t:Nat} {ld:Nat->Bool} {L:Nat->Nat->Rat} {u:Nat->Rat} (M:RSp rows k u) (h:∀i,i<k->Sp ld L t (λq=>(rows i q:Rat))):Sp ld L t u:=by
 obtain⟨z,I⟩:=M;exact(Sp.sum (R:=λi q=>(rows i q:Rat)) (z:=z) k (λj J=>.inr (h j J))).congr I
theorem Sp.trim {ld:Nat->Bool} {L:Nat->Nat->Rat} {t n:Nat} {u:Nat->Rat} (I:Sp ld L t u) (h:∀j,n<=j->ld j=false):Sp ld L n u:=by
 by_cases ht:t<=n
 ·exact I.mono ht
 ·obtain⟨z,J,M⟩:=I
  refine⟨z,λj Y V=>J j (by omega) V,λq=>?_⟩;rw[M];exact Ij (by omega) (λi O U=>by rw[J i U (h i O)];grind)
theorem Good.high {n B:Nat} {leads:Nat->List (Nat×Rat)} (h:Good n B leads) (j:Nat) (I:n<=j):ldOf leads j=false:=Bz ((h.ord j).top I)
theorem Up {leads:Nat->List (Nat×Rat)} {x:Nat×Rat} {r:List (Nat×Rat)} (h:leads x.1=[]):
  ldOf (Eli.put leads (x :: r)) x.1=true/\(∀q,rowOf (Eli.put leads (x :: r)) x.1 q=1 / x.2*val (x :: r) q) /\
  (∀j,j≠x.1->ldOf (Eli.put leads (x :: r)) j=ldOf leads j/\rowOf (Eli.put leads (x :: r)) j=rowOf leads j) /\
  ∀t u,Sp (ldOf leads) (rowOf leads) t u->Sp (ldOf (Eli.put leads (x :: r))) (rowOf (Eli.put leads (x :: r))) t u:=by
 obtain⟨M,O⟩:∃M,Eli.put leads (x :: r)=M:=⟨_,rfl⟩
 have e1:M x.1=scl (x :: r):=by rw[<-O];exact if_pos rfl
 have e2:∀j,j≠x.1->M j=leads j:=λj J=>by rw[<-O];exact if_neg J
 have e3:scl (x :: r)≠[]:=by rw[scl,List.map_cons];exact List.cons_ne_nil _ _
 have U:ldOf M x.1=true:=Ct (by rw[e1];exact e3);have I:∀j,j≠x.1->ldOf M j=ldOf leads j:=λj J=>by rw[ldOf,e2 j J];rfl
 have Y:∀j,j≠x.1->rowOf M j=rowOf leads j:=λj J=>by funext q;rw[rowOf,rowOf,I j J,e2 j J]
 have aD:∀q,rowOf M x.1 q=1 / x.2*val (x :: r) q:=λq=>by rw[rowOf,U,if_pos rfl,e1,Te]
 rw[O];refine⟨U,aD,λj J=>⟨I j J,Y j J⟩,λt u hu=>hu.turn λj _ Z=>?_⟩;have V:j≠x.1:=λe=>by rw[e,Bz h]at Z;cases Z
 exact⟨by rw[I j V];exact Z,Y j V⟩
theorem lE {n B:Nat} {leads:Nat->List (Nat×Rat)} {v:Nat->Int} {t:Nat} {x:Nat×Rat} {r:List (Nat×Rat)} (h:Good n B leads) (hr:RowOk n leads v t (x :: r)) (M:Rb leads (x :: r)=x :: r):leads x.1=[]:=by
 refine Classical.byContradiction λJ=>?_
 obtain⟨⟨I,_⟩,_⟩:=hr.step h J;rw[M]at I;have:=I.1;omega
theorem Lz {n B:Nat} {rows:Nat->Nat->Int} (hB:1<=B) (hb:∀i q,(rows i q).natAbs<=B) (h0:∀i q,n<=q->rows i q=0) (k:Nat):
  (∀i,i<k->Sp (ldOf (elim n rows k)) (rowOf (elim n rows k)) n (λq=>(rows i q:Rat)))/\∀j,ldOf (elim n rows k) j=true->RSp rows k (rowOf (elim n rows k) j):=by
 induction k with
 | zero=>exact⟨λi Y=>absurd Y (Nat.not_lt_zero _),λj J=>by cases J⟩
 | succ k ih=>
  obtain⟨M,I⟩:=ih;have hg:=Good.elim hB hb h0 k;have hr:=RowOk.first n (Eli.elim n rows k) (rows k) (h0 k)
  obtain⟨t,V,_⟩:=hr.steps hg n;have hs:=hr.end_still hg;rw[show elim n rows (k+1)=Eli.put (elim n rows k) (Et (elim n rows k) n (Zy (rows k) n))from rfl];generalize Et (elim n rows k) n (Zy (rows k) n)=r at V hs ⊢;generalize elim n rows k=leads at M I hg V hs ⊢;obtain⟨h,u,hu,U⟩:=V;have O:=hu.trim hg.high;have aN:RSp rows k u:=RSp.of_sp hu (λj _ J=>I j J);cases r with
  | nil=>
   refine⟨λi Y=>?_,λj J=>(I j J).mono (Nat.le_succ _)⟩;by_cases e:i=k
   ·subst e
    exact O.congr (λq=>by rw[U,Jg];grind)
   ·exact M i (by omega)
  | cons x r=>
   have Z:=lE hg ⟨h,u,hu,U⟩ hs;obtain⟨f1,f2,f3,f4⟩:=Up (r:=r) Z;have hx:=h.2.2.1;have aX:=h.2.1;refine⟨λi Y=>?_,λj J=>?_⟩
   ·by_cases e:i=k
    ·subst e
     refine((f4 _ _ O).combine x.2 (Sp.lead aX f1)).congr (λq=>?_);rw[U,f2];grind
    ·exact f4 _ _ (M i (by omega))
   ·by_cases e:j=x.1
    ·subst e
     have h2:RSp rows (k+1) (λq=>(rows k q:Rat)+(-1)*u q):=(RSp.row (mJ _)).combine (-1) (aN.mono (Nat.le_succ _));refine((RSp.nil rows (k+1)).combine (1 / x.2) h2).congr (λq=>?_);rw[f2,U];grind
    ·obtain⟨g1,g2⟩:=f3 j e
     rw[g1]at J;rw[g2];exact(I j J).mono (Nat.le_succ _)
theorem Inv.unique {B:Nat} {ld:Nat->Bool} {L:Nat->Nat->Rat} {R:Nat->Nat->Int} (h:Inv B ld L R) {n:Nat} {x y u v:Nat->Rat} (hu:Sp ld L n u) (hv:Sp ld L n v)
  (he:∀q,q<n->sumQ (λf=>(if ld f then 0 else x f)*L f q) n+u q=sumQ (λf=>(if ld f then 0 else y f)*L f q) n+v q):∀f,f<n->ld f=false->x f=y f:=by
 obtain⟨a,Z,U⟩:=hu;obtain⟨b,hb,V⟩:=hv
 have Y:=h.tri (t:=n) (z:=λj=>((if ld j then 0 else x j)+a j)+(-1)*((if ld j then 0 else y j)+b j)) (λq hq=>by
  have e:=he q hq;rw[U,V]at e
  have O:sumQ (λj=>(((if ld j then 0 else x j)+a j)+(-1)*((if ld j then 0 else y j)+b j))*L j q) n
   =(sumQ (λf=>(if ld f then 0 else x f)*L f q) n+sumQ (λj=>a j*L j q) n)+(-1)*(sumQ (λf=>(if ld f then 0 else y f)*L f q) n+sumQ (λj=>b j*L j q) n):=by
   rw[<-Ar,<-Ar,<-Ap,<-Ar];exact Ad λi _=>by grind
  rw[O,e];grind)
 intro f I J;have M:=Y f I;rw[Z f I J,hb f I J,J]at M;simp only[Bool.false_eq_true,if_false]at M;grind
theorem Oy {n B:Nat} {leads:Nat->List (Nat×Rat)} (h:Good n B leads) (V:Nat->Rat):∀m,m<=n ->
  ∃u,Sp (ldOf leads) (rowOf leads) n u/\∀q,(if q<m then V q else 0)=sumQ (λf=>(if ldOf leads f then 0 else sumQ (λj=>V j*Bk leads n n j f) m)*rowOf leads f q) n+u q
 | 0,_=>⟨λ_=>0,Sp.nil _ _ _,λq=>by
   rw[if_neg (Nat.not_lt_zero _),A4 (λi _=>?_)]
   ·grind
   ·rw[sumQ];split <;> grind⟩
 | m+1,hm=>by
  obtain⟨u,U,M⟩:=Oy h V m (by omega);obtain⟨w,Y,O⟩:=Rf h n m (by omega) (by omega) n (by omega) (mG _);refine⟨_,U.combine (V m) Y,λq=>?_⟩
  have I:(if q<m+1 then V q else 0)=(if q<m then V q else 0)+V m*(if q=m then(1:Rat)else 0):=by
   by_cases h1:q=m
   ·rw[h1,if_pos (by omega),if_neg (by omega),if_pos rfl];grind
   ·rw[if_neg h1]
    by_cases h2:q<m
    ·rw[if_pos (by omega),if_pos h2];grind
    ·rw[if_neg (by omega),if_neg h2];grind
  have J:sumQ (λf=>(if ldOf leads f then 0 else sumQ (λj=>V j*Bk leads n n j f) (m+1))*rowOf leads f q) n=sumQ (λf=>(if ldOf leads f then 0 else sumQ (λj=>V j*Bk leads n n j f) m)*rowOf leads f q) n+V m*sumQ (λf=>(if ldOf leads f then 0 else Bk leads n n m f)*rowOf leads f q) n:=by
   rw[<-Ap,<-Ar];refine Ad λf _=>?_
   rw[sumQ];split <;> grind
  rw[I,M,O,J];grind
theorem Qq {n B:Nat} {leads:Nat->List (Nat×Rat)} (h:Good n B leads) {V:Nat->Rat} (hV:Sp (ldOf leads) (rowOf leads) n V) {f:Nat} (J:f<n) (O:leads f=[]):sumQ (λj=>V j*Bk leads n n j f) n=0:=by
 obtain⟨u,U,I⟩:=Oy h V n (mG _);obtain⟨R,M⟩:=h.inv
 exact M.unique (x:=λf=>sumQ (λj=>V j*Bk leads n n j f) n) (y:=λ_=>0) U hV (λq hq=>by
  rw[<-I,if_pos hq,A4 (λi _=>?_)]
  ·grind
  ·split <;> grind) f J (Bz O)
end Eli
end Go.Proofs.YtenlbhlllgppmaaGreatDoor
