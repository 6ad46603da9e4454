/- Contract of manin.Relations: the relations between Manin symbols. -/
import Derived.Test.YtenlbhlllgppmaaGreatDoorQ23
set_option linter.unusedSimpArgs false
set_option maxRecDepth 100000
set_option maxHeartbeats 8000000
namespace Go.Proofs.YtenlbhlllgppmaaGreatDoor
open Tryz
open Go.RowKit
def F5 (n wt:Nat) (L:List Nat) (f:Nat->Nat×Int) (r:Nat) (gs:List M4):Nat->Nat->Int
 | 0,k=>if k=r then 1 else 0
 | t+1,k=>F5 n wt L f r gs t k+L8 n wt L f (r / L.length) (r % L.length) (gs.getD t (0,0,0,0)) k
def Db (q:Nat):List M4:=if q=0 then [gTurn]else [gThird,gTwice]
theorem Ye {n wt:Nat} {L:List Nat} {f:Nat->Nat×Int} {q r:Nat} (k:Nat) (hq:q<2) (hr:r<(wt+1)*L.length):Kr n wt L f (q*((wt+1)*L.length)+r) k=F5 n wt L f r (Db q) (Db q).length k:=by
 rcases(by omega:q=0∨q=1)with rfl|rfl
 ·unfold Kr;rw[Nat.zero_mul,Nat.zero_add,if_pos hr];rfl
 ·unfold Kr;rw[Nat.one_mul,if_neg (by omega),Nat.add_sub_cancel_left];rfl
def P5 (g:M4):Prop:=(-1<=g.1/\g.1<=1)/\(-1<=g.2.1/\g.2.1<=1)/\(-1<=g.2.2.1/\g.2.2.1<=1)/\(-1<=g.2.2.2/\g.2.2.2<=1)
theorem Sc (q t:Nat):P5 ((Db q).getD t (0,0,0,0)):=by
 unfold Db;split
 ·rcases t with _|t
  ·exact(show P5 gTurn by unfold P5;decide)
  ·exact(show P5 (0,0,0,0)by unfold P5;decide)
 ·rcases t with _|_|t
  ·exact(show P5 gThird by unfold P5;decide)
  ·exact(show P5 gTwice by unfold P5;decide)
  ·exact(show P5 (0,0,0,0)by unfold P5;decide)
theorem O6 (q:Nat):(Db q).length<=2:=by unfold Db;split <;> decide
theorem Re {n wt:Nat} {L:List Nat} {f:Nat->Nat×Int} {r:Nat} {gs:List M4} (H:TabOk L.length f) (hg:∀t,P5 (gs.getD t (0,0,0,0))) (I:wt<=22) (t k:Nat):(F5 n wt L f r gs t k).natAbs<=1+t*4194304:=by
 induction t with
 | zero=>unfold F5;split <;> simp
 | succ t ih=>
  unfold F5;have Y:2 ^ wt<=4194304:=kU (Nat.pow_le_pow_right (by decide) I) (by decide);obtain⟨J,O,U,V⟩:=hg t;have h:=Ed (n:=n) (w:=wt) (L:=L) (i:=r / L.length) (j:=r % L.length) (g:=gs.getD t (0,0,0,0)) H (by omega) (by omega) k;omega
theorem Pe {x:Int} (h:x.natAbs<=1000000000):nd x.natAbs<=1:=Be.2 (show x.natAbs<4294967296 ^ 1 by omega)
def E5 (F Y:Nat->Int) (k:Nat):Nat->Int:=λj=>if j<k then F j+Y j else F j
theorem Tp (F Y:Nat->Int) (j:Nat):E5 F Y 0 j=F j:=by unfold E5;rw[if_neg (Nat.not_lt_zero j)]
theorem Rs (F Y:Nat->Int) (k:Nat):E5 F Y k k=F k:=by unfold E5;rw[if_neg (Nat.lt_irrefl k)]
theorem N8 (F Y:Nat->Int) (k:Nat):E5 F Y (k+1) k=F k+Y k:=by unfold E5;rw[if_pos (kW k)]
theorem N7 {F Y:Nat->Int} {k j:Nat} (h:j≠k):E5 F Y k j=E5 F Y (k+1) j:=by
 unfold E5;by_cases hj:j<k
 ·rw[if_pos hj,if_pos (by omega)]
 ·rw[if_neg hj,if_neg (by omega)]
theorem To {F Y:Nat->Int} {k:Nat} (h:Y k=0) (j:Nat):E5 F Y k j=E5 F Y (k+1) j:=by
 by_cases hj:j=k
 ·subst hj;rw[Rs,N8,h,Int.add_zero]
 ·exact N7 hj
theorem Tn {F Y:Nat->Int} {k j:Nat} (h:j<k):E5 F Y k j=F j+Y j:=by unfold E5;rw[if_pos h]
theorem OwnZ.ret {f:Nat->Int} {w:World} {B n:Nat} {v:Value} (h:OwnZ f w B v n) (h0:0<n):∃g cap,v=.slice (some ⟨g,0,none⟩) n cap/\n<=cap/\cap<=9223372036854775807/\B<=g/\g<w.heap.size/\∀j,j<n->ZE (f j) w g (j*2):=by
 obtain⟨xs,I,Y⟩:=h;rcases I.1.2 with⟨_,e2⟩ |⟨g,cap,cs,H,hB,hg,hn,J,Z,_⟩
 ·omega
 ·have hs:=I.2 g (by rw[H];rfl)
  have O:=I.1;subst H;refine⟨g,cap,rfl,hn,by simp only[maxLen]at J;omega,hB,hs.1,λj hj=>?_⟩;obtain⟨s,p,n',c,U,H,V⟩:=Y j hj;exact⟨s,p,n',c,Aq O U,Aq O H,V⟩
theorem OwnZ.congr {f H:Nat->Int} {w:World} {B n:Nat} {v:Value} (h:OwnZ f w B v n) (e:∀j,j<n->f j=H j):OwnZ H w B v n:=by
 obtain⟨U,J,O⟩:=h;exact⟨U,J,λj I=>by rw[<-e j I];exact O j I⟩
theorem OwnZ.slice {f:Nat->Int} {w:World} {B n:Nat} {v:Value} (h:OwnZ f w B v n):∃p c,v=.slice p n c:=by
 obtain⟨I,H,_⟩:=h;exact Bf H.1
theorem OwnZ.box {f:Nat->Int} {w w':World} {B n G:Nat} {v:Value} (h:OwnZ f w B v n) (J:I32 w w') (hg:w.grownBy w' (some G)) (hG:G<B):OwnZ f w' B v n:=by
 obtain⟨xs,I,V⟩:=h
 have H:∀g,v.ownBlock=some g->some g≠some G:=λg e U=>by
  have:=Ch I.1 e.symm;injection U with U;omega
 refine⟨xs,⟨I.1.kept hg ?_,λg e=>?_⟩,λj Z=>(V j Z).i32 J⟩
 ·cases hv:v.ownBlock with
  | none=>exact .inl rfl
  | some g=>exact .inr (H g hv)
 ·have O:=I.2 g e
  have Y:=hg.block g O.1 (H g e);exact⟨kV O.1 hg.size,λi u hu=>O.2 i u ((World.cell?_of_block (a:=⟨g,i,none⟩) Y).symm.trans hu)⟩
structure OutAt (F:Nat->Int) (w:World) (go B C2 C m:Nat):Prop where
 lt:go<B
 hB:B<=w.heap.size
 c0:w.cell? ⟨go,0,none⟩=some (.int .i64 (C2:Int))
 c1:w.cell? ⟨go,1,none⟩=some (.int .i64 (C:Int))
 c2:∃p c,w.cell? ⟨go,2,none⟩=some (.slice p m c)/\OwnZ F w B (.slice p m c) m
 fr:w.frozen? ⟨go,2,none⟩=false
 stk:Stk NotU32 w go
theorem OutAt.keep {F:Nat->Int} {w w':World} {go B C2 C m:Nat} (h:OutAt F w go B C2 C m) (H:Below w.heap.size w w'):OutAt F w' go B C2 C m:=by
 obtain⟨p,c,I,J⟩:=h.c2;exact⟨h.lt,kU h.hB H.size,Ac H h.c0,Ac H h.c1,⟨p,c,Ac H I,J.keep H⟩,Ab H (by rw[I];rfl) h.fr,h.stk.next H⟩
theorem Hz {J W w':World} {go B:Nat} {v:Value} (h:J.grownBy W (some go)) (hg:W.grownBy w' v.ownBlock) (hB:B=J.heap.size) (H:∀b,v.ownBlock=some b->B<=b):J.grownBy w' (some go):=
 ⟨hg.os.trans h.os,hg.tape.trans h.tape,hg.output.trans h.output,kU h.size hg.size,λk O I=>(hg.block k (kV O h.size) (λe=>by have:=H k e.symm;omega)).trans (h.block k O I)⟩
theorem OutAt.more {F r:Nat->Int} {W w':World} {go B C2 C m k g:Nat} {p:Option Addr} {c:Nat} {p':Option Addr} {O:Nat} {V:List Value} (h:OutAt F W go B C2 C m) (hv:W.cell? ⟨go,2,none⟩=some (.slice p m c)) (h1:OwnK NotInt W B 84 2 (.slice p m c) m V) (h2:∀j,j<m->ZX (F j) W V (j*2))
  (hr:ZRow r W g k k) (h3:OwnK NotInt w' B 84 2 (.slice p' (m+k) O) (m+k) (V++Ax W g (k*2))) (hg:W.grownBy w' (Value.slice p m c).ownBlock) (e2:∀j,j<k->F (m+j)=r j):
  w'.cell? ⟨go,2,none⟩=some (.slice p m c)/\w'.frozen? ⟨go,2,none⟩=false/\OutAt F (w'.setCell ⟨go,2,none⟩ (.slice p' (m+k) O)) go B C2 C (m+k):=by
 have U:some go≠(Value.slice p m c).ownBlock:=λe=>by
  have:=Ch h1.1 e;have:=h.lt;omega
 have I:go<W.heap.size:=kV h.lt h.hB;have H:=hg.block go I (λe=>U e);have Y:w'.cell? ⟨go,2,none⟩=some (.slice p m c):=(World.cell?_of_block (a:=⟨go,2,none⟩) H).trans hv;have Z:w'.frozen? ⟨go,2,none⟩=false:=(World.frozen?_of_block (a:=⟨go,2,none⟩) H).trans h.fr;have J:Stk NotU32 w' go:=⟨kV I hg.size,λi u hu=>h.stk.2 i u ((World.cell?_of_block (a:=⟨go,i,none⟩) H).symm.trans hu)⟩
 have hO:=OwnZ.more h1 h2 hr h3 hg F (λ_ _=>rfl) e2;refine⟨Y,Z,h.lt,by simpa using kU h.hB hg.size,?_,?_,⟨p',O,World.cell?_setCell_same' _ _ _ (by rw[Y];rfl),hO.box (I32.putU J 2 _) (Ai w' go 2 _) h.lt⟩,At Z,Bc J _ _ (λ_ h=>by cases h)⟩
 ·rw[World.cell?_setCell_other _ _ _ _ (by simp)];exact(World.cell?_of_block (a:=⟨go,0,none⟩) H).trans h.c0
 ·rw[World.cell?_setCell_other _ _ _ _ (by simp)];exact(World.cell?_of_block (a:=⟨go,1,none⟩) H).trans h.c1
theorem aO (w:World) (U O h:Nat) (J:Blk w U 63 #[.int .i64 0,.int .i64 (-1),.int .i64 1,.int .i64 0]) (H:Blk w O 63 #[.int .i64 0,.int .i64 (-1),.int .i64 1,.int .i64 (-1),.int .i64 (-1),.int .i64 1,.int .i64 (-1),.int .i64 0]) (Z:Blk w h 113 #[.slice (some ⟨U,0,none⟩) 1 1,.slice (some ⟨O,0,none⟩) 2 2]) (q:Nat) (hq:q<2):
  ∃I,(I=U∨I=O)/\w.cell? ⟨h,q,none⟩=some (.slice (some ⟨I,0,none⟩) (Db q).length (Db q).length)/\∀t,t<(Db q).length->w.cell? ⟨I,t*4,none⟩=some (.int .i64 ((Db q).getD t (0,0,0,0)).1)/\w.cell? ⟨I,t*4+1,none⟩=some (.int .i64 ((Db q).getD t (0,0,0,0)).2.1)/\w.cell? ⟨I,t*4+2,none⟩=some (.int .i64 ((Db q).getD t (0,0,0,0)).2.2.1)/\w.cell? ⟨I,t*4+3,none⟩=some (.int .i64 ((Db q).getD t (0,0,0,0)).2.2.2):=by
 rcases(by omega:q=0∨q=1)with rfl|rfl
 ·refine⟨U,.inl rfl,Z.at_ 0 rfl,λt V=>?_⟩
  have Y:t<1:=V;obtain rfl:t=0:=by omega
  exact⟨J.at_ 0 rfl,J.at_ 1 rfl,J.at_ 2 rfl,J.at_ 3 rfl⟩
 ·refine⟨O,.inr rfl,Z.at_ 1 rfl,λt V=>?_⟩
  have Y:t<2:=V;rcases(by omega:t=0∨t=1)with rfl|rfl
  ·exact⟨H.at_ 0 rfl,H.at_ 1 rfl,H.at_ 2 rfl,H.at_ 3 rfl⟩
  ·exact⟨H.at_ 4 rfl,H.at_ 5 rfl,H.at_ 6 rfl,H.at_ 7 rfl⟩
theorem ZE.but32 {z:Int} {w w':World} {g i G:Nat} (h:ZE z w g i) (I:I32 w w') (hg:w.grownBy w' (some G)) (H:g≠G):ZE z w' g i:=by
 obtain⟨s,p,n,c,J,O,U⟩:=h;exact⟨s,p,n,c,hg.cell J (λe=>by injection e with e;exact H e),hg.cell O (λe=>by injection e with e;exact H e),U.i32 I⟩
theorem C1 {w:World} {R:Nat} {v0 v1 v2:Value} (H:(w.cell? ⟨R,0,none⟩).isSome=true) (I:(w.cell? ⟨R,1,none⟩).isSome=true) (J:(w.cell? ⟨R,2,none⟩).isSome=true):
  (((w.setCell ⟨R,0,none⟩ v0).setCell ⟨R,1,none⟩ v1).setCell ⟨R,2,none⟩ v2).cell? ⟨R,0,none⟩=some v0/\(((w.setCell ⟨R,0,none⟩ v0).setCell ⟨R,1,none⟩ v1).setCell ⟨R,2,none⟩ v2).cell? ⟨R,1,none⟩=some v1/\(((w.setCell ⟨R,0,none⟩ v0).setCell ⟨R,1,none⟩ v1).setCell ⟨R,2,none⟩ v2).cell? ⟨R,2,none⟩=some v2:=by
 refine⟨?_,?_,?_⟩
 ·rw[World.cell?_setCell_other _ _ _ _ (by simp),World.cell?_setCell_other _ _ _ _ (by simp),World.cell?_setCell_same' _ _ _ H]
 ·rw[World.cell?_setCell_other _ _ _ _ (by simp),World.cell?_setCell_same' _ _ _ (Ah I)]
 ·rw[World.cell?_setCell_same' _ _ _ (Ah (Ah J))]
theorem Hi {w:World} {R:Nat} (H:Stk NotU32 w R) {v0 v1 v2:Value} (J:NotU32 v0) (O:NotU32 v1):I32 w (((w.setCell ⟨R,0,none⟩ v0).setCell ⟨R,1,none⟩ v1).setCell ⟨R,2,none⟩ v2):=by
 have I:=Bc H ⟨R,0,none⟩ v0 J;have U:=Bc I ⟨R,1,none⟩ v1 O;exact((I32.putU H 0 v0).trans (I32.putU I 1 v1)).trans (I32.putU U 2 v2)
theorem Ju (n wt:Nat) (D:Int) (L:List Nat) (C:Nat) (w:World) (hT:Tab w) (h0:0<n) (hn:n<=120) (lB:wt<=22) (hD:-120<=D) (sE:D<=120) (pE:Pl.check n ((wt:Int)+2) D=0) (hk:∀l,Pl.kroP D l=0∨Pl.kroP D l=1∨Pl.kroP D l=-1) (hL:pts n (n*n)=L) (gU:(wt+1)*L.length=C) (nB:0<C) (hC:C<=72):
  Calls prog 47 #[.agg #[.int .i64 n,.int .i64 ((wt:Int)+2),.int .i64 D]] w λe w'=>Vb (2*C) C (λp=>Kr n wt L (Bb n D L n) (p / C) (p % C)) e w'/\Below w.heap.size w w':=by
 have oI:∀x,x∈L->x<n*n:=λx h=>Gn (hL▸h)
 have uE:L.length<=72:=kU (by rw[<-gU];exact Nat.le_mul_of_pos_left _ (by omega)) hC
 have sI:0<L.length:=by
  rcases Nat.eq_zero_or_pos L.length with h|h
  ·rw[h,Nat.mul_zero]at gU;omega
  ·exact h
 have mR:=Kh (λW (hb:Below w.heap.size w W)=>hL▸Gf n wt D W (hT.below hb) h0 hn lB hD sE pE);obtain⟨f,hf⟩:∃f,Bb n D L n=f:=⟨_,rfl⟩
 rw[hf]at mR ⊢;have mU:=Kh (show TabOk L.length f from hf▸Fi hk n);have rI:=Kh (λT B W (h:WorldAt W T B n wt L f) (hB:B<=W.heap.size) i j (hj:j<L.length) (g:M4) (hg:P5 g)=>gU▸Vy T B n wt L f i j g.1 g.2.1 g.2.2.1 g.2.2.2 W h hB h0 hn lB hj (by omega) oI mU.1 (by have:=hg.1;omega) (by have:=hg.1;omega) (by have:=hg.2.1;omega) (by have:=hg.2.1;omega) (by have:=hg.2.2.1;omega) (by have:=hg.2.2.1;omega) (by have:=hg.2.2.2;omega) (by have:=hg.2.2.2;omega));have oB:=Kh (λT B W (h:WorldAt W T B n wt L f)=>gU▸Jv T B n wt L f W h lB (by omega));have oA:=Kh gU;have uH:=W9 C (by omega);clear hT pE hk hL gU hf oI;go_enter func47,ntmps47
 go_wp2_with fail
 obtain⟨w0,pN,X0,X1,lQ⟩:=bx2 w #[.int .i64 n,.int .i64 ((wt:Int)+2),.int .i64 D] 23 #[.int .i64 0,.int .i64 0,.slice none 0 0] 99;rw[pN];refine(mR.1 w0 lQ).mono ?_;rintro e w1 ⟨⟨T,rfl,pR⟩,nD⟩;have lN:=Kh (X1.below_ nD X1.lt);have lG:=Kh (lQ.trans (nD.mono lQ.size));have mV:=Kh pR;obtain⟨gr,aJ⟩:∃x,w.heap.size+1=x:=⟨_,rfl⟩
 have rA:=Kh aJ;rw[aJ]at lN ⊢;clear pN X0 X1 lQ nD pR mR aJ;go_wp2_with fail
 obtain⟨w2,pO,Y0,Y1,Y2,lR⟩:=Rw w1 #[.int .i64 0,.int .i64 (-1),.int .i64 1,.int .i64 0] 63 #[.int .i64 0,.int .i64 (-1),.int .i64 1,.int .i64 (-1)] 63 #[.int .i64 (-1),.int .i64 1,.int .i64 (-1),.int .i64 0] 63;rw[pO];refine(oB.1 T w1.heap.size w2 (mV.1.keep (kT _) lR)).mono ?_;rintro e w3 ⟨rfl,m1,rfl⟩;have U:Below w2.heap.size w2 (w2.drewN m1):=Aa (Below.refl _ _) m1;generalize w2.drewN m1=w3 at U ⊢;have cB:=Kh (Y0.below_ U Y0.lt);have cC:=Kh (Y1.below_ U Y1.lt);have cD:=Kh (Y2.below_ U Y2.lt);have aT:=Kh (lR.trans (U.mono lR.size));obtain⟨C2,nC⟩:∃x,2*C=x:=⟨_,rfl⟩
 have e2:(2:Int)*(C:Int)=(C2:Nat):=by rw[<-nC];push_cast;rfl
 have v2:IntKind.i64.wrap (C2:Int)=(C2:Nat):=IntWalk.i64_in _ (by omega);have qU:=Kh nC;obtain⟨ga,hM⟩:∃x,w1.heap.size=x:=⟨_,rfl⟩
 obtain⟨gb,lV⟩:∃x,ga+1=x:=⟨_,rfl⟩
 obtain⟨gc,nH⟩:∃x,gb+1=x:=⟨_,rfl⟩
 have bY:=Kh hM;rw[hM,lV,nH]at cD;rw[hM,lV]at cC;rw[hM]at cB aT;rw[hM,lV,nH];clear pO Y0 Y1 Y2 lR U nC hM lV nH;go_upto_region 9 with(fail)
 obtain⟨w4,pP,Z0,hW⟩:=bx1 w3 #[.int .i64 C2,.int .i64 C,.slice none 0 0] 99;rw[pP];obtain⟨go,nI⟩:∃x,w3.heap.size=x:=⟨_,rfl⟩
 rw[nI]at Z0 ⊢;have oF:=Kh nI;have mX:=Kh Z0;have mO:=Kh (aT.1.trans (hW.mono (by have h1:=aT.1.size;have h2:=bY.1;omega)));have cB:=Kh (bk cB hW);have cC:=Kh (bk cC hW);have cD:=Kh (bk cD hW);clear pP Z0 hW nI;obtain⟨w5,nN⟩:∃w5,w4.alloc (.cells #[.int .i64 0,.int .i64 (-1),.int .i64 1,.int .i64 0] 63)=w5:=⟨_,rfl⟩
 have aD:Below w4.heap.size w4 w5:=nN▸(Below.refl _ _).alloc (kT _) _;have sW:=cB.1.at_ 0 rfl;have sX:=cB.1.at_ 1 rfl;have sY:=cB.1.at_ 2 rfl;have sZ:=cB.1.at_ 3 rfl;have qC:=(bk cC aD).at_ 0 rfl;have qD:=(bk cC aD).at_ 1 rfl;have qE:=(bk cC aD).at_ 2 rfl;have qF:=(bk cC aD).at_ 3 rfl;have qG:=(bk cD aD).at_ 0 rfl;have qH:=(bk cD aD).at_ 1 rfl;have qI:=(bk cD aD).at_ 2 rfl;have qJ:=(bk cD aD).at_ 3 rfl;rw[<-nN]at qC qD qE qF qG qH qI qJ;clear nN aD;go_wp2_with fail
 have sP:(#[.slice (some ⟨w4.heap.size,0,none⟩) 1 1,.slice (some ⟨w4.heap.size+1,0,none⟩) 2 2]:Array Value)=#[.slice (some ⟨w4.heap.size,0,none⟩) 1 1,.slice (some ⟨w4.heap.size+1,0,none⟩) 2 2]:=rfl;obtain⟨wB,pQ,U0,U1,U2,hE⟩:=Rw w4 #[.int .i64 0,.int .i64 (-1),.int .i64 1,.int .i64 0] 63 #[.int .i64 0,.int .i64 (-1),.int .i64 1,.int .i64 (-1),.int .i64 (-1),.int .i64 1,.int .i64 (-1),.int .i64 0] 63 #[.slice (some ⟨w4.heap.size,0,none⟩) 1 1,.slice (some ⟨w4.heap.size+1,0,none⟩) 2 2] 113;rw[pQ];obtain⟨s9,hN⟩:∃x,w4.heap.size=x:=⟨_,rfl⟩
 obtain⟨s2,lZ⟩:∃x,s9+1=x:=⟨_,rfl⟩
 obtain⟨s3,nM⟩:∃x,s2+1=x:=⟨_,rfl⟩
 have tI:go<s9:=by rw[<-hN];exact mX.1.lt
 rw[hN,lZ,nM]at U2;rw[hN,lZ]at U1;rw[hN]at U0;rw[hN,lZ,nM];have rH:=Kh (λq hq=>aO wB s9 s2 s3 U0 U1 U2 q hq);have hV:=Kh (bk mX hE);have lH:=Kh (mO.1.trans (hE.mono (by have h1:=mO.1.size;have h2:=bY.1;omega)));have rT:=Kh (show WorldAt wB T ga n wt L f from bY.1▸mV.1.keep (kT _) (bY.1▸lH.1));have oD:=Kh (show s3<wB.heap.size from U2.lt);have cX:=Kh (show ga<=go by have h1:=aT.1.size;have h2:=bY.1;have h3:=oF.1;omega);have oL:=Kh (show s3≠go/\s9≠go/\s2≠go by omega)
 have bC:=Kh (show gr<ga/\Blk wB gr 99 #[.int .i64 0,.int .i64 0,.slice none 0 0]by
  have h1:gr<ga:=by have:=lN.1.lt;have:=bY.1;omega
  exact⟨h1,lN.1.below_ lH.1 h1⟩)
 obtain⟨GB,lP⟩:∃x,wB.heap.size=x:=⟨_,rfl⟩
 have lI:=Kh lP;rw[lP]at oD;obtain⟨F,hF⟩:∃F:Nat->Int,(λp=>Kr n wt L f (p / C) (p % C))=F:=⟨_,rfl⟩
 have HF:=Kh (show ∀q r j,q<2->r<C->j<C->F ((q*C+r)*C+j)=F5 n wt L f r (Db q) (Db q).length j by
  intro q r j h1 h2 h3;rw[<-hF];dsimp only;rw[show((q*C+r)*C+j) / C=q*C+r by rw[Nat.mul_comm,Nat.mul_add_div nB,Nat.div_eq_of_lt h3,Nat.add_zero],show((q*C+r)*C+j) % C=j by rw[Nat.mul_comm,Nat.mul_add_mod,Nat.mod_eq_of_lt h3],<-oA.1];exact Ye j h1 (by rw[oA.1];exact h2))
 have oN:=Kh (show OutAt F wB go GB C2 C (0*C*C)from
  ⟨by have:=oD.1;omega,Nat.le_of_eq lP.symm,hV.1.at_ 0 rfl,hV.1.at_ 1 rfl,⟨none,0,by rw[Nat.zero_mul,Nat.zero_mul];exact hV.1.at_ 2 rfl,by rw[Nat.zero_mul,Nat.zero_mul];exact OwnZ.nil _ _ _⟩,hV.1.free_ 2,Stk.of hV.1 (by intro v hv;simp at hv;rcases hv with rfl|rfl|rfl <;> exact λ_ h=>by cases h)⟩)
 have qX:=Kh hF;have rR:=Kh (λr q t k (ht:t<=2)=>(show(F5 n wt L f r (Db q) t k).natAbs<=1+t*4194304 from Re mU.1 (Sc q) lB t k));have rS:=Kh (λI J (g:M4) (hg:P5 g) k=>(show(L8 n wt L f I J g k).natAbs<=4194304 from kU (Ed mU.1 (by have:=hg.1;have:=hg.2.1;omega) (by have:=hg.2.2.1;have:=hg.2.2.2;omega) k) (kU (Nat.pow_le_pow_right (by decide) lB) (by decide))));have oG:=Kh (λq=>O6 q);clear U0 U1 U2 hE hN lZ nM pQ sP lP hF sW sX sY sZ qC qD qE qF qG qH qI qJ cB cC cD mX mO aT lN mV oB oF e2 v2;go_loopw [45] (λii wr=>∃q:Nat,q<=2/\ii=.int .i64 q/\OutAt F wr go GB C2 C (q*C*C)/\wB.grownBy wr (some go)) (λii _=>2 - (intOf ii).toNat)
 case atStart=>exact⟨0,Nat.zero_le _,rfl,oN.1,Af go (Below.refl _ _)⟩
 case round=>
  obtain⟨q,hq,rfl,cG,aJ⟩:=hrel;obtain⟨wa,rfl⟩:∃wa:World,wa=wr:=⟨_,rfl⟩
  have gP:=Kh cG;have O:=Kh aJ;clear cG aJ oN;by_cases hq2:q<2
  ·have uJ:(q:Int)<2:=by omega
   obtain⟨SL,oZ,l0,pK⟩:=rH.1 q hq2;have pA:SL≠go:=by have:=oL.1;rcases oZ with rfl|rfl <;> omega
   have oJ:=Kh pK;have l1:=O.1.cell l0 (λe=>by injection e with e;exact oL.1.1 e);obtain⟨ln,lX⟩:∃x,(Db q).length=x:=⟨_,rfl⟩
   have uG:ln<=2:=lX▸oG.1 q;rw[lX]at l1 oJ;have rF:=Kh lX;clear l0 pK oZ lX;go_wp2_with fail
   have oO:=Kh (show OutAt F wa go GB C2 C ((q*C+0)*C)from gP.1);go_loopw [13] (λii wr=>∃r:Nat,r<=C/\ii=.int .i64 r/\OutAt F wr go GB C2 C ((q*C+r)*C)/\wB.grownBy wr (some go)) (λii _=>C - (intOf ii).toNat)
   case atStart=>exact⟨0,Nat.zero_le _,rfl,oO.1,O.1⟩
   case round=>
    obtain⟨r,hr,rfl,cG,aJ⟩:=hrel;obtain⟨wx,rfl⟩:∃wx:World,wx=wr:=⟨_,rfl⟩
    have gS:=Kh cG;have lJ:=Kh aJ;clear cG aJ oO gP O l1;by_cases hrC:r<C
    ·have uK:(r:Int)<(C:Int):=by omega
     go_wp2_with fail
     have lY:=ZRow.made (λ_=>0) wx C;obtain⟨wz,nO⟩:∃wz,wx.alloc (.cells (madeCells #[.bool false,.slice none 0 0] (C*2)) 84)=wz:=⟨_,rfl⟩
     have nG:Below wx.heap.size wx wz:=nO▸(Below.refl _ _).alloc (kT _) _;rw[nO]at lY ⊢;obtain⟨G,hG⟩:∃g,wx.heap.size=g:=⟨_,rfl⟩
     rw[hG]at lY nG ⊢;have oQ:=Kh lY;have nZ:=Kh nG;have mH:=Kh hG;have hS:=Kh (show GB<=G by have:=gS.1.hB;omega);clear lY nG nO hG;go_loopw [58] (λii wr=>∃k:Nat,k<=C/\ii=.int .i64 k/\ZRow (λ_=>0) wr G C k/\Below G wx wr) (λii _=>C - (intOf ii).toNat)
     case atStart=>exact⟨0,Nat.zero_le _,rfl,oQ.1,nZ.1⟩
     case round=>
      obtain⟨k,hk,rfl,Z,iL⟩:=hrel;obtain⟨w2,rfl⟩:∃w2:World,w2=wr:=⟨_,rfl⟩
      have H:=Kh Z;have bA:=Kh iL;clear Z iL oQ nZ;by_cases hlt:k<C
      ·have sM:(k:Int)<(C:Int):=by omega
       go_wp2_with fail
       refine(Gc 0 w2 (by omega) (by omega)).mono ?_;rintro e w3 ⟨⟨pX,p3,n3,c3,rfl,lC⟩,U⟩;have V:=ZRow.keep H.1 U;have lL:=Kh (ZRow.set (k':=k+1) V k hlt (λ_=>0) (λi' h1 h2=>⟨by omega,rfl⟩) lC);have aT:=Kh (bA.1.trans (U.mono (Nat.le_of_lt H.1.sts.1)));obtain⟨u0,sO⟩:=kX (V.has (k*2) (by omega));obtain⟨u2,hu2⟩:=kX (V.has (k*2+1) (by omega));have f0:=V.free (k*2) (by omega);have f1:=V.free (k*2+1) (by omega);clear lC U V;go_wp2;go_roundw
       case rel=>exact⟨k+1,by omega,by go_num,lL.1,Cr aT.1 (kT _)⟩
       case measure=>simp[intOf];omega
      ·obtain rfl:C=k:=by omega
       go_wp2_with fail
       refine(Gc 1 w2 (by omega) (by omega)).mono ?_;rintro e w3 ⟨⟨pX,p3,n3,c3,rfl,lC⟩,U⟩;have V:=ZRow.keep H.1 U;have lL:=Kh (ZRow.set (k':=C) V r hrC (F5 n wt L f r (Db q) 0) (λi' h1 h2=>⟨h1,by unfold F5;rw[if_neg h2]⟩) (by unfold F5;rw[if_pos rfl];exact lC));have aT:=Kh (bA.1.trans (U.mono (Nat.le_of_lt H.1.sts.1)));obtain⟨u0,sO⟩:=kX (V.has (r*2) (by omega));obtain⟨u2,hu2⟩:=kX (V.has (r*2+1) (by omega));have f0:=V.free (r*2) (by omega);have f1:=V.free (r*2+1) (by omega);have nX:=Kh (Cr (v0:=.bool pX) (v1:=.slice p3 n3 c3) (i:=r*2) (j:=r*2+1) aT.1 (kT G));clear lC U V H bA aT;go_wp2_with fail
       go_loopw [72] (λii wr=>∃t:Nat,t<=ln/\ii=.int .i64 t/\ZRow (F5 n wt L f r (Db q) t) wr G C C/\Below G wx wr) (λii _=>ln - (intOf ii).toNat)
       case atStart=>exact⟨0,Nat.zero_le _,rfl,lL.1,nX.1⟩
       case round=>
        obtain⟨t,ht,rfl,Z,iL⟩:=hrel;obtain⟨aK,rfl⟩:∃aK:World,aK=wr:=⟨_,rfl⟩
        have H:=Kh Z;have bA:=Kh iL;clear Z iL lL nX;by_cases htl:t<ln
        ·have uM:(t:Int)<(ln:Int):=by omega
         obtain⟨⟨a,b,c,d⟩,hg⟩:∃g:M4,(Db q).getD t (0,0,0,0)=g:=⟨_,rfl⟩
         have nK:P5 (a,b,c,d):=hg▸Sc q t;obtain⟨m0,m1,m2,m3⟩:=oJ.1 t htl;rw[hg]at m0 m1 m2 m3;dsimp only at m0 m1 m2 m3
         have kY:∀i v,wB.cell? ⟨SL,i,none⟩=some v->aK.cell? ⟨SL,i,none⟩=some v:=λi v e=>by
          have h1:=World.block_lt_of_cell? wB ⟨SL,i,none⟩ e;have h2:=lJ.1.cell e (λe=>by injection e with e;exact pA e);exact(bA.1.cell (p:=⟨SL,i,none⟩) (by have:=lI.1;have:=hS.1;show SL<G;have h3:SL<wB.heap.size:=h1;omega)).trans h2
         have m0:=kY _ _ m0;have m1:=kY _ _ m1;have m2:=kY _ _ m2;have m3:=kY _ _ m3;have oT:=Kh (show ∀W,Below G wx W->WorldAt W T ga n wt L f from λW hb=>rT.1.next ((An (Below.refl ga wB) lJ.1 (by have:=lI.1;have:=cX.1;have:=gS.1.lt;omega) cX.1).trans (hb.mono (by have:=cX.1;have:=gS.1.lt;have:=hS.1;omega))) (kT _));obtain⟨pl,cl,t2,_⟩:=(oT.1 aK bA.1).c2;obtain⟨I,hI⟩:∃x,r / L.length=x:=⟨_,rfl⟩
         obtain⟨J,hJ⟩:∃x,r % L.length=x:=⟨_,rfl⟩
         have sG:J<L.length:=by rw[<-hJ];exact Nat.mod_lt _ sI
         have uD:I<=72:=by rw[<-hI];exact kU (Nat.div_le_self _ _) (by omega)
         have e1:Int.tdiv (r:Int) (L.length:Int)=(I:Nat):=by rw[Int.tdiv_eq_ediv_of_nonneg (by omega),<-hI];rfl
         have e2:Int.tmod (r:Int) (L.length:Int)=(J:Nat):=by rw[Int.tmod_eq_emod_of_nonneg (by omega),<-hJ];rfl
         have e3:((L.length:Int)==0)=false:=beq_eq_false_iff_ne.2 (by omega);have e4:L.length≠0:=by omega
         have v1:IntKind.i64.wrap (I:Int)=(I:Nat):=IntWalk.i64_in _ (by omega);have v2:IntKind.i64.wrap (J:Int)=(J:Nat):=IntWalk.i64_in _ (by omega);obtain⟨Fr,lO⟩:∃Fr:Nat->Int,F5 n wt L f r (Db q) t=Fr:=⟨_,rfl⟩
         obtain⟨Y,hY⟩:∃Y:Nat->Int,L8 n wt L f I J (a,b,c,d)=Y:=⟨_,rfl⟩
         have rN:=Kh (show ∀j,F5 n wt L f r (Db q) (t+1) j=Fr j+Y j from λj=>by rw[F5,hg,hI,hJ,lO,hY]);have oK:=Kh (λW (hb:Below G wx W)=>hY▸rI.1 T ga W (oT.1 W hb) (by have h1:=cX.1;have h2:=gS.1.lt;have h3:=hS.1;have h4:=mH.1;have h5:=hb.size;omega) I J sG (a,b,c,d) nK);have rP:=Kh (show ∀k,(Fr k).natAbs<=20000000 from λk=>by have h:=rR.1 r q t k (by omega);rw[lO]at h;have:t*4194304<=2*4194304:=Nat.mul_le_mul_right _ (by omega);omega);have oS:=Kh (show ∀k,(Y k).natAbs<=20000000 from λk=>by have h:=rS.1 I J (a,b,c,d) nK k;rw[hY]at h;omega);have dY:=Kh (show ZRow Fr aK G C C from lO▸H.1);clear nK kY hI hJ lO hY hg H;go_wp2_with fail
         obtain⟨we,mB⟩:∃we,aK.alloc (.cells #[.int .i64 a,.int .i64 b,.int .i64 c,.int .i64 d] 63)=we:=⟨_,rfl⟩
         have lU:Below aK.heap.size aK we:=mB▸(Below.refl _ _).alloc (kT _) _;have X:=mB▸Blk.new aK 63 #[.int .i64 a,.int .i64 b,.int .i64 c,.int .i64 d];rw[mB];obtain⟨gx,pH⟩:∃gx,aK.heap.size=gx:=⟨_,rfl⟩
         have hR:=Kh (bA.1.trans (lU.mono (Nat.le_of_lt dY.1.sts.1)));have dE:=Kh (ZRow.keep dY.1 lU);have t2:=Ac lU t2;rw[pH]at X ⊢;have x0:=X.at_ 0 rfl;have x1:=X.at_ 1 rfl;have x2:=X.at_ 2 rfl;have x3:=X.at_ 3 rfl;have mT:=Kh (show ∀W,Below we.heap.size we W->(W.cell? ⟨T,2,none⟩=some (.slice pl L.length cl)/\W.cell? ⟨gx,0,none⟩=some (.int .i64 a)/\W.cell? ⟨gx,1,none⟩=some (.int .i64 b)/\W.cell? ⟨gx,2,none⟩=some (.int .i64 c)/\W.cell? ⟨gx,3,none⟩=some (.int .i64 d))from λW hb=>⟨Ac hb t2,Ac hb x0,Ac hb x1,Ac hb x2,Ac hb x3⟩);have oY:=mT.1 _ (Below.refl _ we).drew;have rE:=Kh (show ∀wb,Below we.drew.heap.size we.drew wb->Below we.heap.size we wb from λwb hb=>(Below.refl _ we).drew.trans hb);have mI:=Kh (oK.1 we.drew hR.1.drew);clear mB lU X pH m0 m1 m2 m3 bA dY;go_upto_region 25 with(fail)
         go_region_held3 (λW=>W.cell? ⟨T,2,none⟩=some (.slice pl L.length cl)/\W.cell? ⟨gx,0,none⟩=some (.int .i64 a)/\W.cell? ⟨gx,1,none⟩=some (.int .i64 b)/\W.cell? ⟨gx,2,none⟩=some (.int .i64 c)/\W.cell? ⟨gx,3,none⟩=some (.int .i64 d))
          (first|with_reducible exact oY|with_reducible exact mT.1 _ nE |(exfalso;assumption))
          (first
           |(go_at_call 93;(with_reducible refine mI.1.mono ?_);rintro e w5 ⟨⟨gm,rfl,pF,mK⟩,aD⟩;have nE:Below we.heap.size we w5:=rE.1 _ aD;have qZ:=Kh (show we.heap.size<=gm from pF);have oR:=Kh mK;clear pF mK))
         have nW:=Kh nE;clear aD nE mT oY t2 x0 x1 x2 x3 mI;have dC:=Kh (ZRow.keep dE.1 nW.1);have nY:=Kh (hR.1.trans (nW.1.mono (Nat.le_of_lt dE.1.sts.1)));have oE:=Kh (show gm≠G by have h1:=dE.1.sts.1;have h2:=qZ.1;omega);have hU:=Kh (show ZRow (E5 Fr Y 0) w5 G C C from ZRow.congr dC.1 (λj _=>(Tp Fr Y j).symm));go_wp2_with fail
         go_loopw [94] (λii wr=>∃k:Nat,k<=C/\ii=.int .i64 k/\ZRow (E5 Fr Y k) wr G C C/\w5.grownBy wr (some G)) (λii _=>C - (intOf ii).toNat)
         case atStart=>exact⟨0,Nat.zero_le _,rfl,hU.1,Af G (Below.refl _ _)⟩
         case round=>
          obtain⟨k,hk,rfl,Z,aJ⟩:=hrel;obtain⟨w6,rfl⟩:∃w6:World,w6=wr:=⟨_,rfl⟩
          have bB:=Kh Z;have gN:=Kh aJ;clear Z aJ hU;by_cases hlt:k<C
          ·have sM:(k:Int)<(C:Int):=by omega
           obtain⟨s,p,n5,c5,a0,a1,hz⟩:=ZE.but dC.1.sts gN.1 oE.1 (oR.1.val k hlt);have HZ:=Kh hz;clear hz;go_wp2_with fail
           obtain⟨w7,mA⟩:∃w7,w6.alloc (.cells #[.bool s,.slice p n5 c5] 84)=w7:=⟨_,rfl⟩
           have lS:Below w6.heap.size w6 w7:=mA▸(Below.refl _ _).alloc (kT _) _;have X:=mA▸Blk.new w6 84 #[.bool s,.slice p n5 c5];rw[mA];obtain⟨gy,pI⟩:∃gy,w6.heap.size=gy:=⟨_,rfl⟩
           have oH:=Kh (show gy≠G by have h1:=bB.1.sts.1;omega);rw[pI]at X ⊢;have mY:=Kh (HZ.1.keep lS);have oM:=Kh (show n5<=10 by rw[<-HZ.1.2.1];exact kU (Pe (by have:=oS.1 k;omega)) (by omega));refine(Ht s p n5 c5 (Y k) w7 mY.1.raw (by have:=oM.1;omega)).mono ?_;rintro e w8 ⟨rfl,lT⟩;have hZ:=lS.trans (lT.mono lS.size);have aL:=Kh (ZRow.keep bB.1 hZ);have mG:=Kh (gN.1.trans (Af G hZ));have mW:=Kh (X.below_ lT X.lt);have rV:=Kh (mY.1.keep lT);clear mA lS X pI lT hZ a0 a1 bB gN HZ mY;by_cases hz0:Y k=0
           ·have sN:(Int.sign (Y k) != 0)=false:=by rw[hz0];rfl
            have rQ:=Kh (show ZRow (E5 Fr Y (k+1)) w8 G C C from ZRow.congr aL.1 (λj _=>To hz0 j));clear hz0;go_wp2;go_roundw
            case rel=>exact⟨k+1,by omega,by go_num,rQ.1,mG.1⟩
            case measure=>simp[intOf];omega
           ·have sN:(Int.sign (Y k) != 0)=true:=by
             have h:Int.sign (Y k)≠0:=λe=>hz0 (Int.sign_eq_zero_iff_zero.1 e)
             simpa using h
            obtain⟨s5,p5,n6,c6,f0,f1,mC⟩:=aL.1.val k hlt;rw[Rs]at mC;have qW:=Kh mC;have rJ:=Kh (show n6<=10 by rw[<-mC.2.1];exact kU (Pe (by have:=rP.1 k;omega)) (by omega));have tJ:=oH.1;have x0:=mW.1.at_ 0 rfl;have x1:=mW.1.at_ 1 rfl;have uC:G<w8.heap.size:=aL.1.sts.1;have uF:gy<w8.heap.size:=mW.1.lt;have nL:=aL.1;clear hz0 mC;go_upto_region 29 with(fail)
            refine K6 (λW=>W.cell? ⟨gy,0,none⟩=some (.bool s)/\W.cell? ⟨gy,1,none⟩=some (.slice p n5 c5)/\W.cell? ⟨G,k*2,none⟩=some (.bool s5)/\W.frozen? ⟨G,k*2,none⟩=false/\W.cell? ⟨G,k*2+1,none⟩=some (.slice p5 n6 c6)/\W.frozen? ⟨G,k*2+1,none⟩=false) (λW hb=>⟨Au hb x0,Au hb x1,Au hb f0,Ab hb (by rw[f0];rfl) (nL.free (k*2) (by omega)),Au hb f1,Ab hb (by rw[f1];rfl) (nL.free (k*2+1) (by omega))⟩) (λrO hHeld0=>?_);clear x0 x1 f0 f1 nL;refine Al 0 ?_;refine Al 1 ?_;refine Al 2 ?_;refine Al 3 ?_;refine Al 4 ?_;refine Al 5 ?_;refine Al 6 ?_;refine F9 7 rfl (λK hK=>?_);focus(go_simp;refine(Rx s5 p5 n6 c6 (Fr k) s p n5 c5 (Y k) _ (qW.1.keep (Below.refl _ w8).drew).raw (rV.1.keep (Below.refl _ w8).drew).raw (by have:=rJ.1;omega) (by have:=oM.1;omega)).mono ?_;rintro e w9 ⟨⟨s6,p6,n7,c7,rfl,pS⟩,hE⟩;have mP:=Kh ((Below.refl _ w8).drew.trans hE:Below w8.heap.size w8 w9);have pL:=ZRow.keep aL.1 mP.1;have oP:=Kh (ZRow.set (k':=C) pL k hlt (E5 Fr Y (k+1)) (λi h1 h2=>⟨h1,N7 h2⟩) (by rw[N8];exact pS));have mS:=Kh (show ∀v0 v1,w5.grownBy ((w9.setCell ⟨G,k*2,none⟩ v0).setCell ⟨G,k*2+1,none⟩ v1) (some G)from λ_ _=>(mG.1.trans (Af G mP.1)).trans (Jq w9 G _ _ _ _));clear pS hE pL;(first|with_reducible refine hK.out _ _ ?_ (λhHeld1=>?_) |(go_wp2_with fail;with_reducible refine hK.out _ _ ?_ (λhHeld1=>?_))))
            focus((try dsimp only);exact rO.1 _ mP.1)
            focus(clear hK K;(try simp only[Act.put,Br,Bt,Bs]))
            refine Al 8 ?_;refine K5 9 rfl (λK hK=>?_);go_simp
            refine hK.out _ _ ?_;clear hK K
            (try simp only[Act.put,Br,Bt,Bs])
            all_goals go_wp2
            all_goals go_roundw
            all_goals first
             | exact⟨k+1,by omega,by go_num,oP.1,mS.1 _ _⟩
             |(simp[intOf];omega)
          ·obtain rfl:C=k:=by omega
           have rM:=Kh (show ZRow (F5 n wt L f r (Db q) (t+1)) w6 G C C from ZRow.congr bB.1 (λj hj=>by rw[Tn hj,rN.1]));have qT:=Kh (show Below G wx w6 from An nY.1 gN.1 (Nat.le_of_lt dC.1.sts.1) (kT _));go_wp2;go_roundw
           case rel=>exact⟨t+1,by omega,by go_num,rM.1,qT.1⟩
           case measure=>simp[intOf];omega
        ·obtain rfl:ln=t:=by omega
         have nF:Below wx.heap.size wx aK:=mH.1▸bA.1;have lK:=Kh (gS.1.keep nF);have rB:=Kh (lJ.1.trans (Af go nF));obtain⟨p,c,g2,xs,hK,hX⟩:=lK.1.c2;obtain⟨m,hm⟩:∃x,(q*C+r)*C=x:=⟨_,rfl⟩
         have uI:m<=20000:=by
          rw[<-hm];have h1:q*C<=1*72:=Nat.mul_le_mul (by omega) hC;exact kU (Nat.mul_le_mul (by omega:q*C+r<=144) hC) (by decide)
         rw[hm]at g2 hK hX lK;have rG:=Kh (show m+C=(q*C+(r+1))*C by rw[<-hm,<-Nat.add_assoc,Nat.add_mul _ 1 C,Nat.one_mul]);have HK:=Kh hK;have HX:=Kh hX;have qY:=Kh g2;have qV:=Kh (show ∀j,j<C->F (m+j)=F5 n wt L f r (Db q) ln j from λj hj=>by rw[<-hm,HF.1 q r j hq2 hrC hj,rF.1]);clear nF hK hX hm;go_wp2_with (at_builtin;refine K3 NotInt rfl (.tmp 114) (.tmp 115) _ 84 rfl underlying97 Vh rfl (by decide) GB m C G C (.slice p m c) xs (Ax aK G (C*2)) rfl HK.1 rfl (Ce _ _ _) (Ld H.1) (Nv H.1) (by omega) (by omega) nB lK.1.hB (Po H.1) kG ?_;intro v' w9 eP kZ pB;obtain⟨p',c',rfl⟩:=Bf eP.1;obtain⟨d2,df,oW⟩:=OutAt.more lK.1 qY.1 HK.1 HX.1 H.1 eP kZ qV.1;have rK:=Kh oW;have mS:=Kh ((Hz rB.1 kZ lI.1.symm (λb hb=>Ch HK.1.1 hb.symm)).trans (Ai w9 go 2 (.slice p' (m+C) c')));clear oW eP kZ pB g2)
         go_roundw
         case rel=>exact⟨r+1,by omega,by go_num,by rw[<-rG.1];exact rK.1,mS.1⟩
         case measure=>simp[intOf];omega
    ·obtain rfl:C=r:=by omega
     have rL:=Kh (show OutAt F wx go GB C2 C ((q+1)*C*C)by
      have e:(q+1)*C=q*C+C:=by rw[Nat.add_mul,Nat.one_mul]
      rw[e];exact gS.1)
     go_wp2;go_roundw
     case rel=>exact⟨q+1,by omega,by go_num,rL.1,lJ.1⟩
     case measure=>simp[intOf];omega
  ·obtain rfl:q=2:=by omega
   obtain⟨p,c,g2,oX⟩:=gP.1.c2;obtain⟨gA,cA,hv,pC,pD,sL,_,pT⟩:=oX.ret (Nat.mul_pos (by omega) nB);have lW:gr≠go:=by have:=bC.1.1;have:=cX.1;omega
   have pG:gr<GB:=by have:=bC.1.1;have:=cX.1;have:=gP.1.lt;omega
   have cF:=O.1.block gr (by rw[lI.1];exact pG) (λe=>by injection e with e;exact lW e);have r0:=O.1.cell (bC.1.2.at_ 0 rfl) (λe=>by injection e with e;exact lW e);have r1:=O.1.cell (bC.1.2.at_ 1 rfl) (λe=>by injection e with e;exact lW e);have r2:=O.1.cell (bC.1.2.at_ 2 rfl) (λe=>by injection e with e;exact lW e);have f0:wa.frozen? ⟨gr,0,none⟩=false:=(World.frozen?_of_block (a:=⟨gr,0,none⟩) cF).trans (bC.1.2.free_ 0);have f1:wa.frozen? ⟨gr,1,none⟩=false:=(World.frozen?_of_block (a:=⟨gr,1,none⟩) cF).trans (bC.1.2.free_ 1);have f2:wa.frozen? ⟨gr,2,none⟩=false:=(World.frozen?_of_block (a:=⟨gr,2,none⟩) cF).trans (bC.1.2.free_ 2);have lA:Stk NotU32 wB gr:=Stk.of bC.1.2 (by intro v hv;simp at hv;rcases hv with rfl|rfl|rfl <;> exact λ_ h=>by cases h);have pM:Stk NotU32 wa gr:=⟨kV lA.1 O.1.size,λi u hu=>lA.2 i u ((World.cell?_of_block (a:=⟨gr,i,none⟩) cF).symm.trans hu)⟩
   have a0:=gP.1.c0;have a1:=gP.1.c1;rw[hv]at g2;have mQ:=Kh (C1 (w:=wa) (R:=gr) (v0:=.int .i64 (C2:Int)) (v1:=.int .i64 (C:Int)) (v2:=.slice (some ⟨gA,0,none⟩) (2*C*C) cA) (by rw[r0];rfl) (by rw[r1];rfl) (by rw[r2];rfl));have rC:=Kh (Hi pM (v0:=.int .i64 (C2:Int)) (v1:=.int .i64 (C:Int)) (v2:=.slice (some ⟨gA,0,none⟩) (2*C*C) cA) (λ_ h=>by cases h) (λ_ h=>by cases h));have oC:=Kh (((Ai wa gr 0 (.int .i64 (C2:Int))).trans (Ai _ gr 1 (.int .i64 (C:Int)))).trans (Ai _ gr 2 (.slice (some ⟨gA,0,none⟩) (2*C*C) cA)));have lM:=Kh (show gA<wa.heap.size/\gA≠gr/\(∀j,j<2*C*C->ZE (F j) wa gA (j*2))/\2*C*C<=cA/\cA<=9223372036854775807 from⟨by assumption,by omega,pT,pC,pD⟩);have hR:=Kh (show Below w.heap.size w wa from An (lG.1.trans (lH.1.mono (by have h1:=lG.1.size;have h2:=bY.1;omega))) O.1 (by have h1:=lG.1.size;have h2:=lH.1.size;omega) (by have h1:=lG.1.size;have h2:=bY.1;have h3:=cX.1;omega));clear oX hv pC pD sL pT cF lA pM;go_wp2;have e0:=mQ.1.1;have e1:=mQ.1.2.1;have e2:=mQ.1.2.2;try simp only[Exit.inBlock,Exit.then]
   refine bodyPost_ret (by simp[results,results47,go_sem,e0,e1,e2];try rfl) rfl ?_;refine⟨⟨gA,0,cA,by rw[qU.1],by simpa using lM.1.1,λj hj=>?_,lM.1.2.2.2⟩,?_⟩
   ·rw[qX.1,Nat.zero_add];exact(lM.1.2.2.1 j hj).but32 rC.1 oC.1 lM.1.2.1
   ·exact An hR.1 oC.1 hR.1.size (by have:=rA.1;omega)
end Go.Proofs.YtenlbhlllgppmaaGreatDoor
namespace Go.Proofs.YtenlbhlllgppmaaGreatDoor
open Tryz
open Go.RowKit Eli
theorem Yg {P:Program} (K:Value->Prop) (W:World) (t ty E:TypeId) {z:Value} {U I:Nat} (hU:P.underlying t=some (.slice E))
  (Y:(P.info? E).map (λi=>(i.zero,i.size,i.bytes))=some (some z,U,I)) (aN:z.cells.size=U) (aD:0<U) (B n m g c:Nat) (v:Value) (xs H:List Value)
  (J:OwnK K W B E U v n xs) (hn:H.length=m*U) (V:∀(j:Nat) (u:Value),H[j]?=some u->W.cell? ⟨g,j,none⟩=some u) (h1:∀u∈H,u.oneCell'=true)
  (hb:(n+m)*I<=140737488355328) (hm:n+m<=9223372036854775807) (hB:B<=W.heap.size) (bB:∀u∈H,K u) (bC:∀u∈z.cells.toList,K u):
  ∃v' w',(Builtin.append_ #[t,t] ty #[v,.slice (some ⟨g,0,none⟩) m c]).run P W=.ok v' w'/\OwnK K w' B E U v' (n+m) (xs++H)/\W.grownBy w' v.ownBlock:=by
 obtain⟨i0,hi,aJ,aK,aL⟩:=info_parts Y;rcases Nat.eq_zero_or_pos m with rfl|cA
 ·obtain rfl:H=[]:=List.eq_nil_of_length_eq_zero (by rw[hn,Nat.zero_mul])
  have Z:Src P i0.size t (.slice (some ⟨g,0,none⟩) 0 c) 0 [] W:=Src.ofSlice W hU _ 0 c [] (by simp) (λj u h=>by simp at h) (λu h=>by cases h)
  obtain⟨a,k,hv,bY⟩:∃a k,v=.slice a n k/\n<=k:=by
   rcases Dk J.1 with⟨rfl,rfl,_⟩ |⟨g',cap,rfl,_,_,hc⟩
   ·exact⟨none,0,rfl,kT _⟩
   ·exact⟨_,cap,rfl,hc⟩
  have hr:=run_append_nothing (P:=P) W t t ty E i0 hU hi a n k bY (.slice (some ⟨g,0,none⟩) 0 c) Z;rw[<-hv]at hr;exact⟨v,W,hr,by rw[List.append_nil,Nat.add_zero];exact J,⟨rfl,rfl,rfl,kT _,λ_ _ _=>rfl⟩⟩
 ·have O:∀(j:Nat) (u:Value),H[j]?=some u->W.cell? ((⟨g,0,none⟩:Addr).add j)=some u:=by
   intro j u hu
   have e:(⟨g,0,none⟩:Addr).add j=⟨g,j,none⟩:=by
    unfold Addr.add;split
    ·rename_i h0;rw[h0]
    ·simp
   rw[e];exact V j u hu
  obtain⟨v',w',hr,g1,g2,_,_⟩:=run_append_own_at (P:=P) W B t ty E i0 z U I hU hi aJ aK aL aN aD v n xs J.1 ⟨g,0,none⟩ m c H hn O h1 hm hb hB;have g4:=Ek K W B t ty E i0 z U I hU hi aJ aK aL aN aD v n xs J.1 ⟨g,0,none⟩ m c H hn O h1 hm hb cA J.2 bB bC hr;exact⟨v',w',hr,⟨g1,g4⟩,g2⟩
theorem QRow.cellOf {F:Nat->FP} {w:World} {g N:Nat} (h:QRow F w g N N) {i:Nat} (I:i<N*4):w.cell? ⟨g,i,none⟩=some (cellOf w ⟨g,i,none⟩):=by
 obtain⟨u,H⟩:=kX (h.has i I);rw[H,Ae H]
theorem QRow.shape {F:Nat->FP} {w:World} {g N:Nat} (h:QRow F w g N N) {u:Value} (Z:u∈Ax w g (N*4)):(∃s,u=.bool s)∨∃p n c,u=.slice p n c:=by
 obtain⟨i,H⟩:=List.getElem?_of_mem Z;have Y:=Dv H;rw[A9 Y]at H;injection H with H
 subst H;obtain⟨s,p,n,c,t,q,m,d,J,O,U,V,_⟩:=h.val (i / 4) (by omega);rcases(by omega:i % 4=0∨i % 4=1∨i % 4=2∨i % 4=3)with I|I|I|I
 ·rw[show i / 4*4=i by omega]at J
  exact .inl ⟨s,Ae J⟩
 ·rw[show i / 4*4+1=i by omega]at O
  exact .inr ⟨p,n,c,Ae O⟩
 ·rw[show i / 4*4+2=i by omega]at U
  exact .inl ⟨t,Ae U⟩
 ·rw[show i / 4*4+3=i by omega]at V
  exact .inr ⟨q,m,d,Ae V⟩
theorem QRow.one {F:Nat->FP} {w:World} {g N:Nat} (h:QRow F w g N N):∀u∈Ax w g (N*4),u.oneCell'=true:=by
 intro u H;rcases h.shape H with⟨s,rfl⟩ |⟨p,n,c,rfl⟩ <;> rfl
theorem QRow.ni {F:Nat->FP} {w:World} {g N:Nat} (h:QRow F w g N N):∀u∈Ax w g (N*4),NotInt u:=by
 intro u H;rcases h.shape H with⟨s,rfl⟩ |⟨p,n,c,rfl⟩
 ·exact NotInt.bool _
 ·exact NotInt.slice _ _ _
theorem QRow.cells {F:Nat->FP} {w:World} {g N:Nat} (h:QRow F w g N N):∀(j:Nat) (u:Value),(Ax w g (N*4))[j]?=some u->w.cell? ⟨g,j,none⟩=some u:=by
 intro j u H;have I:=Dv H;rw[A9 I]at H;rw[h.cellOf I,H]
theorem OwnQ.more {F R:Nat->FP} (hF:∀j,Bh (F j)) {W w':World} {B n m g:Nat} {v Y:Value} {J:List Value} (O:OwnK NotInt W B 86 4 v n J) (h:∀j,j<n->QX (F j) W J (j*4))
  (hr:QRow R W g m m) (h3:OwnK NotInt w' B 86 4 Y (n+m) (J++Ax W g (m*4))) (hg:W.grownBy w' v.ownBlock) (Z:∀j,j<m->F (n+j)=R j):OwnQ F w' B Y (n+m):=by
 have H:=I32.grown (K:=NotInt) (λx=>Fv x) O.2 hg;refine⟨_,h3,λj hj=>?_⟩;by_cases hjn:j<n
 ·exact((h j hjn).i32 (hF j) H).app
 ·obtain⟨k,rfl⟩:∃k,j=n+k:=⟨j - n,by omega⟩
  have U:k<m:=by omega
  have I:J.length=n*4:=O.1.1;obtain⟨s,p,c,d,t,q,e,f,c0,c1,c2,c3,V⟩:=hr.val k U;rw[<-Z k U]at V;refine⟨s,p,c,d,t,q,e,f,?_,?_,?_,?_,hF _ _ _ _ _ _ _ _ _ _ _ H V⟩
  ·rw[List.getElem?_append_right (by omega),I,show(n+k)*4 - n*4=k*4 by omega,A9 (by omega),Ae c0]
  ·rw[List.getElem?_append_right (by omega),I,show(n+k)*4+1 - n*4=k*4+1 by omega,A9 (by omega),Ae c1]
  ·rw[List.getElem?_append_right (by omega),I,show(n+k)*4+2 - n*4=k*4+2 by omega,A9 (by omega),Ae c2]
  ·rw[List.getElem?_append_right (by omega),I,show(n+k)*4+3 - n*4=k*4+3 by omega,A9 (by omega),Ae c3]
structure MatAt (F:Nat->FP) (w:World) (go B R C m:Nat):Prop where
 lt:go<B
 hB:B<=w.heap.size
 c0:w.cell? ⟨go,0,none⟩=some (.int .i64 (R:Int))
 c1:w.cell? ⟨go,1,none⟩=some (.int .i64 (C:Int))
 c2:∃p c,w.cell? ⟨go,2,none⟩=some (.slice p m c)/\OwnQ F w B (.slice p m c) m
 fr:w.frozen? ⟨go,2,none⟩=false
 stk:Stk NotU32 w go
theorem MatAt.keep {F:Nat->FP} (hF:∀j,Bh (F j)) {w w':World} {go B R C m:Nat} (h:MatAt F w go B R C m) (H:Below w.heap.size w w'):MatAt F w' go B R C m:=by
 obtain⟨p,c,I,J⟩:=h.c2;exact⟨h.lt,kU h.hB H.size,Ac H h.c0,Ac H h.c1,⟨p,c,Ac H I,J.keep hF H⟩,Ab H (by rw[I];rfl) h.fr,h.stk.next H⟩
theorem OwnQ.box {F:Nat->FP} (hF:∀j,Bh (F j)) {w w':World} {B n G:Nat} {v:Value} (h:OwnQ F w B v n) (J:I32 w w') (hg:w.grownBy w' (some G)) (hG:G<B):OwnQ F w' B v n:=by
 obtain⟨xs,I,V⟩:=h
 have H:∀g,v.ownBlock=some g->some g≠some G:=λg e U=>by
  have:=Ch I.1 e.symm;injection U with U;omega
 refine⟨xs,⟨I.1.kept hg ?_,λg e=>?_⟩,λj Z=>(V j Z).i32 (hF j) J⟩
 ·cases hv:v.ownBlock with
  | none=>exact .inl rfl
  | some g=>exact .inr (H g hv)
 ·have O:=I.2 g e
  have Y:=hg.block g O.1 (H g e);exact⟨kV O.1 hg.size,λi u hu=>O.2 i u ((World.cell?_of_block (a:=⟨g,i,none⟩) Y).symm.trans hu)⟩
theorem MatAt.more {F:Nat->FP} (hF:∀j,Bh (F j)) {W w':World} {go B R C m n:Nat} {xs:List Value} {p:Option Addr} {c:Nat} {p':Option Addr} {O:Nat} (h:MatAt F W go B R C m) (hv:W.cell? ⟨go,2,none⟩=some (.slice p m c)) (Z:W.ownsRow B 86 4 (.slice p m c) m xs) (hO:OwnQ F w' B (.slice p' n O) n) (hg:W.grownBy w' (Value.slice p m c).ownBlock):
  w'.cell? ⟨go,2,none⟩=some (.slice p m c)/\w'.frozen? ⟨go,2,none⟩=false/\MatAt F (w'.setCell ⟨go,2,none⟩ (.slice p' n O)) go B R C n:=by
 have U:some go≠(Value.slice p m c).ownBlock:=λe=>by
  have:=Ch Z e;have:=h.lt;omega
 have I:go<W.heap.size:=kV h.lt h.hB;have H:=hg.block go I (λe=>U e);have V:w'.cell? ⟨go,2,none⟩=some (.slice p m c):=(World.cell?_of_block (a:=⟨go,2,none⟩) H).trans hv;have Y:w'.frozen? ⟨go,2,none⟩=false:=(World.frozen?_of_block (a:=⟨go,2,none⟩) H).trans h.fr;have J:Stk NotU32 w' go:=⟨kV I hg.size,λi u hu=>h.stk.2 i u ((World.cell?_of_block (a:=⟨go,i,none⟩) H).symm.trans hu)⟩
 refine⟨V,Y,h.lt,by simpa using kU h.hB hg.size,?_,?_,⟨p',O,World.cell?_setCell_same' _ _ _ (by rw[V];rfl),hO.box hF (I32.putU J 2 _) (Ai w' go 2 _) h.lt⟩,At Y,Bc J _ _ (λ_ h=>by cases h)⟩
 ·rw[World.cell?_setCell_other _ _ _ _ (by simp)];exact(World.cell?_of_block (a:=⟨go,0,none⟩) H).trans h.c0
 ·rw[World.cell?_setCell_other _ _ _ _ (by simp)];exact(World.cell?_of_block (a:=⟨go,1,none⟩) H).trans h.c1
end Go.Proofs.YtenlbhlllgppmaaGreatDoor
namespace Go.Proofs.YtenlbhlllgppmaaGreatDoor
open Tryz
open Go.RowKit
def IsS (x y:Int):FP:=λw s p n c t q m d=>Zs w s p n c x/\Zs w t q m d y/\n<=1000/\m<=1000
theorem IsS.solid (x y:Int):Bh (IsS x y):=λ_ _ _ _ _ _ _ _ _ _ h hq=>⟨hq.1.i32 h,hq.2.1.i32 h,hq.2.2⟩
end Go.Proofs.YtenlbhlllgppmaaGreatDoor
namespace Go.Proofs.YtenlbhlllgppmaaGreatDoor
open Tryz
open Go.RowKit Eli
theorem OwnQ.base {F:Nat->FP} {w:World} {B B' n:Nat} {v:Value} (h:OwnQ F w B v n) (hB:B'<=B):OwnQ F w B' v n:=by
 obtain⟨U,H,O⟩:=h;refine⟨U,⟨⟨H.1.1,?_⟩,H.2⟩,O⟩;rcases H.1.2 with h |⟨J,cap,cs,e,I,hr⟩
 ·exact .inl h
 ·exact .inr ⟨J,cap,cs,e,kU hB I,hr⟩
theorem OwnQ.imp {F G:Nat->FP} {w:World} {B n:Nat} {v:Value} (h:OwnQ F w B v n) (hi:∀j,j<n->∀s p k c t q m d,F j w s p k c t q m d->G j w s p k c t q m d):OwnQ G w B v n:=by
 obtain⟨xs,V,Y⟩:=h;refine⟨xs,V,λj H=>?_⟩;obtain⟨s,p,k,c,t,q,m,d,I,J,O,U,Z⟩:=Y j H;exact⟨s,p,k,c,t,q,m,d,I,J,O,U,hi j H _ _ _ _ _ _ _ _ Z⟩
theorem Fk {F:Nat->FP} {w:World} {v:Value} {n:Nat} (h:QL F w v n):∃p c,v=.slice p n c:=by
 rcases h with⟨rfl,a,c,e⟩ |⟨g,o,cap,e,_⟩
 ·exact⟨a,c,e⟩
 ·exact⟨_,cap,e⟩
end Go.Proofs.YtenlbhlllgppmaaGreatDoor
namespace Go.Proofs.YtenlbhlllgppmaaGreatDoor
open Tryz
namespace Eli
open Tryz
open Sie
def RSp (rows:Nat->Nat->Int) (k:Nat) (u:Nat->Rat):Prop:=∃z:Nat->Rat,∀q,u q=sumQ (λi=>z i*(rows i q:Rat)) k
theorem RSp.nil (rows:Nat->Nat->Int) (k:Nat):RSp rows k (λ_=>0):=⟨λ_=>0,λq=>(A4 (λi _=>by grind)).symm⟩
theorem RSp.combine {rows:Nat->Nat->Int} {k:Nat} {u v:Nat->Rat} (J:RSp rows k u) (c:Rat) (O:RSp rows k v):RSp rows k (λq=>u q+c*v q):=by
 obtain⟨y,H⟩:=J;obtain⟨z,I⟩:=O;refine⟨λj=>y j+c*z j,λq=>?_⟩;dsimp only;rw[H,I,<-Ap,<-Ar];exact Ad λi _=>by grind
theorem RSp.congr {rows:Nat->Nat->Int} {k:Nat} {u v:Nat->Rat} (I:RSp rows k u) (h:∀q,v q=u q):RSp rows k v:=by
 obtain⟨y,H⟩:=I;exact⟨y,λq=>by rw[h,H]⟩
theorem RSp.mono {rows:Nat->Nat->Int} {k k':Nat} {u:Nat->Rat} (O:RSp rows k u) (h:k<=k'):RSp rows k' u:=by
 obtain⟨y,H⟩:=O;refine⟨λj=>if j<k then y j else 0,λq=>?_⟩;rw[H,Ij h (λi I _=>by simp only[if_neg (Nat.not_lt.2 I)];grind)];exact Ad λi J=>by simp only[if_pos J]
theorem RSp.row {rows:Nat->Nat->Int} {k i:Nat} (I:i<k):RSp rows k (λq=>(rows i q:Rat)):=by
 refine⟨λj=>if j=i then 1 else 0,λq=>?_⟩;rw[Ba I (λj _ H=>by simp only[if_neg H];grind)];simp
theorem RSp.sum {rows:Nat->Nat->Int} {k:Nat} {L:Nat->Nat->Rat} {z:Nat->Rat}:∀t,(∀j,j<t->z j=0∨RSp rows k (L j))->RSp rows k (λq=>sumQ (λj=>z j*L j q) t)
 | 0,_=>(RSp.nil rows k).congr (λ_=>rfl)
 | t+1,h=>by
  have I:=RSp.sum t (λj J=>h j (by omega)) (rows:=rows) (k:=k) (L:=L) (z:=z);rcases h t (kW _)with H|H
  ·exact I.congr (λq=>by rw[sumQ,H];grind)
  ·exact(I.combine (z t) H).congr (λq=>by rw[sumQ])
theorem RSp.of_sp {rows:Nat->Nat->Int} {k t:Nat} {ld:Nat->Bool} {L:Nat->Nat->Rat} {u:Nat->Rat} (J:Sp ld L t u) (h:∀j,j<t->ld j=true->RSp rows k (L j)):RSp rows k u:=by
 obtain⟨z,O,I⟩:=J;refine(RSp.sum (L:=L) (z:=z) t (λj H=>?_)).congr I;cases hl:ld j with
 | false=>exact .inl (O j H hl)
 | true=>exact .inr (h j H hl)
theorem Sp.sum {ld:Nat->Bool} {L:Nat->Nat->Rat} {t:Nat} {R:Nat->Nat->Rat} {z:Nat->Rat}:∀k,(∀j,j<k->z j=0∨Sp ld L t (R j))->Sp ld L t (λq=>sumQ (λj=>z j*R j q) k)
 | 0,_=>(Sp.nil ld L t).congr (λ_=>rfl)
 | k+1,h=>by
  have I:=Sp.sum k (λj J=>h j (by omega)) (ld:=ld) (L:=L) (t:=t) (R:=R) (z:=z);rcases h k (kW _)with H|H
  ·exact I.congr (λq=>by rw[sumQ,H];grind)
  ·exact(I.combine (z k) H).congr (λq=>by rw[sumQ])
theorem RSp.sp {rows:Nat->Nat->Int} {k t:Nat} {ld:Nat->Bool} {L:Nat->Nat->Rat} {u:Nat->Rat} (J:RSp rows k u) (h:∀i,i<k->Sp ld L t (λq=>(rows i q:Rat))):Sp ld L t u:=by
 obtain⟨z,H⟩:=J;exact(Sp.sum (R:=λi q=>(rows i q:Rat)) (z:=z) k (λj I=>.inr (h j I))).congr H
theorem Sp.trim {ld:Nat->Bool} {L:Nat->Nat->Rat} {t n:Nat} {u:Nat->Rat} (H:Sp ld L t u) (h:∀j,n<=j->ld j=false):Sp ld L n u:=by
 by_cases ht:t<=n
 ·exact H.mono ht
 ·obtain⟨z,I,J⟩:=H
  refine⟨z,λj Y V=>I j (by omega) V,λq=>?_⟩;rw[J];exact Ij (by omega) (λi O U=>by rw[I i U (h i O)];grind)
theorem Good.high {n B:Nat} {leads:Nat->List (Nat×Rat)} (h:Good n B leads) (j:Nat) (H:n<=j):ldOf leads j=false:=Bz ((h.ord j).top H)
theorem Up {leads:Nat->List (Nat×Rat)} {x:Nat×Rat} {r:List (Nat×Rat)} (h:leads x.1=[]):
  ldOf (Eli.put leads (x :: r)) x.1=true/\(∀q,rowOf (Eli.put leads (x :: r)) x.1 q=1 / x.2*val (x :: r) q) /\
  (∀j,j≠x.1->ldOf (Eli.put leads (x :: r)) j=ldOf leads j/\rowOf (Eli.put leads (x :: r)) j=rowOf leads j) /\
  ∀t u,Sp (ldOf leads) (rowOf leads) t u->Sp (ldOf (Eli.put leads (x :: r))) (rowOf (Eli.put leads (x :: r))) t u:=by
 obtain⟨J,O⟩:∃J,Eli.put leads (x :: r)=J:=⟨_,rfl⟩
 have e1:J x.1=scl (x :: r):=by rw[<-O];exact if_pos rfl
 have e2:∀j,j≠x.1->J j=leads j:=λj I=>by rw[<-O];exact if_neg I
 have e3:scl (x :: r)≠[]:=by rw[scl,List.map_cons];exact List.cons_ne_nil _ _
 have U:ldOf J x.1=true:=Ct (by rw[e1];exact e3);have H:∀j,j≠x.1->ldOf J j=ldOf leads j:=λj I=>by rw[ldOf,e2 j I];rfl
 have Y:∀j,j≠x.1->rowOf J j=rowOf leads j:=λj I=>by funext q;rw[rowOf,rowOf,H j I,e2 j I]
 have aD:∀q,rowOf J x.1 q=1 / x.2*val (x :: r) q:=λq=>by rw[rowOf,U,if_pos rfl,e1,Te]
 rw[O];refine⟨U,aD,λj I=>⟨H j I,Y j I⟩,λt u hu=>hu.turn λj _ Z=>?_⟩;have V:j≠x.1:=λe=>by rw[e,Bz h]at Z;cases Z
 exact⟨by rw[H j V];exact Z,Y j V⟩
theorem bG {n B:Nat} {leads:Nat->List (Nat×Rat)} {v:Nat->Int} {t:Nat} {x:Nat×Rat} {r:List (Nat×Rat)} (h:Good n B leads) (hr:RowOk n leads v t (x :: r)) (J:Rb leads (x :: r)=x :: r):leads x.1=[]:=by
 refine Classical.byContradiction λI=>?_
 obtain⟨⟨H,_⟩,_⟩:=hr.step h I;rw[J]at H;have:=H.1;omega
theorem Lz {n B:Nat} {rows:Nat->Nat->Int} (hB:1<=B) (hb:∀i q,(rows i q).natAbs<=B) (h0:∀i q,n<=q->rows i q=0) (k:Nat):
  (∀i,i<k->Sp (ldOf (elim n rows k)) (rowOf (elim n rows k)) n (λq=>(rows i q:Rat)))/\∀j,ldOf (elim n rows k) j=true->RSp rows k (rowOf (elim n rows k) j):=by
 induction k with
 | zero=>exact⟨λi Y=>absurd Y (Nat.not_lt_zero _),λj I=>by cases I⟩
 | succ k ih=>
  obtain⟨J,H⟩:=ih;have hg:=Good.elim hB hb h0 k;have hr:=RowOk.first n (Eli.elim n rows k) (rows k) (h0 k)
  obtain⟨t,V,_⟩:=hr.steps hg n;have hs:=hr.end_still hg;rw[show elim n rows (k+1)=Eli.put (elim n rows k) (Et (elim n rows k) n (P3 (rows k) n))from rfl];generalize Et (elim n rows k) n (P3 (rows k) n)=r at V hs ⊢;generalize elim n rows k=leads at J H hg V hs ⊢;obtain⟨h,u,hu,U⟩:=V;have O:=hu.trim hg.high;have aK:RSp rows k u:=RSp.of_sp hu (λj _ I=>H j I);cases r with
  | nil=>
   refine⟨λi Y=>?_,λj I=>(H j I).mono (Nat.le_succ _)⟩;by_cases e:i=k
   ·subst e
    exact O.congr (λq=>by rw[U,Jg];grind)
   ·exact J i (by omega)
  | cons x r=>
   have Z:=bG hg ⟨h,u,hu,U⟩ hs;obtain⟨f1,f2,f3,f4⟩:=Up (r:=r) Z;have hx:=h.2.2.1;have aL:=h.2.1;refine⟨λi Y=>?_,λj I=>?_⟩
   ·by_cases e:i=k
    ·subst e
     refine((f4 _ _ O).combine x.2 (Sp.lead aL f1)).congr (λq=>?_);rw[U,f2];grind
    ·exact f4 _ _ (J i (by omega))
   ·by_cases e:j=x.1
    ·subst e
     have h2:RSp rows (k+1) (λq=>(rows k q:Rat)+(-1)*u q):=(RSp.row (kW _)).combine (-1) (aK.mono (Nat.le_succ _));refine((RSp.nil rows (k+1)).combine (1 / x.2) h2).congr (λq=>?_);rw[f2,U];grind
    ·obtain⟨g1,g2⟩:=f3 j e
     rw[g1]at I;rw[g2];exact(H j I).mono (Nat.le_succ _)
theorem Inv.unique {B:Nat} {ld:Nat->Bool} {L:Nat->Nat->Rat} {R:Nat->Nat->Int} (h:Inv B ld L R) {n:Nat} {x y u v:Nat->Rat} (hu:Sp ld L n u) (hv:Sp ld L n v)
  (he:∀q,q<n->sumQ (λf=>(if ld f then 0 else x f)*L f q) n+u q=sumQ (λf=>(if ld f then 0 else y f)*L f q) n+v q):∀f,f<n->ld f=false->x f=y f:=by
 obtain⟨a,Z,U⟩:=hu;obtain⟨b,hb,V⟩:=hv
 have Y:=h.tri (t:=n) (z:=λj=>((if ld j then 0 else x j)+a j)+(-1)*((if ld j then 0 else y j)+b j)) (λq hq=>by
  have e:=he q hq;rw[U,V]at e
  have O:sumQ (λj=>(((if ld j then 0 else x j)+a j)+(-1)*((if ld j then 0 else y j)+b j))*L j q) n
   =(sumQ (λf=>(if ld f then 0 else x f)*L f q) n+sumQ (λj=>a j*L j q) n)+(-1)*(sumQ (λf=>(if ld f then 0 else y f)*L f q) n+sumQ (λj=>b j*L j q) n):=by
   rw[<-Ar,<-Ar,<-Ap,<-Ar];exact Ad λi _=>by grind
  rw[O,e];grind)
 intro f H I;have J:=Y f H;rw[Z f H I,hb f H I,I]at J;simp only[Bool.false_eq_true,if_false]at J;grind
theorem Oy {n B:Nat} {leads:Nat->List (Nat×Rat)} (h:Good n B leads) (V:Nat->Rat):∀m,m<=n ->
  ∃u,Sp (ldOf leads) (rowOf leads) n u/\∀q,(if q<m then V q else 0)=sumQ (λf=>(if ldOf leads f then 0 else sumQ (λj=>V j*Bk leads n n j f) m)*rowOf leads f q) n+u q
 | 0,_=>⟨λ_=>0,Sp.nil _ _ _,λq=>by
   rw[if_neg (Nat.not_lt_zero _),A4 (λi _=>?_)]
   ·grind
   ·rw[sumQ];split <;> grind⟩
 | m+1,hm=>by
  obtain⟨u,U,J⟩:=Oy h V m (by omega);obtain⟨w,Y,O⟩:=Rf h n m (by omega) (by omega) n (by omega) (kT _);refine⟨_,U.combine (V m) Y,λq=>?_⟩
  have H:(if q<m+1 then V q else 0)=(if q<m then V q else 0)+V m*(if q=m then(1:Rat)else 0):=by
   by_cases h1:q=m
   ·rw[h1,if_pos (by omega),if_neg (by omega),if_pos rfl];grind
   ·rw[if_neg h1]
    by_cases h2:q<m
    ·rw[if_pos (by omega),if_pos h2];grind
    ·rw[if_neg (by omega),if_neg h2];grind
  have I:sumQ (λf=>(if ldOf leads f then 0 else sumQ (λj=>V j*Bk leads n n j f) (m+1))*rowOf leads f q) n=sumQ (λf=>(if ldOf leads f then 0 else sumQ (λj=>V j*Bk leads n n j f) m)*rowOf leads f q) n+V m*sumQ (λf=>(if ldOf leads f then 0 else Bk leads n n m f)*rowOf leads f q) n:=by
   rw[<-Ap,<-Ar];refine Ad λf _=>?_
   rw[sumQ];split <;> grind
  rw[H,J,O,I];grind
theorem Qq {n B:Nat} {leads:Nat->List (Nat×Rat)} (h:Good n B leads) {V:Nat->Rat} (hV:Sp (ldOf leads) (rowOf leads) n V) {f:Nat} (I:f<n) (O:leads f=[]):sumQ (λj=>V j*Bk leads n n j f) n=0:=by
 obtain⟨u,U,H⟩:=Oy h V n (kT _);obtain⟨R,J⟩:=h.inv
 exact J.unique (x:=λf=>sumQ (λj=>V j*Bk leads n n j f) n) (y:=λ_=>0) U hV (λq hq=>by
  rw[<-H,if_pos hq,A4 (λi _=>?_)]
  ·grind
  ·split <;> grind) f I (Bz O)
end Eli
end Go.Proofs.YtenlbhlllgppmaaGreatDoor
