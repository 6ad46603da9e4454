/- Contract of manin.Relations: the relations between Manin symbols. -/
import Derived.Test.YtenlbhlllgppmaaGreatDoorB24
set_option linter.unusedSimpArgs false
set_option maxRecDepth 100000
set_option maxHeartbeats 8000000
namespace Go.Proofs.YtenlbhlllgppmaaGreatDoor
open Tryz
open Go.RowKit
def G2 (n wt:Nat) (L:List Nat) (f:Nat->Nat×Int) (r:Nat) (gs:List M4):Nat->Nat->Int
 | 0,k=>if k=r then 1 else 0
 | t+1,k=>G2 n wt L f r gs t k+Mx n wt L f (r / L.length) (r % L.length) (gs.getD t (0,0,0,0)) k
def Ds (q:Nat):List M4:=if q=0 then [gTurn]else [gThird,gTwice]
theorem Zz {n wt:Nat} {L:List Nat} {f:Nat->Nat×Int} {q r:Nat} (k:Nat) (hq:q<2) (hr:r<(wt+1)*L.length):Li n wt L f (q*((wt+1)*L.length)+r) k=G2 n wt L f r (Ds q) (Ds q).length k:=by
 rcases(by omega:q=0∨q=1)with rfl|rfl
 ·unfold Li;rw[Nat.zero_mul,Nat.zero_add,if_pos hr];rfl
 ·unfold Li;rw[Nat.one_mul,if_neg (by omega),Nat.add_sub_cancel_left];rfl
def Q8 (g:M4):Prop:=(-1<=g.1/\g.1<=1)/\(-1<=g.2.1/\g.2.1<=1)/\(-1<=g.2.2.1/\g.2.2.1<=1)/\(-1<=g.2.2.2/\g.2.2.2<=1)
theorem S9 (q t:Nat):Q8 ((Ds q).getD t (0,0,0,0)):=by
 unfold Ds;split
 ·rcases t with _|t
  ·exact(show Q8 gTurn by unfold Q8;decide)
  ·exact(show Q8 (0,0,0,0)by unfold Q8;decide)
 ·rcases t with _|_|t
  ·exact(show Q8 gThird by unfold Q8;decide)
  ·exact(show Q8 gTwice by unfold Q8;decide)
  ·exact(show Q8 (0,0,0,0)by unfold Q8;decide)
theorem Pw (q:Nat):(Ds q).length<=2:=by unfold Ds;split <;> decide
theorem Sd {n wt:Nat} {L:List Nat} {f:Nat->Nat×Int} {r:Nat} {gs:List M4} (I:TabOk L.length f) (hg:∀t,Q8 (gs.getD t (0,0,0,0))) (J:wt<=22) (t k:Nat):(G2 n wt L f r gs t k).natAbs<=1+t*4194304:=by
 induction t with
 | zero=>unfold G2;split <;> simp
 | succ t ih=>
  unfold G2;have Z:2 ^ wt<=4194304:=nS (Nat.pow_le_pow_right (by decide) J) (by decide);obtain⟨O,U,V,Y⟩:=hg t;have h:=Et (n:=n) (w:=wt) (L:=L) (i:=r / L.length) (j:=r % L.length) (g:=gs.getD t (0,0,0,0)) I (by omega) (by omega) k;omega
theorem Hz {x:Int} (h:x.natAbs<=1000000000):nd x.natAbs<=1:=Bj.2 (show x.natAbs<4294967296 ^ 1 by omega)
def Fu (F Y:Nat->Int) (k:Nat):Nat->Int:=λj=>if j<k then F j+Y j else F j
theorem Uj (F Y:Nat->Int) (j:Nat):Fu F Y 0 j=F j:=by unfold Fu;rw[if_neg (Nat.not_lt_zero j)]
theorem So (F Y:Nat->Int) (k:Nat):Fu F Y k k=F k:=by unfold Fu;rw[if_neg (Nat.lt_irrefl k)]
theorem Oy (F Y:Nat->Int) (k:Nat):Fu F Y (k+1) k=F k+Y k:=by unfold Fu;rw[if_pos (nU k)]
theorem Ox {F Y:Nat->Int} {k j:Nat} (h:j≠k):Fu F Y k j=Fu F Y (k+1) j:=by
 unfold Fu;by_cases hj:j<k
 ·rw[if_pos hj,if_pos (by omega)]
 ·rw[if_neg hj,if_neg (by omega)]
theorem Ui {F Y:Nat->Int} {k:Nat} (h:Y k=0) (j:Nat):Fu F Y k j=Fu F Y (k+1) j:=by
 by_cases hj:j=k
 ·subst hj;rw[So,Oy,h,Int.add_zero]
 ·exact Ox hj
theorem Uh {F Y:Nat->Int} {k j:Nat} (h:j<k):Fu F Y k j=F j+Y j:=by unfold Fu;rw[if_pos h]
theorem OwnZ.ret {f:Nat->Int} {w:World} {B n:Nat} {v:Value} (h:OwnZ f w B v n) (h0:0<n):∃g cap,v=.slice (some ⟨g,0,none⟩) n cap/\n<=cap/\cap<=9223372036854775807/\B<=g/\g<w.heap.size/\∀j,j<n->ZE (f j) w g (j*2):=by
 obtain⟨xs,J,Z⟩:=h;rcases J.1.2 with⟨_,e2⟩ |⟨g,cap,cs,I,hB,hg,hn,O,aX,_⟩
 ·omega
 ·have hs:=J.2 g (by rw[I];rfl)
  have U:=J.1;subst I;refine⟨g,cap,rfl,hn,by simp only[maxLen]at O;omega,hB,hs.1,λj hj=>?_⟩;obtain⟨s,p,n',c,V,I,Y⟩:=Z j hj;exact⟨s,p,n',c,An U V,An U I,Y⟩
theorem OwnZ.congr {f I:Nat->Int} {w:World} {B n:Nat} {v:Value} (h:OwnZ f w B v n) (e:∀j,j<n->f j=I j):OwnZ I w B v n:=by
 obtain⟨V,O,U⟩:=h;exact⟨V,O,λj J=>by rw[<-e j J];exact U j J⟩
theorem OwnZ.slice {f:Nat->Int} {w:World} {B n:Nat} {v:Value} (h:OwnZ f w B v n):∃p c,v=.slice p n c:=by
 obtain⟨J,I,_⟩:=h;exact Ba I.1
theorem OwnZ.box {f:Nat->Int} {w w':World} {B n G:Nat} {v:Value} (h:OwnZ f w B v n) (O:I32 w w') (hg:w.grownBy w' (some G)) (hG:G<B):OwnZ f w' B v n:=by
 obtain⟨xs,J,Y⟩:=h
 have I:∀g,v.ownBlock=some g->some g≠some G:=λg e V=>by
  have:=Cn J.1 e.symm;injection V with V;omega
 refine⟨xs,⟨J.1.kept hg ?_,λg e=>?_⟩,λj hj=>(Y j hj).i32 O⟩
 ·cases hv:v.ownBlock with
  | none=>exact .inl rfl
  | some g=>exact .inr (I g hv)
 ·have U:=J.2 g e
  have Z:=hg.block g U.1 (I g e);exact⟨nT U.1 hg.size,λi u hu=>U.2 i u ((World.cell?_of_block (a:=⟨g,i,none⟩) Z).symm.trans hu)⟩
structure OutAt (F:Nat->Int) (w:World) (go B C2 C m:Nat):Prop where
 lt:go<B
 hB:B<=w.heap.size
 c0:w.cell? ⟨go,0,none⟩=some (.int .i64 (C2:Int))
 c1:w.cell? ⟨go,1,none⟩=some (.int .i64 (C:Int))
 c2:∃p c,w.cell? ⟨go,2,none⟩=some (.slice p m c)/\OwnZ F w B (.slice p m c) m
 fr:w.frozen? ⟨go,2,none⟩=false
 stk:Stk NotU32 w go
theorem OutAt.keep {F:Nat->Int} {w w':World} {go B C2 C m:Nat} (h:OutAt F w go B C2 C m) (I:Below w.heap.size w w'):OutAt F w' go B C2 C m:=by
 obtain⟨p,c,J,O⟩:=h.c2;exact⟨h.lt,nS h.hB I.size,cell_next I h.c0,cell_next I h.c1,⟨p,c,cell_next I J,O.keep I⟩,Ab I (by rw[J];rfl) h.fr,h.stk.next I⟩
theorem Er {O W w':World} {go B:Nat} {v:Value} (h:O.grownBy W (some go)) (hg:W.grownBy w' v.ownBlock) (hB:B=O.heap.size) (I:∀b,v.ownBlock=some b->B<=b):O.grownBy w' (some go):=
 ⟨hg.os.trans h.os,hg.tape.trans h.tape,hg.output.trans h.output,nS h.size hg.size,λk U J=>(hg.block k (nT U h.size) (λe=>by have:=I k e.symm;omega)).trans (h.block k U J)⟩
theorem OutAt.more {F r:Nat->Int} {W w':World} {go B C2 C m k g:Nat} {p:Option Addr} {c:Nat} {p':Option Addr} {U:Nat} {Y:List Value} (h:OutAt F W go B C2 C m) (hv:W.cell? ⟨go,2,none⟩=some (.slice p m c)) (h1:OwnK NotInt W B 84 2 (.slice p m c) m Y) (h2:∀j,j<m->ZX (F j) W Y (j*2))
  (hr:ZRow r W g k k) (h3:OwnK NotInt w' B 84 2 (.slice p' (m+k) U) (m+k) (Y++Au W g (k*2))) (hg:W.grownBy w' (Value.slice p m c).ownBlock) (e2:∀j,j<k->F (m+j)=r j):
  w'.cell? ⟨go,2,none⟩=some (.slice p m c)/\w'.frozen? ⟨go,2,none⟩=false/\OutAt F (w'.setCell ⟨go,2,none⟩ (.slice p' (m+k) U)) go B C2 C (m+k):=by
 have V:some go≠(Value.slice p m c).ownBlock:=λe=>by
  have:=Cn h1.1 e;have:=h.lt;omega
 have J:go<W.heap.size:=nT h.lt h.hB;have I:=hg.block go J (λe=>V e);have Z:w'.cell? ⟨go,2,none⟩=some (.slice p m c):=(World.cell?_of_block (a:=⟨go,2,none⟩) I).trans hv;have df:w'.frozen? ⟨go,2,none⟩=false:=(World.frozen?_of_block (a:=⟨go,2,none⟩) I).trans h.fr;have O:Stk NotU32 w' go:=⟨nT J hg.size,λi u hu=>h.stk.2 i u ((World.cell?_of_block (a:=⟨go,i,none⟩) I).symm.trans hu)⟩
 have hO:=OwnZ.more h1 h2 hr h3 hg F (λ_ _=>rfl) e2;refine⟨Z,df,h.lt,by simpa using nS h.hB hg.size,?_,?_,⟨p',U,World.cell?_setCell_same' _ _ _ (by rw[Z];rfl),hO.box (I32.putU O 2 _) (Ad w' go 2 _) h.lt⟩,Ao df,Bd O _ _ (λ_ h=>by cases h)⟩
 ·rw[World.cell?_setCell_other _ _ _ _ (by simp)];exact(World.cell?_of_block (a:=⟨go,0,none⟩) I).trans h.c0
 ·rw[World.cell?_setCell_other _ _ _ _ (by simp)];exact(World.cell?_of_block (a:=⟨go,1,none⟩) I).trans h.c1
theorem dF (w:World) (V U s3:Nat) (O:Blk w V 63 #[.int .i64 0,.int .i64 (-1),.int .i64 1,.int .i64 0]) (I:Blk w U 63 #[.int .i64 0,.int .i64 (-1),.int .i64 1,.int .i64 (-1),.int .i64 (-1),.int .i64 1,.int .i64 (-1),.int .i64 0]) (h:Blk w s3 113 #[.slice (some ⟨V,0,none⟩) 1 1,.slice (some ⟨U,0,none⟩) 2 2]) (q:Nat) (hq:q<2):
  ∃J,(J=V∨J=U)/\w.cell? ⟨s3,q,none⟩=some (.slice (some ⟨J,0,none⟩) (Ds q).length (Ds q).length)/\∀t,t<(Ds q).length->w.cell? ⟨J,t*4,none⟩=some (.int .i64 ((Ds q).getD t (0,0,0,0)).1)/\w.cell? ⟨J,t*4+1,none⟩=some (.int .i64 ((Ds q).getD t (0,0,0,0)).2.1)/\w.cell? ⟨J,t*4+2,none⟩=some (.int .i64 ((Ds q).getD t (0,0,0,0)).2.2.1)/\w.cell? ⟨J,t*4+3,none⟩=some (.int .i64 ((Ds q).getD t (0,0,0,0)).2.2.2):=by
 rcases(by omega:q=0∨q=1)with rfl|rfl
 ·refine⟨V,.inl rfl,h.at_ 0 rfl,λt Y=>?_⟩
  have Z:t<1:=Y;obtain rfl:t=0:=by omega
  exact⟨O.at_ 0 rfl,O.at_ 1 rfl,O.at_ 2 rfl,O.at_ 3 rfl⟩
 ·refine⟨U,.inr rfl,h.at_ 1 rfl,λt Y=>?_⟩
  have Z:t<2:=Y;rcases(by omega:t=0∨t=1)with rfl|rfl
  ·exact⟨I.at_ 0 rfl,I.at_ 1 rfl,I.at_ 2 rfl,I.at_ 3 rfl⟩
  ·exact⟨I.at_ 4 rfl,I.at_ 5 rfl,I.at_ 6 rfl,I.at_ 7 rfl⟩
theorem ZE.but32 {z:Int} {w w':World} {g i G:Nat} (h:ZE z w g i) (J:I32 w w') (hg:w.grownBy w' (some G)) (I:g≠G):ZE z w' g i:=by
 obtain⟨s,p,n,c,O,U,V⟩:=h;exact⟨s,p,n,c,hg.cell O (λe=>by injection e with e;exact I e),hg.cell U (λe=>by injection e with e;exact I e),V.i32 J⟩
theorem A9 {w:World} {R:Nat} {v0 v1 v2:Value} (I:(w.cell? ⟨R,0,none⟩).isSome=true) (J:(w.cell? ⟨R,1,none⟩).isSome=true) (O:(w.cell? ⟨R,2,none⟩).isSome=true):
  (((w.setCell ⟨R,0,none⟩ v0).setCell ⟨R,1,none⟩ v1).setCell ⟨R,2,none⟩ v2).cell? ⟨R,0,none⟩=some v0/\(((w.setCell ⟨R,0,none⟩ v0).setCell ⟨R,1,none⟩ v1).setCell ⟨R,2,none⟩ v2).cell? ⟨R,1,none⟩=some v1/\(((w.setCell ⟨R,0,none⟩ v0).setCell ⟨R,1,none⟩ v1).setCell ⟨R,2,none⟩ v2).cell? ⟨R,2,none⟩=some v2:=by
 refine⟨?_,?_,?_⟩
 ·rw[World.cell?_setCell_other _ _ _ _ (by simp),World.cell?_setCell_other _ _ _ _ (by simp),World.cell?_setCell_same' _ _ _ I]
 ·rw[World.cell?_setCell_other _ _ _ _ (by simp),World.cell?_setCell_same' _ _ _ (Ai J)]
 ·rw[World.cell?_setCell_same' _ _ _ (Ai (Ai O))]
theorem Cc {w:World} {R:Nat} (I:Stk NotU32 w R) {v0 v1 v2:Value} (O:NotU32 v0) (U:NotU32 v1):I32 w (((w.setCell ⟨R,0,none⟩ v0).setCell ⟨R,1,none⟩ v1).setCell ⟨R,2,none⟩ v2):=by
 have J:=Bd I ⟨R,0,none⟩ v0 O;have V:=Bd J ⟨R,1,none⟩ v1 U;exact((I32.putU I 0 v0).trans (I32.putU J 1 v1)).trans (I32.putU V 2 v2)
theorem Km (n wt:Nat) (D:Int) (L:List Nat) (C:Nat) (w:World) (hT:Tab w) (h0:0<n) (hn:n<=120) (nX:wt<=22) (hD:-120<=D) (vB:D<=120) (sA:Pl.check n ((wt:Int)+2) D=0) (hk:∀l,Pl.kroP D l=0∨Pl.kroP D l=1∨Pl.kroP D l=-1) (hL:pts n (n*n)=L) (hR:(wt+1)*L.length=C) (pX:0<C) (hC:C<=72):
  Calls prog 47 #[.agg #[.int .i64 n,.int .i64 ((wt:Int)+2),.int .i64 D]] w λe w'=>Wf (2*C) C (λp=>Li n wt L (Bk n D L n) (p / C) (p % C)) e w'/\Below w.heap.size w w':=by
 have rE:∀x,x∈L->x<n*n:=λx h=>Fk (hL▸h)
 have xB:L.length<=72:=nS (by rw[<-hR];exact Nat.le_mul_of_pos_left _ (by omega)) hC
 have vF:0<L.length:=by
  rcases Nat.eq_zero_or_pos L.length with h|h
  ·rw[h,Nat.mul_zero]at hR;omega
  ·exact h
 have pN:=Kh (λW (hb:Below w.heap.size w W)=>hL▸Ha n wt D W (hT.below hb) h0 hn nX hD vB sA);obtain⟨f,hf⟩:∃f,Bk n D L n=f:=⟨_,rfl⟩
 rw[hf]at pN ⊢;have pQ:=Kh (show TabOk L.length f from hf▸Gb hk n);have uE:=Kh (λT B W (h:WorldAt W T B n wt L f) (hB:B<=W.heap.size) i j (hj:j<L.length) (g:M4) (hg:Q8 g)=>hR▸W8 T B n wt L f i j g.1 g.2.1 g.2.2.1 g.2.2.2 W h hB h0 hn nX hj (by omega) rE pQ.1 (by have:=hg.1;omega) (by have:=hg.1;omega) (by have:=hg.2.1;omega) (by have:=hg.2.1;omega) (by have:=hg.2.2.1;omega) (by have:=hg.2.2.1;omega) (by have:=hg.2.2.2;omega) (by have:=hg.2.2.2;omega));have qX:=Kh (λT B W (h:WorldAt W T B n wt L f)=>hR▸Ko T B n wt L f W h nX (by omega));have qW:=Kh hR;have xE:=Y6 C (by omega);clear hT sA hk hL hR hf rE;go_enter func47,ntmps47
 go_wp2_with fail
 obtain⟨w0,sJ,X0,X1,oM⟩:=bx2 w #[.int .i64 n,.int .i64 ((wt:Int)+2),.int .i64 D] 23 #[.int .i64 0,.int .i64 0,.slice none 0 0] 99;rw[sJ];refine(pN.1 w0 oM).mono ?_;rintro e w1 ⟨⟨T,rfl,sN⟩,pZ⟩;have oJ:=Kh (X1.below_ pZ X1.lt);have oC:=Kh (oM.trans (pZ.mono oM.size));have pR:=Kh sN;obtain⟨gr,bB⟩:∃x,w.heap.size+1=x:=⟨_,rfl⟩
 have tW:=Kh bB;rw[bB]at oJ ⊢;clear sJ X0 X1 oM pZ sN pN bB;go_wp2_with fail
 obtain⟨w2,sK,Y0,Y1,Y2,oN⟩:=Kk w1 #[.int .i64 0,.int .i64 (-1),.int .i64 1,.int .i64 0] 63 #[.int .i64 0,.int .i64 (-1),.int .i64 1,.int .i64 (-1)] 63 #[.int .i64 (-1),.int .i64 1,.int .i64 (-1),.int .i64 0] 63;rw[sK];refine(qX.1 T w1.heap.size w2 (pR.1.keep (nR _) oN)).mono ?_;rintro e w3 ⟨rfl,m1,rfl⟩;have V:Below w2.heap.size w2 (w2.drewN m1):=Aa (Below.refl _ _) m1;generalize w2.drewN m1=w3 at V ⊢;have dE:=Kh (Y0.below_ V Y0.lt);have dY:=Kh (Y1.below_ V Y1.lt);have eP:=Kh (Y2.below_ V Y2.lt);have cB:=Kh (oN.trans (V.mono oN.size));obtain⟨C2,pY⟩:∃x,2*C=x:=⟨_,rfl⟩
 have e2:(2:Int)*(C:Int)=(C2:Nat):=by rw[<-pY];push_cast;rfl
 have v2:IntKind.i64.wrap (C2:Int)=(C2:Nat):=IntWalk.i64_in _ (by omega);have tQ:=Kh pY;obtain⟨ga,hU⟩:∃x,w1.heap.size=x:=⟨_,rfl⟩
 obtain⟨gb,oR⟩:∃x,ga+1=x:=⟨_,rfl⟩
 obtain⟨gc,qD⟩:∃x,gb+1=x:=⟨_,rfl⟩
 have dC:=Kh hU;rw[hU,oR,qD]at eP;rw[hU,oR]at dY;rw[hU]at dE cB;rw[hU,oR,qD];clear sK Y0 Y1 Y2 oN V pY hU oR qD;go_upto_region 9 with(fail)
 obtain⟨w4,sL,Z0,mE⟩:=bx1 w3 #[.int .i64 C2,.int .i64 C,.slice none 0 0] 99;rw[sL];obtain⟨go,qE⟩:∃x,w3.heap.size=x:=⟨_,rfl⟩
 rw[qE]at Z0 ⊢;have rB:=Kh qE;have pT:=Kh Z0;have pK:=Kh (cB.1.trans (mE.mono (by have h1:=cB.1.size;have h2:=dC.1;omega)));have dE:=Kh (bk dE mE);have dY:=Kh (bk dY mE);have eP:=Kh (bk eP mE);clear sL Z0 mE qE;obtain⟨w5,qJ⟩:∃w5,w4.alloc (.cells #[.int .i64 0,.int .i64 (-1),.int .i64 1,.int .i64 0] 63)=w5:=⟨_,rfl⟩
 have bA:Below w4.heap.size w4 w5:=qJ▸(Below.refl _ _).alloc (nR _) _;have vT:=dE.1.at_ 0 rfl;have vU:=dE.1.at_ 1 rfl;have vV:=dE.1.at_ 2 rfl;have vW:=dE.1.at_ 3 rfl;have sY:=(bk dY bA).at_ 0 rfl;have sZ:=(bk dY bA).at_ 1 rfl;have tA:=(bk dY bA).at_ 2 rfl;have tB:=(bk dY bA).at_ 3 rfl;have tC:=(bk eP bA).at_ 0 rfl;have tD:=(bk eP bA).at_ 1 rfl;have tE:=(bk eP bA).at_ 2 rfl;have tF:=(bk eP bA).at_ 3 rfl;rw[<-qJ]at sY sZ tA tB tC tD tE tF;clear qJ bA;go_wp2_with fail
 have vM:(#[.slice (some ⟨w4.heap.size,0,none⟩) 1 1,.slice (some ⟨w4.heap.size+1,0,none⟩) 2 2]:Array Value)=#[.slice (some ⟨w4.heap.size,0,none⟩) 1 1,.slice (some ⟨w4.heap.size+1,0,none⟩) 2 2]:=rfl;obtain⟨wB,sM,U0,U1,U2,hS⟩:=Kk w4 #[.int .i64 0,.int .i64 (-1),.int .i64 1,.int .i64 0] 63 #[.int .i64 0,.int .i64 (-1),.int .i64 1,.int .i64 (-1),.int .i64 (-1),.int .i64 1,.int .i64 (-1),.int .i64 0] 63 #[.slice (some ⟨w4.heap.size,0,none⟩) 1 1,.slice (some ⟨w4.heap.size+1,0,none⟩) 2 2] 113;rw[sM];obtain⟨s9,hV⟩:∃x,w4.heap.size=x:=⟨_,rfl⟩
 obtain⟨s2,oV⟩:∃x,s9+1=x:=⟨_,rfl⟩
 obtain⟨s3,qI⟩:∃x,s2+1=x:=⟨_,rfl⟩
 have wG:go<s9:=by rw[<-hV];exact pT.1.lt
 rw[hV,oV,qI]at U2;rw[hV,oV]at U1;rw[hV]at U0;rw[hV,oV,qI];have uD:=Kh (λq hq=>dF wB s9 s2 s3 U0 U1 U2 q hq);have mD:=Kh (bk pT hS);have oD:=Kh (pK.1.trans (hS.mono (by have h1:=pK.1.size;have h2:=dC.1;omega)));have uQ:=Kh (show WorldAt wB T ga n wt L f from dC.1▸pR.1.keep (nR _) (dC.1▸oD.1));have qZ:=Kh (show s3<wB.heap.size from U2.lt);have gP:=Kh (show ga<=go by have h1:=cB.1.size;have h2:=dC.1;have h3:=rB.1;omega);have rH:=Kh (show s3≠go/\s9≠go/\s2≠go by omega)
 have cT:=Kh (show gr<ga/\Blk wB gr 99 #[.int .i64 0,.int .i64 0,.slice none 0 0]by
  have h1:gr<ga:=by have:=oJ.1.lt;have:=dC.1;omega
  exact⟨h1,oJ.1.below_ oD.1 h1⟩)
 obtain⟨GB,oL⟩:∃x,wB.heap.size=x:=⟨_,rfl⟩
 have oE:=Kh oL;rw[oL]at qZ;obtain⟨F,hF⟩:∃F:Nat->Int,(λp=>Li n wt L f (p / C) (p % C))=F:=⟨_,rfl⟩
 have HF:=Kh (show ∀q r j,q<2->r<C->j<C->F ((q*C+r)*C+j)=G2 n wt L f r (Ds q) (Ds q).length j by
  intro q r j h1 h2 h3;rw[<-hF];dsimp only;rw[show((q*C+r)*C+j) / C=q*C+r by rw[Nat.mul_comm,Nat.mul_add_div pX,Nat.div_eq_of_lt h3,Nat.add_zero],show((q*C+r)*C+j) % C=j by rw[Nat.mul_comm,Nat.mul_add_mod,Nat.mod_eq_of_lt h3],<-qW.1];exact Zz j h1 (by rw[qW.1];exact h2))
 have rJ:=Kh (show OutAt F wB go GB C2 C (0*C*C)from
  ⟨by have:=qZ.1;omega,Nat.le_of_eq oL.symm,mD.1.at_ 0 rfl,mD.1.at_ 1 rfl,⟨none,0,by rw[Nat.zero_mul,Nat.zero_mul];exact mD.1.at_ 2 rfl,by rw[Nat.zero_mul,Nat.zero_mul];exact OwnZ.nil _ _ _⟩,mD.1.free_ 2,Stk.of mD.1 (by intro v hv;simp at hv;rcases hv with rfl|rfl|rfl <;> exact λ_ h=>by cases h)⟩)
 have tT:=Kh hF;have uO:=Kh (λr q t k (ht:t<=2)=>(show(G2 n wt L f r (Ds q) t k).natAbs<=1+t*4194304 from Sd pQ.1 (S9 q) nX t k));have uP:=Kh (λI J (g:M4) (hg:Q8 g) k=>(show(Mx n wt L f I J g k).natAbs<=4194304 from nS (Et pQ.1 (by have:=hg.1;have:=hg.2.1;omega) (by have:=hg.2.2.1;have:=hg.2.2.2;omega) k) (nS (Nat.pow_le_pow_right (by decide) nX) (by decide))));have rC:=Kh (λq=>Pw q);clear U0 U1 U2 hS hV oV qI sM vM oL hF vT vU vV vW sY sZ tA tB tC tD tE tF dE dY eP pT pK cB oJ pR qX rB e2 v2;go_loopw [45] (λii wr=>∃q:Nat,q<=2/\ii=.int .i64 q/\OutAt F wr go GB C2 C (q*C*C)/\wB.grownBy wr (some go)) (λii _=>2 - (intOf ii).toNat)
 case atStart=>exact⟨0,Nat.zero_le _,rfl,rJ.1,Af go (Below.refl _ _)⟩
 case round=>
  obtain⟨q,hq,rfl,gL,bB⟩:=hrel;obtain⟨wa,rfl⟩:∃wa:World,wa=wr:=⟨_,rfl⟩
  have hP:=Kh gL;have U:=Kh bB;clear gL bB rJ;by_cases hq2:q<2
  ·have xG:(q:Int)<2:=by omega
   obtain⟨SL,rV,l0,sG⟩:=uD.1 q hq2;have rW:SL≠go:=by have:=rH.1;rcases rV with rfl|rfl <;> omega
   have rF:=Kh sG;have l1:=U.1.cell l0 (λe=>by injection e with e;exact rH.1.1 e);obtain⟨ln,oT⟩:∃x,(Ds q).length=x:=⟨_,rfl⟩
   have xD:ln<=2:=oT▸rC.1 q;rw[oT]at l1 rF;have uB:=Kh oT;clear l0 sG rV oT;go_wp2_with fail
   have rK:=Kh (show OutAt F wa go GB C2 C ((q*C+0)*C)from hP.1);go_loopw [13] (λii wr=>∃r:Nat,r<=C/\ii=.int .i64 r/\OutAt F wr go GB C2 C ((q*C+r)*C)/\wB.grownBy wr (some go)) (λii _=>C - (intOf ii).toNat)
   case atStart=>exact⟨0,Nat.zero_le _,rfl,rK.1,U.1⟩
   case round=>
    obtain⟨r,hr,rfl,gL,bB⟩:=hrel;obtain⟨wx,rfl⟩:∃wx:World,wx=wr:=⟨_,rfl⟩
    have hQ:=Kh gL;have oF:=Kh bB;clear gL bB rK hP U l1;by_cases hrC:r<C
    ·have xH:(r:Int)<(C:Int):=by omega
     go_wp2_with fail
     have oU:=ZRow.made (λ_=>0) wx C;obtain⟨wz,qK⟩:∃wz,wx.alloc (.cells (madeCells #[.bool false,.slice none 0 0] (C*2)) 84)=wz:=⟨_,rfl⟩
     have qC:Below wx.heap.size wx wz:=qK▸(Below.refl _ _).alloc (nR _) _;rw[qK]at oU ⊢;obtain⟨G,hG⟩:∃g,wx.heap.size=g:=⟨_,rfl⟩
     rw[hG]at oU qC ⊢;have rM:=Kh oU;have qV:=Kh qC;have pD:=Kh hG;have mB:=Kh (show GB<=G by have:=hQ.1.hB;omega);clear oU qC qK hG;go_loopw [58] (λii wr=>∃k:Nat,k<=C/\ii=.int .i64 k/\ZRow (λ_=>0) wr G C k/\Below G wx wr) (λii _=>C - (intOf ii).toNat)
     case atStart=>exact⟨0,Nat.zero_le _,rfl,rM.1,qV.1⟩
     case round=>
      obtain⟨k,hk,rfl,aX,nB⟩:=hrel;obtain⟨w2,rfl⟩:∃w2:World,w2=wr:=⟨_,rfl⟩
      have O:=Kh aX;have cF:=Kh nB;clear aX nB rM qV;by_cases hlt:k<C
      ·have vJ:(k:Int)<(C:Int):=by omega
       go_wp2_with fail
       refine(G9 0 w2 (by omega) (by omega)).mono ?_;rintro e w3 ⟨⟨sT,p3,n3,c3,rfl,nY⟩,V⟩;have Z:=ZRow.keep O.1 V;have oH:=Kh (ZRow.set (k':=k+1) Z k hlt (λ_=>0) (λi' h1 h2=>⟨by omega,rfl⟩) nY);have cB:=Kh (cF.1.trans (V.mono (Nat.le_of_lt O.1.sts.1)));obtain⟨u0,vL⟩:=nV (Z.has (k*2) (by omega));obtain⟨u2,hu2⟩:=nV (Z.has (k*2+1) (by omega));have f0:=Z.free (k*2) (by omega);have f1:=Z.free (k*2+1) (by omega);clear nY V Z;go_wp2;go_roundw
       case rel=>exact⟨k+1,by omega,by go_num,oH.1,Dc cB.1 (nR _)⟩
       case measure=>simp[intOf];omega
      ·obtain rfl:C=k:=by omega
       go_wp2_with fail
       refine(G9 1 w2 (by omega) (by omega)).mono ?_;rintro e w3 ⟨⟨sT,p3,n3,c3,rfl,nY⟩,V⟩;have Z:=ZRow.keep O.1 V;have oH:=Kh (ZRow.set (k':=C) Z r hrC (G2 n wt L f r (Ds q) 0) (λi' h1 h2=>⟨h1,by unfold G2;rw[if_neg h2]⟩) (by unfold G2;rw[if_pos rfl];exact nY));have cB:=Kh (cF.1.trans (V.mono (Nat.le_of_lt O.1.sts.1)));obtain⟨u0,vL⟩:=nV (Z.has (r*2) (by omega));obtain⟨u2,hu2⟩:=nV (Z.has (r*2+1) (by omega));have f0:=Z.free (r*2) (by omega);have f1:=Z.free (r*2+1) (by omega);have qT:=Kh (Dc (v0:=.bool sT) (v1:=.slice p3 n3 c3) (i:=r*2) (j:=r*2+1) cB.1 (nR G));clear nY V Z O cF cB;go_wp2_with fail
       go_loopw [72] (λii wr=>∃t:Nat,t<=ln/\ii=.int .i64 t/\ZRow (G2 n wt L f r (Ds q) t) wr G C C/\Below G wx wr) (λii _=>ln - (intOf ii).toNat)
       case atStart=>exact⟨0,Nat.zero_le _,rfl,oH.1,qT.1⟩
       case round=>
        obtain⟨t,ht,rfl,aX,nB⟩:=hrel;obtain⟨bC,rfl⟩:∃bC:World,bC=wr:=⟨_,rfl⟩
        have O:=Kh aX;have cF:=Kh nB;clear aX nB oH qT;by_cases htl:t<ln
        ·have xJ:(t:Int)<(ln:Int):=by omega
         obtain⟨⟨a,b,c,d⟩,hg⟩:∃g:M4,(Ds q).getD t (0,0,0,0)=g:=⟨_,rfl⟩
         have qG:Q8 (a,b,c,d):=hg▸S9 q t;obtain⟨m0,m1,m2,m3⟩:=rF.1 t htl;rw[hg]at m0 m1 m2 m3;dsimp only at m0 m1 m2 m3
         have nC:∀i v,wB.cell? ⟨SL,i,none⟩=some v->bC.cell? ⟨SL,i,none⟩=some v:=λi v e=>by
          have h1:=World.block_lt_of_cell? wB ⟨SL,i,none⟩ e;have h2:=oF.1.cell e (λe=>by injection e with e;exact rW e);exact(cF.1.cell (p:=⟨SL,i,none⟩) (by have:=oE.1;have:=mB.1;show SL<G;have h3:SL<wB.heap.size:=h1;omega)).trans h2
         have m0:=nC _ _ m0;have m1:=nC _ _ m1;have m2:=nC _ _ m2;have m3:=nC _ _ m3;have rP:=Kh (show ∀W,Below G wx W->WorldAt W T ga n wt L f from λW hb=>uQ.1.next ((Ae (Below.refl ga wB) oF.1 (by have:=oE.1;have:=gP.1;have:=hQ.1.lt;omega) gP.1).trans (hb.mono (by have:=gP.1;have:=hQ.1.lt;have:=mB.1;omega))) (nR _));obtain⟨pl,cl,t2,_⟩:=(rP.1 bC cF.1).c2;obtain⟨I,hI⟩:∃x,r / L.length=x:=⟨_,rfl⟩
         obtain⟨J,hJ⟩:∃x,r % L.length=x:=⟨_,rfl⟩
         have vD:J<L.length:=by rw[<-hJ];exact Nat.mod_lt _ vF
         have xA:I<=72:=by rw[<-hI];exact nS (Nat.div_le_self _ _) (by omega)
         have e1:Int.tdiv (r:Int) (L.length:Int)=(I:Nat):=by rw[Int.tdiv_eq_ediv_of_nonneg (by omega),<-hI];rfl
         have e2:Int.tmod (r:Int) (L.length:Int)=(J:Nat):=by rw[Int.tmod_eq_emod_of_nonneg (by omega),<-hJ];rfl
         have e3:((L.length:Int)==0)=false:=beq_eq_false_iff_ne.2 (by omega);have e4:L.length≠0:=by omega
         have v1:IntKind.i64.wrap (I:Int)=(I:Nat):=IntWalk.i64_in _ (by omega);have v2:IntKind.i64.wrap (J:Int)=(J:Nat):=IntWalk.i64_in _ (by omega);obtain⟨Fr,oK⟩:∃Fr:Nat->Int,G2 n wt L f r (Ds q) t=Fr:=⟨_,rfl⟩
         obtain⟨Y,hY⟩:∃Y:Nat->Int,Mx n wt L f I J (a,b,c,d)=Y:=⟨_,rfl⟩
         have uK:=Kh (show ∀j,G2 n wt L f r (Ds q) (t+1) j=Fr j+Y j from λj=>by rw[G2,hg,hI,hJ,oK,hY]);have rG:=Kh (λW (hb:Below G wx W)=>hY▸uE.1 T ga W (rP.1 W hb) (by have h1:=gP.1;have h2:=hQ.1.lt;have h3:=mB.1;have h4:=pD.1;have h5:=hb.size;omega) I J vD (a,b,c,d) qG);have uM:=Kh (show ∀k,(Fr k).natAbs<=20000000 from λk=>by have h:=uO.1 r q t k (by omega);rw[oK]at h;have:t*4194304<=2*4194304:=Nat.mul_le_mul_right _ (by omega);omega);have rO:=Kh (show ∀k,(Y k).natAbs<=20000000 from λk=>by have h:=uP.1 I J (a,b,c,d) qG k;rw[hY]at h;omega);have hE:=Kh (show ZRow Fr bC G C C from oK▸O.1);clear qG nC hI hJ oK hY hg O;go_wp2_with fail
         obtain⟨we,oX⟩:∃we,bC.alloc (.cells #[.int .i64 a,.int .i64 b,.int .i64 c,.int .i64 d] 63)=we:=⟨_,rfl⟩
         have oQ:Below bC.heap.size bC we:=oX▸(Below.refl _ _).alloc (nR _) _;have X:=oX▸Blk.new bC 63 #[.int .i64 a,.int .i64 b,.int .i64 c,.int .i64 d];rw[oX];obtain⟨gx,sD⟩:∃gx,bC.heap.size=gx:=⟨_,rfl⟩
         have mA:=Kh (cF.1.trans (oQ.mono (Nat.le_of_lt hE.1.sts.1)));have gU:=Kh (ZRow.keep hE.1 oQ);have t2:=cell_next oQ t2;rw[sD]at X ⊢;have x0:=X.at_ 0 rfl;have x1:=X.at_ 1 rfl;have x2:=X.at_ 2 rfl;have x3:=X.at_ 3 rfl;have pP:=Kh (show ∀W,Below we.heap.size we W->(W.cell? ⟨T,2,none⟩=some (.slice pl L.length cl)/\W.cell? ⟨gx,0,none⟩=some (.int .i64 a)/\W.cell? ⟨gx,1,none⟩=some (.int .i64 b)/\W.cell? ⟨gx,2,none⟩=some (.int .i64 c)/\W.cell? ⟨gx,3,none⟩=some (.int .i64 d))from λW hb=>⟨cell_next hb t2,cell_next hb x0,cell_next hb x1,cell_next hb x2,cell_next hb x3⟩);have rU:=pP.1 _ (Below.refl _ we).drew;have uA:=Kh (show ∀wb,Below we.drew.heap.size we.drew wb->Below we.heap.size we wb from λwb hb=>(Below.refl _ we).drew.trans hb);have pE:=Kh (rG.1 we.drew mA.1.drew);clear oX oQ X sD m0 m1 m2 m3 cF hE;go_upto_region 25 with(fail)
         go_region_held3 (λW=>W.cell? ⟨T,2,none⟩=some (.slice pl L.length cl)/\W.cell? ⟨gx,0,none⟩=some (.int .i64 a)/\W.cell? ⟨gx,1,none⟩=some (.int .i64 b)/\W.cell? ⟨gx,2,none⟩=some (.int .i64 c)/\W.cell? ⟨gx,3,none⟩=some (.int .i64 d))
          (first|with_reducible exact rU|with_reducible exact pP.1 _ qA |(exfalso;assumption))
          (first
           |(go_at_call 93;(with_reducible refine pE.1.mono ?_);rintro e w5 ⟨⟨gm,rfl,sB,pG⟩,bA⟩;have qA:Below we.heap.size we w5:=uA.1 _ bA;have tV:=Kh (show we.heap.size<=gm from sB);have rN:=Kh pG;clear sB pG))
         have qS:=Kh qA;clear bA qA pP rU t2 x0 x1 x2 x3 pE;have gS:=Kh (ZRow.keep gU.1 qS.1);have qU:=Kh (mA.1.trans (qS.1.mono (Nat.le_of_lt gU.1.sts.1)));have rA:=Kh (show gm≠G by have h1:=gU.1.sts.1;have h2:=tV.1;omega);have mC:=Kh (show ZRow (Fu Fr Y 0) w5 G C C from ZRow.congr gS.1 (λj _=>(Uj Fr Y j).symm));go_wp2_with fail
         go_loopw [94] (λii wr=>∃k:Nat,k<=C/\ii=.int .i64 k/\ZRow (Fu Fr Y k) wr G C C/\w5.grownBy wr (some G)) (λii _=>C - (intOf ii).toNat)
         case atStart=>exact⟨0,Nat.zero_le _,rfl,mC.1,Af G (Below.refl _ _)⟩
         case round=>
          obtain⟨k,hk,rfl,aX,bB⟩:=hrel;obtain⟨w6,rfl⟩:∃w6:World,w6=wr:=⟨_,rfl⟩
          have cG:=Kh aX;have hO:=Kh bB;clear aX bB mC;by_cases hlt:k<C
          ·have vJ:(k:Int)<(C:Int):=by omega
           obtain⟨s,p,n5,c5,a0,a1,hz⟩:=ZE.but gS.1.sts hO.1 rA.1 (rN.1.val k hlt);have HZ:=Kh hz;clear hz;go_wp2_with fail
           obtain⟨w7,oW⟩:∃w7,w6.alloc (.cells #[.bool s,.slice p n5 c5] 84)=w7:=⟨_,rfl⟩
           have oO:Below w6.heap.size w6 w7:=oW▸(Below.refl _ _).alloc (nR _) _;have X:=oW▸Blk.new w6 84 #[.bool s,.slice p n5 c5];rw[oW];obtain⟨gy,sE⟩:∃gy,w6.heap.size=gy:=⟨_,rfl⟩
           have rD:=Kh (show gy≠G by have h1:=cG.1.sts.1;omega);rw[sE]at X ⊢;have pU:=Kh (HZ.1.keep oO);have rI:=Kh (show n5<=10 by rw[<-HZ.1.2.1];exact nS (Hz (by have:=rO.1 k;omega)) (by omega));refine(Is s p n5 c5 (Y k) w7 pU.1.raw (by have:=rI.1;omega)).mono ?_;rintro e w8 ⟨rfl,oP⟩;have nA:=oO.trans (oP.mono oO.size);have bE:=Kh (ZRow.keep cG.1 nA);have pC:=Kh (hO.1.trans (Af G nA));have pS:=Kh (X.below_ oP X.lt);have uS:=Kh (pU.1.keep oP);clear oW oO X sE oP nA a0 a1 cG hO HZ pU;by_cases hz0:Y k=0
           ·have vK:(Int.sign (Y k) != 0)=false:=by rw[hz0];rfl
            have uN:=Kh (show ZRow (Fu Fr Y (k+1)) w8 G C C from ZRow.congr bE.1 (λj _=>Ui hz0 j));clear hz0;go_wp2;go_roundw
            case rel=>exact⟨k+1,by omega,by go_num,uN.1,pC.1⟩
            case measure=>simp[intOf];omega
           ·have vK:(Int.sign (Y k) != 0)=true:=by
             have h:Int.sign (Y k)≠0:=λe=>hz0 (Int.sign_eq_zero_iff_zero.1 e)
             simpa using h
            obtain⟨s5,p5,n6,c6,f0,f1,oY⟩:=bE.1.val k hlt;rw[So]at oY;have tS:=Kh oY;have uG:=Kh (show n6<=10 by rw[<-oY.2.1];exact nS (Hz (by have:=uM.1 k;omega)) (by omega));have wH:=rD.1;have x0:=pS.1.at_ 0 rfl;have x1:=pS.1.at_ 1 rfl;have wZ:G<w8.heap.size:=bE.1.sts.1;have xC:gy<w8.heap.size:=pS.1.lt;have qH:=bE.1;clear hz0 oY;go_upto_region 29 with(fail)
            refine J2 (λW=>W.cell? ⟨gy,0,none⟩=some (.bool s)/\W.cell? ⟨gy,1,none⟩=some (.slice p n5 c5)/\W.cell? ⟨G,k*2,none⟩=some (.bool s5)/\W.frozen? ⟨G,k*2,none⟩=false/\W.cell? ⟨G,k*2+1,none⟩=some (.slice p5 n6 c6)/\W.frozen? ⟨G,k*2+1,none⟩=false) (λW hb=>⟨Aq hb x0,Aq hb x1,Aq hb f0,Ab hb (by rw[f0];rfl) (qH.free (k*2) (by omega)),Aq hb f1,Ab hb (by rw[f1];rfl) (qH.free (k*2+1) (by omega))⟩) (λuL hHeld0=>?_);clear x0 x1 f0 f1 qH;refine Aj 0 ?_;refine Aj 1 ?_;refine Aj 2 ?_;refine Aj 3 ?_;refine Aj 4 ?_;refine Aj 5 ?_;refine Aj 6 ?_;refine G6 7 rfl (λK hK=>?_);focus(go_simp;refine(Sq s5 p5 n6 c6 (Fr k) s p n5 c5 (Y k) _ (tS.1.keep (Below.refl _ w8).drew).raw (uS.1.keep (Below.refl _ w8).drew).raw (by have:=uG.1;omega) (by have:=rI.1;omega)).mono ?_;rintro e w9 ⟨⟨s6,p6,n7,c7,rfl,sO⟩,hS⟩;have pL:=Kh ((Below.refl _ w8).drew.trans hS:Below w8.heap.size w8 w9);have sH:=ZRow.keep bE.1 pL.1;have rL:=Kh (ZRow.set (k':=C) sH k hlt (Fu Fr Y (k+1)) (λi h1 h2=>⟨h1,Ox h2⟩) (by rw[Oy];exact sO));have pO:=Kh (show ∀v0 v1,w5.grownBy ((w9.setCell ⟨G,k*2,none⟩ v0).setCell ⟨G,k*2+1,none⟩ v1) (some G)from λ_ _=>(pC.1.trans (Af G pL.1)).trans (Ki w9 G _ _ _ _));clear sO hS sH;(first|with_reducible refine hK.out _ _ ?_ (λhHeld1=>?_) |(go_wp2_with fail;with_reducible refine hK.out _ _ ?_ (λhHeld1=>?_))))
            focus((try dsimp only);exact uL.1 _ pL.1)
            focus(clear hK K;(try simp only[Act.put,Bo,Bt,Bp]))
            refine Aj 8 ?_;refine Js 9 rfl (λK hK=>?_);go_simp
            refine hK.out _ _ ?_;clear hK K
            (try simp only[Act.put,Bo,Bt,Bp])
            all_goals go_wp2
            all_goals go_roundw
            all_goals first
             | exact⟨k+1,by omega,by go_num,rL.1,pO.1 _ _⟩
             |(simp[intOf];omega)
          ·obtain rfl:C=k:=by omega
           have uJ:=Kh (show ZRow (G2 n wt L f r (Ds q) (t+1)) w6 G C C from ZRow.congr cG.1 (λj hj=>by rw[Uh hj,uK.1]));have tP:=Kh (show Below G wx w6 from Ae qU.1 hO.1 (Nat.le_of_lt gS.1.sts.1) (nR _));go_wp2;go_roundw
           case rel=>exact⟨t+1,by omega,by go_num,uJ.1,tP.1⟩
           case measure=>simp[intOf];omega
        ·obtain rfl:ln=t:=by omega
         have qB:Below wx.heap.size wx bC:=pD.1▸cF.1;have oG:=Kh (hQ.1.keep qB);have tX:=Kh (oF.1.trans (Af go qB));obtain⟨p,c,g2,xs,hK,hX⟩:=oG.1.c2;obtain⟨m,hm⟩:∃x,(q*C+r)*C=x:=⟨_,rfl⟩
         have xF:m<=20000:=by
          rw[<-hm];have h1:q*C<=1*72:=Nat.mul_le_mul (by omega) hC;exact nS (Nat.mul_le_mul (by omega:q*C+r<=144) hC) (by decide)
         rw[hm]at g2 hK hX oG;have uC:=Kh (show m+C=(q*C+(r+1))*C by rw[<-hm,<-Nat.add_assoc,Nat.add_mul _ 1 C,Nat.one_mul]);have HK:=Kh hK;have HX:=Kh hX;have tU:=Kh g2;have tR:=Kh (show ∀j,j<C->F (m+j)=G2 n wt L f r (Ds q) ln j from λj hj=>by rw[<-hm,HF.1 q r j hq2 hrC hj,uB.1]);clear qB hK hX hm;go_wp2_with (at_builtin;refine Im NotInt rfl (.tmp 114) (.tmp 115) _ 84 rfl underlying97 Wk rfl (by decide) GB m C G C (.slice p m c) xs (Au bC G (C*2)) rfl HK.1 rfl (Bw _ _ _) (Ma O.1) (Oj O.1) (by omega) (by omega) pX oG.1.hB (Qm O.1) mY ?_;intro v' w9 hH nD rX;obtain⟨p',c',rfl⟩:=Ba hH.1;obtain⟨d2,df,rS⟩:=OutAt.more oG.1 tU.1 HK.1 HX.1 O.1 hH nD tR.1;have uH:=Kh rS;have pO:=Kh ((Er tX.1 nD oE.1.symm (λb hb=>Cn HK.1.1 hb.symm)).trans (Ad w9 go 2 (.slice p' (m+C) c')));clear rS hH nD rX g2)
         go_roundw
         case rel=>exact⟨r+1,by omega,by go_num,by rw[<-uC.1];exact uH.1,pO.1⟩
         case measure=>simp[intOf];omega
    ·obtain rfl:C=r:=by omega
     have uI:=Kh (show OutAt F wx go GB C2 C ((q+1)*C*C)by
      have e:(q+1)*C=q*C+C:=by rw[Nat.add_mul,Nat.one_mul]
      rw[e];exact hQ.1)
     go_wp2;go_roundw
     case rel=>exact⟨q+1,by omega,by go_num,uI.1,oF.1⟩
     case measure=>simp[intOf];omega
  ·obtain rfl:q=2:=by omega
   obtain⟨p,c,g2,rT⟩:=hP.1.c2;obtain⟨gA,cA,hv,rY,rZ,vI,_,sP⟩:=rT.ret (Nat.mul_pos (by omega) pX);have oS:gr≠go:=by have:=cT.1.1;have:=gP.1;omega
   have sC:gr<GB:=by have:=cT.1.1;have:=gP.1;have:=hP.1.lt;omega
   have gF:=U.1.block gr (by rw[oE.1];exact sC) (λe=>by injection e with e;exact oS e);have r0:=U.1.cell (cT.1.2.at_ 0 rfl) (λe=>by injection e with e;exact oS e);have r1:=U.1.cell (cT.1.2.at_ 1 rfl) (λe=>by injection e with e;exact oS e);have r2:=U.1.cell (cT.1.2.at_ 2 rfl) (λe=>by injection e with e;exact oS e);have f0:wa.frozen? ⟨gr,0,none⟩=false:=(World.frozen?_of_block (a:=⟨gr,0,none⟩) gF).trans (cT.1.2.free_ 0);have f1:wa.frozen? ⟨gr,1,none⟩=false:=(World.frozen?_of_block (a:=⟨gr,1,none⟩) gF).trans (cT.1.2.free_ 1);have f2:wa.frozen? ⟨gr,2,none⟩=false:=(World.frozen?_of_block (a:=⟨gr,2,none⟩) gF).trans (cT.1.2.free_ 2);have nW:Stk NotU32 wB gr:=Stk.of cT.1.2 (by intro v hv;simp at hv;rcases hv with rfl|rfl|rfl <;> exact λ_ h=>by cases h);have sI:Stk NotU32 wa gr:=⟨nT nW.1 U.1.size,λi u hu=>nW.2 i u ((World.cell?_of_block (a:=⟨gr,i,none⟩) gF).symm.trans hu)⟩
   have a0:=hP.1.c0;have a1:=hP.1.c1;rw[hv]at g2;have pM:=Kh (A9 (w:=wa) (R:=gr) (v0:=.int .i64 (C2:Int)) (v1:=.int .i64 (C:Int)) (v2:=.slice (some ⟨gA,0,none⟩) (2*C*C) cA) (by rw[r0];rfl) (by rw[r1];rfl) (by rw[r2];rfl));have tY:=Kh (Cc sI (v0:=.int .i64 (C2:Int)) (v1:=.int .i64 (C:Int)) (v2:=.slice (some ⟨gA,0,none⟩) (2*C*C) cA) (λ_ h=>by cases h) (λ_ h=>by cases h));have qY:=Kh (((Ad wa gr 0 (.int .i64 (C2:Int))).trans (Ad _ gr 1 (.int .i64 (C:Int)))).trans (Ad _ gr 2 (.slice (some ⟨gA,0,none⟩) (2*C*C) cA)));have oI:=Kh (show gA<wa.heap.size/\gA≠gr/\(∀j,j<2*C*C->ZE (F j) wa gA (j*2))/\2*C*C<=cA/\cA<=9223372036854775807 from⟨by assumption,by omega,sP,rY,rZ⟩);have mA:=Kh (show Below w.heap.size w wa from Ae (oC.1.trans (oD.1.mono (by have h1:=oC.1.size;have h2:=dC.1;omega))) U.1 (by have h1:=oC.1.size;have h2:=oD.1.size;omega) (by have h1:=oC.1.size;have h2:=dC.1;have h3:=gP.1;omega));clear rT hv rY rZ vI sP gF nW sI;go_wp2;have e0:=pM.1.1;have e1:=pM.1.2.1;have e2:=pM.1.2.2;try simp only[Exit.inBlock,Exit.then]
   refine bodyPost_ret (by simp[results,results47,go_sem,e0,e1,e2];try rfl) rfl ?_;refine⟨⟨gA,0,cA,by rw[tQ.1],by simpa using oI.1.1,λj hj=>?_,oI.1.2.2.2⟩,?_⟩
   ·rw[tT.1,Nat.zero_add];exact(oI.1.2.2.1 j hj).but32 tY.1 qY.1 oI.1.2.1
   ·exact Ae mA.1 qY.1 mA.1.size (by have:=tW.1;omega)
end Go.Proofs.YtenlbhlllgppmaaGreatDoor
namespace Go.Proofs.YtenlbhlllgppmaaGreatDoor
open Tryz
open Go.RowKit Eli
theorem Qn {P:Program} (K:Value->Prop) (W:World) (t ty E:TypeId) {z:Value} {V J:Nat} (hU:P.underlying t=some (.slice E))
  (Z:(P.info? E).map (λi=>(i.zero,i.size,i.bytes))=some (some z,V,J)) (bY:z.cells.size=V) (bA:0<V) (B n m g c:Nat) (v:Value) (xs I:List Value)
  (O:OwnK K W B E V v n xs) (hn:I.length=m*V) (Y:∀(j:Nat) (u:Value),I[j]?=some u->W.cell? ⟨g,j,none⟩=some u) (h1:∀u∈I,u.oneCell'=true)
  (hb:(n+m)*J<=140737488355328) (hm:n+m<=9223372036854775807) (hB:B<=W.heap.size) (cF:∀u∈I,K u) (cG:∀u∈z.cells.toList,K u):
  ∃v' w',(Builtin.append_ #[t,t] ty #[v,.slice (some ⟨g,0,none⟩) m c]).run P W=.ok v' w'/\OwnK K w' B E V v' (n+m) (xs++I)/\W.grownBy w' v.ownBlock:=by
 obtain⟨i0,hi,bB,bC,bE⟩:=info_parts Z;rcases Nat.eq_zero_or_pos m with rfl|dC
 ·obtain rfl:I=[]:=List.eq_nil_of_length_eq_zero (by rw[hn,Nat.zero_mul])
  have aX:Src P i0.size t (.slice (some ⟨g,0,none⟩) 0 c) 0 [] W:=Src.ofSlice W hU _ 0 c [] (by simp) (λj u h=>by simp at h) (λu h=>by cases h)
  obtain⟨a,k,hv,cX⟩:∃a k,v=.slice a n k/\n<=k:=by
   rcases De O.1 with⟨rfl,rfl,_⟩ |⟨g',cap,rfl,_,_,hc⟩
   ·exact⟨none,0,rfl,nR _⟩
   ·exact⟨_,cap,rfl,hc⟩
  have hr:=run_append_nothing (P:=P) W t t ty E i0 hU hi a n k cX (.slice (some ⟨g,0,none⟩) 0 c) aX;rw[<-hv]at hr;exact⟨v,W,hr,by rw[List.append_nil,Nat.add_zero];exact O,⟨rfl,rfl,rfl,nR _,λ_ _ _=>rfl⟩⟩
 ·have U:∀(j:Nat) (u:Value),I[j]?=some u->W.cell? ((⟨g,0,none⟩:Addr).add j)=some u:=by
   intro j u hu
   have e:(⟨g,0,none⟩:Addr).add j=⟨g,j,none⟩:=by
    unfold Addr.add;split
    ·rename_i h0;rw[h0]
    ·simp
   rw[e];exact Y j u hu
  obtain⟨v',w',hr,g1,g2,_,_⟩:=run_append_own_at (P:=P) W B t ty E i0 z V J hU hi bB bC bE bY bA v n xs O.1 ⟨g,0,none⟩ m c I hn U h1 hm hb hB;have g4:=E7 K W B t ty E i0 z V J hU hi bB bC bE bY bA v n xs O.1 ⟨g,0,none⟩ m c I hn U h1 hm hb dC O.2 cF cG hr;exact⟨v',w',hr,⟨g1,g4⟩,g2⟩
theorem Vy {P:Program} {W:World} {Z:Array Oper} {o:Oper} {a:Act} {K':Act->World->Prop} {Q:Exit->Act->World->Prop} {E':Prop} (K:Value->Prop) (bC:o.guard=none) (s x:Operand) (t E:TypeId)
  (ho:o.op=.call { callee:=.builtin .append,args:=#[s,x],argTypes:=#[t,t] }) {z:Value} {V J:Nat} (hU:P.underlying t=some (.slice E))
  (U:(P.info? E).map (λi=>(i.zero,i.size,i.bytes))=some (some z,V,J)) (bY:z.cells.size=V) (bE:0<V) (B n m g c:Nat) (v:Value) (xs I:List Value)
  (hs:a.eval s=v) (Y:OwnK K W B E V v n xs) (hx:a.eval x=.slice (some ⟨g,0,none⟩) m c) (hn:I.length=m*V) (O:∀(j:Nat) (u:Value),I[j]?=some u->W.cell? ⟨g,j,none⟩=some u) (h1:∀u∈I,u.oneCell'=true)
  (hb:(n+m)*J<=140737488355328) (hm:n+m<=9223372036854775807) (hB:B<=W.heap.size) (bA:∀u∈I,K u) (bB:∀u∈z.cells.toList,K u)
  (h:∀v' w',OwnK K w' B E V v' (n+m) (xs++I)->W.grownBy w' v.ownBlock->K' (a.put o.dst v') w'):
  if Region.wanted o (yielded Z a.tmps)=true then Oper.wp P o a W K' Q else E':=by
 have hw:Region.wanted o (yielded Z a.tmps)=true:=by simp[Region.wanted,bC]
 rw[if_pos hw];obtain⟨v',w',hr,g1,g2⟩:=Qn (P:=P) K W t o.type E hU U bY bE B n m g c v xs I Y hn O h1 hb hm hB bA bB;unfold Oper.wp execOp;simp only[ho,resolve,invoke,builtin,Sem.run_bind,Sem.run_pure,Result.andThen_ok,List.map_toArray,List.map_cons,List.map_nil,hs,hx,hr];exact h v' w' g1 g2
theorem QRow.cellOf {F:Nat->FP} {w:World} {g N:Nat} (h:QRow F w g N N) {i:Nat} (J:i<N*4):w.cell? ⟨g,i,none⟩=some (cellOf w ⟨g,i,none⟩):=by
 obtain⟨u,I⟩:=nV (h.has i J);rw[I,Ag I]
theorem QRow.shape {F:Nat->FP} {w:World} {g N:Nat} (h:QRow F w g N N) {u:Value} (hu:u∈Au w g (N*4)):(∃s,u=.bool s)∨∃p n c,u=.slice p n c:=by
 obtain⟨i,I⟩:=List.getElem?_of_mem hu;have Z:=Ea I;rw[Bi Z]at I;injection I with I
 subst I;obtain⟨s,p,n,c,t,q,m,d,O,U,V,Y,_⟩:=h.val (i / 4) (by omega);rcases(by omega:i % 4=0∨i % 4=1∨i % 4=2∨i % 4=3)with J|J|J|J
 ·rw[show i / 4*4=i by omega]at O
  exact .inl ⟨s,Ag O⟩
 ·rw[show i / 4*4+1=i by omega]at U
  exact .inr ⟨p,n,c,Ag U⟩
 ·rw[show i / 4*4+2=i by omega]at V
  exact .inl ⟨t,Ag V⟩
 ·rw[show i / 4*4+3=i by omega]at Y
  exact .inr ⟨q,m,d,Ag Y⟩
theorem QRow.one {F:Nat->FP} {w:World} {g N:Nat} (h:QRow F w g N N):∀u∈Au w g (N*4),u.oneCell'=true:=by
 intro u I;rcases h.shape I with⟨s,rfl⟩ |⟨p,n,c,rfl⟩ <;> rfl
theorem QRow.ni {F:Nat->FP} {w:World} {g N:Nat} (h:QRow F w g N N):∀u∈Au w g (N*4),NotInt u:=by
 intro u I;rcases h.shape I with⟨s,rfl⟩ |⟨p,n,c,rfl⟩
 ·exact NotInt.bool _
 ·exact NotInt.slice _ _ _
theorem QRow.cells {F:Nat->FP} {w:World} {g N:Nat} (h:QRow F w g N N):∀(j:Nat) (u:Value),(Au w g (N*4))[j]?=some u->w.cell? ⟨g,j,none⟩=some u:=by
 intro j u I;have J:=Ea I;rw[Bi J]at I;rw[h.cellOf J,I]
theorem OwnQ.more {F R:Nat->FP} (hF:∀j,Bu (F j)) {W w':World} {B n m g:Nat} {v Z:Value} {O:List Value} (U:OwnK NotInt W B 86 4 v n O) (h2:∀j,j<n->QX (F j) W O (j*4))
  (hr:QRow R W g m m) (h3:OwnK NotInt w' B 86 4 Z (n+m) (O++Au W g (m*4))) (hg:W.grownBy w' v.ownBlock) (h:∀j,j<m->F (n+j)=R j):OwnQ F w' B Z (n+m):=by
 have I:=I32.grown (K:=NotInt) (λx=>Gn x) U.2 hg;refine⟨_,h3,λj hj=>?_⟩;by_cases hjn:j<n
 ·exact((h2 j hjn).i32 (hF j) I).app
 ·obtain⟨k,rfl⟩:∃k,j=n+k:=⟨j - n,by omega⟩
  have V:k<m:=by omega
  have J:O.length=n*4:=U.1.1;obtain⟨s,p,c,d,t,q,e,f,c0,c1,c2,c3,Y⟩:=hr.val k V;rw[<-h k V]at Y;refine⟨s,p,c,d,t,q,e,f,?_,?_,?_,?_,hF _ _ _ _ _ _ _ _ _ _ _ I Y⟩
  ·rw[List.getElem?_append_right (by omega),J,show(n+k)*4 - n*4=k*4 by omega,Bi (by omega),Ag c0]
  ·rw[List.getElem?_append_right (by omega),J,show(n+k)*4+1 - n*4=k*4+1 by omega,Bi (by omega),Ag c1]
  ·rw[List.getElem?_append_right (by omega),J,show(n+k)*4+2 - n*4=k*4+2 by omega,Bi (by omega),Ag c2]
  ·rw[List.getElem?_append_right (by omega),J,show(n+k)*4+3 - n*4=k*4+3 by omega,Bi (by omega),Ag c3]
structure MatAt (F:Nat->FP) (w:World) (go B R C m:Nat):Prop where
 lt:go<B
 hB:B<=w.heap.size
 c0:w.cell? ⟨go,0,none⟩=some (.int .i64 (R:Int))
 c1:w.cell? ⟨go,1,none⟩=some (.int .i64 (C:Int))
 c2:∃p c,w.cell? ⟨go,2,none⟩=some (.slice p m c)/\OwnQ F w B (.slice p m c) m
 fr:w.frozen? ⟨go,2,none⟩=false
 stk:Stk NotU32 w go
theorem MatAt.keep {F:Nat->FP} (hF:∀j,Bu (F j)) {w w':World} {go B R C m:Nat} (h:MatAt F w go B R C m) (I:Below w.heap.size w w'):MatAt F w' go B R C m:=by
 obtain⟨p,c,J,O⟩:=h.c2;exact⟨h.lt,nS h.hB I.size,cell_next I h.c0,cell_next I h.c1,⟨p,c,cell_next I J,O.keep hF I⟩,Ab I (by rw[J];rfl) h.fr,h.stk.next I⟩
theorem OwnQ.box {F:Nat->FP} (hF:∀j,Bu (F j)) {w w':World} {B n G:Nat} {v:Value} (h:OwnQ F w B v n) (O:I32 w w') (hg:w.grownBy w' (some G)) (hG:G<B):OwnQ F w' B v n:=by
 obtain⟨xs,J,Y⟩:=h
 have I:∀g,v.ownBlock=some g->some g≠some G:=λg e V=>by
  have:=Cn J.1 e.symm;injection V with V;omega
 refine⟨xs,⟨J.1.kept hg ?_,λg e=>?_⟩,λj hj=>(Y j hj).i32 (hF j) O⟩
 ·cases hv:v.ownBlock with
  | none=>exact .inl rfl
  | some g=>exact .inr (I g hv)
 ·have U:=J.2 g e
  have Z:=hg.block g U.1 (I g e);exact⟨nT U.1 hg.size,λi u hu=>U.2 i u ((World.cell?_of_block (a:=⟨g,i,none⟩) Z).symm.trans hu)⟩
theorem MatAt.more {F:Nat->FP} (hF:∀j,Bu (F j)) {W w':World} {go B R C m n:Nat} {xs:List Value} {p:Option Addr} {c:Nat} {p':Option Addr} {U:Nat} (h:MatAt F W go B R C m) (hv:W.cell? ⟨go,2,none⟩=some (.slice p m c)) (h1:W.ownsRow B 86 4 (.slice p m c) m xs) (hO:OwnQ F w' B (.slice p' n U) n) (hg:W.grownBy w' (Value.slice p m c).ownBlock):
  w'.cell? ⟨go,2,none⟩=some (.slice p m c)/\w'.frozen? ⟨go,2,none⟩=false/\MatAt F (w'.setCell ⟨go,2,none⟩ (.slice p' n U)) go B R C n:=by
 have V:some go≠(Value.slice p m c).ownBlock:=λe=>by
  have:=Cn h1 e;have:=h.lt;omega
 have J:go<W.heap.size:=nT h.lt h.hB;have I:=hg.block go J (λe=>V e);have Y:w'.cell? ⟨go,2,none⟩=some (.slice p m c):=(World.cell?_of_block (a:=⟨go,2,none⟩) I).trans hv;have Z:w'.frozen? ⟨go,2,none⟩=false:=(World.frozen?_of_block (a:=⟨go,2,none⟩) I).trans h.fr;have O:Stk NotU32 w' go:=⟨nT J hg.size,λi u hu=>h.stk.2 i u ((World.cell?_of_block (a:=⟨go,i,none⟩) I).symm.trans hu)⟩
 refine⟨Y,Z,h.lt,by simpa using nS h.hB hg.size,?_,?_,⟨p',U,World.cell?_setCell_same' _ _ _ (by rw[Y];rfl),hO.box hF (I32.putU O 2 _) (Ad w' go 2 _) h.lt⟩,Ao Z,Bd O _ _ (λ_ h=>by cases h)⟩
 ·rw[World.cell?_setCell_other _ _ _ _ (by simp)];exact(World.cell?_of_block (a:=⟨go,0,none⟩) I).trans h.c0
 ·rw[World.cell?_setCell_other _ _ _ _ (by simp)];exact(World.cell?_of_block (a:=⟨go,1,none⟩) I).trans h.c1
end Go.Proofs.YtenlbhlllgppmaaGreatDoor
namespace Go.Proofs.YtenlbhlllgppmaaGreatDoor
open Tryz
open Go.RowKit
def IsS (x y:Int):FP:=λw s p n c t q m d=>Zs w s p n c x/\Zs w t q m d y/\n<=1000/\m<=1000
theorem IsS.solid (x y:Int):Bu (IsS x y):=λ_ _ _ _ _ _ _ _ _ _ h hq=>⟨hq.1.i32 h,hq.2.1.i32 h,hq.2.2⟩
end Go.Proofs.YtenlbhlllgppmaaGreatDoor
namespace Go.Proofs.YtenlbhlllgppmaaGreatDoor
open Tryz
open Go.RowKit Eli
theorem OwnQ.base {F:Nat->FP} {w:World} {B B' n:Nat} {v:Value} (h:OwnQ F w B v n) (hB:B'<=B):OwnQ F w B' v n:=by
 obtain⟨Y,I,V⟩:=h;refine⟨Y,⟨⟨I.1.1,?_⟩,I.2⟩,V⟩;rcases I.1.2 with h |⟨U,cap,O,e,J,hr⟩
 ·exact .inl h
 ·exact .inr ⟨U,cap,O,e,nS hB J,hr⟩
theorem OwnQ.imp {F G:Nat->FP} {w:World} {B n:Nat} {v:Value} (h:OwnQ F w B v n) (hi:∀j,j<n->∀s p k c t q m d,F j w s p k c t q m d->G j w s p k c t q m d):OwnQ G w B v n:=by
 obtain⟨xs,Y,Z⟩:=h;refine⟨xs,Y,λj I=>?_⟩;obtain⟨s,p,k,c,t,q,m,d,J,O,U,V,hf⟩:=Z j I;exact⟨s,p,k,c,t,q,m,d,J,O,U,V,hi j I _ _ _ _ _ _ _ _ hf⟩
theorem Lh {F:Nat->FP} {w:World} {v:Value} {n:Nat} (h:QL F w v n):∃p c,v=.slice p n c:=by
 rcases h with⟨rfl,a,c,e⟩ |⟨g,o,cap,e,_⟩
 ·exact⟨a,c,e⟩
 ·exact⟨_,cap,e⟩
end Go.Proofs.YtenlbhlllgppmaaGreatDoor
namespace Go.Proofs.YtenlbhlllgppmaaGreatDoor
open Tryz
namespace Eli
open Tryz
open Sie
def RSp (rows:Nat->Nat->Int) (k:Nat) (u:Nat->Rat):Prop:=∃z:Nat->Rat,∀q,u q=sumQ (λi=>z i*(rows i q:Rat)) k
theorem RSp.nil (rows:Nat->Nat->Int) (k:Nat):RSp rows k (λ_=>0):=⟨λ_=>0,λq=>(A8 (λi _=>by grind)).symm⟩
theorem RSp.combine {rows:Nat->Nat->Int} {k:Nat} {u v:Nat->Rat} (O:RSp rows k u) (c:Rat) (U:RSp rows k v):RSp rows k (λq=>u q+c*v q):=by
 obtain⟨y,I⟩:=O;obtain⟨z,J⟩:=U;refine⟨λj=>y j+c*z j,λq=>?_⟩;dsimp only;rw[I,J,<-Am,<-Ap];exact Ac λi _=>by grind
theorem RSp.congr {rows:Nat->Nat->Int} {k:Nat} {u v:Nat->Rat} (J:RSp rows k u) (h:∀q,v q=u q):RSp rows k v:=by
 obtain⟨y,I⟩:=J;exact⟨y,λq=>by rw[h,I]⟩
theorem RSp.mono {rows:Nat->Nat->Int} {k k':Nat} {u:Nat->Rat} (U:RSp rows k u) (h:k<=k'):RSp rows k' u:=by
 obtain⟨y,I⟩:=U;refine⟨λj=>if j<k then y j else 0,λq=>?_⟩;rw[I,I9 h (λi J _=>by simp only[if_neg (Nat.not_lt.2 J)];grind)];exact Ac λi O=>by simp only[if_pos O]
theorem RSp.row {rows:Nat->Nat->Int} {k i:Nat} (J:i<k):RSp rows k (λq=>(rows i q:Rat)):=by
 refine⟨λj=>if j=i then 1 else 0,λq=>?_⟩;rw[Bc J (λj _ I=>by simp only[if_neg I];grind)];simp
theorem RSp.sum {rows:Nat->Nat->Int} {k:Nat} {L:Nat->Nat->Rat} {z:Nat->Rat}:∀t,(∀j,j<t->z j=0∨RSp rows k (L j))->RSp rows k (λq=>sumQ (λj=>z j*L j q) t)
 | 0,_=>(RSp.nil rows k).congr (λ_=>rfl)
 | t+1,h=>by
  have J:=RSp.sum t (λj O=>h j (by omega)) (rows:=rows) (k:=k) (L:=L) (z:=z);rcases h t (nU _)with I|I
  ·exact J.congr (λq=>by rw[sumQ,I];grind)
  ·exact(J.combine (z t) I).congr (λq=>by rw[sumQ])
theorem RSp.of_sp {rows:Nat->Nat->Int} {k t:Nat} {ld:Nat->Bool} {L:Nat->Nat->Rat} {u:Nat->Rat} (O:Sp ld L t u) (h:∀j,j<t->ld j=true->RSp rows k (L j)):RSp rows k u:=by
 obtain⟨z,U,J⟩:=O;refine(RSp.sum (L:=L) (z:=z) t (λj I=>?_)).congr J;cases hl:ld j with
 | false=>exact .inl (U j I hl)
 | true=>exact .inr (h j I hl)
theorem Sp.sum {ld:Nat->Bool} {L:Nat->Nat->Rat} {t:Nat} {R:Nat->Nat->Rat} {z:Nat->Rat}:∀k,(∀j,j<k->z j=0∨Sp ld L t (R j))->Sp ld L t (λq=>sumQ (λj=>z j*R j q) k)
 | 0,_=>(Sp.nil ld L t).congr (λ_=>rfl)
 | k+1,h=>by
  have J:=Sp.sum k (λj O=>h j (by omega)) (ld:=ld) (L:=L) (t:=t) (R:=R) (z:=z);rcases h k (nU _)with I|I
  ·exact J.congr (λq=>by rw[sumQ,I];grind)
  ·exact(J.combine (z k) I).congr (λq=>by rw[sumQ])
theorem RSp.sp {rows:Nat->Nat->Int} {k t:Nat} {ld:Nat->Bool} {L:Nat->Nat->Rat} {u:Nat->Rat} (O:RSp rows k u) (h:∀i,i<k->Sp ld L t (λq=>(rows i q:Rat))):Sp ld L t u:=by
 obtain⟨z,I⟩:=O;exact(Sp.sum (R:=λi q=>(rows i q:Rat)) (z:=z) k (λj J=>.inr (h j J))).congr I
theorem Sp.trim {ld:Nat->Bool} {L:Nat->Nat->Rat} {t n:Nat} {u:Nat->Rat} (I:Sp ld L t u) (h:∀j,n<=j->ld j=false):Sp ld L n u:=by
 by_cases ht:t<=n
 ·exact I.mono ht
 ·obtain⟨z,J,O⟩:=I
  refine⟨z,λj Z Y=>J j (by omega) Y,λq=>?_⟩;rw[O];exact I9 (by omega) (λi U V=>by rw[J i V (h i U)];grind)
theorem Good.high {n B:Nat} {leads:Nat->List (Nat×Rat)} (h:Good n B leads) (j:Nat) (I:n<=j):ldOf leads j=false:=Ch ((h.ord j).top I)
theorem Vr {leads:Nat->List (Nat×Rat)} {x:Nat×Rat} {r:List (Nat×Rat)} (aX:leads x.1=[]):
  ldOf (Eli.put leads (x :: r)) x.1=true/\(∀q,rowOf (Eli.put leads (x :: r)) x.1 q=1 / x.2*val (x :: r) q) /\
  (∀j,j≠x.1->ldOf (Eli.put leads (x :: r)) j=ldOf leads j/\rowOf (Eli.put leads (x :: r)) j=rowOf leads j) /\
  ∀t u,Sp (ldOf leads) (rowOf leads) t u->Sp (ldOf (Eli.put leads (x :: r))) (rowOf (Eli.put leads (x :: r))) t u:=by
 obtain⟨O,U⟩:∃O,Eli.put leads (x :: r)=O:=⟨_,rfl⟩
 have e1:O x.1=scl (x :: r):=by rw[<-U];exact if_pos rfl
 have e2:∀j,j≠x.1->O j=leads j:=λj J=>by rw[<-U];exact if_neg J
 have e3:scl (x :: r)≠[]:=by rw[scl,List.map_cons];exact List.cons_ne_nil _ _
 have V:ldOf O x.1=true:=Dd (by rw[e1];exact e3);have I:∀j,j≠x.1->ldOf O j=ldOf leads j:=λj J=>by rw[ldOf,e2 j J];rfl
 have Z:∀j,j≠x.1->rowOf O j=rowOf leads j:=λj J=>by funext q;rw[rowOf,rowOf,I j J,e2 j J]
 have bA:∀q,rowOf O x.1 q=1 / x.2*val (x :: r) q:=λq=>by rw[rowOf,V,if_pos rfl,e1,T8]
 rw[U];refine⟨V,bA,λj J=>⟨I j J,Z j J⟩,λt u hu=>hu.turn λj _ h=>?_⟩;have Y:j≠x.1:=λe=>by rw[e,Ch aX]at h;cases h
 exact⟨by rw[I j Y];exact h,Z j Y⟩
theorem dT {n B:Nat} {leads:Nat->List (Nat×Rat)} {v:Nat->Int} {t:Nat} {x:Nat×Rat} {r:List (Nat×Rat)} (h:Good n B leads) (hr:RowOk n leads v t (x :: r)) (O:Sb leads (x :: r)=x :: r):leads x.1=[]:=by
 refine Classical.byContradiction λJ=>?_
 obtain⟨⟨I,_⟩,_⟩:=hr.step h J;rw[O]at I;have:=I.1;omega
theorem Mp {n B:Nat} {rows:Nat->Nat->Int} (hB:1<=B) (hb:∀i q,(rows i q).natAbs<=B) (h0:∀i q,n<=q->rows i q=0) (k:Nat):
  (∀i,i<k->Sp (ldOf (elim n rows k)) (rowOf (elim n rows k)) n (λq=>(rows i q:Rat)))/\∀j,ldOf (elim n rows k) j=true->RSp rows k (rowOf (elim n rows k) j):=by
 induction k with
 | zero=>exact⟨λi Z=>absurd Z (Nat.not_lt_zero _),λj J=>by cases J⟩
 | succ k ih=>
  obtain⟨O,I⟩:=ih;have hg:=Good.elim hB hb h0 k;have hr:=RowOk.first n (Eli.elim n rows k) (rows k) (h0 k)
  obtain⟨t,Y,_⟩:=hr.steps hg n;have hs:=hr.end_still hg;rw[show elim n rows (k+1)=Eli.put (elim n rows k) (Fl (elim n rows k) n (Q6 (rows k) n))from rfl];generalize Fl (elim n rows k) n (Q6 (rows k) n)=r at Y hs ⊢;generalize elim n rows k=leads at O I hg Y hs ⊢;obtain⟨ho,u,hu,V⟩:=Y;have U:=hu.trim hg.high;have bC:RSp rows k u:=RSp.of_sp hu (λj _ J=>I j J);cases r with
  | nil=>
   refine⟨λi Z=>?_,λj J=>(I j J).mono (Nat.le_succ _)⟩;by_cases e:i=k
   ·subst e
    exact U.congr (λq=>by rw[V,J6];grind)
   ·exact O i (by omega)
  | cons x r=>
   have h:=dT hg ⟨ho,u,hu,V⟩ hs;obtain⟨f1,f2,f3,f4⟩:=Vr (r:=r) h;have hx:=ho.2.2.1;have bE:=ho.2.1;refine⟨λi Z=>?_,λj J=>?_⟩
   ·by_cases e:i=k
    ·subst e
     refine((f4 _ _ U).combine x.2 (Sp.lead bE f1)).congr (λq=>?_);rw[V,f2];grind
    ·exact f4 _ _ (O i (by omega))
   ·by_cases e:j=x.1
    ·subst e
     have h2:RSp rows (k+1) (λq=>(rows k q:Rat)+(-1)*u q):=(RSp.row (nU _)).combine (-1) (bC.mono (Nat.le_succ _));refine((RSp.nil rows (k+1)).combine (1 / x.2) h2).congr (λq=>?_);rw[f2,V];grind
    ·obtain⟨g1,g2⟩:=f3 j e
     rw[g1]at J;rw[g2];exact(I j J).mono (Nat.le_succ _)
theorem Inv.unique {B:Nat} {ld:Nat->Bool} {L:Nat->Nat->Rat} {R:Nat->Nat->Int} (h:Inv B ld L R) {n:Nat} {x y u v:Nat->Rat} (hu:Sp ld L n u) (hv:Sp ld L n v)
  (he:∀q,q<n->sumQ (λf=>(if ld f then 0 else x f)*L f q) n+u q=sumQ (λf=>(if ld f then 0 else y f)*L f q) n+v q):∀f,f<n->ld f=false->x f=y f:=by
 obtain⟨a,ha,V⟩:=hu;obtain⟨b,hb,Y⟩:=hv
 have Z:=h.tri (t:=n) (z:=λj=>((if ld j then 0 else x j)+a j)+(-1)*((if ld j then 0 else y j)+b j)) (λq hq=>by
  have e:=he q hq;rw[V,Y]at e
  have U:sumQ (λj=>(((if ld j then 0 else x j)+a j)+(-1)*((if ld j then 0 else y j)+b j))*L j q) n
    =(sumQ (λf=>(if ld f then 0 else x f)*L f q) n+sumQ (λj=>a j*L j q) n)+(-1)*(sumQ (λf=>(if ld f then 0 else y f)*L f q) n+sumQ (λj=>b j*L j q) n):=by
   rw[<-Ap,<-Ap,<-Am,<-Ap];exact Ac λi _=>by grind
  rw[U,e];grind)
 intro f I J;have O:=Z f I;rw[ha f I J,hb f I J,J]at O;simp only[Bool.false_eq_true,if_false]at O;grind
theorem Pn {n B:Nat} {leads:Nat->List (Nat×Rat)} (h:Good n B leads) (V:Nat->Rat):∀m,m<=n ->
  ∃u,Sp (ldOf leads) (rowOf leads) n u/\∀q,(if q<m then V q else 0)=sumQ (λf=>(if ldOf leads f then 0 else sumQ (λj=>V j*B5 leads n n j f) m)*rowOf leads f q) n+u q
 | 0,_=>⟨λ_=>0,Sp.nil _ _ _,λq=>by
   rw[if_neg (Nat.not_lt_zero _),A8 (λi _=>?_)]
   ·grind
   ·rw[sumQ];split <;> grind⟩
 | m+1,hm=>by
  obtain⟨u,Y,O⟩:=Pn h V m (by omega);obtain⟨w,Z,U⟩:=Z2 h n m (by omega) (by omega) n (by omega) (nR _);refine⟨_,Y.combine (V m) Z,λq=>?_⟩
  have I:(if q<m+1 then V q else 0)=(if q<m then V q else 0)+V m*(if q=m then(1:Rat)else 0):=by
   by_cases h1:q=m
   ·rw[h1,if_pos (by omega),if_neg (by omega),if_pos rfl];grind
   ·rw[if_neg h1]
    by_cases h2:q<m
    ·rw[if_pos (by omega),if_pos h2];grind
    ·rw[if_neg (by omega),if_neg h2];grind
  have J:sumQ (λf=>(if ldOf leads f then 0 else sumQ (λj=>V j*B5 leads n n j f) (m+1))*rowOf leads f q) n=sumQ (λf=>(if ldOf leads f then 0 else sumQ (λj=>V j*B5 leads n n j f) m)*rowOf leads f q) n+V m*sumQ (λf=>(if ldOf leads f then 0 else B5 leads n n m f)*rowOf leads f q) n:=by
   rw[<-Am,<-Ap];refine Ac λf _=>?_
   rw[sumQ];split <;> grind
  rw[I,O,U,J];grind
theorem Rr {n B:Nat} {leads:Nat->List (Nat×Rat)} (h:Good n B leads) {V:Nat->Rat} (hV:Sp (ldOf leads) (rowOf leads) n V) {f:Nat} (J:f<n) (U:leads f=[]):sumQ (λj=>V j*B5 leads n n j f) n=0:=by
 obtain⟨u,Y,I⟩:=Pn h V n (nR _);obtain⟨R,O⟩:=h.inv
 exact O.unique (x:=λf=>sumQ (λj=>V j*B5 leads n n j f) n) (y:=λ_=>0) Y hV (λq hq=>by
  rw[<-I,if_pos hq,A8 (λi _=>?_)]
  ·grind
  ·split <;> grind) f J (Ch U)
end Eli
end Go.Proofs.YtenlbhlllgppmaaGreatDoor
