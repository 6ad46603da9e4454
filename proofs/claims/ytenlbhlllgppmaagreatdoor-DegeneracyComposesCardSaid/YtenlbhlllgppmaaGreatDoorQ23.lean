/- Contract of symbols.New: the space of modular symbols, given what manin.Relations returns. -/
import Derived.Test.YtenlbhlllgppmaaGreatDoorQ22
set_option maxRecDepth 100000
set_option maxHeartbeats 8000000
namespace Go.Proofs.YtenlbhlllgppmaaGreatDoor
open Go.RowKit Eli Tryz
def Vb (R C:Nat) (f:Nat->Int) (e:Ending) (w':World):Prop:=
 ∃gA oA cA,e=.returned (.tuple #[.agg #[.int .i64 R,.int .i64 C,.slice (some ⟨gA,oA,none⟩) (R*C:Nat) cA],.int .i64 0])/\gA<w'.heap.size/\(∀j,j<R*C->ZE (f j) w' gA (oA+j*2))/\R*C<=cA/\cA<=9223372036854775807
theorem RowTab.start {X X':Nat->Nat->Rat} {N:Nat} {w w':World} {GR C B B' I:Nat} (h:RowTab X N w GR C C B) (H:Below B' w w') (J:GR<B'):RowTab X' N w' GR C C I:=
 ⟨⟨kV h.stk.1 H.size,λi v V=>h.stk.2 i v ((H.cell (p:=⟨GR,i,none⟩) J).symm.trans V)⟩,
  λi O=>(World.frozen?_of_block (a:=⟨GR,i,none⟩) (H.block GR J)).trans (h.free i O),
  λi O=>by rw[H.cell (p:=⟨GR,i,none⟩) J];exact h.has i O,
  λj Y U=>absurd U (by omega)⟩
theorem NL.but {l:List Nat} {w w':World} {B G:Nat} {v:Value} (h:NL l w B v) (hg:w.grownBy w' (some G)) (O:∀g,v.ownBlock=some g->g≠G):NL l w' B v:=by
 rcases h with h |⟨g,cap,e,U,I,J,Y⟩
 ·exact .inl h
 ·exact .inr ⟨g,cap,e,U,I,J,λj x V=>hg.cell (Y j x V) (λH=>by injection H with H;exact O g (by rw[e];rfl) H)⟩
theorem S9 (X:Nat->Nat->Rat) (h:Nat->Nat) (r:List (Nat×Rat)) (i:Nat):D2 (λj i=>X j (h i)) r i=D2 X r (h i):=by
 induction r with
 | nil=>rfl
 | cons x r ih=>rw[D2,D2,ih]
theorem aI {L:Nat->List (Nat×Rat)} {C j i:Nat} (Y:j<C) (Z:L j=[]) (I:i<(frs L C).length):(frs L C).getD i 0=j↔i=(frs L j).length:=by
 obtain⟨H,J⟩:=Wq L Y Z;have U:(frs L C).getD i 0=(frs L C)[i]:=by rw[List.getD_eq_getElem?_getD,List.getElem?_eq_getElem I];rfl
 have V:(frs L C)[(frs L j).length]=j:=by rw[List.getElem?_eq_getElem H]at J;injection J
 have O:=List.pairwise_iff_getElem.1 (G2 L C);rw[U];constructor
 ·intro e
  rcases Nat.lt_trichotomy i (frs L j).length with h|h|h
  ·have:=O i _ I H h;omega
  ·exact h
  ·have:=O _ i H I h;omega
 ·intro e;subst e;exact V
theorem Vp (N k D:Int) (R C:Nat) (f:Nat->Int) (w:World) (hrel:∀w1,Below w.heap.size w w1->Calls prog 47 #[.agg #[.int .i64 N,.int .i64 k,.int .i64 D]] w1 λe w'=>Vb R C f e w'/\Below w1.heap.size w1 w')
  (hR:R<=1000) (h0:0<C) (hC:C<=72) (hf:∀j,(f j).natAbs<=16777216):
  Calls prog 11 #[.agg #[.int .i64 N,.int .i64 k,.int .i64 D]] w λe w'=>(∃M,e=.returned (.tuple #[.pointer (some ⟨M,0,none⟩),.int .i64 0])/\(w.heap.size<=M/\∀v g,w'.cell? ⟨M,3,none⟩=some v->v.ownBlock=some g->w.heap.size<=g)/\ModAt w' M w'.heap.size N k D (frs (elim C (Bv C f) R) C) C (Bk (elim C (Bv C f) R) C C))/\Below w.heap.size w w':=by
 have lW:=Kh hrel;have hP:=Kh (Good.elim (n:=C) (B:=16777216) (by omega) (Cv hf) (Dl C f) R);have HF:=Kh hf;have rQ:=iF C (by omega);obtain⟨L,hL⟩:∃L,elim C (Bv C f) R=L:=⟨_,rfl⟩
 rw[hL]at hP ⊢;have HL:=Kh hL;clear hrel hf hL;go_enter func11,ntmps11
 go_wp2_with fail
 obtain⟨w0,pU,X0,gP⟩:=bx1 w #[.int .i64 N,.int .i64 k,.int .i64 D] 23;rw[pU];have sZ:∀(w:World) (a:Option Addr) (n c n' c':Nat),(binOp .eql 107 (.slice a n c) (.slice none n' c')).run prog w=.ok (.bool a.isNone) w:=λw a n c n' c'=>Lib.run_eql_slice_nil w _ _ a n c n' c' underlying107
 have oP:=Kh X0;have qJ:=Kh gP;clear pU;refine(lW.1 w0 gP).mono ?_;rintro e w1 ⟨⟨gA,oA,cA,rfl,pG,hA,pE,pF⟩,mR⟩;go_wp2_with fail
 have mI:=Kh (gP.trans (mR.mono gP.size));have oQ:=Kh ((oP.1.below_ mR (by have:=X0.lt;exact this)));obtain⟨w2,pV,X2,hV⟩:=bx1 w1 #[.int .i64 R,.int .i64 C,.slice (some ⟨gA,oA,none⟩) (R*C) cA] 99;rw[pV];have oR:=Kh (bk oQ hV);refine(Oo R C gA oA cA f w2 (kV pG hV.size) (λj hj=>(hA j hj).keep hV) hR h0 hC pE pF HF.1).mono ?_;rintro e w3 ⟨⟨G,rfl,rJ,lE⟩,bC⟩;rw[HL.1]at lE;have kZ:=Kh lE;have mH:=Kh (mI.1.trans ((hV.trans (bC.mono hV.size)).mono mI.1.size));have lL:=Kh (bk oR bC);have a0:=lL.1.at_ 0 rfl;have a1:=lL.1.at_ 1 rfl;have a2:=lL.1.at_ 2 rfl;clear X0 gP mR pG hA pE pF pV X2 hV lE bC lW HL HF oP oQ oR mI qJ rJ;go_upto_region 5 with(fail)
 have Y:=Kh (show ∀w4,Below w3.heap.size w3 w4->(w4.cell? ⟨w.heap.size,0,none⟩=some (.int .i64 N)/\w4.cell? ⟨w.heap.size,1,none⟩=some (.int .i64 k)/\w4.cell? ⟨w.heap.size,2,none⟩=some (.int .i64 D))from λw4 hb=>⟨Ac hb a0,Ac hb a1,Ac hb a2⟩);have lN:=Y.1 _ (Below.refl _ w3).drew
 go_region_held3 (λw4=>w4.cell? ⟨w.heap.size,0,none⟩=some (.int .i64 N)/\w4.cell? ⟨w.heap.size,1,none⟩=some (.int .i64 k)/\w4.cell? ⟨w.heap.size,2,none⟩=some (.int .i64 D))
  (first|with_reducible exact lN|exact Y.1 _ ((Below.refl _ w3).drew.alloc (kT _) _)|exact Y.1 _ (((Below.refl _ w3).alloc (kT _) _).drew)|exact Y.1 _ (((Below.refl _ w3).drew.alloc (kT _) _).alloc (Nat.le_of_lt (by simp)) _)|exact Y.1 _ ((((Below.refl _ w3).alloc (kT _) _).drew).alloc (Nat.le_of_lt (by simp)) _) |(exfalso;assumption))
  (fail)
 all_goals go_wp2
 obtain⟨wn,lF⟩:∃wn,((w3.alloc (.cells (madeCells #[.slice none 0 0] C) 30)).alloc (.cells #[.int .i64 N,.int .i64 k,.int .i64 D,.slice none 0 0,.slice (some ⟨w3.heap.size,0,none⟩) C C] 106)).drew=wn:=⟨_,rfl⟩
 have mT:Below w3.heap.size w3 (w3.alloc (.cells (madeCells #[.slice none 0 0] C) 30)):=(Below.refl _ _).alloc (kT _) _;have mU:Below (w3.alloc (.cells (madeCells #[.slice none 0 0] C) 30)).heap.size (w3.alloc (.cells (madeCells #[.slice none 0 0] C) 30)) wn:=lF▸((Below.refl _ _).alloc (kT _) _).drew;have nB:(w3.alloc (.cells (madeCells #[.slice none 0 0] C) 30)).heap.size=w3.heap.size+1:=by simp
 have lR:wn.heap.size=w3.heap.size+1+1:=by
  have rO:∀x:World,x.drew.heap.size=x.heap.size:=λ_=>rfl
  rw[<-lF,rO];simp
 obtain⟨F,hF⟩:∃F,frs L C=F:=⟨_,rfl⟩
 have gL:=Kh hF;have oW:F.length<=C:=hF▸Em L C;have U:=RowTab.made (λj i=>Bk L C 0 j (F.getD i 0)) F.length w3 C;have U:=(U.keep (Nat.le_of_eq nB.symm) mU)
 have gS:Blk wn (w3.heap.size+1) 106 #[.int .i64 N,.int .i64 k,.int .i64 D,.slice none 0 0,.slice (some ⟨w3.heap.size,0,none⟩) C C]:=by
  have h:=Blk.new (w3.alloc (.cells (madeCells #[.slice none 0 0] C) 30)) 106 #[.int .i64 N,.int .i64 k,.int .i64 D,.slice none 0 0,.slice (some ⟨w3.heap.size,0,none⟩) C C];rw[nB]at h;exact lF▸h.below_ (Below.refl _ _).drew h.lt
 have mL:=Kh (mT.trans (mU.mono mT.size));rw[lF];obtain⟨GR,dY⟩:∃GR,w3.heap.size=GR:=⟨_,rfl⟩
 obtain⟨M,hM⟩:∃M,GR+1=M:=⟨_,rfl⟩
 have hT:=Kh (show w.heap.size<=GR from dY▸mH.1.size);have oE:=Kh (show ∀w',Below GR w3 w'->LeadTab L w' G C GR from λw' hb=>dY▸kZ.1.keep (kT _) (dY▸hb));have kY:=Kh (show G<GR from dY▸kZ.1.stk.1);rw[dY]at mL;rw[dY]at U gS lR ⊢;rw[hM]at U gS lR ⊢;have lX:=Kh U;have oF:=Kh gS;have tE:=Kh lR;have qN:=Kh (mH.1.trans (mL.1.mono hT.1));have tD:=Kh dY;have dE:=Kh hM;have oC:=Kh oW;clear U gS lR lF mT mU nB Y lN dY hM hF oW a0 a1 a2 lL kZ rQ mH;go_loopw [34] (λii wr=>∃(j:Nat) (fv:Value),j<=C/\ii=.int .i64 j/\Blk wr M 106 #[.int .i64 N,.int .i64 k,.int .i64 D,fv,.slice (some ⟨GR,0,none⟩) C C]/\OwnN (frs L j) wr (M+1) fv/\Below M wn wr) (λii _=>C - (intOf ii).toNat)
 case atStart=>exact⟨0,_,Nat.zero_le _,rfl,oF.1,OwnN.nil _ _,Below.refl _ _⟩
 case round=>
  obtain⟨j,fv,hj,rfl,gS,mE,mV⟩:=hrel;have O:=Kh gS;have aL:=Kh mE;have lI:=Kh mV;have nT:=Kh (mL.1.trans (mV.mono (dE.1▸Nat.le_succ _)));clear gS mE mV oF;by_cases hjc:j<C
  ·have sR:(j:Int)<(C:Int):=by omega
   obtain⟨lv,l0,hB,bE⟩:=(oE.1 wr nT.1).val j hjc;by_cases hL0:L j=[]
   ·obtain rfl:=bE hL0
    have hQ:=Kh hL0;have m3:=O.1.at_ 3 rfl;have f3:=O.1.free_ 3;clear hL0 bE hB;obtain⟨xs,oX⟩:∃xs,OwnK NotU32 wr (M+1) 3 1 fv (frs L j).length xs/\xs=(frs L j).map λn:Nat=>Value.int .i64 (n:Int):=⟨_,aL.1,rfl⟩
    have lJ:=Kh oX;have rM:=O.1.lt;have oD:=Kh (kU (Em L j) hj);clear oX;go_wp2_with (at_builtin;refine Bj NotU32 rfl (.tmp 45) (.tmp 47) _ 3 rfl underlying93 Ep rfl (by decide) (M+1) (frs L j).length fv xs [.int .i64 (j:Int)] rfl lJ.1.1 rfl rfl (by intro u hu;simp at hu;subst hu;rfl) (by have:=oD.1;omega) (by have:=oD.1;omega) (by omega) (by intro u hu;simp at hu;subst hu;exact λ_ h=>by cases h) (by intro u hu;simp[Value.cells]at hu;subst hu;exact λ_ h=>by cases h) ?_;intro v9 w9 gU mC oZ;obtain⟨p9,c9,rfl⟩:=Bf gU.1;have oI:=Kh gU;have oB:=Kh mC;have pJ:=oB.1.block M rM (λe=>by have:=Ch lJ.1.1.1 e;omega);have hI:Blk w9 M 106 #[.int .i64 N,.int .i64 k,.int .i64 D,fv,.slice (some ⟨GR,0,none⟩) C C]:=(by have h:=O.1;unfold Blk at h ⊢;rw[pJ];exact h);have oG:=Kh hI;have n3:=hI.at_ 3 rfl;have tR:=hI.free_ 3;clear gU mC oZ pJ hI)
    have nX:=Kh (show Below M wn w9 from lI.1.trans ((Aw (Below.refl _ _) lJ.1.1.1 oB.1 (kT _) (by omega)).mono (Nat.le_succ M)))
    have qS:=Kh (show OwnN (frs L (j+1)) (w9.setCell ⟨M,3,none⟩ (.slice p9 ((frs L j).length+1) c9)) (M+1) (.slice p9 ((frs L j).length+1) c9)by
     rw[C5,if_pos hQ.1];refine OwnN.push ?_;rw[<-lJ.1.2];exact⟨ownsRow_setCell_below oI.1.1 (kW M) _,λg hg=>Bc (oI.1.2 g hg) _ _ (λ_ h=>by cases h)⟩)
    go_roundw
    case rel=>exact⟨j+1,_,by omega,by go_num,oG.1.set_ 3 _,qS.1,nX.1.setCell (p:=⟨M,3,none⟩) (kT _) _⟩
    case measure=>simp[intOf];omega
   ·obtain⟨b,hb⟩:=(hP.1.head j).resolve_left hL0
    have cB:=hB;rw[hb]at cB;obtain⟨gl,ol,cl,rfl,_,_,_,_,_⟩:=cB.cons;have hQ:=Kh (show frs L (j+1)=frs L j by rw[C5,if_neg hL0]);clear hL0 bE hB cB hb;go_wp2;go_roundw
    case rel=>exact⟨j+1,fv,by omega,by go_num,O.1,by rw[hQ.1];exact aL.1,lI.1⟩
    case measure=>simp[intOf];omega
  ·obtain rfl:C=j:=by omega
   obtain⟨pf,cf,rfl⟩:=Bf (show OwnK NotU32 wr (M+1) 3 1 fv (frs L C).length _ from aL.1).1;rw[gL.1]at aL O;obtain⟨wp,rfl⟩:∃wp:World,wp=wr:=⟨_,rfl⟩
   have cF:=Kh (λg (hg:(Value.slice pf F.length cf).ownBlock=some g)=>show g≠GR by
    have h1:=Ch (show OwnK NotU32 wp (M+1) 3 1 (.slice pf F.length cf) F.length _ from aL.1).1 hg.symm;have:=dE.1;omega)
   have qQ:=Kh (λg (hg:(Value.slice pf F.length cf).ownBlock=some g)=>Ch (show OwnK NotU32 wp (M+1) 3 1 (.slice pf F.length cf) F.length _ from aL.1).1 hg.symm);have qR:=Kh (show NL F wp wp.heap.size (.slice pf F.length cf)from OwnN.nl aL.1);have oO:=Kh (show RowTab (λj i=>Bk L C 0 j (F.getD i 0)) F.length wp GR C C wp.heap.size from lX.1.start lI.1 (dE.1▸kW GR));have m3:=O.1.at_ 3 rfl;have tC:=Kh (show(frs L C).length=F.length by rw[gL.1]);have nV:=Kh (show GR<=wp.heap.size by have:=O.1.lt;have:=dE.1;omega);have mQ:M≠GR:=by have:=dE.1;omega
   have sS:=Ir F.length (by have:=oC.1;omega);clear aL lX;have sN:F.length<=72:=kU oC.1 hC;go_wp2_with fail
   go_loopw [10,11] (λrU nK H=>∃q:Nat,q<=C/\rU=.int .i64 ((frs L (C - q)).length:Nat)/\nK=.int .i64 ((C:Int) - 1 - (q:Nat))/\RowTab (λj i=>Bk L C q j (F.getD i 0)) F.length H GR C (C - q) H.heap.size/\wp.grownBy H (some GR)/\I32 wp H) (λ_ nK _=>(intOf nK+1).toNat)
   case atStart=>exact⟨0,Nat.zero_le _,by rw[Nat.sub_zero,gL.1],by congr 1;omega,by rw[Nat.sub_zero];exact oO.1,Af GR (Below.refl _ _),I32.refl _⟩
   case round=>
    obtain⟨q,pM,rfl,rfl,pP,mY,oV⟩:=hrel;obtain⟨H,rfl⟩:∃H:World,H=wr:=⟨_,rfl⟩
    have aX:=Kh mY;have nS:=Kh oV;have V:=Kh pP;have qM:=Kh (show Below GR w3 H from An nT.1 mY nV.1 (kT _));clear pP mY oV oO m3;by_cases hqC:q<C
    ·obtain⟨j,hj⟩:∃j,j+1+q=C:=⟨C - 1 - q,by omega⟩
     have lM:(C:Int) - 1 - (q:Int)=(j:Nat):=by omega
     have ej:C - q=j+1:=by omega
     have tL:(0:Int)<=(j:Int):=by omega
     have cC:j<C:=by omega
     have sQ:(j:Int)<(C:Int):=by omega
     rw[lM,ej];rw[ej]at V;have cD:=Kh hj;have m3:=aX.1.cell (O.1.at_ 3 rfl) (λe=>by injection e with e;exact mQ e);have m4:=aX.1.cell (O.1.at_ 4 rfl) (λe=>by injection e with e;exact mQ e);clear lM ej hj
     have iL:=Kh (show ∀w8,Below H.heap.size H w8->QRow (λi=>IsQ (Eli.newRow L (Bk L C q) j (F.getD i 0))) w8 H.heap.size F.length F.length ->
       RowTab (λj i=>Bk L C (q+1) j (F.getD i 0)) F.length (w8.setCell ⟨GR,j,none⟩ (.slice (some ⟨H.heap.size,0,none⟩) F.length F.length)) GR C (C - (q+1)) (w8.setCell ⟨GR,j,none⟩ (.slice (some ⟨H.heap.size,0,none⟩) F.length F.length)).heap.size /\
       wp.grownBy (w8.setCell ⟨GR,j,none⟩ (.slice (some ⟨H.heap.size,0,none⟩) F.length F.length)) (some GR)/\I32 wp (w8.setCell ⟨GR,j,none⟩ (.slice (some ⟨H.heap.size,0,none⟩) F.length F.length))by
      intro w8 hb U;have h1:=(V.1.keep (kT _) hb).up hb.size;have e1:C - (q+1)=j:=by have:=cD.1;omega
      have e2:C - 1 - q=j:=by have:=cD.1;omega
      rw[e1];refine⟨(h1.put (X':=λj i=>Bk L C (q+1) j (F.getD i 0)) cC U.sts.1 (Nat.ne_of_gt V.1.stk.1) (λi hi=>?_) (λj' h1 h2 i hi=>?_)).up (Nat.le_of_eq (by simp)),(aX.1.trans (Af GR hb)).trans (Ai w8 GR j _),(nS.1.trans (I32.below hb)).trans (I32.putU (h1.stk.imp λ_=>SliceV.notU32) j _)⟩
      ·have h:=U.val i hi
       have e3:Bk L C (q+1) j (F.getD i 0)=Eli.newRow L (Bk L C q) j (F.getD i 0):=by rw[Bk];simp only;rw[if_pos e2.symm]
       rw[e3];exact h
      ·rw[Bk];simp only;rw[if_neg (by omega)])
     go_wp2_with fail
     have nA:=QRow.made (λ_=>IsQ 0) H F.length;obtain⟨wx,nD⟩:∃wx,H.alloc (.cells (madeCells #[.bool false,.slice none 0 0,.bool false,.slice none 0 0] (F.length*4)) 86)=wx:=⟨_,rfl⟩
     have pD:Below H.heap.size H wx:=nD▸(Below.refl _ _).alloc (kT _) _;rw[nD]at nA ⊢;have oN:=Kh nA;have nY:=Kh pD;clear nA pD nD;go_loopw [72] (λii w6=>∃i:Nat,i<=F.length/\ii=.int .i64 i/\QRow (λ_=>IsQ 0) w6 H.heap.size F.length i/\Below H.heap.size H w6) (λii _=>F.length - (intOf ii).toNat)
     case atStart=>exact⟨0,Nat.zero_le _,rfl,oN.1,nY.1⟩
     case round=>
      obtain⟨i,hi,rfl,U,pA⟩:=hrel;obtain⟨w6,rfl⟩:∃w6:World,w6=wr:=⟨_,rfl⟩
      have aK:=Kh U;have dC:=Kh pA;clear U pA oN nY;by_cases hiF:i<F.length
      ·have tK:(i:Int)<(F.length:Int):=by omega
       go_wp2_with fail
       refine(Ey 0 w6 (by omega) (by omega)).mono ?_;rintro e w7 ⟨⟨s3,p3,n3,c3,t3,q3,hD,d3,rfl,lD⟩,bC⟩;have I:=QRow.keep (λ_=>IsQ.solid _) aK.1 bC;have qT:=Kh (QRow.set (k':=i+1) (λ_=>IsQ.solid _) I i hiF (λ_=>IsQ 0) (IsQ.solid _) (λi' h1 h2=>⟨by omega,rfl⟩) (show IsQ 0 w7 s3 p3 n3 c3 t3 q3 hD d3 from lD));have qK:=bt dC bC;obtain⟨u0,pR⟩:=kX (I.has (i*4) (by omega));obtain⟨u1,pS⟩:=kX (I.has (i*4+1) (by omega));obtain⟨u2,hu2⟩:=kX (I.has (i*4+2) (by omega));obtain⟨u3,pT⟩:=kX (I.has (i*4+3) (by omega));have f0:=I.free (i*4) (by omega);have f1:=I.free (i*4+1) (by omega);have f2:=I.free (i*4+2) (by omega);have f3:=I.free (i*4+3) (by omega);clear lD bC I;go_wp2;go_roundw
       case rel=>exact⟨i+1,by omega,by go_num,qT.1,A5 qK.1⟩
       case measure=>simp[intOf];omega
      ·obtain rfl:F.length=i:=by omega
       obtain⟨lv,l5,hB,bE⟩:=(oE.1 H qM.1).val j cC;have l0:=Ac dC.1 l5;clear l5;by_cases hL0:L j=[]
       ·obtain rfl:=bE hL0
        have lP:=Wq L cC hL0;have lQ:=λi (hi:i<F.length)=>aI (i:=i) cC hL0 (by rw[gL.1];exact hi)
        have mO:(frs L (j+1)).length=(frs L j).length+1:=by rw[C5,if_pos hL0,List.length_append];rfl
        rw[gL.1]at lP lQ;obtain⟨pos,lC⟩:∃pos,(frs L j).length=pos:=⟨_,rfl⟩
        rw[lC]at lP lQ mO;rw[mO];have nZ:=Kh lQ;have pK:=lP.1;have hQ:=Kh hL0;have oJ:=Kh lC;have tO:(pos:Int)<(F.length:Int):=by omega
        have tN:(0:Int)<=(pos:Int):=by omega
        clear hL0 bE hB lP lQ mO lC;go_wp2_with fail
        refine(Ey 1 w6 (by omega) (by omega)).mono ?_;rintro e w7 ⟨⟨s3,p3,n3,c3,t3,q3,hD,d3,rfl,lD⟩,bC⟩;have I:=QRow.keep (λ_=>IsQ.solid _) aK.1 bC
        have pL:=QRow.set (k':=F.length) (λ_=>IsQ.solid _) I pos pK (λi=>IsQ (Eli.newRow L (Bk L C q) j (F.getD i 0))) (IsQ.solid _) (λi' h1 h2=>⟨h1,by
         show IsQ 0=_;rw[Eli.newRow,if_pos hQ.1,if_neg (λe=>h2 ((nZ.1 i' h1).1 e))]⟩) (show IsQ (Eli.newRow L (Bk L C q) j (F.getD pos 0)) w7 s3 p3 n3 c3 t3 q3 hD d3 by
         rw[Eli.newRow,if_pos hQ.1,if_pos ((nZ.1 pos pK).2 rfl)];exact lD)
        have mS:=dC.1.trans (bC.mono dC.1.size);have J:=Kh (iL.1 _ (A5 mS) pL);obtain⟨u0,pR⟩:=kX (I.has (pos*4) (by omega));obtain⟨u1,pS⟩:=kX (I.has (pos*4+1) (by omega));obtain⟨u2,hu2⟩:=kX (I.has (pos*4+2) (by omega));obtain⟨u3,pT⟩:=kX (I.has (pos*4+3) (by omega));have f0:=I.free (pos*4) (by omega);have f1:=I.free (pos*4+1) (by omega);have f2:=I.free (pos*4+2) (by omega);have f3:=I.free (pos*4+3) (by omega);have cG:Below H.heap.size H ((((w7.setCell ⟨H.heap.size,pos*4,none⟩ (.bool s3)).setCell ⟨H.heap.size,pos*4+1,none⟩ (.slice p3 n3 c3)).setCell ⟨H.heap.size,pos*4+2,none⟩ (.bool t3)).setCell ⟨H.heap.size,pos*4+3,none⟩ (.slice q3 hD d3)):=A5 mS;have m8:=Ac cG m4;have bB:=V.1.keep (kT _) cG;obtain⟨uG,hU⟩:=kX (bB.has j cC);have hW:=bB.free j cC;have lK:=Kh (And.intro m8 (And.intro hU hW));have HQ:=Kh (show(C:Int) - 1 - ((q+1:Nat):Int)=(j:Int) - 1 by have:=cD.1;omega);have hY:=Kh (show C - (q+1)=j by have:=cD.1;omega);clear lD bC I pL mS cG m8 bB hU hW m3 m4;go_upto_region 30 with(fail)
        have m8:=lK.1.1;have hU:=lK.1.2.1;have hW:=lK.1.2.2;obtain⟨w8,pW⟩:∃w8,((((w7.setCell ⟨H.heap.size,pos*4,none⟩ (.bool s3)).setCell ⟨H.heap.size,pos*4+1,none⟩ (.slice p3 n3 c3)).setCell ⟨H.heap.size,pos*4+2,none⟩ (.bool t3)).setCell ⟨H.heap.size,pos*4+3,none⟩ (.slice q3 hD d3))=w8:=⟨_,rfl⟩
        rw[pW]at m8 hU hW J ⊢;clear pW lK pR pS hu2 pT f0 f1 f2 f3;go_wp2;go_roundw
        case rel=>exact⟨q+1,by omega,by rw[hY.1,oJ.1],by rw[HQ.1],J.1.1,J.1.2.1,J.1.2.2⟩
        case measure=>simp[intOf]
       ·obtain⟨b,hb⟩:=(hP.1.head j).resolve_left hL0
        have cB:=hB;rw[hb]at cB;obtain⟨gl,ol,cl,rfl,mX,sO,pH,_,nC⟩:=cB.cons;have hJ:=hP.1.ord j;rw[hb]at hJ;have lV:=Kh hJ.2.2.2;have nW:=Kh (show ∀x,x∈b->hq x.2<=80 from λx hx=>kU (hP.1.size j x (by rw[hb];exact List.mem_cons_of_mem _ hx)) (Ny hC (kT _)));have mJ:=Kh (show b.length<=72 from kU (Dp hJ.2.2.2) (by omega));have hS:=Kh (And.intro hb hL0);have rN:b.length<=cl:=mX;have pB:b.length<=72:=mJ.1;clear hL0 bE hB cB hb hJ;rcases Nat.eq_zero_or_pos cl with mB|mB
        ·subst mB
         have gP:b=[]:=List.eq_nil_of_length_eq_zero (by omega);subst gP;have hE:=Kh (show QRow (λf=>IsQ (D2 (λj i=>Bk L C q j (F.getD i 0)) (List.take 0 ([]:List (Nat×Rat))).reverse f)) w6 H.heap.size F.length F.length from aK.1);clear nC mX pH rN pB aK;rw[List.length_nil]at l0;go_wp2_with fail
         go_loopw [97] (λii w8=>ii=.int .i64 0/\QRow (λf=>IsQ (D2 (λj i=>Bk L C q j (F.getD i 0)) (List.take 0 ([]:List (Nat×Rat))).reverse f)) w8 H.heap.size F.length F.length/\Below H.heap.size H w8) (λ_ _=>0)
         case atStart=>exact⟨rfl,hE.1,dC.1⟩
         case round=>
          obtain⟨rfl,bY,cG⟩:=hrel;obtain⟨w8,rfl⟩:∃w8:World,w8=wr:=⟨_,rfl⟩
          have bA:=Kh bY;have aU:=Kh cG;clear bY cG hE dC l0;have J:=Kh (iL.1 w8 aU.1 (QRow.congr bA.1 (λf hf=>by rw[S9 (Bk L C q) (λi=>F.getD i 0),Eli.newRow,if_neg hS.1.2,hS.1.1];rfl)));have bB:=V.1.keep (kT _) aU.1;have m8:=Ac aU.1 m4;obtain⟨uG,hU⟩:=kX (bB.has j cC);have hW:=bB.free j cC;have HQ:=Kh (show(C:Int) - 1 - ((q+1:Nat):Int)=(j:Int) - 1 by have:=cD.1;omega);have hY:=Kh (show C - (q+1)=j by have:=cD.1;omega);have hZ:=Kh (show(frs L (j+1)).length=(frs L j).length by rw[C5,if_neg hS.1.2]);clear bB;go_wp2;go_roundw
          case rel=>exact⟨q+1,by omega,by rw[hY.1,hZ.1],by rw[HQ.1],J.1.1,J.1.2.1,J.1.2.2⟩
          case measure=>simp[intOf]
        go_wp2_with fail
        have qY:=Kh nC;have oY:=V.1.stk.1;clear nC l0 mX pH;have oL:=Kh (show QRow (λf=>IsQ (D2 (λj i=>Bk L C q j (F.getD i 0)) (b.take 0).reverse f)) w6 H.heap.size F.length F.length from aK.1);clear aK;go_loopw [97] (λii w8=>∃i:Nat,i<=b.length/\ii=.int .i64 i/\QRow (λf=>IsQ (D2 (λj i=>Bk L C q j (F.getD i 0)) (b.take i).reverse f)) w8 H.heap.size F.length F.length/\Below H.heap.size H w8) (λii _=>b.length - (intOf ii).toNat)
        case atStart=>exact⟨0,Nat.zero_le _,rfl,oL.1,dC.1⟩
        case round=>
         obtain⟨i,hi,rfl,bY,cG⟩:=hrel;obtain⟨w8,rfl⟩:∃w8:World,w8=wr:=⟨_,rfl⟩
         have bA:=Kh bY;have aU:=Kh cG;clear bY cG oL dC;by_cases hib:i<b.length
         ·have sP:(i:Int)<(b.length:Int):=by omega
          obtain⟨y,hy⟩:∃y,b[i]?=some y:=⟨_,List.getElem?_eq_getElem hib⟩
          have pY:y∈b:=List.mem_of_getElem? hy;rcases qY.1 with⟨h0,_⟩ |⟨gb,ob,sK,e,_,_,rP,pQ⟩
          ·rw[h0]at hib;simp at hib
          cases e;obtain⟨e0,s,p,n,c,t,q',m',d',e1,e2,e3,e4,pN⟩:=(pQ i y hy).next rP (I32.below aU.1) (aU.1.mono (Nat.le_of_lt oY))
          have qV:=Kh (show Qs w8 s p n c t q' m' d' y.2 from pN);clear pQ pN;go_wp2_with fail
          obtain⟨wb,lS⟩:∃wb,w8.alloc (.cells #[.int .i64 (y.1:Int),.bool s,.slice p n c,.bool t,.slice q' m' d'] 110)=wb:=⟨_,rfl⟩
          have lO:Below w8.heap.size w8 wb:=lS▸(Below.refl _ _).alloc (kT _) _;have X:=lS▸Blk.new w8 110 #[.int .i64 (y.1:Int),.bool s,.slice p n c,.bool t,.slice q' m' d'];rw[lS];obtain⟨gt,pI⟩:∃gt,w8.heap.size=gt:=⟨_,rfl⟩
          rw[pI]at X ⊢
          obtain⟨hv1,hv2,rR⟩:j+1<=y.1/\y.1<C/\y.2≠0:=by
           obtain⟨_,h1,h2,h3⟩:=Df lV.1 y pY;exact⟨h1,h2,h3⟩
          have tQ:(y.1:Int)<(C:Int):=by omega
          have HV:=Kh (And.intro hv1 hv2);have hG:=aU.1.trans (lO.mono aU.1.size);obtain⟨gr,rr,lB,mZ,pO⟩:=V.1.val y.1 hv1 hv2;have qW:=Kh (λw' (hb:Below H.heap.size H w') i (hi:i<F.length)=>(pO i hi).next lB (I32.below hb) hb);have kY:=Kh lB;have b0:=X.at_ 0 rfl;have b1:=X.at_ 1 rfl;have b2:=X.at_ 2 rfl;have b3:=X.at_ 3 rfl;have b4:=X.at_ 4 rfl;have mm:=Ac hG m4;have pZ:=Ac hG rr;have Y:=Kh (show ∀w',Below wb.heap.size wb w'->(w'.cell? ⟨gt,0,none⟩=some (.int .i64 (y.1:Int))/\w'.cell? ⟨gt,1,none⟩=some (.bool s)/\w'.cell? ⟨gt,2,none⟩=some (.slice p n c)/\w'.cell? ⟨gt,3,none⟩=some (.bool t)/\w'.cell? ⟨gt,4,none⟩=some (.slice q' m' d')/\w'.cell? ⟨M,4,none⟩=some (.slice (some ⟨GR,0,none⟩) C C)/\w'.cell? ⟨GR,y.1,none⟩=some (.slice (some ⟨gr,0,none⟩) F.length F.length))from λw' hb=>⟨Ac hb b0,Ac hb b1,Ac hb b2,Ac hb b3,Ac hb b4,Ac hb mm,Ac hb pZ⟩);have cF:=Kh (show gt≠H.heap.size/\M≠H.heap.size/\GR≠H.heap.size from⟨by have:=bA.1.sts.1;omega,Nat.ne_of_lt (World.block_lt_of_cell? H ⟨M,4,none⟩ m4),Nat.ne_of_lt oY⟩);have qU:=Kh (qV.1.keep lO);have mK:=Kh (bA.1.keep (λ_=>IsQ.solid _) lO);have cX:=Kh hG;have oT:=Kh (nW.1 y pY)
          have oS:=Kh (show ∀t1 i,j+1<=t1->t1<C->i<F.length->hq (Bk L C q t1 (F.getD i 0))<=80 from λt1 i h1 h2 h3=>by
           have hm:F.getD i 0∈frs L C:=by
            rw[gL.1,List.getD_eq_getElem?_getD,List.getElem?_eq_getElem h3];exact List.getElem_mem h3
           obtain⟨f1,f2⟩:=G1.1 hm;exact kU (O1 (by omega) hP.1 (by have:=cD.1;omega) pM h2 f1 f2) (Ny hC (kT _)))
          have qP:=Kh (show ∀f,f<F.length->hq (D2 (λj i=>Bk L C q j (F.getD i 0)) (b.take i).reverse f)<=100000 from λf hf=>by
           have h1:=Pu (X:=(λj i=>Bk L C q j (F.getD i 0))) (K:=80) (f:=f) (b.take i).reverse (λx hx=>nW.1 x (List.mem_of_mem_take (List.mem_reverse.1 hx))) (λx hx=>by
            obtain⟨_,h1,h2,_⟩:=Df lV.1 x (List.mem_of_mem_take (List.mem_reverse.1 hx));exact oS.1 x.1 f h1 h2 hf)
           have h2:(b.take i).reverse.length<=72:=by rw[List.length_reverse,List.length_take];omega
           have h3:=Nat.mul_le_mul_right (2*80+1) h2;omega)
          have qZ:=Kh (show ∀f,D2 (λj i=>Bk L C q j (F.getD i 0)) (b.take (i+1)).reverse f=D2 (λj i=>Bk L C q j (F.getD i 0)) (b.take i).reverse f+-y.2*Bk L C q y.1 (F.getD f 0)from λf=>by
           rw[List.take_add_one,hy,Option.toList_some,List.reverse_append];rfl)
          have lN:=Y.1 _ (Below.refl _ wb).drew;clear lS lO X hG rr pZ pO b0 b1 b2 b3 b4 mm lB mZ pI e0 e1 e2 e3 e4 hv1 hv2 rR;go_upto_region 28 with(fail)
          go_region_held3 (λw'=>w'.cell? ⟨gt,0,none⟩=some (.int .i64 (y.1:Int))/\w'.cell? ⟨gt,1,none⟩=some (.bool s)/\w'.cell? ⟨gt,2,none⟩=some (.slice p n c)/\w'.cell? ⟨gt,3,none⟩=some (.bool t)/\w'.cell? ⟨gt,4,none⟩=some (.slice q' m' d')/\w'.cell? ⟨M,4,none⟩=some (.slice (some ⟨GR,0,none⟩) C C)/\w'.cell? ⟨GR,y.1,none⟩=some (.slice (some ⟨gr,0,none⟩) F.length F.length))
           (first|with_reducible exact lN|with_reducible exact qX.1|exact Y.1 _ aN |(exfalso;assumption))
           (first
            |(go_at_call 51;refine(I1 s p n c t q' m' d' y.2 _ (qU.1.keep (by first|exact(Below.refl _ wb).drew|exact Below.refl _ wb)) (by have:=oT.1;omega)).mono ?_;rintro e w9 ⟨⟨s3,p3,n3,c3,t3,q3,hD,d3,rfl,rT⟩,pC⟩;have aN:Below wb.heap.size wb w9:=(by first|exact(Below.refl _ wb).drew.trans pC|exact pC))
            |(go_at_call 50;refine(Zu H.heap.size F.length F.length _ (λf=>D2 (λj i=>Bk L C q j (F.getD i 0)) (b.take i).reverse f) (λf=>Bk L C q y.1 (F.getD f 0)) s3 p3 n3 c3 t3 q3 hD d3 (-y.2) w9 (mK.1.keep (λ_=>IsQ.solid _) aN) (by
              have mA:=cX.1.trans (aN.mono cX.1.size);exact .inr ⟨gr,0,F.length,rfl,Nat.ne_of_lt kY.1,kV kY.1 mA.size,λf hf=>by rw[Nat.zero_add];exact qW.1 w9 mA f hf⟩) rT (by rw[Nf];have:=oT.1;omega) (λf hf=>⟨by have:=qP.1 f hf;omega,by have:=oS.1 y.1 f HV.1.1 HV.1.2 hf;omega⟩) (by omega)).mono ?_;rintro e gF ⟨⟨va,rfl⟩,hN,Z,mP⟩;have oM:=Kh hN;have rX:=Kh Z;have qX:=Kh (show gF.cell? ⟨gt,0,none⟩=some (.int .i64 (y.1:Int))/\gF.cell? ⟨gt,1,none⟩=some (.bool s)/\gF.cell? ⟨gt,2,none⟩=some (.slice p n c)/\gF.cell? ⟨gt,3,none⟩=some (.bool t)/\gF.cell? ⟨gt,4,none⟩=some (.slice q' m' d')/\gF.cell? ⟨M,4,none⟩=some (.slice (some ⟨GR,0,none⟩) C C)/\gF.cell? ⟨GR,y.1,none⟩=some (.slice (some ⟨gr,0,none⟩) F.length F.length)from⟨Z.cell (Y.1 _ aN).1 (λe=>cF.1.1 (by injection e)),Z.cell (Y.1 _ aN).2.1 (λe=>cF.1.1 (by injection e)),Z.cell (Y.1 _ aN).2.2.1 (λe=>cF.1.1 (by injection e)),Z.cell (Y.1 _ aN).2.2.2.1 (λe=>cF.1.1 (by injection e)),Z.cell (Y.1 _ aN).2.2.2.2.1 (λe=>cF.1.1 (by injection e)),Z.cell (Y.1 _ aN).2.2.2.2.2.1 (λe=>cF.1.2.1 (by injection e)),Z.cell (Y.1 _ aN).2.2.2.2.2.2 (λe=>cF.1.2.2 (by injection e))⟩);have nU:=Kh (show Below H.heap.size H gF from An (cX.1.trans (aN.mono cX.1.size)) Z (kU cX.1.size aN.size) (kT _));clear hN Z mP))
          all_goals go_wp2
          all_goals go_roundw
          all_goals first
           | exact⟨i+1,by omega,by go_num,QRow.congr oM.1 (λf hf=>by rw[qZ.1 f]),nU.1⟩
           |(simp[intOf];omega)
         ·obtain rfl:b.length=i:=by omega
          have J:=Kh (iL.1 w8 aU.1 (QRow.congr bA.1 (λf hf=>by rw[List.take_length,S9 (Bk L C q) (λi=>F.getD i 0),Eli.newRow,if_neg hS.1.2,hS.1.1];rfl)));have bB:=V.1.keep (kT _) aU.1;have m8:=Ac aU.1 m4;obtain⟨uG,hU⟩:=kX (bB.has j cC);have hW:=bB.free j cC;have HQ:=Kh (show(C:Int) - 1 - ((q+1:Nat):Int)=(j:Int) - 1 by have:=cD.1;omega);have hY:=Kh (show C - (q+1)=j by have:=cD.1;omega);have hZ:=Kh (show(frs L (j+1)).length=(frs L j).length by rw[C5,if_neg hS.1.2]);clear bB;go_wp2;go_roundw
          case rel=>exact⟨q+1,by omega,by rw[hY.1,hZ.1],by rw[HQ.1],J.1.1,J.1.2.1,J.1.2.2⟩
          case measure=>simp[intOf]
    ·obtain rfl:C=q:=by omega
     have lM:(C:Int) - 1 - (C:Int)=-1:=by omega
     rw[lM];have sT:¬((0:Int)<=-1):=by omega
     rw[Nat.sub_self]at V;have lY:=Kh (show wp.heap.size<=H.heap.size from aX.1.size);have hc:∀i v,i<5->(#[.int .i64 N,.int .i64 k,.int .i64 D,.slice pf F.length cf,.slice (some ⟨GR,0,none⟩) C C]:Array Value)[i]?=some v->H.cell? ⟨M,i,none⟩=some v:=λi v _ e=>aX.1.cell (O.1.at_ i e) (λe=>by injection e with e;exact mQ e)
     have qO:=Kh (hc 3 _ (by omega) rfl)
     have oH:=Kh (show ModAt H M H.heap.size N k D F C (Bk L C C)from
      ⟨kV O.1.lt lY.1,hc 0 _ (by omega) rfl,hc 1 _ (by omega) rfl,hc 2 _ (by omega) rfl,⟨_,hc 3 _ (by omega) rfl,(qR.1.but aX.1 cF.1).up lY.1⟩,GR,hc 4 _ (by omega) rfl,V.1.stk.1,λj hj=>by
       obtain⟨g,e,hg,_,hq⟩:=V.1.val j (Nat.zero_le _) hj;refine⟨g,e,hg,λi f hf=>?_⟩
       have hi:i<F.length:=by
        rcases Nat.lt_or_ge i F.length with h|h
        ·exact h
        ·rw[List.getElem?_eq_none h]at hf;cases hf
       have h:=hq i hi;have e:F.getD i 0=f:=by rw[List.getD_eq_getElem?_getD,hf];rfl
       rw[e]at h;exact h⟩)
     have qL:=Kh (show Below w.heap.size w H from An (qN.1.trans (lI.1.mono (by have:=hT.1;have:=dE.1;omega))) aX.1 (kU hT.1 nV.1) hT.1);clear hc;go_wp2
     (first|go_ret2|go_ret)
     exact⟨⟨M,rfl,⟨by have:=hT.1;have:=dE.1;omega,λv g hv hg=>by
      have e:=hv.symm.trans qO.1;injection e with e
      subst e;have h1:=qQ.1 g hg;have:=hT.1;have:=dE.1;omega⟩,by rw[gL.1];exact oH.1⟩,qL.1⟩
end Go.Proofs.YtenlbhlllgppmaaGreatDoor
