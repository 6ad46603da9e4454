/- Contract of symbols.New: the space of modular symbols, given what manin.Relations returns. -/
import Derived.Test.YtenlbhlllgppmaaGreatDoorC23
set_option maxRecDepth 100000
set_option maxHeartbeats 8000000
namespace Go.Proofs.YtenlbhlllgppmaaGreatDoor
open Go.RowKit Eli Tryz
def V1 (R C:Nat) (f:Nat->Int) (e:Ending) (w':World):Prop:=
 ∃gA oA cA,e=.returned (.tuple #[.agg #[.int .i64 R,.int .i64 C,.slice (some ⟨gA,oA,none⟩) (R*C:Nat) cA],.int .i64 0])/\gA<w'.heap.size/\(∀j,j<R*C->ZE (f j) w' gA (oA+j*2))/\R*C<=cA/\cA<=9223372036854775807
theorem RowTab.start {X X':Nat->Nat->Rat} {N:Nat} {w w':World} {GR C B B' I:Nat} (h:RowTab X N w GR C C B) (E:Below B' w w') (J:GR<B'):RowTab X' N w' GR C C I:=
 ⟨⟨nN h.stk.1 E.size,λi v U=>h.stk.2 i v ((E.cell (p:=⟨GR,i,none⟩) J).symm.trans U)⟩,
  λi M=>(World.frozen?_of_block (a:=⟨GR,i,none⟩) (E.block GR J)).trans (h.free i M),
  λi M=>by rw[E.cell (p:=⟨GR,i,none⟩) J];exact h.has i M,
  λj V O=>absurd O (by omega)⟩
theorem NL.but {l:List Nat} {w w':World} {B G:Nat} {v:Value} (h:NL l w B v) (hg:w.grownBy w' (some G)) (M:∀g,v.ownBlock=some g->g≠G):NL l w' B v:=by
 rcases h with h |⟨g,cap,e,O,I,J,V⟩
 ·exact .inl h
 ·exact .inr ⟨g,cap,e,O,I,J,λj x U=>hg.cell (V j x U) (λE=>by injection E with E;exact M g (by rw[e];rfl) E)⟩
theorem Tk (X:Nat->Nat->Rat) (h:Nat->Nat) (r:List (Nat×Rat)) (i:Nat):D6 (λj i=>X j (h i)) r i=D6 X r (h i):=by
 induction r with
 | nil=>rfl
 | cons x r ih=>rw[D6,D6,ih]
theorem cK {L:Nat->List (Nat×Rat)} {C j i:Nat} (V:j<C) (Z:L j=[]) (I:i<(frs L C).length):(frs L C).getD i 0=j↔i=(frs L j).length:=by
 obtain⟨E,J⟩:=Xm L V Z;have O:(frs L C).getD i 0=(frs L C)[i]:=by rw[List.getD_eq_getElem?_getD,List.getElem?_eq_getElem I];rfl
 have U:(frs L C)[(frs L j).length]=j:=by rw[List.getElem?_eq_getElem E]at J;injection J
 have M:=List.pairwise_iff_getElem.1 (Gx L C);rw[O];constructor
 ·intro e
  rcases Nat.lt_trichotomy i (frs L j).length with h|h|h
  ·have:=M i _ I E h;omega
  ·exact h
  ·have:=M _ i E I h;omega
 ·intro e;subst e;exact U
theorem Wj (N k D:Int) (R C:Nat) (f:Nat->Int) (w:World) (hrel:∀w1,Below w.heap.size w w1->Calls prog 47 #[.agg #[.int .i64 N,.int .i64 k,.int .i64 D]] w1 λe w'=>V1 R C f e w'/\Below w1.heap.size w1 w')
  (hR:R<=1000) (h0:0<C) (hC:C<=72) (hf:∀j,(f j).natAbs<=16777216):
  Calls prog 11 #[.agg #[.int .i64 N,.int .i64 k,.int .i64 D]] w λe w'=>(∃M,e=.returned (.tuple #[.pointer (some ⟨M,0,none⟩),.int .i64 0])/\(w.heap.size<=M/\∀v g,w'.cell? ⟨M,3,none⟩=some v->v.ownBlock=some g->w.heap.size<=g)/\ModAt w' M w'.heap.size N k D (frs (elim C (Bx C f) R) C) C (B6 (elim C (Bx C f) R) C C))/\Below w.heap.size w w':=by
 have oB:=Kh hrel;have hH:=Kh (Good.elim (n:=C) (B:=16777216) (by omega) (C6 hf) (Dt C f) R);have HF:=Kh hf;have tU:=kO C (by omega);obtain⟨L,hL⟩:∃L,elim C (Bx C f) R=L:=⟨_,rfl⟩
 rw[hL]at hH ⊢;have HL:=Kh hL;clear hrel hf hL;go_enter func11,ntmps11
 go_wp2_with fail
 obtain⟨w0,rX,X0,gF⟩:=bx1 w #[.int .i64 N,.int .i64 k,.int .i64 D] 23;rw[rX];have vE:∀(w:World) (a:Option Addr) (n c n' c':Nat),(binOp .eql 107 (.slice a n c) (.slice none n' c')).run prog w=.ok (.bool a.isNone) w:=λw a n c n' c'=>Lib.run_eql_slice_nil w _ _ a n c n' c' underlying107
 have qS:=Kh X0;have sM:=Kh gF;clear rX;refine(oB.1 w0 gF).mono ?_;rintro e w1 ⟨⟨gA,oA,cA,rfl,rJ,hA,rH,rI⟩,oW⟩;go_wp2_with fail
 have oN:=Kh (gF.trans (oW.mono gF.size));have qT:=Kh ((qS.1.below_ oW (by have:=X0.lt;exact this)));obtain⟨w2,rY,X2,hP⟩:=bx1 w1 #[.int .i64 R,.int .i64 C,.slice (some ⟨gA,oA,none⟩) (R*C) cA] 99;rw[rY];have qU:=Kh (bk qT hP);refine(Oo R C gA oA cA f w2 (nN rJ hP.size) (λj hj=>(hA j hj).keep hP) hR h0 hC rH rI HF.1).mono ?_;rintro e w3 ⟨⟨G,rfl,tN,mB⟩,cD⟩;rw[HL.1]at mB;have hX:=Kh mB;have oM:=Kh (oN.1.trans ((hP.trans (cD.mono hP.size)).mono oN.1.size));have nD:=Kh (bk qU cD);have a0:=nD.1.at_ 0 rfl;have a1:=nD.1.at_ 1 rfl;have a2:=nD.1.at_ 2 rfl;clear X0 gF oW rJ hA rH rI rY X2 hP mB cD oB HL HF qS qT qU oN sM tN;go_upto_region 5 with(fail)
 have Z:=Kh (show ∀w4,Below w3.heap.size w3 w4->(w4.cell? ⟨w.heap.size,0,none⟩=some (.int .i64 N)/\w4.cell? ⟨w.heap.size,1,none⟩=some (.int .i64 k)/\w4.cell? ⟨w.heap.size,2,none⟩=some (.int .i64 D))from λw4 hb=>⟨Ad hb a0,Ad hb a1,Ad hb a2⟩);have nR:=Z.1 _ (Below.refl _ w3).drew
 go_region_held3 (λw4=>w4.cell? ⟨w.heap.size,0,none⟩=some (.int .i64 N)/\w4.cell? ⟨w.heap.size,1,none⟩=some (.int .i64 k)/\w4.cell? ⟨w.heap.size,2,none⟩=some (.int .i64 D))
  (first|with_reducible exact nR|exact Z.1 _ ((Below.refl _ w3).drew.alloc (nL _) _)|exact Z.1 _ (((Below.refl _ w3).alloc (nL _) _).drew)|exact Z.1 _ (((Below.refl _ w3).drew.alloc (nL _) _).alloc (Nat.le_of_lt (by simp)) _)|exact Z.1 _ ((((Below.refl _ w3).alloc (nL _) _).drew).alloc (Nat.le_of_lt (by simp)) _) |(exfalso;assumption))
  (fail)
 all_goals go_wp2
 obtain⟨wn,mC⟩:∃wn,((w3.alloc (.cells (madeCells #[.slice none 0 0] C) 30)).alloc (.cells #[.int .i64 N,.int .i64 k,.int .i64 D,.slice none 0 0,.slice (some ⟨w3.heap.size,0,none⟩) C C] 106)).drew=wn:=⟨_,rfl⟩
 have oY:Below w3.heap.size w3 (w3.alloc (.cells (madeCells #[.slice none 0 0] C) 30)):=(Below.refl _ _).alloc (nL _) _;have oZ:Below (w3.alloc (.cells (madeCells #[.slice none 0 0] C) 30)).heap.size (w3.alloc (.cells (madeCells #[.slice none 0 0] C) 30)) wn:=mC▸((Below.refl _ _).alloc (nL _) _).drew;have pG:(w3.alloc (.cells (madeCells #[.slice none 0 0] C) 30)).heap.size=w3.heap.size+1:=by simp
 have nV:wn.heap.size=w3.heap.size+1+1:=by
  have tS:∀x:World,x.drew.heap.size=x.heap.size:=λ_=>rfl
  rw[<-mC,tS];simp
 obtain⟨F,hF⟩:∃F,frs L C=F:=⟨_,rfl⟩
 have eX:=Kh hF;have qZ:F.length<=C:=hF▸Gi L C;have U:=RowTab.made (λj i=>B6 L C 0 j (F.getD i 0)) F.length w3 C;have U:=(U.keep (Nat.le_of_eq pG.symm) oZ)
 have gI:Blk wn (w3.heap.size+1) 106 #[.int .i64 N,.int .i64 k,.int .i64 D,.slice none 0 0,.slice (some ⟨w3.heap.size,0,none⟩) C C]:=by
  have h:=Blk.new (w3.alloc (.cells (madeCells #[.slice none 0 0] C) 30)) 106 #[.int .i64 N,.int .i64 k,.int .i64 D,.slice none 0 0,.slice (some ⟨w3.heap.size,0,none⟩) C C];rw[pG]at h;exact mC▸h.below_ (Below.refl _ _).drew h.lt
 have oQ:=Kh (oY.trans (oZ.mono oY.size));rw[mC];obtain⟨GR,eG⟩:∃GR,w3.heap.size=GR:=⟨_,rfl⟩
 obtain⟨M,hM⟩:∃M,GR+1=M:=⟨_,rfl⟩
 have hN:=Kh (show w.heap.size<=GR from eG▸oM.1.size);have qH:=Kh (show ∀w',Below GR w3 w'->LeadTab L w' G C GR from λw' hb=>eG▸hX.1.keep (nL _) (eG▸hb));have hW:=Kh (show G<GR from eG▸hX.1.stk.1);rw[eG]at oQ;rw[eG]at U gI nV ⊢;rw[hM]at U gI nV ⊢;have oC:=Kh U;have qI:=Kh gI;have vJ:=Kh nV;have sQ:=Kh (oM.1.trans (oQ.1.mono hN.1));have vI:=Kh eG;have eF:=Kh hM;have qF:=Kh qZ;clear U gI nV mC oY oZ pG Z nR eG hM hF qZ a0 a1 a2 nD hX tU oM;go_loopw [34] (λii wr=>∃(j:Nat) (fv:Value),j<=C/\ii=.int .i64 j/\Blk wr M 106 #[.int .i64 N,.int .i64 k,.int .i64 D,fv,.slice (some ⟨GR,0,none⟩) C C]/\OwnN (frs L j) wr (M+1) fv/\Below M wn wr) (λii _=>C - (intOf ii).toNat)
 case atStart=>exact⟨0,_,Nat.zero_le _,rfl,qI.1,OwnN.nil _ _,Below.refl _ _⟩
 case round=>
  obtain⟨j,fv,hj,rfl,gI,oJ,pA⟩:=hrel;have O:=Kh gI;have bA:=Kh oJ;have nA:=Kh pA;have pX:=Kh (oQ.1.trans (pA.mono (eF.1▸Nat.le_succ _)));clear gI oJ pA qI;by_cases hjc:j<C
  ·have uW:(j:Int)<(C:Int):=by omega
   obtain⟨lv,l0,gN,cF⟩:=(qH.1 wr pX.1).val j hjc;by_cases hL0:L j=[]
   ·obtain rfl:=cF hL0
    have hI:=Kh hL0;have m3:=O.1.at_ 3 rfl;have f3:=O.1.free_ 3;clear hL0 cF gN;obtain⟨xs,rA⟩:∃xs,OwnK NotU32 wr (M+1) 3 1 fv (frs L j).length xs/\xs=(frs L j).map λn:Nat=>Value.int .i64 (n:Int):=⟨_,bA.1,rfl⟩
    have nB:=Kh rA;have tQ:=O.1.lt;have qG:=Kh (nM (Gi L j) hj);clear rA;go_wp2_with (at_builtin;refine Bk NotU32 rfl (.tmp 45) (.tmp 47) _ 3 rfl underlying93 Es rfl (by decide) (M+1) (frs L j).length fv xs [.int .i64 (j:Int)] rfl nB.1.1 rfl rfl (by intro u hu;simp at hu;subst hu;rfl) (by have:=qG.1;omega) (by have:=qG.1;omega) (by omega) (by intro u hu;simp at hu;subst hu;exact λ_ h=>by cases h) (by intro u hu;simp[Value.cells]at hu;subst hu;exact λ_ h=>by cases h) ?_;intro v9 w9 gL oH rC;obtain⟨p9,c9,rfl⟩:=Bg gL.1;have qL:=Kh gL;have qE:=Kh oH;have rM:=qE.1.block M tQ (λe=>by have:=Cl nB.1.1.1 e;omega);have hB:Blk w9 M 106 #[.int .i64 N,.int .i64 k,.int .i64 D,fv,.slice (some ⟨GR,0,none⟩) C C]:=(by have h:=O.1;unfold Blk at h ⊢;rw[rM];exact h);have qJ:=Kh hB;have n3:=hB.at_ 3 rfl;have vW:=hB.free_ 3;clear gL oH rC rM hB)
    have qB:=Kh (show Below M wn w9 from nA.1.trans ((At (Below.refl _ _) nB.1.1.1 qE.1 (nL _) (by omega)).mono (Nat.le_succ M)))
    have sV:=Kh (show OwnN (frs L (j+1)) (w9.setCell ⟨M,3,none⟩ (.slice p9 ((frs L j).length+1) c9)) (M+1) (.slice p9 ((frs L j).length+1) c9)by
     rw[Dc,if_pos hI.1];refine OwnN.push ?_;rw[<-nB.1.2];exact⟨ownsRow_setCell_below qL.1.1 (nO M) _,λg hg=>Be (qL.1.2 g hg) _ _ (λ_ h=>by cases h)⟩)
    go_roundw
    case rel=>exact⟨j+1,_,by omega,by go_num,qJ.1.set_ 3 _,sV.1,qB.1.setCell (p:=⟨M,3,none⟩) (nL _) _⟩
    case measure=>simp[intOf];omega
   ·obtain⟨b,hb⟩:=(hH.1.head j).resolve_left hL0
    have cI:=gN;rw[hb]at cI;obtain⟨gl,ol,cl,rfl,_,_,_,_,_⟩:=cI.cons;have hI:=Kh (show frs L (j+1)=frs L j by rw[Dc,if_neg hL0]);clear hL0 cF gN cI hb;go_wp2;go_roundw
    case rel=>exact⟨j+1,fv,by omega,by go_num,O.1,by rw[hI.1];exact bA.1,nA.1⟩
    case measure=>simp[intOf];omega
  ·obtain rfl:C=j:=by omega
   obtain⟨pf,cf,rfl⟩:=Bg (show OwnK NotU32 wr (M+1) 3 1 fv (frs L C).length _ from bA.1).1;rw[eX.1]at bA O;obtain⟨wp,rfl⟩:∃wp:World,wp=wr:=⟨_,rfl⟩
   have cT:=Kh (λg (hg:(Value.slice pf F.length cf).ownBlock=some g)=>show g≠GR by
    have h1:=Cl (show OwnK NotU32 wp (M+1) 3 1 (.slice pf F.length cf) F.length _ from bA.1).1 hg.symm;have:=eF.1;omega)
   have sT:=Kh (λg (hg:(Value.slice pf F.length cf).ownBlock=some g)=>Cl (show OwnK NotU32 wp (M+1) 3 1 (.slice pf F.length cf) F.length _ from bA.1).1 hg.symm);have sU:=Kh (show NL F wp wp.heap.size (.slice pf F.length cf)from OwnN.nl bA.1);have qR:=Kh (show RowTab (λj i=>B6 L C 0 j (F.getD i 0)) F.length wp GR C C wp.heap.size from oC.1.start nA.1 (eF.1▸nO GR));have m3:=O.1.at_ 3 rfl;have vH:=Kh (show(frs L C).length=F.length by rw[eX.1]);have pZ:=Kh (show GR<=wp.heap.size by have:=O.1.lt;have:=eF.1;omega);have oV:M≠GR:=by have:=eF.1;omega
   have uX:=G4 F.length (by have:=qF.1;omega);clear bA oC;have uS:F.length<=72:=nM qF.1 hC;go_wp2_with fail
   go_loopw [10,11] (λtZ pO E=>∃q:Nat,q<=C/\tZ=.int .i64 ((frs L (C - q)).length:Nat)/\pO=.int .i64 ((C:Int) - 1 - (q:Nat))/\RowTab (λj i=>B6 L C q j (F.getD i 0)) F.length E GR C (C - q) E.heap.size/\wp.grownBy E (some GR)/\I32 wp E) (λ_ pO _=>(intOf pO+1).toNat)
   case atStart=>exact⟨0,Nat.zero_le _,by rw[Nat.sub_zero,eX.1],by congr 1;omega,by rw[Nat.sub_zero];exact qR.1,Ag GR (Below.refl _ _),I32.refl _⟩
   case round=>
    obtain⟨q,rP,rfl,rfl,rS,pD,qY⟩:=hrel;obtain⟨E,rfl⟩:∃E:World,E=wr:=⟨_,rfl⟩
    have bY:=Kh pD;have pW:=Kh qY;have V:=Kh rS;have sP:=Kh (show Below GR w3 E from Aq pX.1 pD pZ.1 (nL _));clear rS pD qY qR m3;by_cases hqC:q<C
    ·obtain⟨j,hj⟩:∃j,j+1+q=C:=⟨C - 1 - q,by omega⟩
     have nQ:(C:Int) - 1 - (q:Int)=(j:Nat):=by omega
     have ej:C - q=j+1:=by omega
     have vQ:(0:Int)<=(j:Int):=by omega
     have cM:j<C:=by omega
     have uV:(j:Int)<(C:Int):=by omega
     rw[nQ,ej];rw[ej]at V;have cS:=Kh hj;have m3:=bY.1.cell (O.1.at_ 3 rfl) (λe=>by injection e with e;exact oV e);have m4:=bY.1.cell (O.1.at_ 4 rfl) (λe=>by injection e with e;exact oV e);clear nQ ej hj
     have hV:=Kh (show ∀w8,Below E.heap.size E w8->QRow (λi=>IsQ (Eli.newRow L (B6 L C q) j (F.getD i 0))) w8 E.heap.size F.length F.length ->
       RowTab (λj i=>B6 L C (q+1) j (F.getD i 0)) F.length (w8.setCell ⟨GR,j,none⟩ (.slice (some ⟨E.heap.size,0,none⟩) F.length F.length)) GR C (C - (q+1)) (w8.setCell ⟨GR,j,none⟩ (.slice (some ⟨E.heap.size,0,none⟩) F.length F.length)).heap.size /\
       wp.grownBy (w8.setCell ⟨GR,j,none⟩ (.slice (some ⟨E.heap.size,0,none⟩) F.length F.length)) (some GR)/\I32 wp (w8.setCell ⟨GR,j,none⟩ (.slice (some ⟨E.heap.size,0,none⟩) F.length F.length))by
      intro w8 hb U;have h1:=(V.1.keep (nL _) hb).up hb.size;have e1:C - (q+1)=j:=by have:=cS.1;omega
      have e2:C - 1 - q=j:=by have:=cS.1;omega
      rw[e1];refine⟨(h1.put (X':=λj i=>B6 L C (q+1) j (F.getD i 0)) cM U.sts.1 (Nat.ne_of_gt V.1.stk.1) (λi hi=>?_) (λj' h1 h2 i hi=>?_)).up (Nat.le_of_eq (by simp)),(bY.1.trans (Ag GR hb)).trans (Ar w8 GR j _),(pW.1.trans (I32.below hb)).trans (I32.putU (h1.stk.imp λ_=>SliceV.notU32) j _)⟩
      ·have h:=U.val i hi
       have e3:B6 L C (q+1) j (F.getD i 0)=Eli.newRow L (B6 L C q) j (F.getD i 0):=by rw[B6];simp only;rw[if_pos e2.symm]
       rw[e3];exact h
      ·rw[B6];simp only;rw[if_neg (by omega)])
     go_wp2_with fail
     have pF:=QRow.made (λ_=>IsQ 0) E F.length;obtain⟨wx,pI⟩:∃wx,E.alloc (.cells (madeCells #[.bool false,.slice none 0 0,.bool false,.slice none 0 0] (F.length*4)) 86)=wx:=⟨_,rfl⟩
     have rG:Below E.heap.size E wx:=pI▸(Below.refl _ _).alloc (nL _) _;rw[pI]at pF ⊢;have qQ:=Kh pF;have qC:=Kh rG;clear pF rG pI;go_loopw [72] (λii w6=>∃i:Nat,i<=F.length/\ii=.int .i64 i/\QRow (λ_=>IsQ 0) w6 E.heap.size F.length i/\Below E.heap.size E w6) (λii _=>F.length - (intOf ii).toNat)
     case atStart=>exact⟨0,Nat.zero_le _,rfl,qQ.1,qC.1⟩
     case round=>
      obtain⟨i,hi,rfl,U,rD⟩:=hrel;obtain⟨w6,rfl⟩:∃w6:World,w6=wr:=⟨_,rfl⟩
      have aX:=Kh U;have dY:=Kh rD;clear U rD qQ qC;by_cases hiF:i<F.length
      ·have vP:(i:Int)<(F.length:Int):=by omega
       go_wp2_with fail
       refine(Du 0 w6 (by omega) (by omega)).mono ?_;rintro e w7 ⟨⟨s3,p3,n3,c3,t3,q3,gP,d3,rfl,mA⟩,cD⟩;have I:=QRow.keep (λ_=>IsQ.solid _) aX.1 cD;have sW:=Kh (QRow.set (k':=i+1) (λ_=>IsQ.solid _) I i hiF (λ_=>IsQ 0) (IsQ.solid _) (λi' h1 h2=>⟨by omega,rfl⟩) (show IsQ 0 w7 s3 p3 n3 c3 t3 q3 gP d3 from mA));have sN:=bt dY cD;obtain⟨u0,rU⟩:=nP (I.has (i*4) (by omega));obtain⟨u1,rV⟩:=nP (I.has (i*4+1) (by omega));obtain⟨u2,hu2⟩:=nP (I.has (i*4+2) (by omega));obtain⟨u3,rW⟩:=nP (I.has (i*4+3) (by omega));have f0:=I.free (i*4) (by omega);have f1:=I.free (i*4+1) (by omega);have f2:=I.free (i*4+2) (by omega);have f3:=I.free (i*4+3) (by omega);clear mA cD I;go_wp2;go_roundw
       case rel=>exact⟨i+1,by omega,by go_num,sW.1,A3 sN.1⟩
       case measure=>simp[intOf];omega
      ·obtain rfl:F.length=i:=by omega
       obtain⟨lv,l5,gN,cF⟩:=(qH.1 E sP.1).val j cM;have l0:=Ad dY.1 l5;clear l5;by_cases hL0:L j=[]
       ·obtain rfl:=cF hL0
        have nT:=Xm L cM hL0;have nU:=λi (hi:i<F.length)=>cK (i:=i) cM hL0 (by rw[eX.1];exact hi)
        have oT:(frs L (j+1)).length=(frs L j).length+1:=by rw[Dc,if_pos hL0,List.length_append];rfl
        rw[eX.1]at nT nU;obtain⟨pos,iL⟩:∃pos,(frs L j).length=pos:=⟨_,rfl⟩
        rw[iL]at nT nU oT;rw[oT];have qD:=Kh nU;have rN:=nT.1;have hI:=Kh hL0;have qM:=Kh iL;have vT:(pos:Int)<(F.length:Int):=by omega
        have vS:(0:Int)<=(pos:Int):=by omega
        clear hL0 cF gN nT nU oT iL;go_wp2_with fail
        refine(Du 1 w6 (by omega) (by omega)).mono ?_;rintro e w7 ⟨⟨s3,p3,n3,c3,t3,q3,gP,d3,rfl,mA⟩,cD⟩;have I:=QRow.keep (λ_=>IsQ.solid _) aX.1 cD
        have rO:=QRow.set (k':=F.length) (λ_=>IsQ.solid _) I pos rN (λi=>IsQ (Eli.newRow L (B6 L C q) j (F.getD i 0))) (IsQ.solid _) (λi' h1 h2=>⟨h1,by
         show IsQ 0=_;rw[Eli.newRow,if_pos hI.1,if_neg (λe=>h2 ((qD.1 i' h1).1 e))]⟩) (show IsQ (Eli.newRow L (B6 L C q) j (F.getD pos 0)) w7 s3 p3 n3 c3 t3 q3 gP d3 by
         rw[Eli.newRow,if_pos hI.1,if_pos ((qD.1 pos rN).2 rfl)];exact mA)
        have oX:=dY.1.trans (cD.mono dY.1.size);have J:=Kh (hV.1 _ (A3 oX) rO);obtain⟨u0,rU⟩:=nP (I.has (pos*4) (by omega));obtain⟨u1,rV⟩:=nP (I.has (pos*4+1) (by omega));obtain⟨u2,hu2⟩:=nP (I.has (pos*4+2) (by omega));obtain⟨u3,rW⟩:=nP (I.has (pos*4+3) (by omega));have f0:=I.free (pos*4) (by omega);have f1:=I.free (pos*4+1) (by omega);have f2:=I.free (pos*4+2) (by omega);have f3:=I.free (pos*4+3) (by omega);have cX:Below E.heap.size E ((((w7.setCell ⟨E.heap.size,pos*4,none⟩ (.bool s3)).setCell ⟨E.heap.size,pos*4+1,none⟩ (.slice p3 n3 c3)).setCell ⟨E.heap.size,pos*4+2,none⟩ (.bool t3)).setCell ⟨E.heap.size,pos*4+3,none⟩ (.slice q3 gP d3)):=A3 oX;have m8:=Ad cX m4;have cC:=V.1.keep (nL _) cX;obtain⟨uG,hO⟩:=nP (cC.has j cM);have hQ:=cC.free j cM;have nC:=Kh (And.intro m8 (And.intro hO hQ));have HQ:=Kh (show(C:Int) - 1 - ((q+1:Nat):Int)=(j:Int) - 1 by have:=cS.1;omega);have hT:=Kh (show C - (q+1)=j by have:=cS.1;omega);clear mA cD I rO oX cX m8 cC hO hQ m3 m4;go_upto_region 30 with(fail)
        have m8:=nC.1.1;have hO:=nC.1.2.1;have hQ:=nC.1.2.2;obtain⟨w8,rZ⟩:∃w8,((((w7.setCell ⟨E.heap.size,pos*4,none⟩ (.bool s3)).setCell ⟨E.heap.size,pos*4+1,none⟩ (.slice p3 n3 c3)).setCell ⟨E.heap.size,pos*4+2,none⟩ (.bool t3)).setCell ⟨E.heap.size,pos*4+3,none⟩ (.slice q3 gP d3))=w8:=⟨_,rfl⟩
        rw[rZ]at m8 hO hQ J ⊢;clear rZ nC rU rV hu2 rW f0 f1 f2 f3;go_wp2;go_roundw
        case rel=>exact⟨q+1,by omega,by rw[hT.1,qM.1],by rw[HQ.1],J.1.1,J.1.2.1,J.1.2.2⟩
        case measure=>simp[intOf]
       ·obtain⟨b,hb⟩:=(hH.1.head j).resolve_left hL0
        have cI:=gN;rw[hb]at cI;obtain⟨gl,ol,cl,rfl,pC,uT,rK,_,pH⟩:=cI.cons;have hD:=hH.1.ord j;rw[hb]at hD;have nZ:=Kh hD.2.2.2;have qA:=Kh (show ∀x,x∈b->hq x.2<=80 from λx hx=>nM (hH.1.size j x (by rw[hb];exact List.mem_cons_of_mem _ hx)) (Nx hC (nL _)));have oO:=Kh (show b.length<=72 from nM (Dx hD.2.2.2) (by omega));have hJ:=Kh (And.intro hb hL0);have tR:b.length<=cl:=pC;have rE:b.length<=72:=oO.1;clear hL0 cF gN cI hb hD;rcases Nat.eq_zero_or_pos cl with oG|oG
        ·subst oG
         have gF:b=[]:=List.eq_nil_of_length_eq_zero (by omega);subst gF;have gS:=Kh (show QRow (λf=>IsQ (D6 (λj i=>B6 L C q j (F.getD i 0)) (List.take 0 ([]:List (Nat×Rat))).reverse f)) w6 E.heap.size F.length F.length from aX.1);clear pH pC rK tR rE aX;rw[List.length_nil]at l0;go_wp2_with fail
         go_loopw [97] (λii w8=>ii=.int .i64 0/\QRow (λf=>IsQ (D6 (λj i=>B6 L C q j (F.getD i 0)) (List.take 0 ([]:List (Nat×Rat))).reverse f)) w8 E.heap.size F.length F.length/\Below E.heap.size E w8) (λ_ _=>0)
         case atStart=>exact⟨rfl,gS.1,dY.1⟩
         case round=>
          obtain⟨rfl,cG,cX⟩:=hrel;obtain⟨w8,rfl⟩:∃w8:World,w8=wr:=⟨_,rfl⟩
          have cB:=Kh cG;have bE:=Kh cX;clear cG cX gS dY l0;have J:=Kh (hV.1 w8 bE.1 (QRow.congr cB.1 (λf hf=>by rw[Tk (B6 L C q) (λi=>F.getD i 0),Eli.newRow,if_neg hJ.1.2,hJ.1.1];rfl)));have cC:=V.1.keep (nL _) bE.1;have m8:=Ad bE.1 m4;obtain⟨uG,hO⟩:=nP (cC.has j cM);have hQ:=cC.free j cM;have HQ:=Kh (show(C:Int) - 1 - ((q+1:Nat):Int)=(j:Int) - 1 by have:=cS.1;omega);have hT:=Kh (show C - (q+1)=j by have:=cS.1;omega);have hU:=Kh (show(frs L (j+1)).length=(frs L j).length by rw[Dc,if_neg hJ.1.2]);clear cC;go_wp2;go_roundw
          case rel=>exact⟨q+1,by omega,by rw[hT.1,hU.1],by rw[HQ.1],J.1.1,J.1.2.1,J.1.2.2⟩
          case measure=>simp[intOf]
        go_wp2_with fail
        have tB:=Kh pH;have rB:=V.1.stk.1;clear pH l0 pC rK;have qO:=Kh (show QRow (λf=>IsQ (D6 (λj i=>B6 L C q j (F.getD i 0)) (b.take 0).reverse f)) w6 E.heap.size F.length F.length from aX.1);clear aX;go_loopw [97] (λii w8=>∃i:Nat,i<=b.length/\ii=.int .i64 i/\QRow (λf=>IsQ (D6 (λj i=>B6 L C q j (F.getD i 0)) (b.take i).reverse f)) w8 E.heap.size F.length F.length/\Below E.heap.size E w8) (λii _=>b.length - (intOf ii).toNat)
        case atStart=>exact⟨0,Nat.zero_le _,rfl,qO.1,dY.1⟩
        case round=>
         obtain⟨i,hi,rfl,cG,cX⟩:=hrel;obtain⟨w8,rfl⟩:∃w8:World,w8=wr:=⟨_,rfl⟩
         have cB:=Kh cG;have bE:=Kh cX;clear cG cX qO dY;by_cases hib:i<b.length
         ·have uU:(i:Int)<(b.length:Int):=by omega
          obtain⟨y,hy⟩:∃y,b[i]?=some y:=⟨_,List.getElem?_eq_getElem hib⟩
          have sB:y∈b:=List.mem_of_getElem? hy;rcases tB.1 with⟨h0,_⟩ |⟨gb,ob,uP,e,_,_,tT,rT⟩
          ·rw[h0]at hib;simp at hib
          cases e;obtain⟨e0,s,p,n,c,t,q',m',d',e1,e2,e3,e4,rQ⟩:=(rT i y hy).next tT (I32.below bE.1) (bE.1.mono (Nat.le_of_lt rB))
          have sY:=Kh (show Qs w8 s p n c t q' m' d' y.2 from rQ);clear rT rQ;go_wp2_with fail
          obtain⟨wb,nW⟩:∃wb,w8.alloc (.cells #[.int .i64 (y.1:Int),.bool s,.slice p n c,.bool t,.slice q' m' d'] 110)=wb:=⟨_,rfl⟩
          have nS:Below w8.heap.size w8 wb:=nW▸(Below.refl _ _).alloc (nL _) _;have X:=nW▸Blk.new w8 110 #[.int .i64 (y.1:Int),.bool s,.slice p n c,.bool t,.slice q' m' d'];rw[nW];obtain⟨gt,rL⟩:∃gt,w8.heap.size=gt:=⟨_,rfl⟩
          rw[rL]at X ⊢
          obtain⟨hv1,hv2,tV⟩:j+1<=y.1/\y.1<C/\y.2≠0:=by
           obtain⟨_,h1,h2,h3⟩:=Dn nZ.1 y sB;exact⟨h1,h2,h3⟩
          have vV:(y.1:Int)<(C:Int):=by omega
          have HV:=Kh (And.intro hv1 hv2);have gU:=bE.1.trans (nS.mono bE.1.size);obtain⟨gr,rr,hZ,pE,rR⟩:=V.1.val y.1 hv1 hv2;have sZ:=Kh (λw' (hb:Below E.heap.size E w') i (hi:i<F.length)=>(rR i hi).next hZ (I32.below hb) hb);have hW:=Kh hZ;have b0:=X.at_ 0 rfl;have b1:=X.at_ 1 rfl;have b2:=X.at_ 2 rfl;have b3:=X.at_ 3 rfl;have b4:=X.at_ 4 rfl;have mm:=Ad gU m4;have sC:=Ad gU rr;have Z:=Kh (show ∀w',Below wb.heap.size wb w'->(w'.cell? ⟨gt,0,none⟩=some (.int .i64 (y.1:Int))/\w'.cell? ⟨gt,1,none⟩=some (.bool s)/\w'.cell? ⟨gt,2,none⟩=some (.slice p n c)/\w'.cell? ⟨gt,3,none⟩=some (.bool t)/\w'.cell? ⟨gt,4,none⟩=some (.slice q' m' d')/\w'.cell? ⟨M,4,none⟩=some (.slice (some ⟨GR,0,none⟩) C C)/\w'.cell? ⟨GR,y.1,none⟩=some (.slice (some ⟨gr,0,none⟩) F.length F.length))from λw' hb=>⟨Ad hb b0,Ad hb b1,Ad hb b2,Ad hb b3,Ad hb b4,Ad hb mm,Ad hb sC⟩);have cT:=Kh (show gt≠E.heap.size/\M≠E.heap.size/\GR≠E.heap.size from⟨by have:=cB.1.sts.1;omega,Nat.ne_of_lt (World.block_lt_of_cell? E ⟨M,4,none⟩ m4),Nat.ne_of_lt rB⟩);have sX:=Kh (sY.1.keep nS);have oP:=Kh (cB.1.keep (λ_=>IsQ.solid _) nS);have dE:=Kh gU;have qW:=Kh (qA.1 y sB)
          have qV:=Kh (show ∀t1 i,j+1<=t1->t1<C->i<F.length->hq (B6 L C q t1 (F.getD i 0))<=80 from λt1 i h1 h2 h3=>by
           have hm:F.getD i 0∈frs L C:=by
            rw[eX.1,List.getD_eq_getElem?_getD,List.getElem?_eq_getElem h3];exact List.getElem_mem h3
           obtain⟨f1,f2⟩:=Gw.1 hm;exact nM (O5 (by omega) hH.1 (by have:=cS.1;omega) rP h2 f1 f2) (Nx hC (nL _)))
          have sS:=Kh (show ∀f,f<F.length->hq (D6 (λj i=>B6 L C q j (F.getD i 0)) (b.take i).reverse f)<=100000 from λf hf=>by
           have h1:=P6 (X:=(λj i=>B6 L C q j (F.getD i 0))) (K:=80) (f:=f) (b.take i).reverse (λx hx=>qA.1 x (List.mem_of_mem_take (List.mem_reverse.1 hx))) (λx hx=>by
            obtain⟨_,h1,h2,_⟩:=Dn nZ.1 x (List.mem_of_mem_take (List.mem_reverse.1 hx));exact qV.1 x.1 f h1 h2 hf)
           have h2:(b.take i).reverse.length<=72:=by rw[List.length_reverse,List.length_take];omega
           have h3:=Nat.mul_le_mul_right (2*80+1) h2;omega)
          have tC:=Kh (show ∀f,D6 (λj i=>B6 L C q j (F.getD i 0)) (b.take (i+1)).reverse f=D6 (λj i=>B6 L C q j (F.getD i 0)) (b.take i).reverse f+-y.2*B6 L C q y.1 (F.getD f 0)from λf=>by
           rw[List.take_add_one,hy,Option.toList_some,List.reverse_append];rfl)
          have nR:=Z.1 _ (Below.refl _ wb).drew;clear nW nS X gU rr sC rR b0 b1 b2 b3 b4 mm hZ pE rL e0 e1 e2 e3 e4 hv1 hv2 tV;go_upto_region 28 with(fail)
          go_region_held3 (λw'=>w'.cell? ⟨gt,0,none⟩=some (.int .i64 (y.1:Int))/\w'.cell? ⟨gt,1,none⟩=some (.bool s)/\w'.cell? ⟨gt,2,none⟩=some (.slice p n c)/\w'.cell? ⟨gt,3,none⟩=some (.bool t)/\w'.cell? ⟨gt,4,none⟩=some (.slice q' m' d')/\w'.cell? ⟨M,4,none⟩=some (.slice (some ⟨GR,0,none⟩) C C)/\w'.cell? ⟨GR,y.1,none⟩=some (.slice (some ⟨gr,0,none⟩) F.length F.length))
           (first|with_reducible exact nR|with_reducible exact tA.1|exact Z.1 _ bB |(exfalso;assumption))
           (first
            |(go_at_call 51;refine(I5 s p n c t q' m' d' y.2 _ (sX.1.keep (by first|exact(Below.refl _ wb).drew|exact Below.refl _ wb)) (by have:=qW.1;omega)).mono ?_;rintro e w9 ⟨⟨s3,p3,n3,c3,t3,q3,gP,d3,rfl,tX⟩,rF⟩;have bB:Below wb.heap.size wb w9:=(by first|exact(Below.refl _ wb).drew.trans rF|exact rF))
            |(go_at_call 50;refine(bF E.heap.size F.length F.length _ (λf=>D6 (λj i=>B6 L C q j (F.getD i 0)) (b.take i).reverse f) (λf=>B6 L C q y.1 (F.getD f 0)) s3 p3 n3 c3 t3 q3 gP d3 (-y.2) w9 (oP.1.keep (λ_=>IsQ.solid _) bB) (by
              have oF:=dE.1.trans (bB.mono dE.1.size);exact .inr ⟨gr,0,F.length,rfl,Nat.ne_of_lt hW.1,nN hW.1 oF.size,λf hf=>by rw[Nat.zero_add];exact sZ.1 w9 oF f hf⟩) tX (by rw[Kg];have:=qW.1;omega) (λf hf=>⟨by have:=sS.1 f hf;omega,by have:=qV.1 y.1 f HV.1.1 HV.1.2 hf;omega⟩) (by omega)).mono ?_;rintro e eT ⟨⟨va,rfl⟩,hE,aD,oU⟩;have qP:=Kh hE;have uC:=Kh aD;have tA:=Kh (show eT.cell? ⟨gt,0,none⟩=some (.int .i64 (y.1:Int))/\eT.cell? ⟨gt,1,none⟩=some (.bool s)/\eT.cell? ⟨gt,2,none⟩=some (.slice p n c)/\eT.cell? ⟨gt,3,none⟩=some (.bool t)/\eT.cell? ⟨gt,4,none⟩=some (.slice q' m' d')/\eT.cell? ⟨M,4,none⟩=some (.slice (some ⟨GR,0,none⟩) C C)/\eT.cell? ⟨GR,y.1,none⟩=some (.slice (some ⟨gr,0,none⟩) F.length F.length)from⟨aD.cell (Z.1 _ bB).1 (λe=>cT.1.1 (by injection e)),aD.cell (Z.1 _ bB).2.1 (λe=>cT.1.1 (by injection e)),aD.cell (Z.1 _ bB).2.2.1 (λe=>cT.1.1 (by injection e)),aD.cell (Z.1 _ bB).2.2.2.1 (λe=>cT.1.1 (by injection e)),aD.cell (Z.1 _ bB).2.2.2.2.1 (λe=>cT.1.1 (by injection e)),aD.cell (Z.1 _ bB).2.2.2.2.2.1 (λe=>cT.1.2.1 (by injection e)),aD.cell (Z.1 _ bB).2.2.2.2.2.2 (λe=>cT.1.2.2 (by injection e))⟩);have pY:=Kh (show Below E.heap.size E eT from Aq (dE.1.trans (bB.mono dE.1.size)) aD (nM dE.1.size bB.size) (nL _));clear hE aD oU))
          all_goals go_wp2
          all_goals go_roundw
          all_goals first
           | exact⟨i+1,by omega,by go_num,QRow.congr qP.1 (λf hf=>by rw[tC.1 f]),pY.1⟩
           |(simp[intOf];omega)
         ·obtain rfl:b.length=i:=by omega
          have J:=Kh (hV.1 w8 bE.1 (QRow.congr cB.1 (λf hf=>by rw[List.take_length,Tk (B6 L C q) (λi=>F.getD i 0),Eli.newRow,if_neg hJ.1.2,hJ.1.1];rfl)));have cC:=V.1.keep (nL _) bE.1;have m8:=Ad bE.1 m4;obtain⟨uG,hO⟩:=nP (cC.has j cM);have hQ:=cC.free j cM;have HQ:=Kh (show(C:Int) - 1 - ((q+1:Nat):Int)=(j:Int) - 1 by have:=cS.1;omega);have hT:=Kh (show C - (q+1)=j by have:=cS.1;omega);have hU:=Kh (show(frs L (j+1)).length=(frs L j).length by rw[Dc,if_neg hJ.1.2]);clear cC;go_wp2;go_roundw
          case rel=>exact⟨q+1,by omega,by rw[hT.1,hU.1],by rw[HQ.1],J.1.1,J.1.2.1,J.1.2.2⟩
          case measure=>simp[intOf]
    ·obtain rfl:C=q:=by omega
     have nQ:(C:Int) - 1 - (C:Int)=-1:=by omega
     rw[nQ];have uY:¬((0:Int)<=-1):=by omega
     rw[Nat.sub_self]at V;have oD:=Kh (show wp.heap.size<=E.heap.size from bY.1.size);have hc:∀i v,i<5->(#[.int .i64 N,.int .i64 k,.int .i64 D,.slice pf F.length cf,.slice (some ⟨GR,0,none⟩) C C]:Array Value)[i]?=some v->E.cell? ⟨M,i,none⟩=some v:=λi v _ e=>bY.1.cell (O.1.at_ i e) (λe=>by injection e with e;exact oV e)
     have sR:=Kh (hc 3 _ (by omega) rfl)
     have qK:=Kh (show ModAt E M E.heap.size N k D F C (B6 L C C)from
      ⟨nN O.1.lt oD.1,hc 0 _ (by omega) rfl,hc 1 _ (by omega) rfl,hc 2 _ (by omega) rfl,⟨_,hc 3 _ (by omega) rfl,(sU.1.but bY.1 cT.1).up oD.1⟩,GR,hc 4 _ (by omega) rfl,V.1.stk.1,λj hj=>by
       obtain⟨g,e,hg,_,hq⟩:=V.1.val j (Nat.zero_le _) hj;refine⟨g,e,hg,λi f hf=>?_⟩
       have hi:i<F.length:=by
        rcases Nat.lt_or_ge i F.length with h|h
        ·exact h
        ·rw[List.getElem?_eq_none h]at hf;cases hf
       have h:=hq i hi;have e:F.getD i 0=f:=by rw[List.getD_eq_getElem?_getD,hf];rfl
       rw[e]at h;exact h⟩)
     have sO:=Kh (show Below w.heap.size w E from Aq (sQ.1.trans (nA.1.mono (by have:=hN.1;have:=eF.1;omega))) bY.1 (nM hN.1 pZ.1) hN.1);clear hc;go_wp2
     (first|go_ret2|go_ret)
     exact⟨⟨M,rfl,⟨by have:=hN.1;have:=eF.1;omega,λv g hv hg=>by
      have e:=hv.symm.trans sR.1;injection e with e
      subst e;have h1:=sT.1 g hg;have:=hN.1;have:=eF.1;omega⟩,by rw[eX.1];exact qK.1⟩,sO.1⟩
theorem Uc (N k D V:Int) (w:World) (hrel:∀U,Below w.heap.size w U->Calls prog 47 #[.agg #[.int .i64 N,.int .i64 k,.int .i64 D]] U λe w'=>(∃a b,e=.returned (.tuple #[.agg #[.int .i64 a,.int .i64 b,.slice none 0 0],.int .i64 V]))/\Below U.heap.size U w') (h:V≠0):
  Calls prog 11 #[.agg #[.int .i64 N,.int .i64 k,.int .i64 D]] w λe w'=>e=.returned (.tuple #[.pointer none,.int .i64 V])/\Below w.heap.size w w':=by
 have I:=Kh hrel;clear hrel;go_enter func11,ntmps11
 go_wp2_with fail
 obtain⟨w0,O,Z,E⟩:=bx1 w #[.int .i64 N,.int .i64 k,.int .i64 D] 23;rw[O];clear O Z;refine(I.1 w0 E).mono ?_;rintro e U ⟨⟨a,b,rfl⟩,M⟩;have J:=Kh (E.trans (M.mono E.size));have aD:(V != 0)=true:=by simpa using h
 clear E M I;go_wp2
 (first|go_ret2|go_ret)
 exact⟨rfl,J.1.alloc J.1.size _⟩
end Go.Proofs.YtenlbhlllgppmaaGreatDoor
