/- Contract of symbols.minus: a row less a multiple of another. -/
import Derived.Test.YtenlbhlllgppmaaGreatDoorC19
set_option linter.unusedSimpArgs false
set_option maxRecDepth 100000
set_option maxHeartbeats 8000000
namespace Go.Proofs.YtenlbhlllgppmaaGreatDoor
open Go.RowKit Eli Tryz
theorem Kd {W w':World} (g:Nat) (hg:W.heap.size=g) (E:Below (W.alloc (.cells #[.bool false,.slice none 0 0,.bool false,.slice none 0 0] 86)).heap.size (W.alloc (.cells #[.bool false,.slice none 0 0,.bool false,.slice none 0 0] 86)) w'):
  w'.cell? ⟨g,0,none⟩=some (.bool false)/\w'.cell? ⟨g,1,none⟩=some (.slice none 0 0)/\w'.cell? ⟨g,2,none⟩=some (.bool false)/\w'.cell? ⟨g,3,none⟩=some (.slice none 0 0)/\w'.frozen? ⟨g,0,none⟩=false/\w'.frozen? ⟨g,1,none⟩=false/\w'.frozen? ⟨g,2,none⟩=false/\w'.frozen? ⟨g,3,none⟩=false/\Blk w' g 86 #[.bool false,.slice none 0 0,.bool false,.slice none 0 0]:=by
 subst hg;have h:=(Blk.new W 86 #[.bool false,.slice none 0 0,.bool false,.slice none 0 0]).below_ E (by simp);exact⟨h.at_ 0 rfl,h.at_ 1 rfl,h.at_ 2 rfl,h.at_ 3 rfl,h.free_ 0,h.free_ 1,h.free_ 2,h.free_ 3,h⟩
theorem It {w w':World} {g:Nat} (I:Below w.heap.size w w') (h:w.cell? ⟨g,0,none⟩=some (.bool false)/\w.cell? ⟨g,1,none⟩=some (.slice none 0 0)/\w.cell? ⟨g,2,none⟩=some (.bool false)/\w.cell? ⟨g,3,none⟩=some (.slice none 0 0)/\w.frozen? ⟨g,0,none⟩=false/\w.frozen? ⟨g,1,none⟩=false/\w.frozen? ⟨g,2,none⟩=false/\w.frozen? ⟨g,3,none⟩=false/\Blk w g 86 #[.bool false,.slice none 0 0,.bool false,.slice none 0 0]):
  w'.cell? ⟨g,0,none⟩=some (.bool false)/\w'.cell? ⟨g,1,none⟩=some (.slice none 0 0)/\w'.cell? ⟨g,2,none⟩=some (.bool false)/\w'.cell? ⟨g,3,none⟩=some (.slice none 0 0)/\w'.frozen? ⟨g,0,none⟩=false/\w'.frozen? ⟨g,1,none⟩=false/\w'.frozen? ⟨g,2,none⟩=false/\w'.frozen? ⟨g,3,none⟩=false/\Blk w' g 86 #[.bool false,.slice none 0 0,.bool false,.slice none 0 0]:=by
 have E:=h.2.2.2.2.2.2.2.2;have h:=E.below_ I E.lt;exact⟨h.at_ 0 rfl,h.at_ 1 rfl,h.at_ 2 rfl,h.at_ 3 rfl,h.free_ 0,h.free_ 1,h.free_ 2,h.free_ 3,h⟩
theorem Ad {w w':World} {a:Addr} {v:Value} (E:Below w.heap.size w w') (h:w.cell? a=some v):w'.cell? a=some v:=(E.cell (p:=a) (World.block_lt_of_cell? w a h)).trans h
def Iv:Value->Nat
 |.slice _ n _=>n
 | _=>0
def Sml (K:Nat) (c:Rat) (a b:List (Nat×Rat)):Prop:=hq c<=K/\(∀x,x∈a->hq x.2<=K)/\(∀x,x∈b->hq x.2<=K)
theorem Sml.left {K:Nat} {c:Rat} {x:Nat×Rat} {a b:List (Nat×Rat)} (h:Sml K c (x :: a) b):Sml K c a b:=⟨h.1,λy E=>h.2.1 y (List.mem_cons_of_mem _ E),h.2.2⟩
theorem Sml.right {K:Nat} {c:Rat} {y:Nat×Rat} {a b:List (Nat×Rat)} (h:Sml K c a (y :: b)):Sml K c a b:=⟨h.1,h.2.1,λz E=>h.2.2 z (List.mem_cons_of_mem _ E)⟩
theorem Sml.first {K:Nat} {c:Rat} {x:Nat×Rat} {a b:List (Nat×Rat)} (h:Sml K c (x :: a) b):hq x.2<=K:=h.2.1 x (List.mem_cons_self ..)
theorem Sml.second {K:Nat} {c:Rat} {y:Nat×Rat} {a b:List (Nat×Rat)} (h:Sml K c a (y :: b)):hq y.2<=K:=h.2.2 y (List.mem_cons_self ..)
theorem bK (v1 v2:Value) (l1 l2:List (Nat×Rat)) (s:Bool) (p:Option Addr) (n c:Nat) (t:Bool) (q:Option Addr) (m d:Nat) (x:Rat) (K:Nat) (w:World) (h1:TL l1 w w.heap.size v1) (h2:TL l2 w w.heap.size v2) (hx:Qs w s p n c t q m d x) (hK:Sml K x l1 l2) (rM:K<=100000000) (hn:l1.length+l2.length<=1000000):
  Calls prog 95 #[v1,.agg #[.bool s,.slice p n c,.bool t,.slice q m d],v2] w λe w'=>(∃v',e=.returned v'/\OwnT (Gq x l1 l2) w' (w.heap.size+1) v')/\Below w.heap.size w w':=by
 have H1:=Kh h1;have H2:=Kh h2;have HX:=Kh hx;have HK:=Kh hK;clear h1 h2 hx hK;go_enter func95,ntmps95
 go_wp2_with fail
 obtain⟨w0,oD,X0,hD⟩:=bx1 w #[.bool s,.slice p n c,.bool t,.slice q m d] 86;rw[oD];have pJ:w0.heap.size=w.heap.size+1:=by rw[<-oD];simp
 have pT:=Kh hD;have eP:=Kh X0;have nC:=Kh (I32.below hD);have oS:=Kh (HX.1.keep hD);have pZ:=Kh pJ;have oV:=Kh ((H1.1.next nC.1 hD).up (Nat.le_succ _));have oW:=Kh ((H2.1.next nC.1 hD).up (Nat.le_succ _));have oR:=Kh (OwnT.nil w0 (w.heap.size+1));clear X0 hD oD pJ H1 H2 HX;go_loopw [0,2,7] (λva vb vo wr=>∃la lb lo,TL la wr (w.heap.size+1) va/\TL lb wr (w.heap.size+1) vb/\OwnT lo wr (w.heap.size+1) vo/\lo++Gq x la lb=Gq x l1 l2/\Sml K x la lb/\la.length+lb.length+lo.length<=l1.length+l2.length/\Below (w.heap.size+1) w0 wr/\I32 w0 wr) (λva vb _ _=>Iv va+Iv vb)
 case atStart=>exact⟨l1,l2,[],oV.1,oW.1,oR.1,rfl,HK.1,by simp,Below.refl _ _,I32.refl _⟩
 case round=>
  obtain⟨la,lb,lo,hH,cA,nA,pF,pI,hG,oB,pC⟩:=hrel;have HB:=Kh oB;have HS:=Kh pI;have eG:=Kh pC;have gI:=Kh pF;have qA:=Kh nA;have I:=Kh (show w.heap.size+1<=wr.heap.size from pZ.1▸oB.size);have cB:=Kh (show lo.length<=1000000 by omega);clear oB pI pC pF oV oW oR HK;cases la with
  | nil=>
   obtain⟨aa,ac,rfl⟩:=hH.nil;cases lb with
   | nil=>
    obtain⟨ba,bc,rfl⟩:=cA.nil;clear hH cA nA;go_wp2;go_ret;exact⟨⟨_,rfl,by rw[<-gI.1,Sr,List.append_nil];exact qA.1⟩,pT.1.trans (HB.1.mono (Nat.le_succ _))⟩
   | cons z lb=>
    clear hH;obtain⟨xs,hV,gS⟩:=nA;have h:=Kh (λE (O:Below wr.heap.size wr E)=>hV.keep O);have gP:=Kh (λE (O:Below wr.heap.size wr E) j x hx=>show TX x E xs (j*5)from⟨(gS j x hx).1,(gS j x hx).2.i32 (IsQ.solid _) (I32.below O)⟩);clear hV gS;obtain⟨gb,ob,cb,rfl,hW,pE,bB,⟨b0,s2,p2,n2,c2,t2,q2,m2,d2,b1,b2,b3,b4,hY⟩,eX⟩:=cA.cons;have gN:=Kh eX;have oX:=Kh cA;have mB:=Kh (show Qs wr s2 p2 n2 c2 t2 q2 m2 d2 z.2 from hY);have r0:=(HB.1.cell (p:=⟨w.heap.size,0,none⟩) (nO _)).trans (eP.1.at_ 0 rfl);have r1:=(HB.1.cell (p:=⟨w.heap.size,1,none⟩) (nO _)).trans (eP.1.at_ 1 rfl);have r2:=(HB.1.cell (p:=⟨w.heap.size,2,none⟩) (nO _)).trans (eP.1.at_ 2 rfl);have r3:=(HB.1.cell (p:=⟨w.heap.size,3,none⟩) (nO _)).trans (eP.1.at_ 3 rfl);have mA:=Kh (oS.1.i32 eG.1);clear cA eX hY;have g1:(0:Int)<((lb.length+1:Nat):Int):=by omega
    have g2:(((lb.length:Nat):Int)+1==0)=false:=by simp;omega
    go_wp2_with fail
    go_quiet (fail)
    go_wp2_with fail
    go_quiet (fail)
    have hB:=Kh (λE (O:Below wr.heap.size wr E)=>Co s p n c t q m d x s2 p2 n2 c2 t2 q2 m2 d2 z.2 E (mA.1.keep O) (mB.1.keep O) (by have:=HS.1.1;omega) (by have:=HS.1.second;omega));have gL:=Kh (show hq (x*z.2)<=1000000000 by have h1:=Ce x z.2;have h2:=HS.1.1;have h3:=HS.1.second;omega);have bA:=Kh (show ∀E,Below (w.heap.size+1) wr E->(E.cell? ⟨gb,ob,none⟩=some (.int .i64 (z.1:Int))/\E.cell? ⟨gb,ob+1,none⟩=some (.bool s2)/\E.cell? ⟨gb,ob+2,none⟩=some (.slice p2 n2 c2)/\E.cell? ⟨gb,ob+3,none⟩=some (.bool t2)/\E.cell? ⟨gb,ob+4,none⟩=some (.slice q2 m2 d2)/\E.cell? ⟨w.heap.size,0,none⟩=some (.bool s)/\E.cell? ⟨w.heap.size,1,none⟩=some (.slice p n c)/\E.cell? ⟨w.heap.size,2,none⟩=some (.bool t)/\E.cell? ⟨w.heap.size,3,none⟩=some (.slice q m d))from λE O=>⟨(O.cell (p:=⟨gb,ob,none⟩) (bB)).trans b0,(O.cell (p:=⟨gb,ob+1,none⟩) (bB)).trans b1,(O.cell (p:=⟨gb,ob+2,none⟩) (bB)).trans b2,(O.cell (p:=⟨gb,ob+3,none⟩) (bB)).trans b3,(O.cell (p:=⟨gb,ob+4,none⟩) (bB)).trans b4,(O.cell (p:=⟨w.heap.size,0,none⟩) (nO _)).trans r0,(O.cell (p:=⟨w.heap.size,1,none⟩) (nO _)).trans r1,(O.cell (p:=⟨w.heap.size,2,none⟩) (nO _)).trans r2,(O.cell (p:=⟨w.heap.size,3,none⟩) (nO _)).trans r3⟩);clear b0 b1 b2 b3 b4 r0 r1 r2 r3;go_upto_region 11 with(fail)
    go_region_held3 (λE=>E.cell? ⟨gb,ob,none⟩=some (.int .i64 (z.1:Int))/\E.cell? ⟨gb,ob+1,none⟩=some (.bool s2)/\E.cell? ⟨gb,ob+2,none⟩=some (.slice p2 n2 c2)/\E.cell? ⟨gb,ob+3,none⟩=some (.bool t2)/\E.cell? ⟨gb,ob+4,none⟩=some (.slice q2 m2 d2)/\E.cell? ⟨w.heap.size,0,none⟩=some (.bool s)/\E.cell? ⟨w.heap.size,1,none⟩=some (.slice p n c)/\E.cell? ⟨w.heap.size,2,none⟩=some (.bool t)/\E.cell? ⟨w.heap.size,3,none⟩=some (.slice q m d))
     (first|exact bA.1 _ (Below.mono (show Below wr.heap.size wr _ from(by first|exact(Aa (Aa (Below.refl _ wr) _) _).drew|exact(Aa (Below.refl _ wr) _).drew|exact(Below.refl _ wr).drew)) I.1)|with_reducible exact bA.1 _ bE|exact bA.1 _ (bE.alloc cC _)|exact bA.1 _ aD.1 |(exfalso;assumption))
     (first
      |(refine Il NotU32 rfl (.tmp 87) (.tmp 100) _ 110 rfl underlying107 En rfl (by decide) (w.heap.size+1) lo.length u7 xs [.int .i64 (z.1:Int),.bool s4,.slice p4 n4 c4,.bool t4,.slice q4 m4 d4] rfl (h.1 _ (M)) rfl rfl (Vc _ _ _ _ _ _ _ _ _) (by have:=cB.1;omega) (by have:=cB.1;omega) (by first|exact I.1|exact nM I.1 (Below.size (M))) (jA _ _ _ _ _ _ _ _ _) Vb ?_;intro v9 w9 U J bC;have dE:=Kh (OwnT.push (h.1 _ (M)) (gP.1 _ (M)) z.1 (-(x*z.2)) hJ U J);have V:=Kh (show I32 wr w9 from(I32.below (M)).trans (I32.grown (K:=NotU32) (λz=>Et z) (h.1 _ (M)).2 J));have aD:=Kh (show Below (w.heap.size+1) wr w9 from(Below.mono (M) I.1).trans (At (Below.refl _ _) (h.1 _ (M)).1 J (nL _) (by first|exact I.1|exact nM I.1 (Below.size (M)))));clear U J bC)
      |(go_at_call 44;refine(hB.1 _ (show Below wr.heap.size wr _ from(by first|exact(Aa (Aa (Below.refl _ wr) _) _).drew|exact(Aa (Below.refl _ wr) _).drew|exact(Below.refl _ wr).drew))).mono ?_;rintro e w2 ⟨⟨s3,p3,n3,c3,t3,q3,m3,d3,rfl,hI⟩,hE⟩;have Z:Below wr.heap.size wr w2:=Below.trans (show Below wr.heap.size wr _ from(by first|exact(Aa (Aa (Below.refl _ wr) _) _).drew|exact(Aa (Below.refl _ wr) _).drew|exact(Below.refl _ wr).drew)) hE;have bE:=Z.mono I.1;have cC:=nM I.1 Z.size)
      |(go_at_call 51;refine(I5 s3 p3 n3 c3 t3 q3 m3 d3 (x*z.2) _ hI gL.1).mono ?_;rintro e w3 ⟨⟨s4,p4,n4,c4,t4,q4,m4,d4,rfl,hJ⟩,gU⟩;have M:Below wr.heap.size wr w3:=Z.trans (gU.mono Z.size);have bE:=M.mono I.1;have cC:=nM I.1 M.size))
    all_goals go_wp2
    all_goals go_roundw
    all_goals first
     | exact⟨[],lb,lo++[(z.1,-(x*z.2))],.inl ⟨rfl,_,_,rfl⟩,(gN.1.next V.1 aD.1).cut _ hW,dE.1,by rw[<-gI.1,mrg_right,List.append_assoc];rfl,HS.1.right,by simp at hG ⊢;omega,HB.1.trans aD.1,eG.1.trans V.1⟩
     |(simp[Iv])
  | cons y la=>
   obtain⟨ga,oa,ca,rfl,mE,qY,hX,⟨a0,s1,p1,n1,c1,t1,q1,m1,d1,a1,a2,a3,a4,pG⟩,nD⟩:=hH.cons;obtain⟨xs,hV,gS⟩:=nA;have h:=Kh (λE (O:Below wr.heap.size wr E)=>hV.keep O);have gP:=Kh (λE (O:Below wr.heap.size wr E) j x hx=>show TX x E xs (j*5)from⟨(gS j x hx).1,(gS j x hx).2.i32 (IsQ.solid _) (I32.below O)⟩);clear hV gS;have mD:=Kh nD;have qB:=Kh hH;have nV:=Kh (show Qs wr s1 p1 n1 c1 t1 q1 m1 d1 y.2 from pG);clear hH nD pG;cases lb with
   | nil=>
    obtain⟨ba,bc,rfl⟩:=cA.nil;have gN:=Kh cA;clear cA;have g1:(0:Int)<((la.length+1:Nat):Int):=by omega
    go_wp2_with fail
    go_quiet (fail)
    go_wp2_with (at_builtin;refine Bk NotU32 rfl (.tmp 64) (.tmp 68) _ 110 rfl underlying107 En rfl (by decide) (w.heap.size+1) lo.length u7 xs [.int .i64 (y.1:Int),.bool s1,.slice p1 n1 c1,.bool t1,.slice q1 m1 d1] rfl (h.1 _ (Aa (Below.refl _ wr) _)) rfl rfl (Vc _ _ _ _ _ _ _ _ _) (by have:=cB.1;omega) (by have:=cB.1;omega) (by first|exact I.1|exact nM I.1 (Below.size (Aa (Below.refl _ wr) _))) (jA _ _ _ _ _ _ _ _ _) Vb ?_;intro v9 w9 U J bC;have dE:=Kh (OwnT.push (h.1 _ (Aa (Below.refl _ wr) _)) (gP.1 _ (Aa (Below.refl _ wr) _)) y.1 y.2 (nV.1.keep (Aa (Below.refl _ wr) _)) U J);have V:=Kh (show I32 wr w9 from(I32.below (Aa (Below.refl _ wr) _)).trans (I32.grown (K:=NotU32) (λz=>Et z) (h.1 _ (Aa (Below.refl _ wr) _)).2 J));have aD:=Kh (show Below (w.heap.size+1) wr w9 from(Below.mono (Aa (Below.refl _ wr) _) I.1).trans (At (Below.refl _ _) (h.1 _ (Aa (Below.refl _ wr) _)).1 J (nL _) (by first|exact I.1|exact nM I.1 (Below.size (Aa (Below.refl _ wr) _)))));clear U J bC)
    go_roundw
    case rel=>exact⟨la,[],lo++[(y.1,y.2)],(mD.1.next V.1 aD.1).cut _ mE,gN.1.next V.1 aD.1,dE.1,by rw[<-gI.1,mrg_left,List.append_assoc];rfl,HS.1.left,by simp at hG ⊢;omega,HB.1.trans aD.1,eG.1.trans V.1⟩
    case measure=>simp[Iv]
   | cons z lb=>
    obtain⟨gb,ob,cb,rfl,hW,pE,bB,⟨b0,s2,p2,n2,c2,t2,q2,m2,d2,b1,b2,b3,b4,hY⟩,eX⟩:=cA.cons;have gN:=Kh eX;have oX:=Kh cA;have mB:=Kh (show Qs wr s2 p2 n2 c2 t2 q2 m2 d2 z.2 from hY);have r0:=(HB.1.cell (p:=⟨w.heap.size,0,none⟩) (nO _)).trans (eP.1.at_ 0 rfl);have r1:=(HB.1.cell (p:=⟨w.heap.size,1,none⟩) (nO _)).trans (eP.1.at_ 1 rfl);have r2:=(HB.1.cell (p:=⟨w.heap.size,2,none⟩) (nO _)).trans (eP.1.at_ 2 rfl);have r3:=(HB.1.cell (p:=⟨w.heap.size,3,none⟩) (nO _)).trans (eP.1.at_ 3 rfl);have mA:=Kh (oS.1.i32 eG.1);clear cA eX hY;have g1:(0:Int)<((la.length+1:Nat):Int):=by omega
    have g2:(((la.length:Nat):Int)+1==0)=false:=by simp;omega
    have g3:(((lb.length:Nat):Int)+1==0)=false:=by simp;omega
    rcases Nat.lt_trichotomy y.1 z.1 with hlt|oC|qE
    ·have g4:(y.1:Int)<(z.1:Int):=by omega
     clear r0 r1 r2 r3;go_wp2_with fail
     go_quiet (fail)
     go_wp2_with (at_builtin;refine Bk NotU32 rfl (.tmp 64) (.tmp 68) _ 110 rfl underlying107 En rfl (by decide) (w.heap.size+1) lo.length u7 xs [.int .i64 (y.1:Int),.bool s1,.slice p1 n1 c1,.bool t1,.slice q1 m1 d1] rfl (h.1 _ (Aa (Below.refl _ wr) _)) rfl rfl (Vc _ _ _ _ _ _ _ _ _) (by have:=cB.1;omega) (by have:=cB.1;omega) (by first|exact I.1|exact nM I.1 (Below.size (Aa (Below.refl _ wr) _))) (jA _ _ _ _ _ _ _ _ _) Vb ?_;intro v9 w9 U J bC;have dE:=Kh (OwnT.push (h.1 _ (Aa (Below.refl _ wr) _)) (gP.1 _ (Aa (Below.refl _ wr) _)) y.1 y.2 (nV.1.keep (Aa (Below.refl _ wr) _)) U J);have V:=Kh (show I32 wr w9 from(I32.below (Aa (Below.refl _ wr) _)).trans (I32.grown (K:=NotU32) (λz=>Et z) (h.1 _ (Aa (Below.refl _ wr) _)).2 J));have aD:=Kh (show Below (w.heap.size+1) wr w9 from(Below.mono (Aa (Below.refl _ wr) _) I.1).trans (At (Below.refl _ _) (h.1 _ (Aa (Below.refl _ wr) _)).1 J (nL _) (by first|exact I.1|exact nM I.1 (Below.size (Aa (Below.refl _ wr) _)))));clear U J bC)
     go_roundw
     case rel=>exact⟨la,z :: lb,lo++[(y.1,y.2)],(mD.1.next V.1 aD.1).cut _ mE,oX.1.next V.1 aD.1,dE.1,by rw[<-gI.1,Rh x y z la lb hlt,List.append_assoc];rfl,HS.1.left,by simp at hG ⊢;omega,HB.1.trans aD.1,eG.1.trans V.1⟩
     case measure=>simp[Iv]
    ·have g4:decide ((y.1:Int)<(z.1:Int))=false:=by simp;omega
     have g5:decide ((z.1:Int)<(y.1:Int))=false:=by simp;omega
     go_wp2_with fail
     go_quiet (fail)
     go_wp2_with fail
     go_quiet (fail)
     have hB:=Kh (λE (O:Below wr.heap.size wr E)=>Co s p n c t q m d x s2 p2 n2 c2 t2 q2 m2 d2 z.2 E (mA.1.keep O) (mB.1.keep O) (by have:=HS.1.1;omega) (by have:=HS.1.second;omega));have gL:=Kh (show hq (x*z.2)<=200000000 by have h1:=Ce x z.2;have h2:=HS.1.1;have h3:=HS.1.second;omega);have oY:=Kh (show hq y.2<=1000000000 by have h3:=HS.1.first;omega);have pW:=Kh (show hq (y.2 - x*z.2)<=1000000000 by have h3:=HS.1.first;have h4:=gL.1;have h5:=H8 y.2 (-(x*z.2));rw[Kg]at h5;rw[Rat.sub_eq_add_neg];omega);have bA:=Kh (show ∀E,Below (w.heap.size+1) wr E->(E.cell? ⟨ga,oa+1,none⟩=some (.bool s1)/\E.cell? ⟨ga,oa+2,none⟩=some (.slice p1 n1 c1)/\E.cell? ⟨ga,oa+3,none⟩=some (.bool t1)/\E.cell? ⟨ga,oa+4,none⟩=some (.slice q1 m1 d1)/\E.cell? ⟨gb,ob+1,none⟩=some (.bool s2)/\E.cell? ⟨gb,ob+2,none⟩=some (.slice p2 n2 c2)/\E.cell? ⟨gb,ob+3,none⟩=some (.bool t2)/\E.cell? ⟨gb,ob+4,none⟩=some (.slice q2 m2 d2)/\E.cell? ⟨w.heap.size,0,none⟩=some (.bool s)/\E.cell? ⟨w.heap.size,1,none⟩=some (.slice p n c)/\E.cell? ⟨w.heap.size,2,none⟩=some (.bool t)/\E.cell? ⟨w.heap.size,3,none⟩=some (.slice q m d))from λE O=>⟨(O.cell (p:=⟨ga,oa+1,none⟩) (hX)).trans a1,(O.cell (p:=⟨ga,oa+2,none⟩) (hX)).trans a2,(O.cell (p:=⟨ga,oa+3,none⟩) (hX)).trans a3,(O.cell (p:=⟨ga,oa+4,none⟩) (hX)).trans a4,(O.cell (p:=⟨gb,ob+1,none⟩) (bB)).trans b1,(O.cell (p:=⟨gb,ob+2,none⟩) (bB)).trans b2,(O.cell (p:=⟨gb,ob+3,none⟩) (bB)).trans b3,(O.cell (p:=⟨gb,ob+4,none⟩) (bB)).trans b4,(O.cell (p:=⟨w.heap.size,0,none⟩) (nO _)).trans r0,(O.cell (p:=⟨w.heap.size,1,none⟩) (nO _)).trans r1,(O.cell (p:=⟨w.heap.size,2,none⟩) (nO _)).trans r2,(O.cell (p:=⟨w.heap.size,3,none⟩) (nO _)).trans r3⟩);have oP:=Kh (λE (O:Below (w.heap.size+1) wr E)=>(O.cell (p:=⟨ga,oa,none⟩) hX).trans a0);clear a0 a1 a2 a3 a4 b0 b1 b2 b3 b4 r0 r1 r2 r3;go_upto_region 3 with(fail)
     go_cut [8]from 17 to 27 (λv8 wd=>∃R s4 p4 n4 c4 t4 q4 m4 d4,v8=.pointer (some ⟨R,0,none⟩)/\wd.cell? ⟨R,0,none⟩=some (.bool s4)/\wd.cell? ⟨R,1,none⟩=some (.slice p4 n4 c4)/\wd.cell? ⟨R,2,none⟩=some (.bool t4)/\wd.cell? ⟨R,3,none⟩=some (.slice q4 m4 d4)/\Qs wd s4 p4 n4 c4 t4 q4 m4 d4 (y.2 - x*z.2)/\Below wr.heap.size wr wd/\wr.heap.size<=R)
     case first=>
      have M1:True:=trivial
      go_region_held3 (λE=>E.cell? ⟨ga,oa+1,none⟩=some (.bool s1)/\E.cell? ⟨ga,oa+2,none⟩=some (.slice p1 n1 c1)/\E.cell? ⟨ga,oa+3,none⟩=some (.bool t1)/\E.cell? ⟨ga,oa+4,none⟩=some (.slice q1 m1 d1)/\E.cell? ⟨gb,ob+1,none⟩=some (.bool s2)/\E.cell? ⟨gb,ob+2,none⟩=some (.slice p2 n2 c2)/\E.cell? ⟨gb,ob+3,none⟩=some (.bool t2)/\E.cell? ⟨gb,ob+4,none⟩=some (.slice q2 m2 d2)/\E.cell? ⟨w.heap.size,0,none⟩=some (.bool s)/\E.cell? ⟨w.heap.size,1,none⟩=some (.slice p n c)/\E.cell? ⟨w.heap.size,2,none⟩=some (.bool t)/\E.cell? ⟨w.heap.size,3,none⟩=some (.slice q m d))
       (first|exact bA.1 _ (Below.mono (show Below wr.heap.size wr _ from(by first|exact(Aa (Aa (Below.refl _ wr) _) _).drew|exact(Aa (Below.refl _ wr) _).drew|exact((Aa (Aa (Below.refl _ wr) _) _).drew).alloc (nL _) _|exact((Aa (Below.refl _ wr) _).drew).alloc (nL _) _)) I.1)|with_reducible exact bA.1 _ bE|exact bA.1 _ (bE.alloc cC _)|with_reducible exact bA.1 _ (Au bE qC.1 _ _ _ _)|with_reducible exact bA.1 _ (Au bE I.1 _ _ _ _)|with_reducible exact bA.1 _ (Au (bE.alloc cC _) cC _ _ _ _) |(exfalso;assumption))
       (first
        |(go_at_call 44;clear M1;refine(hB.1 _ (by first|exact(Aa (Aa (Below.refl _ wr) _) _).drew|exact(Aa (Below.refl _ wr) _).drew|exact((Aa (Aa (Below.refl _ wr) _) _).drew).alloc (nL _) _|exact((Aa (Below.refl _ wr) _).drew).alloc (nL _) _)).mono ?_;rintro e w2 ⟨⟨s3,p3,n3,c3,t3,q3,m3,d3,rfl,hI⟩,hE⟩;have Z:Below wr.heap.size wr w2:=Below.trans (show Below wr.heap.size wr _ from(by first|exact(Aa (Aa (Below.refl _ wr) _) _).drew|exact(Aa (Below.refl _ wr) _).drew|exact((Aa (Aa (Below.refl _ wr) _) _).drew).alloc (nL _) _|exact((Aa (Below.refl _ wr) _).drew).alloc (nL _) _)) (Below.mono hE (Below.size (show Below wr.heap.size wr _ from(by first|exact(Aa (Aa (Below.refl _ wr) _) _).drew|exact(Aa (Below.refl _ wr) _).drew|exact((Aa (Aa (Below.refl _ wr) _) _).drew).alloc (nL _) _|exact((Aa (Below.refl _ wr) _).drew).alloc (nL _) _))));have bE:=Z.mono I.1;have cC:=nM I.1 Z.size;(try have fa:=Kd wr.heap.size (by first|exact rfl |(simp;done)) hE))
        |(go_at_call 146;refine(bP s1 p1 n1 c1 t1 q1 m1 d1 y.2 s3 p3 n3 c3 t3 q3 m3 d3 (x*z.2) _ (nV.1.keep (show Below wr.heap.size wr _ from(by first|exact Z|exact Z.alloc Z.size _))) (by first|exact hI|exact hI.keep ((Below.refl _ _).alloc (nL _) _)) oY.1 (by have:=gL.1;omega)).mono ?_;rintro e w3 ⟨⟨s4,p4,n4,c4,t4,q4,m4,d4,rfl,hJ⟩,gU⟩;have M:Below wr.heap.size wr w3:=Below.trans (show Below wr.heap.size wr _ from(by first|exact Z|exact Z.alloc Z.size _)) (Below.mono gU (Below.size (show Below wr.heap.size wr _ from(by first|exact Z|exact Z.alloc Z.size _))));have bE:=M.mono I.1;have cC:=nM I.1 M.size;(first|have fa:=It (by first|exact gU) fa|have fa:=Kd w2.heap.size rfl gU|skip);have qC:=Kh (show w.heap.size+1<=w2.heap.size from nM I.1 Z.size)))
      all_goals go_wp2
      all_goals go_meet
      all_goals first
       | exact⟨w3.heap.size,s4,p4,n4,c4,t4,q4,m4,d4,rfl,(Blk.new w3 86 #[.bool s4,.slice p4 n4 c4,.bool t4,.slice q4 m4 d4]).at_ 0 rfl,(Blk.new w3 86 #[.bool s4,.slice p4 n4 c4,.bool t4,.slice q4 m4 d4]).at_ 1 rfl,(Blk.new w3 86 #[.bool s4,.slice p4 n4 c4,.bool t4,.slice q4 m4 d4]).at_ 2 rfl,(Blk.new w3 86 #[.bool s4,.slice p4 n4 c4,.bool t4,.slice q4 m4 d4]).at_ 3 rfl,hJ.keep ((Below.refl _ _).alloc (nL _) _),M.alloc M.size _,M.size⟩
       |(obtain⟨E0,E1,E2,E3,qF⟩:=Cc fa.2.2.2.2.2.2.2.2 hJ rfl;exact⟨_,s4,p4,n4,c4,t4,q4,m4,d4,rfl,E0,E1,E2,E3,qF,Au M (by first|exact nL _|exact Z.size) _ _ _ _,by first|exact nL _|exact Z.size⟩)
     case rest=>
      obtain⟨R,s4,p4,n4,c4,t4,q4,m4,d4,rfl,e0,e1,e2,e3,hz,pD,hR⟩:=hcut;obtain⟨wd,rfl⟩:∃wd:World,wd=wc:=⟨_,rfl⟩
      have nW:=Kh hz;have oQ:=Kh pD;have mC:=Kh (show ∀g,u7.ownBlock=some g->g≠R from λg hg e=>by have:=((h.1 wr (Below.refl _ _)).2 g hg).1;omega);have hT:=Kh (And.intro e0 (And.intro e1 (And.intro e2 e3)));clear hz pD hR;go_wp2_with fail
      refine(Gu s4 p4 n4 c4 t4 q4 m4 d4 (y.2 - x*z.2) wd nW.1 pW.1).mono ?_;rintro e we ⟨⟨sg,rfl,pH⟩,bY⟩;have aK:=bt oQ bY;have oU:=Kh pH;have pX:=Kh (nW.1.keep bY);have hU:=Kh (λE (O:Below we.heap.size we E)=>show E.cell? ⟨R,0,none⟩=some (.bool s4)/\E.cell? ⟨R,1,none⟩=some (.slice p4 n4 c4)/\E.cell? ⟨R,2,none⟩=some (.bool t4)/\E.cell? ⟨R,3,none⟩=some (.slice q4 m4 d4)from⟨Ad (bY.trans (O.mono bY.size)) hT.1.1,Ad (bY.trans (O.mono bY.size)) hT.1.2.1,Ad (bY.trans (O.mono bY.size)) hT.1.2.2.1,Ad (bY.trans (O.mono bY.size)) hT.1.2.2.2⟩);clear pH bY hB gL oY nW oQ hT e0 e1 e2 e3;by_cases hd:y.2 - x*z.2=0
      ·have h0:sg=0:=oU.1.2 hd
       subst h0;have pU:=Kh hd;clear hd;go_wp2_with fail
       go_quiet (fail)
       go_wp2;go_roundw
       case rel=>
        have eT:∀n,Below wr.heap.size wr (we.drewN n):=λn=>Aa aK.1 n
        exact⟨la,lb,lo,(mD.1.next (I32.below (eT _)) ((eT _).mono I.1)).cut _ mE,(gN.1.next (I32.below (eT _)) ((eT _).mono I.1)).cut _ hW,⟨xs,h.1 _ (eT _),gP.1 _ (eT _)⟩,by rw[<-gI.1,Jb x y z la lb oC pU.1],HS.1.left.right,by simp at hG ⊢;omega,HB.1.trans ((eT _).mono I.1),eG.1.trans (I32.below (eT _))⟩
       case measure=>simp[Iv];omega
      ·have h0:(sg != 0)=true:=by
        have:sg≠0:=λe=>hd (oU.1.1 e)
        simpa using this
       have pV:=Kh hd;clear hd;go_upto_region 5 with(fail)
       have oT:=Kh (show ∀E,Below we.heap.size we E->(E.cell? ⟨ga,oa,none⟩=some (.int .i64 (y.1:Int))/\E.cell? ⟨R,0,none⟩=some (.bool s4)/\E.cell? ⟨R,1,none⟩=some (.slice p4 n4 c4)/\E.cell? ⟨R,2,none⟩=some (.bool t4)/\E.cell? ⟨R,3,none⟩=some (.slice q4 m4 d4))from λE O=>⟨oP.1 E ((aK.1.mono I.1).trans (O.mono (nM I.1 aK.1.size))),hU.1 E O⟩);have qD:=oT.1 _ (Below.refl _ we).drew
       go_region_held3 (λE=>E.cell? ⟨ga,oa,none⟩=some (.int .i64 (y.1:Int))/\E.cell? ⟨R,0,none⟩=some (.bool s4)/\E.cell? ⟨R,1,none⟩=some (.slice p4 n4 c4)/\E.cell? ⟨R,2,none⟩=some (.bool t4)/\E.cell? ⟨R,3,none⟩=some (.slice q4 m4 d4))
        (first|with_reducible exact qD|with_reducible exact pY.1|exact oT.1 _ ((Below.refl _ we).drew.alloc (nL _) _) |(exfalso;assumption))
        (first
         |(refine Il (W:=we.drew) NotU32 rfl (.tmp 31) (.tmp 38) _ 110 rfl underlying107 En rfl (by decide) (w.heap.size+1) lo.length u7 xs [.int .i64 (z.1:Int),.bool s4,.slice p4 n4 c4,.bool t4,.slice q4 m4 d4] rfl (h.1 _ (show Below wr.heap.size wr _ from(by first|exact aK.1.drew|exact aK.1))) rfl rfl (Vc _ _ _ _ _ _ _ _ _) (by have:=cB.1;omega) (by have:=cB.1;omega) (by first|exact I.1|exact nM I.1 (Below.size (show Below wr.heap.size wr _ from(by first|exact aK.1.drew|exact aK.1)))) (jA _ _ _ _ _ _ _ _ _) Vb ?_;intro v9 w9 U J bC;have dE:=Kh (OwnT.push (h.1 _ (show Below wr.heap.size wr _ from(by first|exact aK.1.drew|exact aK.1))) (gP.1 _ (show Below wr.heap.size wr _ from(by first|exact aK.1.drew|exact aK.1))) z.1 (y.2 - x*z.2) (pX.1.keep (by first|exact(Below.refl _ we).drew|exact Below.refl _ we)) U J);have V:=Kh (show I32 wr w9 from(I32.below (show Below wr.heap.size wr _ from(by first|exact aK.1.drew|exact aK.1))).trans (I32.grown (K:=NotU32) (λz=>Et z) (h.1 _ (show Below wr.heap.size wr _ from(by first|exact aK.1.drew|exact aK.1))).2 J));have aD:=Kh (show Below (w.heap.size+1) wr w9 from(Below.mono (show Below wr.heap.size wr _ from(by first|exact aK.1.drew|exact aK.1)) I.1).trans (At (Below.refl _ _) (h.1 _ (show Below wr.heap.size wr _ from(by first|exact aK.1.drew|exact aK.1))).1 J (nL _) (by first|exact I.1|exact nM I.1 (Below.size (show Below wr.heap.size wr _ from(by first|exact aK.1.drew|exact aK.1))))));have pY:=Kh (show w9.cell? ⟨ga,oa,none⟩=some (.int .i64 (y.1:Int))/\w9.cell? ⟨R,0,none⟩=some (.bool s4)/\w9.cell? ⟨R,1,none⟩=some (.slice p4 n4 c4)/\w9.cell? ⟨R,2,none⟩=some (.bool t4)/\w9.cell? ⟨R,3,none⟩=some (.slice q4 m4 d4)from⟨oP.1 _ aD.1,J.cell (hU.1 _ (by first|exact(Below.refl _ we).drew|exact Below.refl _ we)).1 (λe=>mC.1 _ e.symm rfl),J.cell (hU.1 _ (by first|exact(Below.refl _ we).drew|exact Below.refl _ we)).2.1 (λe=>mC.1 _ e.symm rfl),J.cell (hU.1 _ (by first|exact(Below.refl _ we).drew|exact Below.refl _ we)).2.2.1 (λe=>mC.1 _ e.symm rfl),J.cell (hU.1 _ (by first|exact(Below.refl _ we).drew|exact Below.refl _ we)).2.2.2 (λe=>mC.1 _ e.symm rfl)⟩);clear U J bC))
       all_goals go_wp2_with fail
       all_goals go_quiet (fail)
       all_goals go_wp2
       all_goals go_roundw
       all_goals first
        | exact⟨la,lb,lo++[(z.1,y.2 - x*z.2)],(mD.1.next (V.1.trans (I32.below (Aa (Below.refl _ _) _))) (Aa aD.1 _)).cut _ mE,(gN.1.next (V.1.trans (I32.below (Aa (Below.refl _ _) _))) (Aa aD.1 _)).cut _ hW,dE.1.keep (Aa (Below.refl _ _) _),by rw[<-gI.1,Nj x y z la lb oC pV.1,oC,List.append_assoc];rfl,HS.1.left.right,by simp at hG ⊢;omega,HB.1.trans (Aa aD.1 _),eG.1.trans (V.1.trans (I32.below (Aa (Below.refl _ _) _)))⟩
        |(simp[Iv];omega)
    ·have g4:decide ((y.1:Int)<(z.1:Int))=false:=by simp;omega
     have g5:(z.1:Int)<(y.1:Int):=by omega
     go_wp2_with fail
     go_quiet (fail)
     go_wp2_with fail
     go_quiet (fail)
     have hB:=Kh (λE (O:Below wr.heap.size wr E)=>Co s p n c t q m d x s2 p2 n2 c2 t2 q2 m2 d2 z.2 E (mA.1.keep O) (mB.1.keep O) (by have:=HS.1.1;omega) (by have:=HS.1.second;omega));have gL:=Kh (show hq (x*z.2)<=1000000000 by have h1:=Ce x z.2;have h2:=HS.1.1;have h3:=HS.1.second;omega);have bA:=Kh (show ∀E,Below (w.heap.size+1) wr E->(E.cell? ⟨gb,ob,none⟩=some (.int .i64 (z.1:Int))/\E.cell? ⟨gb,ob+1,none⟩=some (.bool s2)/\E.cell? ⟨gb,ob+2,none⟩=some (.slice p2 n2 c2)/\E.cell? ⟨gb,ob+3,none⟩=some (.bool t2)/\E.cell? ⟨gb,ob+4,none⟩=some (.slice q2 m2 d2)/\E.cell? ⟨w.heap.size,0,none⟩=some (.bool s)/\E.cell? ⟨w.heap.size,1,none⟩=some (.slice p n c)/\E.cell? ⟨w.heap.size,2,none⟩=some (.bool t)/\E.cell? ⟨w.heap.size,3,none⟩=some (.slice q m d))from λE O=>⟨(O.cell (p:=⟨gb,ob,none⟩) (bB)).trans b0,(O.cell (p:=⟨gb,ob+1,none⟩) (bB)).trans b1,(O.cell (p:=⟨gb,ob+2,none⟩) (bB)).trans b2,(O.cell (p:=⟨gb,ob+3,none⟩) (bB)).trans b3,(O.cell (p:=⟨gb,ob+4,none⟩) (bB)).trans b4,(O.cell (p:=⟨w.heap.size,0,none⟩) (nO _)).trans r0,(O.cell (p:=⟨w.heap.size,1,none⟩) (nO _)).trans r1,(O.cell (p:=⟨w.heap.size,2,none⟩) (nO _)).trans r2,(O.cell (p:=⟨w.heap.size,3,none⟩) (nO _)).trans r3⟩);clear b0 b1 b2 b3 b4 r0 r1 r2 r3;go_upto_region 11 with(fail)
     go_region_held3 (λE=>E.cell? ⟨gb,ob,none⟩=some (.int .i64 (z.1:Int))/\E.cell? ⟨gb,ob+1,none⟩=some (.bool s2)/\E.cell? ⟨gb,ob+2,none⟩=some (.slice p2 n2 c2)/\E.cell? ⟨gb,ob+3,none⟩=some (.bool t2)/\E.cell? ⟨gb,ob+4,none⟩=some (.slice q2 m2 d2)/\E.cell? ⟨w.heap.size,0,none⟩=some (.bool s)/\E.cell? ⟨w.heap.size,1,none⟩=some (.slice p n c)/\E.cell? ⟨w.heap.size,2,none⟩=some (.bool t)/\E.cell? ⟨w.heap.size,3,none⟩=some (.slice q m d))
      (first|exact bA.1 _ (Below.mono (show Below wr.heap.size wr _ from(by first|exact(Aa (Aa (Below.refl _ wr) _) _).drew|exact(Aa (Below.refl _ wr) _).drew|exact(Below.refl _ wr).drew)) I.1)|with_reducible exact bA.1 _ bE|exact bA.1 _ (bE.alloc cC _)|exact bA.1 _ aD.1 |(exfalso;assumption))
      (first
       |(refine Il NotU32 rfl (.tmp 87) (.tmp 100) _ 110 rfl underlying107 En rfl (by decide) (w.heap.size+1) lo.length u7 xs [.int .i64 (z.1:Int),.bool s4,.slice p4 n4 c4,.bool t4,.slice q4 m4 d4] rfl (h.1 _ (M)) rfl rfl (Vc _ _ _ _ _ _ _ _ _) (by have:=cB.1;omega) (by have:=cB.1;omega) (by first|exact I.1|exact nM I.1 (Below.size (M))) (jA _ _ _ _ _ _ _ _ _) Vb ?_;intro v9 w9 U J bC;have dE:=Kh (OwnT.push (h.1 _ (M)) (gP.1 _ (M)) z.1 (-(x*z.2)) hJ U J);have V:=Kh (show I32 wr w9 from(I32.below (M)).trans (I32.grown (K:=NotU32) (λz=>Et z) (h.1 _ (M)).2 J));have aD:=Kh (show Below (w.heap.size+1) wr w9 from(Below.mono (M) I.1).trans (At (Below.refl _ _) (h.1 _ (M)).1 J (nL _) (by first|exact I.1|exact nM I.1 (Below.size (M)))));clear U J bC)
       |(go_at_call 44;refine(hB.1 _ (show Below wr.heap.size wr _ from(by first|exact(Aa (Aa (Below.refl _ wr) _) _).drew|exact(Aa (Below.refl _ wr) _).drew|exact(Below.refl _ wr).drew))).mono ?_;rintro e w2 ⟨⟨s3,p3,n3,c3,t3,q3,m3,d3,rfl,hI⟩,hE⟩;have Z:Below wr.heap.size wr w2:=Below.trans (show Below wr.heap.size wr _ from(by first|exact(Aa (Aa (Below.refl _ wr) _) _).drew|exact(Aa (Below.refl _ wr) _).drew|exact(Below.refl _ wr).drew)) hE;have bE:=Z.mono I.1;have cC:=nM I.1 Z.size)
       |(go_at_call 51;refine(I5 s3 p3 n3 c3 t3 q3 m3 d3 (x*z.2) _ hI gL.1).mono ?_;rintro e w3 ⟨⟨s4,p4,n4,c4,t4,q4,m4,d4,rfl,hJ⟩,gU⟩;have M:Below wr.heap.size wr w3:=Z.trans (gU.mono Z.size);have bE:=M.mono I.1;have cC:=nM I.1 M.size))
     all_goals go_wp2
     all_goals go_roundw
     all_goals first
      | exact⟨y :: la,lb,lo++[(z.1,-(x*z.2))],qB.1.next V.1 aD.1,(gN.1.next V.1 aD.1).cut _ hW,dE.1,by rw[<-gI.1,Rg x y z la lb qE,List.append_assoc];rfl,HS.1.right,by simp at hG ⊢;omega,HB.1.trans aD.1,eG.1.trans V.1⟩
      |(simp[Iv])
theorem QE.butR {r:Rat} {w w':World} {g i R:Nat} (h:QE (IsQ r) w g i) (J:I32 w w') (hg:w.grownBy w' (some R)) (M:g≠R):QE (IsQ r) w' g i:=by
 have E:∀j v,w.cell? ⟨g,j,none⟩=some v->w'.cell? ⟨g,j,none⟩=some v:=λj v e=>hg.cell e (λI=>by injection I with I;exact M I)
 obtain⟨s,p,n,c,t,q,m,d,O,U,V,Z,h4⟩:=h;exact⟨s,p,n,c,t,q,m,d,E _ _ O,E _ _ U,E _ _ V,E _ _ Z,h4.i32 J⟩
def addQ (F Y:Nat->Rat) (x:Rat) (k:Nat):Nat->FP:=λj=>IsQ (if j<k then F j+x*Y j else F j)
theorem addQ.done {F Y:Nat->Rat} {x:Rat} {k:Nat} {w:World} {g N:Nat} (h:QRow (addQ F Y x k) w g N N) (E:F k+x*Y k=F k):QRow (addQ F Y x (k+1)) w g N N:=
 QRow.congr h (λj _=>by
  unfold addQ;by_cases hj:j<k
  ·rw[if_pos hj,if_pos (by omega)]
  ·rw[if_neg hj]
   by_cases hj2:j=k
   ·rw[if_pos (by omega),hj2,E]
   ·rw[if_neg (by omega)])
theorem addQ.put {F Y:Nat->Rat} {x:Rat} {k:Nat} {w:World} {g N:Nat} (h:QRow (addQ F Y x k) w g N N) (I:k<N) {s:Bool} {p:Option Addr} {n c:Nat} {t:Bool} {q:Option Addr} {m d:Nat} (hq:Qs w s p n c t q m d (F k+x*Y k)):
  QRow (addQ F Y x (k+1)) ((((w.setCell ⟨g,k*4,none⟩ (.bool s)).setCell ⟨g,k*4+1,none⟩ (.slice p n c)).setCell ⟨g,k*4+2,none⟩ (.bool t)).setCell ⟨g,k*4+3,none⟩ (.slice q m d)) g N N:=
 QRow.set (λ_=>IsQ.solid _) h k I _ (IsQ.solid _) (λi E J=>⟨E,by
  unfold addQ;by_cases hj:i<k
  ·rw[if_pos hj,if_pos (by omega)]
  ·rw[if_neg hj,if_neg (by omega)]⟩) (show IsQ (if k<k+1 then F k+x*Y k else F k) w s p n c t q m d by rw[if_pos (nO k)];exact hq)
theorem addQ.elem {F Y:Nat->Rat} {x:Rat} {k:Nat} {w:World} {g N:Nat} (h:QRow (addQ F Y x k) w g N N) (I:k<N):QE (IsQ (F k)) w g (k*4):=by
 have E:=QRow.val h k I;unfold addQ at E;rw[if_neg (Nat.lt_irrefl k)]at E;exact E
theorem Dr {w0 I E:World} {g k:Nat} {v0 v1 v2 v3:Value} (h:w0.grownBy I (some g)) (J:Below I.heap.size I E):w0.grownBy ((((E.setCell ⟨g,k*4,none⟩ v0).setCell ⟨g,k*4+1,none⟩ v1).setCell ⟨g,k*4+2,none⟩ v2).setCell ⟨g,k*4+3,none⟩ v3) (some g):=
 (h.trans (Ag g J)).trans (E8 E g _ _ _ _ v0 v1 v2 v3)
theorem bF (g N cx:Nat) (v2:Value) (F Y:Nat->Rat) (s:Bool) (p:Option Addr) (n c:Nat) (t:Bool) (q:Option Addr) (m d:Nat) (x:Rat) (w:World) (h1:QRow (λj=>IsQ (F j)) w g N N)
  (hy:N=0∨∃gy oy cy,v2=.slice (some ⟨gy,oy,none⟩) N cy/\gy≠g/\gy<w.heap.size/\∀j,j<N->QE (IsQ (Y j)) w gy (oy+j*4))
  (hx:Qs w s p n c t q m d x) (hK:hq x<=100000000) (hF:∀j,j<N->hq (F j)<=100000000/\hq (Y j)<=100000000) (hN:N<=1000000):
  Calls prog 50 #[.slice (some ⟨g,0,none⟩) N cx,.agg #[.bool s,.slice p n c,.bool t,.slice q m d],v2] w λe w'=>(∃v,e=.returned v)/\QRow (λj=>IsQ (F j+x*Y j)) w' g N N/\w.grownBy w' (some g)/\I32 w w':=by
 have HY:=Kh hy;have HX:=Kh hx;have HF:=Kh hF;have H1:=Kh h1;have HK:=Kh hK;have hS:=Kh h1.sts.1;clear h1 hy hx hF hK;go_enter func50,ntmps50
 go_wp2_with fail
 obtain⟨w0,gI,X0,bA⟩:=bx1 w #[.bool s,.slice p n c,.bool t,.slice q m d] 86;rw[gI];have cA:=Kh bA;have Z:=Kh X0;have cS:=Kh (show QRow (addQ F Y x 0) w0 g N N from QRow.congr (QRow.keep (λ_=>IsQ.solid _) H1.1 bA) (λj _=>by unfold addQ;rw[if_neg (Nat.not_lt_zero j)]));have hX:=Kh (HX.1.keep bA);obtain⟨gc,cC⟩:∃gc,w.heap.size=gc:=⟨_,rfl⟩
 have h:=Kh (show gc≠g by have:=hS.1;omega);rw[cC]at Z ⊢;have nW:=Kh cC;clear X0 bA gI H1 HX cC;go_wp2;go_loopw [9] (λi wr=>∃k:Nat,k<=N/\i=.int .i64 k/\QRow (addQ F Y x k) wr g N N/\w0.grownBy wr (some g)/\I32 w0 wr) (λi _=>N - (intOf i).toNat)
 case atStart=>exact⟨0,Nat.zero_le _,rfl,cS.1,Ag g (Below.refl _ _),I32.refl _⟩
 case round=>
  obtain⟨k,hk,rfl,bC,gA,eT⟩:=hrel;have aK:=Kh bC;have M:=Kh gA;have U:=Kh eT;clear bC gA eT cS;by_cases hlt:k<N
  ·obtain⟨gy,oy,cy,rfl,cD,oL,gP⟩:=HY.1.resolve_left (by omega)
   have hU:=Kh cD;obtain⟨s',p',i1,c',t',q',m',d',a0,a1,a2,a3,hx⟩:=(((gP k hlt).keep (IsQ.solid _) cA.1).butR U.1 M.1 cD)
   have HP:=Kh (show Qs wr s' p' i1 c' t' q' m' d' (Y k)from hx);have cM:=Kh (hX.1.i32 U.1);have x0:=M.1.cell (Z.1.at_ 0 rfl) (λe=>by injection e with e;exact h.1 e);have x1:=M.1.cell (Z.1.at_ 1 rfl) (λe=>by injection e with e;exact h.1 e);have x2:=M.1.cell (Z.1.at_ 2 rfl) (λe=>by injection e with e;exact h.1 e);have x3:=M.1.cell (Z.1.at_ 3 rfl) (λe=>by injection e with e;exact h.1 e);have oN:(k:Int)<(N:Int):=by omega
   have dC:=Kh (show Cells4 wr gc 0 s p n c t q m d from⟨x0,x1,x2,x3⟩);have cG:=Kh (show Cells4 wr gy (oy+k*4) s' p' i1 c' t' q' m' d' from⟨a0,a1,a2,a3⟩);clear gP cD hx x0 x1 x2 x3;go_wp2_with fail
   refine(Gu s' p' i1 c' t' q' m' d' (Y k) wr HP.1 (by have:=(HF.1 k hlt).2;omega)).mono ?_;rintro e we ⟨⟨sg,rfl,gF⟩,J⟩;have cX:=Kh gF;have oF:=Kh J;have E:=Kh (QRow.keep (λj=>(IsQ.solid _:Bi (addQ F Y x k j))) aK.1 J);have aD:=Kh (M.1.trans (Ag g J));have V:=Kh (U.1.trans (I32.below J));have hW:=Kh (HP.1.keep J);have hY:=Kh (cM.1.keep J);have iL:=Kh (dC.1.keep J);have hP:=Kh (cG.1.keep J);clear gF J a0 a1 a2 a3 aK M U HP cM dC cG;by_cases hz:Y k=0
   ·have h0:sg=0:=cX.1.2 hz
    subst h0;have nC:=Kh (show F k+x*Y k=F k by rw[hz];grind);go_wp2;go_roundw
    case rel=>exact⟨k+1,by omega,by go_num,addQ.done E.1 nC.1,aD.1,V.1⟩
    case measure=>simp[intOf];omega
   ·have h0:(sg != 0)=true:=by
     have:sg≠0:=λe=>hz (cX.1.1 e)
     simpa using this
    obtain⟨x0,x1,x2,x3⟩:=iL.1;obtain⟨a0,a1,a2,a3⟩:=hP.1;obtain⟨s5,p5,n5,c5,t5,q5,m5,d5,e0,e1,e2,e3,hy⟩:=addQ.elem E.1 hlt;have hQ:=Kh (show Qs we s5 p5 n5 c5 t5 q5 m5 d5 (F k)from hy)
    have hZ:=Kh (show hq (x*Y k)<=200000000 by
     have h1:=Ce x (Y k);have h2:=HK.1;have h3:=(HF.1 k hlt).2;omega)
    have hT:=Kh (λw1 (I:Below we.heap.size we w1)=>Co s p n c t q m d x s' p' i1 c' t' q' m' d' (Y k) w1 (hY.1.keep I) (hW.1.keep I) (by have:=HK.1;omega) (by have:=(HF.1 k hlt).2;omega));have O:=E.1;have oO:=hU.1;have oP:=h.1;have oQ:g<we.heap.size:=O.sts.1;clear hy;go_upto_region 5 with(fail)
    refine Lg (λW=>W.cell? ⟨gc,0,none⟩=some (.bool s)/\W.cell? ⟨gc,1,none⟩=some (.slice p n c)/\W.cell? ⟨gc,2,none⟩=some (.bool t)/\W.cell? ⟨gc,3,none⟩=some (.slice q m d)/\W.cell? ⟨gy,oy+k*4,none⟩=some (.bool s')/\W.cell? ⟨gy,oy+k*4+1,none⟩=some (.slice p' i1 c')/\W.cell? ⟨gy,oy+k*4+2,none⟩=some (.bool t')/\W.cell? ⟨gy,oy+k*4+3,none⟩=some (.slice q' m' d')/\W.cell? ⟨g,k*4,none⟩=some (.bool s5)/\W.frozen? ⟨g,k*4,none⟩=false/\W.cell? ⟨g,k*4+1,none⟩=some (.slice p5 n5 c5)/\W.frozen? ⟨g,k*4+1,none⟩=false/\W.cell? ⟨g,k*4+2,none⟩=some (.bool t5)/\W.frozen? ⟨g,k*4+2,none⟩=false/\W.cell? ⟨g,k*4+3,none⟩=some (.slice q5 m5 d5)/\W.frozen? ⟨g,k*4+3,none⟩=false) (λW I=>⟨Av I x0,Av I x1,Av I x2,Av I x3,Av I a0,Av I a1,Av I a2,Av I a3,Av I e0,Ab I (by rw[e0];rfl) (O.free _ (by omega)),Av I e1,Ab I (by rw[e1];rfl) (O.free _ (by omega)),Av I e2,Ab I (by rw[e2];rfl) (O.free _ (by omega)),Av I e3,Ab I (by rw[e3];rfl) (O.free _ (by omega))⟩) (λcT hHeld0=>?_);clear x0 x1 x2 x3 a0 a1 a2 a3 e0 e1 e2 e3 O;refine Ap 0 ?_;refine Ap 1 ?_;refine Ap 2 ?_;refine Ap 3 ?_;refine Ap 4 ?_;refine Ap 5 ?_;refine Ap 6 ?_;refine Ap 7 ?_;refine Ap 8 ?_;refine Ap 9 ?_;refine Ap 10 ?_;refine Hq 11 rfl (λK hK=>?_);focus(go_simp;refine(hT.1 _ (Below.refl _ we).drew).mono ?_;rintro e w2 ⟨⟨s3,p3,n3,c3,t3,q3,m3,d3,rfl,gS⟩,eX⟩;have cB:=Kh ((Below.refl _ we).drew.trans eX:Below we.heap.size we w2);have mA:=Kh gS;clear gS eX;(first|with_reducible refine hK.out _ _ ?_ (λhHeld1=>?_) |(go_wp2_with fail;with_reducible refine hK.out _ _ ?_ (λhHeld1=>?_))))
    focus((try dsimp only);exact cT.1 _ cB.1)
    focus(clear hK K;(try simp only[Act.put,Bn,Bp,Bo]))
    refine Hq 12 rfl (λK hK=>?_);focus(go_simp;refine(Fp s5 p5 n5 c5 t5 q5 m5 d5 (F k) s3 p3 n3 c3 t3 q3 m3 d3 (x*Y k) _ (hQ.1.keep cB.1) mA.1 (by have:=(HF.1 k hlt).1;omega) (by have:=hZ.1;omega)).mono ?_;rintro e w4 ⟨⟨s6,p6,n6,c6,t6,q6,m6,d6,rfl,gU⟩,eY⟩;have aX:=bt cB eY;have cF:=QRow.keep (λj=>(IsQ.solid _:Bi (addQ F Y x k j))) E.1 aX.1;have cI:=Kh (addQ.put cF hlt gU);have hR:=Kh (show ∀v0 v1 v2 v3,w0.grownBy ((((w4.setCell ⟨g,k*4,none⟩ v0).setCell ⟨g,k*4+1,none⟩ v1).setCell ⟨g,k*4+2,none⟩ v2).setCell ⟨g,k*4+3,none⟩ v3) (some g)from λ_ _ _ _=>Dr aD.1 aX.1);have H4:=Kh (show I32 w0 ((((w4.setCell ⟨g,k*4,none⟩ (.bool s6)).setCell ⟨g,k*4+1,none⟩ (.slice p6 n6 c6)).setCell ⟨g,k*4+2,none⟩ (.bool t6)).setCell ⟨g,k*4+3,none⟩ (.slice q6 m6 d6))from(V.1.trans (I32.below aX.1)).trans (I32.put4 cF.sts _ _ _ _ _ _ _ _ (NotInt.bool _) (NotInt.slice _ _ _) (NotInt.bool _)));clear gU eY cF;(first|with_reducible refine hK.out _ _ ?_ (λhHeld2=>?_) |(go_wp2_with fail;with_reducible refine hK.out _ _ ?_ (λhHeld2=>?_))))
    focus((try dsimp only);exact cT.1 _ aX.1)
    focus(clear hK K;(try simp only[Act.put,Bn,Bp,Bo]))
    refine Ap 13 ?_;refine Le 14 rfl (λK hK=>?_);go_simp
    refine hK.out _ _ ?_;clear hK K
    (try simp only[Act.put,Bn,Bp,Bo])
    all_goals clear E aD V
    all_goals go_wp2
    all_goals go_roundw
    all_goals first
     | exact⟨k+1,by omega,by go_num,cI.1,hR.1 _ _ _ _,H4.1⟩
     |(simp[intOf];omega)
  ·obtain rfl:k=N:=by omega
   go_wp2;go_end0;exact⟨⟨_,rfl⟩,QRow.congr aK.1 (λj hj=>by unfold addQ;rw[if_pos hj]),(Ag g cA.1).trans M.1,(I32.below cA.1).trans U.1⟩
def SliceV (v:Value):Prop:=∃p n c,v=.slice p n c
theorem SliceV.notU32 {v:Value} (h:SliceV v):NotU32 v:=by
 obtain⟨p,n,c,rfl⟩:=h;exact λ_ h=>by cases h
theorem Stk.imp {K E:Value->Prop} {w:World} {G:Nat} (h:Stk K w G) (I:∀v,K v->E v):Stk E w G:=⟨h.1,λi v J=>I v (h.2 i v J)⟩
theorem OwnT.base {l:List (Nat×Rat)} {w:World} {B B':Nat} {v:Value} (h:OwnT l w B v) (hB:B'<=B):OwnT l w B' v:=by
 obtain⟨U,⟨⟨I,E⟩,O⟩,M⟩:=h;refine⟨U,⟨⟨I,?_⟩,O⟩,M⟩;rcases E with E |⟨g,cap,cs,J,hg,rest⟩
 ·exact .inl E
 ·exact .inr ⟨g,cap,cs,J,nM hB hg,rest⟩
structure LeadTab (L:Nat->List (Nat×Rat)) (w:World) (G C B:Nat):Prop where
 stk:Stk SliceV w G
 free:∀i,i<C->w.frozen? ⟨G,i,none⟩=false
 val:∀j,j<C->∃v,w.cell? ⟨G,j,none⟩=some v/\TL (L j) w B v/\(L j=[]->v=.slice none 0 0)
theorem LeadTab.next {L:Nat->List (Nat×Rat)} {w w':World} {G C B B':Nat} (h:LeadTab L w G C B) (I:I32 w w') (E:Below B' w w') (J:G<B') (hB:B<=B'):LeadTab L w' G C B:=
 ⟨⟨nN h.stk.1 E.size,λi v V=>h.stk.2 i v ((E.cell (p:=⟨G,i,none⟩) J).symm.trans V)⟩,
  λi M=>(World.frozen?_of_block (a:=⟨G,i,none⟩) (E.block G J)).trans (h.free i M),
  λj O=>by
   obtain⟨v,e,U,hn⟩:=h.val j O;exact⟨v,(E.cell (p:=⟨G,j,none⟩) J).trans e,U.next I (E.mono hB),hn⟩⟩
theorem LeadTab.keep {L:Nat->List (Nat×Rat)} {w w':World} {G C B:Nat} (h:LeadTab L w G C B) (hB:B<=w.heap.size) (E:Below w.heap.size w w'):LeadTab L w' G C B:=h.next (I32.below E) E h.stk.1 hB
theorem LeadTab.up {L:Nat->List (Nat×Rat)} {w:World} {G C B B':Nat} (h:LeadTab L w G C B) (hB:B<=B'):LeadTab L w G C B':=
 ⟨h.stk,h.free,λj E=>by obtain⟨v,e,I,hn⟩:=h.val j E;exact⟨v,e,I.up hB,hn⟩⟩
theorem TL.store {l:List (Nat×Rat)} {w:World} {B G x:Nat} {v u:Value} (h:TL l w B v) (O:Stk SliceV w G):TL l (w.setCell ⟨G,x,none⟩ u) B v:=by
 rcases h with h |⟨g,o,cap,e,hc,I,hg,ht⟩
 ·exact .inl h
 ·refine .inr ⟨g,o,cap,e,hc,I,hg,λj y hy=>?_⟩
  obtain⟨M,s,p,n,c,t,q,m,d,U,V,Z,e4,e5⟩:=ht j y hy
  have J:G≠g:=λe=>by
   obtain⟨p,n,c,h1⟩:=O.2 (o+j*5) _ (by rw[e];exact M);cases h1
  have E:∀i v,w.cell? ⟨g,i,none⟩=some v->(w.setCell ⟨G,x,none⟩ u).cell? ⟨g,i,none⟩=some v:=λi v e=>by
   rw[World.cell?_setCell_far w ⟨G,x,none⟩ ⟨g,i,none⟩ u J];exact e
  exact⟨E _ _ M,s,p,n,c,t,q,m,d,E _ _ U,E _ _ V,E _ _ Z,E _ _ e4,e5.i32 (I32.putU (O.imp λ_=>SliceV.notU32) x u)⟩
theorem LeadTab.put {L:Nat->List (Nat×Rat)} {w:World} {G C B x:Nat} {l:List (Nat×Rat)} {p:Option Addr} {n c:Nat} (h:LeadTab L w G C B) (V:x<C) (O:l≠[]) (U:TL l w B (.slice p n c)):
  LeadTab (λj=>if j=x then l else L j) (w.setCell ⟨G,x,none⟩ (.slice p n c)) G C B:=by
 refine⟨Be h.stk _ _ ⟨p,n,c,rfl⟩,λi J=>Aw (h.free i J),λj M=>?_⟩;obtain⟨v,e,I,hn⟩:=h.val j M;by_cases hjx:j=x
 ·subst hjx
  refine⟨.slice p n c,World.cell?_setCell_same' _ _ _ (by rw[e];rfl),?_,λE=>?_⟩
  ·rw[if_pos rfl];exact U.store h.stk
  ·rw[if_pos rfl]at E;exact absurd E O
 ·refine⟨v,?_,?_,λE=>?_⟩
  ·rw[World.cell?_setCell_other _ _ _ _ (by simp <;> omega)];exact e
  ·rw[if_neg hjx];exact I.store h.stk
  ·rw[if_neg hjx]at E;exact hn E
def lG (C:Nat) (w:World) (v:Value):Nat:=
 match v with
 |.slice (some a) (_+1) _=>C+1 - (intOf (cellOf w a)).toNat
 | _=>0
theorem Pk {C:Nat} {w:World} {B:Nat} {x:Nat×Rat} {r:List (Nat×Rat)} {v:Value} (h:OwnT (x :: r) w B v):lG C w v=C+1 - x.1:=by
 rcases h.row with⟨e,_⟩ |⟨g,cap,rfl,_,_,_,_,I⟩
 ·cases e
 ·have E:=(I.val 0 x rfl).1
  rw[Nat.zero_mul]at E;rw[List.length_cons];show C+1 - (intOf (cellOf w ⟨g,0,none⟩)).toNat=_;rw[Af E];simp[intOf]
theorem cW {C:Nat} {w:World} {B:Nat} {v:Value} (h:OwnT [] w B v):lG C w v=0:=by
 rcases h.row with⟨_,rfl⟩ |⟨g,cap,rfl,_⟩ <;> rfl
def Ek (c:Rat) (k:Nat) (r:List (Nat×Rat)):List (Nat×Rat):=r.mapIdx λj y=>(y.1,if j<k then c*y.2 else y.2)
theorem Hk (c:Rat) (k:Nat) (r:List (Nat×Rat)):(Ek c k r).length=r.length:=by unfold Ek;rw[List.length_mapIdx]
theorem El (c:Rat) (k:Nat) (r:List (Nat×Rat)) (j:Nat):(Ek c k r)[j]?=(r[j]?).map λy=>(y.1,if j<k then c*y.2 else y.2):=by unfold Ek;rw[List.getElem?_mapIdx]
theorem Rr (c:Rat) (r:List (Nat×Rat)):Ek c 0 r=r:=by
 refine List.ext_getElem? λj=>?_
 rw[El];cases r[j]? <;> simp
theorem Vj (c:Rat) (r:List (Nat×Rat)):Ek c r.length r=r.map λy=>(y.1,c*y.2):=by
 refine List.ext_getElem? λj=>?_
 rw[El,List.getElem?_map];by_cases h:j<r.length
 ·rw[List.getElem?_eq_getElem h];simp[h]
 ·rw[List.getElem?_eq_none (by omega)];rfl
theorem TRow.keep {l:List (Nat×Rat)} {w w':World} {g:Nat} (h:TRow l w g) (E:Below w.heap.size w w'):TRow l w' g:=
 ⟨h.stk.next E,λi I=>Ab E (h.has i I) (h.free i I),λi I=>by rw[E.cell (p:=⟨g,i,none⟩) h.stk.1];exact h.has i I,λj x J=>(h.val j x J).keep E⟩
theorem TRow.tl {l:List (Nat×Rat)} {w:World} {g cap:Nat} (h:TRow l w g) (E:l.length<=cap) (I:cap<=9223372036854775807):TL l w w.heap.size (.slice (some ⟨g,0,none⟩) l.length cap):=
 .inr ⟨g,0,cap,rfl,E,I,h.stk.1,λj x J=>by rw[Nat.zero_add];exact h.val j x J⟩
theorem I32.putT {w:World} {g k:Nat} (E:Stk NotU32 w g) (s t:Bool) (p q:Option Addr) (n c m d:Nat):
  Stk NotU32 ((((w.setCell ⟨g,k*5+1,none⟩ (.bool s)).setCell ⟨g,k*5+2,none⟩ (.slice p n c)).setCell ⟨g,k*5+3,none⟩ (.bool t)).setCell ⟨g,k*5+4,none⟩ (.slice q m d)) g /\
  I32 w ((((w.setCell ⟨g,k*5+1,none⟩ (.bool s)).setCell ⟨g,k*5+2,none⟩ (.slice p n c)).setCell ⟨g,k*5+3,none⟩ (.bool t)).setCell ⟨g,k*5+4,none⟩ (.slice q m d)):=by
 have I:∀b,NotU32 (.bool b):=λ_ _ h=>by cases h
 have J:∀p n c,NotU32 (.slice p n c):=λ_ _ _ _ h=>by cases h
 have M:=Be E ⟨g,k*5+1,none⟩ (.bool s) (I s);have O:=Be M ⟨g,k*5+2,none⟩ (.slice p n c) (J _ _ _);have U:=Be O ⟨g,k*5+3,none⟩ (.bool t) (I t);have V:=Be U ⟨g,k*5+4,none⟩ (.slice q m d) (J _ _ _);exact⟨V,(((I32.putU E _ _).trans (I32.putU M _ _)).trans (I32.putU O _ _)).trans (I32.putU U _ _)⟩
theorem TRow.scl {J:Rat} {k:Nat} {r:List (Nat×Rat)} {w:World} {g:Nat} {x:Nat×Rat} (h:TRow (Ek J k r) w g) (hx:r[k]?=some x) {s t:Bool} {p q:Option Addr} {n c m d:Nat} (hq:Qs w s p n c t q m d (J*x.2)):
  TRow (Ek J (k+1) r) ((((w.setCell ⟨g,k*5+1,none⟩ (.bool s)).setCell ⟨g,k*5+2,none⟩ (.slice p n c)).setCell ⟨g,k*5+3,none⟩ (.bool t)).setCell ⟨g,k*5+4,none⟩ (.slice q m d)) g:=by
 obtain⟨s4,O⟩:=I32.putT (k:=k) h.stk s t p q n c m d
 have bY:k<r.length:=by
  rcases Nat.lt_or_ge k r.length with h|h
  ·exact h
  ·rw[List.getElem?_eq_none h]at hx;cases hx
 have hn:∀k',(Ek J k' r).length=r.length:=λk'=>Hk J k' r
 refine⟨s4,λi U=>Aw (Aw (Aw (Aw (h.free i (by rw[hn]at U ⊢;exact U))))),λi U=>Ak (Ak (Ak (Ak (h.has i (by rw[hn]at U ⊢;exact U))))),λj y M=>?_⟩;rw[El]at M;have E:=h.val j;rw[El]at E;by_cases hjk:j=k
 ·subst hjk
  rw[hx]at M E;simp only[Option.map_some,nO,if_true]at M;injection M with M
  subst M;have h0:=(E _ rfl).1;have c0:=h.has (j*5+1) (by rw[hn];omega);have c1:=Ak (R:=g) (i:=j*5+1) (u:=.bool s) (h.has (j*5+2) (by rw[hn];omega));have c2:=Ak (R:=g) (i:=j*5+2) (u:=.slice p n c) (Ak (R:=g) (i:=j*5+1) (u:=.bool s) (h.has (j*5+3) (by rw[hn];omega)));have c3:=Ak (R:=g) (i:=j*5+3) (u:=.bool t) (Ak (R:=g) (i:=j*5+2) (u:=.slice p n c) (Ak (R:=g) (i:=j*5+1) (u:=.bool s) (h.has (j*5+4) (by rw[hn];omega))));refine⟨?_,s,p,n,c,t,q,m,d,?_,?_,?_,?_,hq.i32 O⟩
  ·rw[World.cell?_setCell_other _ _ _ _ (by simp),World.cell?_setCell_other _ _ _ _ (by simp),World.cell?_setCell_other _ _ _ _ (by simp),World.cell?_setCell_other _ _ _ _ (by simp)];exact h0
  ·rw[World.cell?_setCell_other _ _ _ _ (by simp),World.cell?_setCell_other _ _ _ _ (by simp),World.cell?_setCell_other _ _ _ _ (by simp),World.cell?_setCell_same' _ _ _ c0]
  ·rw[World.cell?_setCell_other _ _ _ _ (by simp),World.cell?_setCell_other _ _ _ _ (by simp),World.cell?_setCell_same' _ _ _ c1]
  ·rw[World.cell?_setCell_other _ _ _ _ (by simp),World.cell?_setCell_same' _ _ _ c2]
  ·rw[World.cell?_setCell_same' _ _ _ c3]
 ·have e:(r[j]?.map λy=>(y.1,if j<k+1 then J*y.2 else y.2))=r[j]?.map λy=>(y.1,if j<k then J*y.2 else y.2):=by
   have Z:(j<k+1)=(j<k):=propext ⟨λ_=>by omega,λ_=>by omega⟩;simp only[Z]
  have I:∀(i:Nat) (v:Value),j*5<=i->i<j*5+5->w.cell? ⟨g,i,none⟩=some v->((((w.setCell ⟨g,k*5+1,none⟩ (.bool s)).setCell ⟨g,k*5+2,none⟩ (.slice p n c)).setCell ⟨g,k*5+3,none⟩ (.bool t)).setCell ⟨g,k*5+4,none⟩ (.slice q m d)).cell? ⟨g,i,none⟩=some v:=by
   intro i v h1 h2 hv;rw[World.cell?_setCell_other _ _ _ _ (by simp <;> omega),World.cell?_setCell_other _ _ _ _ (by simp <;> omega),World.cell?_setCell_other _ _ _ _ (by simp <;> omega),World.cell?_setCell_other _ _ _ _ (by simp <;> omega)];exact hv
  obtain⟨e0,s',p',n',V,t',q',m',d',Z,e2,e3,e4,e5⟩:=E y (by rw[<-e];exact M);exact⟨I _ _ (by omega) (by omega) e0,s',p',n',V,t',q',m',d',I _ _ (by omega) (by omega) Z,I _ _ (by omega) (by omega) e2,I _ _ (by omega) (by omega) e3,I _ _ (by omega) (by omega) e4,e5.i32 O⟩
theorem TRow.elem {E:Rat} {k:Nat} {r:List (Nat×Rat)} {w:World} {g:Nat} {x:Nat×Rat} (h:TRow (Ek E k r) w g) (I:r[k]?=some x):TE x w g (k*5):=by
 refine h.val k x ?_;rw[El,I];simp
theorem Vk {w0 I E:World} {g k:Nat} {v0 v1 v2 v3:Value} (h:w0.grownBy I (some g)) (J:Below I.heap.size I E):w0.grownBy ((((E.setCell ⟨g,k*5+1,none⟩ v0).setCell ⟨g,k*5+2,none⟩ v1).setCell ⟨g,k*5+3,none⟩ v2).setCell ⟨g,k*5+4,none⟩ v3) (some g):=
 (h.trans (Ag g J)).trans (E8 E g _ _ _ _ v0 v1 v2 v3)
theorem dN:(prog.info? 107).map (λi=>(i.zero,i.size,i.bytes))=some (some (.slice none 0 0),1,24):=by kernel_rfl
theorem Yh {n i:Nat} {v:Value} (h:(madeCells #[.slice none 0 0] n)[i]?=some v):v=.slice none 0 0:=by
 unfold madeCells at h;simp only[Array.getElem?_map,Array.getElem?_range]at h;split at h
 ·simp only[Option.map_some]at h
  injection h with h
  rw[<-h];have E:i % 1=0:=Nat.mod_one i;show(#[.slice none 0 0]:Array Value)[i % 1]! = _;rw[E];rfl
 ·cases h
theorem kM (n:Nat) (h:n<=1000000) (w:World):
  (Instr.makeSlice 102 (.int .i64 (n:Int)) (.int .i64 (n:Int))).run prog w=.ok (.slice (some ⟨w.heap.size,0,none⟩) n n) (w.alloc (.cells (madeCells #[.slice none 0 0] n) 107)):=by
 obtain⟨i,M,E,I,J⟩:=info_parts dN;have hr:=run_make (P:=prog) w 102 107 i _ underlying102 M E .i64 .i64 n n (by omega) (Int.le_refl _) (by rw[J];omega) (by omega);rw[Int.toNat_natCast,I,Nat.mul_one]at hr;exact hr
theorem LeadTab.made (w:World) (C:Nat):LeadTab (λ_=>[]) (w.alloc (.cells (madeCells #[.slice none 0 0] C) 107)) w.heap.size C (w.heap.size+1):=by
 have I:=Blk.new w 107 (madeCells #[.slice none 0 0] C)
 have J:∀i,i<C->(w.alloc (.cells (madeCells #[.slice none 0 0] C) 107)).cell? ⟨w.heap.size,i,none⟩=some (.slice none 0 0):=λi E=>by
  rw[I.cell_ i,Array.getElem?_eq_getElem (by rw[size_madeCells];exact E)];congr 1;exact Yh (Array.getElem?_eq_getElem (by rw[size_madeCells];exact E))
 refine⟨Stk.of I ?_,λi _=>I.free_ i,λj M=>⟨_,J j M,.inl ⟨rfl,_,_,rfl⟩,λ_=>rfl⟩⟩;intro v O;obtain⟨i,E⟩:=Array.getElem?_of_mem (Array.mem_toList_iff.1 O);rw[Yh E];exact⟨_,_,_,rfl⟩
/-! Lists of numbers -/
def OwnN (l:List Nat) (w:World) (B:Nat) (v:Value):Prop:=OwnK NotU32 w B 3 1 v l.length (l.map λn:Nat=>Value.int .i64 (n:Int))
theorem OwnN.nil (w:World) (B:Nat):OwnN [] w B (.slice none 0 0):=OwnK.nil _ _ _ _ _
theorem OwnN.keep {l:List Nat} {w w':World} {B:Nat} {v:Value} (h:OwnN l w B v) (E:Below w.heap.size w w'):OwnN l w' B v:=OwnK.keep h E
theorem OwnN.push {l:List Nat} {w':World} {B:Nat} {E:Value} {a:Nat} (h:OwnK NotU32 w' B 3 1 E (l.length+1) ((l.map λn:Nat=>Value.int .i64 (n:Int))++[.int .i64 (a:Int)])):OwnN (l++[a]) w' B E:=by
 unfold OwnN;rw[List.map_append,List.length_append];exact h
theorem Es:(prog.info? 3).map (λi=>(i.zero,i.size,i.bytes))=some (some (.int .i64 0),1,8):=by kernel_rfl
def NL (l:List Nat) (w:World) (B:Nat) (v:Value):Prop:=(l=[]/\∃a c,v=.slice a 0 c)∨∃g cap,v=.slice (some ⟨g,0,none⟩) l.length cap/\l.length<=cap/\cap<=9223372036854775807/\g<B/\∀(j x:Nat),l[j]?=some x->w.cell? ⟨g,j,none⟩=some (.int .i64 (x:Int))
theorem NL.next {l:List Nat} {w w':World} {B:Nat} {v:Value} (h:NL l w B v) (I:Below B w w'):NL l w' B v:=by
 rcases h with h |⟨g,cap,e,J,E,hg,O⟩
 ·exact .inl h
 ·exact .inr ⟨g,cap,e,J,E,hg,λj x M=>(I.cell (p:=⟨g,j,none⟩) hg).trans (O j x M)⟩
theorem NL.up {l:List Nat} {w:World} {B B':Nat} {v:Value} (h:NL l w B v) (hB:B<=B'):NL l w B' v:=by
 rcases h with h |⟨g,cap,e,I,E,hg,J⟩
 ·exact .inl h
 ·exact .inr ⟨g,cap,e,I,E,nN hg hB,J⟩
theorem OwnN.nl {l:List Nat} {w:World} {B:Nat} {v:Value} (h:OwnN l w B v):NL l w w.heap.size v:=by
 rcases h.1.2 with⟨E,J⟩ |⟨g,cap,cs,E,hB,hg,hn,I,O,_⟩
 ·exact .inl ⟨List.eq_nil_of_length_eq_zero J,_,_,E⟩
 ·have U:=h.2 g (by rw[E];rfl)
  have M:=h.1;subst E;exact .inr ⟨g,cap,rfl,hn,by simp only[maxLen]at I;omega,U.1,λj x V=>Ai M (by rw[List.getElem?_map,V];rfl)⟩
theorem Bg {w:World} {B E sz n:Nat} {v:Value} {M:List Value} (h:w.ownsRow B E sz v n M):∃p c,v=.slice p n c:=by
 rcases h.2 with⟨I,J⟩ |⟨O,cap,cs,I,hB,_⟩
 ·exact⟨none,0,by rw[I,J]⟩
 ·exact⟨_,_,I⟩
theorem Cl {w:World} {B E sz n g:Nat} {v:Value} {J:List Value} (h:w.ownsRow B E sz v n J) (e:some g=v.ownBlock):B<=g:=by
 rcases h.2 with⟨I,_⟩ |⟨M,cap,cs,I,hB,_⟩
 ·rw[I]at e;simp[Value.ownBlock]at e
 ·rw[I]at e;simp[Value.ownBlock]at e;omega
/-! The rows of coordinates -/
structure RowTab (X:Nat->Nat->Rat) (N:Nat) (w:World) (GR C lo B:Nat):Prop where
 stk:Stk SliceV w GR
 free:∀i,i<C->w.frozen? ⟨GR,i,none⟩=false
 has:∀i,i<C->(w.cell? ⟨GR,i,none⟩).isSome=true
 val:∀j,lo<=j->j<C->∃g,w.cell? ⟨GR,j,none⟩=some (.slice (some ⟨g,0,none⟩) N N)/\g<B/\g≠GR/\∀i,i<N->QE (IsQ (X j i)) w g (i*4)
theorem QE.next {r:Rat} {w w':World} {B g i:Nat} (h:QE (IsQ r) w g i) (hg:g<B) (I:I32 w w') (Z:Below B w w'):QE (IsQ r) w' g i:=by
 have E:∀j v,w.cell? ⟨g,j,none⟩=some v->w'.cell? ⟨g,j,none⟩=some v:=λj v e=>(Z.cell (p:=⟨g,j,none⟩) hg).trans e
 obtain⟨s,p,n,c,t,q,m,d,J,M,O,U,V⟩:=h;exact⟨s,p,n,c,t,q,m,d,E _ _ J,E _ _ M,E _ _ O,E _ _ U,V.i32 I⟩
theorem RowTab.next {X:Nat->Nat->Rat} {N:Nat} {w w':World} {GR C lo B B':Nat} (h:RowTab X N w GR C lo B) (M:I32 w w') (E:Below B' w w') (J:GR<B') (hB:B<=B'):RowTab X N w' GR C lo B:=
 ⟨⟨nN h.stk.1 E.size,λi v Z=>h.stk.2 i v ((E.cell (p:=⟨GR,i,none⟩) J).symm.trans Z)⟩,
  λi I=>(World.frozen?_of_block (a:=⟨GR,i,none⟩) (E.block GR J)).trans (h.free i I),
  λi I=>by rw[E.cell (p:=⟨GR,i,none⟩) J];exact h.has i I,
  λj U V=>by
   obtain⟨g,e,hg,O,hq⟩:=h.val j U V;exact⟨g,(E.cell (p:=⟨GR,j,none⟩) J).trans e,hg,O,λi I=>(hq i I).next (nN hg hB) M E⟩⟩
theorem RowTab.up {X:Nat->Nat->Rat} {N:Nat} {w:World} {GR C lo B B':Nat} (h:RowTab X N w GR C lo B) (hB:B<=B'):RowTab X N w GR C lo B':=
 ⟨h.stk,h.free,h.has,λj I J=>by obtain⟨g,e,hg,E,hq⟩:=h.val j I J;exact⟨g,e,nN hg hB,E,hq⟩⟩
theorem RowTab.keep {X:Nat->Nat->Rat} {N:Nat} {w w':World} {GR C lo B:Nat} (h:RowTab X N w GR C lo B) (hB:B<=w.heap.size) (E:Below w.heap.size w w'):RowTab X N w' GR C lo B:=h.next (I32.below E) E h.stk.1 hB
theorem RowTab.put {X X':Nat->Nat->Rat} {N:Nat} {w:World} {GR C j B g:Nat} (h:RowTab X N w GR C (j+1) B) (hj:j<C) (hg:g<B) (O:g≠GR) (hq:∀i,i<N->QE (IsQ (X' j i)) w g (i*4)) (hX:∀E,j+1<=E->E<C->∀i,i<N->X' E i=X E i):
  RowTab X' N (w.setCell ⟨GR,j,none⟩ (.slice (some ⟨g,0,none⟩) N N)) GR C j B:=by
 have M:I32 w (w.setCell ⟨GR,j,none⟩ (.slice (some ⟨g,0,none⟩) N N)):=I32.putU (h.stk.imp λ_=>SliceV.notU32) j _;refine⟨Be h.stk _ _ ⟨_,_,_,rfl⟩,λi I=>Aw (h.free i I),λi I=>Ak (h.has i I),λE h1 Z=>?_⟩;by_cases hjj:E=j
 ·subst hjj
  exact⟨g,World.cell?_setCell_same' _ _ _ (h.has E hj),hg,O,λi I=>(hq i I).butR M (Ar w GR E _) O⟩
 ·obtain⟨g',e,U,J,V⟩:=h.val E (by omega) Z
  refine⟨g',?_,U,J,λi I=>by rw[hX E (by omega) Z i I];exact(V i I).butR M (Ar w GR j _) J⟩;rw[World.cell?_setCell_other _ _ _ _ (by simp <;> omega)];exact e
theorem Hj:(prog.info? 30).map (λi=>(i.zero,i.size,i.bytes))=some (some (.slice none 0 0),1,24):=by kernel_rfl
theorem kO (n:Nat) (h:n<=1000000) (w:World):
  (Instr.makeSlice 104 (.int .i64 (n:Int)) (.int .i64 (n:Int))).run prog w=.ok (.slice (some ⟨w.heap.size,0,none⟩) n n) (w.alloc (.cells (madeCells #[.slice none 0 0] n) 30)):=by
 obtain⟨i,M,E,I,J⟩:=info_parts Hj;have hr:=run_make (P:=prog) w 104 30 i _ underlying104 M E .i64 .i64 n n (by omega) (Int.le_refl _) (by rw[J];omega) (by omega);rw[Int.toNat_natCast,I,Nat.mul_one]at hr;exact hr
theorem RowTab.made (X:Nat->Nat->Rat) (N:Nat) (w:World) (C:Nat):RowTab X N (w.alloc (.cells (madeCells #[.slice none 0 0] C) 30)) w.heap.size C C (w.heap.size+1):=by
 have E:=Blk.new w 30 (madeCells #[.slice none 0 0] C);refine⟨Stk.of E ?_,λi _=>E.free_ i,λi I=>?_,λj O J=>absurd J (by omega)⟩
 ·intro v M
  obtain⟨i,I⟩:=Array.getElem?_of_mem (Array.mem_toList_iff.1 M);rw[Yh I];exact⟨_,_,_,rfl⟩
 ·rw[E.cell_ i,Array.getElem?_eq_getElem (by rw[size_madeCells];exact I)];rfl
structure ModAt (w:World) (M B:Nat) (N k D:Int) (F:List Nat) (C:Nat) (X:Nat->Nat->Rat):Prop where
 lt:M<B
 c0:w.cell? ⟨M,0,none⟩=some (.int .i64 N)
 c1:w.cell? ⟨M,1,none⟩=some (.int .i64 k)
 c2:w.cell? ⟨M,2,none⟩=some (.int .i64 D)
 c3:∃v,w.cell? ⟨M,3,none⟩=some v/\NL F w B v
 c4:∃GR,w.cell? ⟨M,4,none⟩=some (.slice (some ⟨GR,0,none⟩) C C)/\GR<B/\∀j,j<C->∃g,w.cell? ⟨GR,j,none⟩=some (.slice (some ⟨g,0,none⟩) F.length F.length)/\g<B/\∀i f,F[i]?=some f->QE (IsQ (X j f)) w g (i*4)
theorem ModAt.next {w w':World} {M B B':Nat} {N k D:Int} {F:List Nat} {C:Nat} {X:Nat->Nat->Rat} (h:ModAt w M B N k D F C X) (I:I32 w w') (J:Below B' w w') (hB:B<=B'):ModAt w' M B N k D F C X:=by
 have E:∀g i v,g<B->w.cell? ⟨g,i,none⟩=some v->w'.cell? ⟨g,i,none⟩=some v:=λg i v hg e=>(J.cell (p:=⟨g,i,none⟩) (nN hg hB)).trans e
 obtain⟨v,U,Z⟩:=h.c3;obtain⟨GR,V,O,h4⟩:=h.c4;refine⟨h.lt,E _ _ _ h.lt h.c0,E _ _ _ h.lt h.c1,E _ _ _ h.lt h.c2,⟨v,E _ _ _ h.lt U,Z.next (J.mono hB)⟩,GR,E _ _ _ h.lt V,O,λj hj=>?_⟩;obtain⟨g,e,hg,hq⟩:=h4 j hj;exact⟨g,E _ _ _ O e,hg,λi f hf=>(hq i f hf).next (nN hg hB) I J⟩
theorem ModAt.keep {w w':World} {M B:Nat} {N k D:Int} {F:List Nat} {C:Nat} {X:Nat->Nat->Rat} (h:ModAt w M B N k D F C X) (hB:B<=w.heap.size) (E:Below w.heap.size w w'):ModAt w' M B N k D F C X:=h.next (I32.below E) E hB
theorem ModAt.up {w:World} {M B B':Nat} {N k D:Int} {F:List Nat} {C:Nat} {X:Nat->Nat->Rat} (h:ModAt w M B N k D F C X) (hB:B<=B'):ModAt w M B' N k D F C X:=by
 obtain⟨v,E,J⟩:=h.c3;obtain⟨GR,I,U,O⟩:=h.c4;exact⟨nN h.lt hB,h.c0,h.c1,h.c2,⟨v,E,J.up hB⟩,GR,I,nN U hB,λj V=>by obtain⟨g,e,hg,hq⟩:=O j V;exact⟨g,e,nN hg hB,hq⟩⟩
end Go.Proofs.YtenlbhlllgppmaaGreatDoor
