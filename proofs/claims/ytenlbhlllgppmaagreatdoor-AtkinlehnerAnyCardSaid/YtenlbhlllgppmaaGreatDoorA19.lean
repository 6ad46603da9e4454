/- Contract of symbols.minus: a row less a multiple of another. -/
import Derived.Test.YtenlbhlllgppmaaGreatDoorA18
set_option linter.unusedSimpArgs false
set_option maxRecDepth 100000
set_option maxHeartbeats 8000000
namespace Go.Proofs.YtenlbhlllgppmaaGreatDoor
open Go.RowKit Eli Tryz
theorem Kb {W w':World} (g:Nat) (hg:W.heap.size=g) (I:Below (W.alloc (.cells #[.bool false,.slice none 0 0,.bool false,.slice none 0 0] 86)).heap.size (W.alloc (.cells #[.bool false,.slice none 0 0,.bool false,.slice none 0 0] 86)) w'):
  w'.cell? ⟨g,0,none⟩=some (.bool false)/\w'.cell? ⟨g,1,none⟩=some (.slice none 0 0)/\w'.cell? ⟨g,2,none⟩=some (.bool false)/\w'.cell? ⟨g,3,none⟩=some (.slice none 0 0)/\w'.frozen? ⟨g,0,none⟩=false/\w'.frozen? ⟨g,1,none⟩=false/\w'.frozen? ⟨g,2,none⟩=false/\w'.frozen? ⟨g,3,none⟩=false/\Blk w' g 86 #[.bool false,.slice none 0 0,.bool false,.slice none 0 0]:=by
 subst hg;have h:=(Blk.new W 86 #[.bool false,.slice none 0 0,.bool false,.slice none 0 0]).below_ I (by simp);exact⟨h.at_ 0 rfl,h.at_ 1 rfl,h.at_ 2 rfl,h.at_ 3 rfl,h.free_ 0,h.free_ 1,h.free_ 2,h.free_ 3,h⟩
theorem Io {w w':World} {g:Nat} (J:Below w.heap.size w w') (h:w.cell? ⟨g,0,none⟩=some (.bool false)/\w.cell? ⟨g,1,none⟩=some (.slice none 0 0)/\w.cell? ⟨g,2,none⟩=some (.bool false)/\w.cell? ⟨g,3,none⟩=some (.slice none 0 0)/\w.frozen? ⟨g,0,none⟩=false/\w.frozen? ⟨g,1,none⟩=false/\w.frozen? ⟨g,2,none⟩=false/\w.frozen? ⟨g,3,none⟩=false/\Blk w g 86 #[.bool false,.slice none 0 0,.bool false,.slice none 0 0]):
  w'.cell? ⟨g,0,none⟩=some (.bool false)/\w'.cell? ⟨g,1,none⟩=some (.slice none 0 0)/\w'.cell? ⟨g,2,none⟩=some (.bool false)/\w'.cell? ⟨g,3,none⟩=some (.slice none 0 0)/\w'.frozen? ⟨g,0,none⟩=false/\w'.frozen? ⟨g,1,none⟩=false/\w'.frozen? ⟨g,2,none⟩=false/\w'.frozen? ⟨g,3,none⟩=false/\Blk w' g 86 #[.bool false,.slice none 0 0,.bool false,.slice none 0 0]:=by
 have I:=h.2.2.2.2.2.2.2.2;have h:=I.below_ J I.lt;exact⟨h.at_ 0 rfl,h.at_ 1 rfl,h.at_ 2 rfl,h.at_ 3 rfl,h.free_ 0,h.free_ 1,h.free_ 2,h.free_ 3,h⟩
theorem cell_next {w w':World} {a:Addr} {v:Value} (I:Below w.heap.size w w') (h:w.cell? a=some v):w'.cell? a=some v:=(I.cell (p:=a) (World.block_lt_of_cell? w a h)).trans h
def Iq:Value->Nat
 |.slice _ n _=>n
 | _=>0
def Sml (K:Nat) (c:Rat) (a b:List (Nat×Rat)):Prop:=hq c<=K/\(∀x,x∈a->hq x.2<=K)/\(∀x,x∈b->hq x.2<=K)
theorem Sml.left {K:Nat} {c:Rat} {x:Nat×Rat} {a b:List (Nat×Rat)} (h:Sml K c (x :: a) b):Sml K c a b:=⟨h.1,λy I=>h.2.1 y (List.mem_cons_of_mem _ I),h.2.2⟩
theorem Sml.right {K:Nat} {c:Rat} {y:Nat×Rat} {a b:List (Nat×Rat)} (h:Sml K c a (y :: b)):Sml K c a b:=⟨h.1,h.2.1,λz I=>h.2.2 z (List.mem_cons_of_mem _ I)⟩
theorem Sml.first {K:Nat} {c:Rat} {x:Nat×Rat} {a b:List (Nat×Rat)} (h:Sml K c (x :: a) b):hq x.2<=K:=h.2.1 x (List.mem_cons_self ..)
theorem Sml.second {K:Nat} {c:Rat} {y:Nat×Rat} {a b:List (Nat×Rat)} (h:Sml K c a (y :: b)):hq y.2<=K:=h.2.2 y (List.mem_cons_self ..)
theorem Z1 (v1 v2:Value) (l1 l2:List (Nat×Rat)) (s:Bool) (p:Option Addr) (n c:Nat) (t:Bool) (q:Option Addr) (m d:Nat) (x:Rat) (K:Nat) (w:World) (h1:TL l1 w w.heap.size v1) (h2:TL l2 w w.heap.size v2) (hx:Qs w s p n c t q m d x) (hK:Sml K x l1 l2) (qO:K<=100000000) (hn:l1.length+l2.length<=1000000):
  Calls prog 95 #[v1,.agg #[.bool s,.slice p n c,.bool t,.slice q m d],v2] w λe w'=>(∃v',e=.returned v'/\OwnT (Gq x l1 l2) w' (w.heap.size+1) v')/\Below w.heap.size w w':=by
 have H1:=Kh h1;have H2:=Kh h2;have HX:=Kh hx;have HK:=Kh hK;clear h1 h2 hx hK;go_enter func95,ntmps95
 go_wp2_with fail
 obtain⟨w0,nE,X0,hE⟩:=bx1 w #[.bool s,.slice p n c,.bool t,.slice q m d] 86;rw[nE];have oK:w0.heap.size=w.heap.size+1:=by rw[<-nE];simp
 have oU:=Kh hE;have eP:=Kh X0;have mP:=Kh (I32.below hE);have nT:=Kh (HX.1.keep hE);have pA:=Kh oK;have nW:=Kh ((H1.1.next mP.1 hE).up (Nat.le_succ _));have nX:=Kh ((H2.1.next mP.1 hE).up (Nat.le_succ _));have nS:=Kh (OwnT.nil w0 (w.heap.size+1));clear X0 hE nE oK H1 H2 HX;go_loopw [0,2,7] (λva vb vo wr=>∃la lb lo,TL la wr (w.heap.size+1) va/\TL lb wr (w.heap.size+1) vb/\OwnT lo wr (w.heap.size+1) vo/\lo++Gq x la lb=Gq x l1 l2/\Sml K x la lb/\la.length+lb.length+lo.length<=l1.length+l2.length/\Below (w.heap.size+1) w0 wr/\I32 w0 wr) (λva vb _ _=>Iq va+Iq vb)
 case atStart=>exact⟨l1,l2,[],nW.1,nX.1,nS.1,rfl,HK.1,by simp,Below.refl _ _,I32.refl _⟩
 case round=>
  obtain⟨la,lb,lo,hJ,bH,mN,oG,oJ,hI,nC,oD⟩:=hrel;have HB:=Kh nC;have HS:=Kh oJ;have dY:=Kh oD;have gP:=Kh oG;have pB:=Kh mN;have J:=Kh (show w.heap.size+1<=wr.heap.size from pA.1▸nC.size);have bY:=Kh (show lo.length<=1000000 by omega);clear nC oJ oD oG nW nX nS HK;cases la with
  | nil=>
   obtain⟨aa,ac,rfl⟩:=hJ.nil;cases lb with
   | nil=>
    obtain⟨ba,bc,rfl⟩:=bH.nil;clear hJ bH mN;go_wp2;go_ret;exact⟨⟨_,rfl,by rw[<-gP.1,Si,List.append_nil];exact pB.1⟩,oU.1.trans (HB.1.mono (Nat.le_succ _))⟩
   | cons z lb=>
    clear hJ;obtain⟨xs,hX,gY⟩:=mN;have h:=Kh (λI (U:Below wr.heap.size wr I)=>hX.keep U);have gX:=Kh (λI (U:Below wr.heap.size wr I) j x hx=>show TX x I xs (j*5)from⟨(gY j x hx).1,(gY j x hx).2.i32 (IsQ.solid _) (I32.below U)⟩);clear hX gY;obtain⟨gb,ob,cb,rfl,hY,oF,bB,⟨b0,s2,p2,n2,c2,t2,q2,m2,d2,b1,b2,b3,b4,iL⟩,gA⟩:=bH.cons;have gU:=Kh gA;have nY:=Kh bH;have mD:=Kh (show Qs wr s2 p2 n2 c2 t2 q2 m2 d2 z.2 from iL);have r0:=(HB.1.cell (p:=⟨w.heap.size,0,none⟩) (mJ _)).trans (eP.1.at_ 0 rfl);have r1:=(HB.1.cell (p:=⟨w.heap.size,1,none⟩) (mJ _)).trans (eP.1.at_ 1 rfl);have r2:=(HB.1.cell (p:=⟨w.heap.size,2,none⟩) (mJ _)).trans (eP.1.at_ 2 rfl);have r3:=(HB.1.cell (p:=⟨w.heap.size,3,none⟩) (mJ _)).trans (eP.1.at_ 3 rfl);have mC:=Kh (nT.1.i32 dY.1);clear bH gA iL;have g1:(0:Int)<((lb.length+1:Nat):Int):=by omega
    have g2:(((lb.length:Nat):Int)+1==0)=false:=by simp;omega
    go_wp2_with fail
    go_quiet (fail)
    go_wp2_with fail
    go_quiet (fail)
    have hD:=Kh (λI (U:Below wr.heap.size wr I)=>Cy s p n c t q m d x s2 p2 n2 c2 t2 q2 m2 d2 z.2 I (mC.1.keep U) (mD.1.keep U) (by have:=HS.1.1;omega) (by have:=HS.1.second;omega));have gS:=Kh (show hq (x*z.2)<=1000000000 by have h1:=Cc x z.2;have h2:=HS.1.1;have h3:=HS.1.second;omega);have bA:=Kh (show ∀I,Below (w.heap.size+1) wr I->(I.cell? ⟨gb,ob,none⟩=some (.int .i64 (z.1:Int))/\I.cell? ⟨gb,ob+1,none⟩=some (.bool s2)/\I.cell? ⟨gb,ob+2,none⟩=some (.slice p2 n2 c2)/\I.cell? ⟨gb,ob+3,none⟩=some (.bool t2)/\I.cell? ⟨gb,ob+4,none⟩=some (.slice q2 m2 d2)/\I.cell? ⟨w.heap.size,0,none⟩=some (.bool s)/\I.cell? ⟨w.heap.size,1,none⟩=some (.slice p n c)/\I.cell? ⟨w.heap.size,2,none⟩=some (.bool t)/\I.cell? ⟨w.heap.size,3,none⟩=some (.slice q m d))from λI U=>⟨(U.cell (p:=⟨gb,ob,none⟩) (bB)).trans b0,(U.cell (p:=⟨gb,ob+1,none⟩) (bB)).trans b1,(U.cell (p:=⟨gb,ob+2,none⟩) (bB)).trans b2,(U.cell (p:=⟨gb,ob+3,none⟩) (bB)).trans b3,(U.cell (p:=⟨gb,ob+4,none⟩) (bB)).trans b4,(U.cell (p:=⟨w.heap.size,0,none⟩) (mJ _)).trans r0,(U.cell (p:=⟨w.heap.size,1,none⟩) (mJ _)).trans r1,(U.cell (p:=⟨w.heap.size,2,none⟩) (mJ _)).trans r2,(U.cell (p:=⟨w.heap.size,3,none⟩) (mJ _)).trans r3⟩);clear b0 b1 b2 b3 b4 r0 r1 r2 r3;go_upto_region 11 with(fail)
    go_region_held3 (λI=>I.cell? ⟨gb,ob,none⟩=some (.int .i64 (z.1:Int))/\I.cell? ⟨gb,ob+1,none⟩=some (.bool s2)/\I.cell? ⟨gb,ob+2,none⟩=some (.slice p2 n2 c2)/\I.cell? ⟨gb,ob+3,none⟩=some (.bool t2)/\I.cell? ⟨gb,ob+4,none⟩=some (.slice q2 m2 d2)/\I.cell? ⟨w.heap.size,0,none⟩=some (.bool s)/\I.cell? ⟨w.heap.size,1,none⟩=some (.slice p n c)/\I.cell? ⟨w.heap.size,2,none⟩=some (.bool t)/\I.cell? ⟨w.heap.size,3,none⟩=some (.slice q m d))
     (first|exact bA.1 _ (Below.mono (show Below wr.heap.size wr _ from(by first|exact(Aa (Aa (Below.refl _ wr) _) _).drew|exact(Aa (Below.refl _ wr) _).drew|exact(Below.refl _ wr).drew)) J.1)|with_reducible exact bA.1 _ bE|exact bA.1 _ (bE.alloc cA _)|exact bA.1 _ aD.1 |(exfalso;assumption))
     (first
      |(refine Ii NotU32 rfl (.tmp 87) (.tmp 100) _ 110 rfl underlying107 Ei rfl (by decide) (w.heap.size+1) lo.length u7 xs [.int .i64 (z.1:Int),.bool s4,.slice p4 n4 c4,.bool t4,.slice q4 m4 d4] rfl (h.1 _ (O)) rfl rfl (Ul _ _ _ _ _ _ _ _ _) (by have:=bY.1;omega) (by have:=bY.1;omega) (by first|exact J.1|exact mH J.1 (Below.size (O))) (fO _ _ _ _ _ _ _ _ _) Uk ?_;intro v9 w9 V M bC;have dC:=Kh (OwnT.push (h.1 _ (O)) (gX.1 _ (O)) z.1 (-(x*z.2)) hM V M);have Y:=Kh (show I32 wr w9 from(I32.below (O)).trans (I32.grown (K:=NotU32) (λz=>Er z) (h.1 _ (O)).2 M));have aD:=Kh (show Below (w.heap.size+1) wr w9 from(Below.mono (O) J.1).trans (Aw (Below.refl _ _) (h.1 _ (O)).1 M (mG _) (by first|exact J.1|exact mH J.1 (Below.size (O)))));clear V M bC)
      |(go_at_call 44;refine(hD.1 _ (show Below wr.heap.size wr _ from(by first|exact(Aa (Aa (Below.refl _ wr) _) _).drew|exact(Aa (Below.refl _ wr) _).drew|exact(Below.refl _ wr).drew))).mono ?_;rintro e w2 ⟨⟨s3,p3,n3,c3,t3,q3,m3,d3,rfl,hL⟩,hG⟩;have Z:Below wr.heap.size wr w2:=Below.trans (show Below wr.heap.size wr _ from(by first|exact(Aa (Aa (Below.refl _ wr) _) _).drew|exact(Aa (Below.refl _ wr) _).drew|exact(Below.refl _ wr).drew)) hG;have bE:=Z.mono J.1;have cA:=mH J.1 Z.size)
      |(go_at_call 51;refine(I1 s3 p3 n3 c3 t3 q3 m3 d3 (x*z.2) _ hL gS.1).mono ?_;rintro e w3 ⟨⟨s4,p4,n4,c4,t4,q4,m4,d4,rfl,hM⟩,hB⟩;have O:Below wr.heap.size wr w3:=Z.trans (hB.mono Z.size);have bE:=O.mono J.1;have cA:=mH J.1 O.size))
    all_goals go_wp2
    all_goals go_roundw
    all_goals first
     | exact⟨[],lb,lo++[(z.1,-(x*z.2))],.inl ⟨rfl,_,_,rfl⟩,(gU.1.next Y.1 aD.1).cut _ hY,dC.1,by rw[<-gP.1,mrg_right,List.append_assoc];rfl,HS.1.right,by simp at hI ⊢;omega,HB.1.trans aD.1,dY.1.trans Y.1⟩
     |(simp[Iq])
  | cons y la=>
   obtain⟨ga,oa,ca,rfl,mM,qA,hZ,⟨a0,s1,p1,n1,c1,t1,q1,m1,d1,a1,a2,a3,a4,oH⟩,mQ⟩:=hJ.cons;obtain⟨xs,hX,gY⟩:=mN;have h:=Kh (λI (U:Below wr.heap.size wr I)=>hX.keep U);have gX:=Kh (λI (U:Below wr.heap.size wr I) j x hx=>show TX x I xs (j*5)from⟨(gY j x hx).1,(gY j x hx).2.i32 (IsQ.solid _) (I32.below U)⟩);clear hX gY;have mL:=Kh mQ;have pC:=Kh hJ;have mW:=Kh (show Qs wr s1 p1 n1 c1 t1 q1 m1 d1 y.2 from oH);clear hJ mQ oH;cases lb with
   | nil=>
    obtain⟨ba,bc,rfl⟩:=bH.nil;have gU:=Kh bH;clear bH;have g1:(0:Int)<((la.length+1:Nat):Int):=by omega
    go_wp2_with fail
    go_quiet (fail)
    go_wp2_with (at_builtin;refine Bj NotU32 rfl (.tmp 64) (.tmp 68) _ 110 rfl underlying107 Ei rfl (by decide) (w.heap.size+1) lo.length u7 xs [.int .i64 (y.1:Int),.bool s1,.slice p1 n1 c1,.bool t1,.slice q1 m1 d1] rfl (h.1 _ (Aa (Below.refl _ wr) _)) rfl rfl (Ul _ _ _ _ _ _ _ _ _) (by have:=bY.1;omega) (by have:=bY.1;omega) (by first|exact J.1|exact mH J.1 (Below.size (Aa (Below.refl _ wr) _))) (fO _ _ _ _ _ _ _ _ _) Uk ?_;intro v9 w9 V M bC;have dC:=Kh (OwnT.push (h.1 _ (Aa (Below.refl _ wr) _)) (gX.1 _ (Aa (Below.refl _ wr) _)) y.1 y.2 (mW.1.keep (Aa (Below.refl _ wr) _)) V M);have Y:=Kh (show I32 wr w9 from(I32.below (Aa (Below.refl _ wr) _)).trans (I32.grown (K:=NotU32) (λz=>Er z) (h.1 _ (Aa (Below.refl _ wr) _)).2 M));have aD:=Kh (show Below (w.heap.size+1) wr w9 from(Below.mono (Aa (Below.refl _ wr) _) J.1).trans (Aw (Below.refl _ _) (h.1 _ (Aa (Below.refl _ wr) _)).1 M (mG _) (by first|exact J.1|exact mH J.1 (Below.size (Aa (Below.refl _ wr) _)))));clear V M bC)
    go_roundw
    case rel=>exact⟨la,[],lo++[(y.1,y.2)],(mL.1.next Y.1 aD.1).cut _ mM,gU.1.next Y.1 aD.1,dC.1,by rw[<-gP.1,mrg_left,List.append_assoc];rfl,HS.1.left,by simp at hI ⊢;omega,HB.1.trans aD.1,dY.1.trans Y.1⟩
    case measure=>simp[Iq]
   | cons z lb=>
    obtain⟨gb,ob,cb,rfl,hY,oF,bB,⟨b0,s2,p2,n2,c2,t2,q2,m2,d2,b1,b2,b3,b4,iL⟩,gA⟩:=bH.cons;have gU:=Kh gA;have nY:=Kh bH;have mD:=Kh (show Qs wr s2 p2 n2 c2 t2 q2 m2 d2 z.2 from iL);have r0:=(HB.1.cell (p:=⟨w.heap.size,0,none⟩) (mJ _)).trans (eP.1.at_ 0 rfl);have r1:=(HB.1.cell (p:=⟨w.heap.size,1,none⟩) (mJ _)).trans (eP.1.at_ 1 rfl);have r2:=(HB.1.cell (p:=⟨w.heap.size,2,none⟩) (mJ _)).trans (eP.1.at_ 2 rfl);have r3:=(HB.1.cell (p:=⟨w.heap.size,3,none⟩) (mJ _)).trans (eP.1.at_ 3 rfl);have mC:=Kh (nT.1.i32 dY.1);clear bH gA iL;have g1:(0:Int)<((la.length+1:Nat):Int):=by omega
    have g2:(((la.length:Nat):Int)+1==0)=false:=by simp;omega
    have g3:(((lb.length:Nat):Int)+1==0)=false:=by simp;omega
    rcases Nat.lt_trichotomy y.1 z.1 with hlt|nD|pF
    ·have g4:(y.1:Int)<(z.1:Int):=by omega
     clear r0 r1 r2 r3;go_wp2_with fail
     go_quiet (fail)
     go_wp2_with (at_builtin;refine Bj NotU32 rfl (.tmp 64) (.tmp 68) _ 110 rfl underlying107 Ei rfl (by decide) (w.heap.size+1) lo.length u7 xs [.int .i64 (y.1:Int),.bool s1,.slice p1 n1 c1,.bool t1,.slice q1 m1 d1] rfl (h.1 _ (Aa (Below.refl _ wr) _)) rfl rfl (Ul _ _ _ _ _ _ _ _ _) (by have:=bY.1;omega) (by have:=bY.1;omega) (by first|exact J.1|exact mH J.1 (Below.size (Aa (Below.refl _ wr) _))) (fO _ _ _ _ _ _ _ _ _) Uk ?_;intro v9 w9 V M bC;have dC:=Kh (OwnT.push (h.1 _ (Aa (Below.refl _ wr) _)) (gX.1 _ (Aa (Below.refl _ wr) _)) y.1 y.2 (mW.1.keep (Aa (Below.refl _ wr) _)) V M);have Y:=Kh (show I32 wr w9 from(I32.below (Aa (Below.refl _ wr) _)).trans (I32.grown (K:=NotU32) (λz=>Er z) (h.1 _ (Aa (Below.refl _ wr) _)).2 M));have aD:=Kh (show Below (w.heap.size+1) wr w9 from(Below.mono (Aa (Below.refl _ wr) _) J.1).trans (Aw (Below.refl _ _) (h.1 _ (Aa (Below.refl _ wr) _)).1 M (mG _) (by first|exact J.1|exact mH J.1 (Below.size (Aa (Below.refl _ wr) _)))));clear V M bC)
     go_roundw
     case rel=>exact⟨la,z :: lb,lo++[(y.1,y.2)],(mL.1.next Y.1 aD.1).cut _ mM,nY.1.next Y.1 aD.1,dC.1,by rw[<-gP.1,Q5 x y z la lb hlt,List.append_assoc];rfl,HS.1.left,by simp at hI ⊢;omega,HB.1.trans aD.1,dY.1.trans Y.1⟩
     case measure=>simp[Iq]
    ·have g4:decide ((y.1:Int)<(z.1:Int))=false:=by simp;omega
     have g5:decide ((z.1:Int)<(y.1:Int))=false:=by simp;omega
     go_wp2_with fail
     go_quiet (fail)
     go_wp2_with fail
     go_quiet (fail)
     have hD:=Kh (λI (U:Below wr.heap.size wr I)=>Cy s p n c t q m d x s2 p2 n2 c2 t2 q2 m2 d2 z.2 I (mC.1.keep U) (mD.1.keep U) (by have:=HS.1.1;omega) (by have:=HS.1.second;omega));have gS:=Kh (show hq (x*z.2)<=200000000 by have h1:=Cc x z.2;have h2:=HS.1.1;have h3:=HS.1.second;omega);have nZ:=Kh (show hq y.2<=1000000000 by have h3:=HS.1.first;omega);have oX:=Kh (show hq (y.2 - x*z.2)<=1000000000 by have h3:=HS.1.first;have h4:=gS.1;have h5:=Nc y.2 (-(x*z.2));rw[Nf]at h5;rw[Rat.sub_eq_add_neg];omega);have bA:=Kh (show ∀I,Below (w.heap.size+1) wr I->(I.cell? ⟨ga,oa+1,none⟩=some (.bool s1)/\I.cell? ⟨ga,oa+2,none⟩=some (.slice p1 n1 c1)/\I.cell? ⟨ga,oa+3,none⟩=some (.bool t1)/\I.cell? ⟨ga,oa+4,none⟩=some (.slice q1 m1 d1)/\I.cell? ⟨gb,ob+1,none⟩=some (.bool s2)/\I.cell? ⟨gb,ob+2,none⟩=some (.slice p2 n2 c2)/\I.cell? ⟨gb,ob+3,none⟩=some (.bool t2)/\I.cell? ⟨gb,ob+4,none⟩=some (.slice q2 m2 d2)/\I.cell? ⟨w.heap.size,0,none⟩=some (.bool s)/\I.cell? ⟨w.heap.size,1,none⟩=some (.slice p n c)/\I.cell? ⟨w.heap.size,2,none⟩=some (.bool t)/\I.cell? ⟨w.heap.size,3,none⟩=some (.slice q m d))from λI U=>⟨(U.cell (p:=⟨ga,oa+1,none⟩) (hZ)).trans a1,(U.cell (p:=⟨ga,oa+2,none⟩) (hZ)).trans a2,(U.cell (p:=⟨ga,oa+3,none⟩) (hZ)).trans a3,(U.cell (p:=⟨ga,oa+4,none⟩) (hZ)).trans a4,(U.cell (p:=⟨gb,ob+1,none⟩) (bB)).trans b1,(U.cell (p:=⟨gb,ob+2,none⟩) (bB)).trans b2,(U.cell (p:=⟨gb,ob+3,none⟩) (bB)).trans b3,(U.cell (p:=⟨gb,ob+4,none⟩) (bB)).trans b4,(U.cell (p:=⟨w.heap.size,0,none⟩) (mJ _)).trans r0,(U.cell (p:=⟨w.heap.size,1,none⟩) (mJ _)).trans r1,(U.cell (p:=⟨w.heap.size,2,none⟩) (mJ _)).trans r2,(U.cell (p:=⟨w.heap.size,3,none⟩) (mJ _)).trans r3⟩);have nQ:=Kh (λI (U:Below (w.heap.size+1) wr I)=>(U.cell (p:=⟨ga,oa,none⟩) hZ).trans a0);clear a0 a1 a2 a3 a4 b0 b1 b2 b3 b4 r0 r1 r2 r3;go_upto_region 3 with(fail)
     go_cut [8]from 17 to 27 (λv8 wd=>∃R s4 p4 n4 c4 t4 q4 m4 d4,v8=.pointer (some ⟨R,0,none⟩)/\wd.cell? ⟨R,0,none⟩=some (.bool s4)/\wd.cell? ⟨R,1,none⟩=some (.slice p4 n4 c4)/\wd.cell? ⟨R,2,none⟩=some (.bool t4)/\wd.cell? ⟨R,3,none⟩=some (.slice q4 m4 d4)/\Qs wd s4 p4 n4 c4 t4 q4 m4 d4 (y.2 - x*z.2)/\Below wr.heap.size wr wd/\wr.heap.size<=R)
     case first=>
      have M1:True:=trivial
      go_region_held3 (λI=>I.cell? ⟨ga,oa+1,none⟩=some (.bool s1)/\I.cell? ⟨ga,oa+2,none⟩=some (.slice p1 n1 c1)/\I.cell? ⟨ga,oa+3,none⟩=some (.bool t1)/\I.cell? ⟨ga,oa+4,none⟩=some (.slice q1 m1 d1)/\I.cell? ⟨gb,ob+1,none⟩=some (.bool s2)/\I.cell? ⟨gb,ob+2,none⟩=some (.slice p2 n2 c2)/\I.cell? ⟨gb,ob+3,none⟩=some (.bool t2)/\I.cell? ⟨gb,ob+4,none⟩=some (.slice q2 m2 d2)/\I.cell? ⟨w.heap.size,0,none⟩=some (.bool s)/\I.cell? ⟨w.heap.size,1,none⟩=some (.slice p n c)/\I.cell? ⟨w.heap.size,2,none⟩=some (.bool t)/\I.cell? ⟨w.heap.size,3,none⟩=some (.slice q m d))
       (first|exact bA.1 _ (Below.mono (show Below wr.heap.size wr _ from(by first|exact(Aa (Aa (Below.refl _ wr) _) _).drew|exact(Aa (Below.refl _ wr) _).drew|exact((Aa (Aa (Below.refl _ wr) _) _).drew).alloc (mG _) _|exact((Aa (Below.refl _ wr) _).drew).alloc (mG _) _)) J.1)|with_reducible exact bA.1 _ bE|exact bA.1 _ (bE.alloc cA _)|with_reducible exact bA.1 _ (As bE pD.1 _ _ _ _)|with_reducible exact bA.1 _ (As bE J.1 _ _ _ _)|with_reducible exact bA.1 _ (As (bE.alloc cA _) cA _ _ _ _) |(exfalso;assumption))
       (first
        |(go_at_call 44;clear M1;refine(hD.1 _ (by first|exact(Aa (Aa (Below.refl _ wr) _) _).drew|exact(Aa (Below.refl _ wr) _).drew|exact((Aa (Aa (Below.refl _ wr) _) _).drew).alloc (mG _) _|exact((Aa (Below.refl _ wr) _).drew).alloc (mG _) _)).mono ?_;rintro e w2 ⟨⟨s3,p3,n3,c3,t3,q3,m3,d3,rfl,hL⟩,hG⟩;have Z:Below wr.heap.size wr w2:=Below.trans (show Below wr.heap.size wr _ from(by first|exact(Aa (Aa (Below.refl _ wr) _) _).drew|exact(Aa (Below.refl _ wr) _).drew|exact((Aa (Aa (Below.refl _ wr) _) _).drew).alloc (mG _) _|exact((Aa (Below.refl _ wr) _).drew).alloc (mG _) _)) (Below.mono hG (Below.size (show Below wr.heap.size wr _ from(by first|exact(Aa (Aa (Below.refl _ wr) _) _).drew|exact(Aa (Below.refl _ wr) _).drew|exact((Aa (Aa (Below.refl _ wr) _) _).drew).alloc (mG _) _|exact((Aa (Below.refl _ wr) _).drew).alloc (mG _) _))));have bE:=Z.mono J.1;have cA:=mH J.1 Z.size;(try have fa:=Kb wr.heap.size (by first|exact rfl |(simp;done)) hG))
        |(go_at_call 146;refine(Z6 s1 p1 n1 c1 t1 q1 m1 d1 y.2 s3 p3 n3 c3 t3 q3 m3 d3 (x*z.2) _ (mW.1.keep (show Below wr.heap.size wr _ from(by first|exact Z|exact Z.alloc Z.size _))) (by first|exact hL|exact hL.keep ((Below.refl _ _).alloc (mG _) _)) nZ.1 (by have:=gS.1;omega)).mono ?_;rintro e w3 ⟨⟨s4,p4,n4,c4,t4,q4,m4,d4,rfl,hM⟩,hB⟩;have O:Below wr.heap.size wr w3:=Below.trans (show Below wr.heap.size wr _ from(by first|exact Z|exact Z.alloc Z.size _)) (Below.mono hB (Below.size (show Below wr.heap.size wr _ from(by first|exact Z|exact Z.alloc Z.size _))));have bE:=O.mono J.1;have cA:=mH J.1 O.size;(first|have fa:=Io (by first|exact hB) fa|have fa:=Kb w2.heap.size rfl hB|skip);have pD:=Kh (show w.heap.size+1<=w2.heap.size from mH J.1 Z.size)))
      all_goals go_wp2
      all_goals go_meet
      all_goals first
       | exact⟨w3.heap.size,s4,p4,n4,c4,t4,q4,m4,d4,rfl,(Blk.new w3 86 #[.bool s4,.slice p4 n4 c4,.bool t4,.slice q4 m4 d4]).at_ 0 rfl,(Blk.new w3 86 #[.bool s4,.slice p4 n4 c4,.bool t4,.slice q4 m4 d4]).at_ 1 rfl,(Blk.new w3 86 #[.bool s4,.slice p4 n4 c4,.bool t4,.slice q4 m4 d4]).at_ 2 rfl,(Blk.new w3 86 #[.bool s4,.slice p4 n4 c4,.bool t4,.slice q4 m4 d4]).at_ 3 rfl,hM.keep ((Below.refl _ _).alloc (mG _) _),O.alloc O.size _,O.size⟩
       |(obtain⟨E0,E1,E2,E3,pG⟩:=B9 fa.2.2.2.2.2.2.2.2 hM rfl;exact⟨_,s4,p4,n4,c4,t4,q4,m4,d4,rfl,E0,E1,E2,E3,pG,As O (by first|exact mG _|exact Z.size) _ _ _ _,by first|exact mG _|exact Z.size⟩)
     case rest=>
      obtain⟨R,s4,p4,n4,c4,t4,q4,m4,d4,rfl,e0,e1,e2,e3,hz,oE,hR⟩:=hcut;obtain⟨wd,rfl⟩:∃wd:World,wd=wc:=⟨_,rfl⟩
      have mX:=Kh hz;have nR:=Kh oE;have mE:=Kh (show ∀g,u7.ownBlock=some g->g≠R from λg hg e=>by have:=((h.1 wr (Below.refl _ _)).2 g hg).1;omega);have hV:=Kh (And.intro e0 (And.intro e1 (And.intro e2 e3)));clear hz oE hR;go_wp2_with fail
      refine(E8 s4 p4 n4 c4 t4 q4 m4 d4 (y.2 - x*z.2) wd mX.1 oX.1).mono ?_;rintro e we ⟨⟨sg,rfl,oI⟩,bG⟩;have aK:=bt nR bG;have nV:=Kh oI;have oY:=Kh (mX.1.keep bG);have hW:=Kh (λI (U:Below we.heap.size we I)=>show I.cell? ⟨R,0,none⟩=some (.bool s4)/\I.cell? ⟨R,1,none⟩=some (.slice p4 n4 c4)/\I.cell? ⟨R,2,none⟩=some (.bool t4)/\I.cell? ⟨R,3,none⟩=some (.slice q4 m4 d4)from⟨cell_next (bG.trans (U.mono bG.size)) hV.1.1,cell_next (bG.trans (U.mono bG.size)) hV.1.2.1,cell_next (bG.trans (U.mono bG.size)) hV.1.2.2.1,cell_next (bG.trans (U.mono bG.size)) hV.1.2.2.2⟩);clear oI bG hD gS nZ mX nR hV e0 e1 e2 e3;by_cases hd:y.2 - x*z.2=0
      ·have h0:sg=0:=nV.1.2 hd
       subst h0;have oV:=Kh hd;clear hd;go_wp2_with fail
       go_quiet (fail)
       go_wp2;go_roundw
       case rel=>
        have eV:∀n,Below wr.heap.size wr (we.drewN n):=λn=>Aa aK.1 n
        exact⟨la,lb,lo,(mL.1.next (I32.below (eV _)) ((eV _).mono J.1)).cut _ mM,(gU.1.next (I32.below (eV _)) ((eV _).mono J.1)).cut _ hY,⟨xs,h.1 _ (eV _),gX.1 _ (eV _)⟩,by rw[<-gP.1,I7 x y z la lb nD oV.1],HS.1.left.right,by simp at hI ⊢;omega,HB.1.trans ((eV _).mono J.1),dY.1.trans (I32.below (eV _))⟩
       case measure=>simp[Iq];omega
      ·have h0:(sg != 0)=true:=by
        have:sg≠0:=λe=>hd (nV.1.1 e)
        simpa using this
       have oW:=Kh hd;clear hd;go_upto_region 5 with(fail)
       have nU:=Kh (show ∀I,Below we.heap.size we I->(I.cell? ⟨ga,oa,none⟩=some (.int .i64 (y.1:Int))/\I.cell? ⟨R,0,none⟩=some (.bool s4)/\I.cell? ⟨R,1,none⟩=some (.slice p4 n4 c4)/\I.cell? ⟨R,2,none⟩=some (.bool t4)/\I.cell? ⟨R,3,none⟩=some (.slice q4 m4 d4))from λI U=>⟨nQ.1 I ((aK.1.mono J.1).trans (U.mono (mH J.1 aK.1.size))),hW.1 I U⟩);have pE:=nU.1 _ (Below.refl _ we).drew
       go_region_held3 (λI=>I.cell? ⟨ga,oa,none⟩=some (.int .i64 (y.1:Int))/\I.cell? ⟨R,0,none⟩=some (.bool s4)/\I.cell? ⟨R,1,none⟩=some (.slice p4 n4 c4)/\I.cell? ⟨R,2,none⟩=some (.bool t4)/\I.cell? ⟨R,3,none⟩=some (.slice q4 m4 d4))
        (first|with_reducible exact pE|with_reducible exact oZ.1|exact nU.1 _ ((Below.refl _ we).drew.alloc (mG _) _) |(exfalso;assumption))
        (first
         |(refine Ii (W:=we.drew) NotU32 rfl (.tmp 31) (.tmp 38) _ 110 rfl underlying107 Ei rfl (by decide) (w.heap.size+1) lo.length u7 xs [.int .i64 (z.1:Int),.bool s4,.slice p4 n4 c4,.bool t4,.slice q4 m4 d4] rfl (h.1 _ (show Below wr.heap.size wr _ from(by first|exact aK.1.drew|exact aK.1))) rfl rfl (Ul _ _ _ _ _ _ _ _ _) (by have:=bY.1;omega) (by have:=bY.1;omega) (by first|exact J.1|exact mH J.1 (Below.size (show Below wr.heap.size wr _ from(by first|exact aK.1.drew|exact aK.1)))) (fO _ _ _ _ _ _ _ _ _) Uk ?_;intro v9 w9 V M bC;have dC:=Kh (OwnT.push (h.1 _ (show Below wr.heap.size wr _ from(by first|exact aK.1.drew|exact aK.1))) (gX.1 _ (show Below wr.heap.size wr _ from(by first|exact aK.1.drew|exact aK.1))) z.1 (y.2 - x*z.2) (oY.1.keep (by first|exact(Below.refl _ we).drew|exact Below.refl _ we)) V M);have Y:=Kh (show I32 wr w9 from(I32.below (show Below wr.heap.size wr _ from(by first|exact aK.1.drew|exact aK.1))).trans (I32.grown (K:=NotU32) (λz=>Er z) (h.1 _ (show Below wr.heap.size wr _ from(by first|exact aK.1.drew|exact aK.1))).2 M));have aD:=Kh (show Below (w.heap.size+1) wr w9 from(Below.mono (show Below wr.heap.size wr _ from(by first|exact aK.1.drew|exact aK.1)) J.1).trans (Aw (Below.refl _ _) (h.1 _ (show Below wr.heap.size wr _ from(by first|exact aK.1.drew|exact aK.1))).1 M (mG _) (by first|exact J.1|exact mH J.1 (Below.size (show Below wr.heap.size wr _ from(by first|exact aK.1.drew|exact aK.1))))));have oZ:=Kh (show w9.cell? ⟨ga,oa,none⟩=some (.int .i64 (y.1:Int))/\w9.cell? ⟨R,0,none⟩=some (.bool s4)/\w9.cell? ⟨R,1,none⟩=some (.slice p4 n4 c4)/\w9.cell? ⟨R,2,none⟩=some (.bool t4)/\w9.cell? ⟨R,3,none⟩=some (.slice q4 m4 d4)from⟨nQ.1 _ aD.1,M.cell (hW.1 _ (by first|exact(Below.refl _ we).drew|exact Below.refl _ we)).1 (λe=>mE.1 _ e.symm rfl),M.cell (hW.1 _ (by first|exact(Below.refl _ we).drew|exact Below.refl _ we)).2.1 (λe=>mE.1 _ e.symm rfl),M.cell (hW.1 _ (by first|exact(Below.refl _ we).drew|exact Below.refl _ we)).2.2.1 (λe=>mE.1 _ e.symm rfl),M.cell (hW.1 _ (by first|exact(Below.refl _ we).drew|exact Below.refl _ we)).2.2.2 (λe=>mE.1 _ e.symm rfl)⟩);clear V M bC))
       all_goals go_wp2_with fail
       all_goals go_quiet (fail)
       all_goals go_wp2
       all_goals go_roundw
       all_goals first
        | exact⟨la,lb,lo++[(z.1,y.2 - x*z.2)],(mL.1.next (Y.1.trans (I32.below (Aa (Below.refl _ _) _))) (Aa aD.1 _)).cut _ mM,(gU.1.next (Y.1.trans (I32.below (Aa (Below.refl _ _) _))) (Aa aD.1 _)).cut _ hY,dC.1.keep (Aa (Below.refl _ _) _),by rw[<-gP.1,Nk x y z la lb nD oW.1,nD,List.append_assoc];rfl,HS.1.left.right,by simp at hI ⊢;omega,HB.1.trans (Aa aD.1 _),dY.1.trans (Y.1.trans (I32.below (Aa (Below.refl _ _) _)))⟩
        |(simp[Iq];omega)
    ·have g4:decide ((y.1:Int)<(z.1:Int))=false:=by simp;omega
     have g5:(z.1:Int)<(y.1:Int):=by omega
     go_wp2_with fail
     go_quiet (fail)
     go_wp2_with fail
     go_quiet (fail)
     have hD:=Kh (λI (U:Below wr.heap.size wr I)=>Cy s p n c t q m d x s2 p2 n2 c2 t2 q2 m2 d2 z.2 I (mC.1.keep U) (mD.1.keep U) (by have:=HS.1.1;omega) (by have:=HS.1.second;omega));have gS:=Kh (show hq (x*z.2)<=1000000000 by have h1:=Cc x z.2;have h2:=HS.1.1;have h3:=HS.1.second;omega);have bA:=Kh (show ∀I,Below (w.heap.size+1) wr I->(I.cell? ⟨gb,ob,none⟩=some (.int .i64 (z.1:Int))/\I.cell? ⟨gb,ob+1,none⟩=some (.bool s2)/\I.cell? ⟨gb,ob+2,none⟩=some (.slice p2 n2 c2)/\I.cell? ⟨gb,ob+3,none⟩=some (.bool t2)/\I.cell? ⟨gb,ob+4,none⟩=some (.slice q2 m2 d2)/\I.cell? ⟨w.heap.size,0,none⟩=some (.bool s)/\I.cell? ⟨w.heap.size,1,none⟩=some (.slice p n c)/\I.cell? ⟨w.heap.size,2,none⟩=some (.bool t)/\I.cell? ⟨w.heap.size,3,none⟩=some (.slice q m d))from λI U=>⟨(U.cell (p:=⟨gb,ob,none⟩) (bB)).trans b0,(U.cell (p:=⟨gb,ob+1,none⟩) (bB)).trans b1,(U.cell (p:=⟨gb,ob+2,none⟩) (bB)).trans b2,(U.cell (p:=⟨gb,ob+3,none⟩) (bB)).trans b3,(U.cell (p:=⟨gb,ob+4,none⟩) (bB)).trans b4,(U.cell (p:=⟨w.heap.size,0,none⟩) (mJ _)).trans r0,(U.cell (p:=⟨w.heap.size,1,none⟩) (mJ _)).trans r1,(U.cell (p:=⟨w.heap.size,2,none⟩) (mJ _)).trans r2,(U.cell (p:=⟨w.heap.size,3,none⟩) (mJ _)).trans r3⟩);clear b0 b1 b2 b3 b4 r0 r1 r2 r3;go_upto_region 11 with(fail)
     go_region_held3 (λI=>I.cell? ⟨gb,ob,none⟩=some (.int .i64 (z.1:Int))/\I.cell? ⟨gb,ob+1,none⟩=some (.bool s2)/\I.cell? ⟨gb,ob+2,none⟩=some (.slice p2 n2 c2)/\I.cell? ⟨gb,ob+3,none⟩=some (.bool t2)/\I.cell? ⟨gb,ob+4,none⟩=some (.slice q2 m2 d2)/\I.cell? ⟨w.heap.size,0,none⟩=some (.bool s)/\I.cell? ⟨w.heap.size,1,none⟩=some (.slice p n c)/\I.cell? ⟨w.heap.size,2,none⟩=some (.bool t)/\I.cell? ⟨w.heap.size,3,none⟩=some (.slice q m d))
      (first|exact bA.1 _ (Below.mono (show Below wr.heap.size wr _ from(by first|exact(Aa (Aa (Below.refl _ wr) _) _).drew|exact(Aa (Below.refl _ wr) _).drew|exact(Below.refl _ wr).drew)) J.1)|with_reducible exact bA.1 _ bE|exact bA.1 _ (bE.alloc cA _)|exact bA.1 _ aD.1 |(exfalso;assumption))
      (first
       |(refine Ii NotU32 rfl (.tmp 87) (.tmp 100) _ 110 rfl underlying107 Ei rfl (by decide) (w.heap.size+1) lo.length u7 xs [.int .i64 (z.1:Int),.bool s4,.slice p4 n4 c4,.bool t4,.slice q4 m4 d4] rfl (h.1 _ (O)) rfl rfl (Ul _ _ _ _ _ _ _ _ _) (by have:=bY.1;omega) (by have:=bY.1;omega) (by first|exact J.1|exact mH J.1 (Below.size (O))) (fO _ _ _ _ _ _ _ _ _) Uk ?_;intro v9 w9 V M bC;have dC:=Kh (OwnT.push (h.1 _ (O)) (gX.1 _ (O)) z.1 (-(x*z.2)) hM V M);have Y:=Kh (show I32 wr w9 from(I32.below (O)).trans (I32.grown (K:=NotU32) (λz=>Er z) (h.1 _ (O)).2 M));have aD:=Kh (show Below (w.heap.size+1) wr w9 from(Below.mono (O) J.1).trans (Aw (Below.refl _ _) (h.1 _ (O)).1 M (mG _) (by first|exact J.1|exact mH J.1 (Below.size (O)))));clear V M bC)
       |(go_at_call 44;refine(hD.1 _ (show Below wr.heap.size wr _ from(by first|exact(Aa (Aa (Below.refl _ wr) _) _).drew|exact(Aa (Below.refl _ wr) _).drew|exact(Below.refl _ wr).drew))).mono ?_;rintro e w2 ⟨⟨s3,p3,n3,c3,t3,q3,m3,d3,rfl,hL⟩,hG⟩;have Z:Below wr.heap.size wr w2:=Below.trans (show Below wr.heap.size wr _ from(by first|exact(Aa (Aa (Below.refl _ wr) _) _).drew|exact(Aa (Below.refl _ wr) _).drew|exact(Below.refl _ wr).drew)) hG;have bE:=Z.mono J.1;have cA:=mH J.1 Z.size)
       |(go_at_call 51;refine(I1 s3 p3 n3 c3 t3 q3 m3 d3 (x*z.2) _ hL gS.1).mono ?_;rintro e w3 ⟨⟨s4,p4,n4,c4,t4,q4,m4,d4,rfl,hM⟩,hB⟩;have O:Below wr.heap.size wr w3:=Z.trans (hB.mono Z.size);have bE:=O.mono J.1;have cA:=mH J.1 O.size))
     all_goals go_wp2
     all_goals go_roundw
     all_goals first
      | exact⟨y :: la,lb,lo++[(z.1,-(x*z.2))],pC.1.next Y.1 aD.1,(gU.1.next Y.1 aD.1).cut _ hY,dC.1,by rw[<-gP.1,Q4 x y z la lb pF,List.append_assoc];rfl,HS.1.right,by simp at hI ⊢;omega,HB.1.trans aD.1,dY.1.trans Y.1⟩
      |(simp[Iq])
theorem QE.butR {r:Rat} {w w':World} {g i R:Nat} (h:QE (IsQ r) w g i) (M:I32 w w') (hg:w.grownBy w' (some R)) (O:g≠R):QE (IsQ r) w' g i:=by
 have I:∀j v,w.cell? ⟨g,j,none⟩=some v->w'.cell? ⟨g,j,none⟩=some v:=λj v e=>hg.cell e (λJ=>by injection J with J;exact O J)
 obtain⟨s,p,n,c,t,q,m,d,U,V,Y,Z,h4⟩:=h;exact⟨s,p,n,c,t,q,m,d,I _ _ U,I _ _ V,I _ _ Y,I _ _ Z,h4.i32 M⟩
def addQ (F Y:Nat->Rat) (x:Rat) (k:Nat):Nat->FP:=λj=>IsQ (if j<k then F j+x*Y j else F j)
theorem addQ.done {F Y:Nat->Rat} {x:Rat} {k:Nat} {w:World} {g N:Nat} (h:QRow (addQ F Y x k) w g N N) (I:F k+x*Y k=F k):QRow (addQ F Y x (k+1)) w g N N:=
 QRow.congr h (λj _=>by
  unfold addQ;by_cases hj:j<k
  ·rw[if_pos hj,if_pos (by omega)]
  ·rw[if_neg hj]
   by_cases hj2:j=k
   ·rw[if_pos (by omega),hj2,I]
   ·rw[if_neg (by omega)])
theorem addQ.put {F Y:Nat->Rat} {x:Rat} {k:Nat} {w:World} {g N:Nat} (h:QRow (addQ F Y x k) w g N N) (J:k<N) {s:Bool} {p:Option Addr} {n c:Nat} {t:Bool} {q:Option Addr} {m d:Nat} (hq:Qs w s p n c t q m d (F k+x*Y k)):
  QRow (addQ F Y x (k+1)) ((((w.setCell ⟨g,k*4,none⟩ (.bool s)).setCell ⟨g,k*4+1,none⟩ (.slice p n c)).setCell ⟨g,k*4+2,none⟩ (.bool t)).setCell ⟨g,k*4+3,none⟩ (.slice q m d)) g N N:=
 QRow.set (λ_=>IsQ.solid _) h k J _ (IsQ.solid _) (λi I M=>⟨I,by
  unfold addQ;by_cases hj:i<k
  ·rw[if_pos hj,if_pos (by omega)]
  ·rw[if_neg hj,if_neg (by omega)]⟩) (show IsQ (if k<k+1 then F k+x*Y k else F k) w s p n c t q m d by rw[if_pos (mJ k)];exact hq)
theorem addQ.elem {F Y:Nat->Rat} {x:Rat} {k:Nat} {w:World} {g N:Nat} (h:QRow (addQ F Y x k) w g N N) (J:k<N):QE (IsQ (F k)) w g (k*4):=by
 have I:=QRow.val h k J;unfold addQ at I;rw[if_neg (Nat.lt_irrefl k)]at I;exact I
theorem Fm {w0 J I:World} {g k:Nat} {v0 v1 v2 v3:Value} (h:w0.grownBy J (some g)) (M:Below J.heap.size J I):w0.grownBy ((((I.setCell ⟨g,k*4,none⟩ v0).setCell ⟨g,k*4+1,none⟩ v1).setCell ⟨g,k*4+2,none⟩ v2).setCell ⟨g,k*4+3,none⟩ v3) (some g):=
 (h.trans (Af g M)).trans (Gt I g _ _ _ _ v0 v1 v2 v3)
theorem Zu (g N cx:Nat) (v2:Value) (F Y:Nat->Rat) (s:Bool) (p:Option Addr) (n c:Nat) (t:Bool) (q:Option Addr) (m d:Nat) (x:Rat) (w:World) (h1:QRow (λj=>IsQ (F j)) w g N N)
  (hy:N=0∨∃gy oy cy,v2=.slice (some ⟨gy,oy,none⟩) N cy/\gy≠g/\gy<w.heap.size/\∀j,j<N->QE (IsQ (Y j)) w gy (oy+j*4))
  (hx:Qs w s p n c t q m d x) (hK:hq x<=100000000) (hF:∀j,j<N->hq (F j)<=100000000/\hq (Y j)<=100000000) (hN:N<=1000000):
  Calls prog 50 #[.slice (some ⟨g,0,none⟩) N cx,.agg #[.bool s,.slice p n c,.bool t,.slice q m d],v2] w λe w'=>(∃v,e=.returned v)/\QRow (λj=>IsQ (F j+x*Y j)) w' g N N/\w.grownBy w' (some g)/\I32 w w':=by
 have HY:=Kh hy;have HX:=Kh hx;have HF:=Kh hF;have H1:=Kh h1;have HK:=Kh hK;have hX:=Kh h1.sts.1;clear h1 hy hx hF hK;go_enter func50,ntmps50
 go_wp2_with fail
 obtain⟨w0,gU,X0,bB⟩:=bx1 w #[.bool s,.slice p n c,.bool t,.slice q m d] 86;rw[gU];have bY:=Kh bB;have h:=Kh X0;have cV:=Kh (show QRow (addQ F Y x 0) w0 g N N from QRow.congr (QRow.keep (λ_=>IsQ.solid _) H1.1 bB) (λj _=>by unfold addQ;rw[if_neg (Nat.not_lt_zero j)]));have mB:=Kh (HX.1.keep bB);obtain⟨gc,cB⟩:∃gc,w.heap.size=gc:=⟨_,rfl⟩
 have aD:=Kh (show gc≠g by have:=hX.1;omega);rw[cB]at h ⊢;have nA:=Kh cB;clear X0 bB gU H1 HX cB;go_wp2;go_loopw [9] (λi wr=>∃k:Nat,k<=N/\i=.int .i64 k/\QRow (addQ F Y x k) wr g N N/\w0.grownBy wr (some g)/\I32 w0 wr) (λi _=>N - (intOf i).toNat)
 case atStart=>exact⟨0,Nat.zero_le _,rfl,cV.1,Af g (Below.refl _ _),I32.refl _⟩
 case round=>
  obtain⟨k,hk,rfl,bE,gP,gF⟩:=hrel;have aN:=Kh bE;have O:=Kh gP;have V:=Kh gF;clear bE gP gF cV;by_cases hlt:k<N
  ·obtain⟨gy,oy,cy,rfl,cC,nP,hB⟩:=HY.1.resolve_left (by omega)
   have hZ:=Kh cC;obtain⟨s',p',i1,c',t',q',m',d',a0,a1,a2,a3,hx⟩:=(((hB k hlt).keep (IsQ.solid _) bY.1).butR V.1 O.1 cC)
   have HP:=Kh (show Qs wr s' p' i1 c' t' q' m' d' (Y k)from hx);have cT:=Kh (mB.1.i32 V.1);have x0:=O.1.cell (h.1.at_ 0 rfl) (λe=>by injection e with e;exact aD.1 e);have x1:=O.1.cell (h.1.at_ 1 rfl) (λe=>by injection e with e;exact aD.1 e);have x2:=O.1.cell (h.1.at_ 2 rfl) (λe=>by injection e with e;exact aD.1 e);have x3:=O.1.cell (h.1.at_ 3 rfl) (λe=>by injection e with e;exact aD.1 e);have nR:(k:Int)<(N:Int):=by omega
   have dC:=Kh (show Cells4 wr gc 0 s p n c t q m d from⟨x0,x1,x2,x3⟩);have cF:=Kh (show Cells4 wr gy (oy+k*4) s' p' i1 c' t' q' m' d' from⟨a0,a1,a2,a3⟩);clear hB cC hx x0 x1 x2 x3;go_wp2_with fail
   refine(E8 s' p' i1 c' t' q' m' d' (Y k) wr HP.1 (by have:=(HF.1 k hlt).2;omega)).mono ?_;rintro e we ⟨⟨sg,rfl,gS⟩,M⟩;have cY:=Kh gS;have nJ:=Kh M;have I:=Kh (QRow.keep (λj=>(IsQ.solid _:Bh (addQ F Y x k j))) aN.1 M);have aK:=Kh (O.1.trans (Af g M));have Z:=Kh (V.1.trans (I32.below M));have mA:=Kh (HP.1.keep M);have mC:=Kh (cT.1.keep M);have mE:=Kh (dC.1.keep M);have hU:=Kh (cF.1.keep M);clear gS M a0 a1 a2 a3 aN O V HP cT dC cF;by_cases hz:Y k=0
   ·have h0:sg=0:=cY.1.2 hz
    subst h0;have mS:=Kh (show F k+x*Y k=F k by rw[hz];grind);go_wp2;go_roundw
    case rel=>exact⟨k+1,by omega,by go_num,addQ.done I.1 mS.1,aK.1,Z.1⟩
    case measure=>simp[intOf];omega
   ·have h0:(sg != 0)=true:=by
     have:sg≠0:=λe=>hz (cY.1.1 e)
     simpa using this
    obtain⟨x0,x1,x2,x3⟩:=mE.1;obtain⟨a0,a1,a2,a3⟩:=hU.1;obtain⟨s5,p5,n5,c5,t5,q5,m5,d5,e0,e1,e2,e3,hy⟩:=addQ.elem I.1 hlt;have hV:=Kh (show Qs we s5 p5 n5 c5 t5 q5 m5 d5 (F k)from hy)
    have mD:=Kh (show hq (x*Y k)<=200000000 by
     have h1:=Cc x (Y k);have h2:=HK.1;have h3:=(HF.1 k hlt).2;omega)
    have hY:=Kh (λw1 (J:Below we.heap.size we w1)=>Cy s p n c t q m d x s' p' i1 c' t' q' m' d' (Y k) w1 (mC.1.keep J) (mA.1.keep J) (by have:=HK.1;omega) (by have:=(HF.1 k hlt).2;omega));have U:=I.1;have nS:=hZ.1;have nT:=aD.1;have nU:g<we.heap.size:=U.sts.1;clear hy;go_upto_region 5 with(fail)
    refine K6 (λW=>W.cell? ⟨gc,0,none⟩=some (.bool s)/\W.cell? ⟨gc,1,none⟩=some (.slice p n c)/\W.cell? ⟨gc,2,none⟩=some (.bool t)/\W.cell? ⟨gc,3,none⟩=some (.slice q m d)/\W.cell? ⟨gy,oy+k*4,none⟩=some (.bool s')/\W.cell? ⟨gy,oy+k*4+1,none⟩=some (.slice p' i1 c')/\W.cell? ⟨gy,oy+k*4+2,none⟩=some (.bool t')/\W.cell? ⟨gy,oy+k*4+3,none⟩=some (.slice q' m' d')/\W.cell? ⟨g,k*4,none⟩=some (.bool s5)/\W.frozen? ⟨g,k*4,none⟩=false/\W.cell? ⟨g,k*4+1,none⟩=some (.slice p5 n5 c5)/\W.frozen? ⟨g,k*4+1,none⟩=false/\W.cell? ⟨g,k*4+2,none⟩=some (.bool t5)/\W.frozen? ⟨g,k*4+2,none⟩=false/\W.cell? ⟨g,k*4+3,none⟩=some (.slice q5 m5 d5)/\W.frozen? ⟨g,k*4+3,none⟩=false) (λW J=>⟨Au J x0,Au J x1,Au J x2,Au J x3,Au J a0,Au J a1,Au J a2,Au J a3,Au J e0,Ac J (by rw[e0];rfl) (U.free _ (by omega)),Au J e1,Ac J (by rw[e1];rfl) (U.free _ (by omega)),Au J e2,Ac J (by rw[e2];rfl) (U.free _ (by omega)),Au J e3,Ac J (by rw[e3];rfl) (U.free _ (by omega))⟩) (λcX hHeld0=>?_);clear x0 x1 x2 x3 a0 a1 a2 a3 e0 e1 e2 e3 U;refine Al 0 ?_;refine Al 1 ?_;refine Al 2 ?_;refine Al 3 ?_;refine Al 4 ?_;refine Al 5 ?_;refine Al 6 ?_;refine Al 7 ?_;refine Al 8 ?_;refine Al 9 ?_;refine Al 10 ?_;refine F9 11 rfl (λK hK=>?_);focus(go_simp;refine(hY.1 _ (Below.refl _ we).drew).mono ?_;rintro e w2 ⟨⟨s3,p3,n3,c3,t3,q3,m3,d3,rfl,hD⟩,gL⟩;have cA:=Kh ((Below.refl _ we).drew.trans gL:Below we.heap.size we w2);have mL:=Kh hD;clear hD gL;(first|with_reducible refine hK.out _ _ ?_ (λhHeld1=>?_) |(go_wp2_with fail;with_reducible refine hK.out _ _ ?_ (λhHeld1=>?_))))
    focus((try dsimp only);exact cX.1 _ cA.1)
    focus(clear hK K;(try simp only[Act.put,Br,Bt,Bs]))
    refine F9 12 rfl (λK hK=>?_);focus(go_simp;refine(Fo s5 p5 n5 c5 t5 q5 m5 d5 (F k) s3 p3 n3 c3 t3 q3 m3 d3 (x*Y k) _ (hV.1.keep cA.1) mL.1 (by have:=(HF.1 k hlt).1;omega) (by have:=mD.1;omega)).mono ?_;rintro e w4 ⟨⟨s6,p6,n6,c6,t6,q6,m6,d6,rfl,hE⟩,gN⟩;have bA:=bt cA gN;have cD:=QRow.keep (λj=>(IsQ.solid _:Bh (addQ F Y x k j))) I.1 bA.1;have cG:=Kh (addQ.put cD hlt hE);have hW:=Kh (show ∀v0 v1 v2 v3,w0.grownBy ((((w4.setCell ⟨g,k*4,none⟩ v0).setCell ⟨g,k*4+1,none⟩ v1).setCell ⟨g,k*4+2,none⟩ v2).setCell ⟨g,k*4+3,none⟩ v3) (some g)from λ_ _ _ _=>Fm aK.1 bA.1);have H4:=Kh (show I32 w0 ((((w4.setCell ⟨g,k*4,none⟩ (.bool s6)).setCell ⟨g,k*4+1,none⟩ (.slice p6 n6 c6)).setCell ⟨g,k*4+2,none⟩ (.bool t6)).setCell ⟨g,k*4+3,none⟩ (.slice q6 m6 d6))from(Z.1.trans (I32.below bA.1)).trans (I32.put4 cD.sts _ _ _ _ _ _ _ _ (NotInt.bool _) (NotInt.slice _ _ _) (NotInt.bool _)));clear hE gN cD;(first|with_reducible refine hK.out _ _ ?_ (λhHeld2=>?_) |(go_wp2_with fail;with_reducible refine hK.out _ _ ?_ (λhHeld2=>?_))))
    focus((try dsimp only);exact cX.1 _ bA.1)
    focus(clear hK K;(try simp only[Act.put,Br,Bt,Bs]))
    refine Al 13 ?_;refine K5 14 rfl (λK hK=>?_);go_simp
    refine hK.out _ _ ?_;clear hK K
    (try simp only[Act.put,Br,Bt,Bs])
    all_goals clear I aK Z
    all_goals go_wp2
    all_goals go_roundw
    all_goals first
     | exact⟨k+1,by omega,by go_num,cG.1,hW.1 _ _ _ _,H4.1⟩
     |(simp[intOf];omega)
  ·obtain rfl:k=N:=by omega
   go_wp2;go_end0;exact⟨⟨_,rfl⟩,QRow.congr aN.1 (λj hj=>by unfold addQ;rw[if_pos hj]),(Af g bY.1).trans O.1,(I32.below bY.1).trans V.1⟩
def SliceV (v:Value):Prop:=∃p n c,v=.slice p n c
theorem SliceV.notU32 {v:Value} (h:SliceV v):NotU32 v:=by
 obtain⟨p,n,c,rfl⟩:=h;exact λ_ h=>by cases h
theorem Stk.imp {K I:Value->Prop} {w:World} {G:Nat} (h:Stk K w G) (J:∀v,K v->I v):Stk I w G:=⟨h.1,λi v M=>J v (h.2 i v M)⟩
theorem OwnT.base {l:List (Nat×Rat)} {w:World} {B B':Nat} {v:Value} (h:OwnT l w B v) (hB:B'<=B):OwnT l w B' v:=by
 obtain⟨V,⟨⟨J,I⟩,U⟩,O⟩:=h;refine⟨V,⟨⟨J,?_⟩,U⟩,O⟩;rcases I with I |⟨g,cap,cs,M,hg,rest⟩
 ·exact .inl I
 ·exact .inr ⟨g,cap,cs,M,mH hB hg,rest⟩
structure LeadTab (L:Nat->List (Nat×Rat)) (w:World) (G C B:Nat):Prop where
 stk:Stk SliceV w G
 free:∀i,i<C->w.frozen? ⟨G,i,none⟩=false
 val:∀j,j<C->∃v,w.cell? ⟨G,j,none⟩=some v/\TL (L j) w B v/\(L j=[]->v=.slice none 0 0)
theorem LeadTab.next {L:Nat->List (Nat×Rat)} {w w':World} {G C B B':Nat} (h:LeadTab L w G C B) (J:I32 w w') (I:Below B' w w') (M:G<B') (hB:B<=B'):LeadTab L w' G C B:=
 ⟨⟨mI h.stk.1 I.size,λi v Y=>h.stk.2 i v ((I.cell (p:=⟨G,i,none⟩) M).symm.trans Y)⟩,
  λi O=>(World.frozen?_of_block (a:=⟨G,i,none⟩) (I.block G M)).trans (h.free i O),
  λj U=>by
   obtain⟨v,e,V,hn⟩:=h.val j U;exact⟨v,(I.cell (p:=⟨G,j,none⟩) M).trans e,V.next J (I.mono hB),hn⟩⟩
theorem LeadTab.keep {L:Nat->List (Nat×Rat)} {w w':World} {G C B:Nat} (h:LeadTab L w G C B) (hB:B<=w.heap.size) (I:Below w.heap.size w w'):LeadTab L w' G C B:=h.next (I32.below I) I h.stk.1 hB
theorem LeadTab.up {L:Nat->List (Nat×Rat)} {w:World} {G C B B':Nat} (h:LeadTab L w G C B) (hB:B<=B'):LeadTab L w G C B':=
 ⟨h.stk,h.free,λj I=>by obtain⟨v,e,J,hn⟩:=h.val j I;exact⟨v,e,J.up hB,hn⟩⟩
theorem TL.store {l:List (Nat×Rat)} {w:World} {B G x:Nat} {v u:Value} (h:TL l w B v) (U:Stk SliceV w G):TL l (w.setCell ⟨G,x,none⟩ u) B v:=by
 rcases h with h |⟨g,o,cap,e,hc,J,hg,ht⟩
 ·exact .inl h
 ·refine .inr ⟨g,o,cap,e,hc,J,hg,λj y hy=>?_⟩
  obtain⟨O,s,p,n,c,t,q,m,d,V,Y,Z,e4,e5⟩:=ht j y hy
  have M:G≠g:=λe=>by
   obtain⟨p,n,c,h1⟩:=U.2 (o+j*5) _ (by rw[e];exact O);cases h1
  have I:∀i v,w.cell? ⟨g,i,none⟩=some v->(w.setCell ⟨G,x,none⟩ u).cell? ⟨g,i,none⟩=some v:=λi v e=>by
   rw[World.cell?_setCell_far w ⟨G,x,none⟩ ⟨g,i,none⟩ u M];exact e
  exact⟨I _ _ O,s,p,n,c,t,q,m,d,I _ _ V,I _ _ Y,I _ _ Z,I _ _ e4,e5.i32 (I32.putU (U.imp λ_=>SliceV.notU32) x u)⟩
theorem LeadTab.put {L:Nat->List (Nat×Rat)} {w:World} {G C B x:Nat} {l:List (Nat×Rat)} {p:Option Addr} {n c:Nat} (h:LeadTab L w G C B) (Y:x<C) (U:l≠[]) (V:TL l w B (.slice p n c)):
  LeadTab (λj=>if j=x then l else L j) (w.setCell ⟨G,x,none⟩ (.slice p n c)) G C B:=by
 refine⟨Bc h.stk _ _ ⟨p,n,c,rfl⟩,λi M=>At (h.free i M),λj O=>?_⟩;obtain⟨v,e,J,hn⟩:=h.val j O;by_cases hjx:j=x
 ·subst hjx
  refine⟨.slice p n c,World.cell?_setCell_same' _ _ _ (by rw[e];rfl),?_,λI=>?_⟩
  ·rw[if_pos rfl];exact V.store h.stk
  ·rw[if_pos rfl]at I;exact absurd I U
 ·refine⟨v,?_,?_,λI=>?_⟩
  ·rw[World.cell?_setCell_other _ _ _ _ (by simp <;> omega)];exact e
  ·rw[if_neg hjx];exact J.store h.stk
  ·rw[if_neg hjx]at I;exact hn I
def iU (C:Nat) (w:World) (v:Value):Nat:=
 match v with
 |.slice (some a) (_+1) _=>C+1 - (intOf (cellOf w a)).toNat
 | _=>0
theorem Pd {C:Nat} {w:World} {B:Nat} {x:Nat×Rat} {r:List (Nat×Rat)} {v:Value} (h:OwnT (x :: r) w B v):iU C w v=C+1 - x.1:=by
 rcases h.row with⟨e,_⟩ |⟨g,cap,rfl,_,_,_,_,J⟩
 ·cases e
 ·have I:=(J.val 0 x rfl).1
  rw[Nat.zero_mul]at I;rw[List.length_cons];show C+1 - (intOf (cellOf w ⟨g,0,none⟩)).toNat=_;rw[Ae I];simp[intOf]
theorem aQ {C:Nat} {w:World} {B:Nat} {v:Value} (h:OwnT [] w B v):iU C w v=0:=by
 rcases h.row with⟨_,rfl⟩ |⟨g,cap,rfl,_⟩ <;> rfl
def Ef (c:Rat) (k:Nat) (r:List (Nat×Rat)):List (Nat×Rat):=r.mapIdx λj y=>(y.1,if j<k then c*y.2 else y.2)
theorem Hm (c:Rat) (k:Nat) (r:List (Nat×Rat)):(Ef c k r).length=r.length:=by unfold Ef;rw[List.length_mapIdx]
theorem Eg (c:Rat) (k:Nat) (r:List (Nat×Rat)) (j:Nat):(Ef c k r)[j]?=(r[j]?).map λy=>(y.1,if j<k then c*y.2 else y.2):=by unfold Ef;rw[List.getElem?_mapIdx]
theorem Rg (c:Rat) (r:List (Nat×Rat)):Ef c 0 r=r:=by
 refine List.ext_getElem? λj=>?_
 rw[Eg];cases r[j]? <;> simp
theorem Us (c:Rat) (r:List (Nat×Rat)):Ef c r.length r=r.map λy=>(y.1,c*y.2):=by
 refine List.ext_getElem? λj=>?_
 rw[Eg,List.getElem?_map];by_cases h:j<r.length
 ·rw[List.getElem?_eq_getElem h];simp[h]
 ·rw[List.getElem?_eq_none (by omega)];rfl
theorem TRow.keep {l:List (Nat×Rat)} {w w':World} {g:Nat} (h:TRow l w g) (I:Below w.heap.size w w'):TRow l w' g:=
 ⟨h.stk.next I,λi J=>Ac I (h.has i J) (h.free i J),λi J=>by rw[I.cell (p:=⟨g,i,none⟩) h.stk.1];exact h.has i J,λj x M=>(h.val j x M).keep I⟩
theorem TRow.tl {l:List (Nat×Rat)} {w:World} {g cap:Nat} (h:TRow l w g) (I:l.length<=cap) (J:cap<=9223372036854775807):TL l w w.heap.size (.slice (some ⟨g,0,none⟩) l.length cap):=
 .inr ⟨g,0,cap,rfl,I,J,h.stk.1,λj x M=>by rw[Nat.zero_add];exact h.val j x M⟩
theorem I32.putT {w:World} {g k:Nat} (I:Stk NotU32 w g) (s t:Bool) (p q:Option Addr) (n c m d:Nat):
  Stk NotU32 ((((w.setCell ⟨g,k*5+1,none⟩ (.bool s)).setCell ⟨g,k*5+2,none⟩ (.slice p n c)).setCell ⟨g,k*5+3,none⟩ (.bool t)).setCell ⟨g,k*5+4,none⟩ (.slice q m d)) g /\
  I32 w ((((w.setCell ⟨g,k*5+1,none⟩ (.bool s)).setCell ⟨g,k*5+2,none⟩ (.slice p n c)).setCell ⟨g,k*5+3,none⟩ (.bool t)).setCell ⟨g,k*5+4,none⟩ (.slice q m d)):=by
 have J:∀b,NotU32 (.bool b):=λ_ _ h=>by cases h
 have M:∀p n c,NotU32 (.slice p n c):=λ_ _ _ _ h=>by cases h
 have O:=Bc I ⟨g,k*5+1,none⟩ (.bool s) (J s);have U:=Bc O ⟨g,k*5+2,none⟩ (.slice p n c) (M _ _ _);have V:=Bc U ⟨g,k*5+3,none⟩ (.bool t) (J t);have Y:=Bc V ⟨g,k*5+4,none⟩ (.slice q m d) (M _ _ _);exact⟨Y,(((I32.putU I _ _).trans (I32.putU O _ _)).trans (I32.putU U _ _)).trans (I32.putU V _ _)⟩
theorem TRow.scl {M:Rat} {k:Nat} {r:List (Nat×Rat)} {w:World} {g:Nat} {x:Nat×Rat} (h:TRow (Ef M k r) w g) (hx:r[k]?=some x) {s t:Bool} {p q:Option Addr} {n c m d:Nat} (hq:Qs w s p n c t q m d (M*x.2)):
  TRow (Ef M (k+1) r) ((((w.setCell ⟨g,k*5+1,none⟩ (.bool s)).setCell ⟨g,k*5+2,none⟩ (.slice p n c)).setCell ⟨g,k*5+3,none⟩ (.bool t)).setCell ⟨g,k*5+4,none⟩ (.slice q m d)) g:=by
 obtain⟨s4,U⟩:=I32.putT (k:=k) h.stk s t p q n c m d
 have bG:k<r.length:=by
  rcases Nat.lt_or_ge k r.length with h|h
  ·exact h
  ·rw[List.getElem?_eq_none h]at hx;cases hx
 have hn:∀k',(Ef M k' r).length=r.length:=λk'=>Hm M k' r
 refine⟨s4,λi V=>At (At (At (At (h.free i (by rw[hn]at V ⊢;exact V))))),λi V=>Ah (Ah (Ah (Ah (h.has i (by rw[hn]at V ⊢;exact V))))),λj y O=>?_⟩;rw[Eg]at O;have I:=h.val j;rw[Eg]at I;by_cases hjk:j=k
 ·subst hjk
  rw[hx]at O I;simp only[Option.map_some,mJ,if_true]at O;injection O with O
  subst O;have h0:=(I _ rfl).1;have c0:=h.has (j*5+1) (by rw[hn];omega);have c1:=Ah (R:=g) (i:=j*5+1) (u:=.bool s) (h.has (j*5+2) (by rw[hn];omega));have c2:=Ah (R:=g) (i:=j*5+2) (u:=.slice p n c) (Ah (R:=g) (i:=j*5+1) (u:=.bool s) (h.has (j*5+3) (by rw[hn];omega)));have c3:=Ah (R:=g) (i:=j*5+3) (u:=.bool t) (Ah (R:=g) (i:=j*5+2) (u:=.slice p n c) (Ah (R:=g) (i:=j*5+1) (u:=.bool s) (h.has (j*5+4) (by rw[hn];omega))));refine⟨?_,s,p,n,c,t,q,m,d,?_,?_,?_,?_,hq.i32 U⟩
  ·rw[World.cell?_setCell_other _ _ _ _ (by simp),World.cell?_setCell_other _ _ _ _ (by simp),World.cell?_setCell_other _ _ _ _ (by simp),World.cell?_setCell_other _ _ _ _ (by simp)];exact h0
  ·rw[World.cell?_setCell_other _ _ _ _ (by simp),World.cell?_setCell_other _ _ _ _ (by simp),World.cell?_setCell_other _ _ _ _ (by simp),World.cell?_setCell_same' _ _ _ c0]
  ·rw[World.cell?_setCell_other _ _ _ _ (by simp),World.cell?_setCell_other _ _ _ _ (by simp),World.cell?_setCell_same' _ _ _ c1]
  ·rw[World.cell?_setCell_other _ _ _ _ (by simp),World.cell?_setCell_same' _ _ _ c2]
  ·rw[World.cell?_setCell_same' _ _ _ c3]
 ·have e:(r[j]?.map λy=>(y.1,if j<k+1 then M*y.2 else y.2))=r[j]?.map λy=>(y.1,if j<k then M*y.2 else y.2):=by
   have Z:(j<k+1)=(j<k):=propext ⟨λ_=>by omega,λ_=>by omega⟩;simp only[Z]
  have J:∀(i:Nat) (v:Value),j*5<=i->i<j*5+5->w.cell? ⟨g,i,none⟩=some v->((((w.setCell ⟨g,k*5+1,none⟩ (.bool s)).setCell ⟨g,k*5+2,none⟩ (.slice p n c)).setCell ⟨g,k*5+3,none⟩ (.bool t)).setCell ⟨g,k*5+4,none⟩ (.slice q m d)).cell? ⟨g,i,none⟩=some v:=by
   intro i v h1 h2 hv;rw[World.cell?_setCell_other _ _ _ _ (by simp <;> omega),World.cell?_setCell_other _ _ _ _ (by simp <;> omega),World.cell?_setCell_other _ _ _ _ (by simp <;> omega),World.cell?_setCell_other _ _ _ _ (by simp <;> omega)];exact hv
  obtain⟨e0,s',p',n',Y,t',q',m',d',Z,e2,e3,e4,e5⟩:=I y (by rw[<-e];exact O);exact⟨J _ _ (by omega) (by omega) e0,s',p',n',Y,t',q',m',d',J _ _ (by omega) (by omega) Z,J _ _ (by omega) (by omega) e2,J _ _ (by omega) (by omega) e3,J _ _ (by omega) (by omega) e4,e5.i32 U⟩
theorem TRow.elem {I:Rat} {k:Nat} {r:List (Nat×Rat)} {w:World} {g:Nat} {x:Nat×Rat} (h:TRow (Ef I k r) w g) (J:r[k]?=some x):TE x w g (k*5):=by
 refine h.val k x ?_;rw[Eg,J];simp
theorem Ut {w0 J I:World} {g k:Nat} {v0 v1 v2 v3:Value} (h:w0.grownBy J (some g)) (M:Below J.heap.size J I):w0.grownBy ((((I.setCell ⟨g,k*5+1,none⟩ v0).setCell ⟨g,k*5+2,none⟩ v1).setCell ⟨g,k*5+3,none⟩ v2).setCell ⟨g,k*5+4,none⟩ v3) (some g):=
 (h.trans (Af g M)).trans (Gt I g _ _ _ _ v0 v1 v2 v3)
theorem bJ:(prog.info? 107).map (λi=>(i.zero,i.size,i.bytes))=some (some (.slice none 0 0),1,24):=by kernel_rfl
theorem W8 {n i:Nat} {v:Value} (h:(madeCells #[.slice none 0 0] n)[i]?=some v):v=.slice none 0 0:=by
 unfold madeCells at h;simp only[Array.getElem?_map,Array.getElem?_range]at h;split at h
 ·simp only[Option.map_some]at h
  injection h with h
  rw[<-h];have I:i % 1=0:=Nat.mod_one i;show(#[.slice none 0 0]:Array Value)[i % 1]! = _;rw[I];rfl
 ·cases h
theorem iD (n:Nat) (h:n<=1000000) (w:World):
  (Instr.makeSlice 102 (.int .i64 (n:Int)) (.int .i64 (n:Int))).run prog w=.ok (.slice (some ⟨w.heap.size,0,none⟩) n n) (w.alloc (.cells (madeCells #[.slice none 0 0] n) 107)):=by
 obtain⟨i,O,I,J,M⟩:=info_parts bJ;have hr:=run_make (P:=prog) w 102 107 i _ underlying102 O I .i64 .i64 n n (by omega) (Int.le_refl _) (by rw[M];omega) (by omega);rw[Int.toNat_natCast,J,Nat.mul_one]at hr;exact hr
theorem LeadTab.made (w:World) (C:Nat):LeadTab (λ_=>[]) (w.alloc (.cells (madeCells #[.slice none 0 0] C) 107)) w.heap.size C (w.heap.size+1):=by
 have J:=Blk.new w 107 (madeCells #[.slice none 0 0] C)
 have M:∀i,i<C->(w.alloc (.cells (madeCells #[.slice none 0 0] C) 107)).cell? ⟨w.heap.size,i,none⟩=some (.slice none 0 0):=λi I=>by
  rw[J.cell_ i,Array.getElem?_eq_getElem (by rw[size_madeCells];exact I)];congr 1;exact W8 (Array.getElem?_eq_getElem (by rw[size_madeCells];exact I))
 refine⟨Stk.of J ?_,λi _=>J.free_ i,λj O=>⟨_,M j O,.inl ⟨rfl,_,_,rfl⟩,λ_=>rfl⟩⟩;intro v U;obtain⟨i,I⟩:=Array.getElem?_of_mem (Array.mem_toList_iff.1 U);rw[W8 I];exact⟨_,_,_,rfl⟩
/-! Lists of numbers -/
def OwnN (l:List Nat) (w:World) (B:Nat) (v:Value):Prop:=OwnK NotU32 w B 3 1 v l.length (l.map λn:Nat=>Value.int .i64 (n:Int))
theorem OwnN.nil (w:World) (B:Nat):OwnN [] w B (.slice none 0 0):=OwnK.nil _ _ _ _ _
theorem OwnN.keep {l:List Nat} {w w':World} {B:Nat} {v:Value} (h:OwnN l w B v) (I:Below w.heap.size w w'):OwnN l w' B v:=OwnK.keep h I
theorem OwnN.push {l:List Nat} {w':World} {B:Nat} {I:Value} {a:Nat} (h:OwnK NotU32 w' B 3 1 I (l.length+1) ((l.map λn:Nat=>Value.int .i64 (n:Int))++[.int .i64 (a:Int)])):OwnN (l++[a]) w' B I:=by
 unfold OwnN;rw[List.map_append,List.length_append];exact h
theorem Ep:(prog.info? 3).map (λi=>(i.zero,i.size,i.bytes))=some (some (.int .i64 0),1,8):=by kernel_rfl
def NL (l:List Nat) (w:World) (B:Nat) (v:Value):Prop:=(l=[]/\∃a c,v=.slice a 0 c)∨∃g cap,v=.slice (some ⟨g,0,none⟩) l.length cap/\l.length<=cap/\cap<=9223372036854775807/\g<B/\∀(j x:Nat),l[j]?=some x->w.cell? ⟨g,j,none⟩=some (.int .i64 (x:Int))
theorem NL.next {l:List Nat} {w w':World} {B:Nat} {v:Value} (h:NL l w B v) (J:Below B w w'):NL l w' B v:=by
 rcases h with h |⟨g,cap,e,M,I,hg,U⟩
 ·exact .inl h
 ·exact .inr ⟨g,cap,e,M,I,hg,λj x O=>(J.cell (p:=⟨g,j,none⟩) hg).trans (U j x O)⟩
theorem NL.up {l:List Nat} {w:World} {B B':Nat} {v:Value} (h:NL l w B v) (hB:B<=B'):NL l w B' v:=by
 rcases h with h |⟨g,cap,e,J,I,hg,M⟩
 ·exact .inl h
 ·exact .inr ⟨g,cap,e,J,I,mI hg hB,M⟩
theorem OwnN.nl {l:List Nat} {w:World} {B:Nat} {v:Value} (h:OwnN l w B v):NL l w w.heap.size v:=by
 rcases h.1.2 with⟨I,M⟩ |⟨g,cap,cs,I,hB,hg,hn,J,U,_⟩
 ·exact .inl ⟨List.eq_nil_of_length_eq_zero M,_,_,I⟩
 ·have V:=h.2 g (by rw[I];rfl)
  have O:=h.1;subst I;exact .inr ⟨g,cap,rfl,hn,by simp only[maxLen]at J;omega,V.1,λj x Y=>Aq O (by rw[List.getElem?_map,Y];rfl)⟩
theorem Bf {w:World} {B E M n:Nat} {v:Value} {O:List Value} (h:w.ownsRow B E M v n O):∃p c,v=.slice p n c:=by
 rcases h.2 with⟨I,J⟩ |⟨U,cap,cs,I,hB,_⟩
 ·exact⟨none,0,by rw[I,J]⟩
 ·exact⟨_,_,I⟩
theorem Ch {w:World} {B E J n g:Nat} {v:Value} {M:List Value} (h:w.ownsRow B E J v n M) (e:some g=v.ownBlock):B<=g:=by
 rcases h.2 with⟨I,_⟩ |⟨O,cap,cs,I,hB,_⟩
 ·rw[I]at e;simp[Value.ownBlock]at e
 ·rw[I]at e;simp[Value.ownBlock]at e;omega
/-! The rows of coordinates -/
structure RowTab (X:Nat->Nat->Rat) (N:Nat) (w:World) (GR C lo B:Nat):Prop where
 stk:Stk SliceV w GR
 free:∀i,i<C->w.frozen? ⟨GR,i,none⟩=false
 has:∀i,i<C->(w.cell? ⟨GR,i,none⟩).isSome=true
 val:∀j,lo<=j->j<C->∃g,w.cell? ⟨GR,j,none⟩=some (.slice (some ⟨g,0,none⟩) N N)/\g<B/\g≠GR/\∀i,i<N->QE (IsQ (X j i)) w g (i*4)
theorem QE.next {r:Rat} {w w':World} {B g i:Nat} (h:QE (IsQ r) w g i) (hg:g<B) (J:I32 w w') (Z:Below B w w'):QE (IsQ r) w' g i:=by
 have I:∀j v,w.cell? ⟨g,j,none⟩=some v->w'.cell? ⟨g,j,none⟩=some v:=λj v e=>(Z.cell (p:=⟨g,j,none⟩) hg).trans e
 obtain⟨s,p,n,c,t,q,m,d,M,O,U,V,Y⟩:=h;exact⟨s,p,n,c,t,q,m,d,I _ _ M,I _ _ O,I _ _ U,I _ _ V,Y.i32 J⟩
theorem RowTab.next {X:Nat->Nat->Rat} {N:Nat} {w w':World} {GR C lo B B':Nat} (h:RowTab X N w GR C lo B) (O:I32 w w') (I:Below B' w w') (M:GR<B') (hB:B<=B'):RowTab X N w' GR C lo B:=
 ⟨⟨mI h.stk.1 I.size,λi v Z=>h.stk.2 i v ((I.cell (p:=⟨GR,i,none⟩) M).symm.trans Z)⟩,
  λi J=>(World.frozen?_of_block (a:=⟨GR,i,none⟩) (I.block GR M)).trans (h.free i J),
  λi J=>by rw[I.cell (p:=⟨GR,i,none⟩) M];exact h.has i J,
  λj V Y=>by
   obtain⟨g,e,hg,U,hq⟩:=h.val j V Y;exact⟨g,(I.cell (p:=⟨GR,j,none⟩) M).trans e,hg,U,λi J=>(hq i J).next (mI hg hB) O I⟩⟩
theorem RowTab.up {X:Nat->Nat->Rat} {N:Nat} {w:World} {GR C lo B B':Nat} (h:RowTab X N w GR C lo B) (hB:B<=B'):RowTab X N w GR C lo B':=
 ⟨h.stk,h.free,h.has,λj J M=>by obtain⟨g,e,hg,I,hq⟩:=h.val j J M;exact⟨g,e,mI hg hB,I,hq⟩⟩
theorem RowTab.keep {X:Nat->Nat->Rat} {N:Nat} {w w':World} {GR C lo B:Nat} (h:RowTab X N w GR C lo B) (hB:B<=w.heap.size) (I:Below w.heap.size w w'):RowTab X N w' GR C lo B:=h.next (I32.below I) I h.stk.1 hB
theorem RowTab.put {X X':Nat->Nat->Rat} {N:Nat} {w:World} {GR C j B g:Nat} (h:RowTab X N w GR C (j+1) B) (hj:j<C) (hg:g<B) (U:g≠GR) (hq:∀i,i<N->QE (IsQ (X' j i)) w g (i*4)) (hX:∀I,j+1<=I->I<C->∀i,i<N->X' I i=X I i):
  RowTab X' N (w.setCell ⟨GR,j,none⟩ (.slice (some ⟨g,0,none⟩) N N)) GR C j B:=by
 have O:I32 w (w.setCell ⟨GR,j,none⟩ (.slice (some ⟨g,0,none⟩) N N)):=I32.putU (h.stk.imp λ_=>SliceV.notU32) j _;refine⟨Bc h.stk _ _ ⟨_,_,_,rfl⟩,λi J=>At (h.free i J),λi J=>Ah (h.has i J),λI h1 Z=>?_⟩;by_cases hjj:I=j
 ·subst hjj
  exact⟨g,World.cell?_setCell_same' _ _ _ (h.has I hj),hg,U,λi J=>(hq i J).butR O (Ai w GR I _) U⟩
 ·obtain⟨g',e,V,M,Y⟩:=h.val I (by omega) Z
  refine⟨g',?_,V,M,λi J=>by rw[hX I (by omega) Z i J];exact(Y i J).butR O (Ai w GR j _) M⟩;rw[World.cell?_setCell_other _ _ _ _ (by simp <;> omega)];exact e
theorem Hl:(prog.info? 30).map (λi=>(i.zero,i.size,i.bytes))=some (some (.slice none 0 0),1,24):=by kernel_rfl
theorem iF (n:Nat) (h:n<=1000000) (w:World):
  (Instr.makeSlice 104 (.int .i64 (n:Int)) (.int .i64 (n:Int))).run prog w=.ok (.slice (some ⟨w.heap.size,0,none⟩) n n) (w.alloc (.cells (madeCells #[.slice none 0 0] n) 30)):=by
 obtain⟨i,O,I,J,M⟩:=info_parts Hl;have hr:=run_make (P:=prog) w 104 30 i _ underlying104 O I .i64 .i64 n n (by omega) (Int.le_refl _) (by rw[M];omega) (by omega);rw[Int.toNat_natCast,J,Nat.mul_one]at hr;exact hr
theorem RowTab.made (X:Nat->Nat->Rat) (N:Nat) (w:World) (C:Nat):RowTab X N (w.alloc (.cells (madeCells #[.slice none 0 0] C) 30)) w.heap.size C C (w.heap.size+1):=by
 have I:=Blk.new w 30 (madeCells #[.slice none 0 0] C);refine⟨Stk.of I ?_,λi _=>I.free_ i,λi J=>?_,λj U M=>absurd M (by omega)⟩
 ·intro v O
  obtain⟨i,J⟩:=Array.getElem?_of_mem (Array.mem_toList_iff.1 O);rw[W8 J];exact⟨_,_,_,rfl⟩
 ·rw[I.cell_ i,Array.getElem?_eq_getElem (by rw[size_madeCells];exact J)];rfl
structure ModAt (w:World) (M B:Nat) (N k D:Int) (F:List Nat) (C:Nat) (X:Nat->Nat->Rat):Prop where
 lt:M<B
 c0:w.cell? ⟨M,0,none⟩=some (.int .i64 N)
 c1:w.cell? ⟨M,1,none⟩=some (.int .i64 k)
 c2:w.cell? ⟨M,2,none⟩=some (.int .i64 D)
 c3:∃v,w.cell? ⟨M,3,none⟩=some v/\NL F w B v
 c4:∃GR,w.cell? ⟨M,4,none⟩=some (.slice (some ⟨GR,0,none⟩) C C)/\GR<B/\∀j,j<C->∃g,w.cell? ⟨GR,j,none⟩=some (.slice (some ⟨g,0,none⟩) F.length F.length)/\g<B/\∀i f,F[i]?=some f->QE (IsQ (X j f)) w g (i*4)
theorem ModAt.next {w w':World} {M B B':Nat} {N k D:Int} {F:List Nat} {C:Nat} {X:Nat->Nat->Rat} (h:ModAt w M B N k D F C X) (J:I32 w w') (O:Below B' w w') (hB:B<=B'):ModAt w' M B N k D F C X:=by
 have I:∀g i v,g<B->w.cell? ⟨g,i,none⟩=some v->w'.cell? ⟨g,i,none⟩=some v:=λg i v hg e=>(O.cell (p:=⟨g,i,none⟩) (mI hg hB)).trans e
 obtain⟨v,V,Z⟩:=h.c3;obtain⟨GR,Y,U,h4⟩:=h.c4;refine⟨h.lt,I _ _ _ h.lt h.c0,I _ _ _ h.lt h.c1,I _ _ _ h.lt h.c2,⟨v,I _ _ _ h.lt V,Z.next (O.mono hB)⟩,GR,I _ _ _ h.lt Y,U,λj hj=>?_⟩;obtain⟨g,e,hg,hq⟩:=h4 j hj;exact⟨g,I _ _ _ U e,hg,λi f hf=>(hq i f hf).next (mI hg hB) J O⟩
theorem ModAt.keep {w w':World} {M B:Nat} {N k D:Int} {F:List Nat} {C:Nat} {X:Nat->Nat->Rat} (h:ModAt w M B N k D F C X) (hB:B<=w.heap.size) (I:Below w.heap.size w w'):ModAt w' M B N k D F C X:=h.next (I32.below I) I hB
theorem ModAt.up {w:World} {M B B':Nat} {N k D:Int} {F:List Nat} {C:Nat} {X:Nat->Nat->Rat} (h:ModAt w M B N k D F C X) (hB:B<=B'):ModAt w M B' N k D F C X:=by
 obtain⟨v,I,O⟩:=h.c3;obtain⟨GR,J,V,U⟩:=h.c4;exact⟨mI h.lt hB,h.c0,h.c1,h.c2,⟨v,I,O.up hB⟩,GR,J,mI V hB,λj Y=>by obtain⟨g,e,hg,hq⟩:=U j Y;exact⟨g,e,mI hg hB,hq⟩⟩
end Go.Proofs.YtenlbhlllgppmaaGreatDoor
