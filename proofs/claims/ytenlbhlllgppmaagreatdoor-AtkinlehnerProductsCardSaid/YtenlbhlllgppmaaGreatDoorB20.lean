/- Contract of symbols.minus: a row less a multiple of another. -/
import Derived.Test.YtenlbhlllgppmaaGreatDoorB19
set_option linter.unusedSimpArgs false
set_option maxRecDepth 100000
set_option maxHeartbeats 8000000
namespace Go.Proofs.YtenlbhlllgppmaaGreatDoor
open Go.RowKit Eli Tryz
theorem K4 {W w':World} (g:Nat) (hg:W.heap.size=g) (I:Below (W.alloc (.cells #[.bool false,.slice none 0 0,.bool false,.slice none 0 0] 86)).heap.size (W.alloc (.cells #[.bool false,.slice none 0 0,.bool false,.slice none 0 0] 86)) w'):
  w'.cell? ⟨g,0,none⟩=some (.bool false)/\w'.cell? ⟨g,1,none⟩=some (.slice none 0 0)/\w'.cell? ⟨g,2,none⟩=some (.bool false)/\w'.cell? ⟨g,3,none⟩=some (.slice none 0 0)/\w'.frozen? ⟨g,0,none⟩=false/\w'.frozen? ⟨g,1,none⟩=false/\w'.frozen? ⟨g,2,none⟩=false/\w'.frozen? ⟨g,3,none⟩=false/\Blk w' g 86 #[.bool false,.slice none 0 0,.bool false,.slice none 0 0]:=by
 subst hg;have h:=(Blk.new W 86 #[.bool false,.slice none 0 0,.bool false,.slice none 0 0]).below_ I (by simp);exact⟨h.at_ 0 rfl,h.at_ 1 rfl,h.at_ 2 rfl,h.at_ 3 rfl,h.free_ 0,h.free_ 1,h.free_ 2,h.free_ 3,h⟩
theorem Jb {w w':World} {g:Nat} (J:Below w.heap.size w w') (h:w.cell? ⟨g,0,none⟩=some (.bool false)/\w.cell? ⟨g,1,none⟩=some (.slice none 0 0)/\w.cell? ⟨g,2,none⟩=some (.bool false)/\w.cell? ⟨g,3,none⟩=some (.slice none 0 0)/\w.frozen? ⟨g,0,none⟩=false/\w.frozen? ⟨g,1,none⟩=false/\w.frozen? ⟨g,2,none⟩=false/\w.frozen? ⟨g,3,none⟩=false/\Blk w g 86 #[.bool false,.slice none 0 0,.bool false,.slice none 0 0]):
  w'.cell? ⟨g,0,none⟩=some (.bool false)/\w'.cell? ⟨g,1,none⟩=some (.slice none 0 0)/\w'.cell? ⟨g,2,none⟩=some (.bool false)/\w'.cell? ⟨g,3,none⟩=some (.slice none 0 0)/\w'.frozen? ⟨g,0,none⟩=false/\w'.frozen? ⟨g,1,none⟩=false/\w'.frozen? ⟨g,2,none⟩=false/\w'.frozen? ⟨g,3,none⟩=false/\Blk w' g 86 #[.bool false,.slice none 0 0,.bool false,.slice none 0 0]:=by
 have I:=h.2.2.2.2.2.2.2.2;have h:=I.below_ J I.lt;exact⟨h.at_ 0 rfl,h.at_ 1 rfl,h.at_ 2 rfl,h.at_ 3 rfl,h.free_ 0,h.free_ 1,h.free_ 2,h.free_ 3,h⟩
theorem cell_next {w w':World} {a:Addr} {v:Value} (I:Below w.heap.size w w') (h:w.cell? a=some v):w'.cell? a=some v:=(I.cell (p:=a) (World.block_lt_of_cell? w a h)).trans h
def lenOf:Value->Nat
 |.slice _ n _=>n
 | _=>0
def Sml (K:Nat) (c:Rat) (a b:List (Nat×Rat)):Prop:=hq c<=K/\(∀x,x∈a->hq x.2<=K)/\(∀x,x∈b->hq x.2<=K)
theorem Sml.left {K:Nat} {c:Rat} {x:Nat×Rat} {a b:List (Nat×Rat)} (h:Sml K c (x :: a) b):Sml K c a b:=⟨h.1,λy I=>h.2.1 y (List.mem_cons_of_mem _ I),h.2.2⟩
theorem Sml.right {K:Nat} {c:Rat} {y:Nat×Rat} {a b:List (Nat×Rat)} (h:Sml K c a (y :: b)):Sml K c a b:=⟨h.1,h.2.1,λz I=>h.2.2 z (List.mem_cons_of_mem _ I)⟩
theorem Sml.first {K:Nat} {c:Rat} {x:Nat×Rat} {a b:List (Nat×Rat)} (h:Sml K c (x :: a) b):hq x.2<=K:=h.2.1 x (List.mem_cons_self ..)
theorem Sml.second {K:Nat} {c:Rat} {y:Nat×Rat} {a b:List (Nat×Rat)} (h:Sml K c a (y :: b)):hq y.2<=K:=h.2.2 y (List.mem_cons_self ..)
theorem bZ (v1 v2:Value) (l1 l2:List (Nat×Rat)) (s:Bool) (p:Option Addr) (n c:Nat) (t:Bool) (q:Option Addr) (m d:Nat) (x:Rat) (K:Nat) (w:World) (h1:TL l1 w w.heap.size v1) (h2:TL l2 w w.heap.size v2) (hx:Qs w s p n c t q m d x) (hK:Sml K x l1 l2) (sH:K<=100000000) (hn:l1.length+l2.length<=1000000):
  Calls prog 95 #[v1,.agg #[.bool s,.slice p n c,.bool t,.slice q m d],v2] w λe w'=>(∃v',e=.returned v'/\OwnT (Hi x l1 l2) w' (w.heap.size+1) v')/\Below w.heap.size w w':=by
 have H1:=Kh h1;have H2:=Kh h2;have HX:=Kh hx;have HK:=Kh hK;clear h1 h2 hx hK;go_enter func95,ntmps95
 go_wp2_with fail
 obtain⟨w0,oX,X0,hU⟩:=bx1 w #[.bool s,.slice p n c,.bool t,.slice q m d] 86;rw[oX];have qD:w0.heap.size=w.heap.size+1:=by rw[<-oX];simp
 have qN:=Kh hU;have hE:=Kh X0;have oI:=Kh (I32.below hU);have pM:=Kh (HX.1.keep hU);have qT:=Kh qD;have pP:=Kh ((H1.1.next oI.1 hU).up (Nat.le_succ _));have pQ:=Kh ((H2.1.next oI.1 hU).up (Nat.le_succ _));have pL:=Kh (OwnT.nil w0 (w.heap.size+1));clear X0 hU oX qD H1 H2 HX;go_loopw [0,2,7] (λva vb vo wr=>∃la lb lo,TL la wr (w.heap.size+1) va/\TL lb wr (w.heap.size+1) vb/\OwnT lo wr (w.heap.size+1) vo/\lo++Hi x la lb=Hi x l1 l2/\Sml K x la lb/\la.length+lb.length+lo.length<=l1.length+l2.length/\Below (w.heap.size+1) w0 wr/\I32 w0 wr) (λva vb _ _=>lenOf va+lenOf vb)
 case atStart=>exact⟨l1,l2,[],pP.1,pQ.1,pL.1,rfl,HK.1,by simp,Below.refl _ _,I32.refl _⟩
 case round=>
  obtain⟨la,lb,lo,hX,cF,oG,pZ,qC,hW,oV,pW⟩:=hrel;have HB:=Kh oV;have HS:=Kh qC;have hD:=Kh pW;have hM:=Kh pZ;have qU:=Kh oG;have J:=Kh (show w.heap.size+1<=wr.heap.size from qT.1▸oV.size);have cG:=Kh (show lo.length<=1000000 by omega);clear oV qC pW pZ pP pQ pL HK;cases la with
  | nil=>
   obtain⟨aa,ac,rfl⟩:=hX.nil;cases lb with
   | nil=>
    obtain⟨ba,bc,rfl⟩:=cF.nil;clear hX cF oG;go_wp2;go_ret;exact⟨⟨_,rfl,by rw[<-hM.1,Te,List.append_nil];exact qU.1⟩,qN.1.trans (HB.1.mono (Nat.le_succ _))⟩
   | cons z lb=>
    clear hX;obtain⟨xs,nD,hQ⟩:=oG;have aX:=Kh (λI (V:Below wr.heap.size wr I)=>nD.keep V);have hP:=Kh (λI (V:Below wr.heap.size wr I) j x hx=>show TX x I xs (j*5)from⟨(hQ j x hx).1,(hQ j x hx).2.i32 (IsQ.solid _) (I32.below V)⟩);clear nD hQ;obtain⟨gb,ob,cb,rfl,nW,pY,cA,⟨b0,s2,p2,n2,c2,t2,q2,m2,d2,b1,b2,b3,b4,nY⟩,hH⟩:=cF.cons;have hO:=Kh hH;have pR:=Kh cF;have oC:=Kh (show Qs wr s2 p2 n2 c2 t2 q2 m2 d2 z.2 from nY);have r0:=(HB.1.cell (p:=⟨w.heap.size,0,none⟩) (nU _)).trans (hE.1.at_ 0 rfl);have r1:=(HB.1.cell (p:=⟨w.heap.size,1,none⟩) (nU _)).trans (hE.1.at_ 1 rfl);have r2:=(HB.1.cell (p:=⟨w.heap.size,2,none⟩) (nU _)).trans (hE.1.at_ 2 rfl);have r3:=(HB.1.cell (p:=⟨w.heap.size,3,none⟩) (nU _)).trans (hE.1.at_ 3 rfl);have oB:=Kh (pM.1.i32 hD.1);clear cF hH nY;have g1:(0:Int)<((lb.length+1:Nat):Int):=by omega
    have g2:(((lb.length:Nat):Int)+1==0)=false:=by simp;omega
    go_wp2_with fail
    go_quiet (fail)
    go_wp2_with fail
    go_quiet (fail)
    have hT:=Kh (λI (V:Below wr.heap.size wr I)=>Cx s p n c t q m d x s2 p2 n2 c2 t2 q2 m2 d2 z.2 I (oB.1.keep V) (oC.1.keep V) (by have:=HS.1.1;omega) (by have:=HS.1.second;omega));have hN:=Kh (show hq (x*z.2)<=1000000000 by have h1:=B7 x z.2;have h2:=HS.1.1;have h3:=HS.1.second;omega);have bY:=Kh (show ∀I,Below (w.heap.size+1) wr I->(I.cell? ⟨gb,ob,none⟩=some (.int .i64 (z.1:Int))/\I.cell? ⟨gb,ob+1,none⟩=some (.bool s2)/\I.cell? ⟨gb,ob+2,none⟩=some (.slice p2 n2 c2)/\I.cell? ⟨gb,ob+3,none⟩=some (.bool t2)/\I.cell? ⟨gb,ob+4,none⟩=some (.slice q2 m2 d2)/\I.cell? ⟨w.heap.size,0,none⟩=some (.bool s)/\I.cell? ⟨w.heap.size,1,none⟩=some (.slice p n c)/\I.cell? ⟨w.heap.size,2,none⟩=some (.bool t)/\I.cell? ⟨w.heap.size,3,none⟩=some (.slice q m d))from λI V=>⟨(V.cell (p:=⟨gb,ob,none⟩) (cA)).trans b0,(V.cell (p:=⟨gb,ob+1,none⟩) (cA)).trans b1,(V.cell (p:=⟨gb,ob+2,none⟩) (cA)).trans b2,(V.cell (p:=⟨gb,ob+3,none⟩) (cA)).trans b3,(V.cell (p:=⟨gb,ob+4,none⟩) (cA)).trans b4,(V.cell (p:=⟨w.heap.size,0,none⟩) (nU _)).trans r0,(V.cell (p:=⟨w.heap.size,1,none⟩) (nU _)).trans r1,(V.cell (p:=⟨w.heap.size,2,none⟩) (nU _)).trans r2,(V.cell (p:=⟨w.heap.size,3,none⟩) (nU _)).trans r3⟩);clear b0 b1 b2 b3 b4 r0 r1 r2 r3;go_upto_region 11 with(fail)
    go_region_held3 (λI=>I.cell? ⟨gb,ob,none⟩=some (.int .i64 (z.1:Int))/\I.cell? ⟨gb,ob+1,none⟩=some (.bool s2)/\I.cell? ⟨gb,ob+2,none⟩=some (.slice p2 n2 c2)/\I.cell? ⟨gb,ob+3,none⟩=some (.bool t2)/\I.cell? ⟨gb,ob+4,none⟩=some (.slice q2 m2 d2)/\I.cell? ⟨w.heap.size,0,none⟩=some (.bool s)/\I.cell? ⟨w.heap.size,1,none⟩=some (.slice p n c)/\I.cell? ⟨w.heap.size,2,none⟩=some (.bool t)/\I.cell? ⟨w.heap.size,3,none⟩=some (.slice q m d))
     (first|exact bY.1 _ (Below.mono (show Below wr.heap.size wr _ from(by first|exact(Aa (Aa (Below.refl _ wr) _) _).drew|exact(Aa (Below.refl _ wr) _).drew|exact(Below.refl _ wr).drew)) J.1)|with_reducible exact bY.1 _ cC|exact bY.1 _ (cC.alloc cT _)|exact bY.1 _ bA.1 |(exfalso;assumption))
     (first
      |(refine I7 NotU32 rfl (.tmp 87) (.tmp 100) _ 110 rfl underlying107 E5 rfl (by decide) (w.heap.size+1) lo.length u7 xs [.int .i64 (z.1:Int),.bool s4,.slice p4 n4 c4,.bool t4,.slice q4 m4 d4] rfl (aX.1 _ (U)) rfl rfl (Vn _ _ _ _ _ _ _ _ _) (by have:=cG.1;omega) (by have:=cG.1;omega) (by first|exact J.1|exact nS J.1 (Below.size (U))) (jA _ _ _ _ _ _ _ _ _) Vm ?_;intro v9 w9 Y O cB;have gP:=Kh (OwnT.push (aX.1 _ (U)) (hP.1 _ (U)) z.1 (-(x*z.2)) hZ Y O);have Z:=Kh (show I32 wr w9 from(I32.below (U)).trans (I32.grown (K:=NotU32) (λz=>Fg z) (aX.1 _ (U)).2 O));have bA:=Kh (show Below (w.heap.size+1) wr w9 from(Below.mono (U) J.1).trans (A7 (Below.refl _ _) (aX.1 _ (U)).1 O (nR _) (by first|exact J.1|exact nS J.1 (Below.size (U)))));clear Y O cB)
      |(go_at_call 44;refine(hT.1 _ (show Below wr.heap.size wr _ from(by first|exact(Aa (Aa (Below.refl _ wr) _) _).drew|exact(Aa (Below.refl _ wr) _).drew|exact(Below.refl _ wr).drew))).mono ?_;rintro e w2 ⟨⟨s3,p3,n3,c3,t3,q3,m3,d3,rfl,hY⟩,hV⟩;have h:Below wr.heap.size wr w2:=Below.trans (show Below wr.heap.size wr _ from(by first|exact(Aa (Aa (Below.refl _ wr) _) _).drew|exact(Aa (Below.refl _ wr) _).drew|exact(Below.refl _ wr).drew)) hV;have cC:=h.mono J.1;have cT:=nS J.1 h.size)
      |(go_at_call 51;refine(Jn s3 p3 n3 c3 t3 q3 m3 d3 (x*z.2) _ hY hN.1).mono ?_;rintro e w3 ⟨⟨s4,p4,n4,c4,t4,q4,m4,d4,rfl,hZ⟩,hS⟩;have U:Below wr.heap.size wr w3:=h.trans (hS.mono h.size);have cC:=U.mono J.1;have cT:=nS J.1 U.size))
    all_goals go_wp2
    all_goals go_roundw
    all_goals first
     | exact⟨[],lb,lo++[(z.1,-(x*z.2))],.inl ⟨rfl,_,_,rfl⟩,(hO.1.next Z.1 bA.1).cut _ nW,gP.1,by rw[<-hM.1,mrg_right,List.append_assoc];rfl,HS.1.right,by simp at hW ⊢;omega,HB.1.trans bA.1,hD.1.trans Z.1⟩
     |(simp[lenOf])
  | cons y la=>
   obtain⟨ga,oa,ca,rfl,oF,rT,nX,⟨a0,s1,p1,n1,c1,t1,q1,m1,d1,a1,a2,a3,a4,qA⟩,oJ⟩:=hX.cons;obtain⟨xs,nD,hQ⟩:=oG;have aX:=Kh (λI (V:Below wr.heap.size wr I)=>nD.keep V);have hP:=Kh (λI (V:Below wr.heap.size wr I) j x hx=>show TX x I xs (j*5)from⟨(hQ j x hx).1,(hQ j x hx).2.i32 (IsQ.solid _) (I32.below V)⟩);clear nD hQ;have oE:=Kh oJ;have qV:=Kh hX;have oP:=Kh (show Qs wr s1 p1 n1 c1 t1 q1 m1 d1 y.2 from qA);clear hX oJ qA;cases lb with
   | nil=>
    obtain⟨ba,bc,rfl⟩:=cF.nil;have hO:=Kh cF;clear cF;have g1:(0:Int)<((la.length+1:Nat):Int):=by omega
    go_wp2_with fail
    go_quiet (fail)
    go_wp2_with (at_builtin;refine B9 NotU32 rfl (.tmp 64) (.tmp 68) _ 110 rfl underlying107 E5 rfl (by decide) (w.heap.size+1) lo.length u7 xs [.int .i64 (y.1:Int),.bool s1,.slice p1 n1 c1,.bool t1,.slice q1 m1 d1] rfl (aX.1 _ (Aa (Below.refl _ wr) _)) rfl rfl (Vn _ _ _ _ _ _ _ _ _) (by have:=cG.1;omega) (by have:=cG.1;omega) (by first|exact J.1|exact nS J.1 (Below.size (Aa (Below.refl _ wr) _))) (jA _ _ _ _ _ _ _ _ _) Vm ?_;intro v9 w9 Y O cB;have gP:=Kh (OwnT.push (aX.1 _ (Aa (Below.refl _ wr) _)) (hP.1 _ (Aa (Below.refl _ wr) _)) y.1 y.2 (oP.1.keep (Aa (Below.refl _ wr) _)) Y O);have Z:=Kh (show I32 wr w9 from(I32.below (Aa (Below.refl _ wr) _)).trans (I32.grown (K:=NotU32) (λz=>Fg z) (aX.1 _ (Aa (Below.refl _ wr) _)).2 O));have bA:=Kh (show Below (w.heap.size+1) wr w9 from(Below.mono (Aa (Below.refl _ wr) _) J.1).trans (A7 (Below.refl _ _) (aX.1 _ (Aa (Below.refl _ wr) _)).1 O (nR _) (by first|exact J.1|exact nS J.1 (Below.size (Aa (Below.refl _ wr) _)))));clear Y O cB)
    go_roundw
    case rel=>exact⟨la,[],lo++[(y.1,y.2)],(oE.1.next Z.1 bA.1).cut _ oF,hO.1.next Z.1 bA.1,gP.1,by rw[<-hM.1,mrg_left,List.append_assoc];rfl,HS.1.left,by simp at hW ⊢;omega,HB.1.trans bA.1,hD.1.trans Z.1⟩
    case measure=>simp[lenOf]
   | cons z lb=>
    obtain⟨gb,ob,cb,rfl,nW,pY,cA,⟨b0,s2,p2,n2,c2,t2,q2,m2,d2,b1,b2,b3,b4,nY⟩,hH⟩:=cF.cons;have hO:=Kh hH;have pR:=Kh cF;have oC:=Kh (show Qs wr s2 p2 n2 c2 t2 q2 m2 d2 z.2 from nY);have r0:=(HB.1.cell (p:=⟨w.heap.size,0,none⟩) (nU _)).trans (hE.1.at_ 0 rfl);have r1:=(HB.1.cell (p:=⟨w.heap.size,1,none⟩) (nU _)).trans (hE.1.at_ 1 rfl);have r2:=(HB.1.cell (p:=⟨w.heap.size,2,none⟩) (nU _)).trans (hE.1.at_ 2 rfl);have r3:=(HB.1.cell (p:=⟨w.heap.size,3,none⟩) (nU _)).trans (hE.1.at_ 3 rfl);have oB:=Kh (pM.1.i32 hD.1);clear cF hH nY;have g1:(0:Int)<((la.length+1:Nat):Int):=by omega
    have g2:(((la.length:Nat):Int)+1==0)=false:=by simp;omega
    have g3:(((lb.length:Nat):Int)+1==0)=false:=by simp;omega
    rcases Nat.lt_trichotomy y.1 z.1 with hlt|oW|qY
    ·have g4:(y.1:Int)<(z.1:Int):=by omega
     clear r0 r1 r2 r3;go_wp2_with fail
     go_quiet (fail)
     go_wp2_with (at_builtin;refine B9 NotU32 rfl (.tmp 64) (.tmp 68) _ 110 rfl underlying107 E5 rfl (by decide) (w.heap.size+1) lo.length u7 xs [.int .i64 (y.1:Int),.bool s1,.slice p1 n1 c1,.bool t1,.slice q1 m1 d1] rfl (aX.1 _ (Aa (Below.refl _ wr) _)) rfl rfl (Vn _ _ _ _ _ _ _ _ _) (by have:=cG.1;omega) (by have:=cG.1;omega) (by first|exact J.1|exact nS J.1 (Below.size (Aa (Below.refl _ wr) _))) (jA _ _ _ _ _ _ _ _ _) Vm ?_;intro v9 w9 Y O cB;have gP:=Kh (OwnT.push (aX.1 _ (Aa (Below.refl _ wr) _)) (hP.1 _ (Aa (Below.refl _ wr) _)) y.1 y.2 (oP.1.keep (Aa (Below.refl _ wr) _)) Y O);have Z:=Kh (show I32 wr w9 from(I32.below (Aa (Below.refl _ wr) _)).trans (I32.grown (K:=NotU32) (λz=>Fg z) (aX.1 _ (Aa (Below.refl _ wr) _)).2 O));have bA:=Kh (show Below (w.heap.size+1) wr w9 from(Below.mono (Aa (Below.refl _ wr) _) J.1).trans (A7 (Below.refl _ _) (aX.1 _ (Aa (Below.refl _ wr) _)).1 O (nR _) (by first|exact J.1|exact nS J.1 (Below.size (Aa (Below.refl _ wr) _)))));clear Y O cB)
     go_roundw
     case rel=>exact⟨la,z :: lb,lo++[(y.1,y.2)],(oE.1.next Z.1 bA.1).cut _ oF,pR.1.next Z.1 bA.1,gP.1,by rw[<-hM.1,R4 x y z la lb hlt,List.append_assoc];rfl,HS.1.left,by simp at hW ⊢;omega,HB.1.trans bA.1,hD.1.trans Z.1⟩
     case measure=>simp[lenOf]
    ·have g4:decide ((y.1:Int)<(z.1:Int))=false:=by simp;omega
     have g5:decide ((z.1:Int)<(y.1:Int))=false:=by simp;omega
     go_wp2_with fail
     go_quiet (fail)
     go_wp2_with fail
     go_quiet (fail)
     have hT:=Kh (λI (V:Below wr.heap.size wr I)=>Cx s p n c t q m d x s2 p2 n2 c2 t2 q2 m2 d2 z.2 I (oB.1.keep V) (oC.1.keep V) (by have:=HS.1.1;omega) (by have:=HS.1.second;omega));have hN:=Kh (show hq (x*z.2)<=200000000 by have h1:=B7 x z.2;have h2:=HS.1.1;have h3:=HS.1.second;omega);have pS:=Kh (show hq y.2<=1000000000 by have h3:=HS.1.first;omega);have qQ:=Kh (show hq (y.2 - x*z.2)<=1000000000 by have h3:=HS.1.first;have h4:=hN.1;have h5:=N5 y.2 (-(x*z.2));rw[N7]at h5;rw[Rat.sub_eq_add_neg];omega);have bY:=Kh (show ∀I,Below (w.heap.size+1) wr I->(I.cell? ⟨ga,oa+1,none⟩=some (.bool s1)/\I.cell? ⟨ga,oa+2,none⟩=some (.slice p1 n1 c1)/\I.cell? ⟨ga,oa+3,none⟩=some (.bool t1)/\I.cell? ⟨ga,oa+4,none⟩=some (.slice q1 m1 d1)/\I.cell? ⟨gb,ob+1,none⟩=some (.bool s2)/\I.cell? ⟨gb,ob+2,none⟩=some (.slice p2 n2 c2)/\I.cell? ⟨gb,ob+3,none⟩=some (.bool t2)/\I.cell? ⟨gb,ob+4,none⟩=some (.slice q2 m2 d2)/\I.cell? ⟨w.heap.size,0,none⟩=some (.bool s)/\I.cell? ⟨w.heap.size,1,none⟩=some (.slice p n c)/\I.cell? ⟨w.heap.size,2,none⟩=some (.bool t)/\I.cell? ⟨w.heap.size,3,none⟩=some (.slice q m d))from λI V=>⟨(V.cell (p:=⟨ga,oa+1,none⟩) (nX)).trans a1,(V.cell (p:=⟨ga,oa+2,none⟩) (nX)).trans a2,(V.cell (p:=⟨ga,oa+3,none⟩) (nX)).trans a3,(V.cell (p:=⟨ga,oa+4,none⟩) (nX)).trans a4,(V.cell (p:=⟨gb,ob+1,none⟩) (cA)).trans b1,(V.cell (p:=⟨gb,ob+2,none⟩) (cA)).trans b2,(V.cell (p:=⟨gb,ob+3,none⟩) (cA)).trans b3,(V.cell (p:=⟨gb,ob+4,none⟩) (cA)).trans b4,(V.cell (p:=⟨w.heap.size,0,none⟩) (nU _)).trans r0,(V.cell (p:=⟨w.heap.size,1,none⟩) (nU _)).trans r1,(V.cell (p:=⟨w.heap.size,2,none⟩) (nU _)).trans r2,(V.cell (p:=⟨w.heap.size,3,none⟩) (nU _)).trans r3⟩);have pJ:=Kh (λI (V:Below (w.heap.size+1) wr I)=>(V.cell (p:=⟨ga,oa,none⟩) nX).trans a0);clear a0 a1 a2 a3 a4 b0 b1 b2 b3 b4 r0 r1 r2 r3;go_upto_region 3 with(fail)
     go_cut [8]from 17 to 27 (λv8 wd=>∃R s4 p4 n4 c4 t4 q4 m4 d4,v8=.pointer (some ⟨R,0,none⟩)/\wd.cell? ⟨R,0,none⟩=some (.bool s4)/\wd.cell? ⟨R,1,none⟩=some (.slice p4 n4 c4)/\wd.cell? ⟨R,2,none⟩=some (.bool t4)/\wd.cell? ⟨R,3,none⟩=some (.slice q4 m4 d4)/\Qs wd s4 p4 n4 c4 t4 q4 m4 d4 (y.2 - x*z.2)/\Below wr.heap.size wr wd/\wr.heap.size<=R)
     case first=>
      have M1:True:=trivial
      go_region_held3 (λI=>I.cell? ⟨ga,oa+1,none⟩=some (.bool s1)/\I.cell? ⟨ga,oa+2,none⟩=some (.slice p1 n1 c1)/\I.cell? ⟨ga,oa+3,none⟩=some (.bool t1)/\I.cell? ⟨ga,oa+4,none⟩=some (.slice q1 m1 d1)/\I.cell? ⟨gb,ob+1,none⟩=some (.bool s2)/\I.cell? ⟨gb,ob+2,none⟩=some (.slice p2 n2 c2)/\I.cell? ⟨gb,ob+3,none⟩=some (.bool t2)/\I.cell? ⟨gb,ob+4,none⟩=some (.slice q2 m2 d2)/\I.cell? ⟨w.heap.size,0,none⟩=some (.bool s)/\I.cell? ⟨w.heap.size,1,none⟩=some (.slice p n c)/\I.cell? ⟨w.heap.size,2,none⟩=some (.bool t)/\I.cell? ⟨w.heap.size,3,none⟩=some (.slice q m d))
       (first|exact bY.1 _ (Below.mono (show Below wr.heap.size wr _ from(by first|exact(Aa (Aa (Below.refl _ wr) _) _).drew|exact(Aa (Below.refl _ wr) _).drew|exact((Aa (Aa (Below.refl _ wr) _) _).drew).alloc (nR _) _|exact((Aa (Below.refl _ wr) _).drew).alloc (nR _) _)) J.1)|with_reducible exact bY.1 _ cC|exact bY.1 _ (cC.alloc cT _)|with_reducible exact bY.1 _ (As cC qW.1 _ _ _ _)|with_reducible exact bY.1 _ (As cC J.1 _ _ _ _)|with_reducible exact bY.1 _ (As (cC.alloc cT _) cT _ _ _ _) |(exfalso;assumption))
       (first
        |(go_at_call 44;clear M1;refine(hT.1 _ (by first|exact(Aa (Aa (Below.refl _ wr) _) _).drew|exact(Aa (Below.refl _ wr) _).drew|exact((Aa (Aa (Below.refl _ wr) _) _).drew).alloc (nR _) _|exact((Aa (Below.refl _ wr) _).drew).alloc (nR _) _)).mono ?_;rintro e w2 ⟨⟨s3,p3,n3,c3,t3,q3,m3,d3,rfl,hY⟩,hV⟩;have h:Below wr.heap.size wr w2:=Below.trans (show Below wr.heap.size wr _ from(by first|exact(Aa (Aa (Below.refl _ wr) _) _).drew|exact(Aa (Below.refl _ wr) _).drew|exact((Aa (Aa (Below.refl _ wr) _) _).drew).alloc (nR _) _|exact((Aa (Below.refl _ wr) _).drew).alloc (nR _) _)) (Below.mono hV (Below.size (show Below wr.heap.size wr _ from(by first|exact(Aa (Aa (Below.refl _ wr) _) _).drew|exact(Aa (Below.refl _ wr) _).drew|exact((Aa (Aa (Below.refl _ wr) _) _).drew).alloc (nR _) _|exact((Aa (Below.refl _ wr) _).drew).alloc (nR _) _))));have cC:=h.mono J.1;have cT:=nS J.1 h.size;(try have fa:=K4 wr.heap.size (by first|exact rfl |(simp;done)) hV))
        |(go_at_call 146;refine(cL s1 p1 n1 c1 t1 q1 m1 d1 y.2 s3 p3 n3 c3 t3 q3 m3 d3 (x*z.2) _ (oP.1.keep (show Below wr.heap.size wr _ from(by first|exact h|exact h.alloc h.size _))) (by first|exact hY|exact hY.keep ((Below.refl _ _).alloc (nR _) _)) pS.1 (by have:=hN.1;omega)).mono ?_;rintro e w3 ⟨⟨s4,p4,n4,c4,t4,q4,m4,d4,rfl,hZ⟩,hS⟩;have U:Below wr.heap.size wr w3:=Below.trans (show Below wr.heap.size wr _ from(by first|exact h|exact h.alloc h.size _)) (Below.mono hS (Below.size (show Below wr.heap.size wr _ from(by first|exact h|exact h.alloc h.size _))));have cC:=U.mono J.1;have cT:=nS J.1 U.size;(first|have fa:=Jb (by first|exact hS) fa|have fa:=K4 w2.heap.size rfl hS|skip);have qW:=Kh (show w.heap.size+1<=w2.heap.size from nS J.1 h.size)))
      all_goals go_wp2
      all_goals go_meet
      all_goals first
       | exact⟨w3.heap.size,s4,p4,n4,c4,t4,q4,m4,d4,rfl,(Blk.new w3 86 #[.bool s4,.slice p4 n4 c4,.bool t4,.slice q4 m4 d4]).at_ 0 rfl,(Blk.new w3 86 #[.bool s4,.slice p4 n4 c4,.bool t4,.slice q4 m4 d4]).at_ 1 rfl,(Blk.new w3 86 #[.bool s4,.slice p4 n4 c4,.bool t4,.slice q4 m4 d4]).at_ 2 rfl,(Blk.new w3 86 #[.bool s4,.slice p4 n4 c4,.bool t4,.slice q4 m4 d4]).at_ 3 rfl,hZ.keep ((Below.refl _ _).alloc (nR _) _),U.alloc U.size _,U.size⟩
       |(obtain⟨E0,E1,E2,E3,qZ⟩:=Cd fa.2.2.2.2.2.2.2.2 hZ rfl;exact⟨_,s4,p4,n4,c4,t4,q4,m4,d4,rfl,E0,E1,E2,E3,qZ,As U (by first|exact nR _|exact h.size) _ _ _ _,by first|exact nR _|exact h.size⟩)
     case rest=>
      obtain⟨R,s4,p4,n4,c4,t4,q4,m4,d4,rfl,e0,e1,e2,e3,hz,pX,hR⟩:=hcut;obtain⟨wd,rfl⟩:∃wd:World,wd=wc:=⟨_,rfl⟩
      have oQ:=Kh hz;have pK:=Kh pX;have oD:=Kh (show ∀g,u7.ownBlock=some g->g≠R from λg hg e=>by have:=((aX.1 wr (Below.refl _ _)).2 g hg).1;omega);have nB:=Kh (And.intro e0 (And.intro e1 (And.intro e2 e3)));clear hz pX hR;go_wp2_with fail
      refine(Hr s4 p4 n4 c4 t4 q4 m4 d4 (y.2 - x*z.2) wd oQ.1 qQ.1).mono ?_;rintro e we ⟨⟨sg,rfl,qB⟩,cD⟩;have bB:=bt pK cD;have pO:=Kh qB;have qR:=Kh (oQ.1.keep cD);have nC:=Kh (λI (V:Below we.heap.size we I)=>show I.cell? ⟨R,0,none⟩=some (.bool s4)/\I.cell? ⟨R,1,none⟩=some (.slice p4 n4 c4)/\I.cell? ⟨R,2,none⟩=some (.bool t4)/\I.cell? ⟨R,3,none⟩=some (.slice q4 m4 d4)from⟨cell_next (cD.trans (V.mono cD.size)) nB.1.1,cell_next (cD.trans (V.mono cD.size)) nB.1.2.1,cell_next (cD.trans (V.mono cD.size)) nB.1.2.2.1,cell_next (cD.trans (V.mono cD.size)) nB.1.2.2.2⟩);clear qB cD hT hN pS oQ pK nB e0 e1 e2 e3;by_cases hd:y.2 - x*z.2=0
      ·have h0:sg=0:=pO.1.2 hd
       subst h0;have qO:=Kh hd;clear hd;go_wp2_with fail
       go_quiet (fail)
       go_wp2;go_roundw
       case rel=>
        have hG:∀n,Below wr.heap.size wr (we.drewN n):=λn=>Aa bB.1 n
        exact⟨la,lb,lo,(oE.1.next (I32.below (hG _)) ((hG _).mono J.1)).cut _ oF,(hO.1.next (I32.below (hG _)) ((hG _).mono J.1)).cut _ nW,⟨xs,aX.1 _ (hG _),hP.1 _ (hG _)⟩,by rw[<-hM.1,Jt x y z la lb oW qO.1],HS.1.left.right,by simp at hW ⊢;omega,HB.1.trans ((hG _).mono J.1),hD.1.trans (I32.below (hG _))⟩
       case measure=>simp[lenOf];omega
      ·have h0:(sg != 0)=true:=by
        have:sg≠0:=λe=>hd (pO.1.1 e)
        simpa using this
       have qP:=Kh hd;clear hd;go_upto_region 5 with(fail)
       have pN:=Kh (show ∀I,Below we.heap.size we I->(I.cell? ⟨ga,oa,none⟩=some (.int .i64 (y.1:Int))/\I.cell? ⟨R,0,none⟩=some (.bool s4)/\I.cell? ⟨R,1,none⟩=some (.slice p4 n4 c4)/\I.cell? ⟨R,2,none⟩=some (.bool t4)/\I.cell? ⟨R,3,none⟩=some (.slice q4 m4 d4))from λI V=>⟨pJ.1 I ((bB.1.mono J.1).trans (V.mono (nS J.1 bB.1.size))),nC.1 I V⟩);have qX:=pN.1 _ (Below.refl _ we).drew
       go_region_held3 (λI=>I.cell? ⟨ga,oa,none⟩=some (.int .i64 (y.1:Int))/\I.cell? ⟨R,0,none⟩=some (.bool s4)/\I.cell? ⟨R,1,none⟩=some (.slice p4 n4 c4)/\I.cell? ⟨R,2,none⟩=some (.bool t4)/\I.cell? ⟨R,3,none⟩=some (.slice q4 m4 d4))
        (first|with_reducible exact qX|with_reducible exact qS.1|exact pN.1 _ ((Below.refl _ we).drew.alloc (nR _) _) |(exfalso;assumption))
        (first
         |(refine I7 (W:=we.drew) NotU32 rfl (.tmp 31) (.tmp 38) _ 110 rfl underlying107 E5 rfl (by decide) (w.heap.size+1) lo.length u7 xs [.int .i64 (z.1:Int),.bool s4,.slice p4 n4 c4,.bool t4,.slice q4 m4 d4] rfl (aX.1 _ (show Below wr.heap.size wr _ from(by first|exact bB.1.drew|exact bB.1))) rfl rfl (Vn _ _ _ _ _ _ _ _ _) (by have:=cG.1;omega) (by have:=cG.1;omega) (by first|exact J.1|exact nS J.1 (Below.size (show Below wr.heap.size wr _ from(by first|exact bB.1.drew|exact bB.1)))) (jA _ _ _ _ _ _ _ _ _) Vm ?_;intro v9 w9 Y O cB;have gP:=Kh (OwnT.push (aX.1 _ (show Below wr.heap.size wr _ from(by first|exact bB.1.drew|exact bB.1))) (hP.1 _ (show Below wr.heap.size wr _ from(by first|exact bB.1.drew|exact bB.1))) z.1 (y.2 - x*z.2) (qR.1.keep (by first|exact(Below.refl _ we).drew|exact Below.refl _ we)) Y O);have Z:=Kh (show I32 wr w9 from(I32.below (show Below wr.heap.size wr _ from(by first|exact bB.1.drew|exact bB.1))).trans (I32.grown (K:=NotU32) (λz=>Fg z) (aX.1 _ (show Below wr.heap.size wr _ from(by first|exact bB.1.drew|exact bB.1))).2 O));have bA:=Kh (show Below (w.heap.size+1) wr w9 from(Below.mono (show Below wr.heap.size wr _ from(by first|exact bB.1.drew|exact bB.1)) J.1).trans (A7 (Below.refl _ _) (aX.1 _ (show Below wr.heap.size wr _ from(by first|exact bB.1.drew|exact bB.1))).1 O (nR _) (by first|exact J.1|exact nS J.1 (Below.size (show Below wr.heap.size wr _ from(by first|exact bB.1.drew|exact bB.1))))));have qS:=Kh (show w9.cell? ⟨ga,oa,none⟩=some (.int .i64 (y.1:Int))/\w9.cell? ⟨R,0,none⟩=some (.bool s4)/\w9.cell? ⟨R,1,none⟩=some (.slice p4 n4 c4)/\w9.cell? ⟨R,2,none⟩=some (.bool t4)/\w9.cell? ⟨R,3,none⟩=some (.slice q4 m4 d4)from⟨pJ.1 _ bA.1,O.cell (nC.1 _ (by first|exact(Below.refl _ we).drew|exact Below.refl _ we)).1 (λe=>oD.1 _ e.symm rfl),O.cell (nC.1 _ (by first|exact(Below.refl _ we).drew|exact Below.refl _ we)).2.1 (λe=>oD.1 _ e.symm rfl),O.cell (nC.1 _ (by first|exact(Below.refl _ we).drew|exact Below.refl _ we)).2.2.1 (λe=>oD.1 _ e.symm rfl),O.cell (nC.1 _ (by first|exact(Below.refl _ we).drew|exact Below.refl _ we)).2.2.2 (λe=>oD.1 _ e.symm rfl)⟩);clear Y O cB))
       all_goals go_wp2_with fail
       all_goals go_quiet (fail)
       all_goals go_wp2
       all_goals go_roundw
       all_goals first
        | exact⟨la,lb,lo++[(z.1,y.2 - x*z.2)],(oE.1.next (Z.1.trans (I32.below (Aa (Below.refl _ _) _))) (Aa bA.1 _)).cut _ oF,(hO.1.next (Z.1.trans (I32.below (Aa (Below.refl _ _) _))) (Aa bA.1 _)).cut _ nW,gP.1.keep (Aa (Below.refl _ _) _),by rw[<-hM.1,Oc x y z la lb oW qP.1,oW,List.append_assoc];rfl,HS.1.left.right,by simp at hW ⊢;omega,HB.1.trans (Aa bA.1 _),hD.1.trans (Z.1.trans (I32.below (Aa (Below.refl _ _) _)))⟩
        |(simp[lenOf];omega)
    ·have g4:decide ((y.1:Int)<(z.1:Int))=false:=by simp;omega
     have g5:(z.1:Int)<(y.1:Int):=by omega
     go_wp2_with fail
     go_quiet (fail)
     go_wp2_with fail
     go_quiet (fail)
     have hT:=Kh (λI (V:Below wr.heap.size wr I)=>Cx s p n c t q m d x s2 p2 n2 c2 t2 q2 m2 d2 z.2 I (oB.1.keep V) (oC.1.keep V) (by have:=HS.1.1;omega) (by have:=HS.1.second;omega));have hN:=Kh (show hq (x*z.2)<=1000000000 by have h1:=B7 x z.2;have h2:=HS.1.1;have h3:=HS.1.second;omega);have bY:=Kh (show ∀I,Below (w.heap.size+1) wr I->(I.cell? ⟨gb,ob,none⟩=some (.int .i64 (z.1:Int))/\I.cell? ⟨gb,ob+1,none⟩=some (.bool s2)/\I.cell? ⟨gb,ob+2,none⟩=some (.slice p2 n2 c2)/\I.cell? ⟨gb,ob+3,none⟩=some (.bool t2)/\I.cell? ⟨gb,ob+4,none⟩=some (.slice q2 m2 d2)/\I.cell? ⟨w.heap.size,0,none⟩=some (.bool s)/\I.cell? ⟨w.heap.size,1,none⟩=some (.slice p n c)/\I.cell? ⟨w.heap.size,2,none⟩=some (.bool t)/\I.cell? ⟨w.heap.size,3,none⟩=some (.slice q m d))from λI V=>⟨(V.cell (p:=⟨gb,ob,none⟩) (cA)).trans b0,(V.cell (p:=⟨gb,ob+1,none⟩) (cA)).trans b1,(V.cell (p:=⟨gb,ob+2,none⟩) (cA)).trans b2,(V.cell (p:=⟨gb,ob+3,none⟩) (cA)).trans b3,(V.cell (p:=⟨gb,ob+4,none⟩) (cA)).trans b4,(V.cell (p:=⟨w.heap.size,0,none⟩) (nU _)).trans r0,(V.cell (p:=⟨w.heap.size,1,none⟩) (nU _)).trans r1,(V.cell (p:=⟨w.heap.size,2,none⟩) (nU _)).trans r2,(V.cell (p:=⟨w.heap.size,3,none⟩) (nU _)).trans r3⟩);clear b0 b1 b2 b3 b4 r0 r1 r2 r3;go_upto_region 11 with(fail)
     go_region_held3 (λI=>I.cell? ⟨gb,ob,none⟩=some (.int .i64 (z.1:Int))/\I.cell? ⟨gb,ob+1,none⟩=some (.bool s2)/\I.cell? ⟨gb,ob+2,none⟩=some (.slice p2 n2 c2)/\I.cell? ⟨gb,ob+3,none⟩=some (.bool t2)/\I.cell? ⟨gb,ob+4,none⟩=some (.slice q2 m2 d2)/\I.cell? ⟨w.heap.size,0,none⟩=some (.bool s)/\I.cell? ⟨w.heap.size,1,none⟩=some (.slice p n c)/\I.cell? ⟨w.heap.size,2,none⟩=some (.bool t)/\I.cell? ⟨w.heap.size,3,none⟩=some (.slice q m d))
      (first|exact bY.1 _ (Below.mono (show Below wr.heap.size wr _ from(by first|exact(Aa (Aa (Below.refl _ wr) _) _).drew|exact(Aa (Below.refl _ wr) _).drew|exact(Below.refl _ wr).drew)) J.1)|with_reducible exact bY.1 _ cC|exact bY.1 _ (cC.alloc cT _)|exact bY.1 _ bA.1 |(exfalso;assumption))
      (first
       |(refine I7 NotU32 rfl (.tmp 87) (.tmp 100) _ 110 rfl underlying107 E5 rfl (by decide) (w.heap.size+1) lo.length u7 xs [.int .i64 (z.1:Int),.bool s4,.slice p4 n4 c4,.bool t4,.slice q4 m4 d4] rfl (aX.1 _ (U)) rfl rfl (Vn _ _ _ _ _ _ _ _ _) (by have:=cG.1;omega) (by have:=cG.1;omega) (by first|exact J.1|exact nS J.1 (Below.size (U))) (jA _ _ _ _ _ _ _ _ _) Vm ?_;intro v9 w9 Y O cB;have gP:=Kh (OwnT.push (aX.1 _ (U)) (hP.1 _ (U)) z.1 (-(x*z.2)) hZ Y O);have Z:=Kh (show I32 wr w9 from(I32.below (U)).trans (I32.grown (K:=NotU32) (λz=>Fg z) (aX.1 _ (U)).2 O));have bA:=Kh (show Below (w.heap.size+1) wr w9 from(Below.mono (U) J.1).trans (A7 (Below.refl _ _) (aX.1 _ (U)).1 O (nR _) (by first|exact J.1|exact nS J.1 (Below.size (U)))));clear Y O cB)
       |(go_at_call 44;refine(hT.1 _ (show Below wr.heap.size wr _ from(by first|exact(Aa (Aa (Below.refl _ wr) _) _).drew|exact(Aa (Below.refl _ wr) _).drew|exact(Below.refl _ wr).drew))).mono ?_;rintro e w2 ⟨⟨s3,p3,n3,c3,t3,q3,m3,d3,rfl,hY⟩,hV⟩;have h:Below wr.heap.size wr w2:=Below.trans (show Below wr.heap.size wr _ from(by first|exact(Aa (Aa (Below.refl _ wr) _) _).drew|exact(Aa (Below.refl _ wr) _).drew|exact(Below.refl _ wr).drew)) hV;have cC:=h.mono J.1;have cT:=nS J.1 h.size)
       |(go_at_call 51;refine(Jn s3 p3 n3 c3 t3 q3 m3 d3 (x*z.2) _ hY hN.1).mono ?_;rintro e w3 ⟨⟨s4,p4,n4,c4,t4,q4,m4,d4,rfl,hZ⟩,hS⟩;have U:Below wr.heap.size wr w3:=h.trans (hS.mono h.size);have cC:=U.mono J.1;have cT:=nS J.1 U.size))
     all_goals go_wp2
     all_goals go_roundw
     all_goals first
      | exact⟨y :: la,lb,lo++[(z.1,-(x*z.2))],qV.1.next Z.1 bA.1,(hO.1.next Z.1 bA.1).cut _ nW,gP.1,by rw[<-hM.1,R3 x y z la lb qY,List.append_assoc];rfl,HS.1.right,by simp at hW ⊢;omega,HB.1.trans bA.1,hD.1.trans Z.1⟩
      |(simp[lenOf])
theorem QE.butR {r:Rat} {w w':World} {g i R:Nat} (h:QE (IsQ r) w g i) (O:I32 w w') (hg:w.grownBy w' (some R)) (U:g≠R):QE (IsQ r) w' g i:=by
 have I:∀j v,w.cell? ⟨g,j,none⟩=some v->w'.cell? ⟨g,j,none⟩=some v:=λj v e=>hg.cell e (λJ=>by injection J with J;exact U J)
 obtain⟨s,p,n,c,t,q,m,d,V,Y,Z,h3,h4⟩:=h;exact⟨s,p,n,c,t,q,m,d,I _ _ V,I _ _ Y,I _ _ Z,I _ _ h3,h4.i32 O⟩
def addQ (F Y:Nat->Rat) (x:Rat) (k:Nat):Nat->FP:=λj=>IsQ (if j<k then F j+x*Y j else F j)
theorem addQ.done {F Y:Nat->Rat} {x:Rat} {k:Nat} {w:World} {g N:Nat} (h:QRow (addQ F Y x k) w g N N) (I:F k+x*Y k=F k):QRow (addQ F Y x (k+1)) w g N N:=
 QRow.congr h (λj _=>by
  unfold addQ;by_cases hj:j<k
  ·rw[if_pos hj,if_pos (by omega)]
  ·rw[if_neg hj]
   by_cases hj2:j=k
   ·rw[if_pos (by omega),hj2,I]
   ·rw[if_neg (by omega)])
theorem addQ.put {F Y:Nat->Rat} {x:Rat} {k:Nat} {w:World} {g N:Nat} (h:QRow (addQ F Y x k) w g N N) (J:k<N) {s:Bool} {p:Option Addr} {n c:Nat} {t:Bool} {q:Option Addr} {m d:Nat} (hq:Qs w s p n c t q m d (F k+x*Y k)):
  QRow (addQ F Y x (k+1)) ((((w.setCell ⟨g,k*4,none⟩ (.bool s)).setCell ⟨g,k*4+1,none⟩ (.slice p n c)).setCell ⟨g,k*4+2,none⟩ (.bool t)).setCell ⟨g,k*4+3,none⟩ (.slice q m d)) g N N:=
 QRow.set (λ_=>IsQ.solid _) h k J _ (IsQ.solid _) (λi I O=>⟨I,by
  unfold addQ;by_cases hj:i<k
  ·rw[if_pos hj,if_pos (by omega)]
  ·rw[if_neg hj,if_neg (by omega)]⟩) (show IsQ (if k<k+1 then F k+x*Y k else F k) w s p n c t q m d by rw[if_pos (nU k)];exact hq)
theorem addQ.elem {F Y:Nat->Rat} {x:Rat} {k:Nat} {w:World} {g N:Nat} (h:QRow (addQ F Y x k) w g N N) (J:k<N):QE (IsQ (F k)) w g (k*4):=by
 have I:=QRow.val h k J;unfold addQ at I;rw[if_neg (Nat.lt_irrefl k)]at I;exact I
theorem Ej {w0 J I:World} {g k:Nat} {v0 v1 v2 v3:Value} (h:w0.grownBy J (some g)) (O:Below J.heap.size J I):w0.grownBy ((((I.setCell ⟨g,k*4,none⟩ v0).setCell ⟨g,k*4+1,none⟩ v1).setCell ⟨g,k*4+2,none⟩ v2).setCell ⟨g,k*4+3,none⟩ v3) (some g):=
 (h.trans (Af g O)).trans (Hm I g _ _ _ _ v0 v1 v2 v3)
theorem bS (g N cx:Nat) (v2:Value) (F Y:Nat->Rat) (s:Bool) (p:Option Addr) (n c:Nat) (t:Bool) (q:Option Addr) (m d:Nat) (x:Rat) (w:World) (h1:QRow (λj=>IsQ (F j)) w g N N)
  (hy:N=0∨∃gy oy cy,v2=.slice (some ⟨gy,oy,none⟩) N cy/\gy≠g/\gy<w.heap.size/\∀j,j<N->QE (IsQ (Y j)) w gy (oy+j*4))
  (hx:Qs w s p n c t q m d x) (hK:hq x<=100000000) (hF:∀j,j<N->hq (F j)<=100000000/\hq (Y j)<=100000000) (hN:N<=1000000):
  Calls prog 50 #[.slice (some ⟨g,0,none⟩) N cx,.agg #[.bool s,.slice p n c,.bool t,.slice q m d],v2] w λe w'=>(∃v,e=.returned v)/\QRow (λj=>IsQ (F j+x*Y j)) w' g N N/\w.grownBy w' (some g)/\I32 w w':=by
 have HY:=Kh hy;have HX:=Kh hx;have HF:=Kh hF;have H1:=Kh h1;have HK:=Kh hK;have nC:=Kh h1.sts.1;clear h1 hy hx hF hK;go_enter func50,ntmps50
 go_wp2_with fail
 obtain⟨w0,hO,X0,cA⟩:=bx1 w #[.bool s,.slice p n c,.bool t,.slice q m d] 86;rw[hO];have cG:=Kh cA;have aX:=Kh X0;have gF:=Kh (show QRow (addQ F Y x 0) w0 g N N from QRow.congr (QRow.keep (λ_=>IsQ.solid _) H1.1 cA) (λj _=>by unfold addQ;rw[if_neg (Nat.not_lt_zero j)]));have nZ:=Kh (HX.1.keep cA);obtain⟨gc,cX⟩:∃gc,w.heap.size=gc:=⟨_,rfl⟩
 have bA:=Kh (show gc≠g by have:=nC.1;omega);rw[cX]at aX ⊢;have oS:=Kh cX;clear X0 cA hO H1 HX cX;go_wp2;go_loopw [9] (λi wr=>∃k:Nat,k<=N/\i=.int .i64 k/\QRow (addQ F Y x k) wr g N N/\w0.grownBy wr (some g)/\I32 w0 wr) (λi _=>N - (intOf i).toNat)
 case atStart=>exact⟨0,Nat.zero_le _,rfl,gF.1,Af g (Below.refl _ _),I32.refl _⟩
 case round=>
  obtain⟨k,hk,rfl,cC,hL,hH⟩:=hrel;have bC:=Kh cC;have U:=Kh hL;have Z:=Kh hH;clear cC hL hH gF;by_cases hlt:k<N
  ·obtain⟨gy,oy,cy,rfl,dC,pH,hR⟩:=HY.1.resolve_left (by omega)
   have nW:=Kh dC;obtain⟨s',p',i1,c',t',q',m',d',a0,a1,a2,a3,hx⟩:=(((hR k hlt).keep (IsQ.solid _) cG.1).butR Z.1 U.1 dC)
   have HP:=Kh (show Qs wr s' p' i1 c' t' q' m' d' (Y k)from hx);have gA:=Kh (nZ.1.i32 Z.1);have x0:=U.1.cell (aX.1.at_ 0 rfl) (λe=>by injection e with e;exact bA.1 e);have x1:=U.1.cell (aX.1.at_ 1 rfl) (λe=>by injection e with e;exact bA.1 e);have x2:=U.1.cell (aX.1.at_ 2 rfl) (λe=>by injection e with e;exact bA.1 e);have x3:=U.1.cell (aX.1.at_ 3 rfl) (λe=>by injection e with e;exact bA.1 e);have pJ:(k:Int)<(N:Int):=by omega
   have gP:=Kh (show Cells4 wr gc 0 s p n c t q m d from⟨x0,x1,x2,x3⟩);have dY:=Kh (show Cells4 wr gy (oy+k*4) s' p' i1 c' t' q' m' d' from⟨a0,a1,a2,a3⟩);clear hR dC hx x0 x1 x2 x3;go_wp2_with fail
   refine(Hr s' p' i1 c' t' q' m' d' (Y k) wr HP.1 (by have:=(HF.1 k hlt).2;omega)).mono ?_;rintro e we ⟨⟨sg,rfl,hM⟩,O⟩;have gN:=Kh hM;have pB:=Kh O;have I:=Kh (QRow.keep (λj=>(IsQ.solid _:Bu (addQ F Y x k j))) bC.1 O);have bB:=Kh (U.1.trans (Af g O));have h:=Kh (Z.1.trans (I32.below O));have nY:=Kh (HP.1.keep O);have oA:=Kh (gA.1.keep O);have oC:=Kh (gP.1.keep O);have mE:=Kh (dY.1.keep O);clear hM O a0 a1 a2 a3 bC U Z HP gA gP dY;by_cases hz:Y k=0
   ·have h0:sg=0:=gN.1.2 hz
    subst h0;have oK:=Kh (show F k+x*Y k=F k by rw[hz];grind);go_wp2;go_roundw
    case rel=>exact⟨k+1,by omega,by go_num,addQ.done I.1 oK.1,bB.1,h.1⟩
    case measure=>simp[intOf];omega
   ·have h0:(sg != 0)=true:=by
     have:sg≠0:=λe=>hz (gN.1.1 e)
     simpa using this
    obtain⟨x0,x1,x2,x3⟩:=oC.1;obtain⟨a0,a1,a2,a3⟩:=mE.1;obtain⟨s5,p5,n5,c5,t5,q5,m5,d5,e0,e1,e2,e3,hy⟩:=addQ.elem I.1 hlt;have nA:=Kh (show Qs we s5 p5 n5 c5 t5 q5 m5 d5 (F k)from hy)
    have oB:=Kh (show hq (x*Y k)<=200000000 by
     have h1:=B7 x (Y k);have h2:=HK.1;have h3:=(HF.1 k hlt).2;omega)
    have nD:=Kh (λw1 (J:Below we.heap.size we w1)=>Cx s p n c t q m d x s' p' i1 c' t' q' m' d' (Y k) w1 (oA.1.keep J) (nY.1.keep J) (by have:=HK.1;omega) (by have:=(HF.1 k hlt).2;omega));have V:=I.1;have pK:=nW.1;have pL:=bA.1;have pM:g<we.heap.size:=V.sts.1;clear hy;go_upto_region 5 with(fail)
    refine J2 (λW=>W.cell? ⟨gc,0,none⟩=some (.bool s)/\W.cell? ⟨gc,1,none⟩=some (.slice p n c)/\W.cell? ⟨gc,2,none⟩=some (.bool t)/\W.cell? ⟨gc,3,none⟩=some (.slice q m d)/\W.cell? ⟨gy,oy+k*4,none⟩=some (.bool s')/\W.cell? ⟨gy,oy+k*4+1,none⟩=some (.slice p' i1 c')/\W.cell? ⟨gy,oy+k*4+2,none⟩=some (.bool t')/\W.cell? ⟨gy,oy+k*4+3,none⟩=some (.slice q' m' d')/\W.cell? ⟨g,k*4,none⟩=some (.bool s5)/\W.frozen? ⟨g,k*4,none⟩=false/\W.cell? ⟨g,k*4+1,none⟩=some (.slice p5 n5 c5)/\W.frozen? ⟨g,k*4+1,none⟩=false/\W.cell? ⟨g,k*4+2,none⟩=some (.bool t5)/\W.frozen? ⟨g,k*4+2,none⟩=false/\W.cell? ⟨g,k*4+3,none⟩=some (.slice q5 m5 d5)/\W.frozen? ⟨g,k*4+3,none⟩=false) (λW J=>⟨Aq J x0,Aq J x1,Aq J x2,Aq J x3,Aq J a0,Aq J a1,Aq J a2,Aq J a3,Aq J e0,Ab J (by rw[e0];rfl) (V.free _ (by omega)),Aq J e1,Ab J (by rw[e1];rfl) (V.free _ (by omega)),Aq J e2,Ab J (by rw[e2];rfl) (V.free _ (by omega)),Aq J e3,Ab J (by rw[e3];rfl) (V.free _ (by omega))⟩) (λgL hHeld0=>?_);clear x0 x1 x2 x3 a0 a1 a2 a3 e0 e1 e2 e3 V;refine Aj 0 ?_;refine Aj 1 ?_;refine Aj 2 ?_;refine Aj 3 ?_;refine Aj 4 ?_;refine Aj 5 ?_;refine Aj 6 ?_;refine Aj 7 ?_;refine Aj 8 ?_;refine Aj 9 ?_;refine Aj 10 ?_;refine G6 11 rfl (λK hK=>?_);focus(go_simp;refine(nD.1 _ (Below.refl _ we).drew).mono ?_;rintro e w2 ⟨⟨s3,p3,n3,c3,t3,q3,m3,d3,rfl,hS⟩,hI⟩;have cT:=Kh ((Below.refl _ we).drew.trans hI:Below we.heap.size we w2);have oD:=Kh hS;clear hS hI;(first|with_reducible refine hK.out _ _ ?_ (λhHeld1=>?_) |(go_wp2_with fail;with_reducible refine hK.out _ _ ?_ (λhHeld1=>?_))))
    focus((try dsimp only);exact gL.1 _ cT.1)
    focus(clear hK K;(try simp only[Act.put,Bo,Bt,Bp]))
    refine G6 12 rfl (λK hK=>?_);focus(go_simp;refine(Gh s5 p5 n5 c5 t5 q5 m5 d5 (F k) s3 p3 n3 c3 t3 q3 m3 d3 (x*Y k) _ (nA.1.keep cT.1) oD.1 (by have:=(HF.1 k hlt).1;omega) (by have:=oB.1;omega)).mono ?_;rintro e w4 ⟨⟨s6,p6,n6,c6,t6,q6,m6,d6,rfl,hT⟩,hJ⟩;have bY:=bt cT hJ;have dE:=QRow.keep (λj=>(IsQ.solid _:Bu (addQ F Y x k j))) I.1 bY.1;have eP:=Kh (addQ.put dE hlt hT);have nB:=Kh (show ∀v0 v1 v2 v3,w0.grownBy ((((w4.setCell ⟨g,k*4,none⟩ v0).setCell ⟨g,k*4+1,none⟩ v1).setCell ⟨g,k*4+2,none⟩ v2).setCell ⟨g,k*4+3,none⟩ v3) (some g)from λ_ _ _ _=>Ej bB.1 bY.1);have H4:=Kh (show I32 w0 ((((w4.setCell ⟨g,k*4,none⟩ (.bool s6)).setCell ⟨g,k*4+1,none⟩ (.slice p6 n6 c6)).setCell ⟨g,k*4+2,none⟩ (.bool t6)).setCell ⟨g,k*4+3,none⟩ (.slice q6 m6 d6))from(h.1.trans (I32.below bY.1)).trans (I32.put4 dE.sts _ _ _ _ _ _ _ _ (NotInt.bool _) (NotInt.slice _ _ _) (NotInt.bool _)));clear hT hJ dE;(first|with_reducible refine hK.out _ _ ?_ (λhHeld2=>?_) |(go_wp2_with fail;with_reducible refine hK.out _ _ ?_ (λhHeld2=>?_))))
    focus((try dsimp only);exact gL.1 _ bY.1)
    focus(clear hK K;(try simp only[Act.put,Bo,Bt,Bp]))
    refine Aj 13 ?_;refine Js 14 rfl (λK hK=>?_);go_simp
    refine hK.out _ _ ?_;clear hK K
    (try simp only[Act.put,Bo,Bt,Bp])
    all_goals clear I bB h
    all_goals go_wp2
    all_goals go_roundw
    all_goals first
     | exact⟨k+1,by omega,by go_num,eP.1,nB.1 _ _ _ _,H4.1⟩
     |(simp[intOf];omega)
  ·obtain rfl:k=N:=by omega
   go_wp2;go_end0;exact⟨⟨_,rfl⟩,QRow.congr bC.1 (λj hj=>by unfold addQ;rw[if_pos hj]),(Af g cG.1).trans U.1,(I32.below cG.1).trans Z.1⟩
def SliceV (v:Value):Prop:=∃p n c,v=.slice p n c
theorem SliceV.notU32 {v:Value} (h:SliceV v):NotU32 v:=by
 obtain⟨p,n,c,rfl⟩:=h;exact λ_ h=>by cases h
theorem Stk.imp {K I:Value->Prop} {w:World} {G:Nat} (h:Stk K w G) (J:∀v,K v->I v):Stk I w G:=⟨h.1,λi v O=>J v (h.2 i v O)⟩
theorem OwnT.base {l:List (Nat×Rat)} {w:World} {B B':Nat} {v:Value} (h:OwnT l w B v) (hB:B'<=B):OwnT l w B' v:=by
 obtain⟨Z,⟨⟨O,I⟩,Y⟩,V⟩:=h;refine⟨Z,⟨⟨O,?_⟩,Y⟩,V⟩;rcases I with I |⟨g,cap,J,U,hg,rest⟩
 ·exact .inl I
 ·exact .inr ⟨g,cap,J,U,nS hB hg,rest⟩
structure LeadTab (L:Nat->List (Nat×Rat)) (w:World) (G C B:Nat):Prop where
 stk:Stk SliceV w G
 free:∀i,i<C->w.frozen? ⟨G,i,none⟩=false
 val:∀j,j<C->∃v,w.cell? ⟨G,j,none⟩=some v/\TL (L j) w B v/\(L j=[]->v=.slice none 0 0)
theorem LeadTab.next {L:Nat->List (Nat×Rat)} {w w':World} {G C B B':Nat} (h:LeadTab L w G C B) (J:I32 w w') (I:Below B' w w') (O:G<B') (hB:B<=B'):LeadTab L w' G C B:=
 ⟨⟨nT h.stk.1 I.size,λi v Z=>h.stk.2 i v ((I.cell (p:=⟨G,i,none⟩) O).symm.trans Z)⟩,
  λi U=>(World.frozen?_of_block (a:=⟨G,i,none⟩) (I.block G O)).trans (h.free i U),
  λj V=>by
   obtain⟨v,e,Y,hn⟩:=h.val j V;exact⟨v,(I.cell (p:=⟨G,j,none⟩) O).trans e,Y.next J (I.mono hB),hn⟩⟩
theorem LeadTab.keep {L:Nat->List (Nat×Rat)} {w w':World} {G C B:Nat} (h:LeadTab L w G C B) (hB:B<=w.heap.size) (I:Below w.heap.size w w'):LeadTab L w' G C B:=h.next (I32.below I) I h.stk.1 hB
theorem LeadTab.up {L:Nat->List (Nat×Rat)} {w:World} {G C B B':Nat} (h:LeadTab L w G C B) (hB:B<=B'):LeadTab L w G C B':=
 ⟨h.stk,h.free,λj I=>by obtain⟨v,e,J,hn⟩:=h.val j I;exact⟨v,e,J.up hB,hn⟩⟩
theorem TL.store {l:List (Nat×Rat)} {w:World} {B G x:Nat} {v u:Value} (h:TL l w B v) (V:Stk SliceV w G):TL l (w.setCell ⟨G,x,none⟩ u) B v:=by
 rcases h with h |⟨g,o,cap,e,hc,J,hg,ht⟩
 ·exact .inl h
 ·refine .inr ⟨g,o,cap,e,hc,J,hg,λj y hy=>?_⟩
  obtain⟨U,s,p,n,c,t,q,m,d,Y,Z,e3,e4,e5⟩:=ht j y hy
  have O:G≠g:=λe=>by
   obtain⟨p,n,c,h1⟩:=V.2 (o+j*5) _ (by rw[e];exact U);cases h1
  have I:∀i v,w.cell? ⟨g,i,none⟩=some v->(w.setCell ⟨G,x,none⟩ u).cell? ⟨g,i,none⟩=some v:=λi v e=>by
   rw[World.cell?_setCell_far w ⟨G,x,none⟩ ⟨g,i,none⟩ u O];exact e
  exact⟨I _ _ U,s,p,n,c,t,q,m,d,I _ _ Y,I _ _ Z,I _ _ e3,I _ _ e4,e5.i32 (I32.putU (V.imp λ_=>SliceV.notU32) x u)⟩
theorem LeadTab.put {L:Nat->List (Nat×Rat)} {w:World} {G C B x:Nat} {l:List (Nat×Rat)} {p:Option Addr} {n c:Nat} (h:LeadTab L w G C B) (Z:x<C) (V:l≠[]) (Y:TL l w B (.slice p n c)):
  LeadTab (λj=>if j=x then l else L j) (w.setCell ⟨G,x,none⟩ (.slice p n c)) G C B:=by
 refine⟨Bd h.stk _ _ ⟨p,n,c,rfl⟩,λi O=>Ao (h.free i O),λj U=>?_⟩;obtain⟨v,e,J,hn⟩:=h.val j U;by_cases hjx:j=x
 ·subst hjx
  refine⟨.slice p n c,World.cell?_setCell_same' _ _ _ (by rw[e];rfl),?_,λI=>?_⟩
  ·rw[if_pos rfl];exact Y.store h.stk
  ·rw[if_pos rfl]at I;exact absurd I V
 ·refine⟨v,?_,?_,λI=>?_⟩
  ·rw[World.cell?_setCell_other _ _ _ _ (by simp <;> omega)];exact e
  ·rw[if_neg hjx];exact J.store h.stk
  ·rw[if_neg hjx]at I;exact hn I
def lL (C:Nat) (w:World) (v:Value):Nat:=
 match v with
 |.slice (some a) (_+1) _=>C+1 - (intOf (cellOf w a)).toNat
 | _=>0
theorem P6 {C:Nat} {w:World} {B:Nat} {x:Nat×Rat} {r:List (Nat×Rat)} {v:Value} (h:OwnT (x :: r) w B v):lL C w v=C+1 - x.1:=by
 rcases h.row with⟨e,_⟩ |⟨g,cap,rfl,_,_,_,_,J⟩
 ·cases e
 ·have I:=(J.val 0 x rfl).1
  rw[Nat.zero_mul]at I;rw[List.length_cons];show C+1 - (intOf (cellOf w ⟨g,0,none⟩)).toNat=_;rw[Ag I];simp[intOf]
theorem dH {C:Nat} {w:World} {B:Nat} {v:Value} (h:OwnT [] w B v):lL C w v=0:=by
 rcases h.row with⟨_,rfl⟩ |⟨g,cap,rfl,_⟩ <;> rfl
def Ex (c:Rat) (k:Nat) (r:List (Nat×Rat)):List (Nat×Rat):=r.mapIdx λj y=>(y.1,if j<k then c*y.2 else y.2)
theorem Ih (c:Rat) (k:Nat) (r:List (Nat×Rat)):(Ex c k r).length=r.length:=by unfold Ex;rw[List.length_mapIdx]
theorem Ey (c:Rat) (k:Nat) (r:List (Nat×Rat)) (j:Nat):(Ex c k r)[j]?=(r[j]?).map λy=>(y.1,if j<k then c*y.2 else y.2):=by unfold Ex;rw[List.getElem?_mapIdx]
theorem Se (c:Rat) (r:List (Nat×Rat)):Ex c 0 r=r:=by
 refine List.ext_getElem? λj=>?_
 rw[Ey];cases r[j]? <;> simp
theorem Vu (c:Rat) (r:List (Nat×Rat)):Ex c r.length r=r.map λy=>(y.1,c*y.2):=by
 refine List.ext_getElem? λj=>?_
 rw[Ey,List.getElem?_map];by_cases h:j<r.length
 ·rw[List.getElem?_eq_getElem h];simp[h]
 ·rw[List.getElem?_eq_none (by omega)];rfl
theorem TRow.keep {l:List (Nat×Rat)} {w w':World} {g:Nat} (h:TRow l w g) (I:Below w.heap.size w w'):TRow l w' g:=
 ⟨h.stk.next I,λi J=>Ab I (h.has i J) (h.free i J),λi J=>by rw[I.cell (p:=⟨g,i,none⟩) h.stk.1];exact h.has i J,λj x O=>(h.val j x O).keep I⟩
theorem TRow.tl {l:List (Nat×Rat)} {w:World} {g cap:Nat} (h:TRow l w g) (I:l.length<=cap) (J:cap<=9223372036854775807):TL l w w.heap.size (.slice (some ⟨g,0,none⟩) l.length cap):=
 .inr ⟨g,0,cap,rfl,I,J,h.stk.1,λj x O=>by rw[Nat.zero_add];exact h.val j x O⟩
theorem I32.putT {w:World} {g k:Nat} (I:Stk NotU32 w g) (s t:Bool) (p q:Option Addr) (n c m d:Nat):
  Stk NotU32 ((((w.setCell ⟨g,k*5+1,none⟩ (.bool s)).setCell ⟨g,k*5+2,none⟩ (.slice p n c)).setCell ⟨g,k*5+3,none⟩ (.bool t)).setCell ⟨g,k*5+4,none⟩ (.slice q m d)) g /\
  I32 w ((((w.setCell ⟨g,k*5+1,none⟩ (.bool s)).setCell ⟨g,k*5+2,none⟩ (.slice p n c)).setCell ⟨g,k*5+3,none⟩ (.bool t)).setCell ⟨g,k*5+4,none⟩ (.slice q m d)):=by
 have J:∀b,NotU32 (.bool b):=λ_ _ h=>by cases h
 have O:∀p n c,NotU32 (.slice p n c):=λ_ _ _ _ h=>by cases h
 have U:=Bd I ⟨g,k*5+1,none⟩ (.bool s) (J s);have V:=Bd U ⟨g,k*5+2,none⟩ (.slice p n c) (O _ _ _);have Y:=Bd V ⟨g,k*5+3,none⟩ (.bool t) (J t);have Z:=Bd Y ⟨g,k*5+4,none⟩ (.slice q m d) (O _ _ _);exact⟨Z,(((I32.putU I _ _).trans (I32.putU U _ _)).trans (I32.putU V _ _)).trans (I32.putU Y _ _)⟩
theorem TRow.scl {O:Rat} {k:Nat} {r:List (Nat×Rat)} {w:World} {g:Nat} {x:Nat×Rat} (h:TRow (Ex O k r) w g) (hx:r[k]?=some x) {s t:Bool} {p q:Option Addr} {n c m d:Nat} (hq:Qs w s p n c t q m d (O*x.2)):
  TRow (Ex O (k+1) r) ((((w.setCell ⟨g,k*5+1,none⟩ (.bool s)).setCell ⟨g,k*5+2,none⟩ (.slice p n c)).setCell ⟨g,k*5+3,none⟩ (.bool t)).setCell ⟨g,k*5+4,none⟩ (.slice q m d)) g:=by
 obtain⟨s4,V⟩:=I32.putT (k:=k) h.stk s t p q n c m d
 have cD:k<r.length:=by
  rcases Nat.lt_or_ge k r.length with h|h
  ·exact h
  ·rw[List.getElem?_eq_none h]at hx;cases hx
 have hn:∀k',(Ex O k' r).length=r.length:=λk'=>Ih O k' r
 refine⟨s4,λi Y=>Ao (Ao (Ao (Ao (h.free i (by rw[hn]at Y ⊢;exact Y))))),λi Y=>Ai (Ai (Ai (Ai (h.has i (by rw[hn]at Y ⊢;exact Y))))),λj y U=>?_⟩;rw[Ey]at U;have I:=h.val j;rw[Ey]at I;by_cases hjk:j=k
 ·subst hjk
  rw[hx]at U I;simp only[Option.map_some,nU,if_true]at U;injection U with U
  subst U;have h0:=(I _ rfl).1;have c0:=h.has (j*5+1) (by rw[hn];omega);have c1:=Ai (R:=g) (i:=j*5+1) (u:=.bool s) (h.has (j*5+2) (by rw[hn];omega));have c2:=Ai (R:=g) (i:=j*5+2) (u:=.slice p n c) (Ai (R:=g) (i:=j*5+1) (u:=.bool s) (h.has (j*5+3) (by rw[hn];omega)));have c3:=Ai (R:=g) (i:=j*5+3) (u:=.bool t) (Ai (R:=g) (i:=j*5+2) (u:=.slice p n c) (Ai (R:=g) (i:=j*5+1) (u:=.bool s) (h.has (j*5+4) (by rw[hn];omega))));refine⟨?_,s,p,n,c,t,q,m,d,?_,?_,?_,?_,hq.i32 V⟩
  ·rw[World.cell?_setCell_other _ _ _ _ (by simp),World.cell?_setCell_other _ _ _ _ (by simp),World.cell?_setCell_other _ _ _ _ (by simp),World.cell?_setCell_other _ _ _ _ (by simp)];exact h0
  ·rw[World.cell?_setCell_other _ _ _ _ (by simp),World.cell?_setCell_other _ _ _ _ (by simp),World.cell?_setCell_other _ _ _ _ (by simp),World.cell?_setCell_same' _ _ _ c0]
  ·rw[World.cell?_setCell_other _ _ _ _ (by simp),World.cell?_setCell_other _ _ _ _ (by simp),World.cell?_setCell_same' _ _ _ c1]
  ·rw[World.cell?_setCell_other _ _ _ _ (by simp),World.cell?_setCell_same' _ _ _ c2]
  ·rw[World.cell?_setCell_same' _ _ _ c3]
 ·have e:(r[j]?.map λy=>(y.1,if j<k+1 then O*y.2 else y.2))=r[j]?.map λy=>(y.1,if j<k then O*y.2 else y.2):=by
   have e1:(j<k+1)=(j<k):=propext ⟨λ_=>by omega,λ_=>by omega⟩;simp only[e1]
  have J:∀(i:Nat) (v:Value),j*5<=i->i<j*5+5->w.cell? ⟨g,i,none⟩=some v->((((w.setCell ⟨g,k*5+1,none⟩ (.bool s)).setCell ⟨g,k*5+2,none⟩ (.slice p n c)).setCell ⟨g,k*5+3,none⟩ (.bool t)).setCell ⟨g,k*5+4,none⟩ (.slice q m d)).cell? ⟨g,i,none⟩=some v:=by
   intro i v h1 h2 hv;rw[World.cell?_setCell_other _ _ _ _ (by simp <;> omega),World.cell?_setCell_other _ _ _ _ (by simp <;> omega),World.cell?_setCell_other _ _ _ _ (by simp <;> omega),World.cell?_setCell_other _ _ _ _ (by simp <;> omega)];exact hv
  obtain⟨e0,s',p',n',Z,t',q',m',d',e1,e2,e3,e4,e5⟩:=I y (by rw[<-e];exact U);exact⟨J _ _ (by omega) (by omega) e0,s',p',n',Z,t',q',m',d',J _ _ (by omega) (by omega) e1,J _ _ (by omega) (by omega) e2,J _ _ (by omega) (by omega) e3,J _ _ (by omega) (by omega) e4,e5.i32 V⟩
theorem TRow.elem {I:Rat} {k:Nat} {r:List (Nat×Rat)} {w:World} {g:Nat} {x:Nat×Rat} (h:TRow (Ex I k r) w g) (J:r[k]?=some x):TE x w g (k*5):=by
 refine h.val k x ?_;rw[Ey,J];simp
theorem Vv {w0 J I:World} {g k:Nat} {v0 v1 v2 v3:Value} (h:w0.grownBy J (some g)) (O:Below J.heap.size J I):w0.grownBy ((((I.setCell ⟨g,k*5+1,none⟩ v0).setCell ⟨g,k*5+2,none⟩ v1).setCell ⟨g,k*5+3,none⟩ v2).setCell ⟨g,k*5+4,none⟩ v3) (some g):=
 (h.trans (Af g O)).trans (Hm I g _ _ _ _ v0 v1 v2 v3)
theorem dX:(prog.info? 107).map (λi=>(i.zero,i.size,i.bytes))=some (some (.slice none 0 0),1,24):=by kernel_rfl
theorem Yz {n i:Nat} {v:Value} (h:(madeCells #[.slice none 0 0] n)[i]?=some v):v=.slice none 0 0:=by
 unfold madeCells at h;simp only[Array.getElem?_map,Array.getElem?_range]at h;split at h
 ·simp only[Option.map_some]at h
  injection h with h
  rw[<-h];have I:i % 1=0:=Nat.mod_one i;show(#[.slice none 0 0]:Array Value)[i % 1]! = _;rw[I];rfl
 ·cases h
theorem kU (n:Nat) (h:n<=1000000) (w:World):
  (Instr.makeSlice 102 (.int .i64 (n:Int)) (.int .i64 (n:Int))).run prog w=.ok (.slice (some ⟨w.heap.size,0,none⟩) n n) (w.alloc (.cells (madeCells #[.slice none 0 0] n) 107)):=by
 obtain⟨i,U,I,J,O⟩:=info_parts dX;have hr:=run_make (P:=prog) w 102 107 i _ underlying102 U I .i64 .i64 n n (by omega) (Int.le_refl _) (by rw[O];omega) (by omega);rw[Int.toNat_natCast,J,Nat.mul_one]at hr;exact hr
theorem LeadTab.made (w:World) (C:Nat):LeadTab (λ_=>[]) (w.alloc (.cells (madeCells #[.slice none 0 0] C) 107)) w.heap.size C (w.heap.size+1):=by
 have J:=Blk.new w 107 (madeCells #[.slice none 0 0] C)
 have O:∀i,i<C->(w.alloc (.cells (madeCells #[.slice none 0 0] C) 107)).cell? ⟨w.heap.size,i,none⟩=some (.slice none 0 0):=λi I=>by
  rw[J.cell_ i,Array.getElem?_eq_getElem (by rw[size_madeCells];exact I)];congr 1;exact Yz (Array.getElem?_eq_getElem (by rw[size_madeCells];exact I))
 refine⟨Stk.of J ?_,λi _=>J.free_ i,λj U=>⟨_,O j U,.inl ⟨rfl,_,_,rfl⟩,λ_=>rfl⟩⟩;intro v V;obtain⟨i,I⟩:=Array.getElem?_of_mem (Array.mem_toList_iff.1 V);rw[Yz I];exact⟨_,_,_,rfl⟩
/-! Lists of numbers -/
def OwnN (l:List Nat) (w:World) (B:Nat) (v:Value):Prop:=OwnK NotU32 w B 3 1 v l.length (l.map λn:Nat=>Value.int .i64 (n:Int))
theorem OwnN.nil (w:World) (B:Nat):OwnN [] w B (.slice none 0 0):=OwnK.nil _ _ _ _ _
theorem OwnN.keep {l:List Nat} {w w':World} {B:Nat} {v:Value} (h:OwnN l w B v) (I:Below w.heap.size w w'):OwnN l w' B v:=OwnK.keep h I
theorem OwnN.push {l:List Nat} {w':World} {B:Nat} {I:Value} {a:Nat} (h:OwnK NotU32 w' B 3 1 I (l.length+1) ((l.map λn:Nat=>Value.int .i64 (n:Int))++[.int .i64 (a:Int)])):OwnN (l++[a]) w' B I:=by
 unfold OwnN;rw[List.map_append,List.length_append];exact h
theorem Fc:(prog.info? 3).map (λi=>(i.zero,i.size,i.bytes))=some (some (.int .i64 0),1,8):=by kernel_rfl
def NL (l:List Nat) (w:World) (B:Nat) (v:Value):Prop:=(l=[]/\∃a c,v=.slice a 0 c)∨∃g cap,v=.slice (some ⟨g,0,none⟩) l.length cap/\l.length<=cap/\cap<=9223372036854775807/\g<B/\∀(j x:Nat),l[j]?=some x->w.cell? ⟨g,j,none⟩=some (.int .i64 (x:Int))
theorem NL.next {l:List Nat} {w w':World} {B:Nat} {v:Value} (h:NL l w B v) (J:Below B w w'):NL l w' B v:=by
 rcases h with h |⟨g,cap,e,O,I,hg,V⟩
 ·exact .inl h
 ·exact .inr ⟨g,cap,e,O,I,hg,λj x U=>(J.cell (p:=⟨g,j,none⟩) hg).trans (V j x U)⟩
theorem NL.up {l:List Nat} {w:World} {B B':Nat} {v:Value} (h:NL l w B v) (hB:B<=B'):NL l w B' v:=by
 rcases h with h |⟨g,cap,e,J,I,hg,O⟩
 ·exact .inl h
 ·exact .inr ⟨g,cap,e,J,I,nT hg hB,O⟩
theorem OwnN.nl {l:List Nat} {w:World} {B:Nat} {v:Value} (h:OwnN l w B v):NL l w w.heap.size v:=by
 rcases h.1.2 with⟨I,O⟩ |⟨g,cap,cs,I,hB,hg,hn,J,V,_⟩
 ·exact .inl ⟨List.eq_nil_of_length_eq_zero O,_,_,I⟩
 ·have Y:=h.2 g (by rw[I];rfl)
  have U:=h.1;subst I;exact .inr ⟨g,cap,rfl,hn,by simp only[maxLen]at J;omega,Y.1,λj x Z=>An U (by rw[List.getElem?_map,Z];rfl)⟩
theorem Ba {w:World} {B E O n:Nat} {v:Value} {U:List Value} (h:w.ownsRow B E O v n U):∃p c,v=.slice p n c:=by
 rcases h.2 with⟨I,J⟩ |⟨Y,cap,V,I,hB,_⟩
 ·exact⟨none,0,by rw[I,J]⟩
 ·exact⟨_,_,I⟩
theorem Cn {w:World} {B E J n g:Nat} {v:Value} {O:List Value} (h:w.ownsRow B E J v n O) (e:some g=v.ownBlock):B<=g:=by
 rcases h.2 with⟨I,_⟩ |⟨V,cap,U,I,hB,_⟩
 ·rw[I]at e;simp[Value.ownBlock]at e
 ·rw[I]at e;simp[Value.ownBlock]at e;omega
/-! The rows of coordinates -/
structure RowTab (X:Nat->Nat->Rat) (N:Nat) (w:World) (GR C lo B:Nat):Prop where
 stk:Stk SliceV w GR
 free:∀i,i<C->w.frozen? ⟨GR,i,none⟩=false
 has:∀i,i<C->(w.cell? ⟨GR,i,none⟩).isSome=true
 val:∀j,lo<=j->j<C->∃g,w.cell? ⟨GR,j,none⟩=some (.slice (some ⟨g,0,none⟩) N N)/\g<B/\g≠GR/\∀i,i<N->QE (IsQ (X j i)) w g (i*4)
theorem QE.next {r:Rat} {w w':World} {B g i:Nat} (h:QE (IsQ r) w g i) (hg:g<B) (J:I32 w w') (hb:Below B w w'):QE (IsQ r) w' g i:=by
 have I:∀j v,w.cell? ⟨g,j,none⟩=some v->w'.cell? ⟨g,j,none⟩=some v:=λj v e=>(hb.cell (p:=⟨g,j,none⟩) hg).trans e
 obtain⟨s,p,n,c,t,q,m,d,O,U,V,Y,Z⟩:=h;exact⟨s,p,n,c,t,q,m,d,I _ _ O,I _ _ U,I _ _ V,I _ _ Y,Z.i32 J⟩
theorem RowTab.next {X:Nat->Nat->Rat} {N:Nat} {w w':World} {GR C lo B B':Nat} (h:RowTab X N w GR C lo B) (U:I32 w w') (I:Below B' w w') (O:GR<B') (hB:B<=B'):RowTab X N w' GR C lo B:=
 ⟨⟨nT h.stk.1 I.size,λi v hv=>h.stk.2 i v ((I.cell (p:=⟨GR,i,none⟩) O).symm.trans hv)⟩,
  λi J=>(World.frozen?_of_block (a:=⟨GR,i,none⟩) (I.block GR O)).trans (h.free i J),
  λi J=>by rw[I.cell (p:=⟨GR,i,none⟩) O];exact h.has i J,
  λj Y Z=>by
   obtain⟨g,e,hg,V,hq⟩:=h.val j Y Z;exact⟨g,(I.cell (p:=⟨GR,j,none⟩) O).trans e,hg,V,λi J=>(hq i J).next (nT hg hB) U I⟩⟩
theorem RowTab.up {X:Nat->Nat->Rat} {N:Nat} {w:World} {GR C lo B B':Nat} (h:RowTab X N w GR C lo B) (hB:B<=B'):RowTab X N w GR C lo B':=
 ⟨h.stk,h.free,h.has,λj J O=>by obtain⟨g,e,hg,I,hq⟩:=h.val j J O;exact⟨g,e,nT hg hB,I,hq⟩⟩
theorem RowTab.keep {X:Nat->Nat->Rat} {N:Nat} {w w':World} {GR C lo B:Nat} (h:RowTab X N w GR C lo B) (hB:B<=w.heap.size) (I:Below w.heap.size w w'):RowTab X N w' GR C lo B:=h.next (I32.below I) I h.stk.1 hB
theorem RowTab.put {X X':Nat->Nat->Rat} {N:Nat} {w:World} {GR C j B g:Nat} (h:RowTab X N w GR C (j+1) B) (hj:j<C) (hg:g<B) (V:g≠GR) (hq:∀i,i<N->QE (IsQ (X' j i)) w g (i*4)) (hX:∀I,j+1<=I->I<C->∀i,i<N->X' I i=X I i):
  RowTab X' N (w.setCell ⟨GR,j,none⟩ (.slice (some ⟨g,0,none⟩) N N)) GR C j B:=by
 have U:I32 w (w.setCell ⟨GR,j,none⟩ (.slice (some ⟨g,0,none⟩) N N)):=I32.putU (h.stk.imp λ_=>SliceV.notU32) j _;refine⟨Bd h.stk _ _ ⟨_,_,_,rfl⟩,λi J=>Ao (h.free i J),λi J=>Ai (h.has i J),λI h1 h2=>?_⟩;by_cases hjj:I=j
 ·subst hjj
  exact⟨g,World.cell?_setCell_same' _ _ _ (h.has I hj),hg,V,λi J=>(hq i J).butR U (Ad w GR I _) V⟩
 ·obtain⟨g',e,Y,O,Z⟩:=h.val I (by omega) h2
  refine⟨g',?_,Y,O,λi J=>by rw[hX I (by omega) h2 i J];exact(Z i J).butR U (Ad w GR j _) O⟩;rw[World.cell?_setCell_other _ _ _ _ (by simp <;> omega)];exact e
theorem Lk:(prog.info? 30).map (λi=>(i.zero,i.size,i.bytes))=some (some (.slice none 0 0),1,24):=by kernel_rfl
theorem kW (n:Nat) (h:n<=1000000) (w:World):
  (Instr.makeSlice 104 (.int .i64 (n:Int)) (.int .i64 (n:Int))).run prog w=.ok (.slice (some ⟨w.heap.size,0,none⟩) n n) (w.alloc (.cells (madeCells #[.slice none 0 0] n) 30)):=by
 obtain⟨i,U,I,J,O⟩:=info_parts Lk;have hr:=run_make (P:=prog) w 104 30 i _ underlying104 U I .i64 .i64 n n (by omega) (Int.le_refl _) (by rw[O];omega) (by omega);rw[Int.toNat_natCast,J,Nat.mul_one]at hr;exact hr
theorem RowTab.made (X:Nat->Nat->Rat) (N:Nat) (w:World) (C:Nat):RowTab X N (w.alloc (.cells (madeCells #[.slice none 0 0] C) 30)) w.heap.size C C (w.heap.size+1):=by
 have I:=Blk.new w 30 (madeCells #[.slice none 0 0] C);refine⟨Stk.of I ?_,λi _=>I.free_ i,λi J=>?_,λj V O=>absurd O (by omega)⟩
 ·intro v U
  obtain⟨i,J⟩:=Array.getElem?_of_mem (Array.mem_toList_iff.1 U);rw[Yz J];exact⟨_,_,_,rfl⟩
 ·rw[I.cell_ i,Array.getElem?_eq_getElem (by rw[size_madeCells];exact J)];rfl
structure ModAt (w:World) (M B:Nat) (N k D:Int) (F:List Nat) (C:Nat) (X:Nat->Nat->Rat):Prop where
 lt:M<B
 c0:w.cell? ⟨M,0,none⟩=some (.int .i64 N)
 c1:w.cell? ⟨M,1,none⟩=some (.int .i64 k)
 c2:w.cell? ⟨M,2,none⟩=some (.int .i64 D)
 c3:∃v,w.cell? ⟨M,3,none⟩=some v/\NL F w B v
 c4:∃GR,w.cell? ⟨M,4,none⟩=some (.slice (some ⟨GR,0,none⟩) C C)/\GR<B/\∀j,j<C->∃g,w.cell? ⟨GR,j,none⟩=some (.slice (some ⟨g,0,none⟩) F.length F.length)/\g<B/\∀i f,F[i]?=some f->QE (IsQ (X j f)) w g (i*4)
theorem ModAt.next {w w':World} {M B B':Nat} {N k D:Int} {F:List Nat} {C:Nat} {X:Nat->Nat->Rat} (h:ModAt w M B N k D F C X) (J:I32 w w') (O:Below B' w w') (hB:B<=B'):ModAt w' M B N k D F C X:=by
 have I:∀g i v,g<B->w.cell? ⟨g,i,none⟩=some v->w'.cell? ⟨g,i,none⟩=some v:=λg i v hg e=>(O.cell (p:=⟨g,i,none⟩) (nT hg hB)).trans e
 obtain⟨v,V,Z⟩:=h.c3;obtain⟨GR,Y,U,h4⟩:=h.c4;refine⟨h.lt,I _ _ _ h.lt h.c0,I _ _ _ h.lt h.c1,I _ _ _ h.lt h.c2,⟨v,I _ _ _ h.lt V,Z.next (O.mono hB)⟩,GR,I _ _ _ h.lt Y,U,λj hj=>?_⟩;obtain⟨g,e,hg,hq⟩:=h4 j hj;exact⟨g,I _ _ _ U e,hg,λi f hf=>(hq i f hf).next (nT hg hB) J O⟩
theorem ModAt.keep {w w':World} {M B:Nat} {N k D:Int} {F:List Nat} {C:Nat} {X:Nat->Nat->Rat} (h:ModAt w M B N k D F C X) (hB:B<=w.heap.size) (I:Below w.heap.size w w'):ModAt w' M B N k D F C X:=h.next (I32.below I) I hB
theorem ModAt.up {w:World} {M B B':Nat} {N k D:Int} {F:List Nat} {C:Nat} {X:Nat->Nat->Rat} (h:ModAt w M B N k D F C X) (hB:B<=B'):ModAt w M B' N k D F C X:=by
 obtain⟨v,I,O⟩:=h.c3;obtain⟨GR,J,V,U⟩:=h.c4;exact⟨nT h.lt hB,h.c0,h.c1,h.c2,⟨v,I,O.up hB⟩,GR,J,nT V hB,λj Y=>by obtain⟨g,e,hg,hq⟩:=U j Y;exact⟨g,e,nT hg hB,hq⟩⟩
end Go.Proofs.YtenlbhlllgppmaaGreatDoor
