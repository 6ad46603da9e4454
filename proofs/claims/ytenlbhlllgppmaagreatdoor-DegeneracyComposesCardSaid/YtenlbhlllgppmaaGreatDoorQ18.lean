/- Contracts of rational: Neg, Sub, Whole, Quo, Sign, for normalized fractions. -/
import Derived.Test.YtenlbhlllgppmaaGreatDoorQ15
set_option maxRecDepth 100000
set_option maxHeartbeats 8000000
namespace Go.Proofs.YtenlbhlllgppmaaGreatDoor
open Tryz
open Go.RowKit
theorem Xh (x:Rat):Rat.divInt (-x.num) x.den=-x:=by
 rw[<-Rat.neg_divInt,B7]
theorem Pn (x y:Rat):Rat.divInt (x.num*y.den) (x.den*y.num)=x / y:=by
 rw[<-Rat.divInt_mul_divInt,B7,Rat.div_def,Rat.inv_def]
theorem E8 (s:Bool) (p:Option Addr) (n c:Nat) (t:Bool) (q:Option Addr) (m d:Nat) (x:Rat) (w:World) (h:Qs w s p n c t q m d x) (I:hq x<=1000000000):
  Calls prog 97 #[.agg #[.bool s,.slice p n c,.bool t,.slice q m d]] w λe w'=>cL e x/\Below w.heap.size w w':=by
 have H:=R7 s p n c x.num t q m d x.den w h.1.raw h.2.raw (by have:=h.sizes;omega) (by have:=h.sizes;omega);rw[B7]at H;exact H
theorem I1 (s:Bool) (p:Option Addr) (n c:Nat) (t:Bool) (q:Option Addr) (m d:Nat) (x:Rat) (w:World) (h:Qs w s p n c t q m d x) (hx:hq x<=1000000000):
  Calls prog 51 #[.agg #[.bool s,.slice p n c,.bool t,.slice q m d]] w λe w'=>Gr w' e (-x)/\Below w.heap.size w w':=by
 have HV:=Kh (Xh x);have HS:=Kh h.sizes;have aT:=Kh (show nd (-x.num).natAbs<=4398046511100 by rw[Int.natAbs_neg];have:=En x;omega);have HD:=Kh (λH (hb:Below w.heap.size w H)=>h.2.keep hb);have aL:=Kh (λH (hb:Below w.heap.size w H)=>Vo s p n c x.num H (h.1.keep hb).raw (by have:=HS.1;omega));clear h;go_enter func51,ntmps51
 go_upto_region 1 with(fail)
 obtain⟨w0,Z,O,I,U⟩:=bx2 w #[.bool s,.slice p n c,.bool t,.slice q m d] 86 #[.bool false,.slice none 0 0,.bool false,.slice none 0 0] 86;rw[Z];have cB:w.heap.size<=w0.heap.size:=U.size;clear Z;have M1:True:=trivial;have T1:=Sts.of I (by intro v hv;simp at hv;rcases hv with rfl|rfl|rfl|rfl <;> first|exact NotInt.bool _|exact NotInt.slice _ _ _);have bC:=D4 (Below.refl _ w0).drew ⟨O.c0,O.c1,O.c2,O.c3,I.so 0,I.free_ 0,T1,I.so 1,I.free_ 1,T1,I.so 2,I.free_ 2,T1,I.so 3,I.free_ 3,T1,U,cB⟩;clear O I
 go_region_held3 (λH=>H.cell? ⟨w.heap.size,0,none⟩=some (.bool s)/\H.cell? ⟨w.heap.size,1,none⟩=some (.slice p n c)/\H.cell? ⟨w.heap.size,2,none⟩=some (.bool t)/\H.cell? ⟨w.heap.size,3,none⟩=some (.slice q m d)/\H.cell? ⟨w.heap.size+1,0,none⟩=some (cellOf H ⟨w.heap.size+1,0,none⟩)/\H.frozen? ⟨w.heap.size+1,0,none⟩=false/\Sts H (w.heap.size+1)/\H.cell? ⟨w.heap.size+1,1,none⟩=some (cellOf H ⟨w.heap.size+1,1,none⟩)/\H.frozen? ⟨w.heap.size+1,1,none⟩=false/\Sts H (w.heap.size+1)/\H.cell? ⟨w.heap.size+1,2,none⟩=some (cellOf H ⟨w.heap.size+1,2,none⟩)/\H.frozen? ⟨w.heap.size+1,2,none⟩=false/\Sts H (w.heap.size+1)/\H.cell? ⟨w.heap.size+1,3,none⟩=some (cellOf H ⟨w.heap.size+1,3,none⟩)/\H.frozen? ⟨w.heap.size+1,3,none⟩=false/\Sts H (w.heap.size+1)/\Below w.heap.size w H/\w.heap.size<=H.heap.size)
  (first|with_reducible exact bC |(refine D4 (by with_reducible assumption) ?_;assumption) |(refine N6 ?_ ?_ ?_ ?_ ?_ ?_ ?_ ?_ ?_ ?_ ?_ ?_ ?_ ?_ ?_ ?_ ?_ ?_ ?_ ?_ ?_ ?_ ?_ ?_ ?_ <;> first|assumption|exact NotInt.bool _|exact NotInt.slice _ _ _ |(dsimp only;omega) |(simp;done)))
  (first
   |(go_at_call 98;refine(aL.1 _ (Ej (by with_reducible assumption))).mono ?_;rintro e w2 ⟨⟨s2,p2,n2,e2,rfl,aD⟩,V⟩;have J:=Kh aD;have aK:=Kh (show Below w.heap.size w w2 from Below.trans (Ej (by with_reducible assumption)) (Below.mono V (Below.size (Ej (by with_reducible assumption)))));have aN:=Kh (Jx s2 p2 n2 e2 (-x.num) t q m d x.den w2 J.1.raw (HD.1 _ aK.1).raw (by rw[<-J.1.2.1];exact aT.1) (by have:=HS.1;omega));clear aD)
   |(go_at_call 85;refine aN.1.mono ?_;rintro e w4 ⟨⟨s4,p4,n4,e4,t4,q4,m4,d4,rfl,Y⟩,bY⟩;clear V;obtain⟨⟨aU,hT⟩,⟨aX,_⟩,⟨bA,_⟩,⟨bB,_⟩⟩:=Vd bY (by with_reducible assumption);have cA:=Kh (Y.put4 hT (.bool s4) (.slice p4 n4 e4) (.bool t4) (.slice q4 m4 d4) (NotInt.bool _) (NotInt.slice _ _ _) (NotInt.bool _));clear Y hT))
 go_wp2;try simp only[Exit.inBlock,Exit.then]
 refine bodyPost_ret (by simp[results,results51,go_sem,aU,aX,bA,bB];try rfl) rfl ?_;exact⟨⟨s4,p4,n4,e4,t4,q4,m4,d4,rfl,HV.1▸cA.1⟩,Ej (by assumption)⟩
theorem Z6 (s:Bool) (p:Option Addr) (n c:Nat) (t:Bool) (q:Option Addr) (m d:Nat) (x:Rat) (s':Bool) (p':Option Addr) (n' U:Nat) (t':Bool) (q':Option Addr) (m' V:Nat) (y:Rat) (w:World) (h:Qs w s p n c t q m d x) (h':Qs w s' p' n' U t' q' m' V y) (hx:hq x<=1000000000) (hy:hq y<=1000000000):
  Calls prog 146 #[.agg #[.bool s,.slice p n c,.bool t,.slice q m d],.agg #[.bool s',.slice p' n' U,.bool t',.slice q' m' V]] w λe w'=>Gr w' e (x - y)/\Below w.heap.size w w':=by
 have HV:=Kh (Rat.sub_eq_add_neg x y).symm;have HY:=Kh (show hq (-y)<=1000000000 by rw[hq,Rat.neg_num,Rat.neg_den,Int.natAbs_neg];exact hy);have HD:=Kh (λH (hb:Below w.heap.size w H)=>h.keep hb);have bB:=Kh (λH (hb:Below w.heap.size w H)=>I1 s' p' n' U t' q' m' V y H (h'.keep hb) hy);clear h h';go_enter func146,ntmps146
 go_upto_region 1 with(fail)
 obtain⟨w0,aJ,J,O,I,Y⟩:=Rw w #[.bool s,.slice p n c,.bool t,.slice q m d] 86 #[.bool s',.slice p' n' U,.bool t',.slice q' m' V] 86 #[.bool false,.slice none 0 0,.bool false,.slice none 0 0] 86;rw[aJ];have cX:w.heap.size<=w0.heap.size:=Y.size;clear aJ;have M1:True:=trivial;have T2:=Sts.of I (by intro v hv;simp at hv;rcases hv with rfl|rfl|rfl|rfl <;> first|exact NotInt.bool _|exact NotInt.slice _ _ _);have cD:=A7 (Below.refl _ w0).drew ⟨J.c0,J.c1,J.c2,J.c3,O.c0,O.c1,O.c2,O.c3,I.so 0,I.free_ 0,T2,I.so 1,I.free_ 1,T2,I.so 2,I.free_ 2,T2,I.so 3,I.free_ 3,T2,Y,cX⟩;clear J O I
 go_region_held3 (λH=>H.cell? ⟨w.heap.size,0,none⟩=some (.bool s)/\H.cell? ⟨w.heap.size,1,none⟩=some (.slice p n c)/\H.cell? ⟨w.heap.size,2,none⟩=some (.bool t)/\H.cell? ⟨w.heap.size,3,none⟩=some (.slice q m d)/\H.cell? ⟨w.heap.size+1,0,none⟩=some (.bool s')/\H.cell? ⟨w.heap.size+1,1,none⟩=some (.slice p' n' U)/\H.cell? ⟨w.heap.size+1,2,none⟩=some (.bool t')/\H.cell? ⟨w.heap.size+1,3,none⟩=some (.slice q' m' V)/\H.cell? ⟨w.heap.size+1+1,0,none⟩=some (cellOf H ⟨w.heap.size+1+1,0,none⟩)/\H.frozen? ⟨w.heap.size+1+1,0,none⟩=false/\Sts H (w.heap.size+1+1)/\H.cell? ⟨w.heap.size+1+1,1,none⟩=some (cellOf H ⟨w.heap.size+1+1,1,none⟩)/\H.frozen? ⟨w.heap.size+1+1,1,none⟩=false/\Sts H (w.heap.size+1+1)/\H.cell? ⟨w.heap.size+1+1,2,none⟩=some (cellOf H ⟨w.heap.size+1+1,2,none⟩)/\H.frozen? ⟨w.heap.size+1+1,2,none⟩=false/\Sts H (w.heap.size+1+1)/\H.cell? ⟨w.heap.size+1+1,3,none⟩=some (cellOf H ⟨w.heap.size+1+1,3,none⟩)/\H.frozen? ⟨w.heap.size+1+1,3,none⟩=false/\Sts H (w.heap.size+1+1)/\Below w.heap.size w H/\w.heap.size<=H.heap.size)
  (first|with_reducible exact cD |(refine A7 (by with_reducible assumption) ?_;assumption) |(refine D6 ?_ ?_ ?_ ?_ ?_ ?_ ?_ ?_ ?_ ?_ ?_ ?_ ?_ ?_ ?_ ?_ ?_ ?_ ?_ ?_ ?_ ?_ ?_ ?_ ?_ ?_ ?_ ?_ ?_ ?_ ?_ ?_ ?_ ?_ ?_ ?_ ?_ ?_ ?_ ?_ ?_ <;> first|assumption|exact NotInt.bool _|exact NotInt.slice _ _ _ |(dsimp only;omega) |(simp;done)))
  (first
   |(go_at_call 51;refine(bB.1 _ (Bl (by with_reducible assumption))).mono ?_;rintro e w2 ⟨⟨s2,p2,n2,e2,t2,q2,m2,d2,rfl,aK⟩,Z⟩;have bE:=Kh aK;have bA:=Kh (show Below w.heap.size w w2 from Below.trans (Bl (by with_reducible assumption)) (Below.mono Z (Below.size (Bl (by with_reducible assumption)))));have bC:=Kh (Fo s p n c t q m d x s2 p2 n2 e2 t2 q2 m2 d2 (-y) w2 (HD.1 _ bA.1) bE.1 hx HY.1);clear aK)
   |(go_at_call 39;refine bC.1.mono ?_;rintro e w4 ⟨⟨s4,p4,n4,e4,t4,q4,m4,d4,rfl,aD⟩,cG⟩;clear Z;obtain⟨⟨bY,hT⟩,⟨cA,_⟩,⟨cB,_⟩,⟨cC,_⟩⟩:=Jm cG (by with_reducible assumption);have cT:=Kh (aD.put4 hT (.bool s4) (.slice p4 n4 e4) (.bool t4) (.slice q4 m4 d4) (NotInt.bool _) (NotInt.slice _ _ _) (NotInt.bool _));clear aD hT))
 go_wp2;try simp only[Exit.inBlock,Exit.then]
 refine bodyPost_ret (by simp[results,results146,go_sem,bY,cA,cB,cC];try rfl) rfl ?_;exact⟨⟨s4,p4,n4,e4,t4,q4,m4,d4,rfl,HV.1▸cT.1⟩,Bl (by assumption)⟩
theorem V6 (s:Bool) (p:Option Addr) (n c:Nat) (z:Int) (w:World) (h:Zs w s p n c z) (hn:n<=1000000000):
  Calls prog 94 #[.agg #[.bool s,.slice p n c]] w λe w'=>Gr w' e (z:Rat)/\Below w.heap.size w w':=by
 have HC:=Kh (λw1 (hb:Below w.heap.size w w1)=>Jt s p n c z w1 (h.keep hb).raw (by omega));have HO:=Kh (λw1=>Gc 1 w1 (by omega) (by omega));clear h;go_enter func94,ntmps94
 go_wp2_with fail
 obtain⟨w0,aL,X1,X0,aD⟩:=bx2 w #[.bool s,.slice p n c] 84 #[.bool false,.slice none 0 0,.bool false,.slice none 0 0] 86;rw[aL];have I:=Kh X0;have U:=Kh aD;clear X0 X1 aD aL;refine(HC.1 _ U.1).mono ?_;rintro e w1 ⟨⟨s2,p2,n2,e2,rfl,aN⟩,V⟩;have Z:=Kh aN;have Y:=bt U V;replace I:=Kh (bk I V);clear aN V HC;go_wp2_with fail
 refine(HO.1 _).mono ?_;rintro e w2 ⟨⟨t2,q2,m2,d2,rfl,aT⟩,J⟩;have HQ:=Kh (show Qs w2 s2 p2 n2 e2 t2 q2 m2 d2 (z:Rat)from⟨Z.1.keep J,aT⟩);have H:=Kh (bk I J);have HB:=bt Y J;clear aT J I Y Z HO U;have r0:=H.1.at_ 0 rfl;have r1:=H.1.at_ 1 rfl;have r2:=H.1.at_ 2 rfl;have r3:=H.1.at_ 3 rfl;have f0:=H.1.free_ 0;have f1:=H.1.free_ 1;have f2:=H.1.free_ 2;have f3:=H.1.free_ 3;obtain⟨w9,O⟩:∃w9,(((w2.setCell ⟨w.heap.size+1,0,none⟩ (.bool s2)).setCell ⟨w.heap.size+1,1,none⟩ (.slice p2 n2 e2)).setCell ⟨w.heap.size+1,2,none⟩ (.bool t2)).setCell ⟨w.heap.size+1,3,none⟩ (.slice q2 m2 d2)=w9:=⟨_,rfl⟩
 obtain⟨E0,E1,E2,E3,aK⟩:=B9 H.1 HQ.1 O;have aJ:Below w.heap.size w w9:=by rw[<-O];exact As HB.1 (by omega) _ _ _ _
 have cB:=Kh O;have bY:=Kh (And.intro E0 (And.intro E1 (And.intro E2 E3)));have cA:=Kh aK;have bE:=Kh aJ;clear E0 E1 E2 E3 aK aJ O HQ HB H;go_wp2;try rw[cB.1]
 obtain⟨E0,E1,E2,E3⟩:=bY.1;try simp only[Exit.inBlock,Exit.then]
 refine bodyPost_ret (by simp[results,results94,go_sem,E0,E1,E2,E3];try rfl) rfl ?_;exact⟨⟨s2,p2,n2,e2,t2,q2,m2,d2,rfl,cA.1⟩,bE.1⟩
theorem Z5 (s:Bool) (p:Option Addr) (n c:Nat) (t:Bool) (q:Option Addr) (m d:Nat) (x:Rat) (s':Bool) (p':Option Addr) (n' c':Nat) (t':Bool) (q':Option Addr) (m' d':Nat) (y:Rat) (w:World) (h:Qs w s p n c t q m d x) (h':Qs w s' p' n' c' t' q' m' d' y) (hx:hq x<=1000000000) (hy:hq y<=1000000000) (h0:y≠0):
  Calls prog 96 #[.agg #[.bool s,.slice p n c,.bool t,.slice q m d],.agg #[.bool s',.slice p' n' c',.bool t',.slice q' m' d']] w λe w'=>(∃s4 p4 n4 c4 t4 q4 m4 d4,e=.returned (.tuple #[.agg #[.bool s4,.slice p4 n4 c4,.bool t4,.slice q4 m4 d4],.int .i64 0])/\Qs w' s4 p4 n4 c4 t4 q4 m4 d4 (x / y))/\Below w.heap.size w w':=by
 have HV:=Kh (Pn x y);have HS:=Kh (And.intro h.sizes h'.sizes);have gU:=Kh (show nd (x.num*y.den).natAbs<=4398046511100 by rw[Int.natAbs_mul,Int.natAbs_natCast];have:=Cd x.num.natAbs y.den;have:=En x;have:=Ff y;omega);have hB:=Kh (show nd (x.den*y.num).natAbs<=4398046511100 by rw[Int.natAbs_mul,Int.natAbs_natCast];have:=Cd x.den y.num.natAbs;have:=Ff x;have:=En y;omega);have bC:=Kh (λH (hb:Below w.heap.size w H)=>E8 s' p' n' c' t' q' m' d' y H (h'.keep hb) hy);have gN:=Kh (λH (hb:Below w.heap.size w H)=>Gw s p n c x.num t' q' m' d' y.den H (h.1.keep hb).raw (h'.2.keep hb).raw (by have:=HS.1;omega) (by have:=HS.1;omega));have gP:=Kh (λH (hb:Below w.heap.size w H)=>Gw t q m d x.den s' p' n' c' y.num H (h.2.keep hb).raw (h'.1.keep hb).raw (by have:=HS.1;omega) (by have:=HS.1;omega));clear h h';go_enter func96,ntmps96
 go_wp2_with fail
 obtain⟨w0,cG,Y,Z,J,O⟩:=Rw w #[.bool s,.slice p n c,.bool t,.slice q m d] 86 #[.bool s',.slice p' n' c',.bool t',.slice q' m' d'] 86 #[.bool false,.slice none 0 0,.bool false,.slice none 0 0] 86;rw[cG];have aK:w.heap.size<=w0.heap.size:=O.size;clear cG;have bE:=Kh Y;have I:=Kh Z;have bY:=Kh J;have V:=Kh O;clear Y Z J O aK;have r0:=I.1.at_ 0 rfl;have r1:=I.1.at_ 1 rfl;have r2:=I.1.at_ 2 rfl;have r3:=I.1.at_ 3 rfl;go_wp2_with fail
 refine(bC.1 _ V.1).mono ?_;rintro e H ⟨⟨sg,rfl,cF⟩,U⟩
 have hQ:(sg==0)=false:=by
  have:sg≠0:=λe=>h0 (cF.1 e)
  simpa using this
 have O:=V.1.trans (U.mono V.1.size);have aK:=O.size;have Y:=bk bE U;have Z:=bk I U;have J:=bk bY U;clear bC bE I bY V U cF r0 r1 r2 r3;obtain⟨w0,rfl⟩:∃w0:World,w0=H:=⟨_,rfl⟩
 go_upto_region 3 with(fail)
 have M1:True:=trivial;have T2:=Sts.of J (by intro v hv;simp at hv;rcases hv with rfl|rfl|rfl|rfl <;> first|exact NotInt.bool _|exact NotInt.slice _ _ _);have hJ:=A7 (Below.refl _ w0).drew ⟨Y.c0,Y.c1,Y.c2,Y.c3,Z.c0,Z.c1,Z.c2,Z.c3,J.so 0,J.free_ 0,T2,J.so 1,J.free_ 1,T2,J.so 2,J.free_ 2,T2,J.so 3,J.free_ 3,T2,O,aK⟩;clear Y Z J
 go_region_held3 (λH=>H.cell? ⟨w.heap.size,0,none⟩=some (.bool s)/\H.cell? ⟨w.heap.size,1,none⟩=some (.slice p n c)/\H.cell? ⟨w.heap.size,2,none⟩=some (.bool t)/\H.cell? ⟨w.heap.size,3,none⟩=some (.slice q m d)/\H.cell? ⟨w.heap.size+1,0,none⟩=some (.bool s')/\H.cell? ⟨w.heap.size+1,1,none⟩=some (.slice p' n' c')/\H.cell? ⟨w.heap.size+1,2,none⟩=some (.bool t')/\H.cell? ⟨w.heap.size+1,3,none⟩=some (.slice q' m' d')/\H.cell? ⟨w.heap.size+1+1,0,none⟩=some (cellOf H ⟨w.heap.size+1+1,0,none⟩)/\H.frozen? ⟨w.heap.size+1+1,0,none⟩=false/\Sts H (w.heap.size+1+1)/\H.cell? ⟨w.heap.size+1+1,1,none⟩=some (cellOf H ⟨w.heap.size+1+1,1,none⟩)/\H.frozen? ⟨w.heap.size+1+1,1,none⟩=false/\Sts H (w.heap.size+1+1)/\H.cell? ⟨w.heap.size+1+1,2,none⟩=some (cellOf H ⟨w.heap.size+1+1,2,none⟩)/\H.frozen? ⟨w.heap.size+1+1,2,none⟩=false/\Sts H (w.heap.size+1+1)/\H.cell? ⟨w.heap.size+1+1,3,none⟩=some (cellOf H ⟨w.heap.size+1+1,3,none⟩)/\H.frozen? ⟨w.heap.size+1+1,3,none⟩=false/\Sts H (w.heap.size+1+1)/\Below w.heap.size w H/\w.heap.size<=H.heap.size)
  (first|with_reducible exact hJ |(refine A7 (by with_reducible assumption) ?_;assumption) |(refine D6 ?_ ?_ ?_ ?_ ?_ ?_ ?_ ?_ ?_ ?_ ?_ ?_ ?_ ?_ ?_ ?_ ?_ ?_ ?_ ?_ ?_ ?_ ?_ ?_ ?_ ?_ ?_ ?_ ?_ ?_ ?_ ?_ ?_ ?_ ?_ ?_ ?_ ?_ ?_ ?_ ?_ <;> first|assumption|exact NotInt.bool _|exact NotInt.slice _ _ _ |(dsimp only;omega) |(simp;done)))
  (first
   |(go_at_call 84;clear M1;refine(gN.1 _ (Bl (by with_reducible assumption))).mono ?_;rintro e w2 ⟨⟨s2,p2,n2,e2,rfl,cT⟩,hL⟩;have aD:=Kh cT;clear cT)
   |(go_at_call 84;refine(gP.1 _ (Bl (by with_reducible assumption))).mono ?_;rintro e w3 ⟨⟨s3,p3,n3,e3,rfl,aL⟩,cC⟩;have gS:=Kh (Jx s2 p2 n2 e2 (x.num*y.den) s3 p3 n3 e3 (x.den*y.num) w3 (aD.1.keep cC).raw aL.raw (by rw[<-aD.1.2.1];exact gU.1) (by rw[<-aL.2.1];exact hB.1));clear aL hL aD)
   |(go_at_call 85;refine gS.1.mono ?_;rintro e w4 ⟨⟨s4,p4,n4,e4,t4,q4,m4,d4,rfl,cD⟩,hM⟩;clear cC;obtain⟨⟨hD,hT⟩,⟨hE,_⟩,⟨hG,_⟩,⟨hI,_⟩⟩:=Jm hM (by with_reducible assumption);have hN:=Kh (cD.put4 hT (.bool s4) (.slice p4 n4 e4) (.bool t4) (.slice q4 m4 d4) (NotInt.bool _) (NotInt.slice _ _ _) (NotInt.bool _));clear cD hT))
 go_wp2;try simp only[Exit.inBlock,Exit.then]
 refine bodyPost_ret (by simp[results,results96,go_sem,hD,hE,hG,hI];try rfl) rfl ?_;exact⟨⟨s4,p4,n4,e4,t4,q4,m4,d4,rfl,HV.1▸hN.1⟩,Bl (by assumption)⟩
end Go.Proofs.YtenlbhlllgppmaaGreatDoor
namespace Go.Proofs.YtenlbhlllgppmaaGreatDoor
open Tryz
namespace Sie
open Tryz
theorem Na {J:Type} (l:List J) (f:J->Nat) (W:Nat) (I:∀x∈l,f x<W+1):l.length=(l.filter (λx=>f x=W)).length+(l.filter (λx=>f x<W)).length:=by
 induction l with
 | nil=>rfl
 | cons x l ih=>
  have U:=ih (λy O=>I y (List.mem_cons_of_mem _ O));have V:=I x (List.mem_cons_self ..);by_cases h:f x=W
  ·have H:¬f x<W:=by omega
   simp only[List.filter_cons,h,decide_true,if_true,List.length_cons,Nat.lt_irrefl,decide_false,Bool.false_eq_true,if_false];omega
  ·have H:f x<W:=by omega
   simp only[List.filter_cons,h,decide_false,Bool.false_eq_true,if_false,List.length_cons,H,decide_true,if_true];omega
theorem box {J:Type} (W:Nat):∀(l:List J) (f:J->Nat) (c:Nat),(∀x∈l,f x<W)->W*c<l.length->∃v,v<W/\c<(l.filter (λx=>f x=v)).length:=by
 induction W with
 | zero=>
  intro l f c H I;cases l with
  | nil=>simp at I
  | cons x l=>exact absurd (H x (List.mem_cons_self ..)) (Nat.not_lt_zero _)
 | succ W ih=>
  intro l f c H I;have Z:=Na l f W H;by_cases h:c<(l.filter (λx=>f x=W)).length
  ·exact⟨W,kW _,h⟩
  ·have O:W*c<(l.filter (λx=>f x<W)).length:=by
    rw[Nat.succ_mul]at I;omega
   obtain⟨v,V,U⟩:=ih (l.filter (λx=>f x<W)) f c (λx Y=>by simpa using (List.mem_filter.1 Y).2) O;refine⟨v,by omega,kV U ?_⟩;rw[List.filter_filter]
   exact Nat.le_of_eq (congrArg List.length (List.filter_congr λx _=>by
    by_cases h:f x=v
    ·simp[h,V]
    ·simp[h]))
theorem dA (W:Nat) (n:Nat):∀(l:List Nat) (s:Nat->Nat->Nat),l.Nodup->(∀q,q<n->∀x∈l,s q x<W)->W ^ n<l.length->∃x y,x∈l/\y∈l/\x≠y/\∀q,q<n->s q x=s q y:=by
 induction n with
 | zero=>
  intro l s H O I;rw[Nat.pow_zero]at I
  match l,H,I with
  | x :: y :: l,H,_=>
   refine⟨x,y,List.mem_cons_self ..,List.mem_cons_of_mem _ (List.mem_cons_self ..),?_,λq hq=>absurd hq (Nat.not_lt_zero _)⟩;intro h;rw[List.nodup_cons]at H;exact H.1 (h▸List.mem_cons_self ..)
 | succ n ih=>
  intro l s H O I;rw[Nat.pow_succ,Nat.mul_comm]at I;obtain⟨v,_,h2⟩:=box W l (s n) (W ^ n) (O n (kW _)) I;obtain⟨x,y,U,hy,J,he⟩:=ih (l.filter (λx=>s n x=v)) s (H.sublist List.filter_sublist) (λq hq x U=>O q (by omega) x (List.mem_filter.1 U).1) h2;have V:=List.mem_filter.1 U;have Y:=List.mem_filter.1 hy;refine⟨x,y,V.1,Y.1,J,λq hq=>?_⟩;by_cases h:q=n
  ·subst h
   have Z:=V.2;have b2:=Y.2;simp at Z b2;rw[Z,b2]
  ·exact he q (by omega)
theorem Gi (r:Nat) (k:Nat):∀x y:Nat,x<r ^ k->y<r ^ k->(∀i,i<k->x / r ^ i % r=y / r ^ i % r)->x=y:=by
 induction k with
 | zero=>intro x y H I _;rw[Nat.pow_zero]at H I;omega
 | succ k ih=>
  intro x y H I h;have O:=h 0 (Nat.succ_pos _);rw[Nat.pow_zero,Nat.div_one,Nat.div_one]at O;rw[Nat.pow_succ]at H I
  have Y:x / r=y / r:=by
   refine ih (x / r) (y / r) (Nat.div_lt_of_lt_mul (by rw[Nat.mul_comm];exact H)) (Nat.div_lt_of_lt_mul (by rw[Nat.mul_comm];exact I)) (λi Z=>?_);have U:=h (i+1) (by omega);rw[Nat.pow_succ,Nat.mul_comm,<-Nat.div_div_eq_div_mul,<-Nat.div_div_eq_div_mul]at U;exact U
  have J:=Nat.div_add_mod x r;have V:=Nat.div_add_mod y r;rw[Y]at J;rw[<-J,O,V]
def sum (f:Nat->Int):Nat->Int
 | 0=>0
 | n+1=>sum f n+f n
theorem bQ (f g:Nat->Int) (n:Nat):sum (λi=>f i - g i) n=sum f n - sum g n:=by
 induction n with
 | zero=>rfl
 | succ n ih=>rw[sum,sum,sum,ih];omega
theorem Mj {f:Nat->Int} {n:Nat} {K:Int} (h:∀i,i<n->-K<=f i/\f i<=K):-(n*K)<=sum f n/\sum f n<=n*K:=by
 induction n with
 | zero=>rw[sum];omega
 | succ n ih=>
  have I:=ih (λi O=>h i (by omega));have J:=h n (kW _);have H:((n+1:Nat):Int)*K=(n:Int)*K+K:=by rw[Int.natCast_add,Int.add_mul];omega
  rw[sum,H];omega
theorem H8 {a x:Int} {B X:Nat} (H:a.natAbs<=B) (I:0<=x) (U:x<=X):-((B:Int)*X)<=a*x/\a*x<=(B:Int)*X:=by
 have J:(a*x).natAbs<=B*X:=by
  rw[Int.natAbs_mul];exact Nat.mul_le_mul H (by omega)
 have O:((B*X:Nat):Int)=(B:Int)*X:=by rw[Int.natCast_mul]
 omega
def cap (n B:Nat):Nat:=(2*(n+1)*B+1) ^ n
theorem iO (n B:Nat):(2*(n+1)*B*cap n B+1) ^ n<(cap n B+1) ^ (n+1):=by
 have U:0<cap n B:=Nat.pow_pos (Nat.succ_pos _)
 have I:2*(n+1)*B*cap n B+1<=(2*(n+1)*B+1)*cap n B:=by
  rw[Nat.add_mul,Nat.one_mul];omega
 have H:=Nat.pow_le_pow_left I n;rw[Nat.mul_pow]at H;have J:(2*(n+1)*B+1) ^ n=cap n B:=rfl;rw[J]at H;have O:cap n B ^ n<=(cap n B+1) ^ n:=Nat.pow_le_pow_left (Nat.le_succ _) n;have V:0<(cap n B+1) ^ n:=Nat.pow_pos (Nat.succ_pos _);have Y:cap n B*cap n B ^ n<=cap n B*(cap n B+1) ^ n:=Nat.mul_le_mul_left _ O;have Z:(cap n B+1) ^ (n+1)=cap n B*(cap n B+1) ^ n+(cap n B+1) ^ n:=by rw[Nat.pow_succ,Nat.mul_comm,Nat.add_mul,Nat.one_mul]
 omega
theorem small (n B:Nat) (a:Nat->Nat->Int) (ha:∀q i,q<n->i<n+1->(a q i).natAbs<=B):
  ∃m:Nat->Int,(∃i,i<n+1/\m i≠0)/\(∀i,i<n+1->(m i).natAbs<=cap n B)/\∀q,q<n->sum (λi=>a q i*m i) (n+1)=0:=by
 obtain⟨X,hX⟩:∃X,cap n B=X:=⟨_,rfl⟩
 have H:=iO n B;rw[hX]at H ⊢;obtain⟨r,hr⟩:∃r,X+1=r:=⟨_,rfl⟩
 rw[hr]at H;obtain⟨d,hd⟩:∃d:Nat->Nat->Int,d=λx i=>((x / r ^ i % r:Nat):Int):=⟨_,rfl⟩
 have I:∀x i,0<=d x i/\d x i<=(X:Int):=λx i=>by
  have J:x / r ^ i % r<r:=Nat.mod_lt _ (by omega);rw[hd];dsimp only;omega
 have V:∀q x,q<n->-((n+1:Nat)*((B:Int)*X))<=sum (λi=>a q i*d x i) (n+1)/\sum (λi=>a q i*d x i) (n+1)<=(n+1:Nat)*((B:Int)*X):=λq x hq=>
  Mj (λi U=>H8 (ha q i hq U) (I x i).1 (I x i).2)
 obtain⟨T,hT⟩:∃T:Nat,(n+1)*(B*X)=T:=⟨_,rfl⟩
 have O:((n+1:Nat):Int)*((B:Int)*X)=(T:Int):=by rw[<-hT,Int.natCast_mul,Int.natCast_mul]
 have hW:2*(n+1)*B*X+1=2*T+1:=by rw[<-hT,Nat.mul_assoc 2,Nat.mul_assoc 2,Nat.mul_assoc (n+1)]
 rw[hW]at H
 obtain⟨x,y,hx,hy,Y,he⟩:=dA (2*T+1) n (List.range (r ^ (n+1))) (λq x=>(sum (λi=>a q i*d x i) (n+1)+T).toNat) List.nodup_range (λq hq x _=>by
  have J:=V q x hq;rw[O]at J;omega) (by rw[List.length_range];exact H)
 rw[List.mem_range]at hx hy;refine⟨λi=>d x i - d y i,?_,λi U=>?_,λq hq=>?_⟩
 ·refine Classical.byContradiction λZ=>Y (Gi r (n+1) x y hx hy λi U=>?_)
  have J:d x i - d y i=0:=Classical.byContradiction λh=>Z ⟨i,U,h⟩
  rw[hd]at J;dsimp only at J;omega
 ·have J:=I x i
  have h2:=I y i;show(d x i - d y i).natAbs<=X;omega
 ·have J:=he q hq
  have h2:=V q x hq;have h3:=V q y hq;rw[O]at h2 h3;have h4:(λi=>a q i*(d x i - d y i))=λi=>a q i*d x i - a q i*d y i:=by funext i;rw[Int.mul_sub]
  rw[h4,bQ];omega
end Sie
namespace Eli
open Tryz
open Sie
theorem Ad {f g:Nat->Rat} {n:Nat} (h:∀i,i<n->f i=g i):sumQ f n=sumQ g n:=by
 induction n with
 | zero=>rfl
 | succ n ih=>rw[sumQ,sumQ,ih (λi H=>h i (by omega)),h n (kW _)]
theorem Ar (f g:Nat->Rat) (n:Nat):sumQ (λi=>f i+g i) n=sumQ f n+sumQ g n:=by
 induction n with
 | zero=>rw[sumQ,sumQ,sumQ];grind
 | succ n ih=>rw[sumQ,sumQ,sumQ,ih];grind
theorem Ap (c:Rat) (f:Nat->Rat) (n:Nat):sumQ (λi=>c*f i) n=c*sumQ f n:=by
 induction n with
 | zero=>rw[sumQ,sumQ];grind
 | succ n ih=>rw[sumQ,sumQ,ih];grind
theorem A4 {f:Nat->Rat} {n:Nat} (h:∀i,i<n->f i=0):sumQ f n=0:=by
 induction n with
 | zero=>rfl
 | succ n ih=>rw[sumQ,ih (λi H=>h i (by omega)),h n (kW _)];grind
theorem Ba {f:Nat->Rat} {n j:Nat} (I:j<n) (h:∀i,i<n->i≠j->f i=0):sumQ f n=f j:=by
 induction n with
 | zero=>omega
 | succ n ih=>
  rw[sumQ];by_cases e:j=n
  ·subst e
   rw[A4 (λi H=>h i (by omega) (by omega))];grind
  ·rw[ih (by omega) (λi H=>h i (by omega)),h n (by omega) (by omega)];grind
theorem Ij {f:Nat->Rat} {t n:Nat} (J:t<=n) (h:∀i,t<=i->i<n->f i=0):sumQ f n=sumQ f t:=by
 induction n with
 | zero=>obtain rfl:t=0:=by omega
         rfl
 | succ n ih=>
  by_cases e:t=n+1
  ·rw[e]
  ·rw[sumQ,ih (by omega) (λi H I=>h i H (by omega)),h n (by omega) (by omega)];grind
theorem Yt (f:Nat->Int) (n:Nat):((sum f n:Int):Rat)=sumQ (λi=>(f i:Rat)) n:=by
 induction n with
 | zero=>rfl
 | succ n ih=>rw[sum,sumQ,<-ih,Rat.intCast_add]
def Sp (ld:Nat->Bool) (L:Nat->Nat->Rat) (t:Nat) (u:Nat->Rat):Prop:=
 ∃z:Nat->Rat,(∀j,j<t->ld j=false->z j=0)/\∀q,u q=sumQ (λj=>z j*L j q) t
theorem Sp.nil (ld:Nat->Bool) (L:Nat->Nat->Rat) (t:Nat):Sp ld L t (λ_=>0):=
 ⟨λ_=>0,λ_ _ _=>rfl,λq=>(A4 (λi _=>by grind)).symm⟩
theorem Sp.combine {ld:Nat->Bool} {L:Nat->Nat->Rat} {t:Nat} {u v:Nat->Rat} (U:Sp ld L t u) (c:Rat) (V:Sp ld L t v):Sp ld L t (λq=>u q+c*v q):=by
 obtain⟨y,Y,J⟩:=U;obtain⟨z,Z,O⟩:=V;refine⟨λj=>y j+c*z j,λj H I=>by simp only[Y j H I,Z j H I];grind,λq=>?_⟩;dsimp only;rw[J,O,<-Ap,<-Ar];exact Ad λi _=>by grind
theorem Sp.mono {ld:Nat->Bool} {L:Nat->Nat->Rat} {t H:Nat} {u:Nat->Rat} (V:Sp ld L t u) (h:t<=H):Sp ld L H u:=by
 obtain⟨y,Y,I⟩:=V;refine⟨λj=>if j<t then y j else 0,λj Z U=>?_,λq=>?_⟩
 ·by_cases e:j<t
  ·simp only[if_pos e,Y j e U]
  ·simp only[if_neg e]
 ·rw[I,Ij h (λi J _=>by simp only[if_neg (Nat.not_lt.2 J)];grind)]
  exact Ad λi O=>by simp only[if_pos O]
theorem Sp.lead {ld:Nat->Bool} {L:Nat->Nat->Rat} {t j:Nat} (J:j<t) (O:ld j=true):Sp ld L t (L j):=by
 refine⟨λi=>if i=j then 1 else 0,λi U I=>?_,λq=>?_⟩
 ·have:i≠j:=λe=>by rw[e,O]at I;cases I
  simp only[if_neg this]
 ·rw[Ba J (λi _ H=>by simp only[if_neg H];grind)]
  simp
theorem Sp.congr {ld:Nat->Bool} {L:Nat->Nat->Rat} {t:Nat} {u v:Nat->Rat} (I:Sp ld L t u) (h:∀q,v q=u q):Sp ld L t v:=by
 obtain⟨y,J,H⟩:=I;exact⟨y,J,λq=>by rw[h,H]⟩
structure Inv (B:Nat) (ld:Nat->Bool) (L:Nat->Nat->Rat) (R:Nat->Nat->Int):Prop where
 low:∀j q,q<j->L j q=0
 one:∀j,L j j=1
 free:∀j,ld j=false->∀q,L j q=if q=j then 1 else 0
 rfree:∀j,ld j=false->∀q,R j q=if q=j then 1 else 0
 got:∀p,ld p=true->∃s:Rat,s≠0/\∃u,Sp ld L p u/\∀q,(R p q:Rat)=s*L p q+u q
 bound:∀p q,(R p q).natAbs<=B
variable {B:Nat} {ld:Nat->Bool} {L:Nat->Nat->Rat} {R:Nat->Nat->Int}
theorem Inv.tri (h:Inv B ld L R) {z:Nat->Rat} {t:Nat} (V:∀q,q<t->sumQ (λj=>z j*L j q) t=0):∀j,j<t->z j=0:=by
 intro j;induction j using Nat.strongRecOn with
 | ind j ih=>
  intro H;have I:=V j H;rw[Ba H (λi O U=>?_),h.one]at I
  ·grind
  ·rcases Nat.lt_or_ge i j with hlt|J
   ·rw[ih i hlt O];grind
   ·rw[h.low i j (by omega)];grind
theorem Inv.row (h:Inv B ld L R) (p:Nat):∃s:Rat,s≠0/\∃u,Sp ld L p u/\∀q,(R p q:Rat)=s*L p q+u q:=by
 cases hl:ld p with
 | true=>exact h.got p hl
 | false=>
  refine⟨1,by grind,λ_=>0,Sp.nil _ _ _,λq=>?_⟩;rw[h.rfree p hl,h.free p hl];by_cases e:q=p
  ·simp only[if_pos e];grind
  ·simp only[if_neg e];grind
theorem Inv.comb (h:Inv B ld L R) (m:Nat->Rat) (t:Nat):∃z:Nat->Rat,∀q,sumQ (λp=>m p*(R p q:Rat)) t=sumQ (λj=>z j*L j q) t:=by
 induction t with
 | zero=>exact⟨λ_=>0,λq=>rfl⟩
 | succ t ih=>
  obtain⟨z,J⟩:=ih;obtain⟨s,_,u,⟨y,_,I⟩,hr⟩:=h.row t;refine⟨λj=>if j=t then m t*s else z j+m t*y j,λq=>?_⟩;dsimp only;rw[sumQ,sumQ,J,hr,I,if_pos rfl]
  have H:sumQ (λj=>(if j=t then m t*s else z j+m t*y j)*L j q) t=sumQ (λj=>z j*L j q) t+m t*sumQ (λj=>y j*L j q) t:=by
   rw[<-Ap,<-Ar];exact Ad λi O=>by rw[if_neg (by omega)];grind
  rw[H];grind
theorem Inv.nonsing (h:Inv B ld L R):∀(t:Nat) (m:Nat->Rat),(∀q,q<t->sumQ (λp=>m p*(R p q:Rat)) t=0)->∀p,p<t->m p=0:=by
 intro t;induction t with
 | zero=>intro m _ p hp;omega
 | succ t ih=>
  intro m U;obtain⟨z,hz⟩:=h.comb m t;obtain⟨s,hs,u,⟨y,_,Y⟩,hr⟩:=h.row t
  have Z:∀q,q<t+1->sumQ (λj=>(if j=t then m t*s else z j+m t*y j)*L j q) (t+1)=0:=λq hq=>by
   have H:=U q hq;rw[sumQ,hz,hr,Y]at H;rw[sumQ,if_pos rfl]
   have V:sumQ (λj=>(if j=t then m t*s else z j+m t*y j)*L j q) t=sumQ (λj=>z j*L j q) t+m t*sumQ (λj=>y j*L j q) t:=by
    rw[<-Ap,<-Ar];exact Ad λi hi=>by rw[if_neg (by omega)];grind
   rw[V];grind
  have J:=h.tri Z t (kW _);rw[if_pos rfl]at J
  have O:m t=0:=by
   rcases Rat.mul_eq_zero.1 J with I|I
   ·exact I
   ·exact absurd I hs
  intro p hp;by_cases e:p=t
  ·rw[e];exact O
  ·refine ih m (λq hq=>?_) p (by omega)
   have H:=U q (by omega);rw[sumQ,O]at H;grind
theorem Inv.small (h:Inv B ld L R) (v:Nat->Int) (hv:∀q,(v q).natAbs<=B) (t:Nat):
  ∃(m:Int) (k:Nat->Int) (N:Nat->Int),m≠0/\m.natAbs<=cap t B/\(∀p,p<t->(k p).natAbs<=cap t B)/\(∀q,(N q).natAbs<=(t+1)*(B*cap t B)) /\
   (∀q,q<t->N q=0)/\∀q,(N q:Rat)=sumQ (λp=>(k p:Rat)*(R p q:Rat)) t+(m:Rat)*(v q:Rat):=by
 obtain⟨x,⟨i0,aT,H⟩,V,he⟩:=Sie.small t B (λq i=>if i<t then R i q else v q) (λq i _ _=>by
  split
  ·exact h.bound i q
  ·exact hv q)
 have Z:∀q,((sum (λi=>(if i<t then R i q else v q)*x i) (t+1):Int):Rat)=sumQ (λp=>(x p:Rat)*(R p q:Rat)) t+(x t:Rat)*(v q:Rat):=λq=>by
  rw[Yt,sumQ,if_neg (Nat.lt_irrefl t),Rat.intCast_mul]
  have e1:sumQ (λi=>(((if i<t then R i q else v q)*x i:Int):Rat)) t=sumQ (λp=>(x p:Rat)*(R p q:Rat)) t:=
   Ad λi U=>by rw[if_pos U,Rat.intCast_mul];grind
  rw[e1];grind
 refine⟨x t,x,λq=>sum (λi=>(if i<t then R i q else v q)*x i) (t+1),?_,V t (kW _),λp hp=>V p (by omega),λq=>?_,λq hq=>he q hq,Z⟩
 ·intro Y
  have O:∀q,q<t->sumQ (λp=>(x p:Rat)*(R p q:Rat)) t=0:=λq hq=>by
   have I:=Z q;rw[he q hq,Y]at I;have J:((0:Int):Rat)=0:=rfl;rw[J]at I;grind
  have I:=h.nonsing t (λp=>(x p:Rat)) O;by_cases e:i0=t
  ·rw[e]at H;exact H Y
  ·have J:=I i0 (by omega)
   exact H (by exact_mod_cast J)
 ·have O:∀i,i<t+1->-((B*cap t B:Nat):Int)<=(if i<t then R i q else v q)*x i/\(if i<t then R i q else v q)*x i<=((B*cap t B:Nat):Int):=λi U=>by
   have I:((if i<t then R i q else v q)*x i).natAbs<=B*cap t B:=by
    rw[Int.natAbs_mul];refine Nat.mul_le_mul ?_ (V i U);split
    ·exact h.bound i q
    ·exact hv q
   omega
  have J:=Mj O;have h4:((t+1:Nat):Int)*((B*cap t B:Nat):Int)=(((t+1)*(B*cap t B):Nat):Int):=by rw[<-Int.natCast_mul]
  rw[h4]at J;show(sum (λi=>(if i<t then R i q else v q)*x i) (t+1)).natAbs<=(t+1)*(B*cap t B);omega
theorem Inv.height (h:Inv B ld L R) (v:Nat->Int) (hv:∀q,(v q).natAbs<=B) (r:Nat->Rat) (t:Nat) (u:Nat->Rat) (hu:Sp ld L t u) (he:∀q,(v q:Rat)=r q+u q) (Z:∀q,q<t->r q=0):
  ∃(m:Int) (N:Nat->Int),m≠0/\m.natAbs<=cap t B/\(∀q,(N q).natAbs<=(t+1)*(B*cap t B))/\∀q,(m:Rat)*r q=(N q:Rat):=by
 obtain⟨m,k,N,hm,J,_,I,H,hN⟩:=h.small v hv t;refine⟨m,N,hm,J,I,?_⟩;obtain⟨z,hz⟩:=h.comb (λp=>(k p:Rat)) t;obtain⟨y,_,Y⟩:=hu
 have O:∀q,(N q:Rat) - (m:Rat)*r q=sumQ (λj=>(z j+(m:Rat)*y j)*L j q) t:=λq=>by
  have V:sumQ (λj=>(z j+(m:Rat)*y j)*L j q) t=sumQ (λj=>z j*L j q) t+(m:Rat)*sumQ (λj=>y j*L j q) t:=by
   rw[<-Ap,<-Ar];exact Ad λi U=>by grind
  rw[V,hN,hz,he,Y];grind
 have h1:=h.tri (λq hq=>by
  rw[<-O,Z q hq,H q hq];have:((0:Int):Rat)=0:=rfl;rw[this];grind)
 intro q;have h2:=O q;rw[A4 (λi U=>by rw[h1 i U];grind)]at h2;grind
theorem Inv.coords (h:Inv B ld L R) (v:Nat->Int) (hv:∀q,(v q).natAbs<=B) (n:Nat) (x:Nat->Rat) (u:Nat->Rat) (hu:Sp ld L n u)
  (he:∀q,(v q:Rat)=sumQ (λf=>(if ld f then 0 else x f)*L f q) n+u q):
  ∃(m:Int) (N:Nat->Int),m≠0/\m.natAbs<=cap n B/\(∀f,f<n->(N f).natAbs<=cap n B)/\∀f,f<n->ld f=false->(m:Rat)*x f=(N f:Rat):=by
 obtain⟨m,k,N,hm,aK,aJ,_,aD,hN⟩:=h.small v hv n;refine⟨m,λf=>-k f,hm,aK,λf I=>by have:=aJ f I;show(-k f).natAbs<=_;omega,?_⟩;obtain⟨y,hy,ey⟩:=hu
 have hc:∀t,t<=n->∃z:Nat->Rat,(∀f,f<t->ld f=false->z f=(k f:Rat))/\∀q,sumQ (λp=>(k p:Rat)*(R p q:Rat)) t=sumQ (λj=>z j*L j q) t:=by
  intro t;induction t with
  | zero=>intro _;exact⟨λ_=>0,λf I=>absurd I (Nat.not_lt_zero _),λq=>rfl⟩
  | succ t ih=>
   intro ht;obtain⟨z,U,O⟩:=ih (by omega);cases J:ld t with
   | false=>
    refine⟨λj=>if j=t then(k t:Rat)else z j,λf I H=>?_,λq=>?_⟩
    ·by_cases e:f=t
     ·simp only[e,if_true]
     ·simp only[if_neg e];exact U f (by omega) H
    ·dsimp only
     rw[sumQ,sumQ,O,if_pos rfl,h.free t J,h.rfree t J];have V:sumQ (λj=>(if j=t then(k t:Rat)else z j)*L j q) t=sumQ (λj=>z j*L j q) t:=Ad λi hi=>by rw[if_neg (by omega)]
     rw[V];by_cases e:q=t
     ·simp only[if_pos e];grind
     ·simp only[if_neg e];grind
   | true=>
    obtain⟨s,_,u',⟨y',aN,Z⟩,hr⟩:=h.got t J;refine⟨λj=>if j=t then(k t:Rat)*s else z j+(k t:Rat)*y' j,λf I H=>?_,λq=>?_⟩
    ·have aL:f≠t:=λe=>by rw[e,J]at H;cases H
     simp only[if_neg aL];rw[U f (by omega) H,aN f (by omega) H];grind
    ·dsimp only
     rw[sumQ,sumQ,O,hr,Z,if_pos rfl]
     have V:sumQ (λj=>(if j=t then(k t:Rat)*s else z j+(k t:Rat)*y' j)*L j q) t=sumQ (λj=>z j*L j q) t+(k t:Rat)*sumQ (λj=>y' j*L j q) t:=by
      rw[<-Ap,<-Ar];exact Ad λi hi=>by rw[if_neg (by omega)];grind
     rw[V];grind
 obtain⟨z,U,O⟩:=hc n (kT _)
 have h1:=h.tri (t:=n) (z:=λj=>z j+(m:Rat)*((if ld j then 0 else x j)+y j)) (λq hq=>by
  have e2:sumQ (λj=>(z j+(m:Rat)*((if ld j then 0 else x j)+y j))*L j q) n=sumQ (λj=>z j*L j q) n+(m:Rat)*(sumQ (λf=>(if ld f then 0 else x f)*L f q) n+sumQ (λj=>y j*L j q) n):=by
   rw[<-Ar,<-Ap,<-Ar];exact Ad λi hi=>by grind
  have Y:=hN q;rw[aD q hq,he,ey,O]at Y;have:((0:Int):Rat)=0:=rfl;rw[this]at Y;rw[e2];exact Y.symm)
 intro f I J;have h2:=h1 f I;rw[U f I J,hy f I J,J]at h2;simp only[Bool.false_eq_true,if_false]at h2;rw[Rat.intCast_neg];grind
end Eli
end Go.Proofs.YtenlbhlllgppmaaGreatDoor
namespace Go.Proofs.YtenlbhlllgppmaaGreatDoor
open Tryz
namespace Eli
open Tryz
open Sie
def val:List (Nat×Rat)->Nat->Rat
 | [],_=>0
 | t :: r,q=>(if q=t.1 then t.2 else 0)+val r q
def Ord (n:Nat):Nat->List (Nat×Rat)->Prop
 | _,[]=>True
 | t,x :: r=>t<=x.1/\x.1<n/\x.2≠0/\Ord n (x.1+1) r
theorem Ord.mono {n:Nat}:∀{t s:Nat} {r:List (Nat×Rat)},Ord n t r->s<=t->Ord n s r
 | _,_,[],_,_=>trivial
 | _,_,_ :: _,h,hs=>⟨kU hs h.1,h.2⟩
theorem Jf {n:Nat}:∀{t:Nat} {r:List (Nat×Rat)},Ord n t r->∀q,q<t->val r q=0
 | _,[],_,_,_=>rfl
 | t,x :: r,h,q,hq=>by
  have H:=h.1;rw[val,if_neg (by omega),Jf h.2.2.2 q (by omega)];grind
theorem Df {n:Nat}:∀{t:Nat} {r:List (Nat×Rat)},Ord n t r->∀x,x∈r->val r x.1=x.2/\t<=x.1/\x.1<n/\x.2≠0
 | _,[],_,_,H=>by cases H
 | t,y :: r,h,x,H=>by
  rcases List.mem_cons.1 H with rfl|H
  ·refine⟨?_,h.1,h.2.1,h.2.2.1⟩
   rw[val,if_pos rfl,Jf h.2.2.2 _ (by omega)];grind
  ·obtain⟨I,U,J,O⟩:=Df h.2.2.2 x H
   have V:=h.1;refine⟨?_,by omega,J,O⟩;rw[val,if_neg (by omega),I];grind
def Za (c:Rat) (p:Nat) (x:Rat) (more:List (Nat×Rat)->List (Nat×Rat)):List (Nat×Rat)->List (Nat×Rat)
 | []=>(p,x) :: more []
 | y :: b=>if p<y.1 then(p,x) :: more (y :: b)else if y.1<p then(y.1,-(c*y.2)) :: Za c p x more b else if x - c*y.2=0 then more b else(p,x - c*y.2) :: more b
def Gq (c:Rat):List (Nat×Rat)->List (Nat×Rat)->List (Nat×Rat)
 | []=>λb=>b.map (λy=>(y.1,-(c*y.2)))
 | x :: a=>Za c x.1 x.2 (Gq c a)
theorem Si (c:Rat):Gq c [] []=[]:=rfl
theorem mrg_left (c:Rat) (x:Nat×Rat) (a:List (Nat×Rat)):Gq c (x :: a) []=x :: Gq c a []:=rfl
theorem mrg_right (c:Rat) (y:Nat×Rat) (b:List (Nat×Rat)):Gq c [] (y :: b)=(y.1,-(c*y.2)) :: Gq c [] b:=rfl
theorem Q5 (c:Rat) (x y:Nat×Rat) (a b:List (Nat×Rat)) (h:x.1<y.1):Gq c (x :: a) (y :: b)=x :: Gq c a (y :: b):=by
 show Za c x.1 x.2 (Gq c a) (y :: b)=_;rw[Za,if_pos h]
theorem Q4 (c:Rat) (x y:Nat×Rat) (a b:List (Nat×Rat)) (h:y.1<x.1):Gq c (x :: a) (y :: b)=(y.1,-(c*y.2)) :: Gq c (x :: a) b:=by
 show Za c x.1 x.2 (Gq c a) (y :: b)=_;rw[Za,if_neg (by omega),if_pos h];rfl
theorem I7 (c:Rat) (x y:Nat×Rat) (a b:List (Nat×Rat)) (h:x.1=y.1) (H:x.2 - c*y.2=0):Gq c (x :: a) (y :: b)=Gq c a b:=by
 show Za c x.1 x.2 (Gq c a) (y :: b)=_;rw[Za,if_neg (by omega),if_neg (by omega),if_pos H]
theorem Nk (c:Rat) (x y:Nat×Rat) (a b:List (Nat×Rat)) (h:x.1=y.1) (H:x.2 - c*y.2≠0):Gq c (x :: a) (y :: b)=(x.1,x.2 - c*y.2) :: Gq c a b:=by
 show Za c x.1 x.2 (Gq c a) (y :: b)=_;rw[Za,if_neg (by omega),if_neg (by omega),if_neg H]
theorem A6 (x:Nat×Rat) (r:List (Nat×Rat)) (q:Nat):val (x :: r) q=(if q=x.1 then x.2 else 0)+val r q:=rfl
theorem Jg (q:Nat):val [] q=0:=rfl
theorem cE (c:Rat) (q:Nat):∀(a b:List (Nat×Rat)),val (Gq c a b) q=val a q - c*val b q:=by
 intro a;induction a with
 | nil=>
  intro b;induction b with
  | nil=>rw[Si,Jg];grind
  | cons y b ih=>
   rw[mrg_right,A6,ih,A6,Jg];dsimp only;split <;> grind
 | cons x a iha=>
  intro b;induction b with
  | nil=>
   rw[mrg_left,A6,iha,A6,Jg];clear iha;grind
  | cons y b ihb=>
   have H:=iha b;have I:=iha (y :: b);clear iha;rw[A6]at ihb I;rcases Nat.lt_trichotomy x.1 y.1 with h|h|h
   ·rw[Q5 c x y a b h,A6,I,A6,A6]
    clear ihb H I;generalize (if q=x.1 then x.2 else 0)=e1;generalize (if q=y.1 then y.2 else 0)=e2;grind
   ·by_cases h0:x.2 - c*y.2=0
    ·rw[I7 c x y a b h h0,H,A6,A6,h]
     clear ihb H I;by_cases e:q=y.1
     ·rw[if_pos e,if_pos e];grind
     ·rw[if_neg e,if_neg e];grind
    ·rw[Nk c x y a b h h0,A6,H,A6,A6,h]
     clear ihb H I;by_cases e:q=y.1
     ·rw[if_pos e,if_pos e];grind
     ·rw[if_neg e,if_neg e];grind
   ·rw[Q4 c x y a b h,A6,ihb,A6,A6]
    clear ihb H I;dsimp only;by_cases e:q=y.1
    ·rw[if_pos e,if_neg (by omega),if_pos e];grind
    ·rw[if_neg e,if_neg e];grind
theorem aY {n:Nat} {c:Rat} (V:c≠0):∀(a b:List (Nat×Rat)) (t:Nat),Ord n t a->Ord n t b->Ord n t (Gq c a b):=by
 have J:∀y:Rat,y≠0->-(c*y)≠0:=λy Y h=>by
  have U:c*y=0:=by grind
  rcases Rat.mul_eq_zero.1 U with O|O
  ·exact V O
  ·exact Y O
 intro a;induction a with
 | nil=>
  intro b;induction b with
  | nil=>intro t _ _;exact trivial
  | cons y b ih=>intro t H I;rw[mrg_right];exact⟨I.1,I.2.1,J _ I.2.2.1,ih _ trivial I.2.2.2⟩
 | cons x a iha=>
  intro b;induction b with
  | nil=>intro t H I;rw[mrg_left];exact⟨H.1,H.2.1,H.2.2.1,iha [] _ H.2.2.2 trivial⟩
  | cons y b ihb=>
   intro t H I;rcases Nat.lt_trichotomy x.1 y.1 with h|h|h
   ·rw[Q5 c x y a b h];exact⟨H.1,H.2.1,H.2.2.1,iha _ _ H.2.2.2 ⟨h,I.2⟩⟩
   ·by_cases h0:x.2 - c*y.2=0
    ·rw[I7 c x y a b h h0]
     have U:=H.1;exact(iha b (x.1+1) H.2.2.2 (h▸I.2.2.2)).mono (by omega)
    ·rw[Nk c x y a b h h0]
     exact⟨H.1,H.2.1,h0,iha b (x.1+1) H.2.2.2 (h▸I.2.2.2)⟩
   ·rw[Q4 c x y a b h]
    exact⟨I.1,I.2.1,J _ I.2.2.1,ihb (y.1+1) ⟨h,H.2⟩ I.2.2.2⟩
def P3 (f:Nat->Int):Nat->List (Nat×Rat)
 | 0=>[]
 | n+1=>if f n=0 then P3 f n else P3 f n++[(n,(f n:Rat))]
theorem Kz (a b:List (Nat×Rat)) (q:Nat):val (a++b) q=val a q+val b q:=by
 induction a with
 | nil=>rw[List.nil_append,val];grind
 | cons x a ih=>rw[List.cons_append,val,val,ih];grind
theorem Kj {n:Nat} {c:Rat} (I:0<n) (H:c≠0):∀(a:List (Nat×Rat)) (t:Nat),Ord (n - 1) t a->t<=n - 1->Ord n t (a++[(n - 1,c)])
 | [],t,_,ht=>⟨ht,by dsimp only;omega,H,trivial⟩
 | x :: a,t,h,ht=>⟨h.1,by have:=h.2.1;omega,h.2.2.1,Kj I H a _ h.2.2.2 (by have:=h.2.1;omega)⟩
theorem Ord.wide {n n':Nat} (H:n<=n'):∀{t:Nat} {r:List (Nat×Rat)},Ord n t r->Ord n' t r
 | _,[],_=>trivial
 | _,_ :: _,h=>⟨h.1,by have:=h.2.1;omega,h.2.2.1,Ord.wide H h.2.2.2⟩
theorem So (f:Nat->Int) (n:Nat):Ord n 0 (P3 f n):=by
 induction n with
 | zero=>exact trivial
 | succ n ih=>
  rw[P3];split
  ·exact ih.wide (Nat.le_succ _)
  ·rename_i h
   exact Kj (n:=n+1) (Nat.succ_pos _) (by intro H;exact h (by exact_mod_cast H)) _ 0 ih (Nat.zero_le _)
theorem cH (f:Nat->Int) (n q:Nat):val (P3 f n) q=if q<n then(f q:Rat)else 0:=by
 induction n with
 | zero=>rfl
 | succ n ih=>
  rw[P3];by_cases h:f n=0
  ·rw[if_pos h,ih]
   by_cases h1:q<n
   ·rw[if_pos h1,if_pos (by omega)]
   ·rw[if_neg h1]
    by_cases h2:q=n
    ·rw[if_pos (by omega),h2,h];rfl
    ·rw[if_neg (by omega)]
  ·rw[if_neg h,Kz,ih,val,val]
   by_cases h2:q=n
   ·rw[if_neg (by omega),if_pos h2,if_pos (by omega),h2];grind
   ·rw[if_neg h2]
    by_cases h1:q<n
    ·rw[if_pos h1,if_pos (by omega)];grind
    ·rw[if_neg h1,if_neg (by omega)];grind
def Rb (leads:Nat->List (Nat×Rat)):List (Nat×Rat)->List (Nat×Rat)
 | []=>[]
 | x :: r=>if leads x.1=[]then x :: r else Gq x.2 (x :: r) (leads x.1)
def Et (leads:Nat->List (Nat×Rat)):Nat->List (Nat×Rat)->List (Nat×Rat)
 | 0,r=>r
 | k+1,r=>Rb leads (Et leads k r)
def scl:List (Nat×Rat)->List (Nat×Rat)
 | []=>[]
 | x :: r=>(x :: r).map (λy=>(y.1,1 / x.2*y.2))
def put (leads:Nat->List (Nat×Rat)) (r:List (Nat×Rat)):Nat->List (Nat×Rat):=
 match r with
 | []=>leads
 | x :: r=>λj=>if j=x.1 then scl (x :: r)else leads j
def elim (n:Nat) (rows:Nat->Nat->Int):Nat->Nat->List (Nat×Rat)
 | 0=>λ_=>[]
 | i+1=>put (elim n rows i) (Et (elim n rows i) n (P3 (rows i) n))
def ldOf (leads:Nat->List (Nat×Rat)) (j:Nat):Bool:=!(leads j).isEmpty
def rowOf (leads:Nat->List (Nat×Rat)) (j q:Nat):Rat:=if ldOf leads j then val (leads j) q else if q=j then 1 else 0
theorem Bz {leads:Nat->List (Nat×Rat)} {j:Nat} (h:leads j=[]):ldOf leads j=false:=by rw[ldOf,h];rfl
theorem Ct {leads:Nat->List (Nat×Rat)} {j:Nat} (h:leads j≠[]):ldOf leads j=true:=by
 rw[ldOf];cases e:leads j with
 | nil=>exact absurd e h
 | cons x r=>rfl
def top (n B:Nat):Nat:=nd ((n+1)*(B*cap n B)+cap n B)
structure Good (n B:Nat) (leads:Nat->List (Nat×Rat)):Prop where
 inv:∃R,Inv B (ldOf leads) (rowOf leads) R
 ord:∀j,Ord n j (leads j)
 head:∀j,leads j=[]∨∃r,leads j=(j,1) :: r
 size:∀j x,x∈leads j->hq x.2<=top n B
def RowOk (n:Nat) (leads:Nat->List (Nat×Rat)) (v:Nat->Int) (t:Nat) (r:List (Nat×Rat)):Prop:=
 Ord n t r/\∃u,Sp (ldOf leads) (rowOf leads) t u/\∀q,(v q:Rat)=val r q+u q
theorem J1 {t n B:Nat} (h:t<=n):cap t B<=cap n B:=by
 have H:2*(t+1)*B+1<=2*(n+1)*B+1:=by
  have:=Nat.mul_le_mul_right B (show 2*(t+1)<=2*(n+1)by omega);omega
 exact kU (Nat.pow_le_pow_left H t) (Nat.pow_le_pow_right (Nat.succ_pos _) h)
theorem Ja {n B t k:Nat} (I:t<=n) (H:k<=(t+1)*(B*cap t B)):nd k<=top n B:=by
 refine Bm (kU H (kU ?_ (Nat.le_add_right _ _)));exact Nat.mul_le_mul (by omega) (Nat.mul_le_mul_left _ (J1 I))
theorem Fu {n B t k:Nat} (I:t<=n) (H:k<=cap t B):nd k<=top n B:=
 Bm (kU H (kU (J1 I) (Nat.le_add_left _ _)))
theorem Dq {m N:Int} {r:Rat} (H:m≠0) (h:(m:Rat)*r=(N:Rat)):r=Rat.divInt N m:=by
 have I:(m:Rat)≠0:=λe=>H (by exact_mod_cast e)
 rw[Rat.divInt_eq_div];grind
theorem Ord.top {n:Nat}:∀{t:Nat} {r:List (Nat×Rat)},Ord n t r->n<=t->r=[]
 | _,[],_,_=>rfl
 | _,x :: r,h,ht=>by have H:=h.1;have I:=h.2.1;omega
theorem RowOk.size {n B:Nat} {leads:Nat->List (Nat×Rat)} {v:Nat->Int} {t:Nat} {r:List (Nat×Rat)} (hr:RowOk n leads v t r) (h:Good n B leads) (hv:∀q,(v q).natAbs<=B):
  (∀x,x∈r->hq x.2<=top n B)/\∀x y,x∈r->y∈r->hq (1 / x.2*y.2)<=top n B:=by
 obtain⟨R,hi⟩:=h.inv;obtain⟨J,u,hu,he⟩:=hr;by_cases ht:n<=t
 ·rw[J.top ht]
  refine⟨λx I=>?_,λx y I _=>?_⟩ <;> cases I
 ·obtain⟨m,N,Y,Z,V,U⟩:=hi.height v hv (val r) t u hu he (Jf J)
  have aD:(m:Rat)≠0:=λe=>Y (by exact_mod_cast e)
  refine⟨λx I=>?_,λx y I hy=>?_⟩
  ·have H:=U x.1
   rw[(Df J x I).1]at H;rw[Dq Y H];exact Cz Y (Ja (by omega) (V _)) (Fu (by omega) Z)
  ·have H:=U x.1
   have h2:=U y.1;obtain⟨e1,_,_,h4⟩:=Df J x I;rw[e1]at H;rw[(Df J y hy).1]at h2
   have h3:N x.1≠0:=λe=>by
    rw[e]at H;rcases Rat.mul_eq_zero.1 (H.trans rfl)with O|O
    ·exact aD O
    ·exact h4 O
   have h6:(N x.1:Rat)*(1 / x.2*y.2)=(N y.1:Rat):=by rw[<-H,<-h2];grind
   rw[Dq h3 h6];exact Cz h3 (Ja (by omega) (V _)) (Ja (by omega) (V _))
theorem RowOk.first (n:Nat) (leads:Nat->List (Nat×Rat)) (v:Nat->Int) (H:∀q,n<=q->v q=0):RowOk n leads v 0 (P3 v n):=by
 refine⟨So v n,λ_=>0,Sp.nil _ _ _,λq=>?_⟩;rw[cH];by_cases h:q<n
 ·rw[if_pos h];grind
 ·rw[if_neg h,H q (by omega)]
  have:((0:Int):Rat)=0:=rfl;rw[this];grind
theorem RowOk.step {n B:Nat} {leads:Nat->List (Nat×Rat)} {v:Nat->Int} {t:Nat} {x:Nat×Rat} {r:List (Nat×Rat)} (hr:RowOk n leads v t (x :: r)) (h:Good n B leads) (I:leads x.1≠[]):
  RowOk n leads v (x.1+1) (Rb leads (x :: r))/\Rb leads (x :: r)=Gq x.2 (x :: r) (leads x.1)/\∃b,leads x.1=(x.1,1) :: b/\Gq x.2 (x :: r) (leads x.1)=Gq x.2 r b:=by
 obtain⟨U,u,hu,Z⟩:=hr;obtain⟨b,O⟩:=(h.head x.1).resolve_left I;have J:Rb leads (x :: r)=Gq x.2 (x :: r) (leads x.1):=by rw[Rb,if_neg I]
 have V:Gq x.2 (x :: r) (leads x.1)=Gq x.2 r b:=by rw[O];exact I7 _ _ _ _ _ rfl (by grind)
 have H:=h.ord x.1;rw[O]at H;have h1:=U.1;refine⟨⟨?_,λq=>u q+x.2*rowOf leads x.1 q,(hu.mono (by omega)).combine _ (Sp.lead (kW _) (Ct I)),λq=>?_⟩,J,b,O,V⟩
 ·rw[J,V]
  exact aY U.2.2.1 _ _ _ U.2.2.2 H.2.2.2
 ·have Y:rowOf leads x.1 q=val (leads x.1) q:=by rw[rowOf,Ct I];rfl
  show(v q:Rat)=val (Rb leads (x :: r)) q+(u q+x.2*rowOf leads x.1 q)
  rw[J,cE,Z,Y];grind
theorem Ih {leads:Nat->List (Nat×Rat)} {x:Nat×Rat} {r:List (Nat×Rat)} (H:leads x.1=[]):Rb leads (x :: r)=x :: r:=by rw[Rb,if_pos H]
theorem RowOk.steps {n B:Nat} {leads:Nat->List (Nat×Rat)} {v:Nat->Int} {r:List (Nat×Rat)} (hr:RowOk n leads v 0 r) (h:Good n B leads) (k:Nat):
  ∃t,RowOk n leads v t (Et leads k r)/\(k<=t∨Rb leads (Et leads k r)=Et leads k r):=by
 induction k with
 | zero=>exact⟨0,hr,.inl (kT _)⟩
 | succ k ih=>
  obtain⟨t,H,I⟩:=ih;rw[Et];rcases I with I|I
  ·cases e:Et leads k r with
   | nil=>exact⟨t,by rw[e]at H;exact H,.inr rfl⟩
   | cons x r'=>
    rw[e]at H;by_cases hl:leads x.1=[]
    ·rw[Ih hl]
     exact⟨t,H,.inr (Ih hl)⟩
    ·have J:=H.1.1
     exact⟨x.1+1,(H.step h hl).1,.inl (by omega)⟩
  ·rw[I]
   exact⟨t,H,.inr I⟩
theorem Gp {leads:Nat->List (Nat×Rat)} {r:List (Nat×Rat)} {k:Nat} (h:Rb leads (Et leads k r)=Et leads k r) (m:Nat) (H:k<=m):Et leads m r=Et leads k r:=by
 induction m with
 | zero=>obtain rfl:k=0:=by omega
         rfl
 | succ m ih=>
  by_cases e:k=m+1
  ·rw[e]
  ·rw[Et,ih (by omega),h]
theorem RowOk.end_still {n B:Nat} {leads:Nat->List (Nat×Rat)} {v:Nat->Int} {r:List (Nat×Rat)} (hr:RowOk n leads v 0 r) (h:Good n B leads):Rb leads (Et leads n r)=Et leads n r:=by
 obtain⟨t,I,H⟩:=hr.steps h n;rcases H with H|H
 ·rw[I.1.top H];rfl
 ·exact H
theorem Sp.turn {ld ld':Nat->Bool} {L I:Nat->Nat->Rat} {t:Nat} {u:Nat->Rat} (V:Sp ld L t u) (h:∀j,j<t->ld j=true->ld' j=true/\I j=L j):Sp ld' I t u:=by
 obtain⟨z,O,U⟩:=V;refine⟨z,λj H J=>?_,λq=>?_⟩
 ·cases e:ld j with
  | false=>exact O j H e
  | true=>rw[(h j H e).1]at J;cases J
 ·rw[U]
  refine Ad λj H=>?_
  cases e:ld j with
  | false=>rw[O j H e];grind
  | true=>rw[(h j H e).2]
theorem Te (x:Nat×Rat) (r:List (Nat×Rat)) (q:Nat):val (scl (x :: r)) q=1 / x.2*val (x :: r) q:=by
 rw[scl];generalize x :: r=l;induction l with
 | nil=>rw[List.map_nil,val];grind
 | cons y l ih=>
  rw[List.map_cons,val,val,ih];by_cases h:q=y.1
  ·simp only[if_pos h];grind
  ·simp only[if_neg h];grind
theorem Sn {n:Nat} {c:Rat} (I:c≠0):∀{t:Nat} {l:List (Nat×Rat)},Ord n t l->Ord n t (l.map (λy=>(y.1,1 / c*y.2)))
 | _,[],_=>trivial
 | _,y :: l,h=>⟨h.1,h.2.1,λe=>by
   rcases Rat.mul_eq_zero.1 e with H|H
   ·exact I (by grind)
   ·exact h.2.2.1 H,Sn I h.2.2.2⟩
theorem Good.put {n B:Nat} {leads:Nat->List (Nat×Rat)} {v:Nat->Int} {t:Nat} {r:List (Nat×Rat)} (h:Good n B leads) (hr:RowOk n leads v t r) (hv:∀q,(v q).natAbs<=B) (hs:Rb leads r=r):Good n B (Eli.put leads r):=by
 cases r with
 | nil=>exact h
 | cons x r=>
  have bB:leads x.1=[]:=by
   refine Classical.byContradiction λhl=>?_
   obtain⟨⟨ho,_⟩,_⟩:=hr.step h hl;rw[hs]at ho;have:=ho.1;omega
  obtain⟨_,bC⟩:=hr.size h hv;obtain⟨ho,u,hu,he⟩:=hr;obtain⟨R,hi⟩:=h.inv;have hx:=ho.2.2.1;obtain⟨J,aN⟩:∃J,Eli.put leads (x :: r)=J:=⟨_,rfl⟩
  have eP:∀j,J j=if j=x.1 then scl (x :: r)else leads j:=λj=>by rw[<-aN];rfl
  have e1:J x.1=scl (x :: r):=by rw[eP,if_pos rfl]
  have e2:∀j,j≠x.1->J j=leads j:=λj I=>by rw[eP,if_neg I]
  have e3:scl (x :: r)≠[]:=by rw[scl];intro e;cases e
  have V:ldOf J x.1=true:=Ct (by rw[e1];exact e3);have H:∀j,j≠x.1->ldOf J j=ldOf leads j:=λj I=>by rw[ldOf,e2 j I];rfl
  have U:∀j,j≠x.1->rowOf J j=rowOf leads j:=λj I=>by funext q;rw[rowOf,rowOf,H j I,e2 j I]
  have Z:∀q,rowOf J x.1 q=1 / x.2*val (x :: r) q:=λq=>by rw[rowOf,V,if_pos rfl,e1,Te]
  have O:∀t u,Sp (ldOf leads) (rowOf leads) t u->Sp (ldOf J) (rowOf J) t u:=λt u hu=>hu.turn λj _ hl=>by
   have aU:j≠x.1:=λe=>by rw[e,Bz bB]at hl;cases hl
   exact⟨by rw[H j aU];exact hl,U j aU⟩
  have Y:Ord n x.1 (x :: r):=⟨kT _,ho.2⟩
  rw[aN];refine⟨⟨λj=>if j=x.1 then v else R j,?_⟩,λj=>?_,λj=>?_,λj y hy=>?_⟩
  ·constructor
   ·intro j q hq
    by_cases e:j=x.1
    ·subst e;rw[Z,Jf Y q hq];grind
    ·rw[U j e];exact hi.low j q hq
   ·intro j
    by_cases e:j=x.1
    ·subst e;rw[Z,(Df Y x (List.mem_cons_self ..)).1];grind
    ·rw[U j e];exact hi.one j
   ·intro j I q
    have e:j≠x.1:=λe=>by rw[e,V]at I;cases I
    rw[U j e];exact hi.free j (by rw[<-H j e];exact I) q
   ·intro j I q
    have e:j≠x.1:=λe=>by rw[e,V]at I;cases I
    simp only[if_neg e];exact hi.rfree j (by rw[<-H j e];exact I) q
   ·intro p hp
    by_cases e:p=x.1
    ·subst e
     refine⟨x.2,hx,u,(O _ _ (hu.mono ho.1)),λq=>?_⟩;rw[if_pos rfl,he,Z];grind
    ·obtain⟨s,h0,u2,hu2,bA⟩:=hi.got p (by rw[<-H p e];exact hp)
     refine⟨s,h0,u2,O _ _ hu2,λq=>?_⟩;rw[if_neg e,U p e];exact bA q
   ·intro p q
    show((if p=x.1 then v else R p) q).natAbs<=B;split
    ·exact hv q
    ·exact hi.bound p q
  ·by_cases e:j=x.1
   ·subst e;rw[e1,scl];exact Sn hx Y
   ·rw[e2 j e];exact h.ord j
  ·by_cases e:j=x.1
   ·subst e
    refine .inr ⟨r.map (λy=>(y.1,1 / x.2*y.2)),?_⟩;rw[e1,scl,List.map_cons];have:1 / x.2*x.2=1:=by grind
    rw[this]
   ·rw[e2 j e];exact h.head j
  ·by_cases e:j=x.1
   ·subst e
    rw[e1,scl]at hy;obtain⟨z,hz,rfl⟩:=List.mem_map.1 hy;exact bC x z (List.mem_cons_self ..) hz
   ·rw[e2 j e]at hy;exact h.size j y hy
theorem Good.nil {n B:Nat} (hB:1<=B):Good n B (λ_=>[]):=
 ⟨⟨λj q=>if q=j then 1 else 0,by
  have I:∀j,ldOf (λ_=>[]) j=false:=λj=>rfl
  have hr:∀j q,rowOf (λ_=>[]) j q=if q=j then 1 else 0:=λj q=>rfl
  constructor
  ·intro j q hq;rw[hr,if_neg (by omega)]
  ·intro j;rw[hr,if_pos rfl]
  ·intro j _ q;rw[hr]
  ·intro j _ q;rfl
  ·intro p H;rw[I]at H;cases H
  ·intro p q;split
   ·exact hB
   ·exact Nat.zero_le _⟩,λ_=>trivial,λ_=>.inl rfl,λ_ _ J=>by cases J⟩
theorem Good.elim {n B:Nat} {rows:Nat->Nat->Int} (hB:1<=B) (J:∀i q,(rows i q).natAbs<=B) (H:∀i q,n<=q->rows i q=0) (k:Nat):Good n B (elim n rows k):=by
 induction k with
 | zero=>exact Good.nil hB
 | succ k ih=>
  have hr:=RowOk.first n (Eli.elim n rows k) (rows k) (H k)
  obtain⟨t,I,_⟩:=hr.steps ih n;exact ih.put I (J k) (hr.end_still ih)
end Eli
namespace Eli
open Tryz
open Sie
theorem Nf (q:Rat):hq (-q)=hq q:=by rw[hq,hq,Rat.neg_num,Rat.neg_den,Int.natAbs_neg]
theorem Ng:hq 0=1:=by rw[hq];decide
theorem Wu:hq 1=1:=by rw[hq];decide
def D2 (X:Nat->Nat->Rat):List (Nat×Rat)->Nat->Rat
 | [],_=>0
 | t :: r,f=>D2 X r f+-t.2*X t.1 f
def newRow (leads:Nat->List (Nat×Rat)) (X:Nat->Nat->Rat) (j f:Nat):Rat:=
 if leads j=[]then(if f=j then 1 else 0)else D2 X (leads j).tail.reverse f
def Bk (leads:Nat->List (Nat×Rat)) (n:Nat):Nat->Nat->Nat->Rat
 | 0=>λ_ _=>0
 | k+1=>λj=>if j=n - 1 - k then newRow leads (Bk leads n k) j else Bk leads n k j
theorem Ro (X:Nat->Nat->Rat) (a b:List (Nat×Rat)) (f:Nat):D2 X (a++b) f=D2 X a f+D2 X b f:=by
 induction a with
 | nil=>rw[List.nil_append,D2];grind
 | cons x a ih=>rw[List.cons_append,D2,D2,ih];grind
theorem Pt (X:Nat->Nat->Rat) (a:List (Nat×Rat)) (f:Nat):D2 X a.reverse f=D2 X a f:=by
 induction a with
 | nil=>rfl
 | cons x a ih=>rw[List.reverse_cons,Ro,ih,D2,D2,D2];grind
theorem U3 {X Y:Nat->Nat->Rat} {a:List (Nat×Rat)} {f:Nat} (h:∀x,x∈a->X x.1 f=Y x.1 f):D2 X a f=D2 Y a f:=by
 induction a with
 | nil=>rfl
 | cons x a ih=>rw[D2,D2,ih (λy H=>h y (List.mem_cons_of_mem _ H)),h x (List.mem_cons_self ..)]
theorem Lx (leads:Nat->List (Nat×Rat)) (n:Nat) {k m j:Nat} (I:k<=m) (J:m<=n) (H:n - k<=j):Bk leads n m j=Bk leads n k j:=by
 induction m with
 | zero=>obtain rfl:k=0:=by omega
         rfl
 | succ m ih=>
  by_cases e:k=m+1
  ·rw[e]
  ·rw[Bk]
   simp only;rw[if_neg (by omega),ih (by omega) (by omega)]
theorem O0 {n B:Nat} {leads:Nat->List (Nat×Rat)} (h:Good n B leads) {k j:Nat} (Z:n - j<=k) (H:k<=n) (hj:j<n):Bk leads n k j=newRow leads (Bk leads n k) j:=by
 have O:Bk leads n k j=Bk leads n (n - j) j:=Lx leads n Z H (by omega)
 have U:Bk leads n (n - j) j=newRow leads (Bk leads n (n - 1 - j)) j:=by
  have e:n - j=(n - 1 - j)+1:=by omega
  rw[e,Bk];simp only;rw[if_pos (by omega)]
 rw[O,U];funext f;rw[newRow,newRow];split
 ·rfl
 ·rename_i hl
  refine U3 λx I=>?_
  obtain⟨b,Y⟩:=(h.head j).resolve_left hl;have J:=h.ord j;rw[Y]at J I;rw[List.tail_cons,List.mem_reverse]at I;obtain⟨_,V,h4,_⟩:=Df J.2.2.2 x I;dsimp only at V;rw[Lx leads n (k:=n - 1 - j) (m:=k) (by omega) H (by omega)]
theorem J6 {n B:Nat} {leads:Nat->List (Nat×Rat)} (h:Good n B leads) {k j:Nat} (J:n - j<=k) (H:k<=n) (I:j<n) (O:leads j=[]) (f:Nat):Bk leads n k j f=if f=j then 1 else 0:=by
 rw[O0 h J H I,newRow,if_pos O]
theorem We {n B:Nat} {leads:Nat->List (Nat×Rat)} (h:Good n B leads) {k j:Nat} (J:n - j<=k) (H:k<=n) (I:j<n) (O:leads j≠[]) (f:Nat):Bk leads n k j f=D2 (Bk leads n k) (leads j).tail f:=by
 rw[O0 h J H I,newRow,if_neg O,Pt]
def fU (n:Nat) (leads:Nat->List (Nat×Rat)) (X:Nat->Nat->Rat) (j:Nat):Prop:=
 ∃u,Sp (ldOf leads) (rowOf leads) n u/\∀q,(if q=j then(1:Rat)else 0)=sumQ (λf=>(if ldOf leads f then 0 else X j f)*rowOf leads f q) n+u q
theorem Pp {n B:Nat} {leads:Nat->List (Nat×Rat)} (h:Good n B leads) (X:Nat->Nat->Rat):∀(r:List (Nat×Rat)),(∀x,x∈r->fU n leads X x.1) ->
  ∃u,Sp (ldOf leads) (rowOf leads) n u/\∀q,val r q=sumQ (λf=>(if ldOf leads f then 0 else -D2 X r f)*rowOf leads f q) n+u q
 | [],_=>⟨λ_=>0,Sp.nil _ _ _,λq=>by
   rw[val,A4 (λi _=>?_)]
   ·grind
   ·rw[D2];split <;> grind⟩
 | x :: r,hr=>by
  obtain⟨u,U,J⟩:=Pp h X r (λy Y=>hr y (List.mem_cons_of_mem _ Y));obtain⟨w,V,O⟩:=hr x (List.mem_cons_self ..);refine⟨_,U.combine x.2 V,λq=>?_⟩;have H:(if q=x.1 then x.2 else 0)=x.2*(if q=x.1 then(1:Rat)else 0):=by split <;> grind
  have I:sumQ (λf=>(if ldOf leads f then 0 else -D2 X (x :: r) f)*rowOf leads f q) n=x.2*sumQ (λf=>(if ldOf leads f then 0 else X x.1 f)*rowOf leads f q) n+sumQ (λf=>(if ldOf leads f then 0 else -D2 X r f)*rowOf leads f q) n:=by
   rw[<-Ap,<-Ar];refine Ad λf _=>?_
   rw[D2];split <;> grind
  rw[A6,H,O,J,I];grind
theorem Rf {n B:Nat} {leads:Nat->List (Nat×Rat)} (h:Good n B leads):∀(m j:Nat),n - j<=m->j<n->∀k,n - j<=k->k<=n->fU n leads (Bk leads n k) j:=by
 intro m;induction m with
 | zero=>intro j h1 h2;omega
 | succ m ih=>
  intro j hm J k Y H;by_cases hl:leads j=[]
  ·refine⟨λ_=>0,Sp.nil _ _ _,λq=>?_⟩
   rw[Ba J (λi _ Z=>?_)]
   ·have O:rowOf leads j q=if q=j then 1 else 0:=by rw[rowOf,Bz hl];rfl
    have U:(if ldOf leads j=true then(0:Rat)else Bk leads n k j j)=1:=by
     rw[Bz hl];show Bk leads n k j j=1;rw[J6 h Y H J hl,if_pos rfl]
    rw[U,O];clear ih;grind
   ·clear ih
    split
    ·grind
    ·rw[J6 h Y H J hl,if_neg Z];grind
  ·obtain⟨b,V⟩:=(h.head j).resolve_left hl
   have ho:=h.ord j;rw[V]at ho
   obtain⟨u,hu,eu⟩:=Pp h (Bk leads n k) b (λx hx=>by
    obtain⟨_,h1,h2,_⟩:=Df ho.2.2.2 x hx;dsimp only at h1;exact ih x.1 (by omega) h2 k (by omega) H)
   have I:=Sp.lead (L:=rowOf leads) J (Ct hl);refine⟨_,I.combine (-1) hu,λq=>?_⟩;have O:rowOf leads j q=(if q=j then 1 else 0)+val b q:=by rw[rowOf,Ct hl,if_pos rfl,V,A6]
   have U:sumQ (λf=>(if ldOf leads f then 0 else Bk leads n k j f)*rowOf leads f q) n=-sumQ (λf=>(if ldOf leads f then 0 else -D2 (Bk leads n k) b f)*rowOf leads f q) n:=by
    have e3:-sumQ (λf=>(if ldOf leads f then 0 else -D2 (Bk leads n k) b f)*rowOf leads f q) n=-1*sumQ (λf=>(if ldOf leads f then 0 else -D2 (Bk leads n k) b f)*rowOf leads f q) n:=by grind
    rw[e3,<-Ap];refine Ad λf _=>?_
    rw[We h Y H J hl,V,List.tail_cons];split <;> grind
   rw[O,U,eu];grind
theorem O1 {n B:Nat} {leads:Nat->List (Nat×Rat)} (hB:1<=B) (h:Good n B leads) {k j f:Nat} (hk:n - j<=k) (H:k<=n) (hj:j<n) (J:f<n) (hl:leads f=[]):hq (Bk leads n k j f)<=top n B:=by
 obtain⟨R,Z⟩:=h.inv;obtain⟨u,hu,U⟩:=Rf h n j (by omega) hj k hk H;obtain⟨m,N,O,I,Y,V⟩:=Z.coords (λq=>if q=j then 1 else 0) (λq=>by split <;> simp <;> omega) n (Bk leads n k j) u hu (λq=>by rw[<-U];split <;> rfl);rw[Dq O (V f J (Bz hl))];exact Cz O (Fu (kT _) (Y f J)) (Fu (kT _) I)
theorem Pu {X:Nat->Nat->Rat} {K:Nat} {f:Nat}:∀(r:List (Nat×Rat)),(∀x,x∈r->hq x.2<=K)->(∀x,x∈r->hq (X x.1 f)<=K)->hq (D2 X r f)<=1+r.length*(2*K+1)
 | [],_,_=>by rw[D2,Ng];omega
 | x :: r,h1,h2=>by
  have J:=Pu r (λy H=>h1 y (List.mem_cons_of_mem _ H)) (λy H=>h2 y (List.mem_cons_of_mem _ H));have O:=h1 x (List.mem_cons_self ..);have U:=h2 x (List.mem_cons_self ..);have V:=Nc (D2 X r f) (-x.2*X x.1 f);have I:=Cc (-x.2) (X x.1 f);rw[Nf]at I;rw[D2,List.length_cons,Nat.succ_mul];omega
theorem Dp {n:Nat}:∀{t:Nat} {r:List (Nat×Rat)},Ord n t r->r.length<=n - t
 | _,[],_=>Nat.zero_le _
 | _,x :: r,h=>by
  have H:=Dp h.2.2.2;have I:=h.1;have J:=h.2.1;rw[List.length_cons];omega
theorem Ny {n B:Nat} (J:n<=72) (hB:B<=16777216):top n B<=80:=by
 have H:cap n B<=cap 72 16777216:=by
  refine kU (J1 J) (Nat.pow_le_pow_left ?_ 72);have:=Nat.mul_le_mul_left (2*(72+1)) hB;omega
 have I:(n+1)*(B*cap n B)+cap n B<=(72+1)*(16777216*cap 72 16777216)+cap 72 16777216:=
  Nat.add_le_add (Nat.mul_le_mul (by omega) (Nat.mul_le_mul hB H)) H
 exact Be.2 (Nat.lt_of_le_of_lt I (by decide +kernel))
def frs (leads:Nat->List (Nat×Rat)) (n:Nat):List Nat:=(List.range n).filter (λj=>(leads j).isEmpty)
theorem C5 (leads:Nat->List (Nat×Rat)) (n:Nat):frs leads (n+1)=if leads n=[]then frs leads n++[n]else frs leads n:=by
 rw[frs,List.range_succ,List.filter_append];by_cases h:leads n=[]
 ·rw[if_pos h,List.filter_cons,h];rfl
 ·rw[if_neg h,List.filter_cons]
  have:(leads n).isEmpty=false:=by cases e:leads n with
   | nil=>exact absurd e h
   | cons x r=>rfl
  rw[this];exact List.append_nil _
theorem G1 {leads:Nat->List (Nat×Rat)} {n j:Nat}:j∈frs leads n↔j<n/\leads j=[]:=by
 rw[frs,List.mem_filter,List.mem_range,List.isEmpty_iff]
theorem Em (leads:Nat->List (Nat×Rat)) (n:Nat):(frs leads n).length<=n:=by
 have:=List.length_filter_le (λj=>(leads j).isEmpty) (List.range n);rw[List.length_range]at this;exact this
theorem Wr (leads:Nat->List (Nat×Rat)) {j n:Nat} (h:j<=n):∃l,frs leads n=frs leads j++l:=by
 induction n with
 | zero=>obtain rfl:j=0:=by omega
         exact⟨[],(List.append_nil _).symm⟩
 | succ n ih=>
  by_cases e:j=n+1
  ·subst e;exact⟨[],(List.append_nil _).symm⟩
  ·obtain⟨l,H⟩:=ih (by omega)
   rw[C5,H];split
   ·exact⟨l++[n],by rw[List.append_assoc]⟩
   ·exact⟨l,rfl⟩
theorem Wq (leads:Nat->List (Nat×Rat)) {j n:Nat} (h:j<n) (H:leads j=[]):(frs leads j).length<(frs leads n).length/\(frs leads n)[(frs leads j).length]?=some j:=by
 obtain⟨l,e⟩:=Wr leads (j:=j+1) (n:=n) h;rw[C5,if_pos H]at e;constructor
 ·rw[e];simp
 ·rw[e];simp
theorem G2 (leads:Nat->List (Nat×Rat)) (n:Nat):(frs leads n).Pairwise (· < ·):=by
 rw[frs];exact List.Pairwise.filter _ List.pairwise_lt_range
end Eli
end Go.Proofs.YtenlbhlllgppmaaGreatDoor
