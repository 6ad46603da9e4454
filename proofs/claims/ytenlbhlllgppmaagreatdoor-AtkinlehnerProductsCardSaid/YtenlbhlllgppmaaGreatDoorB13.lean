/- Contract of rational.over. -/
import Derived.Test.YtenlbhlllgppmaaGreatDoorB12
set_option maxRecDepth 100000
set_option maxHeartbeats 8000000
namespace Go.Proofs.YtenlbhlllgppmaaGreatDoor
open Go.RowKit Tryz
def Ow (w:World) (A B:Nat) (x y:Int):Prop:=∃s p n c t q m d,Blk w A 84 #[.bool s,.slice p n c]/\Blk w B 84 #[.bool t,.slice q m d]/\Zs w s p n c x/\Zs w t q m d y
theorem Sts.box {w:World} {A:Nat} {s:Bool} {p:Option Addr} {n c:Nat} (h:Blk w A 84 #[.bool s,.slice p n c]):Sts w A:=
 Sts.of h (by intro v I;simp at I;rcases I with rfl|rfl;exact NotInt.bool _;exact NotInt.slice _ _ _)
theorem B8 {w:World} {A B:Nat} {s s' t t':Bool} {p p' q q':Option Addr} {n n' c c' m m' d d':Nat} {x y:Int} (I:A≠B)
  (hA:Blk w A 84 #[.bool s',.slice p' n' c']) (hB:Blk w B 84 #[.bool t',.slice q' m' d']) (hx:Zs w s p n c x) (hy:Zs w t q m d y):
  Ow ((((w.setCell ⟨A,0,none⟩ (.bool s)).setCell ⟨A,1,none⟩ (.slice p n c)).setCell ⟨B,0,none⟩ (.bool t)).setCell ⟨B,1,none⟩ (.slice q m d)) A B x y:=by
 have O:=hA.set_ 0 (.bool s);have U:=O.set_ 1 (.slice p n c);have V:=U.far_ (p:=⟨B,0,none⟩) I (.bool t);have Y:=V.far_ (p:=⟨B,1,none⟩) I (.slice q m d);have Z:=hB.far_ (p:=⟨A,0,none⟩) (Ne.symm I) (.bool s);have J:=Z.far_ (p:=⟨A,1,none⟩) (Ne.symm I) (.slice p n c);have h:=J.set_ 0 (.bool t);have b4:=h.set_ 1 (.slice q m d);refine⟨s,p,n,c,t,q,m,d,Y,b4,?_,?_⟩
 ·exact(hx.put2 (Sts.box hA) 0 1 _ _ (NotInt.bool _)).put2 (Sts.box J) 0 1 _ _ (NotInt.bool _)
 ·exact(hy.put2 (Sts.box hA) 0 1 _ _ (NotInt.bool _)).put2 (Sts.box J) 0 1 _ _ (NotInt.bool _)
theorem Fh {w:World} {A:Nat} {s U:Bool} {p p':Option Addr} {n O c I:Nat} {x:Int}
  (hA:Blk w A 84 #[.bool U,.slice p' O I]) (J:Zs w s p n c x):
  Blk ((w.setCell ⟨A,0,none⟩ (.bool s)).setCell ⟨A,1,none⟩ (.slice p n c)) A 84 #[.bool s,.slice p n c]/\Zs ((w.setCell ⟨A,0,none⟩ (.bool s)).setCell ⟨A,1,none⟩ (.slice p n c)) s p n c x:=
 ⟨(hA.set_ 0 (.bool s)).set_ 1 (.slice p n c),J.put2 (Sts.box hA) 0 1 _ _ (NotInt.bool _)⟩
theorem Cd {w:World} {R:Nat} {s t:Bool} {p q:Option Addr} {n c m d:Nat} {r:Rat} {a b:Bool} {a' b':Option Addr} {i j k l:Nat} (V:Blk w R 86 #[.bool a,.slice a' i j,.bool b,.slice b' k l]) (h:Qs w s p n c t q m d r) {w':World}
  (hw:(((w.setCell ⟨R,0,none⟩ (.bool s)).setCell ⟨R,1,none⟩ (.slice p n c)).setCell ⟨R,2,none⟩ (.bool t)).setCell ⟨R,3,none⟩ (.slice q m d)=w'):
  w'.cell? ⟨R,0,none⟩=some (.bool s)/\w'.cell? ⟨R,1,none⟩=some (.slice p n c)/\w'.cell? ⟨R,2,none⟩=some (.bool t)/\w'.cell? ⟨R,3,none⟩=some (.slice q m d)/\Qs w' s p n c t q m d r:=by
 subst hw;have I:=(((V.set_ 0 (.bool s)).set_ 1 (.slice p n c)).set_ 2 (.bool t)).set_ 3 (.slice q m d);have J:Sts w R:=Sts.of V (by intro v Y;simp at Y;rcases Y with rfl|rfl|rfl|rfl <;> first|exact NotInt.bool _|exact NotInt.slice _ _ _);have O:=J.put ⟨R,0,none⟩ (.bool s) (NotInt.bool _);have U:=O.put ⟨R,1,none⟩ (.slice p n c) (NotInt.slice _ _ _);have Z:=U.put ⟨R,2,none⟩ (.bool t) (NotInt.bool _);exact⟨I.at_ 0 rfl,I.at_ 1 rfl,I.at_ 2 rfl,I.at_ 3 rfl,(((h.1.put J 0 _).put O 1 _).put U 2 _).put Z 3 _,(((h.2.put J 0 _).put O 1 _).put U 2 _).put Z 3 _⟩
theorem As {b w:World} {A D:Nat} (h:Below D b w) (I:D<=A) (v0 v1 v2 v3:Value):Below D b ((((w.setCell ⟨A,0,none⟩ v0).setCell ⟨A,1,none⟩ v1).setCell ⟨A,2,none⟩ v2).setCell ⟨A,3,none⟩ v3):=
 (((h.setCell (p:=⟨A,0,none⟩) I v0).setCell (p:=⟨A,1,none⟩) I v1).setCell (p:=⟨A,2,none⟩) I v2).setCell (p:=⟨A,3,none⟩) I v3
def Wd (wc:World) (A B:Nat) (x y:Int) (K:Nat) (r:Rat):Prop:=0<y/\Rat.divInt x y=r/\nd x.natAbs<=K/\nd y.natAbs<=K/\Ow wc A B x y
theorem O1 {w:World} {A B C:Nat} {t:TypeId} {I:Array Value} (h:Blk w C t I) (J:C≠A) (O:C≠B) (v0 v1 v2 v3:Value):Blk ((((w.setCell ⟨A,0,none⟩ v0).setCell ⟨A,1,none⟩ v1).setCell ⟨B,0,none⟩ v2).setCell ⟨B,1,none⟩ v3) C t I:=
 (((h.far_ (p:=⟨A,0,none⟩) J v0).far_ (p:=⟨A,1,none⟩) J v1).far_ (p:=⟨B,0,none⟩) O v2).far_ (p:=⟨B,1,none⟩) O v3
theorem Kf {b w:World} {A B D:Nat} (h:Below D b w) (I:D<=A) (J:D<=B) (v0 v1 v2 v3:Value):Below D b ((((w.setCell ⟨A,0,none⟩ v0).setCell ⟨A,1,none⟩ v1).setCell ⟨B,0,none⟩ v2).setCell ⟨B,1,none⟩ v3):=
 (((h.setCell (p:=⟨A,0,none⟩) I v0).setCell (p:=⟨A,1,none⟩) I v1).setCell (p:=⟨B,0,none⟩) J v2).setCell (p:=⟨B,1,none⟩) J v3
theorem Kp (s:Bool) (p:Option Addr) (n c:Nat) (x:Int) (t:Bool) (q:Option Addr) (m d:Nat) (y:Int) (w:World) (h:Zr w s p n c x) (h':Zr w t q m d y) (hn:n<=4398046511100) (hm:m<=4398046511100):
  Calls prog 85 #[.agg #[.bool s,.slice p n c],.agg #[.bool t,.slice q m d]] w λe w'=>Eg w' e (Rat.divInt x y)/\Below w.heap.size w w':=by
 have qD:=Kh (λw1 (hb:Below w.heap.size w w1)=>Kl s p n c x w1 (h.keep hb) (by omega));have qE:=Kh (λw1 (hb:Below w.heap.size w w1)=>Kl t q m d y w1 (h'.keep hb) (by omega));have hx:=nS h.size hn;have hy:=nS h'.size hm;have HX:=Kh hx;have HY:=Kh hy;clear h h' hx hy;go_enter func85,ntmps85
 go_upto_region 1 with(fail)
 obtain⟨w0,qT,X0,X1,X2,mC⟩:=Kk w #[.bool s,.slice p n c] 84 #[.bool t,.slice q m d] 84 #[.bool false,.slice none 0 0,.bool false,.slice none 0 0] 86;rw[qT];clear qT;go_cut []from 6 to 9 (λwc=>Ow wc w.heap.size (w.heap.size+1) x y/\Blk wc (w.heap.size+1+1) 86 #[.bool false,.slice none 0 0,.bool false,.slice none 0 0]/\Below w.heap.size w wc)
 case first=>
  have X0:=X0.drew_;have X1:=X1.drew_;have X2:=X2.drew_;have mC:=mC.drew;have c0:=X0.at_ 0 rfl;have c1:=X0.at_ 1 rfl;have c2:=X1.at_ 0 rfl;have c3:=X1.at_ 1 rfl;have aX:=Kh mC;have pV:=Kh X0;have pW:=Kh X1;have pX:=Kh X2;have M1:True:=trivial;clear X0 X1 X2 mC
  go_region_with (first
   |(go_at_call 134;clear M1;refine(qD.1 _ aX.1).mono ?_;rintro e w2 ⟨⟨s2,p2,n2,e2,rfl,cF⟩,Y⟩;have I:=bt aX Y;have pZ:=Kh (bk pV Y);have bY:=Kh (bk pW Y);have hW:=Kh (bk pX Y);have iL:=Kh cF;have a2:=bY.1.at_ 0 rfl;have a3:=bY.1.at_ 1 rfl;clear cF Y pV pW pX aX)
   |(go_at_call 134;refine(qE.1 _ I.1).mono ?_;rintro e w3 ⟨⟨s3,p3,n3,e3,rfl,cG⟩,bC⟩;have hJ:=bt I bC;have cA:=Kh (bk pZ bC);have cB:=Kh (bk bY bC);have oV:=Kh (bk hW bC);have mA:=Kh (And.intro (iL.1.keep bC) cG);have b0:=cA.1.at_ 0 rfl;have b1:=cA.1.at_ 1 rfl;have b2:=cB.1.at_ 0 rfl;have b3:=cB.1.at_ 1 rfl;have f0:=cA.1.free_ 0;have f1:=cA.1.free_ 1;have f2:=cB.1.free_ 0;have f3:=cB.1.free_ 1;clear cG bC pZ bY hW I iL))
  all_goals go_wp2
  all_goals go_meet
  all_goals exact⟨B8 (by omega) cA.1 cB.1 mA.1.1 mA.1.2,O1 oV.1 (by omega) (by omega) _ _ _ _,Kf hJ.1 (nR _) (by omega) _ _ _ _⟩
 case rest=>
  obtain⟨⟨s1,p1,n1,c1,t1,q1,m1,d1,XA,XB,zx,zy⟩,XR,hb⟩:=hcut;have pJ:nd x.natAbs=n1:=zx.2.1;have pI:nd y.natAbs=m1:=zy.2.1;have oR:n1<=4398046511100:=by rw[<-pJ];exact HX.1
  have oQ:m1<=4398046511100:=by rw[<-pI];exact HY.1
  have qS:t1=decide (y<0):=zy.1;have a0:=XA.at_ 0 rfl;have a1:=XA.at_ 1 rfl;have a2:=XB.at_ 0 rfl;have a3:=XB.at_ 1 rfl;have oN:=Kh pJ;have hX:=Kh pI;have O:=Kh XA;have U:=Kh XB;have V:=Kh XR;have aX:=Kh hb;have bA:=Kh zx;have bB:=Kh zy;have oX:=Kh qS;clear qD qE X0 X1 X2 mC pJ pI XA XB XR hb zx zy qS;go_upto_block 0 with(fail)
  go_cut []from 10 to 29 (λwd=>(∃x' y',Wd wd w.heap.size (w.heap.size+1) x' y' 4398046511100 (Rat.divInt x y))/\Blk wd (w.heap.size+1+1) 86 #[.bool false,.slice none 0 0,.bool false,.slice none 0 0]/\Below w.heap.size w wd)
  case first=>
   by_cases hm0:m1=0
   ·have HG:=Kh (show(0:Rat)=Rat.divInt x y by
     have:y=0:=by have:=Bz (v:=y.natAbs);have:=hX.1;omega
     rw[this,Rat.divInt_zero])
    subst hm0;have HO:=Kh (G9 1 wc (by omega) (by omega));go_wp2_with fail
    refine HO.1.mono ?_;rintro e w2 ⟨⟨s2,p2,n2,e2,rfl,cF⟩,Y⟩;have J:=Kh (bk V Y);have HB:=bt aX Y;have HQ:=Kh (show Qs w2 false none 0 0 s2 p2 n2 e2 0 from⟨⟨rfl,rfl,Nm.nil _⟩,cF⟩);clear cF Y HO V aX O U bA bB a0 a1 a2 a3;have r0:=J.1.at_ 0 rfl;have r1:=J.1.at_ 1 rfl;have r2:=J.1.at_ 2 rfl;have r3:=J.1.at_ 3 rfl;have f0:=J.1.free_ 0;have f1:=J.1.free_ 1;have f2:=J.1.free_ 2;have f3:=J.1.free_ 3;obtain⟨w9,Z⟩:∃w9,(((w2.setCell ⟨w.heap.size+1+1,0,none⟩ (.bool false)).setCell ⟨w.heap.size+1+1,1,none⟩ (.slice none 0 0)).setCell ⟨w.heap.size+1+1,2,none⟩ (.bool s2)).setCell ⟨w.heap.size+1+1,3,none⟩ (.slice p2 n2 e2)=w9:=⟨_,rfl⟩
    obtain⟨E0,E1,E2,E3,cD⟩:=Cd J.1 HQ.1 Z;have cC:Below w.heap.size w w9:=by rw[<-Z];exact As HB.1 (by omega) _ _ _ _
    have hD:=Kh Z;have gU:=Kh (And.intro E0 (And.intro E1 (And.intro E2 E3)));have hB:=Kh cD;have gS:=Kh cC;clear E0 E1 E2 E3 cD cC Z HQ HB J;go_wp2;try rw[hD.1]
    obtain⟨E0,E1,E2,E3⟩:=gU.1;try simp only[Exit.inBlock,Exit.then]
    refine bodyPost_ret (by simp[results,results85,go_sem,E0,E1,E2,E3];try rfl) rfl ?_;exact⟨⟨false,none,0,0,s2,p2,n2,e2,rfl,HG.1▸hB.1⟩,gS.1⟩
   ·have sW:((m1:Int)==0)=false:=beq_eq_false_iff_ne.2 (by omega)
    by_cases hn0:n1=0
    ·have HG:=Kh (show(0:Rat)=Rat.divInt x y by
      have:x=0:=by have:=Bz (v:=x.natAbs);have:=oN.1;omega
      rw[this,Mz])
     subst hn0;have HO:=Kh (G9 1 wc (by omega) (by omega));go_wp2_with fail
     refine HO.1.mono ?_;rintro e w2 ⟨⟨s2,p2,n2,e2,rfl,cF⟩,Y⟩;have J:=Kh (bk V Y);have HB:=bt aX Y;have HQ:=Kh (show Qs w2 false none 0 0 s2 p2 n2 e2 0 from⟨⟨rfl,rfl,Nm.nil _⟩,cF⟩);clear cF Y HO V aX O U bA bB a0 a1 a2 a3;have r0:=J.1.at_ 0 rfl;have r1:=J.1.at_ 1 rfl;have r2:=J.1.at_ 2 rfl;have r3:=J.1.at_ 3 rfl;have f0:=J.1.free_ 0;have f1:=J.1.free_ 1;have f2:=J.1.free_ 2;have f3:=J.1.free_ 3;obtain⟨w9,Z⟩:∃w9,(((w2.setCell ⟨w.heap.size+1+1,0,none⟩ (.bool false)).setCell ⟨w.heap.size+1+1,1,none⟩ (.slice none 0 0)).setCell ⟨w.heap.size+1+1,2,none⟩ (.bool s2)).setCell ⟨w.heap.size+1+1,3,none⟩ (.slice p2 n2 e2)=w9:=⟨_,rfl⟩
     obtain⟨E0,E1,E2,E3,cD⟩:=Cd J.1 HQ.1 Z;have cC:Below w.heap.size w w9:=by rw[<-Z];exact As HB.1 (by omega) _ _ _ _
     have hD:=Kh Z;have gU:=Kh (And.intro E0 (And.intro E1 (And.intro E2 E3)));have hB:=Kh cD;have gS:=Kh cC;clear E0 E1 E2 E3 cD cC Z HQ HB J;go_wp2;try rw[hD.1]
     obtain⟨E0,E1,E2,E3⟩:=gU.1;try simp only[Exit.inBlock,Exit.then]
     refine bodyPost_ret (by simp[results,results85,go_sem,E0,E1,E2,E3];try rfl) rfl ?_;exact⟨⟨false,none,0,0,s2,p2,n2,e2,rfl,HG.1▸hB.1⟩,gS.1⟩
    ·have sX:((n1:Int)==0)=false:=beq_eq_false_iff_ne.2 (by omega)
     have qW:y≠0:=λh=>hm0 (by rw[<-hX.1,h];rfl)
     have eP:=Kh qW;clear qW;cases t1 with
     | false=>
      have qZ:0<y:=by have h1:=oX.1;have h2:=eP.1;simp at h1;omega
      have HF:=Kh (show Wd wc w.heap.size (w.heap.size+1) x y 4398046511100 (Rat.divInt x y)from⟨qZ,rfl,HX.1,HY.1,_,_,_,_,_,_,_,_,O.1,U.1,bA.1,bB.1⟩);clear qZ;go_wp2;go_meet
      case rel=>exact⟨⟨x,y,HF.1⟩,V.1,aX.1⟩
     | true=>
      have qY:0 < -y:=by have h1:=oX.1;simp at h1;omega
      have rV:=Kh qY;have rT:=Kh (λw1 (hb:Below wc.heap.size wc w1)=>Wx s1 p1 n1 c1 x w1 (bA.1.keep hb).raw (by omega));have rU:=Kh (λw1 (hb:Below wc.heap.size wc w1)=>Wx true q1 m1 d1 y w1 (bB.1.keep hb).raw (by omega));have pY:=Kh (Below.refl wc.heap.size wc).drew;have M1:True:=trivial;clear qY;go_upto_region 5 with(fail)
      go_region_with (first
       |(go_at_call 98;clear M1;refine(rT.1 _ pY.1).mono ?_;rintro e w2 ⟨⟨s2,p2,n2,e2,rfl,cF⟩,Y⟩;have I:=bt pY Y;have iL:=Kh cF;have bY:=Kh (U.1.below_ I.1 U.1.lt);have sR:=bY.1.at_ 0 rfl;have sS:=bY.1.at_ 1 rfl;clear cF Y bY)
       |(go_at_call 98;refine(rU.1 _ I.1).mono ?_;rintro e w3 ⟨⟨s3,p3,n3,e3,rfl,cG⟩,bC⟩;have hJ:=bt I bC;have cA:=Kh (O.1.below_ hJ.1 O.1.lt);have cB:=Kh (U.1.below_ hJ.1 U.1.lt);have oV:=Kh (V.1.below_ hJ.1 V.1.lt);have mA:=Kh (And.intro (iL.1.keep bC) cG);have b0:=cA.1.at_ 0 rfl;have b1:=cA.1.at_ 1 rfl;have b2:=cB.1.at_ 0 rfl;have b3:=cB.1.at_ 1 rfl;have f0:=cA.1.free_ 0;have f1:=cA.1.free_ 1;have f2:=cB.1.free_ 0;have f3:=cB.1.free_ 1;clear cG bC I iL))
      all_goals go_wp2
      all_goals go_meet
      all_goals exact⟨⟨-x,-y,rV.1,Qc x y,by rw[Int.natAbs_neg];exact HX.1,by rw[Int.natAbs_neg];exact HY.1,B8 (by omega) cA.1 cB.1 mA.1.1 mA.1.2⟩,O1 oV.1 (by omega) (by omega) _ _ _ _,Kf (aX.1.trans (hJ.1.mono aX.1.size)) (nR _) (by omega) _ _ _ _⟩
  case rest=>
   clear oN hX O U V aX bA bB oX HX HY a0 a1 a2 a3 oR oQ n1 m1 s1 t1 p1 q1 c1 d1;obtain⟨⟨x',y',hy,hr,qU,qX,s1,p1,n1,c1,t1,q1,m1,d1,XA,XB,zx,zy⟩,XR,hb⟩:=hcut;have a0:=XA.at_ 0 rfl;have a1:=XA.at_ 1 rfl;have a2:=XB.at_ 0 rfl;have a3:=XB.at_ 1 rfl;have oR:n1<=4398046511100:=by rw[<-zx.2.1];exact qU
   have oQ:m1<=4398046511100:=by rw[<-zy.2.1];exact qX
   have HO:=Kh (Sy t1 q1 m1 d1 y' wc zy.raw (by omega));have bA:=Kh zx;have bB:=Kh zy;have O:=Kh XA;have U:=Kh XB;have V:=Kh XR;have aX:=Kh hb;have eP:=Kh hy;have hZ:=Kh hr;clear hy hr qU qX XA XB zx zy XR hb;go_wp2_with fail
   refine HO.1.mono ?_;rintro e w2 ⟨⟨b,rfl,mD⟩,Y⟩;have I:=Kh Y;have dY:=Kh mD;clear Y HO mD;have b0:=(O.1.below_ I.1 O.1.lt).at_ 0 rfl;have b1:=(O.1.below_ I.1 O.1.lt).at_ 1 rfl;have b2:=(U.1.below_ I.1 U.1.lt).at_ 0 rfl;have b3:=(U.1.below_ I.1 U.1.lt).at_ 1 rfl;clear a0 a1 a2 a3;cases b with
   | true=>
    have HG:=Kh (show Rat.divInt x' 1=Rat.divInt x y by rw[<-hZ.1,dY.1 rfl])
    have HQ:=Kh (show Qs w2 s1 p1 n1 c1 t1 q1 m1 d1 (Rat.divInt x' 1)by
     have h1:=bA.1.keep I.1;have h2:=bB.1.keep I.1;rw[dY.1 rfl]at h2;unfold Qs;rw[(H7 x').1,(H7 x').2];exact⟨h1,h2⟩)
    have J:=Kh (V.1.below_ I.1 V.1.lt);have HB:=Kh (aX.1.trans (I.1.mono aX.1.size));clear dY hZ eP bA bB O U V aX I;have r0:=J.1.at_ 0 rfl;have r1:=J.1.at_ 1 rfl;have r2:=J.1.at_ 2 rfl;have r3:=J.1.at_ 3 rfl;have f0:=J.1.free_ 0;have f1:=J.1.free_ 1;have f2:=J.1.free_ 2;have f3:=J.1.free_ 3;obtain⟨w9,Z⟩:∃w9,(((w2.setCell ⟨w.heap.size+1+1,0,none⟩ (.bool s1)).setCell ⟨w.heap.size+1+1,1,none⟩ (.slice p1 n1 c1)).setCell ⟨w.heap.size+1+1,2,none⟩ (.bool t1)).setCell ⟨w.heap.size+1+1,3,none⟩ (.slice q1 m1 d1)=w9:=⟨_,rfl⟩
    obtain⟨E0,E1,E2,E3,cD⟩:=Cd J.1 HQ.1 Z;have cC:Below w.heap.size w w9:=by rw[<-Z];exact As HB.1 (by omega) _ _ _ _
    have hD:=Kh Z;have gU:=Kh (And.intro E0 (And.intro E1 (And.intro E2 E3)));have hB:=Kh cD;have gS:=Kh cC;clear E0 E1 E2 E3 cD cC Z HQ HB J;go_wp2;try rw[hD.1]
    obtain⟨E0,E1,E2,E3⟩:=gU.1;try simp only[Exit.inBlock,Exit.then]
    refine bodyPost_ret (by simp[results,results85,go_sem,E0,E1,E2,E3];try rfl) rfl ?_;exact⟨⟨s1,p1,n1,c1,t1,q1,m1,d1,rfl,HG.1▸hB.1⟩,gS.1⟩
   | false=>
    have qC:=Kh (jX s1 p1 n1 c1 x' t1 q1 m1 d1 y' w2 (bA.1.keep I.1).raw (bB.1.keep I.1).raw (by omega) (by omega));clear dY;go_wp2_with fail
    refine qC.1.mono ?_;rintro e w3 ⟨⟨s3,p3,n3,e3,rfl,cG⟩,bC⟩;obtain⟨wg,sB⟩:∃wg,w3.alloc (.cells #[.bool s3,.slice p3 n3 e3] 84)=wg:=⟨_,rfl⟩
    obtain⟨XG,mE⟩:=Gy w3 #[.bool s3,.slice p3 n3 e3] 84;rw[sB]at XG mE;have hI:Below wc.heap.size wc w3:=I.1.trans (bC.mono I.1.size);have qR:Below wc.heap.size wc wg:=hI.trans (mE.mono hI.size)
    have sU:n3<=n1+m1:=by
     have h1:=cG.2.1;rw[Int.natAbs_natCast]at h1;rw[<-h1];by_cases hx0:x'.natAbs=0
     ·have e:Int.gcd x' y'=y'.natAbs:=by show Nat.gcd x'.natAbs y'.natAbs=_;rw[hx0,Nat.gcd_zero_left]
      rw[e];have:=bB.1.2.1;omega
     ·have e:=Bv (Nat.gcd_le_left y'.natAbs (show 0<x'.natAbs by omega))
      have:=bA.1.2.1;exact nS e (by omega)
    have pH:w3.heap.size≠w.heap.size/\w3.heap.size≠w.heap.size+1/\w3.heap.size≠w.heap.size+1+1:=by
     have h1:=O.1.lt;have h2:=U.1.lt;have h3:=V.1.lt;have h4:=hI.size;omega
    obtain⟨gb,sA⟩:∃gb,w3.heap.size=gb:=⟨_,rfl⟩
    rw[sA]at XG pH;have hE:=Kh XG;have oW:=Kh pH;have hM:=Kh (cG.keep mE);have HD:=Kh qR;have g0:=XG.at_ 0 rfl;have g1:=XG.at_ 1 rfl;have HO:=Kh (Sy s3 p3 n3 e3 _ wg (cG.keep mE).raw (by omega));clear cG bC qC hI qR mE XG pH b0 b1 b2 b3;go_wp2_with fail
    refine HO.1.mono ?_;rintro e w4 ⟨⟨b,rfl,mD⟩,oE⟩;have bE:Below wc.heap.size wc w4:=HD.1.trans (oE.mono HD.1.size);have dY:=Kh mD;replace HD:=Kh bE;replace O:=Kh (bk O bE);replace U:=Kh (bk U bE);replace V:=Kh (bk V bE);replace hE:=Kh (bk hE oE);replace bA:=Kh (bA.1.keep bE);replace bB:=Kh (bB.1.keep bE);replace hM:=Kh (hM.1.keep oE);have hV:=bt aX bE;clear mD oE bE HO aX I g0 g1 HD;go_upto_if 40 with(fail)
    go_cut []from 41 to 52 (λwf=>(∃s' p' n' c' t' q' m' d',Blk wf w.heap.size 84 #[.bool s',.slice p' n' c']/\Blk wf (w.heap.size+1) 84 #[.bool t',.slice q' m' d']/\Qs wf s' p' n' c' t' q' m' d' (Rat.divInt x y))/\Blk wf (w.heap.size+1+1) 86 #[.bool false,.slice none 0 0,.bool false,.slice none 0 0]/\Below w.heap.size w wf)
    case first=>
     cases b with
     | true=>
      have HQ:=Kh (show Qs w4 s1 p1 n1 c1 t1 q1 m1 d1 (Rat.divInt x y)by
       have h1:=Ga (n:=x') eP.1;have h2:=F9 (n:=x') eP.1;rw[dY.1 rfl,Int.ediv_one,hZ.1]at h1 h2;unfold Qs;rw[h1,h2];exact⟨bA.1,bB.1⟩)
      clear dY;go_wp2;go_meet
      case rel=>exact⟨⟨_,_,_,_,_,_,_,_,O.1,U.1,HQ.1⟩,V.1,hV.1⟩
     | false=>
      have pG:((Int.gcd x' y':Nat):Int)≠0:=by
       have h1:=Int.gcd_pos_iff (a:=x') (b:=y');have h2:=eP.1;have h3:=h1.2 (Or.inr (by omega));omega
      have bY:=Kh (λw5 (hb:Below w4.heap.size w4 w5)=>Su s1 p1 n1 c1 x' s3 p3 n3 e3 _ w5 (bA.1.keep hb).raw (hM.1.keep hb).raw (by omega) (by omega) pG (Int.emod_eq_zero_of_dvd (Int.gcd_dvd_left ..)));have hW:=Kh (λw5 (h1:Zr w5 t1 q1 m1 d1 y') (h2:Zr w5 s3 p3 n3 e3 (Int.gcd x' y':Nat))=>Su t1 q1 m1 d1 y' s3 p3 n3 e3 _ w5 h1 h2 (by omega) (by omega) pG (Int.emod_eq_zero_of_dvd (Int.gcd_dvd_right ..)));have a0:=O.1.at_ 0 rfl;have a1:=O.1.at_ 1 rfl;have g0:=hE.1.at_ 0 rfl;have g1:=hE.1.at_ 1 rfl;clear pG dY;go_wp2_with fail
      refine(bY.1 w4 (Below.refl _ _)).mono ?_;rintro e w5 ⟨⟨s5,p5,n5,e5,rfl,rA⟩,gN⟩;have YA:=bk O gN;have YB:=bk U gN;have YR:=bk V gN;have YG:=bk hE gN;obtain⟨w6,pK⟩:∃w6,(w5.setCell ⟨w.heap.size,0,none⟩ (.bool s5)).setCell ⟨w.heap.size,1,none⟩ (.slice p5 n5 e5)=w6:=⟨_,rfl⟩
      obtain⟨ZA,z5⟩:=Fh YA rA;have st:=Sts.box YA;have ZB:=(YB.far_ (p:=⟨w.heap.size,0,none⟩) (by show w.heap.size+1≠w.heap.size;omega) (.bool s5)).far_ (p:=⟨w.heap.size,1,none⟩) (by show w.heap.size+1≠w.heap.size;omega) (.slice p5 n5 e5);have ZR:=(YR.far_ (p:=⟨w.heap.size,0,none⟩) (by show w.heap.size+1+1≠w.heap.size;omega) (.bool s5)).far_ (p:=⟨w.heap.size,1,none⟩) (by show w.heap.size+1+1≠w.heap.size;omega) (.slice p5 n5 e5);have ZG:=(YG.far_ (p:=⟨w.heap.size,0,none⟩) oW.1.1 (.bool s5)).far_ (p:=⟨w.heap.size,1,none⟩) oW.1.1 (.slice p5 n5 e5);have zy:=(bB.1.keep gN).put2 st 0 1 (.bool s5) (.slice p5 n5 e5) (NotInt.bool _);have zg:=(hM.1.keep gN).put2 st 0 1 (.bool s5) (.slice p5 n5 e5) (NotInt.bool _);have pF:Below w.heap.size w ((w5.setCell ⟨w.heap.size,0,none⟩ (.bool s5)).setCell ⟨w.heap.size,1,none⟩ (.slice p5 n5 e5)):=((hV.1.trans (gN.mono hV.1.size)).setCell (nR _) _).setCell (nR _) _;rw[pK]at ZA ZB ZR ZG zy zg pF z5;have a0:=YA.at_ 0 rfl;have a1:=YA.at_ 1 rfl;have f0:=YA.free_ 0;have f1:=YA.free_ 1;have b2:=ZB.at_ 0 rfl;have b3:=ZB.at_ 1 rfl;have g0:=ZG.at_ 0 rfl;have g1:=ZG.at_ 1 rfl;have qG:=Kh ZA;have qH:=Kh ZB;have qI:=Kh ZR;have qF:=Kh z5;have qA:=Kh (hW.1 w6 zy.raw zg.raw);have oU:=Kh pF;clear gN rA YA YB YR YG ZA ZB ZR ZG z5 zy zg pF st bY hW hV O U V hE bA bB hM;go_wp2_with fail
      try rw[pK]
      refine qA.1.mono ?_;rintro e w7 ⟨⟨s7,p7,n7,e7,rfl,rB⟩,hQ⟩;have YA:=bk qG hQ;have YB:=bk qH hQ;have YR:=bk qI hQ;obtain⟨ZB,z7⟩:=Fh YB rB;have ZA:=(YA.far_ (p:=⟨w.heap.size+1,0,none⟩) (by show w.heap.size≠w.heap.size+1;omega) (.bool s7)).far_ (p:=⟨w.heap.size+1,1,none⟩) (by show w.heap.size≠w.heap.size+1;omega) (.slice p7 n7 e7);have ZR:=(YR.far_ (p:=⟨w.heap.size+1,0,none⟩) (by show w.heap.size+1+1≠w.heap.size+1;omega) (.bool s7)).far_ (p:=⟨w.heap.size+1,1,none⟩) (by show w.heap.size+1+1≠w.heap.size+1;omega) (.slice p7 n7 e7);have z5:=(qF.1.keep hQ).put2 (Sts.box YB) 0 1 (.bool s7) (.slice p7 n7 e7) (NotInt.bool _);have qQ:Below w.heap.size w ((w7.setCell ⟨w.heap.size+1,0,none⟩ (.bool s7)).setCell ⟨w.heap.size+1,1,none⟩ (.slice p7 n7 e7)):=((oU.1.trans (hQ.mono oU.1.size)).setCell (by show w.heap.size<=w.heap.size+1;omega) _).setCell (by show w.heap.size<=w.heap.size+1;omega) _;have c0:=YB.at_ 0 rfl;have c1:=YB.at_ 1 rfl;have f2:=YB.free_ 0;have f3:=YB.free_ 1
      have HF:=Kh (show(∃s' p' n' c' t' q' m' d',Blk ((w7.setCell ⟨w.heap.size+1,0,none⟩ (.bool s7)).setCell ⟨w.heap.size+1,1,none⟩ (.slice p7 n7 e7)) w.heap.size 84 #[.bool s',.slice p' n' c']/\Blk ((w7.setCell ⟨w.heap.size+1,0,none⟩ (.bool s7)).setCell ⟨w.heap.size+1,1,none⟩ (.slice p7 n7 e7)) (w.heap.size+1) 84 #[.bool t',.slice q' m' d']/\Qs ((w7.setCell ⟨w.heap.size+1,0,none⟩ (.bool s7)).setCell ⟨w.heap.size+1,1,none⟩ (.slice p7 n7 e7)) s' p' n' c' t' q' m' d' (Rat.divInt x y))by
       refine⟨_,_,_,_,_,_,_,_,ZA,ZB,?_⟩;have h1:=Ga (n:=x') eP.1;have h2:=F9 (n:=x') eP.1;rw[hZ.1]at h1 h2;unfold Qs;rw[h1,h2];exact⟨z5,z7⟩)
      have qJ:=Kh ZR;have rR:=Kh qQ;clear hQ rB YA YB YR ZA ZB ZR z5 z7 qQ qA oU qG qH qI qF a0 a1 f0 f1 b2 b3 g0 g1 pK;go_wp2;go_meet
      case rel=>exact⟨HF.1,qJ.1,rR.1⟩
    case rest=>
     clear O U V hE bA bB hM oW hV dY hZ eP;obtain⟨⟨s5,p5,n5,e5,t5,q5,m5,d5,XA,XB,hq⟩,XR,hb⟩:=hcut;have a0:=XA.at_ 0 rfl;have a1:=XA.at_ 1 rfl;have a2:=XB.at_ 0 rfl;have a3:=XB.at_ 1 rfl;have HQ:=Kh hq;have J:=Kh XR;have HB:=Kh hb;clear XA XB XR hq hb;have r0:=J.1.at_ 0 rfl;have r1:=J.1.at_ 1 rfl;have r2:=J.1.at_ 2 rfl;have r3:=J.1.at_ 3 rfl;have f0:=J.1.free_ 0;have f1:=J.1.free_ 1;have f2:=J.1.free_ 2;have f3:=J.1.free_ 3;obtain⟨w9,Z⟩:∃w9,(((wc.setCell ⟨w.heap.size+1+1,0,none⟩ (.bool s5)).setCell ⟨w.heap.size+1+1,1,none⟩ (.slice p5 n5 e5)).setCell ⟨w.heap.size+1+1,2,none⟩ (.bool t5)).setCell ⟨w.heap.size+1+1,3,none⟩ (.slice q5 m5 d5)=w9:=⟨_,rfl⟩
     obtain⟨E0,E1,E2,E3,cD⟩:=Cd J.1 HQ.1 Z;have cC:Below w.heap.size w w9:=by rw[<-Z];exact As HB.1 (by omega) _ _ _ _
     have hD:=Kh Z;have gU:=Kh (And.intro E0 (And.intro E1 (And.intro E2 E3)));have hB:=Kh cD;have gS:=Kh cC;clear E0 E1 E2 E3 cD cC Z HQ HB J;go_wp2;try rw[hD.1]
     obtain⟨E0,E1,E2,E3⟩:=gU.1;try simp only[Exit.inBlock,Exit.then]
     refine bodyPost_ret (by simp[results,results85,go_sem,E0,E1,E2,E3];try rfl) rfl ?_;exact⟨⟨s5,p5,n5,e5,t5,q5,m5,d5,rfl,hB.1⟩,gS.1⟩
theorem Qs.put4 {w:World} {R:Nat} (I:Sts w R) {s t:Bool} {p q:Option Addr} {n c m d:Nat} {r:Rat} (h:Qs w s p n c t q m d r) (v0 v1 v2 v3:Value) (V:NotInt v0) (Y:NotInt v1) (Z:NotInt v2):
  Qs ((((w.setCell ⟨R,0,none⟩ v0).setCell ⟨R,1,none⟩ v1).setCell ⟨R,2,none⟩ v2).setCell ⟨R,3,none⟩ v3) s p n c t q m d r:=by
 have J:=I.put ⟨R,0,none⟩ v0 V;have O:=J.put ⟨R,1,none⟩ v1 Y;have U:=O.put ⟨R,2,none⟩ v2 Z;exact⟨(((h.1.put I 0 _).put J 1 _).put O 2 _).put U 3 _,(((h.2.put I 0 _).put J 1 _).put O 2 _).put U 3 _⟩
theorem Iu (s:Bool) (p:Option Addr) (n c:Nat) (x:Int) (t:Bool) (q:Option Addr) (m d:Nat) (y:Int) (w:World) (h:Zr w s p n c x) (h':Zr w t q m d y) (hn:n<=4398046511100) (hm:m<=4398046511100):
  Calls prog 80 #[.agg #[.bool s,.slice p n c,.bool t,.slice q m d]] w λe w'=>Eg w' e (Rat.divInt x y)/\Below w.heap.size w w':=by
 have HC:=Kh (λw1 (hb:Below w.heap.size w w1)=>Kp s p n c x t q m d y w1 (h.keep hb) (h'.keep hb) hn hm);clear h h';go_enter func80,ntmps80
 go_wp2_with fail
 obtain⟨w0,bB,X0,X1,Y⟩:=bx2 w #[.bool s,.slice p n c,.bool t,.slice q m d] 86 #[.bool false,.slice none 0 0,.bool false,.slice none 0 0] 86;rw[bB];have V:=Kh X1;have O:=Kh Y;clear X0 X1 Y bB;refine(HC.1 _ O.1).mono ?_;rintro e w2 ⟨⟨s2,p2,n2,e2,t2,q2,m2,d2,rfl,aX⟩,U⟩;have HQ:=Kh aX;have I:=Kh (bk V U);have HB:=bt O U;clear aX U V O HC;have r0:=I.1.at_ 0 rfl;have r1:=I.1.at_ 1 rfl;have r2:=I.1.at_ 2 rfl;have r3:=I.1.at_ 3 rfl;have f0:=I.1.free_ 0;have f1:=I.1.free_ 1;have f2:=I.1.free_ 2;have f3:=I.1.free_ 3;obtain⟨w9,J⟩:∃w9,(((w2.setCell ⟨w.heap.size+1,0,none⟩ (.bool s2)).setCell ⟨w.heap.size+1,1,none⟩ (.slice p2 n2 e2)).setCell ⟨w.heap.size+1,2,none⟩ (.bool t2)).setCell ⟨w.heap.size+1,3,none⟩ (.slice q2 m2 d2)=w9:=⟨_,rfl⟩
 obtain⟨E0,E1,E2,E3,bA⟩:=Cd I.1 HQ.1 J;have Z:Below w.heap.size w w9:=by rw[<-J];exact As HB.1 (by omega) _ _ _ _
 have cF:=Kh J;have cC:=Kh (And.intro E0 (And.intro E1 (And.intro E2 E3)));have cD:=Kh bA;have cB:=Kh Z;clear E0 E1 E2 E3 bA Z J HQ HB I;go_wp2;try rw[cF.1]
 obtain⟨E0,E1,E2,E3⟩:=cC.1;try simp only[Exit.inBlock,Exit.then]
 refine bodyPost_ret (by simp[results,results80,go_sem,E0,E1,E2,E3];try rfl) rfl ?_;exact⟨⟨s2,p2,n2,e2,t2,q2,m2,d2,rfl,cD.1⟩,cB.1⟩
theorem En (z:Int) (w:World) (h1:-4611686018427387904<=z) (h2:z<=4611686018427387904):
  Calls prog 49 #[.int .i64 z] w λe w'=>Eg w' e (z:Rat)/\Below w.heap.size w w':=by
 have HC:=Kh (λw1=>G9 z w1 h1 h2);have HO:=Kh (λw1=>G9 1 w1 (by omega) (by omega));clear h1 h2;go_enter func49,ntmps49
 go_wp2_with fail
 obtain⟨w0,bC,X0,aX⟩:=bx1 w #[.bool false,.slice none 0 0,.bool false,.slice none 0 0] 86;rw[bC];have J:=Kh X0;have Y:=Kh aX;clear X0 aX bC;refine(HC.1 _).mono ?_;rintro e w1 ⟨⟨s2,p2,n2,e2,rfl,bE⟩,V⟩;have h:=Kh bE;have Z:=bt Y V;replace J:=Kh (bk J V);clear bE V HC;go_wp2_with fail
 refine(HO.1 _).mono ?_;rintro e w2 ⟨⟨t2,q2,m2,d2,rfl,bY⟩,O⟩;have HQ:=Kh (show Qs w2 s2 p2 n2 e2 t2 q2 m2 d2 (z:Rat)from⟨h.1.keep O,bY⟩);have I:=Kh (bk J O);have HB:=bt Z O;clear bY O J Z h HO Y;have r0:=I.1.at_ 0 rfl;have r1:=I.1.at_ 1 rfl;have r2:=I.1.at_ 2 rfl;have r3:=I.1.at_ 3 rfl;have f0:=I.1.free_ 0;have f1:=I.1.free_ 1;have f2:=I.1.free_ 2;have f3:=I.1.free_ 3;obtain⟨w9,U⟩:∃w9,(((w2.setCell ⟨w.heap.size,0,none⟩ (.bool s2)).setCell ⟨w.heap.size,1,none⟩ (.slice p2 n2 e2)).setCell ⟨w.heap.size,2,none⟩ (.bool t2)).setCell ⟨w.heap.size,3,none⟩ (.slice q2 m2 d2)=w9:=⟨_,rfl⟩
 obtain⟨E0,E1,E2,E3,bB⟩:=Cd I.1 HQ.1 U;have bA:Below w.heap.size w w9:=by rw[<-U];exact As HB.1 (by omega) _ _ _ _
 have dC:=Kh U;have cT:=Kh (And.intro E0 (And.intro E1 (And.intro E2 E3)));have cX:=Kh bB;have cG:=Kh bA;clear E0 E1 E2 E3 bB bA U HQ HB I;go_wp2;try rw[dC.1]
 obtain⟨E0,E1,E2,E3⟩:=cT.1;try simp only[Exit.inBlock,Exit.then]
 refine bodyPost_ret (by simp[results,results49,go_sem,E0,E1,E2,E3];try rfl) rfl ?_;exact⟨⟨s2,p2,n2,e2,t2,q2,m2,d2,rfl,cX.1⟩,cG.1⟩
theorem Xf (s:Bool) (p:Option Addr) (n c:Nat) (x:Int) (t:Bool) (q:Option Addr) (m d:Nat) (y:Int) (s':Bool) (p':Option Addr) (h c':Nat) (V:Int) (t':Bool) (q':Option Addr) (Z d':Nat) (Y:Int) (w:World) (h1:Zr w s p n c x) (h2:Zr w t q m d y) (h3:Zr w s' p' h c' V) (h4:Zr w t' q' Z d' Y) (hn:n<=2199023255500) (hm:m<=2199023255500) (mA:h<=2199023255500) (iL:Z<=2199023255500):
  Calls prog 44 #[.agg #[.bool s,.slice p n c,.bool t,.slice q m d],.agg #[.bool s',.slice p' h c',.bool t',.slice q' Z d']] w λe w'=>Eg w' e (Rat.divInt x y*Rat.divInt V Y)/\Below w.heap.size w w':=by
 have HV:=Kh (Rat.divInt_mul_divInt x V (d₁:=y) (d₂:=Y));have eP:=Kh (show nd (x*V).natAbs<=4398046511100 by rw[Int.natAbs_mul];have:=Cm x.natAbs V.natAbs;have:=h1.size;have:=h3.size;omega);have gA:=Kh (show nd (y*Y).natAbs<=4398046511100 by rw[Int.natAbs_mul];have:=Cm y.natAbs Y.natAbs;have:=h2.size;have:=h4.size;omega);have dC:=Kh (λI (hb:Below w.heap.size w I)=>Ho s p n c x s' p' h c' V I (h1.keep hb) (h3.keep hb) (by omega) (by omega));have dE:=Kh (λI (hb:Below w.heap.size w I)=>Ho t q m d y t' q' Z d' Y I (h2.keep hb) (h4.keep hb) (by omega) (by omega));clear h1 h2 h3 h4;go_enter func44,ntmps44
 go_upto_region 1 with(fail)
 obtain⟨w0,cC,X0,X1,J,bY⟩:=Kk w #[.bool s,.slice p n c,.bool t,.slice q m d] 86 #[.bool s',.slice p' h c',.bool t',.slice q' Z d'] 86 #[.bool false,.slice none 0 0,.bool false,.slice none 0 0] 86;rw[cC];have hJ:w.heap.size<=w0.heap.size:=bY.size;clear cC;have M1:True:=trivial;have T2:=Sts.of J (by intro v hv;simp at hv;rcases hv with rfl|rfl|rfl|rfl <;> first|exact NotInt.bool _|exact NotInt.slice _ _ _);have hE:=A6 (Below.refl _ w0).drew ⟨X0.c0,X0.c1,X0.c2,X0.c3,X1.c0,X1.c1,X1.c2,X1.c3,J.so 0,J.free_ 0,T2,J.so 1,J.free_ 1,T2,J.so 2,J.free_ 2,T2,J.so 3,J.free_ 3,T2,bY,hJ⟩;clear X0 X1 J
 go_region_held3 (λI=>I.cell? ⟨w.heap.size,0,none⟩=some (.bool s)/\I.cell? ⟨w.heap.size,1,none⟩=some (.slice p n c)/\I.cell? ⟨w.heap.size,2,none⟩=some (.bool t)/\I.cell? ⟨w.heap.size,3,none⟩=some (.slice q m d)/\I.cell? ⟨w.heap.size+1,0,none⟩=some (.bool s')/\I.cell? ⟨w.heap.size+1,1,none⟩=some (.slice p' h c')/\I.cell? ⟨w.heap.size+1,2,none⟩=some (.bool t')/\I.cell? ⟨w.heap.size+1,3,none⟩=some (.slice q' Z d')/\I.cell? ⟨w.heap.size+1+1,0,none⟩=some (cellOf I ⟨w.heap.size+1+1,0,none⟩)/\I.frozen? ⟨w.heap.size+1+1,0,none⟩=false/\Sts I (w.heap.size+1+1)/\I.cell? ⟨w.heap.size+1+1,1,none⟩=some (cellOf I ⟨w.heap.size+1+1,1,none⟩)/\I.frozen? ⟨w.heap.size+1+1,1,none⟩=false/\Sts I (w.heap.size+1+1)/\I.cell? ⟨w.heap.size+1+1,2,none⟩=some (cellOf I ⟨w.heap.size+1+1,2,none⟩)/\I.frozen? ⟨w.heap.size+1+1,2,none⟩=false/\Sts I (w.heap.size+1+1)/\I.cell? ⟨w.heap.size+1+1,3,none⟩=some (cellOf I ⟨w.heap.size+1+1,3,none⟩)/\I.frozen? ⟨w.heap.size+1+1,3,none⟩=false/\Sts I (w.heap.size+1+1)/\Below w.heap.size w I/\w.heap.size<=I.heap.size)
  (first|with_reducible exact hE |(refine A6 (by with_reducible assumption) ?_;assumption) |(refine D3 ?_ ?_ ?_ ?_ ?_ ?_ ?_ ?_ ?_ ?_ ?_ ?_ ?_ ?_ ?_ ?_ ?_ ?_ ?_ ?_ ?_ ?_ ?_ ?_ ?_ ?_ ?_ ?_ ?_ ?_ ?_ ?_ ?_ ?_ ?_ ?_ ?_ ?_ ?_ ?_ ?_ <;> first|assumption|exact NotInt.bool _|exact NotInt.slice _ _ _ |(dsimp only;omega) |(simp;done)))
  (first
   |(go_at_call 84;clear M1;refine(dC.1 _ (Bg (by with_reducible assumption))).mono ?_;rintro e w2 ⟨⟨s2,p2,n2,e2,rfl,cD⟩,hG⟩;have O:=Kh cD;clear cD)
   |(go_at_call 84;refine(dE.1 _ (Bg (by with_reducible assumption))).mono ?_;rintro e w3 ⟨⟨s3,p3,n3,e3,rfl,U⟩,cA⟩;have dY:=Kh (Kp s2 p2 n2 e2 (x*V) s3 p3 n3 e3 (y*Y) w3 (O.1.keep cA).raw U.raw (by rw[<-O.1.2.1];exact eP.1) (by rw[<-U.2.1];exact gA.1));clear U hG O)
   |(go_at_call 85;refine dY.1.mono ?_;rintro e w4 ⟨⟨s4,p4,n4,e4,t4,q4,m4,d4,rfl,cB⟩,hH⟩;clear cA;obtain⟨⟨gS,hT⟩,⟨gU,_⟩,⟨hB,_⟩,⟨hD,_⟩⟩:=Hl hH (by with_reducible assumption);have hI:=Kh (cB.put4 hT (.bool s4) (.slice p4 n4 e4) (.bool t4) (.slice q4 m4 d4) (NotInt.bool _) (NotInt.slice _ _ _) (NotInt.bool _));clear cB hT))
 go_wp2;try simp only[Exit.inBlock,Exit.then]
 refine bodyPost_ret (by simp[results,results44,go_sem,gS,gU,hB,hD];try rfl) rfl ?_;exact⟨⟨s4,p4,n4,e4,t4,q4,m4,d4,rfl,HV.1▸hI.1⟩,Bg (by assumption)⟩
abbrev aW (B:Nat) (w0 w:World) (a0 a1 a2 a3:Addr) (v0 v1 v2 v3:Value):Prop:=w.cell? a0=some v0/\w.cell? a1=some v1/\w.cell? a2=some v2/\w.cell? a3=some v3/\Below B w0 w/\B<=w.heap.size
theorem Eh {B:Nat} {w0 w w':World} {I J O U:Addr} {v0 v1 v2 v3:Value} (V:Below w.heap.size w w') (h:aW B w0 w I J O U v0 v1 v2 v3):aW B w0 w' I J O U v0 v1 v2 v3:=SS.next (B:=B) (w0:=w0) (l:=[(I,v0),(J,v1),(O,v2),(U,v3)]) (m:=[]) V h
theorem Cr {B:Nat} {w0 w:World} {I J O U:Addr} {v0 v1 v2 v3:Value} (h:aW B w0 w I J O U v0 v1 v2 v3):Below B w0 w:=SS.below (B:=B) (w0:=w0) (l:=[(I,v0),(J,v1),(O,v2),(U,v3)]) (m:=[]) h
abbrev Q7 (B:Nat) (w0 w:World) (a0 a1 a2 a3 a4 a5 a6 a7:Addr) (v0 v1 v2 v3 v4 v5 v6 v7:Value):Prop:=w.cell? a0=some v0/\w.cell? a1=some v1/\w.cell? a2=some v2/\w.cell? a3=some v3/\w.cell? a4=some v4/\w.cell? a5=some v5/\w.cell? a6=some v6/\w.cell? a7=some v7/\Below B w0 w/\B<=w.heap.size
theorem Ei {B:Nat} {w0 w w':World} {I J O U V Y Z a7:Addr} {v0 v1 v2 v3 v4 v5 v6 v7:Value} (hb:Below w.heap.size w w') (h:Q7 B w0 w I J O U V Y Z a7 v0 v1 v2 v3 v4 v5 v6 v7):Q7 B w0 w' I J O U V Y Z a7 v0 v1 v2 v3 v4 v5 v6 v7:=SS.next (B:=B) (w0:=w0) (l:=[(I,v0),(J,v1),(O,v2),(U,v3),(V,v4),(Y,v5),(Z,v6),(a7,v7)]) (m:=[]) hb h
theorem Db {B:Nat} {w0 w:World} {I J O U V Y Z a7:Addr} {v0 v1 v2 v3 v4 v5 v6 v7:Value} (h:Q7 B w0 w I J O U V Y Z a7 v0 v1 v2 v3 v4 v5 v6 v7):Below B w0 w:=SS.below (B:=B) (w0:=w0) (l:=[(I,v0),(J,v1),(O,v2),(U,v3),(V,v4),(Y,v5),(Z,v6),(a7,v7)]) (m:=[]) h
abbrev Ue (B:Nat) (w0 w:World) (a0 a1 a2 a3 a4 a5 b0 b1 b2 b3:Addr) (v0 v1 v2 v3 v4 v5:Value):Prop:=w.cell? a0=some v0/\w.cell? a1=some v1/\w.cell? a2=some v2/\w.cell? a3=some v3/\w.cell? a4=some v4/\w.cell? a5=some v5/\w.cell? b0=some (cellOf w b0)/\w.frozen? b0=false/\Sts w b0.block/\w.cell? b1=some (cellOf w b1)/\w.frozen? b1=false/\Sts w b1.block/\w.cell? b2=some (cellOf w b2)/\w.frozen? b2=false/\Sts w b2.block/\w.cell? b3=some (cellOf w b3)/\w.frozen? b3=false/\Sts w b3.block/\Below B w0 w/\B<=w.heap.size
theorem Me {B:Nat} {w0 w w':World} {I J O U V Y Z b1 b2 b3:Addr} {v0 v1 v2 v3 v4 v5:Value} (hb:Below w.heap.size w w') (h:Ue B w0 w I J O U V Y Z b1 b2 b3 v0 v1 v2 v3 v4 v5):Ue B w0 w' I J O U V Y Z b1 b2 b3 v0 v1 v2 v3 v4 v5:=SS.next (B:=B) (w0:=w0) (l:=[(I,v0),(J,v1),(O,v2),(U,v3),(V,v4),(Y,v5)]) (m:=[Z,b1,b2,b3]) hb h
theorem Kc {B:Nat} {w0 w:World} {I J O U V Y Z b1 b2 b3:Addr} {v0 v1 v2 v3 v4 v5:Value} (h:Ue B w0 w I J O U V Y Z b1 b2 b3 v0 v1 v2 v3 v4 v5):Below B w0 w:=SS.below (B:=B) (w0:=w0) (l:=[(I,v0),(J,v1),(O,v2),(U,v3),(V,v4),(Y,v5)]) (m:=[Z,b1,b2,b3]) h
theorem Wh {B:Nat} {w0 w w':World} {V Y Z a3 a4 a5 I J O U:Addr} {v0 v1 v2 v3 v4 v5:Value} (hb:Below w.heap.size w w') (h:Ue B w0 w V Y Z a3 a4 a5 I J O U v0 v1 v2 v3 v4 v5):((w'.cell? I).isSome=true/\Sts w' I.block)/\((w'.cell? J).isSome=true/\Sts w' J.block)/\((w'.cell? O).isSome=true/\Sts w' O.block)/\((w'.cell? U).isSome=true/\Sts w' U.block):=⟨SS.end_ (B:=B) (w0:=w0) (l:=[(V,v0),(Y,v1),(Z,v2),(a3,v3),(a4,v4),(a5,v5)]) (m:=[I,J,O,U]) hb h (by simp),SS.end_ (B:=B) (w0:=w0) (l:=[(V,v0),(Y,v1),(Z,v2),(a3,v3),(a4,v4),(a5,v5)]) (m:=[I,J,O,U]) hb h (by simp),SS.end_ (B:=B) (w0:=w0) (l:=[(V,v0),(Y,v1),(Z,v2),(a3,v3),(a4,v4),(a5,v5)]) (m:=[I,J,O,U]) hb h (by simp),SS.end_ (B:=B) (w0:=w0) (l:=[(V,v0),(Y,v1),(Z,v2),(a3,v3),(a4,v4),(a5,v5)]) (m:=[I,J,O,U]) hb h (by simp)⟩
theorem Wi {B:Nat} {w0 w:World} {I J O U V Y b0 b1 b2 b3:Addr} {v0 v1 v2 v3 v4 v5:Value} (h:Ue B w0 w I J O U V Y b0 b1 b2 b3 v0 v1 v2 v3 v4 v5) {p0 Z p2 p3:Addr} {u0 u1 u2 u3:Value} (cC:NotInt u0) (hP:B<=p0.block) (cT:p0.block≠I.block) (cX:p0.block≠J.block) (dC:p0.block≠O.block) (dE:p0.block≠U.block) (dY:p0.block≠V.block) (eP:p0.block≠Y.block) (cD:NotInt u1) (hQ:B<=Z.block) (gA:Z.block≠I.block) (gF:Z.block≠J.block) (gL:Z.block≠O.block) (gN:Z.block≠U.block) (gP:Z.block≠V.block) (gS:Z.block≠Y.block) (cF:NotInt u2) (hR:B<=p2.block) (gU:p2.block≠I.block) (hB:p2.block≠J.block) (hD:p2.block≠O.block) (hE:p2.block≠U.block) (hG:p2.block≠V.block) (hH:p2.block≠Y.block) (cG:NotInt u3) (hS:B<=p3.block) (hI:p3.block≠I.block) (hJ:p3.block≠J.block) (hL:p3.block≠O.block) (hM:p3.block≠U.block) (hN:p3.block≠V.block) (hO:p3.block≠Y.block):Ue B w0 ((((w.setCell p0 u0).setCell Z u1).setCell p2 u2).setCell p3 u3) I J O U V Y b0 b1 b2 b3 v0 v1 v2 v3 v4 v5:=(SS.put (B:=B) (w0:=w0) (l:=[(I,v0),(J,v1),(O,v2),(U,v3),(V,v4),(Y,v5)]) (m:=[b0,b1,b2,b3]) (SS.put (B:=B) (w0:=w0) (l:=[(I,v0),(J,v1),(O,v2),(U,v3),(V,v4),(Y,v5)]) (m:=[b0,b1,b2,b3]) (SS.put (B:=B) (w0:=w0) (l:=[(I,v0),(J,v1),(O,v2),(U,v3),(V,v4),(Y,v5)]) (m:=[b0,b1,b2,b3]) (SS.put (B:=B) (w0:=w0) (l:=[(I,v0),(J,v1),(O,v2),(U,v3),(V,v4),(Y,v5)]) (m:=[b0,b1,b2,b3]) h p0 u0 cC hP (by simp[*])) Z u1 cD hQ (by simp[*])) p2 u2 cF hR (by simp[*])) p3 u3 cG hS (by simp[*]))
def Wg (e:Ending) (r:Rat):Prop:=∃g:Int,e=.returned (.int .i64 g)/\(g=0↔r=0)
theorem Jh {x y:Int} (I:y≠0):Rat.divInt x y=0↔x=0:=by
 have h:=Rat.divInt_eq_divInt_iff (n₁:=x) (n₂:=0) I (show(1:Int)≠0 by decide);rw[Mz]at h;rw[h];simp
theorem Dh (x:Int):-1<=Int.sign x/\Int.sign x<=1/\(Int.sign x=0↔x=0):=by
 rcases Int.lt_trichotomy x 0 with h|h|h
 ·rw[Int.sign_eq_neg_one_of_neg h];omega
 ·subst h;decide
 ·rw[Int.sign_eq_one_of_pos h];omega
theorem Mb (x y:Int):Int.sign x*Int.sign y=0↔Rat.divInt x y=0:=by
 by_cases hy:y=0
 ·subst hy;simp
 ·rw[Jh hy,Int.mul_eq_zero,(Dh x).2.2,(Dh y).2.2]
  exact⟨λh=>h.resolve_right hy,Or.inl⟩
theorem I0 {a b:Int} (J:-1<=a) (O:a<=1) (U:-1<=b) (V:b<=1):-1<=a*b/\a*b<=1:=by
 have I:a=-1∨a=0∨a=1:=by omega
 rcases I with rfl|rfl|rfl <;> omega
theorem Nx (s:Bool) (p:Option Addr) (n c:Nat) (x:Int) (t:Bool) (q:Option Addr) (m d:Nat) (y:Int) (w:World) (h1:Zr w s p n c x) (h2:Zr w t q m d y) (hn:n<=4398046511100) (hm:m<=4398046511100):
  Calls prog 97 #[.agg #[.bool s,.slice p n c,.bool t,.slice q m d]] w λe w'=>Wg e (Rat.divInt x y)/\Below w.heap.size w w':=by
 have O:=λI (hb:Below w.heap.size w I)=>Is s p n c x I (h1.keep hb) (by omega)
 have U:=λI (hb:Below w.heap.size w I)=>Is t q m d y I (h2.keep hb) (by omega)
 have hz:=Mb x y;obtain⟨b1,b2,_⟩:=Dh x;obtain⟨b3,b4,_⟩:=Dh y;have Y:=I0 b1 b2 b3 b4;generalize Int.sign x=gx at *;generalize Int.sign y=gy at *;obtain⟨g,hg⟩:∃g,gx*gy=g:=⟨_,rfl⟩
 rw[hg]at hz Y;obtain⟨g1,g2⟩:=Y;have h:=Kh O;have aX:=Kh U;have HZ:=Kh hz;have dE:IntKind.i64.wrap (gx*gy)=g:=by rw[hg];exact IntWalk.i64_in _ (by omega)
 clear O U hz h1 h2 b1 b2 b3 b4;go_enter func97,ntmps97
 go_upto_region 1 with(fail)
 obtain⟨w0,Z,J,V⟩:=bx1 w #[.bool s,.slice p n c,.bool t,.slice q m d] 86;rw[Z];have bE:w.heap.size<=w0.heap.size:=V.size;clear Z;have M1:True:=trivial;have bA:=Eh (Below.refl _ w0).drew ⟨J.c0,J.c1,J.c2,J.c3,V,bE⟩;clear J
 go_region_held3 (λI=>I.cell? ⟨w.heap.size,0,none⟩=some (.bool s)/\I.cell? ⟨w.heap.size,1,none⟩=some (.slice p n c)/\I.cell? ⟨w.heap.size,2,none⟩=some (.bool t)/\I.cell? ⟨w.heap.size,3,none⟩=some (.slice q m d)/\Below w.heap.size w I/\w.heap.size<=I.heap.size)
  (first|with_reducible exact bA |(refine Eh (by with_reducible assumption) ?_;assumption) |(refine S4_0_put ?_  <;> first|assumption|exact NotInt.bool _|exact NotInt.slice _ _ _ |(dsimp only;omega) |(simp;done)))
  (first
   |(go_at_call 79;clear M1;refine(h.1 _ (Cr (by with_reducible assumption))).mono ?_;rintro e w2 ⟨rfl,bC⟩)
   |(go_at_call 79;refine(aX.1 _ (Cr (by with_reducible assumption))).mono ?_;rintro e w3 ⟨rfl,dC⟩;clear bC))
 go_wp2;go_ret;exact⟨⟨g,by show Ending.returned (Value.int .i64 (IntKind.i64.wrap g))=_;rw[IntWalk.i64_in _ (by omega)],HZ.1⟩,Cr (by assumption)⟩
theorem SS.alloc {B:Nat} {w0 w:World} {l:List (Addr×Value)} (h:SS B w0 w l []) (o:Obj):SS B w0 (w.alloc o) l []:=SS.next ((Below.refl _ _).alloc (nR _) o) h
theorem SS.sizeLe {B:Nat} {w0 w:World} {l:List (Addr×Value)} (h:SS B w0 w l []):B<=w.heap.size:=by
 induction l with
 | nil=>exact h.2
 | cons x l ih=>exact ih h.2
theorem SS.lt {B:Nat} {w0 w:World} {l:List (Addr×Value)} (h:SS B w0 w l []):∀x∈l,x.1.block<w.heap.size:=by
 induction l with
 | nil=>intro x I;cases I
 | cons y l ih=>
  intro x I;rcases List.mem_cons.1 I with rfl|I
  ·exact World.block_lt_of_cell? w x.1 h.1
  ·exact ih h.2 x I
theorem SS.fresh {B:Nat} {w0 w:World} {l:List (Addr×Value)} (h:SS B w0 w l []) (o:Obj) (v u:Value) (U:NotInt v) (O:NotInt u):SS B w0 (((w.alloc o).setCell ⟨w.heap.size,0,none⟩ v).setCell ⟨w.heap.size,1,none⟩ u) l []:=by
 have J:=h.alloc o;have I:∀x∈l,w.heap.size≠x.1.block:=λx V=>by have:=h.lt x V;omega
 exact(J.put ⟨w.heap.size,0,none⟩ v U h.sizeLe I).put ⟨w.heap.size,1,none⟩ u O h.sizeLe I
theorem Q9 {B:Nat} {w0 w:World} {I J O U V Y Z a7:Addr} {v0 v1 v2 v3 v4 v5 v6 v7:Value} (h:Q7 B w0 w I J O U V Y Z a7 v0 v1 v2 v3 v4 v5 v6 v7) (o:Obj):(w.alloc o).cell? I=some v0/\(w.alloc o).cell? J=some v1/\(w.alloc o).cell? O=some v2/\(w.alloc o).cell? U=some v3/\(w.alloc o).cell? V=some v4/\(w.alloc o).cell? Y=some v5/\(w.alloc o).cell? Z=some v6/\(w.alloc o).cell? a7=some v7/\Below B w0 (w.alloc o)/\B<=(w.alloc o).heap.size:=SS.alloc (B:=B) (w0:=w0) (l:=[(I,v0),(J,v1),(O,v2),(U,v3),(V,v4),(Y,v5),(Z,v6),(a7,v7)]) h o
theorem Ra {B:Nat} {w0 w:World} {I J O U V Y Z a7:Addr} {v0 v1 v2 v3 v4 v5 v6 v7:Value} (h:Q7 B w0 w I J O U V Y Z a7 v0 v1 v2 v3 v4 v5 v6 v7) (o:Obj) (v u:Value) (hv:NotInt v) (hu:NotInt u):(((w.alloc o).setCell ⟨w.heap.size,0,none⟩ v).setCell ⟨w.heap.size,1,none⟩ u).cell? I=some v0/\(((w.alloc o).setCell ⟨w.heap.size,0,none⟩ v).setCell ⟨w.heap.size,1,none⟩ u).cell? J=some v1/\(((w.alloc o).setCell ⟨w.heap.size,0,none⟩ v).setCell ⟨w.heap.size,1,none⟩ u).cell? O=some v2/\(((w.alloc o).setCell ⟨w.heap.size,0,none⟩ v).setCell ⟨w.heap.size,1,none⟩ u).cell? U=some v3/\(((w.alloc o).setCell ⟨w.heap.size,0,none⟩ v).setCell ⟨w.heap.size,1,none⟩ u).cell? V=some v4/\(((w.alloc o).setCell ⟨w.heap.size,0,none⟩ v).setCell ⟨w.heap.size,1,none⟩ u).cell? Y=some v5/\(((w.alloc o).setCell ⟨w.heap.size,0,none⟩ v).setCell ⟨w.heap.size,1,none⟩ u).cell? Z=some v6/\(((w.alloc o).setCell ⟨w.heap.size,0,none⟩ v).setCell ⟨w.heap.size,1,none⟩ u).cell? a7=some v7/\Below B w0 (((w.alloc o).setCell ⟨w.heap.size,0,none⟩ v).setCell ⟨w.heap.size,1,none⟩ u)/\B<=(((w.alloc o).setCell ⟨w.heap.size,0,none⟩ v).setCell ⟨w.heap.size,1,none⟩ u).heap.size:=SS.fresh (B:=B) (w0:=w0) (l:=[(I,v0),(J,v1),(O,v2),(U,v3),(V,v4),(Y,v5),(Z,v6),(a7,v7)]) h o v u hv hu
theorem Iq {B:Nat} {w0 w:World} {I J O U V Y Z a7:Addr} {v0 v1 v2 v3 v4 v5 v6 v7:Value} (h:Q7 B w0 w I J O U V Y Z a7 v0 v1 v2 v3 v4 v5 v6 v7):B<=w.heap.size:=SS.sizeLe (B:=B) (w0:=w0) (l:=[(I,v0),(J,v1),(O,v2),(U,v3),(V,v4),(Y,v5),(Z,v6),(a7,v7)]) h
theorem Ug {B:Nat} {w0 w:World} {J O U V Y Z a6 a7:Addr} {v0 v1 v2 v3 v4 v5 v6 v7:Value} (h:Q7 B w0 w J O U V Y Z a6 a7 v0 v1 v2 v3 v4 v5 v6 v7) {p0 I:Addr} {u0 u1:Value} (cA:NotInt u0) (gU:B<=p0.block) (cC:p0.block≠J.block) (cD:p0.block≠O.block) (cF:p0.block≠U.block) (cG:p0.block≠V.block) (cT:p0.block≠Y.block) (cX:p0.block≠Z.block) (dC:p0.block≠a6.block) (dE:p0.block≠a7.block) (cB:NotInt u1) (hB:B<=I.block) (dY:I.block≠J.block) (eP:I.block≠O.block) (gA:I.block≠U.block) (gF:I.block≠V.block) (gL:I.block≠Y.block) (gN:I.block≠Z.block) (gP:I.block≠a6.block) (gS:I.block≠a7.block):((w.setCell p0 u0).setCell I u1).cell? J=some v0/\((w.setCell p0 u0).setCell I u1).cell? O=some v1/\((w.setCell p0 u0).setCell I u1).cell? U=some v2/\((w.setCell p0 u0).setCell I u1).cell? V=some v3/\((w.setCell p0 u0).setCell I u1).cell? Y=some v4/\((w.setCell p0 u0).setCell I u1).cell? Z=some v5/\((w.setCell p0 u0).setCell I u1).cell? a6=some v6/\((w.setCell p0 u0).setCell I u1).cell? a7=some v7/\Below B w0 ((w.setCell p0 u0).setCell I u1)/\B<=((w.setCell p0 u0).setCell I u1).heap.size:=(SS.put (B:=B) (w0:=w0) (l:=[(J,v0),(O,v1),(U,v2),(V,v3),(Y,v4),(Z,v5),(a6,v6),(a7,v7)]) (m:=[]) (SS.put (B:=B) (w0:=w0) (l:=[(J,v0),(O,v1),(U,v2),(V,v3),(Y,v4),(Z,v5),(a6,v6),(a7,v7)]) (m:=[]) h p0 u0 cA gU (by simp[*])) I u1 cB hB (by simp[*]))
theorem F2 {W w':World} {B:Nat} (hB:B<=W.heap.size) (I:Below (W.alloc (.cells #[.bool false,.slice none 0 0] 84)).heap.size (W.alloc (.cells #[.bool false,.slice none 0 0] 84)) w'):
  B<=W.heap.size/\w'.cell? ⟨W.heap.size,0,none⟩=some (.bool false)/\w'.cell? ⟨W.heap.size,1,none⟩=some (.slice none 0 0)/\w'.frozen? ⟨W.heap.size,0,none⟩=false/\w'.frozen? ⟨W.heap.size,1,none⟩=false/\Blk w' W.heap.size 84 #[.bool false,.slice none 0 0]:=by
 have h:=(Blk.new W 84 #[.bool false,.slice none 0 0]).below_ I (by simp);exact⟨hB,h.at_ 0 rfl,h.at_ 1 rfl,h.free_ 0,h.free_ 1,h⟩
theorem Yf {W w':World} {B g:Nat} (hg:W.heap.size=g) (hB:B<=g) (I:Below (W.alloc (.cells #[.bool false,.slice none 0 0] 84)).heap.size (W.alloc (.cells #[.bool false,.slice none 0 0] 84)) w'):
  B<=g/\w'.cell? ⟨g,0,none⟩=some (.bool false)/\w'.cell? ⟨g,1,none⟩=some (.slice none 0 0)/\w'.frozen? ⟨g,0,none⟩=false/\w'.frozen? ⟨g,1,none⟩=false/\Blk w' g 84 #[.bool false,.slice none 0 0]:=by
 subst hg;exact F2 hB I
theorem K5 {w w':World} {B g:Nat} (J:Below w.heap.size w w') (h:B<=g/\w.cell? ⟨g,0,none⟩=some (.bool false)/\w.cell? ⟨g,1,none⟩=some (.slice none 0 0)/\w.frozen? ⟨g,0,none⟩=false/\w.frozen? ⟨g,1,none⟩=false/\Blk w g 84 #[.bool false,.slice none 0 0]):
  B<=g/\w'.cell? ⟨g,0,none⟩=some (.bool false)/\w'.cell? ⟨g,1,none⟩=some (.slice none 0 0)/\w'.frozen? ⟨g,0,none⟩=false/\w'.frozen? ⟨g,1,none⟩=false/\Blk w' g 84 #[.bool false,.slice none 0 0]:=by
 have I:=h.1;have h:=h.2.2.2.2.2.below_ J h.2.2.2.2.2.lt;exact⟨I,h.at_ 0 rfl,h.at_ 1 rfl,h.free_ 0,h.free_ 1,h⟩
theorem Xe (s:Bool) (p:Option Addr) (n c:Nat) (x:Int) (t:Bool) (q:Option Addr) (m d:Nat) (y:Int) (s':Bool) (p':Option Addr) (n' c':Nat) (x':Int) (t':Bool) (q':Option Addr) (m' d':Nat) (y':Int) (w:World) (h1:Zr w s p n c x) (h2:Zr w t q m d y) (h3:Zr w s' p' n' c' x') (h4:Zr w t' q' m' d' y') (hn:n<=1099511627770) (hm:m<=1099511627770) (qZ:n'<=1099511627770) (qY:m'<=1099511627770) (hy:y≠0) (mD:y'≠0):
  Calls prog 39 #[.agg #[.bool s,.slice p n c,.bool t,.slice q m d],.agg #[.bool s',.slice p' n' c',.bool t',.slice q' m' d']] w λe w'=>Eg w' e (Rat.divInt x y+Rat.divInt x' y')/\Below w.heap.size w w':=by
 have HV:=Kh (Rat.divInt_add_divInt x x' hy mD);have mA:=Kh h1;have eP:=Kh h2;have mB:=Kh h3;have gA:=Kh h4;have oL:=(Dh y).2.2;have oM:=(Dh y').2.2;have oF:=λI (hb:Below w.heap.size w I)=>Is t q m d y I (h2.keep hb) (by omega)
 have oG:=λI (hb:Below w.heap.size w I)=>Is t' q' m' d' y' I (h4.keep hb) (by omega)
 generalize Int.sign y=g at *;generalize Int.sign y'=g' at *;have qX:(g==0)=false:=beq_eq_false_iff_ne.2 (λh=>hy (oL.1 h));have qI:(g'==0)=false:=beq_eq_false_iff_ne.2 (λh=>mD (oM.1 h));have nB:=Kh oF;have nC:=Kh oG;clear h1 h2 h3 h4 oF oG oL oM hy mD;go_enter func39,ntmps39
 go_wp2_with fail
 obtain⟨w0,oP,X0,X1,X2,bE⟩:=Kk w #[.bool s,.slice p n c,.bool t,.slice q m d] 86 #[.bool s',.slice p' n' c',.bool t',.slice q' m' d'] 86 #[.bool false,.slice none 0 0,.bool false,.slice none 0 0] 86;rw[oP];have hD:w.heap.size<=w0.heap.size:=bE.size;clear oP;have a2:=X0.at_ 2 rfl;have a3:=X0.at_ 3 rfl;have V:=Kh X0;have O:=Kh X1;have Y:=Kh X2;have J:=Kh bE;clear X0 X1 X2 bE;refine(nB.1 _ J.1).mono ?_;rintro e I ⟨rfl,aX⟩;replace V:=Kh (bk V aX);replace O:=Kh (bk O aX);replace Y:=Kh (bk Y aX);replace J:=bt J aX;have b2:=O.1.at_ 2 rfl;have b3:=O.1.at_ 3 rfl;clear aX nB a2 a3 hD;go_wp2_with fail
 refine(nC.1 _ J.1).mono ?_;rintro e w2 ⟨rfl,Z⟩;replace V:=Kh (bk V Z);replace O:=Kh (bk O Z);replace Y:=Kh (bk Y Z);replace J:=bt J Z;clear Z nC b2 b3;go_upto_region 5 with(fail)
 go_cut [20]from 21 to 28 (λpR wc=>∃b:Bool,pR=.bool b/\(b=true->y=1/\y'=1)/\Below w2.heap.size w2 wc)
 case first=>
  have a2:=V.1.at_ 2 rfl;have a3:=V.1.at_ 3 rfl;have nX:=Kh (Sy t q m d y w2 (eP.1.keep J.1) (by omega));have nY:=Kh (λw3 (hb:Below w2.heap.size w2 w3)=>Sy t' q' m' d' y' w3 ((gA.1.keep J.1).keep hb) (by omega));go_wp2_with fail
  refine nX.1.mono ?_;rintro e w3 ⟨⟨b,rfl,aX⟩,U⟩;have cD:=Kh aX;have cC:=Kh U;have b2:=(bk O U).at_ 2 rfl;have b3:=(bk O U).at_ 3 rfl;clear aX U nX;cases b with
  | true=>
   have dY:=Kh (cD.1 rfl);clear cD;go_wp2_with fail
   refine(nY.1 _ cC.1).mono ?_;rintro e w4 ⟨⟨b',rfl,aX⟩,bA⟩;have nA:=Kh aX;have oX:=bt cC bA;clear aX bA nY;go_wp2;go_meet
   case rel=>exact⟨b',rfl,λh=>⟨dY.1,nA.1 h⟩,oX.1⟩
  | false=>
   go_wp2;go_meet
   case rel=>exact⟨false,rfl,(λh=>by cases h),cC.1⟩
 case rest=>
  obtain⟨b,rfl,oK,gL⟩:=hcut;have cD:=Kh oK;replace V:=Kh (bk V gL);replace O:=Kh (bk O gL);replace Y:=Kh (bk Y gL);replace J:=bt J gL;clear oK gL;cases b with
  | true=>
   have dY:=Kh (cD.1 rfl);clear cD;have a0:=V.1.at_ 0 rfl;have a1:=V.1.at_ 1 rfl;have b0:=O.1.at_ 0 rfl;have b1:=O.1.at_ 1 rfl;have HA:=Kh (Sq s p n c x s' p' n' c' x' wc (mA.1.keep J.1) (mB.1.keep J.1) (by omega) (by omega));go_wp2_with fail
   refine HA.1.mono ?_;rintro e w3 ⟨⟨s2,p2,n2,e2,rfl,bC⟩,U⟩;have HZ:=Kh bC;have cC:=bt J U;replace Y:=Kh (bk Y U);have HO:=Kh (G9 1 w3 (by omega) (by omega));clear bC U HA a0 a1 b0 b1;go_wp2_with fail
   refine HO.1.mono ?_;rintro e w4 ⟨⟨s3,p3,n3,e3,rfl,cX⟩,bA⟩
   have HQ:=Kh (show Qs w4 s2 p2 n2 e2 s3 p3 n3 e3 (Rat.divInt (x+x') 1)by
    unfold Qs;rw[(H7 (x+x')).1,(H7 (x+x')).2];exact⟨HZ.1.keep bA,cX⟩)
   have HR:=Kh (bk Y bA);have HB:=bt cC bA;have HG:=Kh (show Rat.divInt (x+x') 1=Rat.divInt x y+Rat.divInt x' y' by rw[dY.1.1,dY.1.2,Oh]);clear cX bA HO cC HZ J V O Y dY;have r0:=HR.1.at_ 0 rfl;have r1:=HR.1.at_ 1 rfl;have r2:=HR.1.at_ 2 rfl;have r3:=HR.1.at_ 3 rfl;have f0:=HR.1.free_ 0;have f1:=HR.1.free_ 1;have f2:=HR.1.free_ 2;have f3:=HR.1.free_ 3;obtain⟨w9,hE⟩:∃w9,(((w4.setCell ⟨w.heap.size+1+1,0,none⟩ (.bool s2)).setCell ⟨w.heap.size+1+1,1,none⟩ (.slice p2 n2 e2)).setCell ⟨w.heap.size+1+1,2,none⟩ (.bool s3)).setCell ⟨w.heap.size+1+1,3,none⟩ (.slice p3 n3 e3)=w9:=⟨_,rfl⟩
   obtain⟨E0,E1,E2,E3,oO⟩:=Cd HR.1 HQ.1 hE;have oJ:Below w.heap.size w w9:=by rw[<-hE];exact As HB.1 (by omega) _ _ _ _
   have pE:=Kh hE;have oZ:=Kh (And.intro E0 (And.intro E1 (And.intro E2 E3)));have pC:=Kh oO;have oY:=Kh oJ;clear E0 E1 E2 E3 oO oJ hE HQ HB HR;go_wp2;try rw[pE.1]
   obtain⟨E0,E1,E2,E3⟩:=oZ.1;try simp only[Exit.inBlock,Exit.then]
   refine bodyPost_ret (by simp[results,results39,go_sem,E0,E1,E2,E3];try rfl) rfl ?_;exact⟨⟨s2,p2,n2,e2,s3,p3,n3,e3,rfl,HG.1▸pC.1⟩,oY.1⟩
  | false=>
   clear cD;have X0:=V.1;have X1:=O.1;have bE:=J.1;have hD:w.heap.size<=wc.heap.size:=bE.size;have nD:=Kh (λI (hb:Below w.heap.size w I)=>Ho s p n c x t' q' m' d' y' I (mA.1.keep hb) (gA.1.keep hb) (by omega) (by omega));have nW:=Kh (λI (hb:Below w.heap.size w I)=>Ho s' p' n' c' x' t q m d y I (mB.1.keep hb) (eP.1.keep hb) (by omega) (by omega));have nZ:=Kh (show nd (x*y').natAbs<=2199023255540 by rw[Int.natAbs_mul];have:=Cm x.natAbs y'.natAbs;have:=mA.1.size;have:=gA.1.size;omega);have oA:=Kh (show nd (x'*y).natAbs<=2199023255540 by rw[Int.natAbs_mul];have:=Cm x'.natAbs y.natAbs;have:=mB.1.size;have:=eP.1.size;omega);have pD:=Kh (show nd (y*y').natAbs<=2199023255540 by rw[Int.natAbs_mul];have:=Cm y.natAbs y'.natAbs;have:=eP.1.size;have:=gA.1.size;omega);have hlt:w.heap.size+1+1<wc.heap.size:=Y.1.lt;have pF:=Y;go_upto_region 7 with(fail)
   go_cut [5]from 36 to 46 (λv5 wd=>∃gb s4 p4 n4 e4,v5=.pointer (some ⟨gb,0,none⟩)/\w.heap.size+1+1<gb/\Blk wd gb 84 #[.bool s4,.slice p4 n4 e4]/\Zs wd s4 p4 n4 e4 (x*y'+x'*y)/\Below wc.heap.size wc wd)
   case first=>
    have M1:True:=trivial;have oH:wc.cell? ⟨w.heap.size,0,none⟩=some (.bool s)/\wc.cell? ⟨w.heap.size,1,none⟩=some (.slice p n c)/\wc.cell? ⟨w.heap.size,2,none⟩=some (.bool t)/\wc.cell? ⟨w.heap.size,3,none⟩=some (.slice q m d)/\wc.cell? ⟨w.heap.size+1,0,none⟩=some (.bool s')/\wc.cell? ⟨w.heap.size+1,1,none⟩=some (.slice p' n' c')/\wc.cell? ⟨w.heap.size+1,2,none⟩=some (.bool t')/\wc.cell? ⟨w.heap.size+1,3,none⟩=some (.slice q' m' d')/\Below wc.heap.size wc wc/\wc.heap.size<=wc.heap.size:=⟨X0.at_ 0 rfl,X0.at_ 1 rfl,X0.at_ 2 rfl,X0.at_ 3 rfl,X1.at_ 0 rfl,X1.at_ 1 rfl,X1.at_ 2 rfl,X1.at_ 3 rfl,Below.refl _ _,nR _⟩
    have mC:wc.drew.cell? ⟨w.heap.size,0,none⟩=some (.bool s)/\wc.drew.cell? ⟨w.heap.size,1,none⟩=some (.slice p n c)/\wc.drew.cell? ⟨w.heap.size,2,none⟩=some (.bool t)/\wc.drew.cell? ⟨w.heap.size,3,none⟩=some (.slice q m d)/\wc.drew.cell? ⟨w.heap.size+1,0,none⟩=some (.bool s')/\wc.drew.cell? ⟨w.heap.size+1,1,none⟩=some (.slice p' n' c')/\wc.drew.cell? ⟨w.heap.size+1,2,none⟩=some (.bool t')/\wc.drew.cell? ⟨w.heap.size+1,3,none⟩=some (.slice q' m' d')/\Below wc.heap.size wc wc.drew/\wc.heap.size<=wc.drew.heap.size:=Ei (Below.refl _ wc).drew oH;clear X0 X1
    go_region_held3 (λI=>I.cell? ⟨w.heap.size,0,none⟩=some (.bool s)/\I.cell? ⟨w.heap.size,1,none⟩=some (.slice p n c)/\I.cell? ⟨w.heap.size,2,none⟩=some (.bool t)/\I.cell? ⟨w.heap.size,3,none⟩=some (.slice q m d)/\I.cell? ⟨w.heap.size+1,0,none⟩=some (.bool s')/\I.cell? ⟨w.heap.size+1,1,none⟩=some (.slice p' n' c')/\I.cell? ⟨w.heap.size+1,2,none⟩=some (.bool t')/\I.cell? ⟨w.heap.size+1,3,none⟩=some (.slice q' m' d')/\Below wc.heap.size wc I/\wc.heap.size<=I.heap.size)
     (first|with_reducible exact mC |(refine Ei (by with_reducible assumption) ?_;assumption)|exact Q9 (by with_reducible assumption) _|exact Ei (cF.1.alloc cF.1.size _) oH |(refine Ug ?_ ?_ ?_ ?_ ?_ ?_ ?_ ?_ ?_ ?_ ?_ ?_ ?_ ?_ ?_ ?_ ?_ ?_ ?_ ?_ ?_ <;> first|with_reducible assumption|exact NotInt.bool _|exact NotInt.slice _ _ _ |(dsimp only;omega))|exact Ra (by with_reducible assumption) _ _ _ (NotInt.bool _) (NotInt.slice _ _ _))
     (first
      |(go_at_call 84;clear M1;refine(nD.1 _ (J.1.trans ((Db (by with_reducible assumption)).mono J.1.size))).mono ?_;rintro e w2 ⟨⟨s2,p2,n2,e2,rfl,bC⟩,Z⟩;have hY:=Kh bC;have oB:=Kh (nS (Iq (by with_reducible assumption)) (Below.size Z));(try have pI:=Yf (B:=wc.heap.size) (W:=wc.drew) (g:=wc.heap.size) rfl (nR _) Z);clear bC)
      |(go_at_call 84;refine(nW.1 _ (J.1.trans ((Db (by with_reducible assumption)).mono J.1.size))).mono ?_;rintro e w3 ⟨⟨s3,p3,n3,e3,rfl,cX⟩,U⟩;have hZ:Zs w3 s2 p2 n2 e2 (x*y'):=(by first|exact hY.1.keep U|exact(hY.1.keep ((Below.refl _ _).alloc (nR _) _)).keep U);have oW:=Kh (λw5 (oI:Below w3.heap.size w3 w5)=>Sq s2 p2 n2 e2 (x*y') s3 p3 n3 e3 (x'*y) w5 (hZ.keep oI).raw (cX.keep oI).raw (by rw[<-hZ.2.1];have:=nZ.1;omega) (by rw[<-cX.2.1];have:=oA.1;omega));have oC:=Kh (nS (Iq (by with_reducible assumption)) (Below.size U));(first|have oE:=F2 (W:=w2) oB.1 U|have oE:=K5 U pI|skip);clear cX hY hZ)
      |(go_at_call 82;refine(oW.1 _ (by first|exact Below.refl _ _|exact(Below.refl _ _).alloc (nR _) _)).mono ?_;rintro e w4 ⟨⟨s4,p4,n4,e4,rfl,oQ⟩,bA⟩;have cF:=Kh (Below.trans (Db (by with_reducible assumption)) (Below.mono bA (Iq (by with_reducible assumption))));have iL:=Kh oQ;(first|have cT:=F2 (W:=w3) oC.1 bA|have cT:=K5 bA oE|skip);clear oQ))
    all_goals go_wp2
    all_goals go_meet
    all_goals first
     | exact⟨_,s4,p4,n4,e4,rfl,nT hlt cF.1.size,Blk.new w4 _ _,iL.1.keep ((Below.refl _ _).alloc (nR _) _),cF.1.alloc cF.1.size _⟩
     | exact⟨_,s4,p4,n4,e4,rfl,nT hlt cT.1,(Fh cT.2.2.2.2.2 iL.1).1,(Fh cT.2.2.2.2.2 iL.1).2,(cF.1.setCell cT.1 _).setCell cT.1 _⟩
   case rest=>
    obtain⟨gb,s4,p4,n4,e4,rfl,qJ,XG,zg,gN⟩:=hcut;clear nD nW;replace X0:=bk V gN;replace X1:=bk O gN;have X2:=bk Y gN;replace bE:=J.1.trans (gN.mono J.1.size);replace hD:w.heap.size<=wc.heap.size:=bE.size;have pA:=Kh (λI (hb:Below w.heap.size w I)=>Ho t q m d y t' q' m' d' y' I (eP.1.keep hb) (gA.1.keep hb) (by omega) (by omega));have pG:=Kh zg
    have rA:n4<=2199023255541:=by
     rw[<-zg.2.1];exact Hf _ _ nZ.1 oA.1
    have T2:=Sts.of X2 (by intro v hv;simp at hv;rcases hv with rfl|rfl|rfl|rfl <;> first|exact NotInt.bool _|exact NotInt.slice _ _ _);clear V O Y pF J gN zg;go_upto_region 8 with(fail)
    have mC:=Me (Below.refl _ wc).drew ⟨XG.c0,XG.c1,X0.c2,X0.c3,X1.c2,X1.c3,X2.so 0,X2.free_ 0,T2,X2.so 1,X2.free_ 1,T2,X2.so 2,X2.free_ 2,T2,X2.so 3,X2.free_ 3,T2,bE,hD⟩;clear X0 X1 X2 XG T2
    go_region_held3 (λI=>I.cell? ⟨gb,0,none⟩=some (.bool s4)/\I.cell? ⟨gb,1,none⟩=some (.slice p4 n4 e4)/\I.cell? ⟨w.heap.size,2,none⟩=some (.bool t)/\I.cell? ⟨w.heap.size,3,none⟩=some (.slice q m d)/\I.cell? ⟨w.heap.size+1,2,none⟩=some (.bool t')/\I.cell? ⟨w.heap.size+1,3,none⟩=some (.slice q' m' d')/\I.cell? ⟨w.heap.size+1+1,0,none⟩=some (cellOf I ⟨w.heap.size+1+1,0,none⟩)/\I.frozen? ⟨w.heap.size+1+1,0,none⟩=false/\Sts I (w.heap.size+1+1)/\I.cell? ⟨w.heap.size+1+1,1,none⟩=some (cellOf I ⟨w.heap.size+1+1,1,none⟩)/\I.frozen? ⟨w.heap.size+1+1,1,none⟩=false/\Sts I (w.heap.size+1+1)/\I.cell? ⟨w.heap.size+1+1,2,none⟩=some (cellOf I ⟨w.heap.size+1+1,2,none⟩)/\I.frozen? ⟨w.heap.size+1+1,2,none⟩=false/\Sts I (w.heap.size+1+1)/\I.cell? ⟨w.heap.size+1+1,3,none⟩=some (cellOf I ⟨w.heap.size+1+1,3,none⟩)/\I.frozen? ⟨w.heap.size+1+1,3,none⟩=false/\Sts I (w.heap.size+1+1)/\Below w.heap.size w I/\w.heap.size<=I.heap.size)
     (first|with_reducible exact mC |(refine Me (by with_reducible assumption) ?_;assumption) |(refine Wi ?_ ?_ ?_ ?_ ?_ ?_ ?_ ?_ ?_ ?_ ?_ ?_ ?_ ?_ ?_ ?_ ?_ ?_ ?_ ?_ ?_ ?_ ?_ ?_ ?_ ?_ ?_ ?_ ?_ ?_ ?_ ?_ ?_ <;> first|assumption|exact NotInt.bool _|exact NotInt.slice _ _ _ |(dsimp only;omega)))
     (first
      |(go_at_call 84;refine(pA.1 _ (Kc (by with_reducible assumption))).mono ?_;rintro e w2 ⟨⟨s2,p2,n2,e2,rfl,bC⟩,Z⟩;have pB:=Kh (Kp s4 p4 n4 e4 (x*y'+x'*y) s2 p2 n2 e2 (y*y') w2 (pG.1.keep (by first|exact(Below.refl _ wc).drew.trans Z|exact Z)).raw bC.raw (by omega) (by rw[<-bC.2.1];have:=pD.1;omega));clear bC)
      |(go_at_call 85;refine pB.1.mono ?_;rintro e w3 ⟨⟨s3,p3,n3,e3,t3,q3,m3,d3,rfl,oN⟩,U⟩;clear Z;obtain⟨⟨pL,hT⟩,⟨pM,_⟩,⟨pN,_⟩,⟨pO,_⟩⟩:=Wh U (by with_reducible assumption);have pP:=Kh (oN.put4 hT (.bool s3) (.slice p3 n3 e3) (.bool t3) (.slice q3 m3 d3) (NotInt.bool _) (NotInt.slice _ _ _) (NotInt.bool _));clear oN hT))
    go_wp2;try simp only[Exit.inBlock,Exit.then]
    refine bodyPost_ret (by simp[results,results39,go_sem,pL,pM,pN,pO];try rfl) rfl ?_;exact⟨⟨s3,p3,n3,e3,t3,q3,m3,d3,rfl,HV.1▸pP.1⟩,Kc (by assumption)⟩
end Go.Proofs.YtenlbhlllgppmaaGreatDoor
