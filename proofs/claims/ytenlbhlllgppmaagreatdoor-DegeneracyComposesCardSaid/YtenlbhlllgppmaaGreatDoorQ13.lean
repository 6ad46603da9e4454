/- Contract of rational.over. -/
import Derived.Test.YtenlbhlllgppmaaGreatDoorQ12
import Derived.Laws.AppendOwnNone
set_option maxRecDepth 100000
set_option maxHeartbeats 8000000
namespace Go.Proofs.YtenlbhlllgppmaaGreatDoor
open Go.RowKit Tryz
def dG (w:World) (A B:Nat) (x y:Int):Prop:=∃s p n c t q m d,Blk w A 84 #[.bool s,.slice p n c]/\Blk w B 84 #[.bool t,.slice q m d]/\Zs w s p n c x/\Zs w t q m d y
theorem Sts.box {w:World} {A:Nat} {s:Bool} {p:Option Addr} {n c:Nat} (h:Blk w A 84 #[.bool s,.slice p n c]):Sts w A:=
 Sts.of h (by intro v H;simp at H;rcases H with rfl|rfl;exact NotInt.bool _;exact NotInt.slice _ _ _)
theorem Ta {w:World} {A B:Nat} {s s' t t':Bool} {p p' q q':Option Addr} {n n' c c' m m' d d':Nat} {x y:Int} (H:A≠B)
  (hA:Blk w A 84 #[.bool s',.slice p' n' c']) (hB:Blk w B 84 #[.bool t',.slice q' m' d']) (hx:Zs w s p n c x) (hy:Zs w t q m d y):
  dG ((((w.setCell ⟨A,0,none⟩ (.bool s)).setCell ⟨A,1,none⟩ (.slice p n c)).setCell ⟨B,0,none⟩ (.bool t)).setCell ⟨B,1,none⟩ (.slice q m d)) A B x y:=by
 have J:=hA.set_ 0 (.bool s);have O:=J.set_ 1 (.slice p n c);have U:=O.far_ (p:=⟨B,0,none⟩) H (.bool t);have V:=U.far_ (p:=⟨B,1,none⟩) H (.slice q m d);have Y:=hB.far_ (p:=⟨A,0,none⟩) (Ne.symm H) (.bool s);have I:=Y.far_ (p:=⟨A,1,none⟩) (Ne.symm H) (.slice p n c);have Z:=I.set_ 0 (.bool t);have h:=Z.set_ 1 (.slice q m d);refine⟨s,p,n,c,t,q,m,d,V,h,?_,?_⟩
 ·exact(hx.put2 (Sts.box hA) 0 1 _ _ (NotInt.bool _)).put2 (Sts.box I) 0 1 _ _ (NotInt.bool _)
 ·exact(hy.put2 (Sts.box hA) 0 1 _ _ (NotInt.bool _)).put2 (Sts.box I) 0 1 _ _ (NotInt.bool _)
theorem Fw {w:World} {A:Nat} {s J:Bool} {p p':Option Addr} {n n' c H:Nat} {x:Int}
  (hA:Blk w A 84 #[.bool J,.slice p' n' H]) (I:Zs w s p n c x):
  Blk ((w.setCell ⟨A,0,none⟩ (.bool s)).setCell ⟨A,1,none⟩ (.slice p n c)) A 84 #[.bool s,.slice p n c]/\Zs ((w.setCell ⟨A,0,none⟩ (.bool s)).setCell ⟨A,1,none⟩ (.slice p n c)) s p n c x:=
 ⟨(hA.set_ 0 (.bool s)).set_ 1 (.slice p n c),I.put2 (Sts.box hA) 0 1 _ _ (NotInt.bool _)⟩
theorem B9 {w:World} {R:Nat} {s t:Bool} {p q:Option Addr} {n c m d:Nat} {r:Rat} {a b:Bool} {Z b':Option Addr} {i j k l:Nat} (U:Blk w R 86 #[.bool a,.slice Z i j,.bool b,.slice b' k l]) (h:Qs w s p n c t q m d r) {w':World}
  (hw:(((w.setCell ⟨R,0,none⟩ (.bool s)).setCell ⟨R,1,none⟩ (.slice p n c)).setCell ⟨R,2,none⟩ (.bool t)).setCell ⟨R,3,none⟩ (.slice q m d)=w'):
  w'.cell? ⟨R,0,none⟩=some (.bool s)/\w'.cell? ⟨R,1,none⟩=some (.slice p n c)/\w'.cell? ⟨R,2,none⟩=some (.bool t)/\w'.cell? ⟨R,3,none⟩=some (.slice q m d)/\Qs w' s p n c t q m d r:=by
 subst hw;have H:=(((U.set_ 0 (.bool s)).set_ 1 (.slice p n c)).set_ 2 (.bool t)).set_ 3 (.slice q m d);have I:Sts w R:=Sts.of U (by intro v V;simp at V;rcases V with rfl|rfl|rfl|rfl <;> first|exact NotInt.bool _|exact NotInt.slice _ _ _);have J:=I.put ⟨R,0,none⟩ (.bool s) (NotInt.bool _);have O:=J.put ⟨R,1,none⟩ (.slice p n c) (NotInt.slice _ _ _);have Y:=O.put ⟨R,2,none⟩ (.bool t) (NotInt.bool _);exact⟨H.at_ 0 rfl,H.at_ 1 rfl,H.at_ 2 rfl,H.at_ 3 rfl,(((h.1.put I 0 _).put J 1 _).put O 2 _).put Y 3 _,(((h.2.put I 0 _).put J 1 _).put O 2 _).put Y 3 _⟩
theorem As {b w:World} {A D:Nat} (h:Below D b w) (H:D<=A) (v0 v1 v2 v3:Value):Below D b ((((w.setCell ⟨A,0,none⟩ v0).setCell ⟨A,1,none⟩ v1).setCell ⟨A,2,none⟩ v2).setCell ⟨A,3,none⟩ v3):=
 (((h.setCell (p:=⟨A,0,none⟩) H v0).setCell (p:=⟨A,1,none⟩) H v1).setCell (p:=⟨A,2,none⟩) H v2).setCell (p:=⟨A,3,none⟩) H v3
def U9 (wc:World) (A B:Nat) (x y:Int) (K:Nat) (r:Rat):Prop:=0<y/\Rat.divInt x y=r/\nd x.natAbs<=K/\nd y.natAbs<=K/\dG wc A B x y
theorem Ob {w:World} {A B C:Nat} {t:TypeId} {cs:Array Value} (h:Blk w C t cs) (H:C≠A) (I:C≠B) (v0 v1 v2 v3:Value):Blk ((((w.setCell ⟨A,0,none⟩ v0).setCell ⟨A,1,none⟩ v1).setCell ⟨B,0,none⟩ v2).setCell ⟨B,1,none⟩ v3) C t cs:=
 (((h.far_ (p:=⟨A,0,none⟩) H v0).far_ (p:=⟨A,1,none⟩) H v1).far_ (p:=⟨B,0,none⟩) I v2).far_ (p:=⟨B,1,none⟩) I v3
theorem Jo {b w:World} {A B D:Nat} (h:Below D b w) (H:D<=A) (I:D<=B) (v0 v1 v2 v3:Value):Below D b ((((w.setCell ⟨A,0,none⟩ v0).setCell ⟨A,1,none⟩ v1).setCell ⟨B,0,none⟩ v2).setCell ⟨B,1,none⟩ v3):=
 (((h.setCell (p:=⟨A,0,none⟩) H v0).setCell (p:=⟨A,1,none⟩) H v1).setCell (p:=⟨B,0,none⟩) I v2).setCell (p:=⟨B,1,none⟩) I v3
theorem Jx (s:Bool) (p:Option Addr) (n c:Nat) (x:Int) (t:Bool) (q:Option Addr) (m d:Nat) (y:Int) (w:World) (h:Zr w s p n c x) (h':Zr w t q m d y) (hn:n<=4398046511100) (hm:m<=4398046511100):
  Calls prog 85 #[.agg #[.bool s,.slice p n c],.agg #[.bool t,.slice q m d]] w λe w'=>Gr w' e (Rat.divInt x y)/\Below w.heap.size w w':=by
 have nI:=Kh (λw1 (hb:Below w.heap.size w w1)=>Jt s p n c x w1 (h.keep hb) (by omega));have nJ:=Kh (λw1 (hb:Below w.heap.size w w1)=>Jt t q m d y w1 (h'.keep hb) (by omega));have hx:=kU h.size hn;have hy:=kU h'.size hm;have HX:=Kh hx;have HY:=Kh hy;clear h h' hx hy;go_enter func85,ntmps85
 go_upto_region 1 with(fail)
 obtain⟨w0,nY,X0,X1,X2,hW⟩:=Rw w #[.bool s,.slice p n c] 84 #[.bool t,.slice q m d] 84 #[.bool false,.slice none 0 0,.bool false,.slice none 0 0] 86;rw[nY];clear nY;go_cut []from 6 to 9 (λwc=>dG wc w.heap.size (w.heap.size+1) x y/\Blk wc (w.heap.size+1+1) 86 #[.bool false,.slice none 0 0,.bool false,.slice none 0 0]/\Below w.heap.size w wc)
 case first=>
  have X0:=X0.drew_;have X1:=X1.drew_;have X2:=X2.drew_;have hW:=hW.drew;have c0:=X0.at_ 0 rfl;have c1:=X0.at_ 1 rfl;have c2:=X1.at_ 0 rfl;have c3:=X1.at_ 1 rfl;have Z:=Kh hW;have nA:=Kh X0;have nB:=Kh X1;have nC:=Kh X2;have M1:True:=trivial;clear X0 X1 X2 hW
  go_region_with (first
   |(go_at_call 134;clear M1;refine(nI.1 _ Z.1).mono ?_;rintro e w2 ⟨⟨s2,p2,n2,e2,rfl,bB⟩,V⟩;have H:=bt Z V;have nE:=Kh (bk nA V);have aN:=Kh (bk nB V);have hP:=Kh (bk nC V);have hT:=Kh bB;have a2:=aN.1.at_ 0 rfl;have a3:=aN.1.at_ 1 rfl;clear bB V nA nB nC Z)
   |(go_at_call 134;refine(nJ.1 _ H.1).mono ?_;rintro e w3 ⟨⟨s3,p3,n3,e3,rfl,bC⟩,aK⟩;have gS:=bt H aK;have aT:=Kh (bk nE aK);have aU:=Kh (bk aN aK);have mA:=Kh (bk hP aK);have hU:=Kh (And.intro (hT.1.keep aK) bC);have b0:=aT.1.at_ 0 rfl;have b1:=aT.1.at_ 1 rfl;have b2:=aU.1.at_ 0 rfl;have b3:=aU.1.at_ 1 rfl;have f0:=aT.1.free_ 0;have f1:=aT.1.free_ 1;have f2:=aU.1.free_ 0;have f3:=aU.1.free_ 1;clear bC aK nE aN hP H hT))
  all_goals go_wp2
  all_goals go_meet
  all_goals exact⟨Ta (by omega) aT.1 aU.1 hU.1.1 hU.1.2,Ob mA.1 (by omega) (by omega) _ _ _ _,Jo gS.1 (kT _) (by omega) _ _ _ _⟩
 case rest=>
  obtain⟨⟨s1,p1,n1,c1,t1,q1,m1,d1,XA,XB,zx,zy⟩,XR,hb⟩:=hcut;have mO:nd x.natAbs=n1:=zx.2.1;have mN:nd y.natAbs=m1:=zy.2.1;have lW:n1<=4398046511100:=by rw[<-mO];exact HX.1
  have lV:m1<=4398046511100:=by rw[<-mN];exact HY.1
  have nX:t1=decide (y<0):=zy.1;have a0:=XA.at_ 0 rfl;have a1:=XA.at_ 1 rfl;have a2:=XB.at_ 0 rfl;have a3:=XB.at_ 1 rfl;have lR:=Kh mO;have hQ:=Kh mN;have J:=Kh XA;have O:=Kh XB;have U:=Kh XR;have Z:=Kh hb;have aD:=Kh zx;have aJ:=Kh zy;have mC:=Kh nX;clear nI nJ X0 X1 X2 hW mO mN XA XB XR hb zx zy nX;go_upto_block 0 with(fail)
  go_cut []from 10 to 29 (λwd=>(∃x' y',U9 wd w.heap.size (w.heap.size+1) x' y' 4398046511100 (Rat.divInt x y))/\Blk wd (w.heap.size+1+1) 86 #[.bool false,.slice none 0 0,.bool false,.slice none 0 0]/\Below w.heap.size w wd)
  case first=>
   by_cases hm0:m1=0
   ·have HG:=Kh (show(0:Rat)=Rat.divInt x y by
     have:y=0:=by have:=Bo (v:=y.natAbs);have:=hQ.1;omega
     rw[this,Rat.divInt_zero])
    subst hm0;have HO:=Kh (Gc 1 wc (by omega) (by omega));go_wp2_with fail
    refine HO.1.mono ?_;rintro e w2 ⟨⟨s2,p2,n2,e2,rfl,bB⟩,V⟩;have I:=Kh (bk U V);have HB:=bt Z V;have HQ:=Kh (show Qs w2 false none 0 0 s2 p2 n2 e2 0 from⟨⟨rfl,rfl,Nm.nil _⟩,bB⟩);clear bB V HO U Z J O aD aJ a0 a1 a2 a3;have r0:=I.1.at_ 0 rfl;have r1:=I.1.at_ 1 rfl;have r2:=I.1.at_ 2 rfl;have r3:=I.1.at_ 3 rfl;have f0:=I.1.free_ 0;have f1:=I.1.free_ 1;have f2:=I.1.free_ 2;have f3:=I.1.free_ 3;obtain⟨w9,Y⟩:∃w9,(((w2.setCell ⟨w.heap.size+1+1,0,none⟩ (.bool false)).setCell ⟨w.heap.size+1+1,1,none⟩ (.slice none 0 0)).setCell ⟨w.heap.size+1+1,2,none⟩ (.bool s2)).setCell ⟨w.heap.size+1+1,3,none⟩ (.slice p2 n2 e2)=w9:=⟨_,rfl⟩
    obtain⟨E0,E1,E2,E3,bA⟩:=B9 I.1 HQ.1 Y;have aX:Below w.heap.size w w9:=by rw[<-Y];exact As HB.1 (by omega) _ _ _ _
    have gA:=Kh Y;have dY:=Kh (And.intro E0 (And.intro E1 (And.intro E2 E3)));have eP:=Kh bA;have dE:=Kh aX;clear E0 E1 E2 E3 bA aX Y HQ HB I;go_wp2;try rw[gA.1]
    obtain⟨E0,E1,E2,E3⟩:=dY.1;try simp only[Exit.inBlock,Exit.then]
    refine bodyPost_ret (by simp[results,results85,go_sem,E0,E1,E2,E3];try rfl) rfl ?_;exact⟨⟨false,none,0,0,s2,p2,n2,e2,rfl,HG.1▸eP.1⟩,dE.1⟩
   ·have qA:((m1:Int)==0)=false:=beq_eq_false_iff_ne.2 (by omega)
    by_cases hn0:n1=0
    ·have HG:=Kh (show(0:Rat)=Rat.divInt x y by
      have:x=0:=by have:=Bo (v:=x.natAbs);have:=lR.1;omega
      rw[this,Mb])
     subst hn0;have HO:=Kh (Gc 1 wc (by omega) (by omega));go_wp2_with fail
     refine HO.1.mono ?_;rintro e w2 ⟨⟨s2,p2,n2,e2,rfl,bB⟩,V⟩;have I:=Kh (bk U V);have HB:=bt Z V;have HQ:=Kh (show Qs w2 false none 0 0 s2 p2 n2 e2 0 from⟨⟨rfl,rfl,Nm.nil _⟩,bB⟩);clear bB V HO U Z J O aD aJ a0 a1 a2 a3;have r0:=I.1.at_ 0 rfl;have r1:=I.1.at_ 1 rfl;have r2:=I.1.at_ 2 rfl;have r3:=I.1.at_ 3 rfl;have f0:=I.1.free_ 0;have f1:=I.1.free_ 1;have f2:=I.1.free_ 2;have f3:=I.1.free_ 3;obtain⟨w9,Y⟩:∃w9,(((w2.setCell ⟨w.heap.size+1+1,0,none⟩ (.bool false)).setCell ⟨w.heap.size+1+1,1,none⟩ (.slice none 0 0)).setCell ⟨w.heap.size+1+1,2,none⟩ (.bool s2)).setCell ⟨w.heap.size+1+1,3,none⟩ (.slice p2 n2 e2)=w9:=⟨_,rfl⟩
     obtain⟨E0,E1,E2,E3,bA⟩:=B9 I.1 HQ.1 Y;have aX:Below w.heap.size w w9:=by rw[<-Y];exact As HB.1 (by omega) _ _ _ _
     have gA:=Kh Y;have dY:=Kh (And.intro E0 (And.intro E1 (And.intro E2 E3)));have eP:=Kh bA;have dE:=Kh aX;clear E0 E1 E2 E3 bA aX Y HQ HB I;go_wp2;try rw[gA.1]
     obtain⟨E0,E1,E2,E3⟩:=dY.1;try simp only[Exit.inBlock,Exit.then]
     refine bodyPost_ret (by simp[results,results85,go_sem,E0,E1,E2,E3];try rfl) rfl ?_;exact⟨⟨false,none,0,0,s2,p2,n2,e2,rfl,HG.1▸eP.1⟩,dE.1⟩
    ·have qC:((n1:Int)==0)=false:=beq_eq_false_iff_ne.2 (by omega)
     have oB:y≠0:=λh=>hm0 (by rw[<-hQ.1,h];rfl)
     have cD:=Kh oB;clear oB;cases t1 with
     | false=>
      have oE:0<y:=by have h1:=mC.1;have h2:=cD.1;simp at h1;omega
      have HF:=Kh (show U9 wc w.heap.size (w.heap.size+1) x y 4398046511100 (Rat.divInt x y)from⟨oE,rfl,HX.1,HY.1,_,_,_,_,_,_,_,_,J.1,O.1,aD.1,aJ.1⟩);clear oE;go_wp2;go_meet
      case rel=>exact⟨⟨x,y,HF.1⟩,U.1,Z.1⟩
     | true=>
      have oD:0 < -y:=by have h1:=mC.1;simp at h1;omega
      have oZ:=Kh oD;have oX:=Kh (λw1 (hb:Below wc.heap.size wc w1)=>Vo s1 p1 n1 c1 x w1 (aD.1.keep hb).raw (by omega));have oY:=Kh (λw1 (hb:Below wc.heap.size wc w1)=>Vo true q1 m1 d1 y w1 (aJ.1.keep hb).raw (by omega));have nD:=Kh (Below.refl wc.heap.size wc).drew;have M1:True:=trivial;clear oD;go_upto_region 5 with(fail)
      go_region_with (first
       |(go_at_call 98;clear M1;refine(oX.1 _ nD.1).mono ?_;rintro e w2 ⟨⟨s2,p2,n2,e2,rfl,bB⟩,V⟩;have H:=bt nD V;have hT:=Kh bB;have aN:=Kh (O.1.below_ H.1 O.1.lt);have pV:=aN.1.at_ 0 rfl;have pW:=aN.1.at_ 1 rfl;clear bB V aN)
       |(go_at_call 98;refine(oY.1 _ H.1).mono ?_;rintro e w3 ⟨⟨s3,p3,n3,e3,rfl,bC⟩,aK⟩;have gS:=bt H aK;have aT:=Kh (J.1.below_ gS.1 J.1.lt);have aU:=Kh (O.1.below_ gS.1 O.1.lt);have mA:=Kh (U.1.below_ gS.1 U.1.lt);have hU:=Kh (And.intro (hT.1.keep aK) bC);have b0:=aT.1.at_ 0 rfl;have b1:=aT.1.at_ 1 rfl;have b2:=aU.1.at_ 0 rfl;have b3:=aU.1.at_ 1 rfl;have f0:=aT.1.free_ 0;have f1:=aT.1.free_ 1;have f2:=aU.1.free_ 0;have f3:=aU.1.free_ 1;clear bC aK H hT))
      all_goals go_wp2
      all_goals go_meet
      all_goals exact⟨⟨-x,-y,oZ.1,Xn x y,by rw[Int.natAbs_neg];exact HX.1,by rw[Int.natAbs_neg];exact HY.1,Ta (by omega) aT.1 aU.1 hU.1.1 hU.1.2⟩,Ob mA.1 (by omega) (by omega) _ _ _ _,Jo (Z.1.trans (gS.1.mono Z.1.size)) (kT _) (by omega) _ _ _ _⟩
  case rest=>
   clear lR hQ J O U Z aD aJ mC HX HY a0 a1 a2 a3 lW lV n1 m1 s1 t1 p1 q1 c1 d1;obtain⟨⟨x',y',hy,hr,nZ,oC,s1,p1,n1,c1,t1,q1,m1,d1,XA,XB,zx,zy⟩,XR,hb⟩:=hcut;have a0:=XA.at_ 0 rfl;have a1:=XA.at_ 1 rfl;have a2:=XB.at_ 0 rfl;have a3:=XB.at_ 1 rfl;have lW:n1<=4398046511100:=by rw[<-zx.2.1];exact nZ
   have lV:m1<=4398046511100:=by rw[<-zy.2.1];exact oC
   have HO:=Kh (R6 t1 q1 m1 d1 y' wc zy.raw (by omega));have aD:=Kh zx;have aJ:=Kh zy;have J:=Kh XA;have O:=Kh XB;have U:=Kh XR;have Z:=Kh hb;have cD:=Kh hy;have hS:=Kh hr;clear hy hr nZ oC XA XB zx zy XR hb;go_wp2_with fail
   refine HO.1.mono ?_;rintro e w2 ⟨⟨b,rfl,hX⟩,V⟩;have H:=Kh V;have cC:=Kh hX;clear V HO hX;have b0:=(J.1.below_ H.1 J.1.lt).at_ 0 rfl;have b1:=(J.1.below_ H.1 J.1.lt).at_ 1 rfl;have b2:=(O.1.below_ H.1 O.1.lt).at_ 0 rfl;have b3:=(O.1.below_ H.1 O.1.lt).at_ 1 rfl;clear a0 a1 a2 a3;cases b with
   | true=>
    have HG:=Kh (show Rat.divInt x' 1=Rat.divInt x y by rw[<-hS.1,cC.1 rfl])
    have HQ:=Kh (show Qs w2 s1 p1 n1 c1 t1 q1 m1 d1 (Rat.divInt x' 1)by
     have h1:=aD.1.keep H.1;have h2:=aJ.1.keep H.1;rw[cC.1 rfl]at h2;unfold Qs;rw[(Hc x').1,(Hc x').2];exact⟨h1,h2⟩)
    have I:=Kh (U.1.below_ H.1 U.1.lt);have HB:=Kh (Z.1.trans (H.1.mono Z.1.size));clear cC hS cD aD aJ J O U Z H;have r0:=I.1.at_ 0 rfl;have r1:=I.1.at_ 1 rfl;have r2:=I.1.at_ 2 rfl;have r3:=I.1.at_ 3 rfl;have f0:=I.1.free_ 0;have f1:=I.1.free_ 1;have f2:=I.1.free_ 2;have f3:=I.1.free_ 3;obtain⟨w9,Y⟩:∃w9,(((w2.setCell ⟨w.heap.size+1+1,0,none⟩ (.bool s1)).setCell ⟨w.heap.size+1+1,1,none⟩ (.slice p1 n1 c1)).setCell ⟨w.heap.size+1+1,2,none⟩ (.bool t1)).setCell ⟨w.heap.size+1+1,3,none⟩ (.slice q1 m1 d1)=w9:=⟨_,rfl⟩
    obtain⟨E0,E1,E2,E3,bA⟩:=B9 I.1 HQ.1 Y;have aX:Below w.heap.size w w9:=by rw[<-Y];exact As HB.1 (by omega) _ _ _ _
    have gA:=Kh Y;have dY:=Kh (And.intro E0 (And.intro E1 (And.intro E2 E3)));have eP:=Kh bA;have dE:=Kh aX;clear E0 E1 E2 E3 bA aX Y HQ HB I;go_wp2;try rw[gA.1]
    obtain⟨E0,E1,E2,E3⟩:=dY.1;try simp only[Exit.inBlock,Exit.then]
    refine bodyPost_ret (by simp[results,results85,go_sem,E0,E1,E2,E3];try rfl) rfl ?_;exact⟨⟨s1,p1,n1,c1,t1,q1,m1,d1,rfl,HG.1▸eP.1⟩,dE.1⟩
   | false=>
    have nH:=Kh (gC s1 p1 n1 c1 x' t1 q1 m1 d1 y' w2 (aD.1.keep H.1).raw (aJ.1.keep H.1).raw (by omega) (by omega));clear cC;go_wp2_with fail
    refine nH.1.mono ?_;rintro e w3 ⟨⟨s3,p3,n3,e3,rfl,bC⟩,aK⟩;obtain⟨wg,pF⟩:∃wg,w3.alloc (.cells #[.bool s3,.slice p3 n3 e3] 84)=wg:=⟨_,rfl⟩
    obtain⟨XG,hY⟩:=Gs w3 #[.bool s3,.slice p3 n3 e3] 84;rw[pF]at XG hY;have gP:Below wc.heap.size wc w3:=H.1.trans (aK.mono H.1.size);have nW:Below wc.heap.size wc wg:=gP.trans (hY.mono gP.size)
    have pY:n3<=n1+m1:=by
     have h1:=bC.2.1;rw[Int.natAbs_natCast]at h1;rw[<-h1];by_cases hx0:x'.natAbs=0
     ·have e:Int.gcd x' y'=y'.natAbs:=by show Nat.gcd x'.natAbs y'.natAbs=_;rw[hx0,Nat.gcd_zero_left]
      rw[e];have:=aJ.1.2.1;omega
     ·have e:=Bm (Nat.gcd_le_left y'.natAbs (show 0<x'.natAbs by omega))
      have:=aD.1.2.1;exact kU e (by omega)
    have mM:w3.heap.size≠w.heap.size/\w3.heap.size≠w.heap.size+1/\w3.heap.size≠w.heap.size+1+1:=by
     have h1:=J.1.lt;have h2:=O.1.lt;have h3:=U.1.lt;have h4:=gP.size;omega
    obtain⟨gb,pE⟩:∃gb,w3.heap.size=gb:=⟨_,rfl⟩
    rw[pE]at XG mM;have gF:=Kh XG;have mB:=Kh mM;have hB:=Kh (bC.keep hY);have HD:=Kh nW;have g0:=XG.at_ 0 rfl;have g1:=XG.at_ 1 rfl;have HO:=Kh (R6 s3 p3 n3 e3 _ wg (bC.keep hY).raw (by omega));clear bC aK nH gP nW hY XG mM b0 b1 b2 b3;go_wp2_with fail
    refine HO.1.mono ?_;rintro e w4 ⟨⟨b,rfl,hX⟩,lI⟩;have aL:Below wc.heap.size wc w4:=HD.1.trans (lI.mono HD.1.size);have cC:=Kh hX;replace HD:=Kh aL;replace J:=Kh (bk J aL);replace O:=Kh (bk O aL);replace U:=Kh (bk U aL);replace gF:=Kh (bk gF lI);replace aD:=Kh (aD.1.keep aL);replace aJ:=Kh (aJ.1.keep aL);replace hB:=Kh (hB.1.keep lI);have hO:=bt Z aL;clear hX lI aL HO Z H g0 g1 HD;go_upto_if 40 with(fail)
    go_cut []from 41 to 52 (λwf=>(∃s' p' n' c' t' q' m' d',Blk wf w.heap.size 84 #[.bool s',.slice p' n' c']/\Blk wf (w.heap.size+1) 84 #[.bool t',.slice q' m' d']/\Qs wf s' p' n' c' t' q' m' d' (Rat.divInt x y))/\Blk wf (w.heap.size+1+1) 86 #[.bool false,.slice none 0 0,.bool false,.slice none 0 0]/\Below w.heap.size w wf)
    case first=>
     cases b with
     | true=>
      have HQ:=Kh (show Qs w4 s1 p1 n1 c1 t1 q1 m1 d1 (Rat.divInt x y)by
       have h1:=Hb (n:=x') cD.1;have h2:=Ha (n:=x') cD.1;rw[cC.1 rfl,Int.ediv_one,hS.1]at h1 h2;unfold Qs;rw[h1,h2];exact⟨aD.1,aJ.1⟩)
      clear cC;go_wp2;go_meet
      case rel=>exact⟨⟨_,_,_,_,_,_,_,_,J.1,O.1,HQ.1⟩,U.1,hO.1⟩
     | false=>
      have mL:((Int.gcd x' y':Nat):Int)≠0:=by
       have h1:=Int.gcd_pos_iff (a:=x') (b:=y');have h2:=cD.1;have h3:=h1.2 (Or.inr (by omega));omega
      have aN:=Kh (λw5 (hb:Below w4.heap.size w4 w5)=>R0 s1 p1 n1 c1 x' s3 p3 n3 e3 _ w5 (aD.1.keep hb).raw (hB.1.keep hb).raw (by omega) (by omega) mL (Int.emod_eq_zero_of_dvd (Int.gcd_dvd_left ..)));have hP:=Kh (λw5 (h1:Zr w5 t1 q1 m1 d1 y') (h2:Zr w5 s3 p3 n3 e3 (Int.gcd x' y':Nat))=>R0 t1 q1 m1 d1 y' s3 p3 n3 e3 _ w5 h1 h2 (by omega) (by omega) mL (Int.emod_eq_zero_of_dvd (Int.gcd_dvd_right ..)));have a0:=J.1.at_ 0 rfl;have a1:=J.1.at_ 1 rfl;have g0:=gF.1.at_ 0 rfl;have g1:=gF.1.at_ 1 rfl;clear mL cC;go_wp2_with fail
      refine(aN.1 w4 (Below.refl _ _)).mono ?_;rintro e w5 ⟨⟨s5,p5,n5,e5,rfl,oF⟩,cX⟩;have YA:=bk J cX;have YB:=bk O cX;have YR:=bk U cX;have YG:=bk gF cX;obtain⟨w6,mP⟩:∃w6,(w5.setCell ⟨w.heap.size,0,none⟩ (.bool s5)).setCell ⟨w.heap.size,1,none⟩ (.slice p5 n5 e5)=w6:=⟨_,rfl⟩
      obtain⟨ZA,z5⟩:=Fw YA oF;have st:=Sts.box YA;have ZB:=(YB.far_ (p:=⟨w.heap.size,0,none⟩) (by show w.heap.size+1≠w.heap.size;omega) (.bool s5)).far_ (p:=⟨w.heap.size,1,none⟩) (by show w.heap.size+1≠w.heap.size;omega) (.slice p5 n5 e5);have ZR:=(YR.far_ (p:=⟨w.heap.size,0,none⟩) (by show w.heap.size+1+1≠w.heap.size;omega) (.bool s5)).far_ (p:=⟨w.heap.size,1,none⟩) (by show w.heap.size+1+1≠w.heap.size;omega) (.slice p5 n5 e5);have ZG:=(YG.far_ (p:=⟨w.heap.size,0,none⟩) mB.1.1 (.bool s5)).far_ (p:=⟨w.heap.size,1,none⟩) mB.1.1 (.slice p5 n5 e5);have zy:=(aJ.1.keep cX).put2 st 0 1 (.bool s5) (.slice p5 n5 e5) (NotInt.bool _);have zg:=(hB.1.keep cX).put2 st 0 1 (.bool s5) (.slice p5 n5 e5) (NotInt.bool _);have mK:Below w.heap.size w ((w5.setCell ⟨w.heap.size,0,none⟩ (.bool s5)).setCell ⟨w.heap.size,1,none⟩ (.slice p5 n5 e5)):=((hO.1.trans (cX.mono hO.1.size)).setCell (kT _) _).setCell (kT _) _;rw[mP]at ZA ZB ZR ZG zy zg mK z5;have a0:=YA.at_ 0 rfl;have a1:=YA.at_ 1 rfl;have f0:=YA.free_ 0;have f1:=YA.free_ 1;have b2:=ZB.at_ 0 rfl;have b3:=ZB.at_ 1 rfl;have g0:=ZG.at_ 0 rfl;have g1:=ZG.at_ 1 rfl;have nL:=Kh ZA;have nM:=Kh ZB;have nN:=Kh ZR;have nK:=Kh z5;have nF:=Kh (hP.1 w6 zy.raw zg.raw);have lZ:=Kh mK;clear cX oF YA YB YR YG ZA ZB ZR ZG z5 zy zg mK st aN hP hO J O U gF aD aJ hB;go_wp2_with fail
      try rw[mP]
      refine nF.1.mono ?_;rintro e w7 ⟨⟨s7,p7,n7,e7,rfl,oG⟩,hI⟩;have YA:=bk nL hI;have YB:=bk nM hI;have YR:=bk nN hI;obtain⟨ZB,z7⟩:=Fw YB oG;have ZA:=(YA.far_ (p:=⟨w.heap.size+1,0,none⟩) (by show w.heap.size≠w.heap.size+1;omega) (.bool s7)).far_ (p:=⟨w.heap.size+1,1,none⟩) (by show w.heap.size≠w.heap.size+1;omega) (.slice p7 n7 e7);have ZR:=(YR.far_ (p:=⟨w.heap.size+1,0,none⟩) (by show w.heap.size+1+1≠w.heap.size+1;omega) (.bool s7)).far_ (p:=⟨w.heap.size+1,1,none⟩) (by show w.heap.size+1+1≠w.heap.size+1;omega) (.slice p7 n7 e7);have z5:=(nK.1.keep hI).put2 (Sts.box YB) 0 1 (.bool s7) (.slice p7 n7 e7) (NotInt.bool _);have nV:Below w.heap.size w ((w7.setCell ⟨w.heap.size+1,0,none⟩ (.bool s7)).setCell ⟨w.heap.size+1,1,none⟩ (.slice p7 n7 e7)):=((lZ.1.trans (hI.mono lZ.1.size)).setCell (by show w.heap.size<=w.heap.size+1;omega) _).setCell (by show w.heap.size<=w.heap.size+1;omega) _;have c0:=YB.at_ 0 rfl;have c1:=YB.at_ 1 rfl;have f2:=YB.free_ 0;have f3:=YB.free_ 1
      have HF:=Kh (show(∃s' p' n' c' t' q' m' d',Blk ((w7.setCell ⟨w.heap.size+1,0,none⟩ (.bool s7)).setCell ⟨w.heap.size+1,1,none⟩ (.slice p7 n7 e7)) w.heap.size 84 #[.bool s',.slice p' n' c']/\Blk ((w7.setCell ⟨w.heap.size+1,0,none⟩ (.bool s7)).setCell ⟨w.heap.size+1,1,none⟩ (.slice p7 n7 e7)) (w.heap.size+1) 84 #[.bool t',.slice q' m' d']/\Qs ((w7.setCell ⟨w.heap.size+1,0,none⟩ (.bool s7)).setCell ⟨w.heap.size+1,1,none⟩ (.slice p7 n7 e7)) s' p' n' c' t' q' m' d' (Rat.divInt x y))by
       refine⟨_,_,_,_,_,_,_,_,ZA,ZB,?_⟩;have h1:=Hb (n:=x') cD.1;have h2:=Ha (n:=x') cD.1;rw[hS.1]at h1 h2;unfold Qs;rw[h1,h2];exact⟨z5,z7⟩)
      have nO:=Kh ZR;have oV:=Kh nV;clear hI oG YA YB YR ZA ZB ZR z5 z7 nV nF lZ nL nM nN nK a0 a1 f0 f1 b2 b3 g0 g1 mP;go_wp2;go_meet
      case rel=>exact⟨HF.1,nO.1,oV.1⟩
    case rest=>
     clear J O U gF aD aJ hB mB hO cC hS cD;obtain⟨⟨s5,p5,n5,e5,t5,q5,m5,d5,XA,XB,hq⟩,XR,hb⟩:=hcut;have a0:=XA.at_ 0 rfl;have a1:=XA.at_ 1 rfl;have a2:=XB.at_ 0 rfl;have a3:=XB.at_ 1 rfl;have HQ:=Kh hq;have I:=Kh XR;have HB:=Kh hb;clear XA XB XR hq hb;have r0:=I.1.at_ 0 rfl;have r1:=I.1.at_ 1 rfl;have r2:=I.1.at_ 2 rfl;have r3:=I.1.at_ 3 rfl;have f0:=I.1.free_ 0;have f1:=I.1.free_ 1;have f2:=I.1.free_ 2;have f3:=I.1.free_ 3;obtain⟨w9,Y⟩:∃w9,(((wc.setCell ⟨w.heap.size+1+1,0,none⟩ (.bool s5)).setCell ⟨w.heap.size+1+1,1,none⟩ (.slice p5 n5 e5)).setCell ⟨w.heap.size+1+1,2,none⟩ (.bool t5)).setCell ⟨w.heap.size+1+1,3,none⟩ (.slice q5 m5 d5)=w9:=⟨_,rfl⟩
     obtain⟨E0,E1,E2,E3,bA⟩:=B9 I.1 HQ.1 Y;have aX:Below w.heap.size w w9:=by rw[<-Y];exact As HB.1 (by omega) _ _ _ _
     have gA:=Kh Y;have dY:=Kh (And.intro E0 (And.intro E1 (And.intro E2 E3)));have eP:=Kh bA;have dE:=Kh aX;clear E0 E1 E2 E3 bA aX Y HQ HB I;go_wp2;try rw[gA.1]
     obtain⟨E0,E1,E2,E3⟩:=dY.1;try simp only[Exit.inBlock,Exit.then]
     refine bodyPost_ret (by simp[results,results85,go_sem,E0,E1,E2,E3];try rfl) rfl ?_;exact⟨⟨s5,p5,n5,e5,t5,q5,m5,d5,rfl,eP.1⟩,dE.1⟩
theorem Qs.put4 {w:World} {R:Nat} (H:Sts w R) {s t:Bool} {p q:Option Addr} {n c m d:Nat} {r:Rat} (h:Qs w s p n c t q m d r) (v0 v1 v2 v3:Value) (U:NotInt v0) (V:NotInt v1) (Y:NotInt v2):
  Qs ((((w.setCell ⟨R,0,none⟩ v0).setCell ⟨R,1,none⟩ v1).setCell ⟨R,2,none⟩ v2).setCell ⟨R,3,none⟩ v3) s p n c t q m d r:=by
 have I:=H.put ⟨R,0,none⟩ v0 U;have J:=I.put ⟨R,1,none⟩ v1 V;have O:=J.put ⟨R,2,none⟩ v2 Y;exact⟨(((h.1.put H 0 _).put I 1 _).put J 2 _).put O 3 _,(((h.2.put H 0 _).put I 1 _).put J 2 _).put O 3 _⟩
theorem Lu (s:Bool) (p:Option Addr) (n c:Nat) (x:Int) (t:Bool) (q:Option Addr) (m d:Nat) (y:Int) (w:World) (h:Zr w s p n c x) (h':Zr w t q m d y) (hn:n<=4398046511100) (hm:m<=4398046511100):
  Calls prog 80 #[.agg #[.bool s,.slice p n c,.bool t,.slice q m d]] w λe w'=>Gr w' e (Rat.divInt x y)/\Below w.heap.size w w':=by
 have HC:=Kh (λw1 (hb:Below w.heap.size w w1)=>Jx s p n c x t q m d y w1 (h.keep hb) (h'.keep hb) hn hm);clear h h';go_enter func80,ntmps80
 go_wp2_with fail
 obtain⟨w0,aJ,X0,X1,V⟩:=bx2 w #[.bool s,.slice p n c,.bool t,.slice q m d] 86 #[.bool false,.slice none 0 0,.bool false,.slice none 0 0] 86;rw[aJ];have U:=Kh X1;have J:=Kh V;clear X0 X1 V aJ;refine(HC.1 _ J.1).mono ?_;rintro e w2 ⟨⟨s2,p2,n2,e2,t2,q2,m2,d2,rfl,Z⟩,O⟩;have HQ:=Kh Z;have H:=Kh (bk U O);have HB:=bt J O;clear Z O U J HC;have r0:=H.1.at_ 0 rfl;have r1:=H.1.at_ 1 rfl;have r2:=H.1.at_ 2 rfl;have r3:=H.1.at_ 3 rfl;have f0:=H.1.free_ 0;have f1:=H.1.free_ 1;have f2:=H.1.free_ 2;have f3:=H.1.free_ 3;obtain⟨w9,I⟩:∃w9,(((w2.setCell ⟨w.heap.size+1,0,none⟩ (.bool s2)).setCell ⟨w.heap.size+1,1,none⟩ (.slice p2 n2 e2)).setCell ⟨w.heap.size+1,2,none⟩ (.bool t2)).setCell ⟨w.heap.size+1,3,none⟩ (.slice q2 m2 d2)=w9:=⟨_,rfl⟩
 obtain⟨E0,E1,E2,E3,aD⟩:=B9 H.1 HQ.1 I;have Y:Below w.heap.size w w9:=by rw[<-I];exact As HB.1 (by omega) _ _ _ _
 have bB:=Kh I;have aX:=Kh (And.intro E0 (And.intro E1 (And.intro E2 E3)));have bA:=Kh aD;have aU:=Kh Y;clear E0 E1 E2 E3 aD Y I HQ HB H;go_wp2;try rw[bB.1]
 obtain⟨E0,E1,E2,E3⟩:=aX.1;try simp only[Exit.inBlock,Exit.then]
 refine bodyPost_ret (by simp[results,results80,go_sem,E0,E1,E2,E3];try rfl) rfl ?_;exact⟨⟨s2,p2,n2,e2,t2,q2,m2,d2,rfl,bA.1⟩,aU.1⟩
theorem Ey (z:Int) (w:World) (h1:-4611686018427387904<=z) (h2:z<=4611686018427387904):
  Calls prog 49 #[.int .i64 z] w λe w'=>Gr w' e (z:Rat)/\Below w.heap.size w w':=by
 have HC:=Kh (λw1=>Gc z w1 h1 h2);have HO:=Kh (λw1=>Gc 1 w1 (by omega) (by omega));clear h1 h2;go_enter func49,ntmps49
 go_wp2_with fail
 obtain⟨w0,aK,X0,h⟩:=bx1 w #[.bool false,.slice none 0 0,.bool false,.slice none 0 0] 86;rw[aK];have I:=Kh X0;have V:=Kh h;clear X0 h aK;refine(HC.1 _).mono ?_;rintro e w1 ⟨⟨s2,p2,n2,e2,rfl,aL⟩,U⟩;have Z:=Kh aL;have Y:=bt V U;replace I:=Kh (bk I U);clear aL U HC;go_wp2_with fail
 refine(HO.1 _).mono ?_;rintro e w2 ⟨⟨t2,q2,m2,d2,rfl,aN⟩,J⟩;have HQ:=Kh (show Qs w2 s2 p2 n2 e2 t2 q2 m2 d2 (z:Rat)from⟨Z.1.keep J,aN⟩);have H:=Kh (bk I J);have HB:=bt Y J;clear aN J I Y Z HO V;have r0:=H.1.at_ 0 rfl;have r1:=H.1.at_ 1 rfl;have r2:=H.1.at_ 2 rfl;have r3:=H.1.at_ 3 rfl;have f0:=H.1.free_ 0;have f1:=H.1.free_ 1;have f2:=H.1.free_ 2;have f3:=H.1.free_ 3;obtain⟨w9,O⟩:∃w9,(((w2.setCell ⟨w.heap.size,0,none⟩ (.bool s2)).setCell ⟨w.heap.size,1,none⟩ (.slice p2 n2 e2)).setCell ⟨w.heap.size,2,none⟩ (.bool t2)).setCell ⟨w.heap.size,3,none⟩ (.slice q2 m2 d2)=w9:=⟨_,rfl⟩
 obtain⟨E0,E1,E2,E3,aJ⟩:=B9 H.1 HQ.1 O;have aD:Below w.heap.size w w9:=by rw[<-O];exact As HB.1 (by omega) _ _ _ _
 have cA:=Kh O;have bE:=Kh (And.intro E0 (And.intro E1 (And.intro E2 E3)));have bY:=Kh aJ;have bC:=Kh aD;clear E0 E1 E2 E3 aJ aD O HQ HB H;go_wp2;try rw[cA.1]
 obtain⟨E0,E1,E2,E3⟩:=bE.1;try simp only[Exit.inBlock,Exit.then]
 refine bodyPost_ret (by simp[results,results49,go_sem,E0,E1,E2,E3];try rfl) rfl ?_;exact⟨⟨s2,p2,n2,e2,t2,q2,m2,d2,rfl,bY.1⟩,bC.1⟩
theorem eB (s:Bool) (p:Option Addr) (n c:Nat) (x:Int) (t:Bool) (q:Option Addr) (m d:Nat) (y:Int) (s':Bool) (p':Option Addr) (n' c':Nat) (U:Int) (t':Bool) (q':Option Addr) (Y d':Nat) (V:Int) (w:World) (h1:Zr w s p n c x) (h2:Zr w t q m d y) (h3:Zr w s' p' n' c' U) (h4:Zr w t' q' Y d' V) (hn:n<=2199023255500) (hm:m<=2199023255500) (hS:n'<=2199023255500) (hR:Y<=2199023255500):
  Calls prog 44 #[.agg #[.bool s,.slice p n c,.bool t,.slice q m d],.agg #[.bool s',.slice p' n' c',.bool t',.slice q' Y d']] w λe w'=>Gr w' e (Rat.divInt x y*Rat.divInt U V)/\Below w.heap.size w w':=by
 have HV:=Kh (Rat.divInt_mul_divInt x U (d₁:=y) (d₂:=V));have cC:=Kh (show nd (x*U).natAbs<=4398046511100 by rw[Int.natAbs_mul];have:=Cd x.natAbs U.natAbs;have:=h1.size;have:=h3.size;omega);have cD:=Kh (show nd (y*V).natAbs<=4398046511100 by rw[Int.natAbs_mul];have:=Cd y.natAbs V.natAbs;have:=h2.size;have:=h4.size;omega);have bY:=Kh (λH (hb:Below w.heap.size w H)=>Gw s p n c x s' p' n' c' U H (h1.keep hb) (h3.keep hb) (by omega) (by omega));have cA:=Kh (λH (hb:Below w.heap.size w H)=>Gw t q m d y t' q' Y d' V H (h2.keep hb) (h4.keep hb) (by omega) (by omega));clear h1 h2 h3 h4;go_enter func44,ntmps44
 go_upto_region 1 with(fail)
 obtain⟨w0,aU,Z,h,I,aL⟩:=Rw w #[.bool s,.slice p n c,.bool t,.slice q m d] 86 #[.bool s',.slice p' n' c',.bool t',.slice q' Y d'] 86 #[.bool false,.slice none 0 0,.bool false,.slice none 0 0] 86;rw[aU];have gP:w.heap.size<=w0.heap.size:=aL.size;clear aU;have M1:True:=trivial;have T2:=Sts.of I (by intro v hv;simp at hv;rcases hv with rfl|rfl|rfl|rfl <;> first|exact NotInt.bool _|exact NotInt.slice _ _ _);have gA:=A7 (Below.refl _ w0).drew ⟨Z.c0,Z.c1,Z.c2,Z.c3,h.c0,h.c1,h.c2,h.c3,I.so 0,I.free_ 0,T2,I.so 1,I.free_ 1,T2,I.so 2,I.free_ 2,T2,I.so 3,I.free_ 3,T2,aL,gP⟩;clear Z h I
 go_region_held3 (λH=>H.cell? ⟨w.heap.size,0,none⟩=some (.bool s)/\H.cell? ⟨w.heap.size,1,none⟩=some (.slice p n c)/\H.cell? ⟨w.heap.size,2,none⟩=some (.bool t)/\H.cell? ⟨w.heap.size,3,none⟩=some (.slice q m d)/\H.cell? ⟨w.heap.size+1,0,none⟩=some (.bool s')/\H.cell? ⟨w.heap.size+1,1,none⟩=some (.slice p' n' c')/\H.cell? ⟨w.heap.size+1,2,none⟩=some (.bool t')/\H.cell? ⟨w.heap.size+1,3,none⟩=some (.slice q' Y d')/\H.cell? ⟨w.heap.size+1+1,0,none⟩=some (cellOf H ⟨w.heap.size+1+1,0,none⟩)/\H.frozen? ⟨w.heap.size+1+1,0,none⟩=false/\Sts H (w.heap.size+1+1)/\H.cell? ⟨w.heap.size+1+1,1,none⟩=some (cellOf H ⟨w.heap.size+1+1,1,none⟩)/\H.frozen? ⟨w.heap.size+1+1,1,none⟩=false/\Sts H (w.heap.size+1+1)/\H.cell? ⟨w.heap.size+1+1,2,none⟩=some (cellOf H ⟨w.heap.size+1+1,2,none⟩)/\H.frozen? ⟨w.heap.size+1+1,2,none⟩=false/\Sts H (w.heap.size+1+1)/\H.cell? ⟨w.heap.size+1+1,3,none⟩=some (cellOf H ⟨w.heap.size+1+1,3,none⟩)/\H.frozen? ⟨w.heap.size+1+1,3,none⟩=false/\Sts H (w.heap.size+1+1)/\Below w.heap.size w H/\w.heap.size<=H.heap.size)
  (first|with_reducible exact gA |(refine A7 (by with_reducible assumption) ?_;assumption) |(refine D6 ?_ ?_ ?_ ?_ ?_ ?_ ?_ ?_ ?_ ?_ ?_ ?_ ?_ ?_ ?_ ?_ ?_ ?_ ?_ ?_ ?_ ?_ ?_ ?_ ?_ ?_ ?_ ?_ ?_ ?_ ?_ ?_ ?_ ?_ ?_ ?_ ?_ ?_ ?_ ?_ ?_ <;> first|assumption|exact NotInt.bool _|exact NotInt.slice _ _ _ |(dsimp only;omega) |(simp;done)))
  (first
   |(go_at_call 84;clear M1;refine(bY.1 _ (Bl (by with_reducible assumption))).mono ?_;rintro e w2 ⟨⟨s2,p2,n2,e2,rfl,aX⟩,gF⟩;have J:=Kh aX;clear aX)
   |(go_at_call 84;refine(cA.1 _ (Bl (by with_reducible assumption))).mono ?_;rintro e w3 ⟨⟨s3,p3,n3,e3,rfl,O⟩,aN⟩;have cB:=Kh (Jx s2 p2 n2 e2 (x*U) s3 p3 n3 e3 (y*V) w3 (J.1.keep aN).raw O.raw (by rw[<-J.1.2.1];exact cC.1) (by rw[<-O.2.1];exact cD.1));clear O gF J)
   |(go_at_call 85;refine cB.1.mono ?_;rintro e w4 ⟨⟨s4,p4,n4,e4,t4,q4,m4,d4,rfl,aT⟩,gL⟩;clear aN;obtain⟨⟨dC,hT⟩,⟨dE,_⟩,⟨dY,_⟩,⟨eP,_⟩⟩:=Jm gL (by with_reducible assumption);have gN:=Kh (aT.put4 hT (.bool s4) (.slice p4 n4 e4) (.bool t4) (.slice q4 m4 d4) (NotInt.bool _) (NotInt.slice _ _ _) (NotInt.bool _));clear aT hT))
 go_wp2;try simp only[Exit.inBlock,Exit.then]
 refine bodyPost_ret (by simp[results,results44,go_sem,dC,dE,dY,eP];try rfl) rfl ?_;exact⟨⟨s4,p4,n4,e4,t4,q4,m4,d4,rfl,HV.1▸gN.1⟩,Bl (by assumption)⟩
abbrev dB (B:Nat) (w0 w:World) (a0 a1 a2 a3:Addr) (v0 v1 v2 v3:Value):Prop:=w.cell? a0=some v0/\w.cell? a1=some v1/\w.cell? a2=some v2/\w.cell? a3=some v3/\Below B w0 w/\B<=w.heap.size
theorem Lh {B:Nat} {w0 w w':World} {H I J O:Addr} {v0 v1 v2 v3:Value} (U:Below w.heap.size w w') (h:dB B w0 w H I J O v0 v1 v2 v3):dB B w0 w' H I J O v0 v1 v2 v3:=SS.next (B:=B) (w0:=w0) (l:=[(H,v0),(I,v1),(J,v2),(O,v3)]) (m:=[]) U h
theorem Ga {B:Nat} {w0 w:World} {H I J O:Addr} {v0 v1 v2 v3:Value} (h:dB B w0 w H I J O v0 v1 v2 v3):Below B w0 w:=SS.below (B:=B) (w0:=w0) (l:=[(H,v0),(I,v1),(J,v2),(O,v3)]) (m:=[]) h
abbrev P4 (B:Nat) (w0 w:World) (a0 a1 a2 a3 a4 a5 a6 a7:Addr) (v0 v1 v2 v3 v4 v5 v6 v7:Value):Prop:=w.cell? a0=some v0/\w.cell? a1=some v1/\w.cell? a2=some v2/\w.cell? a3=some v3/\w.cell? a4=some v4/\w.cell? a5=some v5/\w.cell? a6=some v6/\w.cell? a7=some v7/\Below B w0 w/\B<=w.heap.size
theorem D5 {B:Nat} {w0 w w':World} {H I J O U V Y Z:Addr} {v0 v1 v2 v3 v4 v5 v6 v7:Value} (hb:Below w.heap.size w w') (h:P4 B w0 w H I J O U V Y Z v0 v1 v2 v3 v4 v5 v6 v7):P4 B w0 w' H I J O U V Y Z v0 v1 v2 v3 v4 v5 v6 v7:=SS.next (B:=B) (w0:=w0) (l:=[(H,v0),(I,v1),(J,v2),(O,v3),(U,v4),(V,v5),(Y,v6),(Z,v7)]) (m:=[]) hb h
theorem Cq {B:Nat} {w0 w:World} {H I J O U V Y Z:Addr} {v0 v1 v2 v3 v4 v5 v6 v7:Value} (h:P4 B w0 w H I J O U V Y Z v0 v1 v2 v3 v4 v5 v6 v7):Below B w0 w:=SS.below (B:=B) (w0:=w0) (l:=[(H,v0),(I,v1),(J,v2),(O,v3),(U,v4),(V,v5),(Y,v6),(Z,v7)]) (m:=[]) h
abbrev Tk (B:Nat) (w0 w:World) (a0 a1 a2 a3 a4 a5 b0 b1 b2 b3:Addr) (v0 v1 v2 v3 v4 v5:Value):Prop:=w.cell? a0=some v0/\w.cell? a1=some v1/\w.cell? a2=some v2/\w.cell? a3=some v3/\w.cell? a4=some v4/\w.cell? a5=some v5/\w.cell? b0=some (cellOf w b0)/\w.frozen? b0=false/\Sts w b0.block/\w.cell? b1=some (cellOf w b1)/\w.frozen? b1=false/\Sts w b1.block/\w.cell? b2=some (cellOf w b2)/\w.frozen? b2=false/\Sts w b2.block/\w.cell? b3=some (cellOf w b3)/\w.frozen? b3=false/\Sts w b3.block/\Below B w0 w/\B<=w.heap.size
theorem Li {B:Nat} {w0 w w':World} {H I J O U V Y Z b2 b3:Addr} {v0 v1 v2 v3 v4 v5:Value} (hb:Below w.heap.size w w') (h:Tk B w0 w H I J O U V Y Z b2 b3 v0 v1 v2 v3 v4 v5):Tk B w0 w' H I J O U V Y Z b2 b3 v0 v1 v2 v3 v4 v5:=SS.next (B:=B) (w0:=w0) (l:=[(H,v0),(I,v1),(J,v2),(O,v3),(U,v4),(V,v5)]) (m:=[Y,Z,b2,b3]) hb h
theorem Jl {B:Nat} {w0 w:World} {H I J O U V Y Z b2 b3:Addr} {v0 v1 v2 v3 v4 v5:Value} (h:Tk B w0 w H I J O U V Y Z b2 b3 v0 v1 v2 v3 v4 v5):Below B w0 w:=SS.below (B:=B) (w0:=w0) (l:=[(H,v0),(I,v1),(J,v2),(O,v3),(U,v4),(V,v5)]) (m:=[Y,Z,b2,b3]) h
theorem Ve {B:Nat} {w0 w w':World} {U V Y Z a4 a5 H I J O:Addr} {v0 v1 v2 v3 v4 v5:Value} (hb:Below w.heap.size w w') (h:Tk B w0 w U V Y Z a4 a5 H I J O v0 v1 v2 v3 v4 v5):((w'.cell? H).isSome=true/\Sts w' H.block)/\((w'.cell? I).isSome=true/\Sts w' I.block)/\((w'.cell? J).isSome=true/\Sts w' J.block)/\((w'.cell? O).isSome=true/\Sts w' O.block):=⟨SS.end_ (B:=B) (w0:=w0) (l:=[(U,v0),(V,v1),(Y,v2),(Z,v3),(a4,v4),(a5,v5)]) (m:=[H,I,J,O]) hb h (by simp),SS.end_ (B:=B) (w0:=w0) (l:=[(U,v0),(V,v1),(Y,v2),(Z,v3),(a4,v4),(a5,v5)]) (m:=[H,I,J,O]) hb h (by simp),SS.end_ (B:=B) (w0:=w0) (l:=[(U,v0),(V,v1),(Y,v2),(Z,v3),(a4,v4),(a5,v5)]) (m:=[H,I,J,O]) hb h (by simp),SS.end_ (B:=B) (w0:=w0) (l:=[(U,v0),(V,v1),(Y,v2),(Z,v3),(a4,v4),(a5,v5)]) (m:=[H,I,J,O]) hb h (by simp)⟩
theorem Vf {B:Nat} {w0 w:World} {H I J O U V b0 b1 b2 b3:Addr} {v0 v1 v2 v3 v4 v5:Value} (h:Tk B w0 w H I J O U V b0 b1 b2 b3 v0 v1 v2 v3 v4 v5) {p0 Y Z p3:Addr} {u0 u1 u2 u3:Value} (aX:NotInt u0) (hG:B<=p0.block) (bE:p0.block≠H.block) (bY:p0.block≠I.block) (cA:p0.block≠J.block) (cB:p0.block≠O.block) (cC:p0.block≠U.block) (cD:p0.block≠V.block) (bA:NotInt u1) (hI:B<=Y.block) (cF:Y.block≠H.block) (cG:Y.block≠I.block) (cT:Y.block≠J.block) (cX:Y.block≠O.block) (dC:Y.block≠U.block) (dE:Y.block≠V.block) (bB:NotInt u2) (hJ:B<=Z.block) (dY:Z.block≠H.block) (eP:Z.block≠I.block) (gA:Z.block≠J.block) (gF:Z.block≠O.block) (gL:Z.block≠U.block) (gN:Z.block≠V.block) (bC:NotInt u3) (hL:B<=p3.block) (gP:p3.block≠H.block) (gS:p3.block≠I.block) (gU:p3.block≠J.block) (hB:p3.block≠O.block) (hD:p3.block≠U.block) (hE:p3.block≠V.block):Tk B w0 ((((w.setCell p0 u0).setCell Y u1).setCell Z u2).setCell p3 u3) H I J O U V b0 b1 b2 b3 v0 v1 v2 v3 v4 v5:=(SS.put (B:=B) (w0:=w0) (l:=[(H,v0),(I,v1),(J,v2),(O,v3),(U,v4),(V,v5)]) (m:=[b0,b1,b2,b3]) (SS.put (B:=B) (w0:=w0) (l:=[(H,v0),(I,v1),(J,v2),(O,v3),(U,v4),(V,v5)]) (m:=[b0,b1,b2,b3]) (SS.put (B:=B) (w0:=w0) (l:=[(H,v0),(I,v1),(J,v2),(O,v3),(U,v4),(V,v5)]) (m:=[b0,b1,b2,b3]) (SS.put (B:=B) (w0:=w0) (l:=[(H,v0),(I,v1),(J,v2),(O,v3),(U,v4),(V,v5)]) (m:=[b0,b1,b2,b3]) h p0 u0 aX hG (by simp[*])) Y u1 bA hI (by simp[*])) Z u2 bB hJ (by simp[*])) p3 u3 bC hL (by simp[*]))
def cL (e:Ending) (r:Rat):Prop:=∃g:Int,e=.returned (.int .i64 g)/\(g=0↔r=0)
theorem Iu {x y:Int} (H:y≠0):Rat.divInt x y=0↔x=0:=by
 have h:=Rat.divInt_eq_divInt_iff (n₁:=x) (n₂:=0) H (show(1:Int)≠0 by decide);rw[Mb]at h;rw[h];simp
theorem Cw (x:Int):-1<=Int.sign x/\Int.sign x<=1/\(Int.sign x=0↔x=0):=by
 rcases Int.lt_trichotomy x 0 with h|h|h
 ·rw[Int.sign_eq_neg_one_of_neg h];omega
 ·subst h;decide
 ·rw[Int.sign_eq_one_of_pos h];omega
theorem Le (x y:Int):Int.sign x*Int.sign y=0↔Rat.divInt x y=0:=by
 by_cases hy:y=0
 ·subst hy;simp
 ·rw[Iu hy,Int.mul_eq_zero,(Cw x).2.2,(Cw y).2.2]
  exact⟨λh=>h.resolve_right hy,Or.inl⟩
theorem H8 {a b:Int} (I:-1<=a) (J:a<=1) (O:-1<=b) (U:b<=1):-1<=a*b/\a*b<=1:=by
 have H:a=-1∨a=0∨a=1:=by omega
 rcases H with rfl|rfl|rfl <;> omega
theorem R7 (s:Bool) (p:Option Addr) (n c:Nat) (x:Int) (t:Bool) (q:Option Addr) (m d:Nat) (y:Int) (w:World) (h1:Zr w s p n c x) (h2:Zr w t q m d y) (hn:n<=4398046511100) (hm:m<=4398046511100):
  Calls prog 97 #[.agg #[.bool s,.slice p n c,.bool t,.slice q m d]] w λe w'=>cL e (Rat.divInt x y)/\Below w.heap.size w w':=by
 have J:=λH (hb:Below w.heap.size w H)=>Ht s p n c x H (h1.keep hb) (by omega)
 have O:=λH (hb:Below w.heap.size w H)=>Ht t q m d y H (h2.keep hb) (by omega)
 have hz:=Le x y;obtain⟨b1,b2,_⟩:=Cw x;obtain⟨b3,b4,_⟩:=Cw y;have V:=H8 b1 b2 b3 b4;generalize Int.sign x=gx at *;generalize Int.sign y=gy at *;obtain⟨g,hg⟩:∃g,gx*gy=g:=⟨_,rfl⟩
 rw[hg]at hz V;obtain⟨g1,g2⟩:=V;have Z:=Kh J;have h:=Kh O;have HZ:=Kh hz;have cB:IntKind.i64.wrap (gx*gy)=g:=by rw[hg];exact IntWalk.i64_in _ (by omega)
 clear J O hz h1 h2 b1 b2 b3 b4;go_enter func97,ntmps97
 go_upto_region 1 with(fail)
 obtain⟨w0,Y,I,U⟩:=bx1 w #[.bool s,.slice p n c,.bool t,.slice q m d] 86;rw[Y];have aL:w.heap.size<=w0.heap.size:=U.size;clear Y;have M1:True:=trivial;have aD:=Lh (Below.refl _ w0).drew ⟨I.c0,I.c1,I.c2,I.c3,U,aL⟩;clear I
 go_region_held3 (λH=>H.cell? ⟨w.heap.size,0,none⟩=some (.bool s)/\H.cell? ⟨w.heap.size,1,none⟩=some (.slice p n c)/\H.cell? ⟨w.heap.size,2,none⟩=some (.bool t)/\H.cell? ⟨w.heap.size,3,none⟩=some (.slice q m d)/\Below w.heap.size w H/\w.heap.size<=H.heap.size)
  (first|with_reducible exact aD |(refine Lh (by with_reducible assumption) ?_;assumption) |(refine S4_0_put ?_  <;> first|assumption|exact NotInt.bool _|exact NotInt.slice _ _ _ |(dsimp only;omega) |(simp;done)))
  (first
   |(go_at_call 79;clear M1;refine(Z.1 _ (Ga (by with_reducible assumption))).mono ?_;rintro e w2 ⟨rfl,aK⟩)
   |(go_at_call 79;refine(h.1 _ (Ga (by with_reducible assumption))).mono ?_;rintro e w3 ⟨rfl,cA⟩;clear aK))
 go_wp2;go_ret;exact⟨⟨g,by show Ending.returned (Value.int .i64 (IntKind.i64.wrap g))=_;rw[IntWalk.i64_in _ (by omega)],HZ.1⟩,Ga (by assumption)⟩
theorem SS.alloc {B:Nat} {w0 w:World} {l:List (Addr×Value)} (h:SS B w0 w l []) (o:Obj):SS B w0 (w.alloc o) l []:=SS.next ((Below.refl _ _).alloc (kT _) o) h
theorem SS.sizeLe {B:Nat} {w0 w:World} {l:List (Addr×Value)} (h:SS B w0 w l []):B<=w.heap.size:=by
 induction l with
 | nil=>exact h.2
 | cons x l ih=>exact ih h.2
theorem SS.lt {B:Nat} {w0 w:World} {l:List (Addr×Value)} (h:SS B w0 w l []):∀x∈l,x.1.block<w.heap.size:=by
 induction l with
 | nil=>intro x H;cases H
 | cons y l ih=>
  intro x H;rcases List.mem_cons.1 H with rfl|H
  ·exact World.block_lt_of_cell? w x.1 h.1
  ·exact ih h.2 x H
theorem SS.fresh {B:Nat} {w0 w:World} {l:List (Addr×Value)} (h:SS B w0 w l []) (o:Obj) (v u:Value) (O:NotInt v) (J:NotInt u):SS B w0 (((w.alloc o).setCell ⟨w.heap.size,0,none⟩ v).setCell ⟨w.heap.size,1,none⟩ u) l []:=by
 have I:=h.alloc o;have H:∀x∈l,w.heap.size≠x.1.block:=λx U=>by have:=h.lt x U;omega
 exact(I.put ⟨w.heap.size,0,none⟩ v O h.sizeLe H).put ⟨w.heap.size,1,none⟩ u J h.sizeLe H
theorem P6 {B:Nat} {w0 w:World} {H I J O U V Y Z:Addr} {v0 v1 v2 v3 v4 v5 v6 v7:Value} (h:P4 B w0 w H I J O U V Y Z v0 v1 v2 v3 v4 v5 v6 v7) (o:Obj):(w.alloc o).cell? H=some v0/\(w.alloc o).cell? I=some v1/\(w.alloc o).cell? J=some v2/\(w.alloc o).cell? O=some v3/\(w.alloc o).cell? U=some v4/\(w.alloc o).cell? V=some v5/\(w.alloc o).cell? Y=some v6/\(w.alloc o).cell? Z=some v7/\Below B w0 (w.alloc o)/\B<=(w.alloc o).heap.size:=SS.alloc (B:=B) (w0:=w0) (l:=[(H,v0),(I,v1),(J,v2),(O,v3),(U,v4),(V,v5),(Y,v6),(Z,v7)]) h o
theorem P8 {B:Nat} {w0 w:World} {H I J O U V Y Z:Addr} {v0 v1 v2 v3 v4 v5 v6 v7:Value} (h:P4 B w0 w H I J O U V Y Z v0 v1 v2 v3 v4 v5 v6 v7) (o:Obj) (v u:Value) (hv:NotInt v) (hu:NotInt u):(((w.alloc o).setCell ⟨w.heap.size,0,none⟩ v).setCell ⟨w.heap.size,1,none⟩ u).cell? H=some v0/\(((w.alloc o).setCell ⟨w.heap.size,0,none⟩ v).setCell ⟨w.heap.size,1,none⟩ u).cell? I=some v1/\(((w.alloc o).setCell ⟨w.heap.size,0,none⟩ v).setCell ⟨w.heap.size,1,none⟩ u).cell? J=some v2/\(((w.alloc o).setCell ⟨w.heap.size,0,none⟩ v).setCell ⟨w.heap.size,1,none⟩ u).cell? O=some v3/\(((w.alloc o).setCell ⟨w.heap.size,0,none⟩ v).setCell ⟨w.heap.size,1,none⟩ u).cell? U=some v4/\(((w.alloc o).setCell ⟨w.heap.size,0,none⟩ v).setCell ⟨w.heap.size,1,none⟩ u).cell? V=some v5/\(((w.alloc o).setCell ⟨w.heap.size,0,none⟩ v).setCell ⟨w.heap.size,1,none⟩ u).cell? Y=some v6/\(((w.alloc o).setCell ⟨w.heap.size,0,none⟩ v).setCell ⟨w.heap.size,1,none⟩ u).cell? Z=some v7/\Below B w0 (((w.alloc o).setCell ⟨w.heap.size,0,none⟩ v).setCell ⟨w.heap.size,1,none⟩ u)/\B<=(((w.alloc o).setCell ⟨w.heap.size,0,none⟩ v).setCell ⟨w.heap.size,1,none⟩ u).heap.size:=SS.fresh (B:=B) (w0:=w0) (l:=[(H,v0),(I,v1),(J,v2),(O,v3),(U,v4),(V,v5),(Y,v6),(Z,v7)]) h o v u hv hu
theorem Hs {B:Nat} {w0 w:World} {H I J O U V Y Z:Addr} {v0 v1 v2 v3 v4 v5 v6 v7:Value} (h:P4 B w0 w H I J O U V Y Z v0 v1 v2 v3 v4 v5 v6 v7):B<=w.heap.size:=SS.sizeLe (B:=B) (w0:=w0) (l:=[(H,v0),(I,v1),(J,v2),(O,v3),(U,v4),(V,v5),(Y,v6),(Z,v7)]) h
theorem Tm {B:Nat} {w0 w:World} {I J O U V Y Z a7:Addr} {v0 v1 v2 v3 v4 v5 v6 v7:Value} (h:P4 B w0 w I J O U V Y Z a7 v0 v1 v2 v3 v4 v5 v6 v7) {p0 H:Addr} {u0 u1:Value} (aT:NotInt u0) (dY:B<=p0.block) (aX:p0.block≠I.block) (bA:p0.block≠J.block) (bB:p0.block≠O.block) (bC:p0.block≠U.block) (bE:p0.block≠V.block) (bY:p0.block≠Y.block) (cA:p0.block≠Z.block) (cB:p0.block≠a7.block) (aU:NotInt u1) (eP:B<=H.block) (cC:H.block≠I.block) (cD:H.block≠J.block) (cF:H.block≠O.block) (cG:H.block≠U.block) (cT:H.block≠V.block) (cX:H.block≠Y.block) (dC:H.block≠Z.block) (dE:H.block≠a7.block):((w.setCell p0 u0).setCell H u1).cell? I=some v0/\((w.setCell p0 u0).setCell H u1).cell? J=some v1/\((w.setCell p0 u0).setCell H u1).cell? O=some v2/\((w.setCell p0 u0).setCell H u1).cell? U=some v3/\((w.setCell p0 u0).setCell H u1).cell? V=some v4/\((w.setCell p0 u0).setCell H u1).cell? Y=some v5/\((w.setCell p0 u0).setCell H u1).cell? Z=some v6/\((w.setCell p0 u0).setCell H u1).cell? a7=some v7/\Below B w0 ((w.setCell p0 u0).setCell H u1)/\B<=((w.setCell p0 u0).setCell H u1).heap.size:=(SS.put (B:=B) (w0:=w0) (l:=[(I,v0),(J,v1),(O,v2),(U,v3),(V,v4),(Y,v5),(Z,v6),(a7,v7)]) (m:=[]) (SS.put (B:=B) (w0:=w0) (l:=[(I,v0),(J,v1),(O,v2),(U,v3),(V,v4),(Y,v5),(Z,v6),(a7,v7)]) (m:=[]) h p0 u0 aT dY (by simp[*])) H u1 aU eP (by simp[*]))
theorem Fe {W w':World} {B:Nat} (hB:B<=W.heap.size) (H:Below (W.alloc (.cells #[.bool false,.slice none 0 0] 84)).heap.size (W.alloc (.cells #[.bool false,.slice none 0 0] 84)) w'):
  B<=W.heap.size/\w'.cell? ⟨W.heap.size,0,none⟩=some (.bool false)/\w'.cell? ⟨W.heap.size,1,none⟩=some (.slice none 0 0)/\w'.frozen? ⟨W.heap.size,0,none⟩=false/\w'.frozen? ⟨W.heap.size,1,none⟩=false/\Blk w' W.heap.size 84 #[.bool false,.slice none 0 0]:=by
 have h:=(Blk.new W 84 #[.bool false,.slice none 0 0]).below_ H (by simp);exact⟨hB,h.at_ 0 rfl,h.at_ 1 rfl,h.free_ 0,h.free_ 1,h⟩
theorem Wp {W w':World} {B g:Nat} (hg:W.heap.size=g) (hB:B<=g) (H:Below (W.alloc (.cells #[.bool false,.slice none 0 0] 84)).heap.size (W.alloc (.cells #[.bool false,.slice none 0 0] 84)) w'):
  B<=g/\w'.cell? ⟨g,0,none⟩=some (.bool false)/\w'.cell? ⟨g,1,none⟩=some (.slice none 0 0)/\w'.frozen? ⟨g,0,none⟩=false/\w'.frozen? ⟨g,1,none⟩=false/\Blk w' g 84 #[.bool false,.slice none 0 0]:=by
 subst hg;exact Fe hB H
theorem Kc {w w':World} {B g:Nat} (I:Below w.heap.size w w') (h:B<=g/\w.cell? ⟨g,0,none⟩=some (.bool false)/\w.cell? ⟨g,1,none⟩=some (.slice none 0 0)/\w.frozen? ⟨g,0,none⟩=false/\w.frozen? ⟨g,1,none⟩=false/\Blk w g 84 #[.bool false,.slice none 0 0]):
  B<=g/\w'.cell? ⟨g,0,none⟩=some (.bool false)/\w'.cell? ⟨g,1,none⟩=some (.slice none 0 0)/\w'.frozen? ⟨g,0,none⟩=false/\w'.frozen? ⟨g,1,none⟩=false/\Blk w' g 84 #[.bool false,.slice none 0 0]:=by
 have H:=h.1;have h:=h.2.2.2.2.2.below_ I h.2.2.2.2.2.lt;exact⟨H,h.at_ 0 rfl,h.at_ 1 rfl,h.free_ 0,h.free_ 1,h⟩
theorem V5 (s:Bool) (p:Option Addr) (n c:Nat) (x:Int) (t:Bool) (q:Option Addr) (m d:Nat) (y:Int) (s':Bool) (p':Option Addr) (n' c':Nat) (x':Int) (t':Bool) (q':Option Addr) (m' d':Nat) (y':Int) (w:World) (h1:Zr w s p n c x) (h2:Zr w t q m d y) (h3:Zr w s' p' n' c' x') (h4:Zr w t' q' m' d' y') (hn:n<=1099511627770) (hm:m<=1099511627770) (oC:n'<=1099511627770) (oB:m'<=1099511627770) (hy:y≠0) (hW:y'≠0):
  Calls prog 39 #[.agg #[.bool s,.slice p n c,.bool t,.slice q m d],.agg #[.bool s',.slice p' n' c',.bool t',.slice q' m' d']] w λe w'=>Gr w' e (Rat.divInt x y+Rat.divInt x' y')/\Below w.heap.size w w':=by
 have HV:=Kh (Rat.divInt_add_divInt x x' hy hW);have hS:=Kh h1;have cD:=Kh h2;have hU:=Kh h3;have cF:=Kh h4;have lO:=(Cw y).2.2;have lP:=(Cw y').2.2;have lI:=λH (hb:Below w.heap.size w H)=>Ht t q m d y H (h2.keep hb) (by omega)
 have lJ:=λH (hb:Below w.heap.size w H)=>Ht t' q' m' d' y' H (h4.keep hb) (by omega)
 generalize Int.sign y=g at *;generalize Int.sign y'=g' at *;have oA:(g==0)=false:=beq_eq_false_iff_ne.2 (λh=>hy (lO.1 h));have nL:(g'==0)=false:=beq_eq_false_iff_ne.2 (λh=>hW (lP.1 h));have hZ:=Kh lI;have iL:=Kh lJ;clear h1 h2 h3 h4 lI lJ lO lP hy hW;go_enter func39,ntmps39
 go_wp2_with fail
 obtain⟨w0,lS,X0,X1,X2,aL⟩:=Rw w #[.bool s,.slice p n c,.bool t,.slice q m d] 86 #[.bool s',.slice p' n' c',.bool t',.slice q' m' d'] 86 #[.bool false,.slice none 0 0,.bool false,.slice none 0 0] 86;rw[lS];have gA:w.heap.size<=w0.heap.size:=aL.size;clear lS;have a2:=X0.at_ 2 rfl;have a3:=X0.at_ 3 rfl;have U:=Kh X0;have J:=Kh X1;have V:=Kh X2;have I:=Kh aL;clear X0 X1 X2 aL;refine(hZ.1 _ I.1).mono ?_;rintro e H ⟨rfl,Z⟩;replace U:=Kh (bk U Z);replace J:=Kh (bk J Z);replace V:=Kh (bk V Z);replace I:=bt I Z;have b2:=J.1.at_ 2 rfl;have b3:=J.1.at_ 3 rfl;clear Z hZ a2 a3 gA;go_wp2_with fail
 refine(iL.1 _ I.1).mono ?_;rintro e w2 ⟨rfl,Y⟩;replace U:=Kh (bk U Y);replace J:=Kh (bk J Y);replace V:=Kh (bk V Y);replace I:=bt I Y;clear Y iL b2 b3;go_upto_region 5 with(fail)
 go_cut [20]from 21 to 28 (λmU wc=>∃b:Bool,mU=.bool b/\(b=true->y=1/\y'=1)/\Below w2.heap.size w2 wc)
 case first=>
  have a2:=U.1.at_ 2 rfl;have a3:=U.1.at_ 3 rfl;have lA:=Kh (R6 t q m d y w2 (cD.1.keep I.1) (by omega));have lB:=Kh (λw3 (hb:Below w2.heap.size w2 w3)=>R6 t' q' m' d' y' w3 ((cF.1.keep I.1).keep hb) (by omega));go_wp2_with fail
  refine lA.1.mono ?_;rintro e w3 ⟨⟨b,rfl,Z⟩,O⟩;have bA:=Kh Z;have aX:=Kh O;have b2:=(bk J O).at_ 2 rfl;have b3:=(bk J O).at_ 3 rfl;clear Z O lA;cases b with
  | true=>
   have cC:=Kh (bA.1 rfl);clear bA;go_wp2_with fail
   refine(lB.1 _ aX.1).mono ?_;rintro e w4 ⟨⟨b',rfl,Z⟩,aD⟩;have hY:=Kh Z;have mA:=bt aX aD;clear Z aD lB;go_wp2;go_meet
   case rel=>exact⟨b',rfl,λh=>⟨cC.1,hY.1 h⟩,mA.1⟩
  | false=>
   go_wp2;go_meet
   case rel=>exact⟨false,rfl,(λh=>by cases h),aX.1⟩
 case rest=>
  obtain⟨b,rfl,lN,cT⟩:=hcut;have bA:=Kh lN;replace U:=Kh (bk U cT);replace J:=Kh (bk J cT);replace V:=Kh (bk V cT);replace I:=bt I cT;clear lN cT;cases b with
  | true=>
   have cC:=Kh (bA.1 rfl);clear bA;have a0:=U.1.at_ 0 rfl;have a1:=U.1.at_ 1 rfl;have b0:=J.1.at_ 0 rfl;have b1:=J.1.at_ 1 rfl;have HA:=Kh (Rx s p n c x s' p' n' c' x' wc (hS.1.keep I.1) (hU.1.keep I.1) (by omega) (by omega));go_wp2_with fail
   refine HA.1.mono ?_;rintro e w3 ⟨⟨s2,p2,n2,e2,rfl,aK⟩,O⟩;have HZ:=Kh aK;have aX:=bt I O;replace V:=Kh (bk V O);have HO:=Kh (Gc 1 w3 (by omega) (by omega));clear aK O HA a0 a1 b0 b1;go_wp2_with fail
   refine HO.1.mono ?_;rintro e w4 ⟨⟨s3,p3,n3,e3,rfl,bY⟩,aD⟩
   have HQ:=Kh (show Qs w4 s2 p2 n2 e2 s3 p3 n3 e3 (Rat.divInt (x+x') 1)by
    unfold Qs;rw[(Hc (x+x')).1,(Hc (x+x')).2];exact⟨HZ.1.keep aD,bY⟩)
   have HR:=Kh (bk V aD);have HB:=bt aX aD;have HG:=Kh (show Rat.divInt (x+x') 1=Rat.divInt x y+Rat.divInt x' y' by rw[cC.1.1,cC.1.2,Ns]);clear bY aD HO aX HZ I U J V cC;have r0:=HR.1.at_ 0 rfl;have r1:=HR.1.at_ 1 rfl;have r2:=HR.1.at_ 2 rfl;have r3:=HR.1.at_ 3 rfl;have f0:=HR.1.free_ 0;have f1:=HR.1.free_ 1;have f2:=HR.1.free_ 2;have f3:=HR.1.free_ 3;obtain⟨w9,gF⟩:∃w9,(((w4.setCell ⟨w.heap.size+1+1,0,none⟩ (.bool s2)).setCell ⟨w.heap.size+1+1,1,none⟩ (.slice p2 n2 e2)).setCell ⟨w.heap.size+1+1,2,none⟩ (.bool s3)).setCell ⟨w.heap.size+1+1,3,none⟩ (.slice p3 n3 e3)=w9:=⟨_,rfl⟩
   obtain⟨E0,E1,E2,E3,lR⟩:=B9 HR.1 HQ.1 gF;have lM:Below w.heap.size w w9:=by rw[<-gF];exact As HB.1 (by omega) _ _ _ _
   have mH:=Kh gF;have mC:=Kh (And.intro E0 (And.intro E1 (And.intro E2 E3)));have mF:=Kh lR;have mB:=Kh lM;clear E0 E1 E2 E3 lR lM gF HQ HB HR;go_wp2;try rw[mH.1]
   obtain⟨E0,E1,E2,E3⟩:=mC.1;try simp only[Exit.inBlock,Exit.then]
   refine bodyPost_ret (by simp[results,results39,go_sem,E0,E1,E2,E3];try rfl) rfl ?_;exact⟨⟨s2,p2,n2,e2,s3,p3,n3,e3,rfl,HG.1▸mF.1⟩,mB.1⟩
  | false=>
   clear bA;have X0:=U.1;have X1:=J.1;have aL:=I.1;have gA:w.heap.size<=wc.heap.size:=aL.size;have kY:=Kh (λH (hb:Below w.heap.size w H)=>Gw s p n c x t' q' m' d' y' H (hS.1.keep hb) (cF.1.keep hb) (by omega) (by omega));have kZ:=Kh (λH (hb:Below w.heap.size w H)=>Gw s' p' n' c' x' t q m d y H (hU.1.keep hb) (cD.1.keep hb) (by omega) (by omega));have lC:=Kh (show nd (x*y').natAbs<=2199023255540 by rw[Int.natAbs_mul];have:=Cd x.natAbs y'.natAbs;have:=hS.1.size;have:=cF.1.size;omega);have lD:=Kh (show nd (x'*y).natAbs<=2199023255540 by rw[Int.natAbs_mul];have:=Cd x'.natAbs y.natAbs;have:=hU.1.size;have:=cD.1.size;omega);have mG:=Kh (show nd (y*y').natAbs<=2199023255540 by rw[Int.natAbs_mul];have:=Cd y.natAbs y'.natAbs;have:=cD.1.size;have:=cF.1.size;omega);have hlt:w.heap.size+1+1<wc.heap.size:=V.1.lt;have mI:=V;go_upto_region 7 with(fail)
   go_cut [5]from 36 to 46 (λv5 wd=>∃gb s4 p4 n4 e4,v5=.pointer (some ⟨gb,0,none⟩)/\w.heap.size+1+1<gb/\Blk wd gb 84 #[.bool s4,.slice p4 n4 e4]/\Zs wd s4 p4 n4 e4 (x*y'+x'*y)/\Below wc.heap.size wc wd)
   case first=>
    have M1:True:=trivial;have lK:wc.cell? ⟨w.heap.size,0,none⟩=some (.bool s)/\wc.cell? ⟨w.heap.size,1,none⟩=some (.slice p n c)/\wc.cell? ⟨w.heap.size,2,none⟩=some (.bool t)/\wc.cell? ⟨w.heap.size,3,none⟩=some (.slice q m d)/\wc.cell? ⟨w.heap.size+1,0,none⟩=some (.bool s')/\wc.cell? ⟨w.heap.size+1,1,none⟩=some (.slice p' n' c')/\wc.cell? ⟨w.heap.size+1,2,none⟩=some (.bool t')/\wc.cell? ⟨w.heap.size+1,3,none⟩=some (.slice q' m' d')/\Below wc.heap.size wc wc/\wc.heap.size<=wc.heap.size:=⟨X0.at_ 0 rfl,X0.at_ 1 rfl,X0.at_ 2 rfl,X0.at_ 3 rfl,X1.at_ 0 rfl,X1.at_ 1 rfl,X1.at_ 2 rfl,X1.at_ 3 rfl,Below.refl _ _,kT _⟩
    have hV:wc.drew.cell? ⟨w.heap.size,0,none⟩=some (.bool s)/\wc.drew.cell? ⟨w.heap.size,1,none⟩=some (.slice p n c)/\wc.drew.cell? ⟨w.heap.size,2,none⟩=some (.bool t)/\wc.drew.cell? ⟨w.heap.size,3,none⟩=some (.slice q m d)/\wc.drew.cell? ⟨w.heap.size+1,0,none⟩=some (.bool s')/\wc.drew.cell? ⟨w.heap.size+1,1,none⟩=some (.slice p' n' c')/\wc.drew.cell? ⟨w.heap.size+1,2,none⟩=some (.bool t')/\wc.drew.cell? ⟨w.heap.size+1,3,none⟩=some (.slice q' m' d')/\Below wc.heap.size wc wc.drew/\wc.heap.size<=wc.drew.heap.size:=D5 (Below.refl _ wc).drew lK;clear X0 X1
    go_region_held3 (λH=>H.cell? ⟨w.heap.size,0,none⟩=some (.bool s)/\H.cell? ⟨w.heap.size,1,none⟩=some (.slice p n c)/\H.cell? ⟨w.heap.size,2,none⟩=some (.bool t)/\H.cell? ⟨w.heap.size,3,none⟩=some (.slice q m d)/\H.cell? ⟨w.heap.size+1,0,none⟩=some (.bool s')/\H.cell? ⟨w.heap.size+1,1,none⟩=some (.slice p' n' c')/\H.cell? ⟨w.heap.size+1,2,none⟩=some (.bool t')/\H.cell? ⟨w.heap.size+1,3,none⟩=some (.slice q' m' d')/\Below wc.heap.size wc H/\wc.heap.size<=H.heap.size)
     (first|with_reducible exact hV |(refine D5 (by with_reducible assumption) ?_;assumption)|exact P6 (by with_reducible assumption) _|exact D5 (bB.1.alloc bB.1.size _) lK |(refine Tm ?_ ?_ ?_ ?_ ?_ ?_ ?_ ?_ ?_ ?_ ?_ ?_ ?_ ?_ ?_ ?_ ?_ ?_ ?_ ?_ ?_ <;> first|with_reducible assumption|exact NotInt.bool _|exact NotInt.slice _ _ _ |(dsimp only;omega))|exact P8 (by with_reducible assumption) _ _ _ (NotInt.bool _) (NotInt.slice _ _ _))
     (first
      |(go_at_call 84;clear M1;refine(kY.1 _ (I.1.trans ((Cq (by with_reducible assumption)).mono I.1.size))).mono ?_;rintro e w2 ⟨⟨s2,p2,n2,e2,rfl,aK⟩,Y⟩;have hP:=Kh aK;have lE:=Kh (kU (Hs (by with_reducible assumption)) (Below.size Y));(try have mL:=Wp (B:=wc.heap.size) (W:=wc.drew) (g:=wc.heap.size) rfl (kT _) Y);clear aK)
      |(go_at_call 84;refine(kZ.1 _ (I.1.trans ((Cq (by with_reducible assumption)).mono I.1.size))).mono ?_;rintro e w3 ⟨⟨s3,p3,n3,e3,rfl,bY⟩,O⟩;have hQ:Zs w3 s2 p2 n2 e2 (x*y'):=(by first|exact hP.1.keep O|exact(hP.1.keep ((Below.refl _ _).alloc (kT _) _)).keep O);have lZ:=Kh (λw5 (lL:Below w3.heap.size w3 w5)=>Rx s2 p2 n2 e2 (x*y') s3 p3 n3 e3 (x'*y) w5 (hQ.keep lL).raw (bY.keep lL).raw (by rw[<-hQ.2.1];have:=lC.1;omega) (by rw[<-bY.2.1];have:=lD.1;omega));have lF:=Kh (kU (Hs (by with_reducible assumption)) (Below.size O));(first|have lH:=Fe (W:=w2) lE.1 O|have lH:=Kc O mL|skip);clear bY hP hQ)
      |(go_at_call 82;refine(lZ.1 _ (by first|exact Below.refl _ _|exact(Below.refl _ _).alloc (kT _) _)).mono ?_;rintro e w4 ⟨⟨s4,p4,n4,e4,rfl,lT⟩,aD⟩;have bB:=Kh (Below.trans (Cq (by with_reducible assumption)) (Below.mono aD (Hs (by with_reducible assumption))));have hR:=Kh lT;(first|have bE:=Fe (W:=w3) lF.1 aD|have bE:=Kc aD lH|skip);clear lT))
    all_goals go_wp2
    all_goals go_meet
    all_goals first
     | exact⟨_,s4,p4,n4,e4,rfl,kV hlt bB.1.size,Blk.new w4 _ _,hR.1.keep ((Below.refl _ _).alloc (kT _) _),bB.1.alloc bB.1.size _⟩
     | exact⟨_,s4,p4,n4,e4,rfl,kV hlt bE.1,(Fw bE.2.2.2.2.2 hR.1).1,(Fw bE.2.2.2.2.2 hR.1).2,(bB.1.setCell bE.1 _).setCell bE.1 _⟩
   case rest=>
    obtain⟨gb,s4,p4,n4,e4,rfl,nM,XG,zg,cX⟩:=hcut;clear kY kZ;replace X0:=bk U cX;replace X1:=bk J cX;have X2:=bk V cX;replace aL:=I.1.trans (cX.mono I.1.size);replace gA:w.heap.size<=wc.heap.size:=aL.size;have mD:=Kh (λH (hb:Below w.heap.size w H)=>Gw t q m d y t' q' m' d' y' H (cD.1.keep hb) (cF.1.keep hb) (by omega) (by omega));have mJ:=Kh zg
    have oD:n4<=2199023255541:=by
     rw[<-zg.2.1];exact Gl _ _ lC.1 lD.1
    have T2:=Sts.of X2 (by intro v hv;simp at hv;rcases hv with rfl|rfl|rfl|rfl <;> first|exact NotInt.bool _|exact NotInt.slice _ _ _);clear U J V mI I cX zg;go_upto_region 8 with(fail)
    have hV:=Li (Below.refl _ wc).drew ⟨XG.c0,XG.c1,X0.c2,X0.c3,X1.c2,X1.c3,X2.so 0,X2.free_ 0,T2,X2.so 1,X2.free_ 1,T2,X2.so 2,X2.free_ 2,T2,X2.so 3,X2.free_ 3,T2,aL,gA⟩;clear X0 X1 X2 XG T2
    go_region_held3 (λH=>H.cell? ⟨gb,0,none⟩=some (.bool s4)/\H.cell? ⟨gb,1,none⟩=some (.slice p4 n4 e4)/\H.cell? ⟨w.heap.size,2,none⟩=some (.bool t)/\H.cell? ⟨w.heap.size,3,none⟩=some (.slice q m d)/\H.cell? ⟨w.heap.size+1,2,none⟩=some (.bool t')/\H.cell? ⟨w.heap.size+1,3,none⟩=some (.slice q' m' d')/\H.cell? ⟨w.heap.size+1+1,0,none⟩=some (cellOf H ⟨w.heap.size+1+1,0,none⟩)/\H.frozen? ⟨w.heap.size+1+1,0,none⟩=false/\Sts H (w.heap.size+1+1)/\H.cell? ⟨w.heap.size+1+1,1,none⟩=some (cellOf H ⟨w.heap.size+1+1,1,none⟩)/\H.frozen? ⟨w.heap.size+1+1,1,none⟩=false/\Sts H (w.heap.size+1+1)/\H.cell? ⟨w.heap.size+1+1,2,none⟩=some (cellOf H ⟨w.heap.size+1+1,2,none⟩)/\H.frozen? ⟨w.heap.size+1+1,2,none⟩=false/\Sts H (w.heap.size+1+1)/\H.cell? ⟨w.heap.size+1+1,3,none⟩=some (cellOf H ⟨w.heap.size+1+1,3,none⟩)/\H.frozen? ⟨w.heap.size+1+1,3,none⟩=false/\Sts H (w.heap.size+1+1)/\Below w.heap.size w H/\w.heap.size<=H.heap.size)
     (first|with_reducible exact hV |(refine Li (by with_reducible assumption) ?_;assumption) |(refine Vf ?_ ?_ ?_ ?_ ?_ ?_ ?_ ?_ ?_ ?_ ?_ ?_ ?_ ?_ ?_ ?_ ?_ ?_ ?_ ?_ ?_ ?_ ?_ ?_ ?_ ?_ ?_ ?_ ?_ ?_ ?_ ?_ ?_ <;> first|assumption|exact NotInt.bool _|exact NotInt.slice _ _ _ |(dsimp only;omega)))
     (first
      |(go_at_call 84;refine(mD.1 _ (Jl (by with_reducible assumption))).mono ?_;rintro e w2 ⟨⟨s2,p2,n2,e2,rfl,aK⟩,Y⟩;have mE:=Kh (Jx s4 p4 n4 e4 (x*y'+x'*y) s2 p2 n2 e2 (y*y') w2 (mJ.1.keep (by first|exact(Below.refl _ wc).drew.trans Y|exact Y)).raw aK.raw (by omega) (by rw[<-aK.2.1];have:=mG.1;omega));clear aK)
      |(go_at_call 85;refine mE.1.mono ?_;rintro e w3 ⟨⟨s3,p3,n3,e3,t3,q3,m3,d3,rfl,lQ⟩,O⟩;clear Y;obtain⟨⟨mO,hT⟩,⟨mP,_⟩,⟨mQ,_⟩,⟨mR,_⟩⟩:=Ve O (by with_reducible assumption);have mS:=Kh (lQ.put4 hT (.bool s3) (.slice p3 n3 e3) (.bool t3) (.slice q3 m3 d3) (NotInt.bool _) (NotInt.slice _ _ _) (NotInt.bool _));clear lQ hT))
    go_wp2;try simp only[Exit.inBlock,Exit.then]
    refine bodyPost_ret (by simp[results,results39,go_sem,mO,mP,mQ,mR];try rfl) rfl ?_;exact⟨⟨s3,p3,n3,e3,t3,q3,m3,d3,rfl,HV.1▸mS.1⟩,Jl (by assumption)⟩
theorem Yw:(prog.info? 200).map (λi=>(i.zero,i.size,i.bytes))=some (some (.int .u32 0),1,4):=N1
theorem cW (s:Nat):∀u∈[Value.int .u32 (s:Nat)],u.oneCell'=true:=by
 intro u H;rw[List.mem_singleton]at H;subst H;rfl
theorem eJ {u v n:Nat} (J:nd u=n) (O:nd v=n) (h:∀j,j<n->dg u j=dg v j):u=v:=by
 have H:=Bp u;have I:=Bp v;rw[J]at H;rw[O]at I;rw[<-H,<-I];exact Dr h
def BitAt (w:World) (gq M k u v R:Nat):Prop:=∃rq,Row w gq M rq/\(∀l,l<M->2 ^ (min 32 (k - 32*l))∣rq l)/\u=v*vf rq M+R/\R<v*2 ^ k
theorem BitAt.far {w w':World} {I M k u v R:Nat} (h:BitAt w I M k u v R) (O:Below w.heap.size w w'):BitAt w' I M k u v R:=by
 obtain⟨U,H,J⟩:=h;exact⟨U,H.below O H.1.lt,J⟩
def kM (G:Nat) (p:Option Addr) (n:Nat):Prop:=n=0∨∃g o,p=some ⟨g,o,none⟩/\g≠G
theorem Dg.off {w:World} {G:Nat} {p:Option Addr} {c n:Nat} {a:Nat->Nat} (h:Dg w p c n a) (Y:kM G p n) (i:Nat) (v:Value):Dg (w.setCell ⟨G,i,none⟩ v) p c n a:=
 ⟨h.cap,h.lt,by
  rcases h.at' with O |⟨g,o,e,hg,U⟩
  ·exact .inl O
  ·rcases Y with J |⟨Z,o',H,I⟩
   ·exact .inl J
   ·rw[e]at H
    injection H with H;injection H with e1 e2
    exact .inr ⟨g,o,e,by simpa using hg,λj V=>by
     rw[World.cell?_setCell_far w ⟨G,i,none⟩ ⟨g,o+j,none⟩ v (by show G≠g;rw[e1];exact Ne.symm I)];exact U j V⟩⟩
end Go.Proofs.YtenlbhlllgppmaaGreatDoor
