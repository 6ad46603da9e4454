/- Contract of rational.over. -/
import Derived.Test.YtenlbhlllgppmaaGreatDoorC12
import Derived.Laws.AppendOwnNone
set_option maxRecDepth 100000
set_option maxHeartbeats 8000000
namespace Go.Proofs.YtenlbhlllgppmaaGreatDoor
open Go.RowKit Tryz
def fF (w:World) (A B:Nat) (x y:Int):Prop:=∃s p n c t q m d,Blk w A 84 #[.bool s,.slice p n c]/\Blk w B 84 #[.bool t,.slice q m d]/\Zs w s p n c x/\Zs w t q m d y
theorem Sts.box {w:World} {A:Nat} {s:Bool} {p:Option Addr} {n c:Nat} (h:Blk w A 84 #[.bool s,.slice p n c]):Sts w A:=
 Sts.of h (by intro v E;simp at E;rcases E with rfl|rfl;exact NotInt.bool _;exact NotInt.slice _ _ _)
theorem Tl {w:World} {A B:Nat} {s s' t t':Bool} {p p' q q':Option Addr} {n n' c c' m m' d d':Nat} {x y:Int} (E:A≠B)
  (hA:Blk w A 84 #[.bool s',.slice p' n' c']) (hB:Blk w B 84 #[.bool t',.slice q' m' d']) (hx:Zs w s p n c x) (hy:Zs w t q m d y):
  fF ((((w.setCell ⟨A,0,none⟩ (.bool s)).setCell ⟨A,1,none⟩ (.slice p n c)).setCell ⟨B,0,none⟩ (.bool t)).setCell ⟨B,1,none⟩ (.slice q m d)) A B x y:=by
 have J:=hA.set_ 0 (.bool s);have M:=J.set_ 1 (.slice p n c);have O:=M.far_ (p:=⟨B,0,none⟩) E (.bool t);have U:=O.far_ (p:=⟨B,1,none⟩) E (.slice q m d);have V:=hB.far_ (p:=⟨A,0,none⟩) (Ne.symm E) (.bool s);have I:=V.far_ (p:=⟨A,1,none⟩) (Ne.symm E) (.slice p n c);have Z:=I.set_ 0 (.bool t);have h:=Z.set_ 1 (.slice q m d);refine⟨s,p,n,c,t,q,m,d,U,h,?_,?_⟩
 ·exact(hx.put2 (Sts.box hA) 0 1 _ _ (NotInt.bool _)).put2 (Sts.box I) 0 1 _ _ (NotInt.bool _)
 ·exact(hy.put2 (Sts.box hA) 0 1 _ _ (NotInt.bool _)).put2 (Sts.box I) 0 1 _ _ (NotInt.bool _)
theorem Fy {w:World} {A:Nat} {s M:Bool} {p p':Option Addr} {n J c E:Nat} {x:Int}
  (hA:Blk w A 84 #[.bool M,.slice p' J E]) (I:Zs w s p n c x):
  Blk ((w.setCell ⟨A,0,none⟩ (.bool s)).setCell ⟨A,1,none⟩ (.slice p n c)) A 84 #[.bool s,.slice p n c]/\Zs ((w.setCell ⟨A,0,none⟩ (.bool s)).setCell ⟨A,1,none⟩ (.slice p n c)) s p n c x:=
 ⟨(hA.set_ 0 (.bool s)).set_ 1 (.slice p n c),I.put2 (Sts.box hA) 0 1 _ _ (NotInt.bool _)⟩
theorem Cc {w:World} {R:Nat} {s t:Bool} {p q:Option Addr} {n c m d:Nat} {r:Rat} {a b:Bool} {Z b':Option Addr} {i j k l:Nat} (O:Blk w R 86 #[.bool a,.slice Z i j,.bool b,.slice b' k l]) (h:Qs w s p n c t q m d r) {w':World}
  (hw:(((w.setCell ⟨R,0,none⟩ (.bool s)).setCell ⟨R,1,none⟩ (.slice p n c)).setCell ⟨R,2,none⟩ (.bool t)).setCell ⟨R,3,none⟩ (.slice q m d)=w'):
  w'.cell? ⟨R,0,none⟩=some (.bool s)/\w'.cell? ⟨R,1,none⟩=some (.slice p n c)/\w'.cell? ⟨R,2,none⟩=some (.bool t)/\w'.cell? ⟨R,3,none⟩=some (.slice q m d)/\Qs w' s p n c t q m d r:=by
 subst hw;have E:=(((O.set_ 0 (.bool s)).set_ 1 (.slice p n c)).set_ 2 (.bool t)).set_ 3 (.slice q m d);have I:Sts w R:=Sts.of O (by intro v U;simp at U;rcases U with rfl|rfl|rfl|rfl <;> first|exact NotInt.bool _|exact NotInt.slice _ _ _);have J:=I.put ⟨R,0,none⟩ (.bool s) (NotInt.bool _);have M:=J.put ⟨R,1,none⟩ (.slice p n c) (NotInt.slice _ _ _);have V:=M.put ⟨R,2,none⟩ (.bool t) (NotInt.bool _);exact⟨E.at_ 0 rfl,E.at_ 1 rfl,E.at_ 2 rfl,E.at_ 3 rfl,(((h.1.put I 0 _).put J 1 _).put M 2 _).put V 3 _,(((h.2.put I 0 _).put J 1 _).put M 2 _).put V 3 _⟩
theorem Au {b w:World} {A D:Nat} (h:Below D b w) (E:D<=A) (v0 v1 v2 v3:Value):Below D b ((((w.setCell ⟨A,0,none⟩ v0).setCell ⟨A,1,none⟩ v1).setCell ⟨A,2,none⟩ v2).setCell ⟨A,3,none⟩ v3):=
 (((h.setCell (p:=⟨A,0,none⟩) E v0).setCell (p:=⟨A,1,none⟩) E v1).setCell (p:=⟨A,2,none⟩) E v2).setCell (p:=⟨A,3,none⟩) E v3
def Vz (wc:World) (A B:Nat) (x y:Int) (K:Nat) (r:Rat):Prop:=0<y/\Rat.divInt x y=r/\nd x.natAbs<=K/\nd y.natAbs<=K/\fF wc A B x y
theorem Oc {w:World} {A B C:Nat} {t:TypeId} {cs:Array Value} (h:Blk w C t cs) (E:C≠A) (I:C≠B) (v0 v1 v2 v3:Value):Blk ((((w.setCell ⟨A,0,none⟩ v0).setCell ⟨A,1,none⟩ v1).setCell ⟨B,0,none⟩ v2).setCell ⟨B,1,none⟩ v3) C t cs:=
 (((h.far_ (p:=⟨A,0,none⟩) E v0).far_ (p:=⟨A,1,none⟩) E v1).far_ (p:=⟨B,0,none⟩) I v2).far_ (p:=⟨B,1,none⟩) I v3
theorem Jt {b w:World} {A B D:Nat} (h:Below D b w) (E:D<=A) (I:D<=B) (v0 v1 v2 v3:Value):Below D b ((((w.setCell ⟨A,0,none⟩ v0).setCell ⟨A,1,none⟩ v1).setCell ⟨B,0,none⟩ v2).setCell ⟨B,1,none⟩ v3):=
 (((h.setCell (p:=⟨A,0,none⟩) E v0).setCell (p:=⟨A,1,none⟩) E v1).setCell (p:=⟨B,0,none⟩) I v2).setCell (p:=⟨B,1,none⟩) I v3
theorem J1 (s:Bool) (p:Option Addr) (n c:Nat) (x:Int) (t:Bool) (q:Option Addr) (m d:Nat) (y:Int) (w:World) (h:Zr w s p n c x) (h':Zr w t q m d y) (hn:n<=4398046511100) (hm:m<=4398046511100):
  Calls prog 85 #[.agg #[.bool s,.slice p n c],.agg #[.bool t,.slice q m d]] w λe w'=>F6 w' e (Rat.divInt x y)/\Below w.heap.size w w':=by
 have pI:=Kh (λw1 (hb:Below w.heap.size w w1)=>Jy s p n c x w1 (h.keep hb) (by omega));have pJ:=Kh (λw1 (hb:Below w.heap.size w w1)=>Jy t q m d y w1 (h'.keep hb) (by omega));have hx:=nM h.size hn;have hy:=nM h'.size hm;have HX:=Kh hx;have HY:=Kh hy;clear h h' hx hy;go_enter func85,ntmps85
 go_upto_region 1 with(fail)
 obtain⟨w0,pY,X0,X1,X2,hO⟩:=T9 w #[.bool s,.slice p n c] 84 #[.bool t,.slice q m d] 84 #[.bool false,.slice none 0 0,.bool false,.slice none 0 0] 86;rw[pY];clear pY;go_cut []from 6 to 9 (λwc=>fF wc w.heap.size (w.heap.size+1) x y/\Blk wc (w.heap.size+1+1) 86 #[.bool false,.slice none 0 0,.bool false,.slice none 0 0]/\Below w.heap.size w wc)
 case first=>
  have X0:=X0.drew_;have X1:=X1.drew_;have X2:=X2.drew_;have hO:=hO.drew;have c0:=X0.at_ 0 rfl;have c1:=X0.at_ 1 rfl;have c2:=X1.at_ 0 rfl;have c3:=X1.at_ 1 rfl;have Z:=Kh hO;have pA:=Kh X0;have pB:=Kh X1;have pC:=Kh X2;have M1:True:=trivial;clear X0 X1 X2 hO
  go_region_with (first
   |(go_at_call 134;clear M1;refine(pI.1 _ Z.1).mono ?_;rintro e w2 ⟨⟨s2,p2,n2,e2,rfl,cA⟩,U⟩;have E:=bt Z U;have pE:=Kh (bk pA U);have bA:=Kh (bk pB U);have hG:=Kh (bk pC U);have hL:=Kh cA;have a2:=bA.1.at_ 0 rfl;have a3:=bA.1.at_ 1 rfl;clear cA U pA pB pC Z)
   |(go_at_call 134;refine(pJ.1 _ E.1).mono ?_;rintro e w3 ⟨⟨s3,p3,n3,e3,rfl,cB⟩,aN⟩;have gA:=bt E aN;have bB:=Kh (bk pE aN);have bC:=Kh (bk bA aN);have oA:=Kh (bk hG aN);have hM:=Kh (And.intro (hL.1.keep aN) cB);have b0:=bB.1.at_ 0 rfl;have b1:=bB.1.at_ 1 rfl;have b2:=bC.1.at_ 0 rfl;have b3:=bC.1.at_ 1 rfl;have f0:=bB.1.free_ 0;have f1:=bB.1.free_ 1;have f2:=bC.1.free_ 0;have f3:=bC.1.free_ 1;clear cB aN pE bA hG E hL))
  all_goals go_wp2
  all_goals go_meet
  all_goals exact⟨Tl (by omega) bB.1 bC.1 hM.1.1 hM.1.2,Oc oA.1 (by omega) (by omega) _ _ _ _,Jt gA.1 (nL _) (by omega) _ _ _ _⟩
 case rest=>
  obtain⟨⟨s1,p1,n1,c1,t1,q1,m1,d1,XA,XB,zx,zy⟩,XR,hb⟩:=hcut;have oO:nd x.natAbs=n1:=zx.2.1;have oN:nd y.natAbs=m1:=zy.2.1;have nW:n1<=4398046511100:=by rw[<-oO];exact HX.1
  have nV:m1<=4398046511100:=by rw[<-oN];exact HY.1
  have pX:t1=decide (y<0):=zy.1;have a0:=XA.at_ 0 rfl;have a1:=XA.at_ 1 rfl;have a2:=XB.at_ 0 rfl;have a3:=XB.at_ 1 rfl;have nR:=Kh oO;have hH:=Kh oN;have J:=Kh XA;have M:=Kh XB;have O:=Kh XR;have Z:=Kh hb;have aD:=Kh zx;have aK:=Kh zy;have oC:=Kh pX;clear pI pJ X0 X1 X2 hO oO oN XA XB XR hb zx zy pX;go_upto_block 0 with(fail)
  go_cut []from 10 to 29 (λwd=>(∃x' y',Vz wd w.heap.size (w.heap.size+1) x' y' 4398046511100 (Rat.divInt x y))/\Blk wd (w.heap.size+1+1) 86 #[.bool false,.slice none 0 0,.bool false,.slice none 0 0]/\Below w.heap.size w wd)
  case first=>
   by_cases hm0:m1=0
   ·have HG:=Kh (show(0:Rat)=Rat.divInt x y by
     have:y=0:=by have:=Bs (v:=y.natAbs);have:=hH.1;omega
     rw[this,Rat.divInt_zero])
    subst hm0;have HO:=Kh (Ge 1 wc (by omega) (by omega));go_wp2_with fail
    refine HO.1.mono ?_;rintro e w2 ⟨⟨s2,p2,n2,e2,rfl,cA⟩,U⟩;have I:=Kh (bk O U);have HB:=bt Z U;have HQ:=Kh (show Qs w2 false none 0 0 s2 p2 n2 e2 0 from⟨⟨rfl,rfl,Nm.nil _⟩,cA⟩);clear cA U HO O Z J M aD aK a0 a1 a2 a3;have r0:=I.1.at_ 0 rfl;have r1:=I.1.at_ 1 rfl;have r2:=I.1.at_ 2 rfl;have r3:=I.1.at_ 3 rfl;have f0:=I.1.free_ 0;have f1:=I.1.free_ 1;have f2:=I.1.free_ 2;have f3:=I.1.free_ 3;obtain⟨w9,V⟩:∃w9,(((w2.setCell ⟨w.heap.size+1+1,0,none⟩ (.bool false)).setCell ⟨w.heap.size+1+1,1,none⟩ (.slice none 0 0)).setCell ⟨w.heap.size+1+1,2,none⟩ (.bool s2)).setCell ⟨w.heap.size+1+1,3,none⟩ (.slice p2 n2 e2)=w9:=⟨_,rfl⟩
    obtain⟨E0,E1,E2,E3,bY⟩:=Cc I.1 HQ.1 V;have bE:Below w.heap.size w w9:=by rw[<-V];exact Au HB.1 (by omega) _ _ _ _
    have eG:=Kh V;have dY:=Kh (And.intro E0 (And.intro E1 (And.intro E2 E3)));have eF:=Kh bY;have dE:=Kh bE;clear E0 E1 E2 E3 bY bE V HQ HB I;go_wp2;try rw[eG.1]
    obtain⟨E0,E1,E2,E3⟩:=dY.1;try simp only[Exit.inBlock,Exit.then]
    refine bodyPost_ret (by simp[results,results85,go_sem,E0,E1,E2,E3];try rfl) rfl ?_;exact⟨⟨false,none,0,0,s2,p2,n2,e2,rfl,HG.1▸eF.1⟩,dE.1⟩
   ·have sA:((m1:Int)==0)=false:=beq_eq_false_iff_ne.2 (by omega)
    by_cases hn0:n1=0
    ·have HG:=Kh (show(0:Rat)=Rat.divInt x y by
      have:x=0:=by have:=Bs (v:=x.natAbs);have:=nR.1;omega
      rw[this,Ma])
     subst hn0;have HO:=Kh (Ge 1 wc (by omega) (by omega));go_wp2_with fail
     refine HO.1.mono ?_;rintro e w2 ⟨⟨s2,p2,n2,e2,rfl,cA⟩,U⟩;have I:=Kh (bk O U);have HB:=bt Z U;have HQ:=Kh (show Qs w2 false none 0 0 s2 p2 n2 e2 0 from⟨⟨rfl,rfl,Nm.nil _⟩,cA⟩);clear cA U HO O Z J M aD aK a0 a1 a2 a3;have r0:=I.1.at_ 0 rfl;have r1:=I.1.at_ 1 rfl;have r2:=I.1.at_ 2 rfl;have r3:=I.1.at_ 3 rfl;have f0:=I.1.free_ 0;have f1:=I.1.free_ 1;have f2:=I.1.free_ 2;have f3:=I.1.free_ 3;obtain⟨w9,V⟩:∃w9,(((w2.setCell ⟨w.heap.size+1+1,0,none⟩ (.bool false)).setCell ⟨w.heap.size+1+1,1,none⟩ (.slice none 0 0)).setCell ⟨w.heap.size+1+1,2,none⟩ (.bool s2)).setCell ⟨w.heap.size+1+1,3,none⟩ (.slice p2 n2 e2)=w9:=⟨_,rfl⟩
     obtain⟨E0,E1,E2,E3,bY⟩:=Cc I.1 HQ.1 V;have bE:Below w.heap.size w w9:=by rw[<-V];exact Au HB.1 (by omega) _ _ _ _
     have eG:=Kh V;have dY:=Kh (And.intro E0 (And.intro E1 (And.intro E2 E3)));have eF:=Kh bY;have dE:=Kh bE;clear E0 E1 E2 E3 bY bE V HQ HB I;go_wp2;try rw[eG.1]
     obtain⟨E0,E1,E2,E3⟩:=dY.1;try simp only[Exit.inBlock,Exit.then]
     refine bodyPost_ret (by simp[results,results85,go_sem,E0,E1,E2,E3];try rfl) rfl ?_;exact⟨⟨false,none,0,0,s2,p2,n2,e2,rfl,HG.1▸eF.1⟩,dE.1⟩
    ·have sB:((n1:Int)==0)=false:=beq_eq_false_iff_ne.2 (by omega)
     have qB:y≠0:=λh=>hm0 (by rw[<-hH.1,h];rfl)
     have cM:=Kh qB;clear qB;cases t1 with
     | false=>
      have qE:0<y:=by have h1:=oC.1;have h2:=cM.1;simp at h1;omega
      have HF:=Kh (show Vz wc w.heap.size (w.heap.size+1) x y 4398046511100 (Rat.divInt x y)from⟨qE,rfl,HX.1,HY.1,_,_,_,_,_,_,_,_,J.1,M.1,aD.1,aK.1⟩);clear qE;go_wp2;go_meet
      case rel=>exact⟨⟨x,y,HF.1⟩,O.1,Z.1⟩
     | true=>
      have qD:0 < -y:=by have h1:=oC.1;simp at h1;omega
      have qZ:=Kh qD;have qX:=Kh (λw1 (hb:Below wc.heap.size wc w1)=>Wi s1 p1 n1 c1 x w1 (aD.1.keep hb).raw (by omega));have qY:=Kh (λw1 (hb:Below wc.heap.size wc w1)=>Wi true q1 m1 d1 y w1 (aK.1.keep hb).raw (by omega));have pD:=Kh (Below.refl wc.heap.size wc).drew;have M1:True:=trivial;clear qD;go_upto_region 5 with(fail)
      go_region_with (first
       |(go_at_call 98;clear M1;refine(qX.1 _ pD.1).mono ?_;rintro e w2 ⟨⟨s2,p2,n2,e2,rfl,cA⟩,U⟩;have E:=bt pD U;have hL:=Kh cA;have bA:=Kh (M.1.below_ E.1 M.1.lt);have rV:=bA.1.at_ 0 rfl;have rW:=bA.1.at_ 1 rfl;clear cA U bA)
       |(go_at_call 98;refine(qY.1 _ E.1).mono ?_;rintro e w3 ⟨⟨s3,p3,n3,e3,rfl,cB⟩,aN⟩;have gA:=bt E aN;have bB:=Kh (J.1.below_ gA.1 J.1.lt);have bC:=Kh (M.1.below_ gA.1 M.1.lt);have oA:=Kh (O.1.below_ gA.1 O.1.lt);have hM:=Kh (And.intro (hL.1.keep aN) cB);have b0:=bB.1.at_ 0 rfl;have b1:=bB.1.at_ 1 rfl;have b2:=bC.1.at_ 0 rfl;have b3:=bC.1.at_ 1 rfl;have f0:=bB.1.free_ 0;have f1:=bB.1.free_ 1;have f2:=bC.1.free_ 0;have f3:=bC.1.free_ 1;clear cB aN E hL))
      all_goals go_wp2
      all_goals go_meet
      all_goals exact⟨⟨-x,-y,qZ.1,Yv x y,by rw[Int.natAbs_neg];exact HX.1,by rw[Int.natAbs_neg];exact HY.1,Tl (by omega) bB.1 bC.1 hM.1.1 hM.1.2⟩,Oc oA.1 (by omega) (by omega) _ _ _ _,Jt (Z.1.trans (gA.1.mono Z.1.size)) (nL _) (by omega) _ _ _ _⟩
  case rest=>
   clear nR hH J M O Z aD aK oC HX HY a0 a1 a2 a3 nW nV n1 m1 s1 t1 p1 q1 c1 d1;obtain⟨⟨x',y',hy,hr,pZ,qC,s1,p1,n1,c1,t1,q1,m1,d1,XA,XB,zx,zy⟩,XR,hb⟩:=hcut;have a0:=XA.at_ 0 rfl;have a1:=XA.at_ 1 rfl;have a2:=XB.at_ 0 rfl;have a3:=XB.at_ 1 rfl;have nW:n1<=4398046511100:=by rw[<-zx.2.1];exact pZ
   have nV:m1<=4398046511100:=by rw[<-zy.2.1];exact qC
   have HO:=Kh (Sd t1 q1 m1 d1 y' wc zy.raw (by omega));have aD:=Kh zx;have aK:=Kh zy;have J:=Kh XA;have M:=Kh XB;have O:=Kh XR;have Z:=Kh hb;have cM:=Kh hy;have hJ:=Kh hr;clear hy hr pZ qC XA XB zx zy XR hb;go_wp2_with fail
   refine HO.1.mono ?_;rintro e w2 ⟨⟨b,rfl,hP⟩,U⟩;have E:=Kh U;have cI:=Kh hP;clear U HO hP;have b0:=(J.1.below_ E.1 J.1.lt).at_ 0 rfl;have b1:=(J.1.below_ E.1 J.1.lt).at_ 1 rfl;have b2:=(M.1.below_ E.1 M.1.lt).at_ 0 rfl;have b3:=(M.1.below_ E.1 M.1.lt).at_ 1 rfl;clear a0 a1 a2 a3;cases b with
   | true=>
    have HG:=Kh (show Rat.divInt x' 1=Rat.divInt x y by rw[<-hJ.1,cI.1 rfl])
    have HQ:=Kh (show Qs w2 s1 p1 n1 c1 t1 q1 m1 d1 (Rat.divInt x' 1)by
     have h1:=aD.1.keep E.1;have h2:=aK.1.keep E.1;rw[cI.1 rfl]at h2;unfold Qs;rw[(Ha x').1,(Ha x').2];exact⟨h1,h2⟩)
    have I:=Kh (O.1.below_ E.1 O.1.lt);have HB:=Kh (Z.1.trans (E.1.mono Z.1.size));clear cI hJ cM aD aK J M O Z E;have r0:=I.1.at_ 0 rfl;have r1:=I.1.at_ 1 rfl;have r2:=I.1.at_ 2 rfl;have r3:=I.1.at_ 3 rfl;have f0:=I.1.free_ 0;have f1:=I.1.free_ 1;have f2:=I.1.free_ 2;have f3:=I.1.free_ 3;obtain⟨w9,V⟩:∃w9,(((w2.setCell ⟨w.heap.size+1+1,0,none⟩ (.bool s1)).setCell ⟨w.heap.size+1+1,1,none⟩ (.slice p1 n1 c1)).setCell ⟨w.heap.size+1+1,2,none⟩ (.bool t1)).setCell ⟨w.heap.size+1+1,3,none⟩ (.slice q1 m1 d1)=w9:=⟨_,rfl⟩
    obtain⟨E0,E1,E2,E3,bY⟩:=Cc I.1 HQ.1 V;have bE:Below w.heap.size w w9:=by rw[<-V];exact Au HB.1 (by omega) _ _ _ _
    have eG:=Kh V;have dY:=Kh (And.intro E0 (And.intro E1 (And.intro E2 E3)));have eF:=Kh bY;have dE:=Kh bE;clear E0 E1 E2 E3 bY bE V HQ HB I;go_wp2;try rw[eG.1]
    obtain⟨E0,E1,E2,E3⟩:=dY.1;try simp only[Exit.inBlock,Exit.then]
    refine bodyPost_ret (by simp[results,results85,go_sem,E0,E1,E2,E3];try rfl) rfl ?_;exact⟨⟨s1,p1,n1,c1,t1,q1,m1,d1,rfl,HG.1▸eF.1⟩,dE.1⟩
   | false=>
    have pH:=Kh (jN s1 p1 n1 c1 x' t1 q1 m1 d1 y' w2 (aD.1.keep E.1).raw (aK.1.keep E.1).raw (by omega) (by omega));clear cI;go_wp2_with fail
    refine pH.1.mono ?_;rintro e w3 ⟨⟨s3,p3,n3,e3,rfl,cB⟩,aN⟩;obtain⟨wg,rF⟩:∃wg,w3.alloc (.cells #[.bool s3,.slice p3 n3 e3] 84)=wg:=⟨_,rfl⟩
    obtain⟨XG,hQ⟩:=Qk w3 #[.bool s3,.slice p3 n3 e3] 84;rw[rF]at XG hQ;have eY:Below wc.heap.size wc w3:=E.1.trans (aN.mono E.1.size);have pW:Below wc.heap.size wc wg:=eY.trans (hQ.mono eY.size)
    have rY:n3<=n1+m1:=by
     have h1:=cB.2.1;rw[Int.natAbs_natCast]at h1;rw[<-h1];by_cases hx0:x'.natAbs=0
     ·have e:Int.gcd x' y'=y'.natAbs:=by show Nat.gcd x'.natAbs y'.natAbs=_;rw[hx0,Nat.gcd_zero_left]
      rw[e];have:=aK.1.2.1;omega
     ·have e:=Bq (Nat.gcd_le_left y'.natAbs (show 0<x'.natAbs by omega))
      have:=aD.1.2.1;exact nM e (by omega)
    have oM:w3.heap.size≠w.heap.size/\w3.heap.size≠w.heap.size+1/\w3.heap.size≠w.heap.size+1+1:=by
     have h1:=J.1.lt;have h2:=M.1.lt;have h3:=O.1.lt;have h4:=eY.size;omega
    obtain⟨gb,rE⟩:∃gb,w3.heap.size=gb:=⟨_,rfl⟩
    rw[rE]at XG oM;have eP:=Kh XG;have oB:=Kh oM;have gI:=Kh (cB.keep hQ);have HD:=Kh pW;have g0:=XG.at_ 0 rfl;have g1:=XG.at_ 1 rfl;have HO:=Kh (Sd s3 p3 n3 e3 _ wg (cB.keep hQ).raw (by omega));clear cB aN pH eY pW hQ XG oM b0 b1 b2 b3;go_wp2_with fail
    refine HO.1.mono ?_;rintro e w4 ⟨⟨b,rfl,hP⟩,mB⟩;have aX:Below wc.heap.size wc w4:=HD.1.trans (mB.mono HD.1.size);have cI:=Kh hP;replace HD:=Kh aX;replace J:=Kh (bk J aX);replace M:=Kh (bk M aX);replace O:=Kh (bk O aX);replace eP:=Kh (bk eP mB);replace aD:=Kh (aD.1.keep aX);replace aK:=Kh (aK.1.keep aX);replace gI:=Kh (gI.1.keep mB);have hE:=bt Z aX;clear hP mB aX HO Z E g0 g1 HD;go_upto_if 40 with(fail)
    go_cut []from 41 to 52 (λwf=>(∃s' p' n' c' t' q' m' d',Blk wf w.heap.size 84 #[.bool s',.slice p' n' c']/\Blk wf (w.heap.size+1) 84 #[.bool t',.slice q' m' d']/\Qs wf s' p' n' c' t' q' m' d' (Rat.divInt x y))/\Blk wf (w.heap.size+1+1) 86 #[.bool false,.slice none 0 0,.bool false,.slice none 0 0]/\Below w.heap.size w wf)
    case first=>
     cases b with
     | true=>
      have HQ:=Kh (show Qs w4 s1 p1 n1 c1 t1 q1 m1 d1 (Rat.divInt x y)by
       have h1:=G9 (n:=x') cM.1;have h2:=G8 (n:=x') cM.1;rw[cI.1 rfl,Int.ediv_one,hJ.1]at h1 h2;unfold Qs;rw[h1,h2];exact⟨aD.1,aK.1⟩)
      clear cI;go_wp2;go_meet
      case rel=>exact⟨⟨_,_,_,_,_,_,_,_,J.1,M.1,HQ.1⟩,O.1,hE.1⟩
     | false=>
      have oL:((Int.gcd x' y':Nat):Int)≠0:=by
       have h1:=Int.gcd_pos_iff (a:=x') (b:=y');have h2:=cM.1;have h3:=h1.2 (Or.inr (by omega));omega
      have bA:=Kh (λw5 (hb:Below w4.heap.size w4 w5)=>Sa s1 p1 n1 c1 x' s3 p3 n3 e3 _ w5 (aD.1.keep hb).raw (gI.1.keep hb).raw (by omega) (by omega) oL (Int.emod_eq_zero_of_dvd (Int.gcd_dvd_left ..)));have hG:=Kh (λw5 (h1:Zr w5 t1 q1 m1 d1 y') (h2:Zr w5 s3 p3 n3 e3 (Int.gcd x' y':Nat))=>Sa t1 q1 m1 d1 y' s3 p3 n3 e3 _ w5 h1 h2 (by omega) (by omega) oL (Int.emod_eq_zero_of_dvd (Int.gcd_dvd_right ..)));have a0:=J.1.at_ 0 rfl;have a1:=J.1.at_ 1 rfl;have g0:=eP.1.at_ 0 rfl;have g1:=eP.1.at_ 1 rfl;clear oL cI;go_wp2_with fail
      refine(bA.1 w4 (Below.refl _ _)).mono ?_;rintro e w5 ⟨⟨s5,p5,n5,e5,rfl,qF⟩,cX⟩;have YA:=bk J cX;have YB:=bk M cX;have YR:=bk O cX;have YG:=bk eP cX;obtain⟨w6,oP⟩:∃w6,(w5.setCell ⟨w.heap.size,0,none⟩ (.bool s5)).setCell ⟨w.heap.size,1,none⟩ (.slice p5 n5 e5)=w6:=⟨_,rfl⟩
      obtain⟨ZA,z5⟩:=Fy YA qF;have st:=Sts.box YA;have ZB:=(YB.far_ (p:=⟨w.heap.size,0,none⟩) (by show w.heap.size+1≠w.heap.size;omega) (.bool s5)).far_ (p:=⟨w.heap.size,1,none⟩) (by show w.heap.size+1≠w.heap.size;omega) (.slice p5 n5 e5);have ZR:=(YR.far_ (p:=⟨w.heap.size,0,none⟩) (by show w.heap.size+1+1≠w.heap.size;omega) (.bool s5)).far_ (p:=⟨w.heap.size,1,none⟩) (by show w.heap.size+1+1≠w.heap.size;omega) (.slice p5 n5 e5);have ZG:=(YG.far_ (p:=⟨w.heap.size,0,none⟩) oB.1.1 (.bool s5)).far_ (p:=⟨w.heap.size,1,none⟩) oB.1.1 (.slice p5 n5 e5);have zy:=(aK.1.keep cX).put2 st 0 1 (.bool s5) (.slice p5 n5 e5) (NotInt.bool _);have zg:=(gI.1.keep cX).put2 st 0 1 (.bool s5) (.slice p5 n5 e5) (NotInt.bool _);have oK:Below w.heap.size w ((w5.setCell ⟨w.heap.size,0,none⟩ (.bool s5)).setCell ⟨w.heap.size,1,none⟩ (.slice p5 n5 e5)):=((hE.1.trans (cX.mono hE.1.size)).setCell (nL _) _).setCell (nL _) _;rw[oP]at ZA ZB ZR ZG zy zg oK z5;have a0:=YA.at_ 0 rfl;have a1:=YA.at_ 1 rfl;have f0:=YA.free_ 0;have f1:=YA.free_ 1;have b2:=ZB.at_ 0 rfl;have b3:=ZB.at_ 1 rfl;have g0:=ZG.at_ 0 rfl;have g1:=ZG.at_ 1 rfl;have pL:=Kh ZA;have pM:=Kh ZB;have pN:=Kh ZR;have pK:=Kh z5;have pF:=Kh (hG.1 w6 zy.raw zg.raw);have nZ:=Kh oK;clear cX qF YA YB YR YG ZA ZB ZR ZG z5 zy zg oK st bA hG hE J M O eP aD aK gI;go_wp2_with fail
      try rw[oP]
      refine pF.1.mono ?_;rintro e w7 ⟨⟨s7,p7,n7,e7,rfl,qG⟩,gS⟩;have YA:=bk pL gS;have YB:=bk pM gS;have YR:=bk pN gS;obtain⟨ZB,z7⟩:=Fy YB qG;have ZA:=(YA.far_ (p:=⟨w.heap.size+1,0,none⟩) (by show w.heap.size≠w.heap.size+1;omega) (.bool s7)).far_ (p:=⟨w.heap.size+1,1,none⟩) (by show w.heap.size≠w.heap.size+1;omega) (.slice p7 n7 e7);have ZR:=(YR.far_ (p:=⟨w.heap.size+1,0,none⟩) (by show w.heap.size+1+1≠w.heap.size+1;omega) (.bool s7)).far_ (p:=⟨w.heap.size+1,1,none⟩) (by show w.heap.size+1+1≠w.heap.size+1;omega) (.slice p7 n7 e7);have z5:=(pK.1.keep gS).put2 (Sts.box YB) 0 1 (.bool s7) (.slice p7 n7 e7) (NotInt.bool _);have pV:Below w.heap.size w ((w7.setCell ⟨w.heap.size+1,0,none⟩ (.bool s7)).setCell ⟨w.heap.size+1,1,none⟩ (.slice p7 n7 e7)):=((nZ.1.trans (gS.mono nZ.1.size)).setCell (by show w.heap.size<=w.heap.size+1;omega) _).setCell (by show w.heap.size<=w.heap.size+1;omega) _;have c0:=YB.at_ 0 rfl;have c1:=YB.at_ 1 rfl;have f2:=YB.free_ 0;have f3:=YB.free_ 1
      have HF:=Kh (show(∃s' p' n' c' t' q' m' d',Blk ((w7.setCell ⟨w.heap.size+1,0,none⟩ (.bool s7)).setCell ⟨w.heap.size+1,1,none⟩ (.slice p7 n7 e7)) w.heap.size 84 #[.bool s',.slice p' n' c']/\Blk ((w7.setCell ⟨w.heap.size+1,0,none⟩ (.bool s7)).setCell ⟨w.heap.size+1,1,none⟩ (.slice p7 n7 e7)) (w.heap.size+1) 84 #[.bool t',.slice q' m' d']/\Qs ((w7.setCell ⟨w.heap.size+1,0,none⟩ (.bool s7)).setCell ⟨w.heap.size+1,1,none⟩ (.slice p7 n7 e7)) s' p' n' c' t' q' m' d' (Rat.divInt x y))by
       refine⟨_,_,_,_,_,_,_,_,ZA,ZB,?_⟩;have h1:=G9 (n:=x') cM.1;have h2:=G8 (n:=x') cM.1;rw[hJ.1]at h1 h2;unfold Qs;rw[h1,h2];exact⟨z5,z7⟩)
      have pO:=Kh ZR;have qV:=Kh pV;clear gS qG YA YB YR ZA ZB ZR z5 z7 pV pF nZ pL pM pN pK a0 a1 f0 f1 b2 b3 g0 g1 oP;go_wp2;go_meet
      case rel=>exact⟨HF.1,pO.1,qV.1⟩
    case rest=>
     clear J M O eP aD aK gI oB hE cI hJ cM;obtain⟨⟨s5,p5,n5,e5,t5,q5,m5,d5,XA,XB,hq⟩,XR,hb⟩:=hcut;have a0:=XA.at_ 0 rfl;have a1:=XA.at_ 1 rfl;have a2:=XB.at_ 0 rfl;have a3:=XB.at_ 1 rfl;have HQ:=Kh hq;have I:=Kh XR;have HB:=Kh hb;clear XA XB XR hq hb;have r0:=I.1.at_ 0 rfl;have r1:=I.1.at_ 1 rfl;have r2:=I.1.at_ 2 rfl;have r3:=I.1.at_ 3 rfl;have f0:=I.1.free_ 0;have f1:=I.1.free_ 1;have f2:=I.1.free_ 2;have f3:=I.1.free_ 3;obtain⟨w9,V⟩:∃w9,(((wc.setCell ⟨w.heap.size+1+1,0,none⟩ (.bool s5)).setCell ⟨w.heap.size+1+1,1,none⟩ (.slice p5 n5 e5)).setCell ⟨w.heap.size+1+1,2,none⟩ (.bool t5)).setCell ⟨w.heap.size+1+1,3,none⟩ (.slice q5 m5 d5)=w9:=⟨_,rfl⟩
     obtain⟨E0,E1,E2,E3,bY⟩:=Cc I.1 HQ.1 V;have bE:Below w.heap.size w w9:=by rw[<-V];exact Au HB.1 (by omega) _ _ _ _
     have eG:=Kh V;have dY:=Kh (And.intro E0 (And.intro E1 (And.intro E2 E3)));have eF:=Kh bY;have dE:=Kh bE;clear E0 E1 E2 E3 bY bE V HQ HB I;go_wp2;try rw[eG.1]
     obtain⟨E0,E1,E2,E3⟩:=dY.1;try simp only[Exit.inBlock,Exit.then]
     refine bodyPost_ret (by simp[results,results85,go_sem,E0,E1,E2,E3];try rfl) rfl ?_;exact⟨⟨s5,p5,n5,e5,t5,q5,m5,d5,rfl,eF.1⟩,dE.1⟩
theorem Qs.put4 {w:World} {R:Nat} (E:Sts w R) {s t:Bool} {p q:Option Addr} {n c m d:Nat} {r:Rat} (h:Qs w s p n c t q m d r) (v0 v1 v2 v3:Value) (O:NotInt v0) (U:NotInt v1) (V:NotInt v2):
  Qs ((((w.setCell ⟨R,0,none⟩ v0).setCell ⟨R,1,none⟩ v1).setCell ⟨R,2,none⟩ v2).setCell ⟨R,3,none⟩ v3) s p n c t q m d r:=by
 have I:=E.put ⟨R,0,none⟩ v0 O;have J:=I.put ⟨R,1,none⟩ v1 U;have M:=J.put ⟨R,2,none⟩ v2 V;exact⟨(((h.1.put E 0 _).put I 1 _).put J 2 _).put M 3 _,(((h.2.put E 0 _).put I 1 _).put J 2 _).put M 3 _⟩
theorem Hv (s:Bool) (p:Option Addr) (n c:Nat) (x:Int) (t:Bool) (q:Option Addr) (m d:Nat) (y:Int) (w:World) (h:Zr w s p n c x) (h':Zr w t q m d y) (hn:n<=4398046511100) (hm:m<=4398046511100):
  Calls prog 80 #[.agg #[.bool s,.slice p n c,.bool t,.slice q m d]] w λe w'=>F6 w' e (Rat.divInt x y)/\Below w.heap.size w w':=by
 have HC:=Kh (λw1 (hb:Below w.heap.size w w1)=>J1 s p n c x t q m d y w1 (h.keep hb) (h'.keep hb) hn hm);clear h h';go_enter func80,ntmps80
 go_wp2_with fail
 obtain⟨w0,aK,X0,X1,U⟩:=bx2 w #[.bool s,.slice p n c,.bool t,.slice q m d] 86 #[.bool false,.slice none 0 0,.bool false,.slice none 0 0] 86;rw[aK];have O:=Kh X1;have J:=Kh U;clear X0 X1 U aK;refine(HC.1 _ J.1).mono ?_;rintro e w2 ⟨⟨s2,p2,n2,e2,t2,q2,m2,d2,rfl,Z⟩,M⟩;have HQ:=Kh Z;have E:=Kh (bk O M);have HB:=bt J M;clear Z M O J HC;have r0:=E.1.at_ 0 rfl;have r1:=E.1.at_ 1 rfl;have r2:=E.1.at_ 2 rfl;have r3:=E.1.at_ 3 rfl;have f0:=E.1.free_ 0;have f1:=E.1.free_ 1;have f2:=E.1.free_ 2;have f3:=E.1.free_ 3;obtain⟨w9,I⟩:∃w9,(((w2.setCell ⟨w.heap.size+1,0,none⟩ (.bool s2)).setCell ⟨w.heap.size+1,1,none⟩ (.slice p2 n2 e2)).setCell ⟨w.heap.size+1,2,none⟩ (.bool t2)).setCell ⟨w.heap.size+1,3,none⟩ (.slice q2 m2 d2)=w9:=⟨_,rfl⟩
 obtain⟨E0,E1,E2,E3,aD⟩:=Cc E.1 HQ.1 I;have V:Below w.heap.size w w9:=by rw[<-I];exact Au HB.1 (by omega) _ _ _ _
 have cA:=Kh I;have bE:=Kh (And.intro E0 (And.intro E1 (And.intro E2 E3)));have bY:=Kh aD;have bC:=Kh V;clear E0 E1 E2 E3 aD V I HQ HB E;go_wp2;try rw[cA.1]
 obtain⟨E0,E1,E2,E3⟩:=bE.1;try simp only[Exit.inBlock,Exit.then]
 refine bodyPost_ret (by simp[results,results80,go_sem,E0,E1,E2,E3];try rfl) rfl ?_;exact⟨⟨s2,p2,n2,e2,t2,q2,m2,d2,rfl,bY.1⟩,bC.1⟩
theorem Du (z:Int) (w:World) (h1:-4611686018427387904<=z) (h2:z<=4611686018427387904):
  Calls prog 49 #[.int .i64 z] w λe w'=>F6 w' e (z:Rat)/\Below w.heap.size w w':=by
 have HC:=Kh (λw1=>Ge z w1 h1 h2);have HO:=Kh (λw1=>Ge 1 w1 (by omega) (by omega));clear h1 h2;go_enter func49,ntmps49
 go_wp2_with fail
 obtain⟨w0,aN,X0,h⟩:=bx1 w #[.bool false,.slice none 0 0,.bool false,.slice none 0 0] 86;rw[aN];have I:=Kh X0;have U:=Kh h;clear X0 h aN;refine(HC.1 _).mono ?_;rintro e w1 ⟨⟨s2,p2,n2,e2,rfl,aX⟩,O⟩;have Z:=Kh aX;have V:=bt U O;replace I:=Kh (bk I O);clear aX O HC;go_wp2_with fail
 refine(HO.1 _).mono ?_;rintro e w2 ⟨⟨t2,q2,m2,d2,rfl,bA⟩,J⟩;have HQ:=Kh (show Qs w2 s2 p2 n2 e2 t2 q2 m2 d2 (z:Rat)from⟨Z.1.keep J,bA⟩);have E:=Kh (bk I J);have HB:=bt V J;clear bA J I V Z HO U;have r0:=E.1.at_ 0 rfl;have r1:=E.1.at_ 1 rfl;have r2:=E.1.at_ 2 rfl;have r3:=E.1.at_ 3 rfl;have f0:=E.1.free_ 0;have f1:=E.1.free_ 1;have f2:=E.1.free_ 2;have f3:=E.1.free_ 3;obtain⟨w9,M⟩:∃w9,(((w2.setCell ⟨w.heap.size,0,none⟩ (.bool s2)).setCell ⟨w.heap.size,1,none⟩ (.slice p2 n2 e2)).setCell ⟨w.heap.size,2,none⟩ (.bool t2)).setCell ⟨w.heap.size,3,none⟩ (.slice q2 m2 d2)=w9:=⟨_,rfl⟩
 obtain⟨E0,E1,E2,E3,aK⟩:=Cc E.1 HQ.1 M;have aD:Below w.heap.size w w9:=by rw[<-M];exact Au HB.1 (by omega) _ _ _ _
 have cF:=Kh M;have cC:=Kh (And.intro E0 (And.intro E1 (And.intro E2 E3)));have cD:=Kh aK;have cB:=Kh aD;clear E0 E1 E2 E3 aK aD M HQ HB E;go_wp2;try rw[cF.1]
 obtain⟨E0,E1,E2,E3⟩:=cC.1;try simp only[Exit.inBlock,Exit.then]
 refine bodyPost_ret (by simp[results,results49,go_sem,E0,E1,E2,E3];try rfl) rfl ?_;exact⟨⟨s2,p2,n2,e2,t2,q2,m2,d2,rfl,cD.1⟩,cB.1⟩
theorem Wx (s:Bool) (p:Option Addr) (n c:Nat) (x:Int) (t:Bool) (q:Option Addr) (m d:Nat) (y:Int) (s':Bool) (p':Option Addr) (U h:Nat) (x':Int) (t':Bool) (q':Option Addr) (O d':Nat) (y':Int) (w:World) (h1:Zr w s p n c x) (h2:Zr w t q m d y) (h3:Zr w s' p' U h x') (h4:Zr w t' q' O d' y') (hn:n<=2199023255500) (hm:m<=2199023255500) (hJ:U<=2199023255500) (hI:O<=2199023255500):
  Calls prog 44 #[.agg #[.bool s,.slice p n c,.bool t,.slice q m d],.agg #[.bool s',.slice p' U h,.bool t',.slice q' O d']] w λe w'=>F6 w' e (Rat.divInt x y*Rat.divInt x' y')/\Below w.heap.size w w':=by
 have HV:=Kh (Rat.divInt_mul_divInt x x' (d₁:=y) (d₂:=y'));have cF:=Kh (show nd (x*x').natAbs<=4398046511100 by rw[Int.natAbs_mul];have:=Cf x.natAbs x'.natAbs;have:=h1.size;have:=h3.size;omega);have cG:=Kh (show nd (y*y').natAbs<=4398046511100 by rw[Int.natAbs_mul];have:=Cf y.natAbs y'.natAbs;have:=h2.size;have:=h4.size;omega);have cB:=Kh (λE (hb:Below w.heap.size w E)=>Gs s p n c x s' p' U h x' E (h1.keep hb) (h3.keep hb) (by omega) (by omega));have cC:=Kh (λE (hb:Below w.heap.size w E)=>Gs t q m d y t' q' O d' y' E (h2.keep hb) (h4.keep hb) (by omega) (by omega));clear h1 h2 h3 h4;go_enter func44,ntmps44
 go_upto_region 1 with(fail)
 obtain⟨w0,bB,V,Z,I,aN⟩:=T9 w #[.bool s,.slice p n c,.bool t,.slice q m d] 86 #[.bool s',.slice p' U h,.bool t',.slice q' O d'] 86 #[.bool false,.slice none 0 0,.bool false,.slice none 0 0] 86;rw[bB];have eX:w.heap.size<=w0.heap.size:=aN.size;clear bB;have M1:True:=trivial;have T2:=Sts.of I (by intro v hv;simp at hv;rcases hv with rfl|rfl|rfl|rfl <;> first|exact NotInt.bool _|exact NotInt.slice _ _ _);have eF:=A9 (Below.refl _ w0).drew ⟨V.c0,V.c1,V.c2,V.c3,Z.c0,Z.c1,Z.c2,Z.c3,I.so 0,I.free_ 0,T2,I.so 1,I.free_ 1,T2,I.so 2,I.free_ 2,T2,I.so 3,I.free_ 3,T2,aN,eX⟩;clear V Z I
 go_region_held3 (λE=>E.cell? ⟨w.heap.size,0,none⟩=some (.bool s)/\E.cell? ⟨w.heap.size,1,none⟩=some (.slice p n c)/\E.cell? ⟨w.heap.size,2,none⟩=some (.bool t)/\E.cell? ⟨w.heap.size,3,none⟩=some (.slice q m d)/\E.cell? ⟨w.heap.size+1,0,none⟩=some (.bool s')/\E.cell? ⟨w.heap.size+1,1,none⟩=some (.slice p' U h)/\E.cell? ⟨w.heap.size+1,2,none⟩=some (.bool t')/\E.cell? ⟨w.heap.size+1,3,none⟩=some (.slice q' O d')/\E.cell? ⟨w.heap.size+1+1,0,none⟩=some (cellOf E ⟨w.heap.size+1+1,0,none⟩)/\E.frozen? ⟨w.heap.size+1+1,0,none⟩=false/\Sts E (w.heap.size+1+1)/\E.cell? ⟨w.heap.size+1+1,1,none⟩=some (cellOf E ⟨w.heap.size+1+1,1,none⟩)/\E.frozen? ⟨w.heap.size+1+1,1,none⟩=false/\Sts E (w.heap.size+1+1)/\E.cell? ⟨w.heap.size+1+1,2,none⟩=some (cellOf E ⟨w.heap.size+1+1,2,none⟩)/\E.frozen? ⟨w.heap.size+1+1,2,none⟩=false/\Sts E (w.heap.size+1+1)/\E.cell? ⟨w.heap.size+1+1,3,none⟩=some (cellOf E ⟨w.heap.size+1+1,3,none⟩)/\E.frozen? ⟨w.heap.size+1+1,3,none⟩=false/\Sts E (w.heap.size+1+1)/\Below w.heap.size w E/\w.heap.size<=E.heap.size)
  (first|with_reducible exact eF |(refine A9 (by with_reducible assumption) ?_;assumption) |(refine D9 ?_ ?_ ?_ ?_ ?_ ?_ ?_ ?_ ?_ ?_ ?_ ?_ ?_ ?_ ?_ ?_ ?_ ?_ ?_ ?_ ?_ ?_ ?_ ?_ ?_ ?_ ?_ ?_ ?_ ?_ ?_ ?_ ?_ ?_ ?_ ?_ ?_ ?_ ?_ ?_ ?_ <;> first|assumption|exact NotInt.bool _|exact NotInt.slice _ _ _ |(dsimp only;omega) |(simp;done)))
  (first
   |(go_at_call 84;clear M1;refine(cB.1 _ (Bm (by with_reducible assumption))).mono ?_;rintro e w2 ⟨⟨s2,p2,n2,e2,rfl,bC⟩,eG⟩;have J:=Kh bC;clear bC)
   |(go_at_call 84;refine(cC.1 _ (Bm (by with_reducible assumption))).mono ?_;rintro e w3 ⟨⟨s3,p3,n3,e3,rfl,M⟩,aX⟩;have cD:=Kh (J1 s2 p2 n2 e2 (x*x') s3 p3 n3 e3 (y*y') w3 (J.1.keep aX).raw M.raw (by rw[<-J.1.2.1];exact cF.1) (by rw[<-M.2.1];exact cG.1));clear M eG J)
   |(go_at_call 85;refine cD.1.mono ?_;rintro e w4 ⟨⟨s4,p4,n4,e4,t4,q4,m4,d4,rfl,bA⟩,eP⟩;clear aX;obtain⟨⟨cX,hT⟩,⟨dC,_⟩,⟨dE,_⟩,⟨dY,_⟩⟩:=Jr eP (by with_reducible assumption);have eT:=Kh (bA.put4 hT (.bool s4) (.slice p4 n4 e4) (.bool t4) (.slice q4 m4 d4) (NotInt.bool _) (NotInt.slice _ _ _) (NotInt.bool _));clear bA hT))
 go_wp2;try simp only[Exit.inBlock,Exit.then]
 refine bodyPost_ret (by simp[results,results44,go_sem,cX,dC,dE,dY];try rfl) rfl ?_;exact⟨⟨s4,p4,n4,e4,t4,q4,m4,d4,rfl,HV.1▸eT.1⟩,Bm (by assumption)⟩
abbrev fB (B:Nat) (w0 w:World) (a0 a1 a2 a3:Addr) (v0 v1 v2 v3:Value):Prop:=w.cell? a0=some v0/\w.cell? a1=some v1/\w.cell? a2=some v2/\w.cell? a3=some v3/\Below B w0 w/\B<=w.heap.size
theorem Lm {B:Nat} {w0 w w':World} {a0 E I J:Addr} {v0 v1 v2 v3:Value} (M:Below w.heap.size w w') (h:fB B w0 w a0 E I J v0 v1 v2 v3):fB B w0 w' a0 E I J v0 v1 v2 v3:=SS.next (B:=B) (w0:=w0) (l:=[(a0,v0),(E,v1),(I,v2),(J,v3)]) (m:=[]) M h
theorem Gc {B:Nat} {w0 w:World} {a0 E I J:Addr} {v0 v1 v2 v3:Value} (h:fB B w0 w a0 E I J v0 v1 v2 v3):Below B w0 w:=SS.below (B:=B) (w0:=w0) (l:=[(a0,v0),(E,v1),(I,v2),(J,v3)]) (m:=[]) h
abbrev Qg (B:Nat) (w0 w:World) (a0 a1 a2 a3 a4 a5 a6 a7:Addr) (v0 v1 v2 v3 v4 v5 v6 v7:Value):Prop:=w.cell? a0=some v0/\w.cell? a1=some v1/\w.cell? a2=some v2/\w.cell? a3=some v3/\w.cell? a4=some v4/\w.cell? a5=some v5/\w.cell? a6=some v6/\w.cell? a7=some v7/\Below B w0 w/\B<=w.heap.size
theorem D8 {B:Nat} {w0 w w':World} {a0 E I J M O U V:Addr} {v0 v1 v2 v3 Z v5 v6 v7:Value} (hb:Below w.heap.size w w') (h:Qg B w0 w a0 E I J M O U V v0 v1 v2 v3 Z v5 v6 v7):Qg B w0 w' a0 E I J M O U V v0 v1 v2 v3 Z v5 v6 v7:=SS.next (B:=B) (w0:=w0) (l:=[(a0,v0),(E,v1),(I,v2),(J,v3),(M,Z),(O,v5),(U,v6),(V,v7)]) (m:=[]) hb h
theorem C3 {B:Nat} {w0 w:World} {a0 E I J M O U V:Addr} {v0 v1 v2 v3 Z v5 v6 v7:Value} (h:Qg B w0 w a0 E I J M O U V v0 v1 v2 v3 Z v5 v6 v7):Below B w0 w:=SS.below (B:=B) (w0:=w0) (l:=[(a0,v0),(E,v1),(I,v2),(J,v3),(M,Z),(O,v5),(U,v6),(V,v7)]) (m:=[]) h
abbrev Tw (B:Nat) (w0 w:World) (a0 a1 a2 a3 a4 a5 b0 b1 b2 b3:Addr) (v0 v1 v2 v3 v4 v5:Value):Prop:=w.cell? a0=some v0/\w.cell? a1=some v1/\w.cell? a2=some v2/\w.cell? a3=some v3/\w.cell? a4=some v4/\w.cell? a5=some v5/\w.cell? b0=some (cellOf w b0)/\w.frozen? b0=false/\Sts w b0.block/\w.cell? b1=some (cellOf w b1)/\w.frozen? b1=false/\Sts w b1.block/\w.cell? b2=some (cellOf w b2)/\w.frozen? b2=false/\Sts w b2.block/\w.cell? b3=some (cellOf w b3)/\w.frozen? b3=false/\Sts w b3.block/\Below B w0 w/\B<=w.heap.size
theorem Ln {B:Nat} {w0 w w':World} {a0 E I J M O U V Z b3:Addr} {v0 v1 v2 v3 v4 v5:Value} (hb:Below w.heap.size w w') (h:Tw B w0 w a0 E I J M O U V Z b3 v0 v1 v2 v3 v4 v5):Tw B w0 w' a0 E I J M O U V Z b3 v0 v1 v2 v3 v4 v5:=SS.next (B:=B) (w0:=w0) (l:=[(a0,v0),(E,v1),(I,v2),(J,v3),(M,v4),(O,v5)]) (m:=[U,V,Z,b3]) hb h
theorem Jq {B:Nat} {w0 w:World} {a0 E I J M O U V Z b3:Addr} {v0 v1 v2 v3 v4 v5:Value} (h:Tw B w0 w a0 E I J M O U V Z b3 v0 v1 v2 v3 v4 v5):Below B w0 w:=SS.below (B:=B) (w0:=w0) (l:=[(a0,v0),(E,v1),(I,v2),(J,v3),(M,v4),(O,v5)]) (m:=[U,V,Z,b3]) h
theorem V7 {B:Nat} {w0 w w':World} {a0 O U V Z a5 E I J M:Addr} {v0 v1 v2 v3 v4 v5:Value} (hb:Below w.heap.size w w') (h:Tw B w0 w a0 O U V Z a5 E I J M v0 v1 v2 v3 v4 v5):((w'.cell? E).isSome=true/\Sts w' E.block)/\((w'.cell? I).isSome=true/\Sts w' I.block)/\((w'.cell? J).isSome=true/\Sts w' J.block)/\((w'.cell? M).isSome=true/\Sts w' M.block):=⟨SS.end_ (B:=B) (w0:=w0) (l:=[(a0,v0),(O,v1),(U,v2),(V,v3),(Z,v4),(a5,v5)]) (m:=[E,I,J,M]) hb h (by simp),SS.end_ (B:=B) (w0:=w0) (l:=[(a0,v0),(O,v1),(U,v2),(V,v3),(Z,v4),(a5,v5)]) (m:=[E,I,J,M]) hb h (by simp),SS.end_ (B:=B) (w0:=w0) (l:=[(a0,v0),(O,v1),(U,v2),(V,v3),(Z,v4),(a5,v5)]) (m:=[E,I,J,M]) hb h (by simp),SS.end_ (B:=B) (w0:=w0) (l:=[(a0,v0),(O,v1),(U,v2),(V,v3),(Z,v4),(a5,v5)]) (m:=[E,I,J,M]) hb h (by simp)⟩
theorem V8 {B:Nat} {w0 w:World} {a0 E I J M O b0 b1 b2 b3:Addr} {v0 v1 v2 v3 v4 v5:Value} (h:Tw B w0 w a0 E I J M O b0 b1 b2 b3 v0 v1 v2 v3 v4 v5) {p0 U V Z:Addr} {u0 u1 u2 u3:Value} (bC:NotInt u0) (gP:B<=p0.block) (cB:p0.block≠a0.block) (cC:p0.block≠E.block) (cD:p0.block≠I.block) (cF:p0.block≠J.block) (cG:p0.block≠M.block) (cI:p0.block≠O.block) (bE:NotInt u1) (gS:B<=U.block) (cM:U.block≠a0.block) (cS:U.block≠E.block) (cT:U.block≠I.block) (cX:U.block≠J.block) (dC:U.block≠M.block) (dE:U.block≠O.block) (bY:NotInt u2) (gU:B<=V.block) (dY:V.block≠a0.block) (eF:V.block≠E.block) (eG:V.block≠I.block) (eP:V.block≠J.block) (eT:V.block≠M.block) (eX:V.block≠O.block) (cA:NotInt u3) (hB:B<=Z.block) (eY:Z.block≠a0.block) (gA:Z.block≠E.block) (gF:Z.block≠I.block) (gI:Z.block≠J.block) (gL:Z.block≠M.block) (gN:Z.block≠O.block):Tw B w0 ((((w.setCell p0 u0).setCell U u1).setCell V u2).setCell Z u3) a0 E I J M O b0 b1 b2 b3 v0 v1 v2 v3 v4 v5:=(SS.put (B:=B) (w0:=w0) (l:=[(a0,v0),(E,v1),(I,v2),(J,v3),(M,v4),(O,v5)]) (m:=[b0,b1,b2,b3]) (SS.put (B:=B) (w0:=w0) (l:=[(a0,v0),(E,v1),(I,v2),(J,v3),(M,v4),(O,v5)]) (m:=[b0,b1,b2,b3]) (SS.put (B:=B) (w0:=w0) (l:=[(a0,v0),(E,v1),(I,v2),(J,v3),(M,v4),(O,v5)]) (m:=[b0,b1,b2,b3]) (SS.put (B:=B) (w0:=w0) (l:=[(a0,v0),(E,v1),(I,v2),(J,v3),(M,v4),(O,v5)]) (m:=[b0,b1,b2,b3]) h p0 u0 bC gP (by simp[*])) U u1 bE gS (by simp[*])) V u2 bY gU (by simp[*])) Z u3 cA hB (by simp[*]))
def V4 (e:Ending) (r:Rat):Prop:=∃g:Int,e=.returned (.int .i64 g)/\(g=0↔r=0)
theorem Iz {x y:Int} (E:y≠0):Rat.divInt x y=0↔x=0:=by
 have h:=Rat.divInt_eq_divInt_iff (n₁:=x) (n₂:=0) E (show(1:Int)≠0 by decide);rw[Ma]at h;rw[h];simp
theorem C7 (x:Int):-1<=Int.sign x/\Int.sign x<=1/\(Int.sign x=0↔x=0):=by
 rcases Int.lt_trichotomy x 0 with h|h|h
 ·rw[Int.sign_eq_neg_one_of_neg h];omega
 ·subst h;decide
 ·rw[Int.sign_eq_one_of_pos h];omega
theorem Li (x y:Int):Int.sign x*Int.sign y=0↔Rat.divInt x y=0:=by
 by_cases hy:y=0
 ·subst hy;simp
 ·rw[Iz hy,Int.mul_eq_zero,(C7 x).2.2,(C7 y).2.2]
  exact⟨λh=>h.resolve_right hy,Or.inl⟩
theorem Ib {a b:Int} (I:-1<=a) (J:a<=1) (M:-1<=b) (O:b<=1):-1<=a*b/\a*b<=1:=by
 have E:a=-1∨a=0∨a=1:=by omega
 rcases E with rfl|rfl|rfl <;> omega
theorem My (s:Bool) (p:Option Addr) (n c:Nat) (x:Int) (t:Bool) (q:Option Addr) (m d:Nat) (y:Int) (w:World) (h1:Zr w s p n c x) (h2:Zr w t q m d y) (hn:n<=4398046511100) (hm:m<=4398046511100):
  Calls prog 97 #[.agg #[.bool s,.slice p n c,.bool t,.slice q m d]] w λe w'=>V4 e (Rat.divInt x y)/\Below w.heap.size w w':=by
 have J:=λE (hb:Below w.heap.size w E)=>Ht s p n c x E (h1.keep hb) (by omega)
 have M:=λE (hb:Below w.heap.size w E)=>Ht t q m d y E (h2.keep hb) (by omega)
 have hz:=Li x y;obtain⟨b1,b2,_⟩:=C7 x;obtain⟨b3,b4,_⟩:=C7 y;have U:=Ib b1 b2 b3 b4;generalize Int.sign x=gx at *;generalize Int.sign y=gy at *;obtain⟨g,hg⟩:∃g,gx*gy=g:=⟨_,rfl⟩
 rw[hg]at hz U;obtain⟨g1,g2⟩:=U;have Z:=Kh J;have h:=Kh M;have HZ:=Kh hz;have cG:IntKind.i64.wrap (gx*gy)=g:=by rw[hg];exact IntWalk.i64_in _ (by omega)
 clear J M hz h1 h2 b1 b2 b3 b4;go_enter func97,ntmps97
 go_upto_region 1 with(fail)
 obtain⟨w0,V,I,O⟩:=bx1 w #[.bool s,.slice p n c,.bool t,.slice q m d] 86;rw[V];have aX:w.heap.size<=w0.heap.size:=O.size;clear V;have M1:True:=trivial;have aD:=Lm (Below.refl _ w0).drew ⟨I.c0,I.c1,I.c2,I.c3,O,aX⟩;clear I
 go_region_held3 (λE=>E.cell? ⟨w.heap.size,0,none⟩=some (.bool s)/\E.cell? ⟨w.heap.size,1,none⟩=some (.slice p n c)/\E.cell? ⟨w.heap.size,2,none⟩=some (.bool t)/\E.cell? ⟨w.heap.size,3,none⟩=some (.slice q m d)/\Below w.heap.size w E/\w.heap.size<=E.heap.size)
  (first|with_reducible exact aD |(refine Lm (by with_reducible assumption) ?_;assumption) |(refine S4_0_put ?_  <;> first|assumption|exact NotInt.bool _|exact NotInt.slice _ _ _ |(dsimp only;omega) |(simp;done)))
  (first
   |(go_at_call 79;clear M1;refine(Z.1 _ (Gc (by with_reducible assumption))).mono ?_;rintro e w2 ⟨rfl,aN⟩)
   |(go_at_call 79;refine(h.1 _ (Gc (by with_reducible assumption))).mono ?_;rintro e w3 ⟨rfl,cF⟩;clear aN))
 go_wp2;go_ret;exact⟨⟨g,by show Ending.returned (Value.int .i64 (IntKind.i64.wrap g))=_;rw[IntWalk.i64_in _ (by omega)],HZ.1⟩,Gc (by assumption)⟩
theorem SS.alloc {B:Nat} {w0 w:World} {l:List (Addr×Value)} (h:SS B w0 w l []) (o:Obj):SS B w0 (w.alloc o) l []:=SS.next ((Below.refl _ _).alloc (nL _) o) h
theorem SS.sizeLe {B:Nat} {w0 w:World} {l:List (Addr×Value)} (h:SS B w0 w l []):B<=w.heap.size:=by
 induction l with
 | nil=>exact h.2
 | cons x l ih=>exact ih h.2
theorem SS.lt {B:Nat} {w0 w:World} {l:List (Addr×Value)} (h:SS B w0 w l []):∀x∈l,x.1.block<w.heap.size:=by
 induction l with
 | nil=>intro x E;cases E
 | cons y l ih=>
  intro x E;rcases List.mem_cons.1 E with rfl|E
  ·exact World.block_lt_of_cell? w x.1 h.1
  ·exact ih h.2 x E
theorem SS.fresh {B:Nat} {w0 w:World} {l:List (Addr×Value)} (h:SS B w0 w l []) (o:Obj) (v u:Value) (M:NotInt v) (J:NotInt u):SS B w0 (((w.alloc o).setCell ⟨w.heap.size,0,none⟩ v).setCell ⟨w.heap.size,1,none⟩ u) l []:=by
 have I:=h.alloc o;have E:∀x∈l,w.heap.size≠x.1.block:=λx O=>by have:=h.lt x O;omega
 exact(I.put ⟨w.heap.size,0,none⟩ v M h.sizeLe E).put ⟨w.heap.size,1,none⟩ u J h.sizeLe E
theorem Qi {B:Nat} {w0 w:World} {a0 E I J M O U V:Addr} {v0 v1 v2 v3 Z v5 v6 v7:Value} (h:Qg B w0 w a0 E I J M O U V v0 v1 v2 v3 Z v5 v6 v7) (o:Obj):(w.alloc o).cell? a0=some v0/\(w.alloc o).cell? E=some v1/\(w.alloc o).cell? I=some v2/\(w.alloc o).cell? J=some v3/\(w.alloc o).cell? M=some Z/\(w.alloc o).cell? O=some v5/\(w.alloc o).cell? U=some v6/\(w.alloc o).cell? V=some v7/\Below B w0 (w.alloc o)/\B<=(w.alloc o).heap.size:=SS.alloc (B:=B) (w0:=w0) (l:=[(a0,v0),(E,v1),(I,v2),(J,v3),(M,Z),(O,v5),(U,v6),(V,v7)]) h o
theorem Qj {B:Nat} {w0 w:World} {a0 E I J M O U V:Addr} {v0 v1 v2 v3 Z v5 v6 v7:Value} (h:Qg B w0 w a0 E I J M O U V v0 v1 v2 v3 Z v5 v6 v7) (o:Obj) (v u:Value) (hv:NotInt v) (hu:NotInt u):(((w.alloc o).setCell ⟨w.heap.size,0,none⟩ v).setCell ⟨w.heap.size,1,none⟩ u).cell? a0=some v0/\(((w.alloc o).setCell ⟨w.heap.size,0,none⟩ v).setCell ⟨w.heap.size,1,none⟩ u).cell? E=some v1/\(((w.alloc o).setCell ⟨w.heap.size,0,none⟩ v).setCell ⟨w.heap.size,1,none⟩ u).cell? I=some v2/\(((w.alloc o).setCell ⟨w.heap.size,0,none⟩ v).setCell ⟨w.heap.size,1,none⟩ u).cell? J=some v3/\(((w.alloc o).setCell ⟨w.heap.size,0,none⟩ v).setCell ⟨w.heap.size,1,none⟩ u).cell? M=some Z/\(((w.alloc o).setCell ⟨w.heap.size,0,none⟩ v).setCell ⟨w.heap.size,1,none⟩ u).cell? O=some v5/\(((w.alloc o).setCell ⟨w.heap.size,0,none⟩ v).setCell ⟨w.heap.size,1,none⟩ u).cell? U=some v6/\(((w.alloc o).setCell ⟨w.heap.size,0,none⟩ v).setCell ⟨w.heap.size,1,none⟩ u).cell? V=some v7/\Below B w0 (((w.alloc o).setCell ⟨w.heap.size,0,none⟩ v).setCell ⟨w.heap.size,1,none⟩ u)/\B<=(((w.alloc o).setCell ⟨w.heap.size,0,none⟩ v).setCell ⟨w.heap.size,1,none⟩ u).heap.size:=SS.fresh (B:=B) (w0:=w0) (l:=[(a0,v0),(E,v1),(I,v2),(J,v3),(M,Z),(O,v5),(U,v6),(V,v7)]) h o v u hv hu
theorem Hs {B:Nat} {w0 w:World} {a0 E I J M O U V:Addr} {v0 v1 v2 v3 Z v5 v6 v7:Value} (h:Qg B w0 w a0 E I J M O U V v0 v1 v2 v3 Z v5 v6 v7):B<=w.heap.size:=SS.sizeLe (B:=B) (w0:=w0) (l:=[(a0,v0),(E,v1),(I,v2),(J,v3),(M,Z),(O,v5),(U,v6),(V,v7)]) h
theorem Ty {B:Nat} {w0 w:World} {a0 I J M O U V Z:Addr} {v0 v1 v2 v3 v4 v5 v6 v7:Value} (h:Qg B w0 w a0 I J M O U V Z v0 v1 v2 v3 v4 v5 v6 v7) {p0 E:Addr} {u0 u1:Value} (bA:NotInt u0) (dY:B<=p0.block) (bC:p0.block≠a0.block) (bE:p0.block≠I.block) (bY:p0.block≠J.block) (cA:p0.block≠M.block) (cB:p0.block≠O.block) (cC:p0.block≠U.block) (cD:p0.block≠V.block) (cF:p0.block≠Z.block) (bB:NotInt u1) (eF:B<=E.block) (cG:E.block≠a0.block) (cI:E.block≠I.block) (cM:E.block≠J.block) (cS:E.block≠M.block) (cT:E.block≠O.block) (cX:E.block≠U.block) (dC:E.block≠V.block) (dE:E.block≠Z.block):((w.setCell p0 u0).setCell E u1).cell? a0=some v0/\((w.setCell p0 u0).setCell E u1).cell? I=some v1/\((w.setCell p0 u0).setCell E u1).cell? J=some v2/\((w.setCell p0 u0).setCell E u1).cell? M=some v3/\((w.setCell p0 u0).setCell E u1).cell? O=some v4/\((w.setCell p0 u0).setCell E u1).cell? U=some v5/\((w.setCell p0 u0).setCell E u1).cell? V=some v6/\((w.setCell p0 u0).setCell E u1).cell? Z=some v7/\Below B w0 ((w.setCell p0 u0).setCell E u1)/\B<=((w.setCell p0 u0).setCell E u1).heap.size:=(SS.put (B:=B) (w0:=w0) (l:=[(a0,v0),(I,v1),(J,v2),(M,v3),(O,v4),(U,v5),(V,v6),(Z,v7)]) (m:=[]) (SS.put (B:=B) (w0:=w0) (l:=[(a0,v0),(I,v1),(J,v2),(M,v3),(O,v4),(U,v5),(V,v6),(Z,v7)]) (m:=[]) h p0 u0 bA dY (by simp[*])) E u1 bB eF (by simp[*]))
theorem Fe {W w':World} {B:Nat} (hB:B<=W.heap.size) (E:Below (W.alloc (.cells #[.bool false,.slice none 0 0] 84)).heap.size (W.alloc (.cells #[.bool false,.slice none 0 0] 84)) w'):
  B<=W.heap.size/\w'.cell? ⟨W.heap.size,0,none⟩=some (.bool false)/\w'.cell? ⟨W.heap.size,1,none⟩=some (.slice none 0 0)/\w'.frozen? ⟨W.heap.size,0,none⟩=false/\w'.frozen? ⟨W.heap.size,1,none⟩=false/\Blk w' W.heap.size 84 #[.bool false,.slice none 0 0]:=by
 have h:=(Blk.new W 84 #[.bool false,.slice none 0 0]).below_ E (by simp);exact⟨hB,h.at_ 0 rfl,h.at_ 1 rfl,h.free_ 0,h.free_ 1,h⟩
theorem Xl {W w':World} {B g:Nat} (hg:W.heap.size=g) (hB:B<=g) (E:Below (W.alloc (.cells #[.bool false,.slice none 0 0] 84)).heap.size (W.alloc (.cells #[.bool false,.slice none 0 0] 84)) w'):
  B<=g/\w'.cell? ⟨g,0,none⟩=some (.bool false)/\w'.cell? ⟨g,1,none⟩=some (.slice none 0 0)/\w'.frozen? ⟨g,0,none⟩=false/\w'.frozen? ⟨g,1,none⟩=false/\Blk w' g 84 #[.bool false,.slice none 0 0]:=by
 subst hg;exact Fe hB E
theorem Ke {w w':World} {B g:Nat} (I:Below w.heap.size w w') (h:B<=g/\w.cell? ⟨g,0,none⟩=some (.bool false)/\w.cell? ⟨g,1,none⟩=some (.slice none 0 0)/\w.frozen? ⟨g,0,none⟩=false/\w.frozen? ⟨g,1,none⟩=false/\Blk w g 84 #[.bool false,.slice none 0 0]):
  B<=g/\w'.cell? ⟨g,0,none⟩=some (.bool false)/\w'.cell? ⟨g,1,none⟩=some (.slice none 0 0)/\w'.frozen? ⟨g,0,none⟩=false/\w'.frozen? ⟨g,1,none⟩=false/\Blk w' g 84 #[.bool false,.slice none 0 0]:=by
 have E:=h.1;have h:=h.2.2.2.2.2.below_ I h.2.2.2.2.2.lt;exact⟨E,h.at_ 0 rfl,h.at_ 1 rfl,h.free_ 0,h.free_ 1,h⟩
theorem Ww (s:Bool) (p:Option Addr) (n c:Nat) (x:Int) (t:Bool) (q:Option Addr) (m d:Nat) (y:Int) (s':Bool) (p':Option Addr) (n' c':Nat) (x':Int) (t':Bool) (q':Option Addr) (m' d':Nat) (y':Int) (w:World) (h1:Zr w s p n c x) (h2:Zr w t q m d y) (h3:Zr w s' p' n' c' x') (h4:Zr w t' q' m' d' y') (hn:n<=1099511627770) (hm:m<=1099511627770) (qC:n'<=1099511627770) (qB:m'<=1099511627770) (hy:y≠0) (hN:y'≠0):
  Calls prog 39 #[.agg #[.bool s,.slice p n c,.bool t,.slice q m d],.agg #[.bool s',.slice p' n' c',.bool t',.slice q' m' d']] w λe w'=>F6 w' e (Rat.divInt x y+Rat.divInt x' y')/\Below w.heap.size w w':=by
 have HV:=Kh (Rat.divInt_add_divInt x x' hy hN);have hJ:=Kh h1;have cG:=Kh h2;have hL:=Kh h3;have cI:=Kh h4;have nD:=(C7 y).2.2;have nQ:=(C7 y').2.2;have mC:=λE (hb:Below w.heap.size w E)=>Ht t q m d y E (h2.keep hb) (by omega)
 have mD:=λE (hb:Below w.heap.size w E)=>Ht t' q' m' d' y' E (h4.keep hb) (by omega)
 generalize Int.sign y=g at *;generalize Int.sign y'=g' at *;have qA:(g==0)=false:=beq_eq_false_iff_ne.2 (λh=>hy (nD.1 h));have pM:(g'==0)=false:=beq_eq_false_iff_ne.2 (λh=>hN (nQ.1 h));have hQ:=Kh mC;have hR:=Kh mD;clear h1 h2 h3 h4 mC mD nD nQ hy hN;go_enter func39,ntmps39
 go_wp2_with fail
 obtain⟨w0,nT,X0,X1,X2,aN⟩:=T9 w #[.bool s,.slice p n c,.bool t,.slice q m d] 86 #[.bool s',.slice p' n' c',.bool t',.slice q' m' d'] 86 #[.bool false,.slice none 0 0,.bool false,.slice none 0 0] 86;rw[nT];have dY:w.heap.size<=w0.heap.size:=aN.size;clear nT;have a2:=X0.at_ 2 rfl;have a3:=X0.at_ 3 rfl;have O:=Kh X0;have J:=Kh X1;have U:=Kh X2;have I:=Kh aN;clear X0 X1 X2 aN;refine(hQ.1 _ I.1).mono ?_;rintro e E ⟨rfl,Z⟩;replace O:=Kh (bk O Z);replace J:=Kh (bk J Z);replace U:=Kh (bk U Z);replace I:=bt I Z;have b2:=J.1.at_ 2 rfl;have b3:=J.1.at_ 3 rfl;clear Z hQ a2 a3 dY;go_wp2_with fail
 refine(hR.1 _ I.1).mono ?_;rintro e w2 ⟨rfl,V⟩;replace O:=Kh (bk O V);replace J:=Kh (bk J V);replace U:=Kh (bk U V);replace I:=bt I V;clear V hR b2 b3;go_upto_region 5 with(fail)
 go_cut [20]from 21 to 28 (λoV wc=>∃b:Bool,oV=.bool b/\(b=true->y=1/\y'=1)/\Below w2.heap.size w2 wc)
 case first=>
  have a2:=O.1.at_ 2 rfl;have a3:=O.1.at_ 3 rfl;have hV:=Kh (Sd t q m d y w2 (cG.1.keep I.1) (by omega));have hW:=Kh (λw3 (hb:Below w2.heap.size w2 w3)=>Sd t' q' m' d' y' w3 ((cI.1.keep I.1).keep hb) (by omega));go_wp2_with fail
  refine hV.1.mono ?_;rintro e w3 ⟨⟨b,rfl,Z⟩,M⟩;have bC:=Kh Z;have bB:=Kh M;have b2:=(bk J M).at_ 2 rfl;have b3:=(bk J M).at_ 3 rfl;clear Z M hV;cases b with
  | true=>
   have cF:=Kh (bC.1 rfl);clear bC;go_wp2_with fail
   refine(hW.1 _ bB.1).mono ?_;rintro e w4 ⟨⟨b',rfl,Z⟩,aD⟩;have hP:=Kh Z;have oB:=bt bB aD;clear Z aD hW;go_wp2;go_meet
   case rel=>exact⟨b',rfl,λh=>⟨cF.1,hP.1 h⟩,oB.1⟩
  | false=>
   go_wp2;go_meet
   case rel=>exact⟨false,rfl,(λh=>by cases h),bB.1⟩
 case rest=>
  obtain⟨b,rfl,nC,cS⟩:=hcut;have bC:=Kh nC;replace O:=Kh (bk O cS);replace J:=Kh (bk J cS);replace U:=Kh (bk U cS);replace I:=bt I cS;clear nC cS;cases b with
  | true=>
   have cF:=Kh (bC.1 rfl);clear bC;have a0:=O.1.at_ 0 rfl;have a1:=O.1.at_ 1 rfl;have b0:=J.1.at_ 0 rfl;have b1:=J.1.at_ 1 rfl;have HA:=Kh (R7 s p n c x s' p' n' c' x' wc (hJ.1.keep I.1) (hL.1.keep I.1) (by omega) (by omega));go_wp2_with fail
   refine HA.1.mono ?_;rintro e w3 ⟨⟨s2,p2,n2,e2,rfl,aK⟩,M⟩;have HZ:=Kh aK;have bB:=bt I M;replace U:=Kh (bk U M);have HO:=Kh (Ge 1 w3 (by omega) (by omega));clear aK M HA a0 a1 b0 b1;go_wp2_with fail
   refine HO.1.mono ?_;rintro e w4 ⟨⟨s3,p3,n3,e3,rfl,cB⟩,aD⟩
   have HQ:=Kh (show Qs w4 s2 p2 n2 e2 s3 p3 n3 e3 (Rat.divInt (x+x') 1)by
    unfold Qs;rw[(Ha (x+x')).1,(Ha (x+x')).2];exact⟨HZ.1.keep aD,cB⟩)
   have HR:=Kh (bk U aD);have HB:=bt bB aD;have HG:=Kh (show Rat.divInt (x+x') 1=Rat.divInt x y+Rat.divInt x' y' by rw[cF.1.1,cF.1.2,Ns]);clear cB aD HO bB HZ I O J U cF;have r0:=HR.1.at_ 0 rfl;have r1:=HR.1.at_ 1 rfl;have r2:=HR.1.at_ 2 rfl;have r3:=HR.1.at_ 3 rfl;have f0:=HR.1.free_ 0;have f1:=HR.1.free_ 1;have f2:=HR.1.free_ 2;have f3:=HR.1.free_ 3;obtain⟨w9,eF⟩:∃w9,(((w4.setCell ⟨w.heap.size+1+1,0,none⟩ (.bool s2)).setCell ⟨w.heap.size+1+1,1,none⟩ (.slice p2 n2 e2)).setCell ⟨w.heap.size+1+1,2,none⟩ (.bool s3)).setCell ⟨w.heap.size+1+1,3,none⟩ (.slice p3 n3 e3)=w9:=⟨_,rfl⟩
   obtain⟨E0,E1,E2,E3,nS⟩:=Cc HR.1 HQ.1 eF;have nB:Below w.heap.size w w9:=by rw[<-eF];exact Au HB.1 (by omega) _ _ _ _
   have oI:=Kh eF;have oD:=Kh (And.intro E0 (And.intro E1 (And.intro E2 E3)));have oG:=Kh nS;have oC:=Kh nB;clear E0 E1 E2 E3 nS nB eF HQ HB HR;go_wp2;try rw[oI.1]
   obtain⟨E0,E1,E2,E3⟩:=oD.1;try simp only[Exit.inBlock,Exit.then]
   refine bodyPost_ret (by simp[results,results39,go_sem,E0,E1,E2,E3];try rfl) rfl ?_;exact⟨⟨s2,p2,n2,e2,s3,p3,n3,e3,rfl,HG.1▸oG.1⟩,oC.1⟩
  | false=>
   clear bC;have X0:=O.1;have X1:=J.1;have aN:=I.1;have dY:w.heap.size<=wc.heap.size:=aN.size;have hS:=Kh (λE (hb:Below w.heap.size w E)=>Gs s p n c x t' q' m' d' y' E (hJ.1.keep hb) (cI.1.keep hb) (by omega) (by omega));have hU:=Kh (λE (hb:Below w.heap.size w E)=>Gs s' p' n' c' x' t q m d y E (hL.1.keep hb) (cG.1.keep hb) (by omega) (by omega));have hX:=Kh (show nd (x*y').natAbs<=2199023255540 by rw[Int.natAbs_mul];have:=Cf x.natAbs y'.natAbs;have:=hJ.1.size;have:=cI.1.size;omega);have hY:=Kh (show nd (x'*y).natAbs<=2199023255540 by rw[Int.natAbs_mul];have:=Cf x'.natAbs y.natAbs;have:=hL.1.size;have:=cG.1.size;omega);have oH:=Kh (show nd (y*y').natAbs<=2199023255540 by rw[Int.natAbs_mul];have:=Cf y.natAbs y'.natAbs;have:=cG.1.size;have:=cI.1.size;omega);have hlt:w.heap.size+1+1<wc.heap.size:=U.1.lt;have oJ:=U;go_upto_region 7 with(fail)
   go_cut [5]from 36 to 46 (λv5 wd=>∃gb s4 p4 n4 e4,v5=.pointer (some ⟨gb,0,none⟩)/\w.heap.size+1+1<gb/\Blk wd gb 84 #[.bool s4,.slice p4 n4 e4]/\Zs wd s4 p4 n4 e4 (x*y'+x'*y)/\Below wc.heap.size wc wd)
   case first=>
    have M1:True:=trivial;have mE:wc.cell? ⟨w.heap.size,0,none⟩=some (.bool s)/\wc.cell? ⟨w.heap.size,1,none⟩=some (.slice p n c)/\wc.cell? ⟨w.heap.size,2,none⟩=some (.bool t)/\wc.cell? ⟨w.heap.size,3,none⟩=some (.slice q m d)/\wc.cell? ⟨w.heap.size+1,0,none⟩=some (.bool s')/\wc.cell? ⟨w.heap.size+1,1,none⟩=some (.slice p' n' c')/\wc.cell? ⟨w.heap.size+1,2,none⟩=some (.bool t')/\wc.cell? ⟨w.heap.size+1,3,none⟩=some (.slice q' m' d')/\Below wc.heap.size wc wc/\wc.heap.size<=wc.heap.size:=⟨X0.at_ 0 rfl,X0.at_ 1 rfl,X0.at_ 2 rfl,X0.at_ 3 rfl,X1.at_ 0 rfl,X1.at_ 1 rfl,X1.at_ 2 rfl,X1.at_ 3 rfl,Below.refl _ _,nL _⟩
    have hM:wc.drew.cell? ⟨w.heap.size,0,none⟩=some (.bool s)/\wc.drew.cell? ⟨w.heap.size,1,none⟩=some (.slice p n c)/\wc.drew.cell? ⟨w.heap.size,2,none⟩=some (.bool t)/\wc.drew.cell? ⟨w.heap.size,3,none⟩=some (.slice q m d)/\wc.drew.cell? ⟨w.heap.size+1,0,none⟩=some (.bool s')/\wc.drew.cell? ⟨w.heap.size+1,1,none⟩=some (.slice p' n' c')/\wc.drew.cell? ⟨w.heap.size+1,2,none⟩=some (.bool t')/\wc.drew.cell? ⟨w.heap.size+1,3,none⟩=some (.slice q' m' d')/\Below wc.heap.size wc wc.drew/\wc.heap.size<=wc.drew.heap.size:=D8 (Below.refl _ wc).drew mE;clear X0 X1
    go_region_held3 (λE=>E.cell? ⟨w.heap.size,0,none⟩=some (.bool s)/\E.cell? ⟨w.heap.size,1,none⟩=some (.slice p n c)/\E.cell? ⟨w.heap.size,2,none⟩=some (.bool t)/\E.cell? ⟨w.heap.size,3,none⟩=some (.slice q m d)/\E.cell? ⟨w.heap.size+1,0,none⟩=some (.bool s')/\E.cell? ⟨w.heap.size+1,1,none⟩=some (.slice p' n' c')/\E.cell? ⟨w.heap.size+1,2,none⟩=some (.bool t')/\E.cell? ⟨w.heap.size+1,3,none⟩=some (.slice q' m' d')/\Below wc.heap.size wc E/\wc.heap.size<=E.heap.size)
     (first|with_reducible exact hM |(refine D8 (by with_reducible assumption) ?_;assumption)|exact Qi (by with_reducible assumption) _|exact D8 (bE.1.alloc bE.1.size _) mE |(refine Ty ?_ ?_ ?_ ?_ ?_ ?_ ?_ ?_ ?_ ?_ ?_ ?_ ?_ ?_ ?_ ?_ ?_ ?_ ?_ ?_ ?_ <;> first|with_reducible assumption|exact NotInt.bool _|exact NotInt.slice _ _ _ |(dsimp only;omega))|exact Qj (by with_reducible assumption) _ _ _ (NotInt.bool _) (NotInt.slice _ _ _))
     (first
      |(go_at_call 84;clear M1;refine(hS.1 _ (I.1.trans ((C3 (by with_reducible assumption)).mono I.1.size))).mono ?_;rintro e w2 ⟨⟨s2,p2,n2,e2,rfl,aK⟩,V⟩;have hG:=Kh aK;have hZ:=Kh (nM (Hs (by with_reducible assumption)) (Below.size V));(try have oM:=Xl (B:=wc.heap.size) (W:=wc.drew) (g:=wc.heap.size) rfl (nL _) V);clear aK)
      |(go_at_call 84;refine(hU.1 _ (I.1.trans ((C3 (by with_reducible assumption)).mono I.1.size))).mono ?_;rintro e w3 ⟨⟨s3,p3,n3,e3,rfl,cB⟩,M⟩;have hH:Zs w3 s2 p2 n2 e2 (x*y'):=(by first|exact hG.1.keep M|exact(hG.1.keep ((Below.refl _ _).alloc (nL _) _)).keep M);have oA:=Kh (λw5 (nA:Below w3.heap.size w3 w5)=>R7 s2 p2 n2 e2 (x*y') s3 p3 n3 e3 (x'*y) w5 (hH.keep nA).raw (cB.keep nA).raw (by rw[<-hH.2.1];have:=hX.1;omega) (by rw[<-cB.2.1];have:=hY.1;omega));have iL:=Kh (nM (Hs (by with_reducible assumption)) (Below.size M));(first|have mB:=Fe (W:=w2) hZ.1 M|have mB:=Ke M oM|skip);clear cB hG hH)
      |(go_at_call 82;refine(oA.1 _ (by first|exact Below.refl _ _|exact(Below.refl _ _).alloc (nL _) _)).mono ?_;rintro e w4 ⟨⟨s4,p4,n4,e4,rfl,nU⟩,aD⟩;have bE:=Kh (Below.trans (C3 (by with_reducible assumption)) (Below.mono aD (Hs (by with_reducible assumption))));have hI:=Kh nU;(first|have cA:=Fe (W:=w3) iL.1 aD|have cA:=Ke aD mB|skip);clear nU))
    all_goals go_wp2
    all_goals go_meet
    all_goals first
     | exact⟨_,s4,p4,n4,e4,rfl,nN hlt bE.1.size,Blk.new w4 _ _,hI.1.keep ((Below.refl _ _).alloc (nL _) _),bE.1.alloc bE.1.size _⟩
     | exact⟨_,s4,p4,n4,e4,rfl,nN hlt cA.1,(Fy cA.2.2.2.2.2 hI.1).1,(Fy cA.2.2.2.2.2 hI.1).2,(bE.1.setCell cA.1 _).setCell cA.1 _⟩
   case rest=>
    obtain⟨gb,s4,p4,n4,e4,rfl,pN,XG,zg,cT⟩:=hcut;clear hS hU;replace X0:=bk O cT;replace X1:=bk J cT;have X2:=bk U cT;replace aN:=I.1.trans (cT.mono I.1.size);replace dY:w.heap.size<=wc.heap.size:=aN.size;have oE:=Kh (λE (hb:Below w.heap.size w E)=>Gs t q m d y t' q' m' d' y' E (cG.1.keep hb) (cI.1.keep hb) (by omega) (by omega));have oK:=Kh zg
    have qD:n4<=2199023255541:=by
     rw[<-zg.2.1];exact Gk _ _ hX.1 hY.1
    have T2:=Sts.of X2 (by intro v hv;simp at hv;rcases hv with rfl|rfl|rfl|rfl <;> first|exact NotInt.bool _|exact NotInt.slice _ _ _);clear O J U oJ I cT zg;go_upto_region 8 with(fail)
    have hM:=Ln (Below.refl _ wc).drew ⟨XG.c0,XG.c1,X0.c2,X0.c3,X1.c2,X1.c3,X2.so 0,X2.free_ 0,T2,X2.so 1,X2.free_ 1,T2,X2.so 2,X2.free_ 2,T2,X2.so 3,X2.free_ 3,T2,aN,dY⟩;clear X0 X1 X2 XG T2
    go_region_held3 (λE=>E.cell? ⟨gb,0,none⟩=some (.bool s4)/\E.cell? ⟨gb,1,none⟩=some (.slice p4 n4 e4)/\E.cell? ⟨w.heap.size,2,none⟩=some (.bool t)/\E.cell? ⟨w.heap.size,3,none⟩=some (.slice q m d)/\E.cell? ⟨w.heap.size+1,2,none⟩=some (.bool t')/\E.cell? ⟨w.heap.size+1,3,none⟩=some (.slice q' m' d')/\E.cell? ⟨w.heap.size+1+1,0,none⟩=some (cellOf E ⟨w.heap.size+1+1,0,none⟩)/\E.frozen? ⟨w.heap.size+1+1,0,none⟩=false/\Sts E (w.heap.size+1+1)/\E.cell? ⟨w.heap.size+1+1,1,none⟩=some (cellOf E ⟨w.heap.size+1+1,1,none⟩)/\E.frozen? ⟨w.heap.size+1+1,1,none⟩=false/\Sts E (w.heap.size+1+1)/\E.cell? ⟨w.heap.size+1+1,2,none⟩=some (cellOf E ⟨w.heap.size+1+1,2,none⟩)/\E.frozen? ⟨w.heap.size+1+1,2,none⟩=false/\Sts E (w.heap.size+1+1)/\E.cell? ⟨w.heap.size+1+1,3,none⟩=some (cellOf E ⟨w.heap.size+1+1,3,none⟩)/\E.frozen? ⟨w.heap.size+1+1,3,none⟩=false/\Sts E (w.heap.size+1+1)/\Below w.heap.size w E/\w.heap.size<=E.heap.size)
     (first|with_reducible exact hM |(refine Ln (by with_reducible assumption) ?_;assumption) |(refine V8 ?_ ?_ ?_ ?_ ?_ ?_ ?_ ?_ ?_ ?_ ?_ ?_ ?_ ?_ ?_ ?_ ?_ ?_ ?_ ?_ ?_ ?_ ?_ ?_ ?_ ?_ ?_ ?_ ?_ ?_ ?_ ?_ ?_ <;> first|assumption|exact NotInt.bool _|exact NotInt.slice _ _ _ |(dsimp only;omega)))
     (first
      |(go_at_call 84;refine(oE.1 _ (Jq (by with_reducible assumption))).mono ?_;rintro e w2 ⟨⟨s2,p2,n2,e2,rfl,aK⟩,V⟩;have oF:=Kh (J1 s4 p4 n4 e4 (x*y'+x'*y) s2 p2 n2 e2 (y*y') w2 (oK.1.keep (by first|exact(Below.refl _ wc).drew.trans V|exact V)).raw aK.raw (by omega) (by rw[<-aK.2.1];have:=oH.1;omega));clear aK)
      |(go_at_call 85;refine oF.1.mono ?_;rintro e w3 ⟨⟨s3,p3,n3,e3,t3,q3,m3,d3,rfl,nR⟩,M⟩;clear V;obtain⟨⟨oP,hT⟩,⟨oQ,_⟩,⟨oR,_⟩,⟨oS,_⟩⟩:=V7 M (by with_reducible assumption);have oT:=Kh (nR.put4 hT (.bool s3) (.slice p3 n3 e3) (.bool t3) (.slice q3 m3 d3) (NotInt.bool _) (NotInt.slice _ _ _) (NotInt.bool _));clear nR hT))
    go_wp2;try simp only[Exit.inBlock,Exit.then]
    refine bodyPost_ret (by simp[results,results39,go_sem,oP,oQ,oR,oS];try rfl) rfl ?_;exact⟨⟨s3,p3,n3,e3,t3,q3,m3,d3,rfl,HV.1▸oT.1⟩,Jq (by assumption)⟩
theorem Z3:(prog.info? 200).map (λi=>(i.zero,i.size,i.bytes))=some (some (.int .u32 0),1,4):=N0
theorem eW (s:Nat):∀u∈[Value.int .u32 (s:Nat)],u.oneCell'=true:=by
 intro u E;rw[List.mem_singleton]at E;subst E;rfl
theorem gQ {u v n:Nat} (J:nd u=n) (M:nd v=n) (h:∀j,j<n->dg u j=dg v j):u=v:=by
 have E:=Bt u;have I:=Bt v;rw[J]at E;rw[M]at I;rw[<-E,<-I];exact Dz h
def BitAt (w:World) (gq M k u v R:Nat):Prop:=∃rq,Row w gq M rq/\(∀l,l<M->2 ^ (min 32 (k - 32*l))∣rq l)/\u=v*vf rq M+R/\R<v*2 ^ k
theorem BitAt.far {w w':World} {I M k u v R:Nat} (h:BitAt w I M k u v R) (O:Below w.heap.size w w'):BitAt w' I M k u v R:=by
 obtain⟨U,E,J⟩:=h;exact⟨U,E.below O E.1.lt,J⟩
def mY (G:Nat) (p:Option Addr) (n:Nat):Prop:=n=0∨∃g o,p=some ⟨g,o,none⟩/\g≠G
theorem Dg.off {w:World} {G:Nat} {p:Option Addr} {c n:Nat} {a:Nat->Nat} (h:Dg w p c n a) (V:mY G p n) (i:Nat) (v:Value):Dg (w.setCell ⟨G,i,none⟩ v) p c n a:=
 ⟨h.cap,h.lt,by
  rcases h.at' with M |⟨g,o,e,hg,O⟩
  ·exact .inl M
  ·rcases V with J |⟨Z,o',E,I⟩
   ·exact .inl J
   ·rw[e]at E
    injection E with E;injection E with e1 e2
    exact .inr ⟨g,o,e,by simpa using hg,λj U=>by
     rw[World.cell?_setCell_far w ⟨G,i,none⟩ ⟨g,o+j,none⟩ v (by show G≠g;rw[e1];exact Ne.symm I)];exact O j U⟩⟩
end Go.Proofs.YtenlbhlllgppmaaGreatDoor
