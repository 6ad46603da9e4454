/- Contract of rational.over. -/
import Derived.Test.YtenlbhlllgppmaaGreatDoorA12
import Derived.Laws.AppendOwnNone
set_option maxRecDepth 100000
set_option maxHeartbeats 8000000
namespace Go.Proofs.YtenlbhlllgppmaaGreatDoor
open Go.RowKit Tryz
def dG (w:World) (A B:Nat) (x y:Int):Prop:=∃s p n c t q m d,Blk w A 84 #[.bool s,.slice p n c]/\Blk w B 84 #[.bool t,.slice q m d]/\Zs w s p n c x/\Zs w t q m d y
theorem Sts.box {w:World} {A:Nat} {s:Bool} {p:Option Addr} {n c:Nat} (h:Blk w A 84 #[.bool s,.slice p n c]):Sts w A:=
 Sts.of h (by intro v I;simp at I;rcases I with rfl|rfl;exact NotInt.bool _;exact NotInt.slice _ _ _)
theorem Ta {w:World} {A B:Nat} {s s' t t':Bool} {p p' q q':Option Addr} {n n' c c' m m' d d':Nat} {x y:Int} (I:A≠B)
  (hA:Blk w A 84 #[.bool s',.slice p' n' c']) (hB:Blk w B 84 #[.bool t',.slice q' m' d']) (hx:Zs w s p n c x) (hy:Zs w t q m d y):
  dG ((((w.setCell ⟨A,0,none⟩ (.bool s)).setCell ⟨A,1,none⟩ (.slice p n c)).setCell ⟨B,0,none⟩ (.bool t)).setCell ⟨B,1,none⟩ (.slice q m d)) A B x y:=by
 have M:=hA.set_ 0 (.bool s);have O:=M.set_ 1 (.slice p n c);have U:=O.far_ (p:=⟨B,0,none⟩) I (.bool t);have V:=U.far_ (p:=⟨B,1,none⟩) I (.slice q m d);have Y:=hB.far_ (p:=⟨A,0,none⟩) (Ne.symm I) (.bool s);have J:=Y.far_ (p:=⟨A,1,none⟩) (Ne.symm I) (.slice p n c);have Z:=J.set_ 0 (.bool t);have h:=Z.set_ 1 (.slice q m d);refine⟨s,p,n,c,t,q,m,d,V,h,?_,?_⟩
 ·exact(hx.put2 (Sts.box hA) 0 1 _ _ (NotInt.bool _)).put2 (Sts.box J) 0 1 _ _ (NotInt.bool _)
 ·exact(hy.put2 (Sts.box hA) 0 1 _ _ (NotInt.bool _)).put2 (Sts.box J) 0 1 _ _ (NotInt.bool _)
theorem Fw {w:World} {A:Nat} {s O:Bool} {p p':Option Addr} {n M c I:Nat} {x:Int}
  (hA:Blk w A 84 #[.bool O,.slice p' M I]) (J:Zs w s p n c x):
  Blk ((w.setCell ⟨A,0,none⟩ (.bool s)).setCell ⟨A,1,none⟩ (.slice p n c)) A 84 #[.bool s,.slice p n c]/\Zs ((w.setCell ⟨A,0,none⟩ (.bool s)).setCell ⟨A,1,none⟩ (.slice p n c)) s p n c x:=
 ⟨(hA.set_ 0 (.bool s)).set_ 1 (.slice p n c),J.put2 (Sts.box hA) 0 1 _ _ (NotInt.bool _)⟩
theorem B9 {w:World} {R:Nat} {s t:Bool} {p q:Option Addr} {n c m d:Nat} {r:Rat} {a b:Bool} {Z b':Option Addr} {i j k l:Nat} (U:Blk w R 86 #[.bool a,.slice Z i j,.bool b,.slice b' k l]) (h:Qs w s p n c t q m d r) {w':World}
  (hw:(((w.setCell ⟨R,0,none⟩ (.bool s)).setCell ⟨R,1,none⟩ (.slice p n c)).setCell ⟨R,2,none⟩ (.bool t)).setCell ⟨R,3,none⟩ (.slice q m d)=w'):
  w'.cell? ⟨R,0,none⟩=some (.bool s)/\w'.cell? ⟨R,1,none⟩=some (.slice p n c)/\w'.cell? ⟨R,2,none⟩=some (.bool t)/\w'.cell? ⟨R,3,none⟩=some (.slice q m d)/\Qs w' s p n c t q m d r:=by
 subst hw;have I:=(((U.set_ 0 (.bool s)).set_ 1 (.slice p n c)).set_ 2 (.bool t)).set_ 3 (.slice q m d);have J:Sts w R:=Sts.of U (by intro v V;simp at V;rcases V with rfl|rfl|rfl|rfl <;> first|exact NotInt.bool _|exact NotInt.slice _ _ _);have M:=J.put ⟨R,0,none⟩ (.bool s) (NotInt.bool _);have O:=M.put ⟨R,1,none⟩ (.slice p n c) (NotInt.slice _ _ _);have Y:=O.put ⟨R,2,none⟩ (.bool t) (NotInt.bool _);exact⟨I.at_ 0 rfl,I.at_ 1 rfl,I.at_ 2 rfl,I.at_ 3 rfl,(((h.1.put J 0 _).put M 1 _).put O 2 _).put Y 3 _,(((h.2.put J 0 _).put M 1 _).put O 2 _).put Y 3 _⟩
theorem As {b w:World} {A D:Nat} (h:Below D b w) (I:D<=A) (v0 v1 v2 v3:Value):Below D b ((((w.setCell ⟨A,0,none⟩ v0).setCell ⟨A,1,none⟩ v1).setCell ⟨A,2,none⟩ v2).setCell ⟨A,3,none⟩ v3):=
 (((h.setCell (p:=⟨A,0,none⟩) I v0).setCell (p:=⟨A,1,none⟩) I v1).setCell (p:=⟨A,2,none⟩) I v2).setCell (p:=⟨A,3,none⟩) I v3
def U9 (wc:World) (A B:Nat) (x y:Int) (K:Nat) (r:Rat):Prop:=0<y/\Rat.divInt x y=r/\nd x.natAbs<=K/\nd y.natAbs<=K/\dG wc A B x y
theorem Ob {w:World} {A B C:Nat} {t:TypeId} {cs:Array Value} (h:Blk w C t cs) (I:C≠A) (J:C≠B) (v0 v1 v2 v3:Value):Blk ((((w.setCell ⟨A,0,none⟩ v0).setCell ⟨A,1,none⟩ v1).setCell ⟨B,0,none⟩ v2).setCell ⟨B,1,none⟩ v3) C t cs:=
 (((h.far_ (p:=⟨A,0,none⟩) I v0).far_ (p:=⟨A,1,none⟩) I v1).far_ (p:=⟨B,0,none⟩) J v2).far_ (p:=⟨B,1,none⟩) J v3
theorem Jo {b w:World} {A B D:Nat} (h:Below D b w) (I:D<=A) (J:D<=B) (v0 v1 v2 v3:Value):Below D b ((((w.setCell ⟨A,0,none⟩ v0).setCell ⟨A,1,none⟩ v1).setCell ⟨B,0,none⟩ v2).setCell ⟨B,1,none⟩ v3):=
 (((h.setCell (p:=⟨A,0,none⟩) I v0).setCell (p:=⟨A,1,none⟩) I v1).setCell (p:=⟨B,0,none⟩) J v2).setCell (p:=⟨B,1,none⟩) J v3
theorem Jx (s:Bool) (p:Option Addr) (n c:Nat) (x:Int) (t:Bool) (q:Option Addr) (m d:Nat) (y:Int) (w:World) (h:Zr w s p n c x) (h':Zr w t q m d y) (hn:n<=4398046511100) (hm:m<=4398046511100):
  Calls prog 85 #[.agg #[.bool s,.slice p n c],.agg #[.bool t,.slice q m d]] w λe w'=>Gr w' e (Rat.divInt x y)/\Below w.heap.size w w':=by
 have oM:=Kh (λw1 (hb:Below w.heap.size w w1)=>Jt s p n c x w1 (h.keep hb) (by omega));have oN:=Kh (λw1 (hb:Below w.heap.size w w1)=>Jt t q m d y w1 (h'.keep hb) (by omega));have hx:=mH h.size hn;have hy:=mH h'.size hm;have HX:=Kh hx;have HY:=Kh hy;clear h h' hx hy;go_enter func85,ntmps85
 go_upto_region 1 with(fail)
 obtain⟨w0,pC,X0,X1,X2,hS⟩:=Rw w #[.bool s,.slice p n c] 84 #[.bool t,.slice q m d] 84 #[.bool false,.slice none 0 0,.bool false,.slice none 0 0] 86;rw[pC];clear pC;go_cut []from 6 to 9 (λwc=>dG wc w.heap.size (w.heap.size+1) x y/\Blk wc (w.heap.size+1+1) 86 #[.bool false,.slice none 0 0,.bool false,.slice none 0 0]/\Below w.heap.size w wc)
 case first=>
  have X0:=X0.drew_;have X1:=X1.drew_;have X2:=X2.drew_;have hS:=hS.drew;have c0:=X0.at_ 0 rfl;have c1:=X0.at_ 1 rfl;have c2:=X1.at_ 0 rfl;have c3:=X1.at_ 1 rfl;have Z:=Kh hS;have oE:=Kh X0;have oF:=Kh X1;have oG:=Kh X2;have M1:True:=trivial;clear X0 X1 X2 hS
  go_region_with (first
   |(go_at_call 134;clear M1;refine(oM.1 _ Z.1).mono ?_;rintro e w2 ⟨⟨s2,p2,n2,e2,rfl,bH⟩,V⟩;have I:=bt Z V;have oI:=Kh (bk oE V);have bA:=Kh (bk oF V);have hL:=Kh (bk oG V);have hP:=Kh bH;have a2:=bA.1.at_ 0 rfl;have a3:=bA.1.at_ 1 rfl;clear bH V oE oF oG Z)
   |(go_at_call 134;refine(oN.1 _ I.1).mono ?_;rintro e w3 ⟨⟨s3,p3,n3,e3,rfl,bY⟩,aN⟩;have gN:=bt I aN;have bB:=Kh (bk oI aN);have bC:=Kh (bk bA aN);have nE:=Kh (bk hL aN);have hQ:=Kh (And.intro (hP.1.keep aN) bY);have b0:=bB.1.at_ 0 rfl;have b1:=bB.1.at_ 1 rfl;have b2:=bC.1.at_ 0 rfl;have b3:=bC.1.at_ 1 rfl;have f0:=bB.1.free_ 0;have f1:=bB.1.free_ 1;have f2:=bC.1.free_ 0;have f3:=bC.1.free_ 1;clear bY aN oI bA hL I hP))
  all_goals go_wp2
  all_goals go_meet
  all_goals exact⟨Ta (by omega) bB.1 bC.1 hQ.1.1 hQ.1.2,Ob nE.1 (by omega) (by omega) _ _ _ _,Jo gN.1 (mG _) (by omega) _ _ _ _⟩
 case rest=>
  obtain⟨⟨s1,p1,n1,c1,t1,q1,m1,d1,XA,XB,zx,zy⟩,XR,hb⟩:=hcut;have nS:nd x.natAbs=n1:=zx.2.1;have nR:nd y.natAbs=m1:=zy.2.1;have nA:n1<=4398046511100:=by rw[<-nS];exact HX.1
  have mZ:m1<=4398046511100:=by rw[<-nR];exact HY.1
  have pB:t1=decide (y<0):=zy.1;have a0:=XA.at_ 0 rfl;have a1:=XA.at_ 1 rfl;have a2:=XB.at_ 0 rfl;have a3:=XB.at_ 1 rfl;have mV:=Kh nS;have hM:=Kh nR;have M:=Kh XA;have O:=Kh XB;have U:=Kh XR;have Z:=Kh hb;have aD:=Kh zx;have aK:=Kh zy;have nG:=Kh pB;clear oM oN X0 X1 X2 hS nS nR XA XB XR hb zx zy pB;go_upto_block 0 with(fail)
  go_cut []from 10 to 29 (λwd=>(∃x' y',U9 wd w.heap.size (w.heap.size+1) x' y' 4398046511100 (Rat.divInt x y))/\Blk wd (w.heap.size+1+1) 86 #[.bool false,.slice none 0 0,.bool false,.slice none 0 0]/\Below w.heap.size w wd)
  case first=>
   by_cases hm0:m1=0
   ·have HG:=Kh (show(0:Rat)=Rat.divInt x y by
     have:y=0:=by have:=Bo (v:=y.natAbs);have:=hM.1;omega
     rw[this,Rat.divInt_zero])
    subst hm0;have HO:=Kh (Gc 1 wc (by omega) (by omega));go_wp2_with fail
    refine HO.1.mono ?_;rintro e w2 ⟨⟨s2,p2,n2,e2,rfl,bH⟩,V⟩;have J:=Kh (bk U V);have HB:=bt Z V;have HQ:=Kh (show Qs w2 false none 0 0 s2 p2 n2 e2 0 from⟨⟨rfl,rfl,Nm.nil _⟩,bH⟩);clear bH V HO U Z M O aD aK a0 a1 a2 a3;have r0:=J.1.at_ 0 rfl;have r1:=J.1.at_ 1 rfl;have r2:=J.1.at_ 2 rfl;have r3:=J.1.at_ 3 rfl;have f0:=J.1.free_ 0;have f1:=J.1.free_ 1;have f2:=J.1.free_ 2;have f3:=J.1.free_ 3;obtain⟨w9,Y⟩:∃w9,(((w2.setCell ⟨w.heap.size+1+1,0,none⟩ (.bool false)).setCell ⟨w.heap.size+1+1,1,none⟩ (.slice none 0 0)).setCell ⟨w.heap.size+1+1,2,none⟩ (.bool s2)).setCell ⟨w.heap.size+1+1,3,none⟩ (.slice p2 n2 e2)=w9:=⟨_,rfl⟩
    obtain⟨E0,E1,E2,E3,bG⟩:=B9 J.1 HQ.1 Y;have bE:Below w.heap.size w w9:=by rw[<-Y];exact As HB.1 (by omega) _ _ _ _
    have eP:=Kh Y;have dX:=Kh (And.intro E0 (And.intro E1 (And.intro E2 E3)));have dY:=Kh bG;have dE:=Kh bE;clear E0 E1 E2 E3 bG bE Y HQ HB J;go_wp2;try rw[eP.1]
    obtain⟨E0,E1,E2,E3⟩:=dX.1;try simp only[Exit.inBlock,Exit.then]
    refine bodyPost_ret (by simp[results,results85,go_sem,E0,E1,E2,E3];try rfl) rfl ?_;exact⟨⟨false,none,0,0,s2,p2,n2,e2,rfl,HG.1▸dY.1⟩,dE.1⟩
   ·have rF:((m1:Int)==0)=false:=beq_eq_false_iff_ne.2 (by omega)
    by_cases hn0:n1=0
    ·have HG:=Kh (show(0:Rat)=Rat.divInt x y by
      have:x=0:=by have:=Bo (v:=x.natAbs);have:=mV.1;omega
      rw[this,Mb])
     subst hn0;have HO:=Kh (Gc 1 wc (by omega) (by omega));go_wp2_with fail
     refine HO.1.mono ?_;rintro e w2 ⟨⟨s2,p2,n2,e2,rfl,bH⟩,V⟩;have J:=Kh (bk U V);have HB:=bt Z V;have HQ:=Kh (show Qs w2 false none 0 0 s2 p2 n2 e2 0 from⟨⟨rfl,rfl,Nm.nil _⟩,bH⟩);clear bH V HO U Z M O aD aK a0 a1 a2 a3;have r0:=J.1.at_ 0 rfl;have r1:=J.1.at_ 1 rfl;have r2:=J.1.at_ 2 rfl;have r3:=J.1.at_ 3 rfl;have f0:=J.1.free_ 0;have f1:=J.1.free_ 1;have f2:=J.1.free_ 2;have f3:=J.1.free_ 3;obtain⟨w9,Y⟩:∃w9,(((w2.setCell ⟨w.heap.size+1+1,0,none⟩ (.bool false)).setCell ⟨w.heap.size+1+1,1,none⟩ (.slice none 0 0)).setCell ⟨w.heap.size+1+1,2,none⟩ (.bool s2)).setCell ⟨w.heap.size+1+1,3,none⟩ (.slice p2 n2 e2)=w9:=⟨_,rfl⟩
     obtain⟨E0,E1,E2,E3,bG⟩:=B9 J.1 HQ.1 Y;have bE:Below w.heap.size w w9:=by rw[<-Y];exact As HB.1 (by omega) _ _ _ _
     have eP:=Kh Y;have dX:=Kh (And.intro E0 (And.intro E1 (And.intro E2 E3)));have dY:=Kh bG;have dE:=Kh bE;clear E0 E1 E2 E3 bG bE Y HQ HB J;go_wp2;try rw[eP.1]
     obtain⟨E0,E1,E2,E3⟩:=dX.1;try simp only[Exit.inBlock,Exit.then]
     refine bodyPost_ret (by simp[results,results85,go_sem,E0,E1,E2,E3];try rfl) rfl ?_;exact⟨⟨false,none,0,0,s2,p2,n2,e2,rfl,HG.1▸dY.1⟩,dE.1⟩
    ·have rG:((n1:Int)==0)=false:=beq_eq_false_iff_ne.2 (by omega)
     have pF:y≠0:=λh=>hm0 (by rw[<-hM.1,h];rfl)
     have cG:=Kh pF;clear pF;cases t1 with
     | false=>
      have pI:0<y:=by have h1:=nG.1;have h2:=cG.1;simp at h1;omega
      have HF:=Kh (show U9 wc w.heap.size (w.heap.size+1) x y 4398046511100 (Rat.divInt x y)from⟨pI,rfl,HX.1,HY.1,_,_,_,_,_,_,_,_,M.1,O.1,aD.1,aK.1⟩);clear pI;go_wp2;go_meet
      case rel=>exact⟨⟨x,y,HF.1⟩,U.1,Z.1⟩
     | true=>
      have pH:0 < -y:=by have h1:=nG.1;simp at h1;omega
      have qE:=Kh pH;have qC:=Kh (λw1 (hb:Below wc.heap.size wc w1)=>Vo s1 p1 n1 c1 x w1 (aD.1.keep hb).raw (by omega));have qD:=Kh (λw1 (hb:Below wc.heap.size wc w1)=>Vo true q1 m1 d1 y w1 (aK.1.keep hb).raw (by omega));have oH:=Kh (Below.refl wc.heap.size wc).drew;have M1:True:=trivial;clear pH;go_upto_region 5 with(fail)
      go_region_with (first
       |(go_at_call 98;clear M1;refine(qC.1 _ oH.1).mono ?_;rintro e w2 ⟨⟨s2,p2,n2,e2,rfl,bH⟩,V⟩;have I:=bt oH V;have hP:=Kh bH;have bA:=Kh (O.1.below_ I.1 O.1.lt);have rA:=bA.1.at_ 0 rfl;have rB:=bA.1.at_ 1 rfl;clear bH V bA)
       |(go_at_call 98;refine(qD.1 _ I.1).mono ?_;rintro e w3 ⟨⟨s3,p3,n3,e3,rfl,bY⟩,aN⟩;have gN:=bt I aN;have bB:=Kh (M.1.below_ gN.1 M.1.lt);have bC:=Kh (O.1.below_ gN.1 O.1.lt);have nE:=Kh (U.1.below_ gN.1 U.1.lt);have hQ:=Kh (And.intro (hP.1.keep aN) bY);have b0:=bB.1.at_ 0 rfl;have b1:=bB.1.at_ 1 rfl;have b2:=bC.1.at_ 0 rfl;have b3:=bC.1.at_ 1 rfl;have f0:=bB.1.free_ 0;have f1:=bB.1.free_ 1;have f2:=bC.1.free_ 0;have f3:=bC.1.free_ 1;clear bY aN I hP))
      all_goals go_wp2
      all_goals go_meet
      all_goals exact⟨⟨-x,-y,qE.1,Xn x y,by rw[Int.natAbs_neg];exact HX.1,by rw[Int.natAbs_neg];exact HY.1,Ta (by omega) bB.1 bC.1 hQ.1.1 hQ.1.2⟩,Ob nE.1 (by omega) (by omega) _ _ _ _,Jo (Z.1.trans (gN.1.mono Z.1.size)) (mG _) (by omega) _ _ _ _⟩
  case rest=>
   clear mV hM M O U Z aD aK nG HX HY a0 a1 a2 a3 nA mZ n1 m1 s1 t1 p1 q1 c1 d1;obtain⟨⟨x',y',hy,hr,pD,pG,s1,p1,n1,c1,t1,q1,m1,d1,XA,XB,zx,zy⟩,XR,hb⟩:=hcut;have a0:=XA.at_ 0 rfl;have a1:=XA.at_ 1 rfl;have a2:=XB.at_ 0 rfl;have a3:=XB.at_ 1 rfl;have nA:n1<=4398046511100:=by rw[<-zx.2.1];exact pD
   have mZ:m1<=4398046511100:=by rw[<-zy.2.1];exact pG
   have HO:=Kh (R6 t1 q1 m1 d1 y' wc zy.raw (by omega));have aD:=Kh zx;have aK:=Kh zy;have M:=Kh XA;have O:=Kh XB;have U:=Kh XR;have Z:=Kh hb;have cG:=Kh hy;have hO:=Kh hr;clear hy hr pD pG XA XB zx zy XR hb;go_wp2_with fail
   refine HO.1.mono ?_;rintro e w2 ⟨⟨b,rfl,hT⟩,V⟩;have I:=Kh V;have cF:=Kh hT;clear V HO hT;have b0:=(M.1.below_ I.1 M.1.lt).at_ 0 rfl;have b1:=(M.1.below_ I.1 M.1.lt).at_ 1 rfl;have b2:=(O.1.below_ I.1 O.1.lt).at_ 0 rfl;have b3:=(O.1.below_ I.1 O.1.lt).at_ 1 rfl;clear a0 a1 a2 a3;cases b with
   | true=>
    have HG:=Kh (show Rat.divInt x' 1=Rat.divInt x y by rw[<-hO.1,cF.1 rfl])
    have HQ:=Kh (show Qs w2 s1 p1 n1 c1 t1 q1 m1 d1 (Rat.divInt x' 1)by
     have h1:=aD.1.keep I.1;have h2:=aK.1.keep I.1;rw[cF.1 rfl]at h2;unfold Qs;rw[(Hc x').1,(Hc x').2];exact⟨h1,h2⟩)
    have J:=Kh (U.1.below_ I.1 U.1.lt);have HB:=Kh (Z.1.trans (I.1.mono Z.1.size));clear cF hO cG aD aK M O U Z I;have r0:=J.1.at_ 0 rfl;have r1:=J.1.at_ 1 rfl;have r2:=J.1.at_ 2 rfl;have r3:=J.1.at_ 3 rfl;have f0:=J.1.free_ 0;have f1:=J.1.free_ 1;have f2:=J.1.free_ 2;have f3:=J.1.free_ 3;obtain⟨w9,Y⟩:∃w9,(((w2.setCell ⟨w.heap.size+1+1,0,none⟩ (.bool s1)).setCell ⟨w.heap.size+1+1,1,none⟩ (.slice p1 n1 c1)).setCell ⟨w.heap.size+1+1,2,none⟩ (.bool t1)).setCell ⟨w.heap.size+1+1,3,none⟩ (.slice q1 m1 d1)=w9:=⟨_,rfl⟩
    obtain⟨E0,E1,E2,E3,bG⟩:=B9 J.1 HQ.1 Y;have bE:Below w.heap.size w w9:=by rw[<-Y];exact As HB.1 (by omega) _ _ _ _
    have eP:=Kh Y;have dX:=Kh (And.intro E0 (And.intro E1 (And.intro E2 E3)));have dY:=Kh bG;have dE:=Kh bE;clear E0 E1 E2 E3 bG bE Y HQ HB J;go_wp2;try rw[eP.1]
    obtain⟨E0,E1,E2,E3⟩:=dX.1;try simp only[Exit.inBlock,Exit.then]
    refine bodyPost_ret (by simp[results,results85,go_sem,E0,E1,E2,E3];try rfl) rfl ?_;exact⟨⟨s1,p1,n1,c1,t1,q1,m1,d1,rfl,HG.1▸dY.1⟩,dE.1⟩
   | false=>
    have oL:=Kh (gC s1 p1 n1 c1 x' t1 q1 m1 d1 y' w2 (aD.1.keep I.1).raw (aK.1.keep I.1).raw (by omega) (by omega));clear cF;go_wp2_with fail
    refine oL.1.mono ?_;rintro e w3 ⟨⟨s3,p3,n3,e3,rfl,bY⟩,aN⟩;obtain⟨wg,qK⟩:∃wg,w3.alloc (.cells #[.bool s3,.slice p3 n3 e3] 84)=wg:=⟨_,rfl⟩
    obtain⟨XG,hU⟩:=Gs w3 #[.bool s3,.slice p3 n3 e3] 84;rw[qK]at XG hU;have gL:Below wc.heap.size wc w3:=I.1.trans (aN.mono I.1.size);have pA:Below wc.heap.size wc wg:=gL.trans (hU.mono gL.size)
    have rD:n3<=n1+m1:=by
     have h1:=bY.2.1;rw[Int.natAbs_natCast]at h1;rw[<-h1];by_cases hx0:x'.natAbs=0
     ·have e:Int.gcd x' y'=y'.natAbs:=by show Nat.gcd x'.natAbs y'.natAbs=_;rw[hx0,Nat.gcd_zero_left]
      rw[e];have:=aK.1.2.1;omega
     ·have e:=Bm (Nat.gcd_le_left y'.natAbs (show 0<x'.natAbs by omega))
      have:=aD.1.2.1;exact mH e (by omega)
    have nQ:w3.heap.size≠w.heap.size/\w3.heap.size≠w.heap.size+1/\w3.heap.size≠w.heap.size+1+1:=by
     have h1:=M.1.lt;have h2:=O.1.lt;have h3:=U.1.lt;have h4:=gL.size;omega
    obtain⟨gb,qJ⟩:∃gb,w3.heap.size=gb:=⟨_,rfl⟩
    rw[qJ]at XG nQ;have eV:=Kh XG;have nF:=Kh nQ;have gS:=Kh (bY.keep hU);have HD:=Kh pA;have g0:=XG.at_ 0 rfl;have g1:=XG.at_ 1 rfl;have HO:=Kh (R6 s3 p3 n3 e3 _ wg (bY.keep hU).raw (by omega));clear bY aN oL gL pA hU XG nQ b0 b1 b2 b3;go_wp2_with fail
    refine HO.1.mono ?_;rintro e w4 ⟨⟨b,rfl,hT⟩,mM⟩;have aX:Below wc.heap.size wc w4:=HD.1.trans (mM.mono HD.1.size);have cF:=Kh hT;replace HD:=Kh aX;replace M:=Kh (bk M aX);replace O:=Kh (bk O aX);replace U:=Kh (bk U aX);replace eV:=Kh (bk eV mM);replace aD:=Kh (aD.1.keep aX);replace aK:=Kh (aK.1.keep aX);replace gS:=Kh (gS.1.keep mM);have hJ:=bt Z aX;clear hT mM aX HO Z I g0 g1 HD;go_upto_if 40 with(fail)
    go_cut []from 41 to 52 (λwf=>(∃s' p' n' c' t' q' m' d',Blk wf w.heap.size 84 #[.bool s',.slice p' n' c']/\Blk wf (w.heap.size+1) 84 #[.bool t',.slice q' m' d']/\Qs wf s' p' n' c' t' q' m' d' (Rat.divInt x y))/\Blk wf (w.heap.size+1+1) 86 #[.bool false,.slice none 0 0,.bool false,.slice none 0 0]/\Below w.heap.size w wf)
    case first=>
     cases b with
     | true=>
      have HQ:=Kh (show Qs w4 s1 p1 n1 c1 t1 q1 m1 d1 (Rat.divInt x y)by
       have h1:=Hb (n:=x') cG.1;have h2:=Ha (n:=x') cG.1;rw[cF.1 rfl,Int.ediv_one,hO.1]at h1 h2;unfold Qs;rw[h1,h2];exact⟨aD.1,aK.1⟩)
      clear cF;go_wp2;go_meet
      case rel=>exact⟨⟨_,_,_,_,_,_,_,_,M.1,O.1,HQ.1⟩,U.1,hJ.1⟩
     | false=>
      have nP:((Int.gcd x' y':Nat):Int)≠0:=by
       have h1:=Int.gcd_pos_iff (a:=x') (b:=y');have h2:=cG.1;have h3:=h1.2 (Or.inr (by omega));omega
      have bA:=Kh (λw5 (hb:Below w4.heap.size w4 w5)=>R0 s1 p1 n1 c1 x' s3 p3 n3 e3 _ w5 (aD.1.keep hb).raw (gS.1.keep hb).raw (by omega) (by omega) nP (Int.emod_eq_zero_of_dvd (Int.gcd_dvd_left ..)));have hL:=Kh (λw5 (h1:Zr w5 t1 q1 m1 d1 y') (h2:Zr w5 s3 p3 n3 e3 (Int.gcd x' y':Nat))=>R0 t1 q1 m1 d1 y' s3 p3 n3 e3 _ w5 h1 h2 (by omega) (by omega) nP (Int.emod_eq_zero_of_dvd (Int.gcd_dvd_right ..)));have a0:=M.1.at_ 0 rfl;have a1:=M.1.at_ 1 rfl;have g0:=eV.1.at_ 0 rfl;have g1:=eV.1.at_ 1 rfl;clear nP cF;go_wp2_with fail
      refine(bA.1 w4 (Below.refl _ _)).mono ?_;rintro e w5 ⟨⟨s5,p5,n5,e5,rfl,pJ⟩,cY⟩;have YA:=bk M cY;have YB:=bk O cY;have YR:=bk U cY;have YG:=bk eV cY;obtain⟨w6,nT⟩:∃w6,(w5.setCell ⟨w.heap.size,0,none⟩ (.bool s5)).setCell ⟨w.heap.size,1,none⟩ (.slice p5 n5 e5)=w6:=⟨_,rfl⟩
      obtain⟨ZA,z5⟩:=Fw YA pJ;have st:=Sts.box YA;have ZB:=(YB.far_ (p:=⟨w.heap.size,0,none⟩) (by show w.heap.size+1≠w.heap.size;omega) (.bool s5)).far_ (p:=⟨w.heap.size,1,none⟩) (by show w.heap.size+1≠w.heap.size;omega) (.slice p5 n5 e5);have ZR:=(YR.far_ (p:=⟨w.heap.size,0,none⟩) (by show w.heap.size+1+1≠w.heap.size;omega) (.bool s5)).far_ (p:=⟨w.heap.size,1,none⟩) (by show w.heap.size+1+1≠w.heap.size;omega) (.slice p5 n5 e5);have ZG:=(YG.far_ (p:=⟨w.heap.size,0,none⟩) nF.1.1 (.bool s5)).far_ (p:=⟨w.heap.size,1,none⟩) nF.1.1 (.slice p5 n5 e5);have zy:=(aK.1.keep cY).put2 st 0 1 (.bool s5) (.slice p5 n5 e5) (NotInt.bool _);have zg:=(gS.1.keep cY).put2 st 0 1 (.bool s5) (.slice p5 n5 e5) (NotInt.bool _);have nO:Below w.heap.size w ((w5.setCell ⟨w.heap.size,0,none⟩ (.bool s5)).setCell ⟨w.heap.size,1,none⟩ (.slice p5 n5 e5)):=((hJ.1.trans (cY.mono hJ.1.size)).setCell (mG _) _).setCell (mG _) _;rw[nT]at ZA ZB ZR ZG zy zg nO z5;have a0:=YA.at_ 0 rfl;have a1:=YA.at_ 1 rfl;have f0:=YA.free_ 0;have f1:=YA.free_ 1;have b2:=ZB.at_ 0 rfl;have b3:=ZB.at_ 1 rfl;have g0:=ZG.at_ 0 rfl;have g1:=ZG.at_ 1 rfl;have oP:=Kh ZA;have oQ:=Kh ZB;have oR:=Kh ZR;have oO:=Kh z5;have oJ:=Kh (hL.1 w6 zy.raw zg.raw);have nD:=Kh nO;clear cY pJ YA YB YR YG ZA ZB ZR ZG z5 zy zg nO st bA hL hJ M O U eV aD aK gS;go_wp2_with fail
      try rw[nT]
      refine oJ.1.mono ?_;rintro e w7 ⟨⟨s7,p7,n7,e7,rfl,pK⟩,hB⟩;have YA:=bk oP hB;have YB:=bk oQ hB;have YR:=bk oR hB;obtain⟨ZB,z7⟩:=Fw YB pK;have ZA:=(YA.far_ (p:=⟨w.heap.size+1,0,none⟩) (by show w.heap.size≠w.heap.size+1;omega) (.bool s7)).far_ (p:=⟨w.heap.size+1,1,none⟩) (by show w.heap.size≠w.heap.size+1;omega) (.slice p7 n7 e7);have ZR:=(YR.far_ (p:=⟨w.heap.size+1,0,none⟩) (by show w.heap.size+1+1≠w.heap.size+1;omega) (.bool s7)).far_ (p:=⟨w.heap.size+1,1,none⟩) (by show w.heap.size+1+1≠w.heap.size+1;omega) (.slice p7 n7 e7);have z5:=(oO.1.keep hB).put2 (Sts.box YB) 0 1 (.bool s7) (.slice p7 n7 e7) (NotInt.bool _);have oZ:Below w.heap.size w ((w7.setCell ⟨w.heap.size+1,0,none⟩ (.bool s7)).setCell ⟨w.heap.size+1,1,none⟩ (.slice p7 n7 e7)):=((nD.1.trans (hB.mono nD.1.size)).setCell (by show w.heap.size<=w.heap.size+1;omega) _).setCell (by show w.heap.size<=w.heap.size+1;omega) _;have c0:=YB.at_ 0 rfl;have c1:=YB.at_ 1 rfl;have f2:=YB.free_ 0;have f3:=YB.free_ 1
      have HF:=Kh (show(∃s' p' n' c' t' q' m' d',Blk ((w7.setCell ⟨w.heap.size+1,0,none⟩ (.bool s7)).setCell ⟨w.heap.size+1,1,none⟩ (.slice p7 n7 e7)) w.heap.size 84 #[.bool s',.slice p' n' c']/\Blk ((w7.setCell ⟨w.heap.size+1,0,none⟩ (.bool s7)).setCell ⟨w.heap.size+1,1,none⟩ (.slice p7 n7 e7)) (w.heap.size+1) 84 #[.bool t',.slice q' m' d']/\Qs ((w7.setCell ⟨w.heap.size+1,0,none⟩ (.bool s7)).setCell ⟨w.heap.size+1,1,none⟩ (.slice p7 n7 e7)) s' p' n' c' t' q' m' d' (Rat.divInt x y))by
       refine⟨_,_,_,_,_,_,_,_,ZA,ZB,?_⟩;have h1:=Hb (n:=x') cG.1;have h2:=Ha (n:=x') cG.1;rw[hO.1]at h1 h2;unfold Qs;rw[h1,h2];exact⟨z5,z7⟩)
      have oS:=Kh ZR;have qA:=Kh oZ;clear hB pK YA YB YR ZA ZB ZR z5 z7 oZ oJ nD oP oQ oR oO a0 a1 f0 f1 b2 b3 g0 g1 nT;go_wp2;go_meet
      case rel=>exact⟨HF.1,oS.1,qA.1⟩
    case rest=>
     clear M O U eV aD aK gS nF hJ cF hO cG;obtain⟨⟨s5,p5,n5,e5,t5,q5,m5,d5,XA,XB,hq⟩,XR,hb⟩:=hcut;have a0:=XA.at_ 0 rfl;have a1:=XA.at_ 1 rfl;have a2:=XB.at_ 0 rfl;have a3:=XB.at_ 1 rfl;have HQ:=Kh hq;have J:=Kh XR;have HB:=Kh hb;clear XA XB XR hq hb;have r0:=J.1.at_ 0 rfl;have r1:=J.1.at_ 1 rfl;have r2:=J.1.at_ 2 rfl;have r3:=J.1.at_ 3 rfl;have f0:=J.1.free_ 0;have f1:=J.1.free_ 1;have f2:=J.1.free_ 2;have f3:=J.1.free_ 3;obtain⟨w9,Y⟩:∃w9,(((wc.setCell ⟨w.heap.size+1+1,0,none⟩ (.bool s5)).setCell ⟨w.heap.size+1+1,1,none⟩ (.slice p5 n5 e5)).setCell ⟨w.heap.size+1+1,2,none⟩ (.bool t5)).setCell ⟨w.heap.size+1+1,3,none⟩ (.slice q5 m5 d5)=w9:=⟨_,rfl⟩
     obtain⟨E0,E1,E2,E3,bG⟩:=B9 J.1 HQ.1 Y;have bE:Below w.heap.size w w9:=by rw[<-Y];exact As HB.1 (by omega) _ _ _ _
     have eP:=Kh Y;have dX:=Kh (And.intro E0 (And.intro E1 (And.intro E2 E3)));have dY:=Kh bG;have dE:=Kh bE;clear E0 E1 E2 E3 bG bE Y HQ HB J;go_wp2;try rw[eP.1]
     obtain⟨E0,E1,E2,E3⟩:=dX.1;try simp only[Exit.inBlock,Exit.then]
     refine bodyPost_ret (by simp[results,results85,go_sem,E0,E1,E2,E3];try rfl) rfl ?_;exact⟨⟨s5,p5,n5,e5,t5,q5,m5,d5,rfl,dY.1⟩,dE.1⟩
theorem Qs.put4 {w:World} {R:Nat} (I:Sts w R) {s t:Bool} {p q:Option Addr} {n c m d:Nat} {r:Rat} (h:Qs w s p n c t q m d r) (v0 v1 v2 v3:Value) (U:NotInt v0) (V:NotInt v1) (Y:NotInt v2):
  Qs ((((w.setCell ⟨R,0,none⟩ v0).setCell ⟨R,1,none⟩ v1).setCell ⟨R,2,none⟩ v2).setCell ⟨R,3,none⟩ v3) s p n c t q m d r:=by
 have J:=I.put ⟨R,0,none⟩ v0 U;have M:=J.put ⟨R,1,none⟩ v1 V;have O:=M.put ⟨R,2,none⟩ v2 Y;exact⟨(((h.1.put I 0 _).put J 1 _).put M 2 _).put O 3 _,(((h.2.put I 0 _).put J 1 _).put M 2 _).put O 3 _⟩
theorem Lu (s:Bool) (p:Option Addr) (n c:Nat) (x:Int) (t:Bool) (q:Option Addr) (m d:Nat) (y:Int) (w:World) (h:Zr w s p n c x) (h':Zr w t q m d y) (hn:n<=4398046511100) (hm:m<=4398046511100):
  Calls prog 80 #[.agg #[.bool s,.slice p n c,.bool t,.slice q m d]] w λe w'=>Gr w' e (Rat.divInt x y)/\Below w.heap.size w w':=by
 have HC:=Kh (λw1 (hb:Below w.heap.size w w1)=>Jx s p n c x t q m d y w1 (h.keep hb) (h'.keep hb) hn hm);clear h h';go_enter func80,ntmps80
 go_wp2_with fail
 obtain⟨w0,aK,X0,X1,V⟩:=bx2 w #[.bool s,.slice p n c,.bool t,.slice q m d] 86 #[.bool false,.slice none 0 0,.bool false,.slice none 0 0] 86;rw[aK];have U:=Kh X1;have M:=Kh V;clear X0 X1 V aK;refine(HC.1 _ M.1).mono ?_;rintro e w2 ⟨⟨s2,p2,n2,e2,t2,q2,m2,d2,rfl,Z⟩,O⟩;have HQ:=Kh Z;have I:=Kh (bk U O);have HB:=bt M O;clear Z O U M HC;have r0:=I.1.at_ 0 rfl;have r1:=I.1.at_ 1 rfl;have r2:=I.1.at_ 2 rfl;have r3:=I.1.at_ 3 rfl;have f0:=I.1.free_ 0;have f1:=I.1.free_ 1;have f2:=I.1.free_ 2;have f3:=I.1.free_ 3;obtain⟨w9,J⟩:∃w9,(((w2.setCell ⟨w.heap.size+1,0,none⟩ (.bool s2)).setCell ⟨w.heap.size+1,1,none⟩ (.slice p2 n2 e2)).setCell ⟨w.heap.size+1,2,none⟩ (.bool t2)).setCell ⟨w.heap.size+1,3,none⟩ (.slice q2 m2 d2)=w9:=⟨_,rfl⟩
 obtain⟨E0,E1,E2,E3,aD⟩:=B9 I.1 HQ.1 J;have Y:Below w.heap.size w w9:=by rw[<-J];exact As HB.1 (by omega) _ _ _ _
 have bH:=Kh J;have bE:=Kh (And.intro E0 (And.intro E1 (And.intro E2 E3)));have bG:=Kh aD;have bC:=Kh Y;clear E0 E1 E2 E3 aD Y J HQ HB I;go_wp2;try rw[bH.1]
 obtain⟨E0,E1,E2,E3⟩:=bE.1;try simp only[Exit.inBlock,Exit.then]
 refine bodyPost_ret (by simp[results,results80,go_sem,E0,E1,E2,E3];try rfl) rfl ?_;exact⟨⟨s2,p2,n2,e2,t2,q2,m2,d2,rfl,bG.1⟩,bC.1⟩
theorem Ey (z:Int) (w:World) (h1:-4611686018427387904<=z) (h2:z<=4611686018427387904):
  Calls prog 49 #[.int .i64 z] w λe w'=>Gr w' e (z:Rat)/\Below w.heap.size w w':=by
 have HC:=Kh (λw1=>Gc z w1 h1 h2);have HO:=Kh (λw1=>Gc 1 w1 (by omega) (by omega));clear h1 h2;go_enter func49,ntmps49
 go_wp2_with fail
 obtain⟨w0,aN,X0,h⟩:=bx1 w #[.bool false,.slice none 0 0,.bool false,.slice none 0 0] 86;rw[aN];have J:=Kh X0;have V:=Kh h;clear X0 h aN;refine(HC.1 _).mono ?_;rintro e w1 ⟨⟨s2,p2,n2,e2,rfl,aX⟩,U⟩;have Z:=Kh aX;have Y:=bt V U;replace J:=Kh (bk J U);clear aX U HC;go_wp2_with fail
 refine(HO.1 _).mono ?_;rintro e w2 ⟨⟨t2,q2,m2,d2,rfl,bA⟩,M⟩;have HQ:=Kh (show Qs w2 s2 p2 n2 e2 t2 q2 m2 d2 (z:Rat)from⟨Z.1.keep M,bA⟩);have I:=Kh (bk J M);have HB:=bt Y M;clear bA M J Y Z HO V;have r0:=I.1.at_ 0 rfl;have r1:=I.1.at_ 1 rfl;have r2:=I.1.at_ 2 rfl;have r3:=I.1.at_ 3 rfl;have f0:=I.1.free_ 0;have f1:=I.1.free_ 1;have f2:=I.1.free_ 2;have f3:=I.1.free_ 3;obtain⟨w9,O⟩:∃w9,(((w2.setCell ⟨w.heap.size,0,none⟩ (.bool s2)).setCell ⟨w.heap.size,1,none⟩ (.slice p2 n2 e2)).setCell ⟨w.heap.size,2,none⟩ (.bool t2)).setCell ⟨w.heap.size,3,none⟩ (.slice q2 m2 d2)=w9:=⟨_,rfl⟩
 obtain⟨E0,E1,E2,E3,aK⟩:=B9 I.1 HQ.1 O;have aD:Below w.heap.size w w9:=by rw[<-O];exact As HB.1 (by omega) _ _ _ _
 have cC:=Kh O;have cA:=Kh (And.intro E0 (And.intro E1 (And.intro E2 E3)));have cB:=Kh aK;have bY:=Kh aD;clear E0 E1 E2 E3 aK aD O HQ HB I;go_wp2;try rw[cC.1]
 obtain⟨E0,E1,E2,E3⟩:=cA.1;try simp only[Exit.inBlock,Exit.then]
 refine bodyPost_ret (by simp[results,results49,go_sem,E0,E1,E2,E3];try rfl) rfl ?_;exact⟨⟨s2,p2,n2,e2,t2,q2,m2,d2,rfl,cB.1⟩,bY.1⟩
theorem eB (s:Bool) (p:Option Addr) (n c:Nat) (x:Int) (t:Bool) (q:Option Addr) (m d:Nat) (y:Int) (s':Bool) (p':Option Addr) (Z c':Nat) (U:Int) (t':Bool) (q':Option Addr) (Y d':Nat) (V:Int) (w:World) (h1:Zr w s p n c x) (h2:Zr w t q m d y) (h3:Zr w s' p' Z c' U) (h4:Zr w t' q' Y d' V) (hn:n<=2199023255500) (hm:m<=2199023255500) (hP:Z<=2199023255500) (hO:Y<=2199023255500):
  Calls prog 44 #[.agg #[.bool s,.slice p n c,.bool t,.slice q m d],.agg #[.bool s',.slice p' Z c',.bool t',.slice q' Y d']] w λe w'=>Gr w' e (Rat.divInt x y*Rat.divInt U V)/\Below w.heap.size w w':=by
 have HV:=Kh (Rat.divInt_mul_divInt x U (d₁:=y) (d₂:=V));have cG:=Kh (show nd (x*U).natAbs<=4398046511100 by rw[Int.natAbs_mul];have:=Cd x.natAbs U.natAbs;have:=h1.size;have:=h3.size;omega);have cT:=Kh (show nd (y*V).natAbs<=4398046511100 by rw[Int.natAbs_mul];have:=Cd y.natAbs V.natAbs;have:=h2.size;have:=h4.size;omega);have cC:=Kh (λI (hb:Below w.heap.size w I)=>Gw s p n c x s' p' Z c' U I (h1.keep hb) (h3.keep hb) (by omega) (by omega));have cD:=Kh (λI (hb:Below w.heap.size w I)=>Gw t q m d y t' q' Y d' V I (h2.keep hb) (h4.keep hb) (by omega) (by omega));clear h1 h2 h3 h4;go_enter func44,ntmps44
 go_upto_region 1 with(fail)
 obtain⟨w0,bE,h,X1,J,bA⟩:=Rw w #[.bool s,.slice p n c,.bool t,.slice q m d] 86 #[.bool s',.slice p' Z c',.bool t',.slice q' Y d'] 86 #[.bool false,.slice none 0 0,.bool false,.slice none 0 0] 86;rw[bE];have gN:w.heap.size<=w0.heap.size:=bA.size;clear bE;have M1:True:=trivial;have T2:=Sts.of J (by intro v hv;simp at hv;rcases hv with rfl|rfl|rfl|rfl <;> first|exact NotInt.bool _|exact NotInt.slice _ _ _);have eV:=A7 (Below.refl _ w0).drew ⟨h.c0,h.c1,h.c2,h.c3,X1.c0,X1.c1,X1.c2,X1.c3,J.so 0,J.free_ 0,T2,J.so 1,J.free_ 1,T2,J.so 2,J.free_ 2,T2,J.so 3,J.free_ 3,T2,bA,gN⟩;clear h X1 J
 go_region_held3 (λI=>I.cell? ⟨w.heap.size,0,none⟩=some (.bool s)/\I.cell? ⟨w.heap.size,1,none⟩=some (.slice p n c)/\I.cell? ⟨w.heap.size,2,none⟩=some (.bool t)/\I.cell? ⟨w.heap.size,3,none⟩=some (.slice q m d)/\I.cell? ⟨w.heap.size+1,0,none⟩=some (.bool s')/\I.cell? ⟨w.heap.size+1,1,none⟩=some (.slice p' Z c')/\I.cell? ⟨w.heap.size+1,2,none⟩=some (.bool t')/\I.cell? ⟨w.heap.size+1,3,none⟩=some (.slice q' Y d')/\I.cell? ⟨w.heap.size+1+1,0,none⟩=some (cellOf I ⟨w.heap.size+1+1,0,none⟩)/\I.frozen? ⟨w.heap.size+1+1,0,none⟩=false/\Sts I (w.heap.size+1+1)/\I.cell? ⟨w.heap.size+1+1,1,none⟩=some (cellOf I ⟨w.heap.size+1+1,1,none⟩)/\I.frozen? ⟨w.heap.size+1+1,1,none⟩=false/\Sts I (w.heap.size+1+1)/\I.cell? ⟨w.heap.size+1+1,2,none⟩=some (cellOf I ⟨w.heap.size+1+1,2,none⟩)/\I.frozen? ⟨w.heap.size+1+1,2,none⟩=false/\Sts I (w.heap.size+1+1)/\I.cell? ⟨w.heap.size+1+1,3,none⟩=some (cellOf I ⟨w.heap.size+1+1,3,none⟩)/\I.frozen? ⟨w.heap.size+1+1,3,none⟩=false/\Sts I (w.heap.size+1+1)/\Below w.heap.size w I/\w.heap.size<=I.heap.size)
  (first|with_reducible exact eV |(refine A7 (by with_reducible assumption) ?_;assumption) |(refine D6 ?_ ?_ ?_ ?_ ?_ ?_ ?_ ?_ ?_ ?_ ?_ ?_ ?_ ?_ ?_ ?_ ?_ ?_ ?_ ?_ ?_ ?_ ?_ ?_ ?_ ?_ ?_ ?_ ?_ ?_ ?_ ?_ ?_ ?_ ?_ ?_ ?_ ?_ ?_ ?_ ?_ <;> first|assumption|exact NotInt.bool _|exact NotInt.slice _ _ _ |(dsimp only;omega) |(simp;done)))
  (first
   |(go_at_call 84;clear M1;refine(cC.1 _ (Bl (by with_reducible assumption))).mono ?_;rintro e w2 ⟨⟨s2,p2,n2,e2,rfl,bG⟩,gA⟩;have M:=Kh bG;clear bG)
   |(go_at_call 84;refine(cD.1 _ (Bl (by with_reducible assumption))).mono ?_;rintro e w3 ⟨⟨s3,p3,n3,e3,rfl,O⟩,bB⟩;have cF:=Kh (Jx s2 p2 n2 e2 (x*U) s3 p3 n3 e3 (y*V) w3 (M.1.keep bB).raw O.raw (by rw[<-M.1.2.1];exact cG.1) (by rw[<-O.2.1];exact cT.1));clear O gA M)
   |(go_at_call 85;refine cF.1.mono ?_;rintro e w4 ⟨⟨s4,p4,n4,e4,t4,q4,m4,d4,rfl,bC⟩,gF⟩;clear bB;obtain⟨⟨dE,hT⟩,⟨dX,_⟩,⟨dY,_⟩,⟨eP,_⟩⟩:=Jm gF (by with_reducible assumption);have gL:=Kh (bC.put4 hT (.bool s4) (.slice p4 n4 e4) (.bool t4) (.slice q4 m4 d4) (NotInt.bool _) (NotInt.slice _ _ _) (NotInt.bool _));clear bC hT))
 go_wp2;try simp only[Exit.inBlock,Exit.then]
 refine bodyPost_ret (by simp[results,results44,go_sem,dE,dX,dY,eP];try rfl) rfl ?_;exact⟨⟨s4,p4,n4,e4,t4,q4,m4,d4,rfl,HV.1▸gL.1⟩,Bl (by assumption)⟩
abbrev dB (B:Nat) (w0 w:World) (a0 a1 a2 a3:Addr) (v0 v1 v2 v3:Value):Prop:=w.cell? a0=some v0/\w.cell? a1=some v1/\w.cell? a2=some v2/\w.cell? a3=some v3/\Below B w0 w/\B<=w.heap.size
theorem Lh {B:Nat} {w0 w w':World} {I J M O:Addr} {v0 v1 v2 v3:Value} (U:Below w.heap.size w w') (h:dB B w0 w I J M O v0 v1 v2 v3):dB B w0 w' I J M O v0 v1 v2 v3:=SS.next (B:=B) (w0:=w0) (l:=[(I,v0),(J,v1),(M,v2),(O,v3)]) (m:=[]) U h
theorem Ga {B:Nat} {w0 w:World} {I J M O:Addr} {v0 v1 v2 v3:Value} (h:dB B w0 w I J M O v0 v1 v2 v3):Below B w0 w:=SS.below (B:=B) (w0:=w0) (l:=[(I,v0),(J,v1),(M,v2),(O,v3)]) (m:=[]) h
abbrev P4 (B:Nat) (w0 w:World) (a0 a1 a2 a3 a4 a5 a6 a7:Addr) (v0 v1 v2 v3 v4 v5 v6 v7:Value):Prop:=w.cell? a0=some v0/\w.cell? a1=some v1/\w.cell? a2=some v2/\w.cell? a3=some v3/\w.cell? a4=some v4/\w.cell? a5=some v5/\w.cell? a6=some v6/\w.cell? a7=some v7/\Below B w0 w/\B<=w.heap.size
theorem D5 {B:Nat} {w0 w w':World} {I J M O U V Y Z:Addr} {v0 v1 v2 v3 v4 v5 v6 v7:Value} (hb:Below w.heap.size w w') (h:P4 B w0 w I J M O U V Y Z v0 v1 v2 v3 v4 v5 v6 v7):P4 B w0 w' I J M O U V Y Z v0 v1 v2 v3 v4 v5 v6 v7:=SS.next (B:=B) (w0:=w0) (l:=[(I,v0),(J,v1),(M,v2),(O,v3),(U,v4),(V,v5),(Y,v6),(Z,v7)]) (m:=[]) hb h
theorem Cq {B:Nat} {w0 w:World} {I J M O U V Y Z:Addr} {v0 v1 v2 v3 v4 v5 v6 v7:Value} (h:P4 B w0 w I J M O U V Y Z v0 v1 v2 v3 v4 v5 v6 v7):Below B w0 w:=SS.below (B:=B) (w0:=w0) (l:=[(I,v0),(J,v1),(M,v2),(O,v3),(U,v4),(V,v5),(Y,v6),(Z,v7)]) (m:=[]) h
abbrev Tk (B:Nat) (w0 w:World) (a0 a1 a2 a3 a4 a5 b0 b1 b2 b3:Addr) (v0 v1 v2 v3 v4 v5:Value):Prop:=w.cell? a0=some v0/\w.cell? a1=some v1/\w.cell? a2=some v2/\w.cell? a3=some v3/\w.cell? a4=some v4/\w.cell? a5=some v5/\w.cell? b0=some (cellOf w b0)/\w.frozen? b0=false/\Sts w b0.block/\w.cell? b1=some (cellOf w b1)/\w.frozen? b1=false/\Sts w b1.block/\w.cell? b2=some (cellOf w b2)/\w.frozen? b2=false/\Sts w b2.block/\w.cell? b3=some (cellOf w b3)/\w.frozen? b3=false/\Sts w b3.block/\Below B w0 w/\B<=w.heap.size
theorem Li {B:Nat} {w0 w w':World} {I J M O U V Y Z b2 b3:Addr} {v0 v1 v2 v3 v4 v5:Value} (hb:Below w.heap.size w w') (h:Tk B w0 w I J M O U V Y Z b2 b3 v0 v1 v2 v3 v4 v5):Tk B w0 w' I J M O U V Y Z b2 b3 v0 v1 v2 v3 v4 v5:=SS.next (B:=B) (w0:=w0) (l:=[(I,v0),(J,v1),(M,v2),(O,v3),(U,v4),(V,v5)]) (m:=[Y,Z,b2,b3]) hb h
theorem Jl {B:Nat} {w0 w:World} {I J M O U V Y Z b2 b3:Addr} {v0 v1 v2 v3 v4 v5:Value} (h:Tk B w0 w I J M O U V Y Z b2 b3 v0 v1 v2 v3 v4 v5):Below B w0 w:=SS.below (B:=B) (w0:=w0) (l:=[(I,v0),(J,v1),(M,v2),(O,v3),(U,v4),(V,v5)]) (m:=[Y,Z,b2,b3]) h
theorem Ve {B:Nat} {w0 w w':World} {U V Y Z a4 a5 I J M O:Addr} {v0 v1 v2 v3 v4 v5:Value} (hb:Below w.heap.size w w') (h:Tk B w0 w U V Y Z a4 a5 I J M O v0 v1 v2 v3 v4 v5):((w'.cell? I).isSome=true/\Sts w' I.block)/\((w'.cell? J).isSome=true/\Sts w' J.block)/\((w'.cell? M).isSome=true/\Sts w' M.block)/\((w'.cell? O).isSome=true/\Sts w' O.block):=⟨SS.end_ (B:=B) (w0:=w0) (l:=[(U,v0),(V,v1),(Y,v2),(Z,v3),(a4,v4),(a5,v5)]) (m:=[I,J,M,O]) hb h (by simp),SS.end_ (B:=B) (w0:=w0) (l:=[(U,v0),(V,v1),(Y,v2),(Z,v3),(a4,v4),(a5,v5)]) (m:=[I,J,M,O]) hb h (by simp),SS.end_ (B:=B) (w0:=w0) (l:=[(U,v0),(V,v1),(Y,v2),(Z,v3),(a4,v4),(a5,v5)]) (m:=[I,J,M,O]) hb h (by simp),SS.end_ (B:=B) (w0:=w0) (l:=[(U,v0),(V,v1),(Y,v2),(Z,v3),(a4,v4),(a5,v5)]) (m:=[I,J,M,O]) hb h (by simp)⟩
theorem Vf {B:Nat} {w0 w:World} {I J M O U V b0 b1 b2 b3:Addr} {v0 v1 v2 v3 v4 v5:Value} (h:Tk B w0 w I J M O U V b0 b1 b2 b3 v0 v1 v2 v3 v4 v5) {p0 Y Z p3:Addr} {u0 u1 u2 u3:Value} (bE:NotInt u0) (gY:B<=p0.block) (cA:p0.block≠I.block) (cB:p0.block≠J.block) (cC:p0.block≠M.block) (cD:p0.block≠O.block) (cF:p0.block≠U.block) (cG:p0.block≠V.block) (bG:NotInt u1) (hB:B<=Y.block) (cT:Y.block≠I.block) (cV:Y.block≠J.block) (cX:Y.block≠M.block) (cY:Y.block≠O.block) (dC:Y.block≠U.block) (dE:Y.block≠V.block) (bH:NotInt u2) (hD:B<=Z.block) (dX:Z.block≠I.block) (dY:Z.block≠J.block) (eP:Z.block≠M.block) (eV:Z.block≠O.block) (gA:Z.block≠U.block) (gF:Z.block≠V.block) (bY:NotInt u3) (hE:B<=p3.block) (gL:p3.block≠I.block) (gN:p3.block≠J.block) (gP:p3.block≠M.block) (gS:p3.block≠O.block) (gU:p3.block≠U.block) (gX:p3.block≠V.block):Tk B w0 ((((w.setCell p0 u0).setCell Y u1).setCell Z u2).setCell p3 u3) I J M O U V b0 b1 b2 b3 v0 v1 v2 v3 v4 v5:=(SS.put (B:=B) (w0:=w0) (l:=[(I,v0),(J,v1),(M,v2),(O,v3),(U,v4),(V,v5)]) (m:=[b0,b1,b2,b3]) (SS.put (B:=B) (w0:=w0) (l:=[(I,v0),(J,v1),(M,v2),(O,v3),(U,v4),(V,v5)]) (m:=[b0,b1,b2,b3]) (SS.put (B:=B) (w0:=w0) (l:=[(I,v0),(J,v1),(M,v2),(O,v3),(U,v4),(V,v5)]) (m:=[b0,b1,b2,b3]) (SS.put (B:=B) (w0:=w0) (l:=[(I,v0),(J,v1),(M,v2),(O,v3),(U,v4),(V,v5)]) (m:=[b0,b1,b2,b3]) h p0 u0 bE gY (by simp[*])) Y u1 bG hB (by simp[*])) Z u2 bH hD (by simp[*])) p3 u3 bY hE (by simp[*]))
def cL (e:Ending) (r:Rat):Prop:=∃g:Int,e=.returned (.int .i64 g)/\(g=0↔r=0)
theorem Iu {x y:Int} (I:y≠0):Rat.divInt x y=0↔x=0:=by
 have h:=Rat.divInt_eq_divInt_iff (n₁:=x) (n₂:=0) I (show(1:Int)≠0 by decide);rw[Mb]at h;rw[h];simp
theorem Cw (x:Int):-1<=Int.sign x/\Int.sign x<=1/\(Int.sign x=0↔x=0):=by
 rcases Int.lt_trichotomy x 0 with h|h|h
 ·rw[Int.sign_eq_neg_one_of_neg h];omega
 ·subst h;decide
 ·rw[Int.sign_eq_one_of_pos h];omega
theorem Le (x y:Int):Int.sign x*Int.sign y=0↔Rat.divInt x y=0:=by
 by_cases hy:y=0
 ·subst hy;simp
 ·rw[Iu hy,Int.mul_eq_zero,(Cw x).2.2,(Cw y).2.2]
  exact⟨λh=>h.resolve_right hy,Or.inl⟩
theorem H8 {a b:Int} (J:-1<=a) (M:a<=1) (O:-1<=b) (U:b<=1):-1<=a*b/\a*b<=1:=by
 have I:a=-1∨a=0∨a=1:=by omega
 rcases I with rfl|rfl|rfl <;> omega
theorem R7 (s:Bool) (p:Option Addr) (n c:Nat) (x:Int) (t:Bool) (q:Option Addr) (m d:Nat) (y:Int) (w:World) (h1:Zr w s p n c x) (h2:Zr w t q m d y) (hn:n<=4398046511100) (hm:m<=4398046511100):
  Calls prog 97 #[.agg #[.bool s,.slice p n c,.bool t,.slice q m d]] w λe w'=>cL e (Rat.divInt x y)/\Below w.heap.size w w':=by
 have M:=λI (hb:Below w.heap.size w I)=>Ht s p n c x I (h1.keep hb) (by omega)
 have O:=λI (hb:Below w.heap.size w I)=>Ht t q m d y I (h2.keep hb) (by omega)
 have hz:=Le x y;obtain⟨b1,b2,_⟩:=Cw x;obtain⟨b3,b4,_⟩:=Cw y;have V:=H8 b1 b2 b3 b4;generalize Int.sign x=gx at *;generalize Int.sign y=gy at *;obtain⟨g,hg⟩:∃g,gx*gy=g:=⟨_,rfl⟩
 rw[hg]at hz V;obtain⟨g1,g2⟩:=V;have Z:=Kh M;have h:=Kh O;have HZ:=Kh hz;have cD:IntKind.i64.wrap (gx*gy)=g:=by rw[hg];exact IntWalk.i64_in _ (by omega)
 clear M O hz h1 h2 b1 b2 b3 b4;go_enter func97,ntmps97
 go_upto_region 1 with(fail)
 obtain⟨w0,Y,J,U⟩:=bx1 w #[.bool s,.slice p n c,.bool t,.slice q m d] 86;rw[Y];have aX:w.heap.size<=w0.heap.size:=U.size;clear Y;have M1:True:=trivial;have aD:=Lh (Below.refl _ w0).drew ⟨J.c0,J.c1,J.c2,J.c3,U,aX⟩;clear J
 go_region_held3 (λI=>I.cell? ⟨w.heap.size,0,none⟩=some (.bool s)/\I.cell? ⟨w.heap.size,1,none⟩=some (.slice p n c)/\I.cell? ⟨w.heap.size,2,none⟩=some (.bool t)/\I.cell? ⟨w.heap.size,3,none⟩=some (.slice q m d)/\Below w.heap.size w I/\w.heap.size<=I.heap.size)
  (first|with_reducible exact aD |(refine Lh (by with_reducible assumption) ?_;assumption) |(refine S4_0_put ?_  <;> first|assumption|exact NotInt.bool _|exact NotInt.slice _ _ _ |(dsimp only;omega) |(simp;done)))
  (first
   |(go_at_call 79;clear M1;refine(Z.1 _ (Ga (by with_reducible assumption))).mono ?_;rintro e w2 ⟨rfl,aN⟩)
   |(go_at_call 79;refine(h.1 _ (Ga (by with_reducible assumption))).mono ?_;rintro e w3 ⟨rfl,cC⟩;clear aN))
 go_wp2;go_ret;exact⟨⟨g,by show Ending.returned (Value.int .i64 (IntKind.i64.wrap g))=_;rw[IntWalk.i64_in _ (by omega)],HZ.1⟩,Ga (by assumption)⟩
theorem SS.alloc {B:Nat} {w0 w:World} {l:List (Addr×Value)} (h:SS B w0 w l []) (o:Obj):SS B w0 (w.alloc o) l []:=SS.next ((Below.refl _ _).alloc (mG _) o) h
theorem SS.sizeLe {B:Nat} {w0 w:World} {l:List (Addr×Value)} (h:SS B w0 w l []):B<=w.heap.size:=by
 induction l with
 | nil=>exact h.2
 | cons x l ih=>exact ih h.2
theorem SS.lt {B:Nat} {w0 w:World} {l:List (Addr×Value)} (h:SS B w0 w l []):∀x∈l,x.1.block<w.heap.size:=by
 induction l with
 | nil=>intro x I;cases I
 | cons y l ih=>
  intro x I;rcases List.mem_cons.1 I with rfl|I
  ·exact World.block_lt_of_cell? w x.1 h.1
  ·exact ih h.2 x I
theorem SS.fresh {B:Nat} {w0 w:World} {l:List (Addr×Value)} (h:SS B w0 w l []) (o:Obj) (v u:Value) (O:NotInt v) (M:NotInt u):SS B w0 (((w.alloc o).setCell ⟨w.heap.size,0,none⟩ v).setCell ⟨w.heap.size,1,none⟩ u) l []:=by
 have J:=h.alloc o;have I:∀x∈l,w.heap.size≠x.1.block:=λx U=>by have:=h.lt x U;omega
 exact(J.put ⟨w.heap.size,0,none⟩ v O h.sizeLe I).put ⟨w.heap.size,1,none⟩ u M h.sizeLe I
theorem P6 {B:Nat} {w0 w:World} {I J M O U V Y Z:Addr} {v0 v1 v2 v3 v4 v5 v6 v7:Value} (h:P4 B w0 w I J M O U V Y Z v0 v1 v2 v3 v4 v5 v6 v7) (o:Obj):(w.alloc o).cell? I=some v0/\(w.alloc o).cell? J=some v1/\(w.alloc o).cell? M=some v2/\(w.alloc o).cell? O=some v3/\(w.alloc o).cell? U=some v4/\(w.alloc o).cell? V=some v5/\(w.alloc o).cell? Y=some v6/\(w.alloc o).cell? Z=some v7/\Below B w0 (w.alloc o)/\B<=(w.alloc o).heap.size:=SS.alloc (B:=B) (w0:=w0) (l:=[(I,v0),(J,v1),(M,v2),(O,v3),(U,v4),(V,v5),(Y,v6),(Z,v7)]) h o
theorem Zz {B:Nat} {w0 w:World} {I J M O U V Y Z:Addr} {v0 v1 v2 v3 v4 v5 v6 v7:Value} (h:P4 B w0 w I J M O U V Y Z v0 v1 v2 v3 v4 v5 v6 v7) (o:Obj) (v u:Value) (hv:NotInt v) (hu:NotInt u):(((w.alloc o).setCell ⟨w.heap.size,0,none⟩ v).setCell ⟨w.heap.size,1,none⟩ u).cell? I=some v0/\(((w.alloc o).setCell ⟨w.heap.size,0,none⟩ v).setCell ⟨w.heap.size,1,none⟩ u).cell? J=some v1/\(((w.alloc o).setCell ⟨w.heap.size,0,none⟩ v).setCell ⟨w.heap.size,1,none⟩ u).cell? M=some v2/\(((w.alloc o).setCell ⟨w.heap.size,0,none⟩ v).setCell ⟨w.heap.size,1,none⟩ u).cell? O=some v3/\(((w.alloc o).setCell ⟨w.heap.size,0,none⟩ v).setCell ⟨w.heap.size,1,none⟩ u).cell? U=some v4/\(((w.alloc o).setCell ⟨w.heap.size,0,none⟩ v).setCell ⟨w.heap.size,1,none⟩ u).cell? V=some v5/\(((w.alloc o).setCell ⟨w.heap.size,0,none⟩ v).setCell ⟨w.heap.size,1,none⟩ u).cell? Y=some v6/\(((w.alloc o).setCell ⟨w.heap.size,0,none⟩ v).setCell ⟨w.heap.size,1,none⟩ u).cell? Z=some v7/\Below B w0 (((w.alloc o).setCell ⟨w.heap.size,0,none⟩ v).setCell ⟨w.heap.size,1,none⟩ u)/\B<=(((w.alloc o).setCell ⟨w.heap.size,0,none⟩ v).setCell ⟨w.heap.size,1,none⟩ u).heap.size:=SS.fresh (B:=B) (w0:=w0) (l:=[(I,v0),(J,v1),(M,v2),(O,v3),(U,v4),(V,v5),(Y,v6),(Z,v7)]) h o v u hv hu
theorem Hs {B:Nat} {w0 w:World} {I J M O U V Y Z:Addr} {v0 v1 v2 v3 v4 v5 v6 v7:Value} (h:P4 B w0 w I J M O U V Y Z v0 v1 v2 v3 v4 v5 v6 v7):B<=w.heap.size:=SS.sizeLe (B:=B) (w0:=w0) (l:=[(I,v0),(J,v1),(M,v2),(O,v3),(U,v4),(V,v5),(Y,v6),(Z,v7)]) h
theorem Tm {B:Nat} {w0 w:World} {J M O U V Y Z a7:Addr} {v0 v1 v2 v3 v4 v5 v6 v7:Value} (h:P4 B w0 w J M O U V Y Z a7 v0 v1 v2 v3 v4 v5 v6 v7) {p0 I:Addr} {u0 u1:Value} (bB:NotInt u0) (dX:B<=p0.block) (bE:p0.block≠J.block) (bG:p0.block≠M.block) (bH:p0.block≠O.block) (bY:p0.block≠U.block) (cA:p0.block≠V.block) (cB:p0.block≠Y.block) (cC:p0.block≠Z.block) (cD:p0.block≠a7.block) (bC:NotInt u1) (dY:B<=I.block) (cF:I.block≠J.block) (cG:I.block≠M.block) (cT:I.block≠O.block) (cV:I.block≠U.block) (cX:I.block≠V.block) (cY:I.block≠Y.block) (dC:I.block≠Z.block) (dE:I.block≠a7.block):((w.setCell p0 u0).setCell I u1).cell? J=some v0/\((w.setCell p0 u0).setCell I u1).cell? M=some v1/\((w.setCell p0 u0).setCell I u1).cell? O=some v2/\((w.setCell p0 u0).setCell I u1).cell? U=some v3/\((w.setCell p0 u0).setCell I u1).cell? V=some v4/\((w.setCell p0 u0).setCell I u1).cell? Y=some v5/\((w.setCell p0 u0).setCell I u1).cell? Z=some v6/\((w.setCell p0 u0).setCell I u1).cell? a7=some v7/\Below B w0 ((w.setCell p0 u0).setCell I u1)/\B<=((w.setCell p0 u0).setCell I u1).heap.size:=(SS.put (B:=B) (w0:=w0) (l:=[(J,v0),(M,v1),(O,v2),(U,v3),(V,v4),(Y,v5),(Z,v6),(a7,v7)]) (m:=[]) (SS.put (B:=B) (w0:=w0) (l:=[(J,v0),(M,v1),(O,v2),(U,v3),(V,v4),(Y,v5),(Z,v6),(a7,v7)]) (m:=[]) h p0 u0 bB dX (by simp[*])) I u1 bC dY (by simp[*]))
theorem Fe {W w':World} {B:Nat} (hB:B<=W.heap.size) (I:Below (W.alloc (.cells #[.bool false,.slice none 0 0] 84)).heap.size (W.alloc (.cells #[.bool false,.slice none 0 0] 84)) w'):
  B<=W.heap.size/\w'.cell? ⟨W.heap.size,0,none⟩=some (.bool false)/\w'.cell? ⟨W.heap.size,1,none⟩=some (.slice none 0 0)/\w'.frozen? ⟨W.heap.size,0,none⟩=false/\w'.frozen? ⟨W.heap.size,1,none⟩=false/\Blk w' W.heap.size 84 #[.bool false,.slice none 0 0]:=by
 have h:=(Blk.new W 84 #[.bool false,.slice none 0 0]).below_ I (by simp);exact⟨hB,h.at_ 0 rfl,h.at_ 1 rfl,h.free_ 0,h.free_ 1,h⟩
theorem Wp {W w':World} {B g:Nat} (hg:W.heap.size=g) (hB:B<=g) (I:Below (W.alloc (.cells #[.bool false,.slice none 0 0] 84)).heap.size (W.alloc (.cells #[.bool false,.slice none 0 0] 84)) w'):
  B<=g/\w'.cell? ⟨g,0,none⟩=some (.bool false)/\w'.cell? ⟨g,1,none⟩=some (.slice none 0 0)/\w'.frozen? ⟨g,0,none⟩=false/\w'.frozen? ⟨g,1,none⟩=false/\Blk w' g 84 #[.bool false,.slice none 0 0]:=by
 subst hg;exact Fe hB I
theorem Kc {w w':World} {B g:Nat} (J:Below w.heap.size w w') (h:B<=g/\w.cell? ⟨g,0,none⟩=some (.bool false)/\w.cell? ⟨g,1,none⟩=some (.slice none 0 0)/\w.frozen? ⟨g,0,none⟩=false/\w.frozen? ⟨g,1,none⟩=false/\Blk w g 84 #[.bool false,.slice none 0 0]):
  B<=g/\w'.cell? ⟨g,0,none⟩=some (.bool false)/\w'.cell? ⟨g,1,none⟩=some (.slice none 0 0)/\w'.frozen? ⟨g,0,none⟩=false/\w'.frozen? ⟨g,1,none⟩=false/\Blk w' g 84 #[.bool false,.slice none 0 0]:=by
 have I:=h.1;have h:=h.2.2.2.2.2.below_ J h.2.2.2.2.2.lt;exact⟨I,h.at_ 0 rfl,h.at_ 1 rfl,h.free_ 0,h.free_ 1,h⟩
theorem V5 (s:Bool) (p:Option Addr) (n c:Nat) (x:Int) (t:Bool) (q:Option Addr) (m d:Nat) (y:Int) (s':Bool) (p':Option Addr) (n' c':Nat) (x':Int) (t':Bool) (q':Option Addr) (m' d':Nat) (y':Int) (w:World) (h1:Zr w s p n c x) (h2:Zr w t q m d y) (h3:Zr w s' p' n' c' x') (h4:Zr w t' q' m' d' y') (hn:n<=1099511627770) (hm:m<=1099511627770) (pH:n'<=1099511627770) (pG:m'<=1099511627770) (hy:y≠0) (hS:y'≠0):
  Calls prog 39 #[.agg #[.bool s,.slice p n c,.bool t,.slice q m d],.agg #[.bool s',.slice p' n' c',.bool t',.slice q' m' d']] w λe w'=>Gr w' e (Rat.divInt x y+Rat.divInt x' y')/\Below w.heap.size w w':=by
 have HV:=Kh (Rat.divInt_add_divInt x x' hy hS);have hP:=Kh h1;have cG:=Kh h2;have hQ:=Kh h3;have cT:=Kh h4;have mT:=(Cw y).2.2;have mU:=(Cw y').2.2;have mN:=λI (hb:Below w.heap.size w I)=>Ht t q m d y I (h2.keep hb) (by omega)
 have mO:=λI (hb:Below w.heap.size w I)=>Ht t' q' m' d' y' I (h4.keep hb) (by omega)
 generalize Int.sign y=g at *;generalize Int.sign y'=g' at *;have pF:(g==0)=false:=beq_eq_false_iff_ne.2 (λh=>hy (mT.1 h));have oQ:(g'==0)=false:=beq_eq_false_iff_ne.2 (λh=>hS (mU.1 h));have hW:=Kh mN;have hX:=Kh mO;clear h1 h2 h3 h4 mN mO mT mU hy hS;go_enter func39,ntmps39
 go_wp2_with fail
 obtain⟨w0,mX,X0,X1,X2,aX⟩:=Rw w #[.bool s,.slice p n c,.bool t,.slice q m d] 86 #[.bool s',.slice p' n' c',.bool t',.slice q' m' d'] 86 #[.bool false,.slice none 0 0,.bool false,.slice none 0 0] 86;rw[mX];have eP:w.heap.size<=w0.heap.size:=aX.size;clear mX;have a2:=X0.at_ 2 rfl;have a3:=X0.at_ 3 rfl;have U:=Kh X0;have M:=Kh X1;have V:=Kh X2;have J:=Kh aX;clear X0 X1 X2 aX;refine(hW.1 _ J.1).mono ?_;rintro e I ⟨rfl,Z⟩;replace U:=Kh (bk U Z);replace M:=Kh (bk M Z);replace V:=Kh (bk V Z);replace J:=bt J Z;have b2:=M.1.at_ 2 rfl;have b3:=M.1.at_ 3 rfl;clear Z hW a2 a3 eP;go_wp2_with fail
 refine(hX.1 _ J.1).mono ?_;rintro e w2 ⟨rfl,Y⟩;replace U:=Kh (bk U Y);replace M:=Kh (bk M Y);replace V:=Kh (bk V Y);replace J:=bt J Y;clear Y hX b2 b3;go_upto_region 5 with(fail)
 go_cut [20]from 21 to 28 (λnZ wc=>∃b:Bool,nZ=.bool b/\(b=true->y=1/\y'=1)/\Below w2.heap.size w2 wc)
 case first=>
  have a2:=U.1.at_ 2 rfl;have a3:=U.1.at_ 3 rfl;have iL:=Kh (R6 t q m d y w2 (cG.1.keep J.1) (by omega));have mA:=Kh (λw3 (hb:Below w2.heap.size w2 w3)=>R6 t' q' m' d' y' w3 ((cT.1.keep J.1).keep hb) (by omega));go_wp2_with fail
  refine iL.1.mono ?_;rintro e w3 ⟨⟨b,rfl,Z⟩,O⟩;have bG:=Kh Z;have bE:=Kh O;have b2:=(bk M O).at_ 2 rfl;have b3:=(bk M O).at_ 3 rfl;clear Z O iL;cases b with
  | true=>
   have cF:=Kh (bG.1 rfl);clear bG;go_wp2_with fail
   refine(mA.1 _ bE.1).mono ?_;rintro e w4 ⟨⟨b',rfl,Z⟩,aD⟩;have hV:=Kh Z;have nF:=bt bE aD;clear Z aD mA;go_wp2;go_meet
   case rel=>exact⟨b',rfl,λh=>⟨cF.1,hV.1 h⟩,nF.1⟩
  | false=>
   go_wp2;go_meet
   case rel=>exact⟨false,rfl,(λh=>by cases h),bE.1⟩
 case rest=>
  obtain⟨b,rfl,mS,cX⟩:=hcut;have bG:=Kh mS;replace U:=Kh (bk U cX);replace M:=Kh (bk M cX);replace V:=Kh (bk V cX);replace J:=bt J cX;clear mS cX;cases b with
  | true=>
   have cF:=Kh (bG.1 rfl);clear bG;have a0:=U.1.at_ 0 rfl;have a1:=U.1.at_ 1 rfl;have b0:=M.1.at_ 0 rfl;have b1:=M.1.at_ 1 rfl;have HA:=Kh (Rx s p n c x s' p' n' c' x' wc (hP.1.keep J.1) (hQ.1.keep J.1) (by omega) (by omega));go_wp2_with fail
   refine HA.1.mono ?_;rintro e w3 ⟨⟨s2,p2,n2,e2,rfl,aN⟩,O⟩;have HZ:=Kh aN;have bE:=bt J O;replace V:=Kh (bk V O);have HO:=Kh (Gc 1 w3 (by omega) (by omega));clear aN O HA a0 a1 b0 b1;go_wp2_with fail
   refine HO.1.mono ?_;rintro e w4 ⟨⟨s3,p3,n3,e3,rfl,cB⟩,aD⟩
   have HQ:=Kh (show Qs w4 s2 p2 n2 e2 s3 p3 n3 e3 (Rat.divInt (x+x') 1)by
    unfold Qs;rw[(Hc (x+x')).1,(Hc (x+x')).2];exact⟨HZ.1.keep aD,cB⟩)
   have HR:=Kh (bk V aD);have HB:=bt bE aD;have HG:=Kh (show Rat.divInt (x+x') 1=Rat.divInt x y+Rat.divInt x' y' by rw[cF.1.1,cF.1.2,Ns]);clear cB aD HO bE HZ J U M V cF;have r0:=HR.1.at_ 0 rfl;have r1:=HR.1.at_ 1 rfl;have r2:=HR.1.at_ 2 rfl;have r3:=HR.1.at_ 3 rfl;have f0:=HR.1.free_ 0;have f1:=HR.1.free_ 1;have f2:=HR.1.free_ 2;have f3:=HR.1.free_ 3;obtain⟨w9,eV⟩:∃w9,(((w4.setCell ⟨w.heap.size+1+1,0,none⟩ (.bool s2)).setCell ⟨w.heap.size+1+1,1,none⟩ (.slice p2 n2 e2)).setCell ⟨w.heap.size+1+1,2,none⟩ (.bool s3)).setCell ⟨w.heap.size+1+1,3,none⟩ (.slice p3 n3 e3)=w9:=⟨_,rfl⟩
   obtain⟨E0,E1,E2,E3,mW⟩:=B9 HR.1 HQ.1 eV;have mR:Below w.heap.size w w9:=by rw[<-eV];exact As HB.1 (by omega) _ _ _ _
   have nM:=Kh eV;have nH:=Kh (And.intro E0 (And.intro E1 (And.intro E2 E3)));have nK:=Kh mW;have nG:=Kh mR;clear E0 E1 E2 E3 mW mR eV HQ HB HR;go_wp2;try rw[nM.1]
   obtain⟨E0,E1,E2,E3⟩:=nH.1;try simp only[Exit.inBlock,Exit.then]
   refine bodyPost_ret (by simp[results,results39,go_sem,E0,E1,E2,E3];try rfl) rfl ?_;exact⟨⟨s2,p2,n2,e2,s3,p3,n3,e3,rfl,HG.1▸nK.1⟩,nG.1⟩
  | false=>
   clear bG;have X0:=U.1;have X1:=M.1;have aX:=J.1;have eP:w.heap.size<=wc.heap.size:=aX.size;have hY:=Kh (λI (hb:Below w.heap.size w I)=>Gw s p n c x t' q' m' d' y' I (hP.1.keep hb) (cT.1.keep hb) (by omega) (by omega));have hZ:=Kh (λI (hb:Below w.heap.size w I)=>Gw s' p' n' c' x' t q m d y I (hQ.1.keep hb) (cG.1.keep hb) (by omega) (by omega));have mB:=Kh (show nd (x*y').natAbs<=2199023255540 by rw[Int.natAbs_mul];have:=Cd x.natAbs y'.natAbs;have:=hP.1.size;have:=cT.1.size;omega);have mC:=Kh (show nd (x'*y).natAbs<=2199023255540 by rw[Int.natAbs_mul];have:=Cd x'.natAbs y.natAbs;have:=hQ.1.size;have:=cG.1.size;omega);have nL:=Kh (show nd (y*y').natAbs<=2199023255540 by rw[Int.natAbs_mul];have:=Cd y.natAbs y'.natAbs;have:=cG.1.size;have:=cT.1.size;omega);have hlt:w.heap.size+1+1<wc.heap.size:=V.1.lt;have nN:=V;go_upto_region 7 with(fail)
   go_cut [5]from 36 to 46 (λv5 wd=>∃gb s4 p4 n4 e4,v5=.pointer (some ⟨gb,0,none⟩)/\w.heap.size+1+1<gb/\Blk wd gb 84 #[.bool s4,.slice p4 n4 e4]/\Zs wd s4 p4 n4 e4 (x*y'+x'*y)/\Below wc.heap.size wc wd)
   case first=>
    have M1:True:=trivial;have mP:wc.cell? ⟨w.heap.size,0,none⟩=some (.bool s)/\wc.cell? ⟨w.heap.size,1,none⟩=some (.slice p n c)/\wc.cell? ⟨w.heap.size,2,none⟩=some (.bool t)/\wc.cell? ⟨w.heap.size,3,none⟩=some (.slice q m d)/\wc.cell? ⟨w.heap.size+1,0,none⟩=some (.bool s')/\wc.cell? ⟨w.heap.size+1,1,none⟩=some (.slice p' n' c')/\wc.cell? ⟨w.heap.size+1,2,none⟩=some (.bool t')/\wc.cell? ⟨w.heap.size+1,3,none⟩=some (.slice q' m' d')/\Below wc.heap.size wc wc/\wc.heap.size<=wc.heap.size:=⟨X0.at_ 0 rfl,X0.at_ 1 rfl,X0.at_ 2 rfl,X0.at_ 3 rfl,X1.at_ 0 rfl,X1.at_ 1 rfl,X1.at_ 2 rfl,X1.at_ 3 rfl,Below.refl _ _,mG _⟩
    have hR:wc.drew.cell? ⟨w.heap.size,0,none⟩=some (.bool s)/\wc.drew.cell? ⟨w.heap.size,1,none⟩=some (.slice p n c)/\wc.drew.cell? ⟨w.heap.size,2,none⟩=some (.bool t)/\wc.drew.cell? ⟨w.heap.size,3,none⟩=some (.slice q m d)/\wc.drew.cell? ⟨w.heap.size+1,0,none⟩=some (.bool s')/\wc.drew.cell? ⟨w.heap.size+1,1,none⟩=some (.slice p' n' c')/\wc.drew.cell? ⟨w.heap.size+1,2,none⟩=some (.bool t')/\wc.drew.cell? ⟨w.heap.size+1,3,none⟩=some (.slice q' m' d')/\Below wc.heap.size wc wc.drew/\wc.heap.size<=wc.drew.heap.size:=D5 (Below.refl _ wc).drew mP;clear X0 X1
    go_region_held3 (λI=>I.cell? ⟨w.heap.size,0,none⟩=some (.bool s)/\I.cell? ⟨w.heap.size,1,none⟩=some (.slice p n c)/\I.cell? ⟨w.heap.size,2,none⟩=some (.bool t)/\I.cell? ⟨w.heap.size,3,none⟩=some (.slice q m d)/\I.cell? ⟨w.heap.size+1,0,none⟩=some (.bool s')/\I.cell? ⟨w.heap.size+1,1,none⟩=some (.slice p' n' c')/\I.cell? ⟨w.heap.size+1,2,none⟩=some (.bool t')/\I.cell? ⟨w.heap.size+1,3,none⟩=some (.slice q' m' d')/\Below wc.heap.size wc I/\wc.heap.size<=I.heap.size)
     (first|with_reducible exact hR |(refine D5 (by with_reducible assumption) ?_;assumption)|exact P6 (by with_reducible assumption) _|exact D5 (bH.1.alloc bH.1.size _) mP |(refine Tm ?_ ?_ ?_ ?_ ?_ ?_ ?_ ?_ ?_ ?_ ?_ ?_ ?_ ?_ ?_ ?_ ?_ ?_ ?_ ?_ ?_ <;> first|with_reducible assumption|exact NotInt.bool _|exact NotInt.slice _ _ _ |(dsimp only;omega))|exact Zz (by with_reducible assumption) _ _ _ (NotInt.bool _) (NotInt.slice _ _ _))
     (first
      |(go_at_call 84;clear M1;refine(hY.1 _ (J.1.trans ((Cq (by with_reducible assumption)).mono J.1.size))).mono ?_;rintro e w2 ⟨⟨s2,p2,n2,e2,rfl,aN⟩,Y⟩;have hM:=Kh aN;have mD:=Kh (mH (Hs (by with_reducible assumption)) (Below.size Y));(try have nQ:=Wp (B:=wc.heap.size) (W:=wc.drew) (g:=wc.heap.size) rfl (mG _) Y);clear aN)
      |(go_at_call 84;refine(hZ.1 _ (J.1.trans ((Cq (by with_reducible assumption)).mono J.1.size))).mono ?_;rintro e w3 ⟨⟨s3,p3,n3,e3,rfl,cB⟩,O⟩;have hN:Zs w3 s2 p2 n2 e2 (x*y'):=(by first|exact hM.1.keep O|exact(hM.1.keep ((Below.refl _ _).alloc (mG _) _)).keep O);have nE:=Kh (λw5 (mQ:Below w3.heap.size w3 w5)=>Rx s2 p2 n2 e2 (x*y') s3 p3 n3 e3 (x'*y) w5 (hN.keep mQ).raw (cB.keep mQ).raw (by rw[<-hN.2.1];have:=mB.1;omega) (by rw[<-cB.2.1];have:=mC.1;omega));have mE:=Kh (mH (Hs (by with_reducible assumption)) (Below.size O));(first|have mM:=Fe (W:=w2) mD.1 O|have mM:=Kc O nQ|skip);clear cB hM hN)
      |(go_at_call 82;refine(nE.1 _ (by first|exact Below.refl _ _|exact(Below.refl _ _).alloc (mG _) _)).mono ?_;rintro e w4 ⟨⟨s4,p4,n4,e4,rfl,mY⟩,aD⟩;have bH:=Kh (Below.trans (Cq (by with_reducible assumption)) (Below.mono aD (Hs (by with_reducible assumption))));have hO:=Kh mY;(first|have cA:=Fe (W:=w3) mE.1 aD|have cA:=Kc aD mM|skip);clear mY))
    all_goals go_wp2
    all_goals go_meet
    all_goals first
     | exact⟨_,s4,p4,n4,e4,rfl,mI hlt bH.1.size,Blk.new w4 _ _,hO.1.keep ((Below.refl _ _).alloc (mG _) _),bH.1.alloc bH.1.size _⟩
     | exact⟨_,s4,p4,n4,e4,rfl,mI hlt cA.1,(Fw cA.2.2.2.2.2 hO.1).1,(Fw cA.2.2.2.2.2 hO.1).2,(bH.1.setCell cA.1 _).setCell cA.1 _⟩
   case rest=>
    obtain⟨gb,s4,p4,n4,e4,rfl,oR,XG,zg,cY⟩:=hcut;clear hY hZ;replace X0:=bk U cY;replace X1:=bk M cY;have X2:=bk V cY;replace aX:=J.1.trans (cY.mono J.1.size);replace eP:w.heap.size<=wc.heap.size:=aX.size;have nI:=Kh (λI (hb:Below w.heap.size w I)=>Gw t q m d y t' q' m' d' y' I (cG.1.keep hb) (cT.1.keep hb) (by omega) (by omega));have nO:=Kh zg
    have pI:n4<=2199023255541:=by
     rw[<-zg.2.1];exact Gl _ _ mB.1 mC.1
    have T2:=Sts.of X2 (by intro v hv;simp at hv;rcases hv with rfl|rfl|rfl|rfl <;> first|exact NotInt.bool _|exact NotInt.slice _ _ _);clear U M V nN J cY zg;go_upto_region 8 with(fail)
    have hR:=Li (Below.refl _ wc).drew ⟨XG.c0,XG.c1,X0.c2,X0.c3,X1.c2,X1.c3,X2.so 0,X2.free_ 0,T2,X2.so 1,X2.free_ 1,T2,X2.so 2,X2.free_ 2,T2,X2.so 3,X2.free_ 3,T2,aX,eP⟩;clear X0 X1 X2 XG T2
    go_region_held3 (λI=>I.cell? ⟨gb,0,none⟩=some (.bool s4)/\I.cell? ⟨gb,1,none⟩=some (.slice p4 n4 e4)/\I.cell? ⟨w.heap.size,2,none⟩=some (.bool t)/\I.cell? ⟨w.heap.size,3,none⟩=some (.slice q m d)/\I.cell? ⟨w.heap.size+1,2,none⟩=some (.bool t')/\I.cell? ⟨w.heap.size+1,3,none⟩=some (.slice q' m' d')/\I.cell? ⟨w.heap.size+1+1,0,none⟩=some (cellOf I ⟨w.heap.size+1+1,0,none⟩)/\I.frozen? ⟨w.heap.size+1+1,0,none⟩=false/\Sts I (w.heap.size+1+1)/\I.cell? ⟨w.heap.size+1+1,1,none⟩=some (cellOf I ⟨w.heap.size+1+1,1,none⟩)/\I.frozen? ⟨w.heap.size+1+1,1,none⟩=false/\Sts I (w.heap.size+1+1)/\I.cell? ⟨w.heap.size+1+1,2,none⟩=some (cellOf I ⟨w.heap.size+1+1,2,none⟩)/\I.frozen? ⟨w.heap.size+1+1,2,none⟩=false/\Sts I (w.heap.size+1+1)/\I.cell? ⟨w.heap.size+1+1,3,none⟩=some (cellOf I ⟨w.heap.size+1+1,3,none⟩)/\I.frozen? ⟨w.heap.size+1+1,3,none⟩=false/\Sts I (w.heap.size+1+1)/\Below w.heap.size w I/\w.heap.size<=I.heap.size)
     (first|with_reducible exact hR |(refine Li (by with_reducible assumption) ?_;assumption) |(refine Vf ?_ ?_ ?_ ?_ ?_ ?_ ?_ ?_ ?_ ?_ ?_ ?_ ?_ ?_ ?_ ?_ ?_ ?_ ?_ ?_ ?_ ?_ ?_ ?_ ?_ ?_ ?_ ?_ ?_ ?_ ?_ ?_ ?_ <;> first|assumption|exact NotInt.bool _|exact NotInt.slice _ _ _ |(dsimp only;omega)))
     (first
      |(go_at_call 84;refine(nI.1 _ (Jl (by with_reducible assumption))).mono ?_;rintro e w2 ⟨⟨s2,p2,n2,e2,rfl,aN⟩,Y⟩;have nJ:=Kh (Jx s4 p4 n4 e4 (x*y'+x'*y) s2 p2 n2 e2 (y*y') w2 (nO.1.keep (by first|exact(Below.refl _ wc).drew.trans Y|exact Y)).raw aN.raw (by omega) (by rw[<-aN.2.1];have:=nL.1;omega));clear aN)
      |(go_at_call 85;refine nJ.1.mono ?_;rintro e w3 ⟨⟨s3,p3,n3,e3,t3,q3,m3,d3,rfl,mV⟩,O⟩;clear Y;obtain⟨⟨nT,hT⟩,⟨nU,_⟩,⟨nV,_⟩,⟨nW,_⟩⟩:=Ve O (by with_reducible assumption);have nX:=Kh (mV.put4 hT (.bool s3) (.slice p3 n3 e3) (.bool t3) (.slice q3 m3 d3) (NotInt.bool _) (NotInt.slice _ _ _) (NotInt.bool _));clear mV hT))
    go_wp2;try simp only[Exit.inBlock,Exit.then]
    refine bodyPost_ret (by simp[results,results39,go_sem,nT,nU,nV,nW];try rfl) rfl ?_;exact⟨⟨s3,p3,n3,e3,t3,q3,m3,d3,rfl,HV.1▸nX.1⟩,Jl (by assumption)⟩
theorem Yw:(prog.info? 200).map (λi=>(i.zero,i.size,i.bytes))=some (some (.int .u32 0),1,4):=N1
theorem cW (s:Nat):∀u∈[Value.int .u32 (s:Nat)],u.oneCell'=true:=by
 intro u I;rw[List.mem_singleton]at I;subst I;rfl
theorem eJ {u v n:Nat} (M:nd u=n) (O:nd v=n) (h:∀j,j<n->dg u j=dg v j):u=v:=by
 have I:=Bp u;have J:=Bp v;rw[M]at I;rw[O]at J;rw[<-I,<-J];exact Dr h
def BitAt (w:World) (gq M k u v R:Nat):Prop:=∃rq,Row w gq M rq/\(∀l,l<M->2 ^ (min 32 (k - 32*l))∣rq l)/\u=v*vf rq M+R/\R<v*2 ^ k
theorem BitAt.far {w w':World} {J M k u v R:Nat} (h:BitAt w J M k u v R) (U:Below w.heap.size w w'):BitAt w' J M k u v R:=by
 obtain⟨V,I,O⟩:=h;exact⟨V,I.below U I.1.lt,O⟩
def kM (G:Nat) (p:Option Addr) (n:Nat):Prop:=n=0∨∃g o,p=some ⟨g,o,none⟩/\g≠G
theorem Dg.off {w:World} {G:Nat} {p:Option Addr} {c n:Nat} {a:Nat->Nat} (h:Dg w p c n a) (Y:kM G p n) (i:Nat) (v:Value):Dg (w.setCell ⟨G,i,none⟩ v) p c n a:=
 ⟨h.cap,h.lt,by
  rcases h.at' with O |⟨g,o,e,hg,U⟩
  ·exact .inl O
  ·rcases Y with M |⟨Z,o',I,J⟩
   ·exact .inl M
   ·rw[e]at I
    injection I with I;injection I with e1 e2
    exact .inr ⟨g,o,e,by simpa using hg,λj V=>by
     rw[World.cell?_setCell_far w ⟨G,i,none⟩ ⟨g,o+j,none⟩ v (by show G≠g;rw[e1];exact Ne.symm J)];exact U j V⟩⟩
end Go.Proofs.YtenlbhlllgppmaaGreatDoor
