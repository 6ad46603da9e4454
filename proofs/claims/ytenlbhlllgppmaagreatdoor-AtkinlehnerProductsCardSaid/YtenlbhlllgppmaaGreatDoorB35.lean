/- The reference's product of two integers whose product is small: no division is made. -/
import Derived.Test.YtenlbhlllgppmaaGreatDoorB34
set_option linter.unusedSimpArgs false
set_option maxRecDepth 100000
set_option maxHeartbeats 8000000
namespace Go.Proofs.YtenlbhlllgppmaaGreatDoor
section
open Go.RowKit Tryz
theorem cM (s:Bool) (p:Option Addr) (n c:Nat) (x:Int) (t:Bool) (q:Option Addr) (m d:Nat) (y:Int) (w:World) (h:Zr w s p n c x) (h':Zr w t q m d y) (hn:n<=2) (hm:m<=2):
  Calls prog 173 #[.agg #[.bool s,.slice p n c],.agg #[.bool t,.slice q m d]] w λe w'=>Gx w' e (Int.gcd x y:Nat)/\Below w.heap.size w w':=by
 have HX:=Kh (nS h.size hn);have HY:=Kh (nS h'.size hm);obtain⟨u,hu⟩:∃u,x.natAbs=u:=⟨_,rfl⟩
 obtain⟨v,hv⟩:∃v,y.natAbs=v:=⟨_,rfl⟩
 obtain⟨G,hG⟩:∃G,Int.gcd x y=G:=⟨_,rfl⟩
 have cD:Nat.gcd u v=G:=by rw[<-hG,<-hu,<-hv];rfl
 rw[hG];have cT:=Kh (λZ (hb:Below w.heap.size w Z)=>Xj s p n c x Z (h.keep hb) (by omega));have cX:=Kh (λZ (hb:Below w.heap.size w Z)=>Xj t q m d y Z (h'.keep hb) (by omega));rw[hu]at HX cT;rw[hv]at HY cX;have HG:=Kh cD;clear h h' hu hv hG cD;go_enter func173,ntmps173
 go_upto_region 1 with(fail)
 obtain⟨wc,hW,X0,X1,X2,eP⟩:=Kk w #[.bool s,.slice p n c] 84 #[.bool t,.slice q m d] 84 #[.bool false,.slice none 0 0] 84;rw[hW];have oH:w.heap.size<=wc.heap.size:=eP.size;clear hW;have U:=Kh eP;have hE:=Kh X2;have hlt:w.heap.size+1+1<wc.heap.size:=X2.lt;clear X2;go_cut [5,6]from 11 to 14 (λv5 v6 wd=>∃g5 g6,v5=.pointer (some ⟨g5,0,none⟩)/\v6=.pointer (some ⟨g6,0,none⟩)/\g5≠g6/\wc.heap.size<=g5/\wc.heap.size<=g6/\Ow wd g5 g6 (u:Int) (v:Int)/\Below wc.heap.size wc wd)
 case first=>
  have hO:wc.cell? ⟨w.heap.size,0,none⟩=some (.bool s)/\wc.cell? ⟨w.heap.size,1,none⟩=some (.slice p n c)/\wc.cell? ⟨w.heap.size+1,0,none⟩=some (.bool t)/\wc.cell? ⟨w.heap.size+1,1,none⟩=some (.slice q m d)/\Below wc.heap.size wc wc/\wc.heap.size<=wc.heap.size:=⟨X0.at_ 0 rfl,X0.at_ 1 rfl,X1.at_ 0 rfl,X1.at_ 1 rfl,Below.refl _ _,nR _⟩
  have oF:wc.drew.cell? ⟨w.heap.size,0,none⟩=some (.bool s)/\wc.drew.cell? ⟨w.heap.size,1,none⟩=some (.slice p n c)/\wc.drew.cell? ⟨w.heap.size+1,0,none⟩=some (.bool t)/\wc.drew.cell? ⟨w.heap.size+1,1,none⟩=some (.slice q m d)/\Below wc.heap.size wc wc.drew/\wc.heap.size<=wc.drew.heap.size:=Eh (Below.refl _ wc).drew hO;clear X0 X1;have M1:True:=trivial
  go_region_held3 (λZ=>Z.cell? ⟨w.heap.size,0,none⟩=some (.bool s)/\Z.cell? ⟨w.heap.size,1,none⟩=some (.slice p n c)/\Z.cell? ⟨w.heap.size+1,0,none⟩=some (.bool t)/\Z.cell? ⟨w.heap.size+1,1,none⟩=some (.slice q m d)/\Below wc.heap.size wc Z/\wc.heap.size<=Z.heap.size)
   (first|with_reducible exact oF |(refine Eh (by with_reducible assumption) ?_;assumption)|exact Eh (by go_grown) hO)
   (first
    |(go_at_call 206;clear M1;refine(cT.1 _ (U.1.trans ((Cr (by with_reducible assumption)).mono U.1.size))).mono ?_;rintro e w2 ⟨⟨s2,p2,n2,e2,rfl,bC⟩,O⟩;have cA:=Kh bC;have cG:wc.heap.size<=w2.heap.size:=nS (Gf (by with_reducible assumption)) (Below.size O);have qB:Below wc.heap.size wc w2:=Below.trans (Cr (by with_reducible assumption)) (Below.mono O (Gf (by with_reducible assumption)));(first|have fa:=nG (B:=wc.heap.size) (W:=wc.drew) (g:=wc.heap.size) rfl (nR _) O|have fa:=lK (B:=wc.heap.size) (W:=wc.drew) (g:=wc.heap.size) rfl (nR _) O|skip);(try have fb:=lK (B:=wc.heap.size) (W:=wc.drew.alloc (.cells #[.bool false,.slice none 0 0] 84)) (g:=wc.heap.size+1) (by simp) (by omega) O);clear bC)
    |(go_at_call 206;refine(cX.1 _ (U.1.trans ((Cr (by with_reducible assumption)).mono U.1.size))).mono ?_;rintro e w3 ⟨⟨s3,p3,n3,e3,rfl,bE⟩,J⟩;have I:=Kh (show Zs w3 s2 p2 n2 e2 (u:Int)/\Zs w3 s3 p3 n3 e3 (v:Int)from⟨by first|exact cA.1.keep J|exact(cA.1.keep ((Below.refl _ _).alloc (nR _) _)).keep J|exact((cA.1.keep ((Below.refl _ _).alloc (nR _) _)).keep ((Below.refl _ _).alloc (nR _) _)).keep J,bE⟩);have hX:wc.heap.size<=w3.heap.size:=nS (Gf (by with_reducible assumption)) (Below.size J);have qC:Below wc.heap.size wc w3:=Below.trans (Cr (by with_reducible assumption)) (Below.mono J (Gf (by with_reducible assumption)));(first|have V:=kK fa J|have V:=mI fa J|skip);(try have gb:=kK fb J);(first|have Y:=nG (B:=wc.heap.size) (W:=w2) (g:=w2.heap.size) rfl cG J|have Y:=lK (B:=wc.heap.size) (W:=w2) (g:=w2.heap.size) rfl cG J|skip);(try have gd:=lK (B:=wc.heap.size) (W:=w2.alloc (.cells #[.bool false,.slice none 0 0] 84)) (g:=w2.heap.size+1) (by simp) (by omega) J);(try have pS:=λo=>S8 V o);(try have pT:=λo=>S8 gb o);(try have pU:=λo=>S8 Y o);(try have gL:=λo=>S8 gd o);have pZ:=gX hX;(try have qK:=And.intro (Nat.ne_of_lt V.2.2.2.2.2.lt) (Nat.ne_of_gt V.2.2.2.2.2.lt));(try have qL:=And.intro (Nat.ne_of_lt gb.2.2.2.2.2.lt) (Nat.ne_of_gt gb.2.2.2.2.2.lt));(try have qM:=And.intro (Nat.ne_of_lt Y.2.2.2.2.2.lt) (Nat.ne_of_gt Y.2.2.2.2.2.lt));(try have qN:=And.intro (Nat.ne_of_lt gd.2.2.2.2.2.lt) (Nat.ne_of_gt gd.2.2.2.2.2.lt));(try have qI:=And.intro (Nat.ne_of_lt fa.2.2.2.2.2.lt) (Nat.ne_of_gt fa.2.2.2.2.2.lt));(try have qJ:=And.intro (Nat.ne_of_lt fb.2.2.2.2.2.lt) (Nat.ne_of_gt fb.2.2.2.2.2.lt));(try have pD:=Below.size O);(try have pE:=Below.size J);clear bE cA))
  all_goals go_wp2
  all_goals go_meet
  all_goals refine⟨_,_,rfl,rfl,?_,?_,?_,?_,?_⟩
  all_goals first
   |(with_reducible exact Nf I.1)
   |(with_reducible exact V7 I.1)
   |(with_reducible exact Ii V.2.2.2.2.2 I.1)
   |(with_reducible exact Ii gb.2.2.2.2.2 I.1)
   |(with_reducible exact Ii Y.2.2.2.2.2 I.1)
   |(with_reducible exact Ii gd.2.2.2.2.2 I.1)
   |(with_reducible exact J4 V.2.2.2.2.2 I.1)
   |(with_reducible exact J4 gb.2.2.2.2.2 I.1)
   |(with_reducible exact J4 Y.2.2.2.2.2 I.1)
   |(with_reducible exact J4 gd.2.2.2.2.2 I.1)
   |(with_reducible exact B8 (by omega) V.2.2.2.2.2 gb.2.2.2.2.2 I.1.1 I.1.2)
   |(with_reducible exact B8 (by omega) V.2.2.2.2.2 Y.2.2.2.2.2 I.1.1 I.1.2)
   |(with_reducible exact B8 (by omega) V.2.2.2.2.2 gd.2.2.2.2.2 I.1.1 I.1.2)
   |(with_reducible exact B8 (by omega) gb.2.2.2.2.2 V.2.2.2.2.2 I.1.1 I.1.2)
   |(with_reducible exact B8 (by omega) gb.2.2.2.2.2 Y.2.2.2.2.2 I.1.1 I.1.2)
   |(with_reducible exact B8 (by omega) gb.2.2.2.2.2 gd.2.2.2.2.2 I.1.1 I.1.2)
   |(with_reducible exact B8 (by omega) Y.2.2.2.2.2 V.2.2.2.2.2 I.1.1 I.1.2)
   |(with_reducible exact B8 (by omega) Y.2.2.2.2.2 gb.2.2.2.2.2 I.1.1 I.1.2)
   |(with_reducible exact B8 (by omega) Y.2.2.2.2.2 gd.2.2.2.2.2 I.1.1 I.1.2)
   |(with_reducible exact B8 (by omega) gd.2.2.2.2.2 V.2.2.2.2.2 I.1.1 I.1.2)
   |(with_reducible exact B8 (by omega) gd.2.2.2.2.2 gb.2.2.2.2.2 I.1.1 I.1.2)
   |(with_reducible exact B8 (by omega) gd.2.2.2.2.2 Y.2.2.2.2.2 I.1.1 I.1.2)
   | omega
   | go_grown
 case rest=>
  obtain⟨gx,gy,rfl,rfl,pY,pV,pW,⟨s1,p1,n1,c1,t1,q1,m1,d1,XA,XB,zx,zy⟩,gF⟩:=hcut;have pF:w.heap.size+1+1<gx:=by omega
  have pG:w.heap.size+1+1<gy:=by omega
  have XR:=bk hE gF;have hP:=U.1.trans (gF.mono U.1.size);clear cT cX X0 X1 eP oH U hE;have a1:wc.cell? ⟨gx,1,none⟩=some (.slice p1 n1 c1):=XA.at_ 1 rfl;have b1:wc.cell? ⟨gy,1,none⟩=some (.slice q1 m1 d1):=XB.at_ 1 rfl;have gN:nd u=n1:=zx.2.1;have gP:nd v=m1:=zy.2.1;have oI:n1<=2:=by have:=HX.1;omega
  have oJ:m1<=2:=by have:=HY.1;omega
  have pI:(n1:Int)<=2:=by omega
  have pJ:(m1:Int)<=2:=by omega
  have gL:Dg wc p1 c1 n1 (dg u):=by have h1:=zx.2.2;unfold Nm at h1;rw[Int.natAbs_natCast,gN]at h1;exact h1
  have hQ:Dg wc q1 d1 m1 (dg v):=by have h1:=zy.2.2;unfold Nm at h1;rw[Int.natAbs_natCast,gP]at h1;exact h1
  have dE:=λk=>S0 p1 c1 n1 (dg u) (wc.drewN k) (gL.keep (Aa (Below.refl _ _) k)) oI
  have dY:=λk=>S0 q1 d1 m1 (dg v) (wc.drewN k) (hQ.keep (Aa (Below.refl _ _) k)) oJ
  rw[show vf (dg u) n1=u by rw[<-gN,Bn]]at dE;rw[show vf (dg v) m1=v by rw[<-gP,Bn]]at dY;have hU:u<18446744073709551616:=D0 (by omega);have hV:v<18446744073709551616:=D0 (by omega);have hL:=Kh dE;have hM:=Kh dY;have hI:=Kh (And.intro hU hV);have nW:=Kh XR;have hD:=Kh hP;clear dE dY hU hV XA XB XR hP zx zy gN gP gL hQ HX HY gF;go_wp2;go_quiet (first|with_reducible exact Calls.quiet_of_same (hL.1 _)|with_reducible exact Calls.quiet_of_same (hM.1 _))
  go_wp2;go_loopw [7,8] (λv7 v8 wi=>∃x y:Nat,v7=.int .u64 x/\v8=.int .u64 y/\Nat.gcd x y=G/\Hd (x<18446744073709551616/\y<18446744073709551616)/\∃k,wi=wc.drewN k) (λ_ v8 _=>(intOf v8).toNat)
  case atStart=>exact⟨u,v,rfl,rfl,HG.1,Kh hI.1,_,rfl⟩
  case round=>
   clear HG hI hL hM;obtain⟨x,y,rfl,rfl,hg,aX,kr,rfl⟩:=hrel;by_cases hy0:y=0
   ·subst hy0
    rw[Nat.gcd_zero_right]at hg;subst hg;have HW:=Kh (λw=>Xl x w aX.1.1);clear a1 b1;go_wp2_with fail
    refine(HW.1 _).mono ?_;rintro e w4 ⟨⟨p4,c4,rfl,cC⟩,gA⟩;obtain⟨n4,bB⟩:∃n4,nd x=n4:=⟨_,rfl⟩
    have hR:Dg w4 p4 c4 n4 (dg x):=by unfold Nm at cC;rw[bB]at cC;exact cC
    have hS:=Gi false p4 c4 n4 (dg x) w4 hR (by rw[<-bB];exact nS (Bj.2 aX.1.1) (by decide:(2:Nat)<=_));rw[show vf (dg x) n4=x by rw[<-bB,Bn],Cp]at hS;rw[bB];have HS:=Kh hS;have hB:=Kh ((Aa hD.1 kr).trans (gA.mono (by simpa using hD.1.size)));have hJ:=Kh (Var2.next (Var2.of (nW.1.drewN_ kr) (NotInt.bool _) (NotInt.slice _ _ _)) gA);clear cC gA hR hS HW aX bB;go_wp2_with fail
    refine HS.1.mono ?_;rintro e w2 ⟨⟨s2,p2,n2,c2,rfl,bC⟩,O⟩;have cB:=Kh (hJ.1.next O);have nB:=bt hB O;clear O HS hB hJ;obtain⟨⟨u0,oL⟩,⟨u1,oM⟩⟩:=cB.1.cells;have f0:=cB.1.free 0;have f1:=cB.1.free 1;have bE:=bC.put2 cB.1.sts 0 1 (.bool s2) (.slice p2 n2 c2) (NotInt.bool _);have J:Below w.heap.size w ((w2.setCell ⟨w.heap.size+1+1,0,none⟩ (.bool s2)).setCell ⟨w.heap.size+1+1,1,none⟩ (.slice p2 n2 c2)):=(nB.1.setCell (by show w.heap.size<=w.heap.size+1+1;omega) _).setCell (by show w.heap.size<=w.heap.size+1+1;omega) _;have nY:=Kh bE;have nC:=Kh J;clear bC bE J;go_wp2;try simp only[Exit.inBlock,Exit.then]
    refine bodyPost_ret (by simp[results,results173,go_sem,oL,oM];try rfl) rfl ?_;exact⟨⟨s2,p2,n2,c2,rfl,nY.1⟩,nC.1⟩
   ·obtain⟨r,hr⟩:∃r,x % y=r:=⟨_,rfl⟩
    have hT:r<y:=by rw[<-hr];exact Nat.mod_lt _ (by omega)
    have qA:Int.tmod (x:Int) (y:Int)=(r:Nat):=by rw[Int.tmod_eq_emod_of_nonneg (by omega),<-hr];exact(Int.natCast_emod _ _).symm
    have pH:(x:Int) % (y:Int)=(r:Nat):=by rw[<-hr];exact(Int.natCast_emod _ _).symm
    have cF:Nat.gcd y r=G:=by rw[<-hg,<-hr,Nat.gcd_comm x y,Nat.gcd_rec y x,Nat.gcd_comm]
    have HN:=Kh cF;have qF:((y:Int) != 0)=true:=by rw[bne_iff_ne];omega
    have qD:(y:Int)≠0:=by omega
    have qE:(0:Int)<(y:Int):=by omega
    have hH:=Kh hT;clear cF hr hg hT a1 b1;go_wp2;go_quiet (fail)
    go_wp2;go_roundw
    case rel=>exact⟨y,r,rfl,rfl,HN.1,Kh ⟨aX.1.2,by have:=aX.1.2;have:=hH.1;omega⟩,_,by first|rfl|rw[L7]⟩
    case measure=>simp[intOf];exact hH.1
theorem Xn (s:Bool) (p:Option Addr) (n c:Nat) (x:Int) (t:Bool) (q:Option Addr) (m d:Nat) (y:Int) (w:World) (h:Zr w s p n c x) (h':Zr w t q m d y) (oV:n<=2) (oU:m<=2) (mC:0<y) (hZ:G3 x y=1):
  Calls prog 137 #[.agg #[.bool s,.slice p n c],.agg #[.bool t,.slice q m d]] w λe w'=>Eg w' e (Rat.divInt x y)/\Below w.heap.size w w':=by
 have hn:n<=4398046511000:=by omega
 have hm:m<=4398046511000:=by omega
 have hS:=Kh mC;have nZ:=Kh hZ;clear mC hZ;obtain⟨g,hg⟩:∃g,Int.sign y=g:=⟨_,rfl⟩
 have eP:=λI (hb:Below w.heap.size w I)=>cO t q m d y I (h'.keep hb) (by omega)
 rw[hg]at eP;have HS:=Kh eP;have pS:=Kh (nS h.size hn);have hP:=Kh (nS h'.size hm);have hN:=Kh (λI (hb:Below w.heap.size w I)=>cM s p n c x t q m d y I (h.keep hb) (h'.keep hb) oV oU);have oA:=Kh (λI (hb:Below w.heap.size w I)=>Nr s p n c x I (h.keep hb) (by omega));have oB:=Kh (λI (hb:Below w.heap.size w I)=>Nr t q m d y I (h'.keep hb) (by omega));clear h h' eP;go_enter func137,ntmps137
 go_wp2_with fail
 obtain⟨w0,mA,X0,X1,X2,gA⟩:=Kk w #[.bool s,.slice p n c] 84 #[.bool t,.slice q m d] 84 #[.bool false,.slice none 0 0,.bool false,.slice none 0 0] 86;rw[mA];have oX:w.heap.size<=w0.heap.size:=gA.size;clear mA;have cA:=Kh gA;have O:=Kh X0;have J:=Kh X1;have V:=Kh X2;clear X0 X1 X2 gA oX;refine(HS.1 _ cA.1).mono ?_;rintro e I ⟨rfl,gF⟩;have hH:=bt cA gF;have aX:=Kh gF;clear gF;by_cases hy:y=0
 ·exact absurd hy (by have:=hS.1;omega)
 ·have pX:(g==(0:Int))=false:=beq_eq_false_iff_ne.2 (by rw[<-hg];exact λh=>hy (Int.sign_eq_zero_iff_zero.1 h))
  have hlt:(g<0)↔(y<0):=by rw[<-hg];exact eD y
  have hO:=Kh hlt;have HY:=Kh hy;clear hg hlt hy;have Y0:=O.1.below_ aX.1 O.1.lt;have Y1:=J.1.below_ aX.1 J.1.lt;have a0:I.cell? ⟨w.heap.size,0,none⟩=some (.bool s):=Y0.at_ 0 rfl;have a1:I.cell? ⟨w.heap.size,1,none⟩=some (.slice p n c):=Y0.at_ 1 rfl;have b0:I.cell? ⟨w.heap.size+1,0,none⟩=some (.bool t):=Y1.at_ 0 rfl;have b1:I.cell? ⟨w.heap.size+1,1,none⟩=some (.slice q m d):=Y1.at_ 1 rfl;clear Y0 Y1;go_wp2_with fail
  refine(hN.1 _ hH.1).mono ?_;rintro e w2 ⟨⟨s6,p6,n6,c6,rfl,gS⟩,bE⟩;go_upto_region 4 with(fail)
  obtain⟨wd,mB,X5,gL⟩:=bx1 w2 #[.bool s6,.slice p6 n6 c6] 84;rw[mB];obtain⟨g5,cT⟩:∃g5,w2.heap.size=g5:=⟨_,rfl⟩
  rw[cT]at X5;try rw[cT]
  have Z:=Kh (((aX.1.trans (bE.mono aX.1.size))).trans (gL.mono (nS aX.1.size bE.size)));have bB:=Kh (cA.1.trans (Z.1.mono cA.1.size));have pW:w.heap.size+1+1<g5:=by rw[<-cT];exact nT V.1.lt (nS aX.1.size bE.size)
  have gP:g5<wd.heap.size:=X5.lt;replace O:=Kh (O.1.below_ Z.1 O.1.lt);replace J:=Kh (J.1.below_ Z.1 J.1.lt);replace V:=Kh (V.1.below_ Z.1 V.1.lt);have cD:=Kh X5;have cF:=Kh (gS.keep gL);have iL:nd (Int.gcd x y:Nat)<=4398046511000:=nS (Bv (Nat.le_of_dvd (by have:=HY.1;omega) (Nat.gcd_dvd_right x.natAbs y.natAbs))) hP.1;have pZ:n6<=4398046511000:=by rw[<-gS.2.1];exact iL
  clear gS bE gL X5 mB cT Z aX cA hH hN iL a0 a1 b0 b1;have b0:wd.cell? ⟨w.heap.size+1,0,none⟩=some (.bool t):=J.1.at_ 0 rfl;have b1:wd.cell? ⟨w.heap.size+1,1,none⟩=some (.slice q m d):=J.1.at_ 1 rfl;go_wp2_with fail
  refine(HS.1 _ bB.1).mono ?_;rintro e w3 ⟨rfl,U⟩;have hY:=U.size;replace O:=Kh (bk O U);replace J:=Kh (bk J U);replace V:=Kh (bk V U);replace cD:=Kh (bk cD U);replace cF:=Kh (cF.1.keep U);replace bB:=bt bB U;replace gP:g5<w3.heap.size:=nT gP hY;clear U hY b0 b1;go_upto_if 15 with(fail)
  obtain⟨gb,gN⟩:∃gb,decide (g<0)=gb:=⟨_,rfl⟩
  try rw[gN]
  have hM:=Kh gN;clear gN;go_cut []from 16 to 17 (λY=>∃s7 p7 n7 c7,Zs Y s7 p7 n7 c7 (G3 x y)/\Blk Y g5 84 #[.bool s7,.slice p7 n7 c7]/\Below g5 w3 Y/\w3.heap.size<=Y.heap.size)
  case first=>
   cases gb with
   | true=>exact absurd (hO.1.1 (of_decide_eq_true hM.1)) (by have:=hS.1;omega)
   | false=>
    have hlt:¬g<0:=of_decide_eq_false hM.1;have HV:=Kh (show((Int.gcd x y:Nat):Int)=G3 x y by unfold G3;rw[if_neg (λh=>hlt (hO.1.2 h))]);clear hlt;go_wp2;go_meet
    case rel=>exact⟨s6,p6,n6,c6,HV.1▸cF.1,cD.1,Below.refl _ _,nR _⟩
  case rest=>
   obtain⟨Y,rfl⟩:∃Y:World,Y=wc:=⟨_,rfl⟩
   obtain⟨s7,p7,n7,c7,gU,X5,cC,oY⟩:=hcut;replace O:=Kh (O.1.below_ cC (by omega));replace J:=Kh (J.1.below_ cC (by omega));replace V:=Kh (V.1.below_ cC (by omega));have hJ:=Kh ((bB.1).trans (cC.mono (by have:=bB.1.size;omega)):Below w.heap.size w Y);have qA:n7<=4398046511000:=by rw[<-gU.2.1];exact Vw HY.1 hP.1
   have dE:=Kh gU;have hR:=Kh X5;have hQ:=Kh (λI=>kD 1 I (by omega) (by omega));clear bB cD cF gU cC oY HS gP;obtain⟨b,hb⟩:∃b,decide (G3 x y=1)=b:=⟨_,rfl⟩
   have dC:=Kh (λI (hw:Below Y.heap.size Y I) s8 p8 n8 c8 (hz:Zs I s8 p8 n8 c8 1)=>cN s7 p7 n7 c7 (G3 x y) s8 p8 n8 c8 1 I (dE.1.keep hw) hz (by omega));rw[hb]at dC;have cX:=Kh hb;clear hb;go_upto_region 6 with(fail)
   go_cut [20]from 18 to 19 (λpJ wf=>pJ=.bool b/\Below Y.heap.size Y wf)
   case first=>
    have dY:=Md (Below.refl _ Y).drew ⟨X5.c0,X5.c1,Below.refl _ _,Below.size (show Below Y.heap.size Y Y from Below.refl _ _)⟩;clear X5;have M1:True:=trivial
    go_region_held3 (λI=>I.cell? ⟨g5,0,none⟩=some (.bool s7)/\I.cell? ⟨g5,1,none⟩=some (.slice p7 n7 c7)/\Below Y.heap.size Y I/\Y.heap.size<=I.heap.size)
     (first|with_reducible exact dY |(refine Md (by with_reducible assumption) ?_;assumption))
     (first
      |(go_at_call 176;refine(hQ.1 _).mono ?_;rintro e w8 ⟨⟨s8,p8,n8,c8,rfl,nA⟩,hX⟩;have hI:=Kh (Below.trans (J8 (by with_reducible assumption)) (Below.mono hX (Below.size (J8 (by with_reducible assumption)))));have oE:=Kh (dC.1 _ hI.1 _ _ _ _ nA);clear nA)
      |(go_at_call 175;refine oE.1.mono ?_;rintro e w9 ⟨rfl,oT⟩;have nY:=bt hI oT;clear hX))
    all_goals go_wp2
    all_goals go_meet
    all_goals exact⟨rfl,nY.1⟩
   case rest=>
    obtain⟨wf,rfl⟩:∃wf:World,wf=wc:=⟨_,rfl⟩
    obtain⟨rfl,bA⟩:=hcut;have X0:=bk O bA;have X1:=bk J bA;have X2:=bk V bA;have X5:=bk hR bA;have hL:=bt hJ bA;have oG:=Kh (dE.1.keep bA);have pT:=Kh (Qq (x:=x) HY.1);clear O J V hR dE hJ dC hQ bA;have T2:=Sts.of X2 (by intro v hv;simp at hv;rcases hv with rfl|rfl|rfl|rfl <;> first|exact NotInt.bool _|exact NotInt.slice _ _ _);cases b with
    | true=>
     have HV:=Kh (Z5 HY.1 (of_decide_eq_true cX.1));clear cX oG X5;go_upto_region 7 with(fail)
     have dY:=Da (Below.refl _ wf).drew ⟨X0.c0,X0.c1,X1.c0,X1.c1,X2.so 0,X2.free_ 0,T2,X2.so 1,X2.free_ 1,T2,X2.so 2,X2.free_ 2,T2,X2.so 3,X2.free_ 3,T2,hL.1,Below.size (show Below w.heap.size w wf from hL.1)⟩;clear X0 X1 X2 T2;have M1:True:=trivial
     go_region_held3 (λI=>I.cell? ⟨w.heap.size,0,none⟩=some (.bool s)/\I.cell? ⟨w.heap.size,1,none⟩=some (.slice p n c)/\I.cell? ⟨w.heap.size+1,0,none⟩=some (.bool t)/\I.cell? ⟨w.heap.size+1,1,none⟩=some (.slice q m d)/\I.cell? ⟨w.heap.size+1+1,0,none⟩=some (cellOf I ⟨w.heap.size+1+1,0,none⟩)/\I.frozen? ⟨w.heap.size+1+1,0,none⟩=false/\Sts I (w.heap.size+1+1)/\I.cell? ⟨w.heap.size+1+1,1,none⟩=some (cellOf I ⟨w.heap.size+1+1,1,none⟩)/\I.frozen? ⟨w.heap.size+1+1,1,none⟩=false/\Sts I (w.heap.size+1+1)/\I.cell? ⟨w.heap.size+1+1,2,none⟩=some (cellOf I ⟨w.heap.size+1+1,2,none⟩)/\I.frozen? ⟨w.heap.size+1+1,2,none⟩=false/\Sts I (w.heap.size+1+1)/\I.cell? ⟨w.heap.size+1+1,3,none⟩=some (cellOf I ⟨w.heap.size+1+1,3,none⟩)/\I.frozen? ⟨w.heap.size+1+1,3,none⟩=false/\Sts I (w.heap.size+1+1)/\Below w.heap.size w I/\w.heap.size<=I.heap.size)
      (first|with_reducible exact dY |(refine Da (by with_reducible assumption) ?_;assumption) |(refine Kb ?_ ?_ ?_ ?_ ?_ ?_ ?_ ?_ ?_ ?_ ?_ ?_ ?_ ?_ ?_ ?_ ?_ ?_ ?_ ?_ ?_ ?_ ?_ ?_ ?_ <;> first|assumption|exact NotInt.bool _|exact NotInt.slice _ _ _ |(dsimp only;omega) |(simp;done)))
      (first
       |(go_at_call 177;clear M1;refine(oA.1 _ (Cs (by with_reducible assumption))).mono ?_;rintro e w2 ⟨⟨s2,p2,n2,e2,rfl,mD⟩,bE⟩;have oF:=Kh mD;clear mD)
       |(go_at_call 177;refine(oB.1 _ (Cs (by with_reducible assumption))).mono ?_;rintro e w3 ⟨⟨s3,p3,n3,e3,rfl,mE⟩,U⟩;have oC:=Kh (show Qs w3 s2 p2 n2 e2 s3 p3 n3 e3 (Rat.divInt x y)from⟨by rw[HV.1.1];exact oF.1.keep U,by rw[HV.1.2];exact mE⟩);clear bE;obtain⟨⟨oP,hT⟩,⟨oQ,_⟩,⟨oR,_⟩,⟨oS,_⟩⟩:=Ov U (by with_reducible assumption);have oW:=Kh (oC.1.put4 hT (.bool s2) (.slice p2 n2 e2) (.bool s3) (.slice p3 n3 e3) (NotInt.bool _) (NotInt.slice _ _ _) (NotInt.bool _));clear mE hT))
     go_wp2;try simp only[Exit.inBlock,Exit.then]
     refine bodyPost_ret (by simp[results,results137,go_sem,oP,oQ,oR,oS];try rfl) rfl ?_;exact⟨⟨s2,p2,n2,e2,s3,p3,n3,e3,rfl,oW.1⟩,Cs (by assumption)⟩
    | false=>exact absurd nZ.1 (of_decide_eq_false cX.1)
theorem cR (s:Bool) (p:Option Addr) (n c:Nat) (x:Int) (t:Bool) (q:Option Addr) (m d:Nat) (y:Int) (s':Bool) (p':Option Addr) (h c':Nat) (Y:Int) (t':Bool) (q':Option Addr) (Z d':Nat) (O:Int) (w:World) (h1:Zr w s p n c x) (h2:Zr w t q m d y) (h3:Zr w s' p' h c' Y) (h4:Zr w t' q' Z d' O) (hn:n<=2199023255500) (hm:m<=2199023255500) (mC:h<=2199023255500) (mB:Z<=2199023255500) (eP:nd (x*Y).natAbs<=2) (gA:nd (y*O).natAbs<=2) (hH:0<y*O) (hD:G3 (x*Y) (y*O)=1):
  Calls prog 86 #[.agg #[.bool s,.slice p n c,.bool t,.slice q m d],.agg #[.bool s',.slice p' h c',.bool t',.slice q' Z d']] w λe w'=>Eg w' e (Rat.divInt x y*Rat.divInt Y O)/\Below w.heap.size w w':=by
 have HV:=Kh (Rat.divInt_mul_divInt x Y (d₁:=y) (d₂:=O));have dC:=Kh (λI (hb:Below w.heap.size w I)=>Xk s p n c x s' p' h c' Y I (h1.keep hb) (h3.keep hb) (by omega) (by omega));have dE:=Kh (λI (hb:Below w.heap.size w I)=>Xk t q m d y t' q' Z d' O I (h2.keep hb) (h4.keep hb) (by omega) (by omega));clear h1 h2 h3 h4;go_enter func86,ntmps86
 go_upto_region 1 with(fail)
 obtain⟨w0,cC,X0,X1,J,bY⟩:=Kk w #[.bool s,.slice p n c,.bool t,.slice q m d] 86 #[.bool s',.slice p' h c',.bool t',.slice q' Z d'] 86 #[.bool false,.slice none 0 0,.bool false,.slice none 0 0] 86;rw[cC];have hG:w.heap.size<=w0.heap.size:=bY.size;clear cC;have M1:True:=trivial;have T2:=Sts.of J (by intro v hv;simp at hv;rcases hv with rfl|rfl|rfl|rfl <;> first|exact NotInt.bool _|exact NotInt.slice _ _ _);have gS:=A6 (Below.refl _ w0).drew ⟨X0.c0,X0.c1,X0.c2,X0.c3,X1.c0,X1.c1,X1.c2,X1.c3,J.so 0,J.free_ 0,T2,J.so 1,J.free_ 1,T2,J.so 2,J.free_ 2,T2,J.so 3,J.free_ 3,T2,bY,hG⟩;clear X0 X1 J
 go_region_held3 (λI=>I.cell? ⟨w.heap.size,0,none⟩=some (.bool s)/\I.cell? ⟨w.heap.size,1,none⟩=some (.slice p n c)/\I.cell? ⟨w.heap.size,2,none⟩=some (.bool t)/\I.cell? ⟨w.heap.size,3,none⟩=some (.slice q m d)/\I.cell? ⟨w.heap.size+1,0,none⟩=some (.bool s')/\I.cell? ⟨w.heap.size+1,1,none⟩=some (.slice p' h c')/\I.cell? ⟨w.heap.size+1,2,none⟩=some (.bool t')/\I.cell? ⟨w.heap.size+1,3,none⟩=some (.slice q' Z d')/\I.cell? ⟨w.heap.size+1+1,0,none⟩=some (cellOf I ⟨w.heap.size+1+1,0,none⟩)/\I.frozen? ⟨w.heap.size+1+1,0,none⟩=false/\Sts I (w.heap.size+1+1)/\I.cell? ⟨w.heap.size+1+1,1,none⟩=some (cellOf I ⟨w.heap.size+1+1,1,none⟩)/\I.frozen? ⟨w.heap.size+1+1,1,none⟩=false/\Sts I (w.heap.size+1+1)/\I.cell? ⟨w.heap.size+1+1,2,none⟩=some (cellOf I ⟨w.heap.size+1+1,2,none⟩)/\I.frozen? ⟨w.heap.size+1+1,2,none⟩=false/\Sts I (w.heap.size+1+1)/\I.cell? ⟨w.heap.size+1+1,3,none⟩=some (cellOf I ⟨w.heap.size+1+1,3,none⟩)/\I.frozen? ⟨w.heap.size+1+1,3,none⟩=false/\Sts I (w.heap.size+1+1)/\Below w.heap.size w I/\w.heap.size<=I.heap.size)
  (first|with_reducible exact gS |(refine A6 (by with_reducible assumption) ?_;assumption) |(refine D3 ?_ ?_ ?_ ?_ ?_ ?_ ?_ ?_ ?_ ?_ ?_ ?_ ?_ ?_ ?_ ?_ ?_ ?_ ?_ ?_ ?_ ?_ ?_ ?_ ?_ ?_ ?_ ?_ ?_ ?_ ?_ ?_ ?_ ?_ ?_ ?_ ?_ ?_ ?_ ?_ ?_ <;> first|assumption|exact NotInt.bool _|exact NotInt.slice _ _ _ |(dsimp only;omega) |(simp;done)))
  (first
   |(go_at_call 138;clear M1;refine(dC.1 _ (Bg (by with_reducible assumption))).mono ?_;rintro e w2 ⟨⟨s2,p2,n2,e2,rfl,cD⟩,gU⟩;have U:=Kh cD;clear cD)
   |(go_at_call 138;refine(dE.1 _ (Bg (by with_reducible assumption))).mono ?_;rintro e w3 ⟨⟨s3,p3,n3,e3,rfl,V⟩,cA⟩;have dY:=Kh (Xn s2 p2 n2 e2 (x*Y) s3 p3 n3 e3 (y*O) w3 (U.1.keep cA).raw V.raw (by rw[<-U.1.2.1];exact eP) (by rw[<-V.2.1];exact gA) hH hD);clear V gU U)
   |(go_at_call 137;refine dY.1.mono ?_;rintro e w4 ⟨⟨s4,p4,n4,e4,t4,q4,m4,d4,rfl,cB⟩,hB⟩;clear cA;obtain⟨⟨gF,hT⟩,⟨gL,_⟩,⟨gN,_⟩,⟨gP,_⟩⟩:=Hl hB (by with_reducible assumption);have hE:=Kh (cB.put4 hT (.bool s4) (.slice p4 n4 e4) (.bool t4) (.slice q4 m4 d4) (NotInt.bool _) (NotInt.slice _ _ _) (NotInt.bool _));clear cB hT))
 go_wp2;try simp only[Exit.inBlock,Exit.then]
 refine bodyPost_ret (by simp[results,results86,go_sem,gF,gL,gN,gP];try rfl) rfl ?_;exact⟨⟨s4,p4,n4,e4,t4,q4,m4,d4,rfl,HV.1▸hE.1⟩,Bg (by assumption)⟩
theorem Z4 (x:Int):G3 x 1=1:=by
 unfold G3;rw[if_neg (by decide),Int.gcd_one_right];rfl
theorem cQ (s:Bool) (p:Option Addr) (n c:Nat) (t:Bool) (q:Option Addr) (m d:Nat) (x:Int) (s':Bool) (p':Option Addr) (n' I:Nat) (t':Bool) (q':Option Addr) (m' J:Nat) (y:Int) (w:World) (h:Qs w s p n c t q m d (x:Rat)) (h':Qs w s' p' n' I t' q' m' J (y:Rat)) (hx:nd x.natAbs<=2) (hy:nd y.natAbs<=2) (Z:nd (x*y).natAbs<=2):
  Calls prog 86 #[.agg #[.bool s,.slice p n c,.bool t,.slice q m d],.agg #[.bool s',.slice p' n' I,.bool t',.slice q' m' J]] w λe w'=>Eg w' e ((x*y:Int):Rat)/\Below w.heap.size w w':=by
 obtain⟨O,U⟩:=h;obtain⟨V,Y⟩:=h';rw[Rat.num_intCast]at O V;rw[Rat.den_intCast]at U Y;have e1:=O.2.1;have e2:=U.2.1;have e3:=V.2.1;have e4:=Y.2.1;have k:=cR s p n c x t q m d ((1:Nat):Int) s' p' n' I y t' q' m' J ((1:Nat):Int) w O.raw U.raw V.raw Y.raw (by omega) (by rw[<-e2,Int.natAbs_natCast,Ff];decide) (by omega) (by rw[<-e4,Int.natAbs_natCast,Ff];decide) Z (by decide) (by decide) (Z4 _);rw[show Rat.divInt x ((1:Nat):Int)*Rat.divInt y ((1:Nat):Int)=((x*y:Int):Rat)by rw[Rat.divInt_mul_divInt];have h:=Bl ((x*y:Int):Rat);rw[Rat.num_intCast,Rat.den_intCast]at h;exact h]at k;exact k
end
section
open Go.RowKit Eli Tryz
theorem Wm {n:Nat} (_hn:0<n):Ke n 1:=⟨1,rfl,by decide,Nat.one_dvd n,Nat.gcd_one_left _⟩
theorem Wl {n m I:Nat} (_hn:0<n) (h:Ke n m) (h':Ke n I) (hg:Nat.gcd m I=1):Ke n ((m*I:Nat):Int):=by
 obtain⟨a,ha,O,Z,V⟩:=h;obtain⟨b,hb,U,b2,Y⟩:=h';obtain rfl:m=a:=by omega
 obtain rfl:I=b:=by omega
 obtain⟨M,J⟩:=Z;have hd:I∣M:=(Nat.Coprime.dvd_of_dvd_mul_left (by rw[Nat.Coprime,Nat.gcd_comm];exact hg) (by rw[<-J];exact b2))
 obtain⟨K,hK⟩:=hd;have e1:n / m=M:=by rw[J];exact Nat.mul_div_cancel_left _ O
 have e2:n / I=m*K:=by rw[J,hK,show m*(I*K)=I*(m*K)by rw[Nat.mul_left_comm]];exact Nat.mul_div_cancel_left _ U
 have e3:n / (m*I)=K:=by rw[J,hK,<-Nat.mul_assoc];exact Nat.mul_div_cancel_left _ (Nat.mul_pos O U)
 rw[e1,hK]at V;rw[e2]at Y;have f1:Nat.gcd m K=1:=Nat.dvd_one.1 (V▸Nat.dvd_gcd (Nat.gcd_dvd_left ..) (Nat.dvd_trans (Nat.gcd_dvd_right ..) (Nat.dvd_mul_left _ _)));have f2:Nat.gcd I K=1:=Nat.dvd_one.1 (Y▸Nat.dvd_gcd (Nat.gcd_dvd_left ..) (Nat.dvd_trans (Nat.gcd_dvd_right ..) (Nat.dvd_mul_left _ _)));exact⟨m*I,rfl,Nat.mul_pos O U,⟨K,by rw[J,hK,Nat.mul_assoc]⟩,by rw[e3];exact Nat.Coprime.mul_left f1 f2⟩
theorem dR:∀n,n<73->∀v,v<12->(2*v+1)*n<=72->n ^ v<18446744073709551616:=by decide +kernel
theorem Zu {Q:Nat} (I:Q<=120) {k:Nat} (J:k<=22):hq ((((Q:Int) ^ k:Int)):Rat)<=22:=by
 rw[Ed]
 have Y:nd (((Q:Int) ^ k:Int)).natAbs<=22:=Bj.2 (by
  rw[Int.natAbs_pow,Int.natAbs_natCast];have O:Q ^ k<=120 ^ k:=Nat.pow_le_pow_left I k;have U:120 ^ k<=120 ^ 22:=Nat.pow_le_pow_right (by decide) J;have V:120 ^ 22<4294967296 ^ 22:=by decide
  omega)
 omega
theorem Wu (N K D:Int) (Q v:Nat) (w:World) (hK:K=((2*v:Nat):Int)+2) (hv:v<=11) (hQ:Q<=120) (oE:0<Q) (pG:Q ^ v<18446744073709551616):
  Calls prog 42 #[.agg #[.int .i64 N,.int .i64 K,.int .i64 D],.int .i64 Q] w λe w'=>Eg w' e ((((Q:Int) ^ v:Int)):Rat)/\Below w.heap.size w w':=by
 have hS:∀k,k<=v->nd (((Q:Int) ^ k:Int)).natAbs<=2:=λk hk=>Bj.2 (by
  rw[Int.natAbs_pow,Int.natAbs_natCast];have a1:Q ^ k<=Q ^ v:=Nat.pow_le_pow_right oE hk;have a2:(18446744073709551616:Nat)<=4294967296 ^ 2:=by decide
  omega)
 have hB:=Kh hS;have nW:=Kh (show nd (Q:Int).natAbs<=2 from Bj.2 (by rw[Int.natAbs_natCast];exact Nat.lt_of_le_of_lt hQ (by decide)));have HK:=Kh hK;clear hK hS;go_enter func42,ntmps42
 go_wp2_with fail
 obtain⟨w0,hT,XS,XR,cT⟩:=bx2 w #[.int .i64 N,.int .i64 K,.int .i64 D] 23 #[.bool false,.slice none 0 0,.bool false,.slice none 0 0] 86;rw[hT];refine(lR 1 w0 (by decide) (by decide)).mono ?_;rintro e w1 ⟨⟨s0,p0,n0,c0,t0,q0,m0,d0,rfl,hY⟩,bA⟩;obtain⟨gs,dC⟩:∃z,w.heap.size=z:=⟨_,rfl⟩
 obtain⟨gr,cX⟩:∃z,w.heap.size+1=z:=⟨_,rfl⟩
 have cF:=XS.below_ bA XS.lt;have cD:=XR.below_ bA XR.lt;have bE:=Kh (cT.trans (bA.mono cT.size));have nC:=Kh (And.intro dC cX);rw[cX]at cD ⊢;rw[dC]at cF ⊢;have Z:=Kh cF;have Y:=Kh cD;have hH:=Kh hY;clear hT XS XR cT bA cF cD dC cX hY;go_upto_region 2 with(fail)
 obtain⟨w2,hU⟩:∃z,w1.alloc (.cells #[.bool s0,.slice p0 n0 c0,.bool t0,.slice q0 m0 d0] 86)=z:=⟨_,rfl⟩
 obtain⟨X5,V⟩:=Gy w1 #[.bool s0,.slice p0 n0 c0,.bool t0,.slice q0 m0 d0] 86;rw[hU]at X5 V ⊢;obtain⟨O,hO⟩:∃z,w1.heap.size=z:=⟨_,rfl⟩
 rw[hO]at X5 ⊢;have hD:=Kh X5;have hG:=Kh (bk Z V);have hE:=Kh (bk Y V);have hI:=Kh (hH.1.keep V);have gS:=bt bE V;have cB:=Kh (And.intro (show gs≠O by have:=Z.1.lt;omega) (And.intro (show gr≠O by have:=Y.1.lt;omega) (show w.heap.size<=O by have:=bE.1.size;omega)));clear hU X5 V hO Z Y hH bE;have kq:K.tdiv 2=(v:Int)+1:=by rw[HK.1,Int.tdiv_eq_ediv_of_nonneg (by omega)];omega
 have kw:IntKind.i64.wrap ((v:Int)+1)=(v:Int)+1:=IntWalk.i64_in _ (by omega);have k1:(v:Int)+1 - 1=(v:Int):=by omega
 have k2:IntKind.i64.wrap (v:Int)=(v:Int):=IntWalk.i64_in _ (by omega);go_wp2_with fail
 go_loopw [6] (λii wr=>∃k:Nat,k<=v/\ii=.int .i64 k/\Blk wr gs 23 #[.int .i64 N,.int .i64 K,.int .i64 D]/\Blk wr gr 86 #[.bool false,.slice none 0 0,.bool false,.slice none 0 0]/\Below w.heap.size w wr/\∃s1 p1 n1 c1 t1 q1 m1 d1,Blk wr O 86 #[.bool s1,.slice p1 n1 c1,.bool t1,.slice q1 m1 d1]/\Qs wr s1 p1 n1 c1 t1 q1 m1 d1 ((((Q:Int) ^ k:Int)):Rat)) (λii _=>v - (intOf ii).toNat)
 case atStart=>exact⟨0,Nat.zero_le _,rfl,hG.1,hE.1,gS.1,s0,p0,n0,c0,t0,q0,m0,d0,hD.1,by rw[Int.pow_zero];exact hI.1⟩
 case round=>
  obtain⟨k,hk,rfl,hX,hW,hN,s1,p1,n1,c1,t1,q1,m1,d1,hV,hP⟩:=hrel;obtain⟨we,rfl⟩:∃we:World,we=wr:=⟨_,rfl⟩
  have h:=Kh hX;have I:=Kh hW;have aX:=Kh hN;have J:=Kh hV;have cC:=Kh hP;clear hX hW hN hV hP hD hI hG hE gS;have pP:=h.1.at_ 1 rfl;have r0:=J.1.at_ 0 rfl;have r1:=J.1.at_ 1 rfl;have r2:=J.1.at_ 2 rfl;have r3:=J.1.at_ 3 rfl;by_cases hlt:k<v
  ·have pF:(k:Int)<(v:Int):=by omega
   go_upto_region 5 with(fail)
   refine J2 (λW=>W.cell? ⟨O,0,none⟩=some (.bool s1)/\W.frozen? ⟨O,0,none⟩=false/\W.cell? ⟨O,1,none⟩=some (.slice p1 n1 c1)/\W.frozen? ⟨O,1,none⟩=false/\W.cell? ⟨O,2,none⟩=some (.bool t1)/\W.frozen? ⟨O,2,none⟩=false/\W.cell? ⟨O,3,none⟩=some (.slice q1 m1 d1)/\W.frozen? ⟨O,3,none⟩=false) (λW hb=>⟨Aq hb r0,Ab hb (by rw[r0];rfl) (J.1.free_ 0),Aq hb r1,Ab hb (by rw[r1];rfl) (J.1.free_ 1),Aq hb r2,Ab hb (by rw[r2];rfl) (J.1.free_ 2),Aq hb r3,Ab hb (by rw[r3];rfl) (J.1.free_ 3)⟩) (λgU hHeld0=>?_);clear r0 r1 r2 r3;refine Aj 0 ?_;refine Aj 1 ?_;refine G6 2 rfl (λK hK=>?_);focus(go_simp;refine(lR (Q:Int) _ (by omega) (by omega)).mono ?_;rintro e w2 ⟨⟨s3,p3,n3,c3,t3,q3,m3,d3,rfl,hZ⟩,hJ⟩;have bY:=Kh ((Below.refl _ we).drew.trans hJ:Below we.heap.size we w2);have nZ:=Kh hZ;clear hZ hJ;(first|with_reducible refine hK.out _ _ ?_ (λhHeld1=>?_) |(go_wp2_with fail;with_reducible refine hK.out _ _ ?_ (λhHeld1=>?_))))
   focus((try dsimp only);exact gU.1 _ bY.1)
   focus(clear hK K;(try simp only[Act.put,Bo,Bt,Bp]))
   refine G6 3 rfl (λK hK=>?_);focus(go_simp;refine(cQ s1 p1 n1 c1 t1 q1 m1 d1 ((Q:Int) ^ k) s3 p3 n3 c3 t3 q3 m3 d3 (Q:Int) _ (cC.1.keep bY.1) nZ.1 (hB.1 k (by omega)) nW.1 (hB.1 (k+1) (by omega))).mono ?_;rintro e w4 ⟨⟨s6,p6,n6,c6,t6,q6,m6,d6,rfl,iL⟩,hL⟩;have U:=bt bY hL;have X6:=J.1.below_ U.1 J.1.lt;have HP:=Kh (Cd X6 iL rfl).2.2.2.2;have nY:=Kh ((((X6.set_ 0 (.bool s6)).set_ 1 (.slice p6 n6 c6)).set_ 2 (.bool t6)).set_ 3 (.slice q6 m6 d6));have cA:=Kh (show w4.grownBy _ (some O)from(((Ad w4 O 0 (.bool s6)).trans (Ad _ O 1 (.slice p6 n6 c6))).trans (Ad _ O 2 (.bool t6))).trans (Ad _ O 3 (.slice q6 m6 d6)));clear iL hL X6;(first|with_reducible refine hK.out _ _ ?_ (λhHeld2=>?_) |(go_wp2_with fail;with_reducible refine hK.out _ _ ?_ (λhHeld2=>?_))))
   focus((try dsimp only);exact gU.1 _ U.1)
   focus(clear hK K;(try simp only[Act.put,Bo,Bt,Bp]))
   refine Js 4 rfl (λK hK=>?_);go_simp
   refine hK.out _ _ ?_;clear hK K
   (try simp only[Act.put,Bo,Bt,Bp])
   all_goals clear cC
   all_goals go_wp2
   all_goals go_roundw
   all_goals first
    | exact⟨k+1,by omega,by go_num,(h.1.below_ U.1 h.1.lt).grown_ cA.1 (λe=>by injection e with e;exact cB.1.1 e),(I.1.below_ U.1 I.1.lt).grown_ cA.1 (λe=>by injection e with e;exact cB.1.2.1 e),Ae (aX.1.trans (U.1.mono aX.1.size)) cA.1 (nS aX.1.size U.1.size) cB.1.2.2,_,_,_,_,_,_,_,_,nY.1,by rw[Int.pow_succ];exact HP.1⟩
    |(simp[intOf];omega)
  ·obtain rfl:v=k:=by omega
   have f0:=I.1.free_ 0;have f1:=I.1.free_ 1;have f2:=I.1.free_ 2;have f3:=I.1.free_ 3;have pK:=I.1.at_ 0 rfl;have pL:=I.1.at_ 1 rfl;have pM:=I.1.at_ 2 rfl;have pO:=I.1.at_ 3 rfl;obtain⟨w9,bB⟩:∃w9,(((we.setCell ⟨gr,0,none⟩ (.bool s1)).setCell ⟨gr,1,none⟩ (.slice p1 n1 c1)).setCell ⟨gr,2,none⟩ (.bool t1)).setCell ⟨gr,3,none⟩ (.slice q1 m1 d1)=w9:=⟨_,rfl⟩
   obtain⟨E0,E1,E2,E3,hR⟩:=Cd I.1 cC.1 bB;have hM:Below w.heap.size w w9:=by rw[<-bB];exact As aX.1 (by have:=nC.1;omega) _ _ _ _
   have nX:=Kh bB;have nB:=Kh (And.intro E0 (And.intro E1 (And.intro E2 E3)));have nD:=Kh hR;have nA:=Kh hM;clear E0 E1 E2 E3 hR hM bB hlt hk;go_wp2;try rw[nX.1]
   obtain⟨E0,E1,E2,E3⟩:=nB.1;try simp only[Exit.inBlock,Exit.then]
   refine bodyPost_ret (by simp[results,results42,go_sem,E0,E1,E2,E3];try rfl) rfl ?_;exact⟨⟨s1,p1,n1,c1,t1,q1,m1,d1,rfl,nD.1⟩,nA.1⟩
theorem fW (n wt:Nat) (D:Int) (w:World) (V:Tab w) (I:Pl.check n ((wt:Int)+2) D=0) (J:cntF n wt<=72):
  Calls prog 11 #[.agg #[.int .i64 n,.int .i64 ((wt:Int)+2),.int .i64 D]] w λe w'=>(∃M,e=.returned (.tuple #[.pointer (some ⟨M,0,none⟩),.int .i64 0])/\ModR w' M n wt D (frs (C9 n wt D) (cntF n wt)) (cntF n wt) (B5 (C9 n wt D) (cntF n wt) (cntF n wt)))/\Below w.heap.size w w':=by
 obtain⟨h,h2,h3,h4,_,_⟩:=Av I;refine(eX n wt D w V I J).mono ?_;rintro e w' ⟨⟨M,rfl,_,Z⟩,O⟩;exact⟨⟨M,rfl,I,rfl,nS (E8 _ _) J,Z,λj f Y U=>nS (Kv (by omega) J Y U) (by omega),λf U=>J1 (by omega) U⟩,O⟩
end
section
open Eli
theorem Oz:Pl.check ((2:Nat):Int) (((0:Nat):Int)+2) 1=0:=by decide +kernel
theorem fN:cntF 2 0=3:=by decide +kernel
theorem Nh:frs (C9 2 0 1) (cntF 2 0)=[1]:=by decide +kernel
theorem Rb:(pts 2 (2*2)).length=3:=by decide +kernel
theorem jS:ALm 2 2 0 (-1) 2 2:=⟨by decide,by decide,by decide,rfl,rfl,by decide,by decide,by decide,0,by decide,by decide,by decide⟩
theorem aZ:LiftOf 2 1 0 (-1) 1 0:=⟨by decide,by decide +kernel,by decide +kernel,by decide,by decide,by decide,by decide⟩
theorem jO:img 0 (-1) 1 0 (0,1)=(1,0):=by decide +kernel
theorem jP:img 0 (-1) 1 0 (1,0)=(0,1):=by decide +kernel
theorem jQ:img 0 (-1) 2 2 (0,1)=(-1,2):=by decide +kernel
theorem jR:img 0 (-1) 2 2 (1,0)=(0,1):=by decide +kernel
theorem jT:Ah 2 0 1 (λj=>B5 (C9 2 0 1) (cntF 2 0) (cntF 2 0) j 1) (subst (symP 0 (1 / 3) 0 (-1) 1 0) 0 2 (-(-1)) (-2) 0 (0+1)) (0,1) (-1,2)=-1:=by
 unfold symP;decide +kernel
theorem fP {γ:Nat->M4} (I:Dj 2 γ):wM 2 0 1 (frs (C9 2 0 1) (cntF 2 0)) (B5 (C9 2 0 1) (cntF 2 0) (cntF 2 0)) γ 0 (-1) 2 2 0 0=-1:=by
 have h:=fI (n:=2) (q:=2) (wt:=0) (F:=frs (C9 2 0 1) (cntF 2 0)) (X:=B5 (C9 2 0 1) (cntF 2 0) (cntF 2 0)) (γ:=γ) (i:=0) (k:=0) Oz (λf J=>J1 (by omega) J) I jS (by rw[Nh];decide) (by rw[Rb];decide) (A:=0) (B:=-1) (C:=1) (E:=0) (by rw[Nh,Rb];exact aZ);rw[<-h,Nh,Rb];show Pot (Ah 2 0 1 (λj=>B5 (C9 2 0 1) (cntF 2 0) (cntF 2 0) j 1) (subst (symP 0 (1 / 3) 0 (-1) 1 0) 0 2 (-(-1)) (-2) 0 (0+1))) (img 0 (-1) 2 2 (img 0 (-1) 1 0 (1,0))) - Pot (Ah 2 0 1 (λj=>B5 (C9 2 0 1) (cntF 2 0) (cntF 2 0) j 1) (subst (symP 0 (1 / 3) 0 (-1) 1 0) 0 2 (-(-1)) (-2) 0 (0+1))) (img 0 (-1) 2 2 (img 0 (-1) 1 0 (0,1)))=-1;rw[jO,jP,jQ,jR,Ck (x:=(-1,2)) (y:=(0,1)) (by decide) (by decide) (by decide),jT];grind
end
section
open Go.RowKit Eli Tryz
theorem bQ (z:Int) (g2 g1:Nat) (w:World) (h2:g2<w.heap.size) (h1:g1<w.heap.size) (hP:w.cell? ⟨g2,0,none⟩=some (.slice (some ⟨g1,0,none⟩) 1 1)) (hO:w.cell? ⟨g1,0,none⟩=some (.int .i64 z)) (hz:-2147483648<=z/\z<=2147483648):
  Calls prog 45 #[.slice (some ⟨g2,0,none⟩) 1 1] w λe w'=>(∃p c,e=.returned (.agg #[.int .i64 1,.int .i64 1,.slice p 1 c])/\QL (λ_=>IsQ (z:Rat)) w' (.slice p 1 c) 1)/\Below w.heap.size w w':=by
 go_enter func45,ntmps45
 go_wp2_with fail
 obtain⟨wx,hV,X0,Y0,hN⟩:=bx2 w #[.int .i64 0,.int .i64 0,.slice none 0 0] 32 #[.int .i64 1,.int .i64 0,.slice none 0 0] 32;rw[hV];obtain⟨O,cA⟩:∃x,w.heap.size=x:=⟨_,rfl⟩
 obtain⟨J,gS⟩:∃x,O+1=x:=⟨_,rfl⟩
 have hJ:=Kh cA;have dY:=Kh (show Below O w wx from cA▸hN);rw[cA]at X0 Y0 h1 h2;rw[gS]at Y0;try rw[cA]
 try rw[gS]
 have V:=Kh (show O<J by omega);have aX:=Kh X0;have HY:=Kh Y0;obtain⟨BB,gN⟩:∃x,wx.heap.size=x:=⟨_,rfl⟩
 have cF:=Kh gN;have bY:=Kh (show J<BB from gN▸Y0.lt);have hH:=Kh ((dY.1.cell (p:=⟨g2,0,none⟩) h2).trans hP);have iL:=Kh ((dY.1.cell (p:=⟨g1,0,none⟩) h1).trans hO);have nZ:=Kh hz;have gA:=Kh (And.intro h1 h2);clear hV X0 Y0 hN gN hP hO hz h1 h2 cA gS;go_loopw [4] (λii wr=>∃k:Nat,ii=.int .i64 k/\((k=0/\wr=wx)∨(k=1/\MatAt (λ_=>IsQ (z:Rat)) wr J BB 1 1 1/\wx.grownBy wr (some J)))) (λii _=>1 - (intOf ii).toNat)
 case atStart=>exact⟨0,rfl,.inl ⟨rfl,rfl⟩⟩
 case round=>
  obtain⟨k,rfl,⟨rfl,rfl⟩ |⟨rfl,bC,bA⟩⟩:=hrel
  ·have l1:=hH.1
   have y0:=HY.1.at_ 0 rfl;have y1:=HY.1.at_ 1 rfl;have q1:=HY.1.free_ 1;go_upto_region 6 with(fail)
   clear l1;obtain⟨I,U⟩:∃I,wr.setCell ⟨J,1,none⟩ (.int .i64 1)=I:=⟨_,rfl⟩
   have cX:wr.grownBy I (some J):=U▸Ad wr J 1 _;have dE:Stk NotU32 I J:=U▸Bd (Stk.of HY.1 (by intro v hv;simp at hv;rcases hv with rfl|rfl|rfl <;> exact λ_ h=>by cases h)) _ _ (λ_ h=>by cases h);have x0:I.cell? ⟨J,0,none⟩=some (.int .i64 1):=by rw[<-U,World.cell?_setCell_other _ _ _ _ (by simp)];exact y0
   have x1:I.cell? ⟨J,1,none⟩=some (.int .i64 1):=by rw[<-U];exact World.cell?_setCell_same' _ _ _ (by rw[y1];rfl)
   have x2:I.cell? ⟨J,2,none⟩=some (.slice none 0 0):=by rw[<-U,World.cell?_setCell_other _ _ _ _ (by simp)];exact HY.1.at_ 2 rfl
   have f2:I.frozen? ⟨J,2,none⟩=false:=U▸Ao (HY.1.free_ 2);have oC:I.heap.size=BB:=by rw[<-U,<-cF.1];simp
   have l1:I.cell? ⟨g2,0,none⟩=some (.slice (some ⟨g1,0,none⟩) 1 1):=cX.cell hH.1 (λe=>by injection e with e;have h1:=gA.1;have h2:=V.1;have h3:g2=J:=e;omega);have hQ:I.cell? ⟨g1,0,none⟩=some (.int .i64 z):=cX.cell iL.1 (λe=>by injection e with e;have h1:=gA.1;have h2:=V.1;have h3:g1=J:=e;omega);rw[U];have hZ:=Kh (show BB<=I.heap.size by omega);have nY:=Kh x2;have gF:=Kh (show ∀j:Nat,Bu ((λ_=>IsQ (z:Rat)) j)from λ_=>IsQ.solid _);have nA:=Kh (show MatAt (λ_=>IsQ (z:Rat)) I J BB 1 1 0 from⟨bY.1,by omega,x0,x1,⟨none,0,x2,OwnQ.nil _ _ _⟩,f2,dE⟩);have mC:=Kh cX;have nD:=Kh (λW (hb:Below I.heap.size I W)=>lS g1 1 1 (λ_=>z) W (nT (show g1<I.heap.size by have:=gA.1;have:=V.1;have:=bY.1;omega) hb.size) (λj hj=>by rw[show j=0 by omega];exact cell_next hb hQ) (λ_ _=>nZ.1) (by decide));clear U cX dE x0 x1 oC hQ y0 y1 q1;refine J2 (λW=>W.cell? ⟨g2,0,none⟩=some (.slice (some ⟨g1,0,none⟩) 1 1)/\W.cell? ⟨J,2,none⟩=some (.slice none 0 0)/\W.frozen? ⟨J,2,none⟩=false) (λW hb=>⟨Aq hb l1,Aq hb x2,Ab hb (by rw[x2];rfl) (f2)⟩) (λnW hHeld0=>?_);refine Aj 0 ?_;refine Aj 1 ?_;refine Aj 2 ?_;refine Aj 3 ?_;refine Aj 4 ?_;refine Aj 5 ?_;refine G6 6 rfl (λK hK=>?_);focus(go_simp;(refine(nD.1 I.drew (Below.refl _ I).drew).mono ?_);rintro e w5 ⟨⟨v5,rfl,hS⟩,hM⟩;obtain⟨g5,c5,rfl,_,cB⟩:=hS.row.resolve_left (λh=>absurd h.1 (by decide));have bE:=Kh ((Below.refl _ I).drew.trans hM:Below I.heap.size I w5);have cG:=Kh cB;clear hS cB hM;(first|with_reducible refine hK.out _ _ ?_ (λhHeld1=>?_) |(go_wp2_with fail;with_reducible refine hK.out _ _ ?_ (λhHeld1=>?_))))
   focus((try dsimp only);exact nW.1 _ bE.1)
   focus(clear hK K;(try simp only[Act.put,Bo,Bt,Bp]))
   refine G6 7 rfl (λK hK=>?_);focus(refine Vy (W:=w5) NotInt rfl (.tmp 21) (.tmp 26) _ 86 rfl underlying30 Gt rfl (by decide) BB 0 1 g5 c5 (.slice none 0 0) [] (Au w5 g5 (1*4)) (by rfl) (OwnK.nil _ _ _ _ _) (by rfl) (Bw _ _ _) cG.1.cells cG.1.one (by omega) (by omega) (nS hZ.1 bE.1.size) cG.1.ni lB ?_;intro v9 w9 bB Z;obtain⟨p9,c9,rfl⟩:=Ba bB.1;have nB:=Kh (OwnQ.more gF.1 (OwnK.nil _ _ _ _ _) (λj hj=>absurd hj (Nat.not_lt_zero _)) cG.1 bB Z (λj _=>rfl));obtain⟨d2,df,hR⟩:=MatAt.more gF.1 (nA.1.keep gF.1 bE.1) (cell_next bE.1 nY.1) (World.ownsRow_nil _ _ _ _) nB.1 Z;have mE:=Kh hR;have nX:=Kh (And.intro (Z.cell (cell_next bE.1 l1) (λe=>by cases e)) (And.intro d2 df));have mB:=Kh ((Er (mC.1.trans (Af J bE.1)) Z cF.1.symm (λb hb=>by cases hb)).trans (Ad w9 J 2 (.slice p9 (0+1) c9)));clear hR bB Z d2 df;(first|with_reducible refine hK.out _ _ ?_ (λhHeld2=>?_) |(go_wp2_with fail;with_reducible refine hK.out _ _ ?_ (λhHeld2=>?_))))
   focus((try dsimp only);exact nX.1)
   focus(clear hK K;(try simp only[Act.put,Bo,Bt,Bp]))
   refine Aj 8 ?_;refine Js 9 rfl (λK hK=>?_);go_simp
   refine hK.out _ _ ?_;clear hK K
   (try simp only[Act.put,Bo,Bt,Bp])
   all_goals go_wp2
   all_goals go_roundw
   all_goals first
    | exact⟨1,by go_num,.inr ⟨rfl,mE.1,mB.1⟩⟩
    |(simp[intOf];done)
  ·obtain⟨p,c,oR,gP⟩:=bC.c2
   have a0:=bC.c0;have a1:=bC.c1;have cT:O≠J:=Nat.ne_of_lt V.1;have Y:=bA.block O (by have:=cF.1;have:=bY.1;have:=V.1;omega) (λe=>by injection e with e;exact cT e);have r0:=bA.cell (aX.1.at_ 0 rfl) (λe=>by injection e with e;exact cT e);have r1:=bA.cell (aX.1.at_ 1 rfl) (λe=>by injection e with e;exact cT e);have r2:=bA.cell (aX.1.at_ 2 rfl) (λe=>by injection e with e;exact cT e);have f0:wr.frozen? ⟨O,0,none⟩=false:=(World.frozen?_of_block (a:=⟨O,0,none⟩) Y).trans (aX.1.free_ 0);have f1:wr.frozen? ⟨O,1,none⟩=false:=(World.frozen?_of_block (a:=⟨O,1,none⟩) Y).trans (aX.1.free_ 1);have f2:wr.frozen? ⟨O,2,none⟩=false:=(World.frozen?_of_block (a:=⟨O,2,none⟩) Y).trans (aX.1.free_ 2);have cC:Stk NotU32 wx O:=Stk.of aX.1 (by intro v hv;simp at hv;rcases hv with rfl|rfl|rfl <;> exact λ_ h=>by cases h);have hT:Stk NotU32 wr O:=⟨nT cC.1 bA.size,λi u hu=>cC.2 i u ((World.cell?_of_block (a:=⟨O,i,none⟩) Y).symm.trans hu)⟩
   have eP:=Kh (A9 (w:=wr) (R:=O) (v0:=.int .i64 1) (v1:=.int .i64 1) (v2:=.slice p 1 c) (by rw[r0];rfl) (by rw[r1];rfl) (by rw[r2];rfl));have mD:=Kh (Cc hT (v0:=.int .i64 1) (v1:=.int .i64 1) (v2:=.slice p 1 c) (λ_ h=>by cases h) (λ_ h=>by cases h));have hI:=Kh (((Ad wr O 0 (.int .i64 1)).trans (Ad _ O 1 (.int .i64 1))).trans (Ad _ O 2 (.slice p 1 c)));have nC:=Kh gP.ql;have mA:=Kh (Lb gP);have hG:=Kh (show Below O w wr from Ae dY.1 bA (by have:=cF.1;have:=bY.1;have:=V.1;omega) (Nat.le_of_lt V.1));clear gP Y cC hT bC bA;go_wp2;have e0:=eP.1.1;have e1:=eP.1.2.1;have e2:=eP.1.2.2;try simp only[Exit.inBlock,Exit.then]
   refine bodyPost_ret (by simp[results,results45,go_sem,e0,e1,e2];try rfl) rfl ?_;exact⟨⟨p,c,rfl,nC.1.boxed (λ_=>IsQ.solid _) mD.1 hI.1 (λa ha=>by have:=mA.1 a ha;have:=bY.1;have:=V.1;omega)⟩,by rw[hJ.1];exact Ae hG.1 hI.1 (by have:=hG.1.size;have:=hJ.1;omega) (nR _)⟩
theorem Hp (R C:Int) (v1 v2:Value) (n:Nat) (f:Nat->Rat) (w:World) (h:QL (λj=>IsQ (f j)) w v1 n) (h2:QL (λj=>IsQ (f j)) w v2 n) (hn:n<=1000000) (hf:∀j,j<n->hq (f j)<=35184372088830):
  Calls prog 17 #[.agg #[.int .i64 R,.int .i64 C,v1],.agg #[.int .i64 R,.int .i64 C,v2]] w λe w'=>e=.returned (.bool true)/\Below w.heap.size w w':=by
 obtain⟨p1,c1,rfl⟩:=Lh h;obtain⟨p2,c2,rfl⟩:=Lh h2;have Z:=Kh (λW (hb:Below w.heap.size w W)=>L5 (.slice p1 n c1) (.slice p2 n c2) n f W (h.keep (λ_=>IsQ.solid _) hb) (h2.keep (λ_=>IsQ.solid _) hb) hn hf);clear h h2 hf;go_enter func17,ntmps17
 go_upto_region 1 with(fail)
 obtain⟨w0,O,U,V,I⟩:=bx2 w #[.int .i64 R,.int .i64 C,.slice p1 n c1] 32 #[.int .i64 R,.int .i64 C,.slice p2 n c2] 32;rw[O];have a0:=U.at_ 0 rfl;have a1:=U.at_ 1 rfl;have a2:=U.at_ 2 rfl;have b0:=V.at_ 0 rfl;have b1:=V.at_ 1 rfl;have b2:=V.at_ 2 rfl;clear O U V;go_wp2_with fail
 refine(Z.1 w0 I).mono ?_;rintro e w1 ⟨rfl,J⟩;have Y:=Kh (I.trans (J.mono I.size));clear J I a0 a1 a2 b0 b1 b2;go_wp2;go_ret;exact⟨rfl,Y.1⟩
end
end Go.Proofs.YtenlbhlllgppmaaGreatDoor
