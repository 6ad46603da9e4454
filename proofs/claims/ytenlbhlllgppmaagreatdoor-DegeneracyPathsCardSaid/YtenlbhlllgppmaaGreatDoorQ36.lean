/- The law DegeneracyPaths, walked: it returns true. -/
import Derived.Test.YtenlbhlllgppmaaGreatDoorQ33
set_option linter.unusedSimpArgs false
set_option maxRecDepth 100000
set_option maxHeartbeats 8000000
namespace Go.Proofs.YtenlbhlllgppmaaGreatDoor
open Go.RowKit Eli Tryz
theorem Xu {I:Nat->Int} {H wt t:Nat} (h:∀j,hq (F8 I H j)<=4) (O:wt<=22) (J:t<=1000) (j:Nat):hq (subst (F8 I H) wt 1 (-0) (-0) t (wt+1) j)<=4000:=
 Cs (K:=4) (λi _=>h i) (C8 (by omega) (by omega)) (C8 (by omega) (by omega)) (C8 (by omega) (by omega)) (C8 (by omega) (by omega)) (by omega) (by omega)
theorem St {x:Nat->Int} {H k:Nat} (I:∀k,k<H->-128<=x k/\x k<=127):hq (F8 x H k)<=1:=by
 refine Cz (by omega) (Be.2 ?_) (Be.2 ?_)
 ·split
  ·rename_i h
   have:=I k h;omega
  ·decide
 ·omega
theorem Yh (P:Program) (x y z u:Int):∃M,(∀(H:Array TypeId) (t:TypeId) (w:World),(Builtin.max_ H t #[.int .i64 x,.int .i64 y,.int .i64 z,.int .i64 u]).run P w=.ok (.int .i64 M) w)/\x<=M/\y<=M/\z<=M/\u<=M:=by
 refine⟨(λa=>if u > a then u else a) ((λa=>if z > a then z else a) (if y > x then y else x)),λH t w=>by simp[Builtin.max_,Builtin.max2],?_⟩;dsimp only;split <;> split <;> split <;> omega
theorem Yi (P:Program) (x y:Int):∃M,(∀(H:Array TypeId) (t:TypeId) (w:World),(Builtin.min_ H t #[.int .i64 x,.int .i64 y]).run P w=.ok (.int .i64 M) w)/\M<=x/\M<=y:=by
 refine⟨if y<x then y else x,λH t w=>by simp[Builtin.min_,Builtin.min2],?_⟩;split <;> omega
theorem Zz (N k D L T:Int) (pa:Option Addr) (la ca:Nat) (xa:Nat->Int) (x1 x2 y1 y2 z1 z2 a b c d:Int) (w:World) (hT:Tab w)
  (tB:∀k,k<la->∃g o,pa=some ⟨g,o,none⟩/\g<w.heap.size/\w.cell? ⟨g,o+k,none⟩=some (.int .i8 (xa k))) (pK:∀k,k<la->-128<=xa k/\xa k<=127) (tK:-9223372036854775808<=x1) (pZ:x1<=9223372036854775807) (tL:-9223372036854775808<=x2) (qA:x2<=9223372036854775807) (tM:-9223372036854775808<=y1) (qB:y1<=9223372036854775807) (tN:-9223372036854775808<=y2) (qC:y2<=9223372036854775807) (sO:-9223372036854775808<=T) (pU:T<=9223372036854775807):
  Calls prog 4 #[.agg #[.int .i64 N,.int .i64 k,.int .i64 D,.int .i64 L,.int .i64 T],.agg #[.slice pa la ca,.int .i64 x1,.int .i64 x2,.int .i64 y1,.int .i64 y2,.int .i64 z1,.int .i64 z2,.int .i8 a,.int .i8 b,.int .i8 c,.int .i8 d]] w λe w'=>e=.returned (.bool true)/\Below w.heap.size w w':=by
 obtain⟨lb,sV,sX⟩:=Eb N k D;obtain⟨oO,pW,pX⟩:=Eb L k D;have rT:=Kh (λW=>Jw N k D L T lb oO W sV pW);have qL:=Kh (And.intro sX pX);obtain⟨MX,vI,m1,m2,m3,m4⟩:=Yh prog x1 x2 y1 y2;obtain⟨MN,vH,m5,m6⟩:=Yi prog x1 y1;have rV:=Kh (And.intro (And.intro m1 m2) (And.intro (And.intro m3 m4) (And.intro m5 m6)));have HT:=Kh hT;have sB:=Kh (And.intro sO pU);have rX:=Kh (λW (hb:Below w.heap.size w W) (m:Nat) (hm:m<=1000)=>dT pa la ca xa m W (λk hk=>by obtain⟨g,o,e,hg,hc⟩:=tB k hk;exact⟨g,o,e,kV hg hb.size,(hb.cell (p:=⟨g,o+k,none⟩) hg).trans hc⟩) pK hm);have rY:=Kh (show ∀j,hq (F8 xa la j)<=4 from λj=>kU (St pK) (by decide));have rK:=Kh (λ(M n wt:Nat) (D:Int) (F:List Nat) (C:Nat) (X:Nat->Nat->Rat) (W:World) (v:Value) (hb:Below w.heap.size w W) (hm:ModR W M n wt D F C X) (hq:QL (λj=>IsQ (F8 xa la j)) W v (wt+1))=>Gv (hT.below hb) hm v (F8 xa la) x1 x2 y1 y2 hq (λj _=>kU (St pK) (by decide)) tK pZ tL qA tM qB tN qC);clear hT sO pU tB pK sV sX pW pX m1 m2 m3 m4 m5 m6 tK pZ tL qA tM qB tN qC;go_enter func4,ntmps4
 go_wp2_with fail
 obtain⟨w0,tH,XP,XC,oV⟩:=bx2 w #[.int .i64 N,.int .i64 k,.int .i64 D,.int .i64 L,.int .i64 T] 44 #[.slice pa la ca,.int .i64 x1,.int .i64 x2,.int .i64 y1,.int .i64 y2,.int .i64 z1,.int .i64 z2,.int .i8 a,.int .i8 b,.int .i8 c,.int .i8 d] 50;rw[tH];refine(Lr w0 (HT.1.below oV)).mono ?_;rintro e wa ⟨rfl,oW⟩;obtain⟨p,hp⟩:∃x,w.heap.size=x:=⟨_,rfl⟩
 obtain⟨c',sQ⟩:∃x,w.heap.size+1=x:=⟨_,rfl⟩
 have qN:=XP.below_ oW XP.lt;have qM:=XC.below_ oW XC.lt;rw[sQ]at qM ⊢;rw[hp]at qN ⊢;have aK:=Kh qN;have hS:=Kh qM;have nU:=Kh (oV.trans (oW.mono oV.size));clear tH XP XC oV oW hp sQ qN qM;have p0:=aK.1.at_ 0 rfl;have p1:=aK.1.at_ 1 rfl;have p2:=aK.1.at_ 2 rfl;have p3:=aK.1.at_ 3 rfl;have p4:=aK.1.at_ 4 rfl;go_wp2_with fail
 refine(rT.1 wa).mono ?_;rintro e wb ⟨rfl,oX⟩;clear p0 p1 p2 p3 p4;have aL:=Kh (bk aK oX);have hU:=Kh (hS.1.below_ oX hS.1.lt);have lY:=bt nU oX;clear aK hS nU oX;have qH:=Kh (show(lb||oO)=false->lb=false/\oO=false from λh=>by cases lb <;> cases oO <;> simp at h ⊢);obtain⟨lq,sW⟩:∃lq,(lb||oO)=lq:=⟨_,rfl⟩
 rw[sW]at qH ⊢;clear sW rT;cases lq with
 | true=>
  go_wp2;go_ret;exact⟨rfl,lY.1⟩
 | false=>
  obtain⟨sT,sU⟩:=qH.1 rfl;have lQ:=Kh (And.intro (qL.1.1 sT) (qL.1.2 sU));clear sT sU qH qL;have p0:=aL.1.at_ 0 rfl;have p1:=aL.1.at_ 1 rfl;have p2:=aL.1.at_ 2 rfl;have p3:=aL.1.at_ 3 rfl;have p4:=aL.1.at_ 4 rfl;go_wp2_with fail
  refine(J0 N k D L T wb).mono ?_;rintro e wd ⟨rfl,oY⟩;clear p0 p1 p2 p3 p4;have aN:=Kh (bk aL oY);have O:=Kh (hU.1.below_ oY hU.1.lt);have cX:=bt lY oY;clear aL hU lY oY;by_cases hv:Pl.check N k D=0/\Pl.check L k D=0
  case neg=>
   rw[decide_eq_false hv];clear hv;go_wp2;go_ret;exact⟨rfl,cX.1⟩
  rw[decide_eq_true hv];have HV:=Kh hv;clear hv;have oB:=O.1.at_ 1 rfl;have oC:=O.1.at_ 2 rfl;have oD:=O.1.at_ 3 rfl;have oE:=O.1.at_ 4 rfl;by_cases hM:(400:Int)<MX
  case pos=>
   clear lQ;go_wp2;go_ret;exact⟨rfl,cX.1⟩
  by_cases hm:MN < -400
  case pos=>
   clear lQ;go_wp2;go_ret;exact⟨rfl,cX.1⟩
  have uM:=Kh (show(x1<=400/\x2<=400/\y1<=400/\y2<=400)/\-400<=x1/\-400<=y1 by have:=rV.1;omega);obtain⟨hZ,eP⟩:=HV.1;obtain⟨h1,h2,h3,h4,_,_⟩:=Aj hZ;obtain⟨h5,h6,_⟩:=Aj eP;obtain⟨n,en⟩:∃n:Nat,(n:Int)=N:=⟨N.toNat,by omega⟩
  obtain⟨wt,ek⟩:∃wt:Nat,(wt:Int)+2=k:=⟨(k - 2).toNat,by omega⟩
  obtain⟨n',oU⟩:∃n:Nat,(n:Int)=L:=⟨L.toNat,by omega⟩
  have hC:=lQ.1.1 n wt en.symm ek.symm hZ;have sK:=lQ.1.2 n' wt oU.symm ek.symm eP;rw[<-en,<-ek]at hZ;rw[<-oU,<-ek]at eP;have tJ:wt<=22:=by omega
  have tA:0<n:=by omega
  have oK:n<=120:=by omega
  have pY:0<n':=by omega
  have pF:=Gg n wt n' D T wd (HT.1.below cX.1) hZ eP hC sK;rw[en,ek,oU]at pF;have pA:Crd n wt D _ _:=J7 (n:=n) (wt:=wt) (D:=D) (by omega);have oI:∀f,f∈frs (Cb n wt D) (cntF n wt)->f<cntF n wt:=pA.low
  obtain⟨F,hF⟩:∃F,frs (Cb n wt D) (cntF n wt)=F:=⟨_,rfl⟩
  obtain⟨X,hX⟩:∃X,Bk (Cb n wt D) (cntF n wt) (cntF n wt)=X:=⟨_,rfl⟩
  obtain⟨F',sL⟩:∃F,frs (Cb n' wt D) (cntF n' wt)=F:=⟨_,rfl⟩
  obtain⟨X',sP⟩:∃X,Bk (Cb n' wt D) (cntF n' wt) (cntF n' wt)=X:=⟨_,rfl⟩
  obtain⟨C,qR⟩:∃C,cntF n wt=C:=⟨_,rfl⟩
  obtain⟨C',pQ⟩:∃C,cntF n' wt=C:=⟨_,rfl⟩
  rw[hF,hX,qR,sL,sP,pQ]at pF;rw[hF,hX]at pA;rw[hF,qR]at oI;have rW:=Kh pF;have rO:=Kh pA;have rU:=Kh oI;have rN:=Kh (And.intro hZ eP);have lP:=Kh (And.intro tJ (And.intro tA (And.intro oK pY)));have uN:=Kh ek;clear lQ HV rV h1 h2 h3 h4 h5 h6 en ek oU hC sK hZ eP tJ tA oK pY pF pA oI hF hX sL sP qR pQ;have uY:¬((400:Int)<MX):=hM;have oJ:¬(MN < -400):=hm;have p0:=aN.1.at_ 0 rfl;have p1:=aN.1.at_ 1 rfl;have p2:=aN.1.at_ 2 rfl;have p3:=aN.1.at_ 3 rfl;have p4:=aN.1.at_ 4 rfl;go_wp2_with fail
  refine rW.1.mono ?_;rintro e w2 ⟨⟨M,M',rfl,sY,sZ⟩,oZ⟩;clear rW vI vH;clear oB oC oD oE hM hm uY oJ p0 p1 p2 p3 p4;have Y:=Kh (bk aN oZ);have Z:=Kh (O.1.below_ oZ O.1.lt);have hB:=bt cX oZ;clear aN O cX oZ;have dC:=Kh sY;have aJ:=Kh sZ;clear sY sZ;obtain⟨γ,pL⟩:=G6 (n:=n) lP.1.2.1;by_cases hd:0<T/\n'*T.toNat∣n
  case neg=>
   have rJ:=Kh (λW (hm:ModR W M n wt D F C X) (oJ:ModR W M' n' wt D F' C' X')=>Js W hm oJ sB.1.1 sB.1.2 hd);clear hd pL;have p2:=Y.1.at_ 2 rfl;have p4:=Y.1.at_ 4 rfl;go_wp2_with fail
   refine(rJ.1 w2 dC.1 aJ.1).mono ?_;rintro e w3 ⟨⟨er,oG,rfl⟩,dE⟩;have vJ:(er != 0)=true:=by rw[bne_iff_ne];exact oG
   clear p4 p2;have cF:=Kh (bk Y dE);have J:=Kh (Z.1.below_ dE Z.1.lt);have hI:=Kh (dC.1.keep dE);have cA:=Kh (aJ.1.keep dE);have hD:=bt hB dE;clear Y Z dC aJ hB dE;clear rJ oG;go_wp2_with fail
   obtain⟨w4,oN⟩:∃x,w3.alloc (.cells #[.int .i64 0,.int .i64 0,.slice none 0 0] 32)=x:=⟨_,rfl⟩
   obtain⟨lM,I⟩:=Gs w3 #[.int .i64 0,.int .i64 0,.slice none 0 0] 32;rw[oN]at lM I ⊢;obtain⟨m,lR⟩:∃x,w3.heap.size=x:=⟨_,rfl⟩
   rw[lR]at lM ⊢;have oA:=Kh lM;clear oN lM lR;have bB:=Kh (bk cF I);have H:=Kh (J.1.below_ I J.1.lt);have hJ:=Kh (hI.1.keep I);have cB:=Kh (cA.1.keep I);have bE:=bt hD I;clear cF J hI cA hD I;have U:=oA;clear oA;have m0:=U.1.at_ 0 rfl;have m1:=U.1.at_ 1 rfl;have m2:=U.1.at_ 2 rfl;go_wp2_with fail
   refine(Oj 0 0 (.slice none 0 0) (.slice none 0 0) 0 (λ_=>0) w4 (.inl ⟨rfl,none,0,rfl⟩) (.inl ⟨rfl,none,0,rfl⟩) (by decide) (λj hj=>absurd hj (Nat.not_lt_zero _))).mono ?_;rintro e w5 ⟨rfl,bC⟩;clear m0 m1 m2;have lK:=Kh (bk bB bC);have cC:=Kh (H.1.below_ bC H.1.lt);have lJ:=Kh (bk U bC);have lB:=Kh (hJ.1.keep bC);have iL:=Kh (cB.1.keep bC);have hE:=bt bE bC;clear bB H U hJ cB bE bC;go_wp2;go_ret;exact⟨rfl,hE.1⟩
  obtain⟨t,et⟩:∃t:Nat,(t:Int)=T:=⟨T.toNat,by omega⟩
  obtain⟨vD,oF⟩:=hd;rw[<-et,Int.toNat_natCast]at oF;have lT:0<t:=by omega
  have lU:t<=1000:=by
   have h1:=Nat.le_of_dvd lP.1.2.1 oF;have h2:1*t<=n'*t:=Nat.mul_le_mul lP.1.2.2.2 (kT _);have h3:=lP.1.2.2.1;omega
  have qV:=λW (hb:Below w.heap.size w W) (hm:ModR W M n wt D F C X) (oJ:ModR W M' n' wt D F' C' X')=>Qc (t:=t) W (HT.1.below hb) hm oJ rU.1 pL lT lU oF
  rw[et]at qV
  have nN:∀kk,kk<F'.length->Av x1 x2=0->Av y1 y2=0->Dt (λi=>Pot (Ag n wt D (λj=>X j (F.getD i 0)) (F8 xa la)) (y1,y2) - Pot (Ag n wt D (λj=>X j (F.getD i 0)) (F8 xa la)) (x1,x2)) (dnM n n' wt D F F' X' γ t) F.length kk=Pot (Ag n' wt D (λj=>X' j (F'.getD kk 0)) (subst (F8 xa la) wt 1 (-0) (-0) t (wt+1))) (img t 0 0 1 (y1,y2)) - Pot (Ag n' wt D (λj=>X' j (F'.getD kk 0)) (subst (F8 xa la) wt 1 (-0) (-0) t (wt+1))) (img t 0 0 1 (x1,x2)):=λkk hk h1 h2=>
   Hy rN.1.1 rN.1.2 rO.1 aJ.1.rel pL lT oF hk (F8 xa la) (Qv h1) (Qv h2)
  have oQ:=Kh qV;have nQ:=Kh nN;have uS:=Kh (And.intro et (And.intro lT lU));clear vD oF qV nN et lT lU pL rO rU;obtain⟨R,hR⟩:∃R,F.length=R:=⟨_,rfl⟩
  obtain⟨L2,qS⟩:∃L,F'.length=L:=⟨_,rfl⟩
  obtain⟨RM,sN⟩:∃RM,dnM n n' wt D F F' X' γ t=RM:=⟨_,rfl⟩
  rw[hR,sN]at nQ oQ;rw[qS]at nQ oQ;have rZ:=Kh hR;have qI:=Kh qS;clear hR qS sN;have p2:=Y.1.at_ 2 rfl;have p4:=Y.1.at_ 4 rfl;go_wp2_with fail
  refine(oQ.1 w2 hB.1 dC.1 aJ.1).mono ?_;rintro e w3 ⟨⟨pT,cT,rfl,qW,tF⟩,dE⟩;clear oQ;clear p4 p2;have cF:=Kh (bk Y dE);have J:=Kh (Z.1.below_ dE Z.1.lt);have hI:=Kh (dC.1.keep dE);have cA:=Kh (aJ.1.keep dE);have hD:=bt hB dE;clear Y Z dC aJ hB dE;obtain⟨RL,qT⟩:∃x,R*L2=x:=⟨_,rfl⟩
  have sA:=Kh qT;rw[qT]at qW ⊢;have mH:=Kh (qW);have sC:=Kh tF;clear qW tF qT;go_wp2_with fail
  obtain⟨w4,oN⟩:∃x,w3.alloc (.cells #[.int .i64 R,.int .i64 L2,.slice pT RL cT] 32)=x:=⟨_,rfl⟩
  obtain⟨lM,I⟩:=Gs w3 #[.int .i64 R,.int .i64 L2,.slice pT RL cT] 32;rw[oN]at lM I ⊢;obtain⟨m,lR⟩:∃x,w3.heap.size=x:=⟨_,rfl⟩
  rw[lR]at lM ⊢;have oA:=Kh lM;clear oN lM lR;have bB:=Kh (bk cF I);have H:=Kh (J.1.below_ I J.1.lt);have hJ:=Kh (hI.1.keep I);have cB:=Kh (cA.1.keep I);have mI:=Kh (mH.1.keep (λ_=>IsQ.solid _) I);have bE:=bt hD I;clear cF J hI cA mH hD I;have U:=oA;clear oA;obtain⟨L1,sM⟩:∃L,wt+1=L:=⟨_,rfl⟩
  have vG:k - 1=(L1:Int):=by have:=uN.1;omega
  have vO:IntKind.i64.wrap (L1:Int)=(L1:Int):=IntWalk.i64_in _ (by have:=lP.1.1;omega);have qG:=Kh sM;have rR:=Kh (show L1<=1000 by have:=lP.1.1;omega);have qJ:=Kh (λW (hb:Below w4.heap.size w4 W)=>rX.1 W (bE.1.trans (hb.mono bE.1.size)) L1 rR.1);clear sM rX rR;have p1:=bB.1.at_ 1 rfl;have qO:=H.1.at_ 0 rfl;have oB:=H.1.at_ 1 rfl;have oC:=H.1.at_ 2 rfl;have oD:=H.1.at_ 3 rfl;have oE:=H.1.at_ 4 rfl;go_upto_region 11 with(fail)
  go_cut [10]from 75 to 86 (λv9 wx=>∃gp p5 c5,v9=.pointer (some ⟨gp,0,none⟩)/\Blk wx gp 57 #[.slice p5 L1 c5,.int .i64 x1,.int .i64 x2,.int .i64 y1,.int .i64 y2]/\QL (λj=>IsQ (F8 xa la j)) wx (.slice p5 L1 c5) L1/\Below w4.heap.size w4 wx)
  case first=>
   refine iW [] (λW=>W.cell? ⟨c',0,none⟩=some (.slice pa la ca)/\W.cell? ⟨p,1,none⟩=some (.int .i64 k)/\W.cell? ⟨c',1,none⟩=some (.int .i64 x1)/\W.cell? ⟨c',2,none⟩=some (.int .i64 x2)/\W.cell? ⟨c',3,none⟩=some (.int .i64 y1)/\W.cell? ⟨c',4,none⟩=some (.int .i64 y2)) (λW hb=>⟨Au hb qO,Au hb p1,Au hb oB,Au hb oC,Au hb oD,Au hb oE⟩) (λoR hHeld0=>?_);clear p1 qO oB oC oD oE;refine De 0 ?_;refine De 1 ?_;refine De 2 ?_;refine De 3 ?_;refine De 4 ?_;refine De 5 ?_;refine De 7 ?_;refine De 8 ?_;refine De 9 ?_;refine De 10 ?_;refine iN 6 12 rfl rfl (λK hK=>?_) (λK hK=>?_)
   ·focus(go_simp;refine(qJ.1 _ (Below.refl _ w4).drew).mono ?_;rintro e w7 ⟨⟨v7,rfl,lS⟩,bA⟩;obtain⟨p7,c7,rfl⟩:=Fk lS.ql;have lO:=Kh ((Below.refl _ w4).drew.trans bA:Below w4.heap.size w4 w7);have qK:=Kh lS.ql;clear lS bA;(first|with_reducible refine hK.out _ _ ?_ (λhHeld1=>?_) |(go_wp2_with fail;with_reducible refine hK.out _ _ ?_ (λhHeld1=>?_))))
    focus((try dsimp only);exact oR.1 _ lO.1)
    focus(clear hK K;(try simp only[Act.put,Br,Bt,Bs]))
    refine De 11 ?_;refine iY 12 rfl (λK hK=>?_);focus(go_simp;refine hK.out _ _ ?_ (λhHeld2=>?_))
    focus((try dsimp only);exact oR.1 _ (lO.1.alloc lO.1.size _))
    focus(clear hK K;(try simp only[Act.put,Br,Bt,Bs]))
    refine kI 13 rfl (λK hK=>?_);go_simp
    refine hK.out _ _ ?_;clear hK K
    (try simp only[Act.put,Br,Bt,Bs])
    go_wp2;go_meet
    exact⟨w7.heap.size,p7,c7,rfl,Blk.new w7 57 #[.slice p7 L1 c7,.int .i64 x1,.int .i64 x2,.int .i64 y1,.int .i64 y2],qK.1.keep (λ_=>IsQ.solid _) ((Below.refl _ _).alloc (kT _) _),lO.1.alloc lO.1.size _⟩
   ·focus(go_simp;refine hK.out _ _ ?_ (λhHeld1=>?_))
    focus((try dsimp only);exact oR.1 _ ((Below.refl _ w4).drew.alloc (kT _) _))
    focus(clear hK K;(try simp only[Act.put,Br,Bt,Bs]))
    refine iY 6 rfl (λK hK=>?_);focus(go_simp;refine(qJ.1 _ ((Below.refl _ w4).drew.alloc (kT _) _)).mono ?_;rintro e w7 ⟨⟨v7,rfl,lS⟩,bA⟩;obtain⟨p7,c7,rfl⟩:=Fk lS.ql;have lO:=Kh (((Below.refl _ w4).drew.alloc (kT _) _).trans (bA.mono (by simp)):Below w4.heap.size w4 w7);have qK:=Kh lS.ql;have uO:=Kh lS.fromO;have gN:=Kh (show Blk w7 w4.heap.size 57 #[.slice none 0 0,.int .i64 0,.int .i64 0,.int .i64 0,.int .i64 0]from(Blk.new w4.drew 57 #[.slice none 0 0,.int .i64 0,.int .i64 0,.int .i64 0,.int .i64 0]).below_ bA (by simp));clear lS bA;(first|with_reducible refine hK.out _ _ ?_ (λhHeld2=>?_) |(go_wp2_with fail;with_reducible refine hK.out _ _ ?_ (λhHeld2=>?_))))
    focus((try dsimp only);exact oR.1 _ lO.1)
    focus(clear hK K;(try simp only[Act.put,Br,Bt,Bs]))
    refine De 11 ?_;have n0:=gN.1.at_ 0 rfl;have n1:=gN.1.at_ 1 rfl;have n2:=gN.1.at_ 2 rfl;have n3:=gN.1.at_ 3 rfl;have n4:=gN.1.at_ 4 rfl;have xD:=gN.1.free_ 0;have xE:=gN.1.free_ 1;have xF:=gN.1.free_ 2;have xG:=gN.1.free_ 3;have xH:=gN.1.free_ 4;refine kI 13 rfl (λK hK=>?_);go_simp
    refine hK.out _ _ ?_;clear hK K
    (try simp only[Act.put,Br,Bt,Bs])
    go_wp2;go_meet
    have vK:Stk NotU32 w7 w4.heap.size:=Stk.of gN.1 (by intro v hv;simp at hv;rcases hv with rfl|rfl|rfl|rfl|rfl <;> exact λ_ h=>by cases h);have oH:w4.heap.size<=w4.heap.size:=kT _;exact⟨w4.heap.size,p7,c7,rfl,((((gN.1.set_ 0 (.slice p7 L1 c7)).set_ 1 (.int .i64 x1)).set_ 2 (.int .i64 x2)).set_ 3 (.int .i64 y1)).set_ 4 (.int .i64 y2),qK.1.boxed (λ_=>IsQ.solid _) (I32.path vK p7 L1 c7 x1 x2 y1 y2) (Jr w7 w4.heap.size _ _ _ _ _) (λe he=>by have h7:=uO.1 e he;(try simp only[World.alloc,World.drew,Array.size_push]at h7);omega),((((lO.1.setCell (p:=⟨w4.heap.size,0,none⟩) oH _).setCell (p:=⟨w4.heap.size,1,none⟩) oH _).setCell (p:=⟨w4.heap.size,2,none⟩) oH _).setCell (p:=⟨w4.heap.size,3,none⟩) oH _).setCell (p:=⟨w4.heap.size,4,none⟩) oH _⟩
  obtain⟨q,p5,sJ,rfl,XQ,tC,bC⟩:=hcut;obtain⟨w5,rfl⟩:∃w5:World,w5=wc:=⟨_,rfl⟩
  clear qJ vG vO;clear p1 qO oB oC oD oE;have lK:=Kh (bk bB bC);have cC:=Kh (H.1.below_ bC H.1.lt);have lJ:=Kh (bk U bC);have lB:=Kh (hJ.1.keep bC);have iL:=Kh (cB.1.keep bC);have mJ:=Kh (mI.1.keep (λ_=>IsQ.solid _) bC);have hE:=bt bE bC;clear bB H U hJ cB mI bE bC;have aT:=Kh XQ;have lC:=Kh tC;clear XQ tC;have rM:=Kh (rK.1 M n wt D F C X w5 (.slice p5 L1 sJ) hE.1 lB.1 (by rw[qG.1];exact lC.1));clear rK;have q0:=aT.1.at_ 0 rfl;have q1:=aT.1.at_ 1 rfl;have q2:=aT.1.at_ 2 rfl;have q3:=aT.1.at_ 3 rfl;have q4:=aT.1.at_ 4 rfl;go_wp2_with fail
  refine rM.1.mono ?_;rintro e w6 ⟨oL,bA⟩;clear rM;clear q0 q1 q2 q3 q4;have lL:=Kh (bk lK bA);have hL:=Kh (cC.1.below_ bA cC.1.lt);have mW:=Kh (bk lJ bA);have aU:=Kh (bk aT bA);have nV:=Kh (lB.1.keep bA);have mB:=Kh (iL.1.keep bA);have mK:=Kh (mJ.1.keep (λ_=>IsQ.solid _) bA);have lD:=Kh (lC.1.keep (λ_=>IsQ.solid _) bA);have lW:=bt hE bA;clear lK cC lJ aT lB iL mJ lC hE bA;rcases oL with⟨_,er,oG,rfl⟩ |⟨⟨pD,pE⟩,gv,rfl,_,oL,qZ⟩
  ·have vJ:(er != 0)=true:=by rw[bne_iff_ne];exact oG
   clear oG;go_wp2;go_ret;exact⟨rfl,lW.1⟩
  obtain⟨V,hV⟩:∃V:Nat->Rat,(λi=>Pot (Ag n wt D (λj=>X j (F.getD i 0)) (F8 xa la)) (y1,y2) - Pot (Ag n wt D (λj=>X j (F.getD i 0)) (F8 xa la)) (x1,x2))=V:=⟨_,rfl⟩
  have qU:∀i,Pot (Ag n wt D (λj=>X j (F.getD i 0)) (F8 xa la)) (y1,y2) - Pot (Ag n wt D (λj=>X j (F.getD i 0)) (F8 xa la)) (x1,x2)=V i:=λi=>congrFun hV i
  rw[hV]at nQ;rw[rZ.1]at oL qZ ⊢;have mR:=Kh (show QRow (λj=>IsQ (V j)) w6 gv R R from oL.congr (λj _=>by rw[qU]));have sD:=Kh (show ∀j,j<R->hq (V j)<=430000000 from λj hj=>by rw[<-qU];exact qZ j hj);have vC:=uM.1
  have vP:0<=x2:=by
   have h:=pD;unfold Av at h;split at h
   ·omega
   ·omega
  have vQ:0<=y2:=by
   have h:=pE;unfold Av at h;split at h
   ·omega
   ·omega
  obtain⟨et,lT,lU⟩:=uS.1;obtain⟨ex,pB,bx1,bx2⟩:=I4 (x:=(x1,x2)) lT lU pD (show x1.natAbs<=20000 by omega) (show x2.natAbs<=20000 by omega);obtain⟨ey,pC,sG,sH⟩:=I4 (x:=(y1,y2)) lT lU pE (show y1.natAbs<=20000 by omega) (show y2.natAbs<=20000 by omega);have oS:=Kh (λkk hk=>nQ.1 kk hk pD pE);obtain⟨u,hu⟩:∃u,img (t:Int) 0 0 1 (x1,x2)=u:=⟨_,rfl⟩
  obtain⟨v,hv⟩:∃v,img (t:Int) 0 0 1 (y1,y2)=v:=⟨_,rfl⟩
  rw[hu]at ex pB bx1 bx2;rw[hv]at ey pC sG sH;rw[hu,hv]at oS;have qY:∀j,hq (subst (F8 xa la) wt 1 (-0) (-0) t (wt+1) j)<=4000:=λj=>Xu rY.1 lP.1.1 lU j
  have nM:=Kh (λW (hb:Below w6.heap.size w6 W)=>(El 4 (by decide) (by decide) (.slice p5 L1 sJ) (wt+1) (λi=>(F8 xa la i).num) (λi=>((F8 xa la i).den:Int)) x1 x2 y1 y2 t 0 0 1 W (by rw[qG.1];exact(lD.1.keep (λ_=>IsQ.solid _) hb).isB (λi _=>rY.1 i)) (by omega) (by have:=lP.1.1;omega) (by omega) (by omega) (by decide) (by decide) (by decide) (by decide) (by decide) (by decide) (by omega) (by omega) (by omega) (by omega) (by omega) (by omega) (by omega) (by omega) (by omega)));have he:cZ (t:Int) 0 0 1 x1 x2 y1 y2=0:=by unfold cZ;rw[ex,ey];rfl
  rw[ex,ey,he,show(λi=>Rat.divInt (F8 xa la i).num ((F8 xa la i).den:Int))=F8 xa la from funext λi=>Rat.num_divInt_den _,Nat.add_sub_cancel]at nM;obtain⟨G,hG⟩:∃G,subst (F8 xa la) wt 1 (-0) (-0) (t:Int) (wt+1)=G:=⟨_,rfl⟩
  rw[hG]at nM qY oS;obtain⟨u0,pG⟩:∃i,u.1=i:=⟨_,rfl⟩
  obtain⟨u1,pH⟩:∃i,u.2=i:=⟨_,rfl⟩
  obtain⟨v0,pI⟩:∃i,v.1=i:=⟨_,rfl⟩
  obtain⟨v1,hv1⟩:∃i,v.2=i:=⟨_,rfl⟩
  have vM:(-1073741824<=u0/\u0<=1073741824)/\(-1073741824<=u1/\u1<=1073741824)/\(-1073741824<=v0/\v0<=1073741824)/\(-1073741824<=v1/\v1<=1073741824):=by
   rw[<-pG,<-pH,<-pI,<-hv1];omega
  have nZ:=Kh (show u=(u0,u1)/\v=(v0,v1)from⟨by rw[<-pG,<-pH],by rw[<-pI,<-hv1]⟩);rw[pG,pH]at pB;rw[pI,hv1]at pC;rw[et]at nM;have rP:=Kh (And.intro pB pC);have qE:=Kh (λW (hb:Below w.heap.size w W) (hm:ModR W M' n' wt D F' C' X') vq vN=>Gv (HT.1.below hb) hm vq G u0 u1 v0 v1 vN (λj _=>qY j) (by omega) (by omega) (by omega) (by omega) (by omega) (by omega) (by omega) (by omega));clear oL qZ hV qU vC vP vQ et lT lU ex pB bx1 bx2 ey pC sG sH hu hv qY he hG pG pH pI hv1 vM pD pE nQ;rw[qG.1]at nM qE;have q0:=aU.1.at_ 0 rfl;have q1:=aU.1.at_ 1 rfl;have q2:=aU.1.at_ 2 rfl;have q3:=aU.1.at_ 3 rfl;have q4:=aU.1.at_ 4 rfl;have p4:=lL.1.at_ 4 rfl;have pO:=Kh (nM.1 w6 (Below.refl _ w6));clear nM;go_wp2_with fail
  refine pO.1.mono ?_;rintro e w7 ⟨tD,hW⟩;obtain⟨_,g8,nK,rfl,vE,oM⟩:=tD.resolve_left (λh=>h.1 rfl);dsimp only;rw[nZ.1.1,nZ.1.2];dsimp only;clear pO tD;clear q0 q1 q2 q3 q4 p4;have nA:=Kh (bk lL hW);have hN:=Kh (hL.1.below_ hW hL.1.lt);have mX:=Kh (bk mW hW);have nE:=Kh (bk aU hW);have nW:=Kh (nV.1.keep hW);have mC:=Kh (mB.1.keep hW);have mL:=Kh (mK.1.keep (λ_=>IsQ.solid _) hW);have mD:=Kh (lD.1.keep (λ_=>IsQ.solid _) hW);have mS:=Kh (mR.1.keep (λ_=>IsQ.solid _) hW);have nR:=bt lW hW;clear lL hL mW aU nV mB mK lD mR lW hW;have mO:=Kh oM;clear oM vE;go_wp2_with fail
  obtain⟨w8,tI⟩:∃x,w7.alloc (.cells #[.slice (some ⟨g8,0,none⟩) L1 nK,.int .i64 u0,.int .i64 u1,.int .i64 v0,.int .i64 v1] 57)=x:=⟨_,rfl⟩
  obtain⟨oT,aD⟩:=Gs w7 #[.slice (some ⟨g8,0,none⟩) L1 nK,.int .i64 u0,.int .i64 u1,.int .i64 v0,.int .i64 v1] 57;rw[tI]at oT aD ⊢;obtain⟨y,pV⟩:∃x,w7.heap.size=x:=⟨_,rfl⟩
  rw[pV]at oT ⊢;have sF:=Kh oT;clear tI oT pV;have nB:=Kh (bk nA aD);have hO:=Kh (hN.1.below_ aD hN.1.lt);have mY:=Kh (bk mX aD);have nF:=Kh (bk nE aD);have nX:=Kh (nW.1.keep aD);have kY:=Kh (mC.1.keep aD);have mM:=Kh (mL.1.keep (λ_=>IsQ.solid _) aD);have mE:=Kh (mD.1.keep (λ_=>IsQ.solid _) aD);have mT:=Kh (mS.1.keep (λ_=>IsQ.solid _) aD);have lF:=Kh (mO.1.keep (λ_=>IsQ.solid _) aD);have lX:=bt nR aD;clear nA hN mX nE nW mC mL mD mS mO nR aD;have aX:=sF;clear sF;have rL:=Kh (qE.1 w8 lX.1 kY.1 (.slice (some ⟨g8,0,none⟩) L1 nK) (lF.1.ql nK));clear qE;have y0:=aX.1.at_ 0 rfl;have y1:=aX.1.at_ 1 rfl;have y2:=aX.1.at_ 2 rfl;have y3:=aX.1.at_ 3 rfl;have y4:=aX.1.at_ 4 rfl;go_wp2_with fail
  refine rL.1.mono ?_;rintro e w9 ⟨sR,dY⟩
  obtain⟨_,gw,rfl,_,qX,rA⟩:=sR.resolve_left (λh=>by
   rcases h.1 with h1|h1
   ·exact h1 rP.1.1
   ·exact h1 rP.1.2)
  rw[qI.1]at qX rA ⊢;clear rL sR;clear y0 y1 y2 y3 y4;have nC:=Kh (bk nB dY);have hP:=Kh (hO.1.below_ dY hO.1.lt);have cD:=Kh (bk mY dY);have nG:=Kh (bk nF dY);have nI:=Kh (bk aX dY);have lZ:=Kh (nX.1.keep dY);have kZ:=Kh (kY.1.keep dY);have lE:=Kh (mM.1.keep (λ_=>IsQ.solid _) dY);have mF:=Kh (mE.1.keep (λ_=>IsQ.solid _) dY);have lG:=Kh (mT.1.keep (λ_=>IsQ.solid _) dY);have mP:=Kh (lF.1.keep (λ_=>IsQ.solid _) dY);have nS:=bt lX dY;clear nB hO mY nF aX nX kY mM mE mT lF lX dY;have pJ:=oS.1;rw[nZ.1.1,nZ.1.2]at pJ;have mV:=Kh (show QRow (λq=>IsQ (Dt V RM R q)) w9 gw L2 L2 from qX.congr (λq hq=>by rw[pJ q hq]));have uR:=Kh (show ∀q,q<L2->hq (Dt V RM R q)<=430000000 from λq hq=>by rw[pJ q hq];exact rA q hq);have pS:R<=72:=by have:=lZ.1.len;rw[rZ.1]at this;exact this
  have pR:L2<=72:=by have:=kZ.1.len;rw[qI.1]at this;exact this
  have nN:=Od R L2 pT cT V RM (.slice (some ⟨gv,0,none⟩) R R) w9 (by rw[sA.1];exact lE.1) (lG.1.ql R) pS (by omega) sD.1 sC.1;rw[sA.1]at nN;have rI:=Kh nN;have qF:=Kh (λW (hm:ModR W M' n' wt D F' C' X')=>Ln M' W.heap.size n' ((wt:Int)+2) D F' C' X' W hm.mod);rw[qI.1]at qF;have rS:=Kh pR;clear pJ qX rA nN pS pR oS nZ sD sC;have m0:=cD.1.at_ 0 rfl;have m1:=cD.1.at_ 1 rfl;have m2:=cD.1.at_ 2 rfl;go_wp2_with fail
  refine rI.1.mono ?_;rintro e wA ⟨⟨gz,rfl,_,tE⟩,cG⟩;clear rI;clear m0 m1 m2;have nD:=Kh (bk nC cG);have hQ:=Kh (hP.1.below_ cG hP.1.lt);have mZ:=Kh (bk cD cG);have nH:=Kh (bk nG cG);have nJ:=Kh (bk nI cG);have nY:=Kh (lZ.1.keep cG);have lA:=Kh (kZ.1.keep cG);have mN:=Kh (lE.1.keep (λ_=>IsQ.solid _) cG);have mG:=Kh (mF.1.keep (λ_=>IsQ.solid _) cG);have mU:=Kh (lG.1.keep (λ_=>IsQ.solid _) cG);have mQ:=Kh (mP.1.keep (λ_=>IsQ.solid _) cG);have lH:=Kh (mV.1.keep (λ_=>IsQ.solid _) cG);have nT:=bt nS cG;clear nC hP cD nG nI lZ kZ lE mF lG mP mV nS cG;have lI:=Kh tE;clear tE;have rQ:=Kh (qF.1 wA lA.1);clear qF;go_wp2_with fail
  refine rQ.1.mono ?_;rintro e w' ⟨rfl,tG⟩;obtain rfl:wA=w':=tG.symm;clear tG rQ;have uQ:=Kh (Dz (.slice (some ⟨gz,0,none⟩) L2 L2) (.slice (some ⟨gw,0,none⟩) L2 L2) L2 (λq=>Dt V RM R q) wA (lI.1.ql L2) (lH.1.ql L2) (by have:=rS.1;omega) (λq hq=>kU (uR.1 q hq) (by decide)));go_wp2_with fail
  refine uQ.1.mono ?_;rintro e wB ⟨rfl,bY⟩;have uC:=Kh (bk nD bY);have sE:=Kh (hQ.1.below_ bY hQ.1.lt);have uB:=Kh (bk mZ bY);have uD:=Kh (bk nH bY);have uE:=Kh (bk nJ bY);have uP:=Kh (nY.1.keep bY);have tT:=Kh (lA.1.keep bY);have tV:=Kh (mN.1.keep (λ_=>IsQ.solid _) bY);have tU:=Kh (mG.1.keep (λ_=>IsQ.solid _) bY);have tX:=Kh (mU.1.keep (λ_=>IsQ.solid _) bY);have tW:=Kh (mQ.1.keep (λ_=>IsQ.solid _) bY);have tY:=Kh (lH.1.keep (λ_=>IsQ.solid _) bY);have tZ:=Kh (lI.1.keep (λ_=>IsQ.solid _) bY);have qD:=bt nT bY;clear nD hQ mZ nH nJ nY lA mN mG mU mQ lH lI nT bY;go_wp2;go_ret;exact⟨rfl,qD.1⟩
end Go.Proofs.YtenlbhlllgppmaaGreatDoor
