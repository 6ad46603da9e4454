/- Contract of moved: a symbol times a matrix, as a vector. -/
import Derived.Test.YtenlbhlllgppmaaGreatDoorA21
set_option linter.unusedSimpArgs false
set_option maxRecDepth 100000
set_option maxHeartbeats 8000000
namespace Go.Proofs.YtenlbhlllgppmaaGreatDoor
section
open Go.RowKit Tryz
def Xd (m ix:Nat) (sg:Int) (h:Nat->Int) (k c:Nat):Int:=if c % m=ix/\c / m<k then sg*h (c / m)else 0
theorem Xe (m I:Nat) (sg:Int) (h:Nat->Int) (c:Nat):Xd m I sg h 0 c=0:=by unfold Xd;rw[if_neg (λh=>Nat.not_lt_zero _ h.2)]
theorem aR {m I:Nat} {sg:Int} {h:Nat->Int} {k c:Nat} (J:c≠k*m+I):Xd m I sg h k c=Xd m I sg h (k+1) c:=by
 unfold Xd;by_cases h1:c % m=I
 ·by_cases h2:c / m<k
  ·rw[if_pos ⟨h1,h2⟩,if_pos ⟨h1,by omega⟩]
  ·have M:c / m≠k:=λe=>J (by have:=Nat.div_add_mod c m;rw[e,h1,Nat.mul_comm]at this;exact this.symm)
   rw[if_neg (λh=>h2 h.2),if_neg (λh=>by have:=h.2;omega)]
 ·rw[if_neg (λh=>h1 h.1),if_neg (λh=>h1 h.1)]
theorem eS {m I:Nat} (sg:Int) (h:Nat->Int) {k:Nat} (J:I<m):Xd m I sg h (k+1) (k*m+I)=sg*h k:=by
 unfold Xd;have M:(k*m+I) % m=I:=by rw[Nat.mul_comm,Nat.mul_add_mod,Nat.mod_eq_of_lt J]
 have O:(k*m+I) / m=k:=by rw[Nat.mul_comm,Nat.mul_add_div (by omega),Nat.div_eq_of_lt J,Nat.add_zero]
 rw[if_pos ⟨M,by omega⟩,O]
theorem Vy (T B n wt:Nat) (L:List Nat) (f:Nat->Nat×Int) (i j:Nat) (a b c d:Int) (w:World) (h:WorldAt w T B n wt L f) (hB:B<=w.heap.size) (h0:0<n) (hn:n<=120) (sS:wt<=22) (hj:j<L.length) (hL:L.length<=14400) (qJ:∀x,x∈L->x<n*n) (hf:TabOk L.length f)
  (ha:-1073741824<=a) (qM:a<=1073741824) (V:-1073741824<=b) (qN:b<=1073741824) (hc:-1073741824<=c) (qQ:c<=1073741824) (hd:-1073741824<=d) (qR:d<=1073741824):
  Calls prog 93 #[.pointer (some ⟨T,0,none⟩),.int .i64 i,.int .i64 j,.agg #[.int .i64 a,.int .i64 b,.int .i64 c,.int .i64 d]] w λe w'=>(∃g,e=.returned (.slice (some ⟨g,0,none⟩) (((wt+1)*L.length:Nat)) (((wt+1)*L.length:Nat)))/\w.heap.size<=g/\ZRow (L8 n wt L f i j (a,b,c,d)) w' g ((wt+1)*L.length) ((wt+1)*L.length))/\Below w.heap.size w w':=by
 obtain⟨CC,hN⟩:∃x,(wt+1)*L.length=x:=⟨_,rfl⟩
 have uL:CC<=331200:=by rw[<-hN];exact Nat.mul_le_mul (by omega:wt+1<=23) hL
 obtain⟨aj,mC⟩:∃x,L[j]?=some x:=⟨_,List.getElem?_eq_getElem hj⟩
 have mZ:=qJ aj (List.mem_of_getElem? mC);have qU:L.getD j 0=aj:=by rw[List.getD_eq_getElem?_getD,mC];rfl
 obtain⟨u,hu⟩:∃x,aj / n=x:=⟨_,rfl⟩
 obtain⟨v,hv⟩:∃x,aj % n=x:=⟨_,rfl⟩
 have uR:u<n:=by rw[<-hu];exact Nat.div_lt_of_lt_mul mZ
 have uS:v<n:=by rw[<-hv];exact Nat.mod_lt _ h0
 have hJ:∀x:Int,∃r:Nat,x % (n:Int)=r/\r<n:=λx=>⟨(x % n).toNat,by have:=Int.emod_nonneg x (show(n:Int)≠0 by omega);omega,by have:=Int.emod_nonneg x (show(n:Int)≠0 by omega);have:=Int.emod_lt_of_pos x (show(0:Int)<n by omega);omega⟩
 obtain⟨ra,hT,tL⟩:=hJ a;obtain⟨rb,bA,tM⟩:=hJ b;obtain⟨rc,oI,tN⟩:=hJ c;obtain⟨rd,oJ,tO⟩:=hJ d;obtain⟨X,hX⟩:∃x:Nat,u*ra+v*rc=x:=⟨_,rfl⟩
 obtain⟨Y,hY⟩:∃x:Nat,u*rb+v*rd=x:=⟨_,rfl⟩
 obtain⟨pp,mN⟩:∃pp,f ((((X:Int) % n).toNat)*n+(((Y:Int) % n).toNat))=pp:=⟨_,rfl⟩
 have oG:=hf ((((X:Int) % n).toNat)*n+(((Y:Int) % n).toNat));rw[mN]at oG
 have pS:=Kh (show L8 n wt L f i j (a,b,c,d)=λk=>if pp.2=0 then 0 else if k % L.length=pp.1/\k / L.length<=wt then pp.2*mv i a b c d wt (k / L.length)else 0 by
  unfold L8;dsimp only;rw[qU,hu,hv,hT,bA,oI,oJ];have e1:((u:Nat):Int)*(ra:Int)+(v:Int)*(rc:Int)=(X:Nat):=by rw[<-hX];push_cast;rfl
  have e2:((u:Nat):Int)*(rb:Int)+(v:Int)*(rd:Int)=(Y:Nat):=by rw[<-hY];push_cast;rfl
  rw[e1,e2,mN])
 rw[pS.1,hN];have pN:=Kh (λW (V:Below w.heap.size w W)=>hN▸Jv T B n wt L f W (h.keep hB V) sS hL);have hZ:=Kh (λW (V:Below w.heap.size w W)=>hT▸Hv T B n wt L f a W (h.keep hB V) h0 hn);have gY:=Kh (λW (V:Below w.heap.size w W)=>bA▸Hv T B n wt L f b W (h.keep hB V) h0 hn);have nM:=Kh (λW (V:Below w.heap.size w W)=>oI▸Hv T B n wt L f c W (h.keep hB V) h0 hn);have nN:=Kh (λW (V:Below w.heap.size w W)=>oJ▸Hv T B n wt L f d W (h.keep hB V) h0 hn);have rO:=Kh (λW (V:Below w.heap.size w W)=>mN▸cO T B n wt L f X Y W (h.keep hB V) (mH hB V.size) h0 hn);have iL:=Kh (λW (V:Below w.heap.size w W)=>h.keep hB V);have sO:=W9 CC (by omega);have pX:=Kh oG;have rN:=Kh mC;have HU:=Kh (And.intro hu hv);have qD:=Kh (And.intro hX hY);have Z:=Kh (And.intro (And.intro ha qM) (And.intro (And.intro V qN) (And.intro (And.intro hc qQ) (And.intro hd qR))));have rR:=Kh hN;clear h hf ha qM V qN hc qQ hd qR oG mC qU hu hv hJ hT bA oI oJ hX hY mN mZ hN qJ pS;go_enter func93,ntmps93
 go_wp2_with fail
 obtain⟨w0,rB,X0,nZ⟩:=bx1 w #[.int .i64 a,.int .i64 b,.int .i64 c,.int .i64 d] 63;rw[rB];refine(pN.1 w0 nZ).mono ?_;rintro e w1 ⟨rfl,m1,rfl⟩;have oA:Below w.heap.size w (w0.drewN m1):=Aa nZ m1;have X1:=X0.below_ (Aa (Below.refl _ w0) m1) X0.lt;generalize w0.drewN m1=w1 at oA X1 ⊢;have rP:=Kh oA;have qA:=Kh X1;clear rB X0 nZ X1 oA pN;go_wp2_with fail
 have mO:=ZRow.made (λ_=>0) w1 CC;obtain⟨wz,oK⟩:∃wz,w1.alloc (.cells (madeCells #[.bool false,.slice none 0 0] (CC*2)) 84)=wz:=⟨_,rfl⟩
 have qP:Below w1.heap.size w1 wz:=oK▸(Below.refl _ _).alloc (mG _) _;rw[oK]at mO ⊢;obtain⟨go,mL⟩:∃g,w1.heap.size=g:=⟨_,rfl⟩
 have bB:=Kh (show w.heap.size<go by have:=qA.1.lt;omega);have pM:=Kh (show Below go w1 wz from mL▸qP);rw[mL]at mO ⊢;have pY:=Kh mO;have O:=Kh (show ∀W,Below go w1 W->Below w.heap.size w W from λW V=>rP.1.trans (V.mono (Nat.le_of_lt bB.1)));have nQ:=Kh (show ∀W,Below go w1 W->Blk W w.heap.size 63 #[.int .i64 a,.int .i64 b,.int .i64 c,.int .i64 d]from λW V=>qA.1.below_ V bB.1);have uA:=Kh mL;clear mO oK qP mL sO;go_loopw [27] (λii wr=>∃k:Nat,k<=CC/\ii=.int .i64 k/\ZRow (λ_=>0) wr go CC k/\Below go w1 wr) (λii _=>CC - (intOf ii).toNat)
 case atStart=>exact⟨0,Nat.zero_le _,rfl,pY.1,pM.1⟩
 case round=>
  obtain⟨k,hk,rfl,cF,qO⟩:=hrel;obtain⟨w2,rfl⟩:∃w2:World,w2=wr:=⟨_,rfl⟩
  have bY:=Kh cF;have gS:=Kh qO;clear cF qO pY pM;by_cases hlt:k<CC
  ·have oF:(k:Int)<(CC:Int):=by omega
   go_wp2_with fail
   refine(Gc 0 w2 (by omega) (by omega)).mono ?_;rintro e w3 ⟨⟨s3,p3,n3,c3,rfl,rE⟩,dE⟩;have gF:=ZRow.keep bY.1 dE;have rT:=Kh (ZRow.set (k':=k+1) gF k hlt (λ_=>0) (λi' h1 h2=>⟨by omega,rfl⟩) rE);have aX:=Kh (gS.1.trans (dE.mono (Nat.le_of_lt bY.1.sts.1)));obtain⟨u0,sR⟩:=mK (gF.has (k*2) (by omega));obtain⟨u2,hu2⟩:=mK (gF.has (k*2+1) (by omega));have f0:=gF.free (k*2) (by omega);have f1:=gF.free (k*2+1) (by omega);clear rE dE gF;go_wp2;go_roundw
   case rel=>exact⟨k+1,by omega,by go_num,rT.1,Cr aX.1 (mG _)⟩
   case measure=>simp[intOf];omega
  ·obtain rfl:CC=k:=by omega
   have rC:=iL.1 w2 (O.1 w2 gS.1);obtain⟨pl,cl,t2,rA⟩:=rC.c2;rcases rA with⟨sP,_⟩ |⟨gL,tC,e,_,hx⟩
   ·rw[sP]at hj;simp at hj
   cases e;obtain⟨p0,p1,_⟩:=hx j aj rN.1;rw[HU.1.1]at p0;rw[HU.1.2]at p1;have uM:(j:Int)<(L.length:Int):=by omega
   have X2:=nQ.1 w2 gS.1;have x0:=X2.at_ 0 rfl;have x1:=X2.at_ 1 rfl;have x2:=X2.at_ 2 rfl;have x3:=X2.at_ 3 rfl;clear rC hx X2;go_wp2_with fail
   go_quiet (fail)
   generalize hw3:w2.drewN nq=w3;have dE:Below w2.heap.size w2 w3:=hw3▸Aa (Below.refl _ _) nq;have aX:=Kh (gS.1.trans (dE.mono (Nat.le_of_lt bY.1.sts.1)));have cT:=Kh (ZRow.keep bY.1 dE);have X2:=nQ.1 w3 aX.1;have x0:=X2.at_ 0 rfl;have x1:=X2.at_ 1 rfl;have x2:=X2.at_ 2 rfl;have x3:=X2.at_ 3 rfl;have hT:=hZ.1 w3 (O.1 w3 aX.1);have hZ:=Kh (λm=>hZ.1 (w3.drewN m) (O.1 _ (Aa aX.1 m)));have gY:=Kh (λm=>gY.1 (w3.drewN m) (O.1 _ (Aa aX.1 m)));have nM:=Kh (λm=>nM.1 (w3.drewN m) (O.1 _ (Aa aX.1 m)));have nN:=Kh (λm=>nN.1 (w3.drewN m) (O.1 _ (Aa aX.1 m)));clear hw3 dE X2 p0 p1 t2 gS bY hT;go_wp2_with fail
   go_quiet (first|with_reducible exact Calls.quiet_of_same (hZ.1 _)|with_reducible exact Calls.quiet_of_same (gY.1 _)|with_reducible exact Calls.quiet_of_same (nM.1 _)|with_reducible exact Calls.quiet_of_same (nN.1 _))
   generalize hw4:w3.drewN nq=w4;have oB:Below w3.heap.size w3 w4:=hw4▸Aa (Below.refl _ _) nq;have nF:=Kh (aX.1.trans (oB.mono (Nat.le_of_lt cT.1.sts.1)));have cV:=Kh (ZRow.keep cT.1 oB);have qK:(u:Int)*(ra:Int)+(v:Int)*(rc:Int)=(X:Nat):=by rw[<-qD.1.1];push_cast;rfl
   have qL:(u:Int)*(rb:Int)+(v:Int)*(rd:Int)=(Y:Nat):=by rw[<-qD.1.2];push_cast;rfl
   obtain⟨S1,nU⟩:∃x:Nat,u*ra=x:=⟨_,rfl⟩
   obtain⟨S2,nV⟩:∃x:Nat,v*rc=x:=⟨_,rfl⟩
   obtain⟨S3,nW⟩:∃x:Nat,u*rb=x:=⟨_,rfl⟩
   obtain⟨S4,nX⟩:∃x:Nat,v*rd=x:=⟨_,rfl⟩
   have k1:(u:Int)*(ra:Int)=(S1:Nat):=by rw[<-nU];push_cast;rfl
   have k2:(v:Int)*(rc:Int)=(S2:Nat):=by rw[<-nV];push_cast;rfl
   have k3:(u:Int)*(rb:Int)=(S3:Nat):=by rw[<-nW];push_cast;rfl
   have k4:(v:Int)*(rd:Int)=(S4:Nat):=by rw[<-nX];push_cast;rfl
   have l1:S1<=14400:=by rw[<-nU];exact Nat.mul_le_mul (by omega:u<=120) (by omega:ra<=120)
   have l2:S2<=14400:=by rw[<-nV];exact Nat.mul_le_mul (by omega:v<=120) (by omega:rc<=120)
   have l3:S3<=14400:=by rw[<-nW];exact Nat.mul_le_mul (by omega:u<=120) (by omega:rb<=120)
   have l4:S4<=14400:=by rw[<-nX];exact Nat.mul_le_mul (by omega:v<=120) (by omega:rd<=120)
   rw[k1,k2]at qK;rw[k3,k4]at qL;clear hw4 oB x0 x1 x2 x3 nU nV nW nX cT aX;go_wp2_with fail
   refine(rO.1 w4 (O.1 w4 nF.1)).mono ?_;rintro e w5 ⟨rfl,oC⟩;obtain⟨ix,sg⟩:=pp;have hW:=Kh (nF.1.trans (oC.mono (Nat.le_of_lt cV.1.sts.1)));have aD:=Kh (ZRow.keep cV.1 oC);clear oC k1 k2 k3 k4 l1 l2 l3 l4 qK qL cV nF;dsimp only;by_cases hs0:sg=0
   ·subst hs0
    have HZ:=Kh (show ZRow (λk=>if((ix,(0:Int)):Nat×Int).2=0 then 0 else if k % L.length=((ix,(0:Int)):Nat×Int).1/\k / L.length<=wt then((ix,(0:Int)):Nat×Int).2*mv i a b c d wt (k / L.length)else 0) w5 go CC CC from aD.1.congr (λj _=>by rw[if_pos rfl]));go_wp2;go_ret;exact⟨⟨go,rfl,Nat.le_of_lt bB.1,ZRow.keep aD.1 ((Below.refl _ _).alloc (mG _) _)⟩,(O.1 w5 hW.1).alloc (O.1 w5 hW.1).size _⟩
   ·have qZ:sg=1∨sg=-1:=by
     rcases pX.1 with h |⟨_,h|h|h⟩
     ·injection h with _ h;exact absurd h hs0
     ·exact absurd h hs0
     ·exact .inl h
     ·exact .inr h
    have sM:ix<L.length:=by
     rcases pX.1 with h |⟨h,_⟩
     ·injection h with _ h;exact absurd h hs0
     ·exact h
    have uP:(sg==0)=false:=by simpa using hs0
    have nL:=Kh qZ;clear qZ;go_wp2_with fail
    obtain⟨w6,mP⟩:∃w6,w5.alloc (.cells #[.int .i64 (ix:Int),.int .i64 sg] 215)=w6:=⟨_,rfl⟩
    have hP:Below w5.heap.size w5 w6:=mP▸(Below.refl _ _).alloc (mG _) _;have X6:=mP▸Blk.new w5 215 #[.int .i64 (ix:Int),.int .i64 sg];rw[mP];refine(Gc sg w6 (by rcases nL.1 with h|h <;> omega) (by rcases nL.1 with h|h <;> omega)).mono ?_;rintro e w7 ⟨⟨s0,p0,n0,c0,rfl,rD⟩,mD⟩;have X7:=X6.below_ mD X6.lt;have qB:=Kh X7;have pQ:=Kh (show go<w5.heap.size from aD.1.sts.1);have bE:=Kh (ZRow.keep aD.1 (hP.trans (mD.mono hP.size)));have pK:=Kh (hW.1.trans ((hP.trans (mD.mono hP.size)).mono (Nat.le_of_lt aD.1.sts.1)));have qE:=Kh rD;clear mP hP X6 X7 rD mD hW aD;go_wp2_with fail
    obtain⟨w8,mQ⟩:∃w8,w7.alloc (.cells #[.bool s0,.slice p0 n0 c0] 84)=w8:=⟨_,rfl⟩
    have hQ:Below w7.heap.size w7 w8:=mQ▸(Below.refl _ _).alloc (mG _) _;have X8:=mQ▸Blk.new w7 84 #[.bool s0,.slice p0 n0 c0];rw[mQ];have nP:=Kh (bk qB hQ);have cX:=Kh (ZRow.keep bE.1 hQ);have pL:=Kh (pK.1.trans (hQ.mono (Nat.le_of_lt bE.1.sts.1)))
    have nR:=Kh (show ZE (sg*mv i a b c d 0 0) w8 w7.heap.size (0*2)from⟨s0,p0,n0,c0,X8.at_ 0 rfl,X8.at_ 1 rfl,by
     have h:=qE.1.keep hQ;have e:sg*mv i a b c d 0 0=sg:=by rw[mv];simp
     rw[e];exact h⟩)
    have nH:=Kh (show go<w7.heap.size from bE.1.sts.1);have nJ:=Kh X8.lt;obtain⟨g7,qS⟩:∃x,w7.heap.size=x:=⟨_,rfl⟩
    rw[qS]at nR nH nJ ⊢;have pT:=Kh (λW=>Gc a W (by have:=Z.1;omega) (by have:=Z.1;omega));have pU:=Kh (λW=>Gc b W (by have:=Z.1;omega) (by have:=Z.1;omega));have pV:=Kh (λW=>Gc c W (by have:=Z.1;omega) (by have:=Z.1;omega));have pW:=Kh (λW=>Gc d W (by have:=Z.1;omega) (by have:=Z.1;omega));have bH:=Kh (show nd a.natAbs<=2/\nd b.natAbs<=2/\nd c.natAbs<=2/\nd d.natAbs<=2 from⟨Dd Z.1.1.1 Z.1.1.2,Dd Z.1.2.1.1 Z.1.2.1.2,Dd Z.1.2.2.1.1 Z.1.2.2.1.2,Dd Z.1.2.2.2.1 Z.1.2.2.2.2⟩);clear mQ hQ X8 qB bE pK qE qS;go_loopw [18,19] (λvp vk wr=>∃(k gp cp:Nat),k<=wt/\vk=.int .i64 k/\vp=.slice (some ⟨gp,0,none⟩) (k+1) cp/\go<gp/\gp<wr.heap.size/\(∀U,U<k+1->ZE (sg*mv i a b c d k U) wr gp (U*2))/\Below w8.heap.size w8 wr) (λ_ vk _=>wt - (intOf vk).toNat)
    case atStart=>exact⟨0,g7,1,Nat.zero_le _,rfl,rfl,nH.1,nJ.1,λU gA=>by obtain rfl:U=0:=(by omega);exact nR.1,Below.refl _ _⟩
    case round=>
     obtain⟨k,gp,cp,hk,rfl,rfl,qV,oE,oP,oD⟩:=hrel;obtain⟨I,rfl⟩:∃I:World,I=wr:=⟨_,rfl⟩
     have cG:=Kh oD;have rS:=Kh qV;have mW:=Kh (show go<I.heap.size by omega);have tZ:=Kh oE;have nS:=Kh (show ∀W,Below I.heap.size I W->ZL (λU=>sg*mv i a b c d k U) W (.slice (some ⟨gp,0,none⟩) (k+1) cp) (k+1)from λW V=>.inr ⟨gp,0,cp,rfl,mI oE V.size,λU gA=>by rw[Nat.zero_add];exact(oP U gA).keep V⟩);have qF:=Kh oP;have dY:=Kh (show Below go w1 I from pL.1.trans (oD.mono (Nat.le_of_lt cX.1.sts.1)));have X9:=nQ.1 I dY.1;have t1:=(iL.1 I (O.1 I dY.1)).c1
     have nO:=Kh (show ∀U,nd (sg*mv i a b c d k U).natAbs<=1000 from λU=>by
      have h1:=Sj i a b c d bH.1.1 bH.1.2.1 bH.1.2.2.1 bH.1.2.2.2 k U
      have h2:(sg*mv i a b c d k U).natAbs=(mv i a b c d k U).natAbs:=by
       rw[Int.natAbs_mul];rcases nL.1 with h|h <;> rw[h] <;> simp
      rw[h2];omega)
     clear qV oE oP oD nR nH nJ;by_cases hkw:k<wt
     ·have tK:(k:Int)<(wt:Int):=by omega
      have b0:=X9.at_ 0 rfl;have b1:=X9.at_ 1 rfl;have b2:=X9.at_ 2 rfl;have b3:=X9.at_ 3 rfl;clear X9;by_cases oF:k<i
      ·have qY:(k:Int)<(i:Int):=by omega
       have hE:=Kh (show ∀W,Below I.heap.size I W->(W.cell? ⟨w.heap.size,0,none⟩=some (.int .i64 a)/\W.cell? ⟨w.heap.size,1,none⟩=some (.int .i64 b))from λW V=>⟨cell_next V b0,cell_next V b1⟩);have eV:=hE.1 _ (Below.refl _ I).drew;have gU:=Kh (show ∀wb,Below I.drew.heap.size I.drew wb->Below I.heap.size I wb from λwb V=>(Below.refl _ I).drew.trans V);have gX:=Kh (show ∀wa wb,Below I.heap.size I wa->Below wa.heap.size wa wb->Below I.heap.size I wb from λwa wb h1 h2=>h1.trans (h2.mono h1.size));have nK:=Kh (show ∀U,sg*mv i a b c d (k+1) U=lin a b (λU=>sg*mv i a b c d k U) U from λU=>by rw[L7,mv,if_pos oF]);clear b0 b1 b2 b3;go_upto_region 17 with(fail)
       go_region_held3 (λW=>W.cell? ⟨w.heap.size,0,none⟩=some (.int .i64 a)/\W.cell? ⟨w.heap.size,1,none⟩=some (.int .i64 b))
        (first|with_reducible exact eV|with_reducible exact hE.1 _ M |(exfalso;assumption))
        (first
         |(go_at_call 83;(with_reducible refine(pT.1 _).mono ?_);rintro e dX ⟨⟨sA,pA,nA,cA,rfl,oL⟩,J⟩;have M:Below I.heap.size I dX:=(by first|exact gX.1 _ _ M J|exact gU.1 _ J))
         |(go_at_call 83;(with_reducible refine(pU.1 _).mono ?_);rintro e dX ⟨⟨sB,pB,nB,cB,rfl,oM⟩,J⟩;have M:Below I.heap.size I dX:=(by first|exact gX.1 _ _ M J|exact gU.1 _ J))
         |(go_at_call 145;refine(Ov _ (k+1) (λU=>sg*mv i a b c d k U) sA pA nA cA a sB pB nB cB b _ (nS.1 _ M) (by first|exact oL|exact oL.keep J) (by first|exact oM|exact oM.keep J) (by omega) (by omega) (by rw[<-oL.2.1];have:=bH.1;omega) (by rw[<-oM.2.1];have:=bH.1;omega) nO.1 (λU h=>by rw[I8 _ _ _ _ _ _ _ (by omega),Int.mul_zero])).mono ?_;rintro e oS ⟨⟨gN,rfl,hR,hU⟩,hO⟩;have hS:=Kh (mH M.size hR);have M:Below I.heap.size I oS:=Below.trans M (hO.mono M.size);have hG:=Kh hU;have nG:=Kh M;clear hU hR))
       all_goals go_wp2
       all_goals go_roundw
       all_goals first
        | exact⟨k+1,gN,_,by omega,by go_num,rfl,mI mW.1 hS.1,hG.1.sts.1,λU gA=>by rw[nK.1];exact hG.1.val U gA,cG.1.trans (nG.1.mono cG.1.size)⟩
        |(simp[intOf];omega)
      ·have qY:¬((k:Int)<(i:Int)):=by omega
       have hE:=Kh (show ∀W,Below I.heap.size I W->(W.cell? ⟨w.heap.size,2,none⟩=some (.int .i64 c)/\W.cell? ⟨w.heap.size,3,none⟩=some (.int .i64 d))from λW V=>⟨cell_next V b2,cell_next V b3⟩);have eV:=hE.1 _ (Below.refl _ I).drew;have gU:=Kh (show ∀wb,Below I.drew.heap.size I.drew wb->Below I.heap.size I wb from λwb V=>(Below.refl _ I).drew.trans V);have gX:=Kh (show ∀wa wb,Below I.heap.size I wa->Below wa.heap.size wa wb->Below I.heap.size I wb from λwa wb h1 h2=>h1.trans (h2.mono h1.size));have nK:=Kh (show ∀U,sg*mv i a b c d (k+1) U=lin c d (λU=>sg*mv i a b c d k U) U from λU=>by rw[L7,mv,if_neg oF]);clear b0 b1 b2 b3;go_upto_region 18 with(fail)
       go_region_held3 (λW=>W.cell? ⟨w.heap.size,2,none⟩=some (.int .i64 c)/\W.cell? ⟨w.heap.size,3,none⟩=some (.int .i64 d))
        (first|with_reducible exact eV|with_reducible exact hE.1 _ M |(exfalso;assumption))
        (first
         |(go_at_call 83;(with_reducible refine(pV.1 _).mono ?_);rintro e dX ⟨⟨sC,pC,nC,cC,rfl,oN⟩,J⟩;have M:Below I.heap.size I dX:=(by first|exact gX.1 _ _ M J|exact gU.1 _ J))
         |(go_at_call 83;(with_reducible refine(pW.1 _).mono ?_);rintro e dX ⟨⟨sD,pD,nD,cD,rfl,oO⟩,J⟩;have M:Below I.heap.size I dX:=(by first|exact gX.1 _ _ M J|exact gU.1 _ J))
         |(go_at_call 145;refine(Ov _ (k+1) (λU=>sg*mv i a b c d k U) sC pC nC cC c sD pD nD cD d _ (nS.1 _ M) (by first|exact oN|exact oN.keep J) (by first|exact oO|exact oO.keep J) (by omega) (by omega) (by rw[<-oN.2.1];have:=bH.1;omega) (by rw[<-oO.2.1];have:=bH.1;omega) nO.1 (λU h=>by rw[I8 _ _ _ _ _ _ _ (by omega),Int.mul_zero])).mono ?_;rintro e oS ⟨⟨gN,rfl,hR,hU⟩,hO⟩;have hS:=Kh (mH M.size hR);have M:Below I.heap.size I oS:=Below.trans M (hO.mono M.size);have hG:=Kh hU;have nG:=Kh M;clear hU hR))
       all_goals go_wp2
       all_goals go_roundw
       all_goals first
        | exact⟨k+1,gN,_,by omega,by go_num,rfl,mI mW.1 hS.1,hG.1.sts.1,λU gA=>by rw[nK.1];exact hG.1.val U gA,cG.1.trans (nG.1.mono cG.1.size)⟩
        |(simp[intOf];omega)
     ·obtain rfl:wt=k:=by omega
      have hD:=Kh (show ZRow (Xd L.length ix sg (mv i a b c d wt) 0) I go CC CC from ZRow.congr (ZRow.keep cX.1 cG.1) (λj _=>(Xe _ _ _ _ _).symm));have qC:=Kh (nP.1.below_ cG.1 nP.1.lt);obtain⟨gq,qW⟩:∃x,w5.heap.size=x:=⟨_,rfl⟩
      rw[qW]at qC pQ ⊢;obtain⟨mS,mA,t2,_⟩:=(iL.1 I (O.1 I dY.1)).c2;have rV:=Kh t2;have rW:=Kh (show T<go from mI (iL.1 w (Below.refl _ _)).lt (mH hB (Nat.le_of_lt bB.1)));have pZ:=Kh (O.1 I dY.1);clear qW X9 t2 nS nO cX nP pL cG pT pU pV pW;go_wp2_with fail
      go_loopw [120] (λii wr=>∃q:Nat,q<=wt+1/\ii=.int .i64 q/\ZRow (Xd L.length ix sg (mv i a b c d wt) q) wr go CC CC/\I.grownBy wr (some go)) (λii _=>wt+1 - (intOf ii).toNat)
      case atStart=>exact⟨0,Nat.zero_le _,rfl,hD.1,Af go (Below.refl _ _)⟩
      case round=>
       obtain⟨q,hq,rfl,cF,qX⟩:=hrel;obtain⟨we,rfl⟩:∃we:World,we=wr:=⟨_,rfl⟩
       have cY:=Kh cF;have nI:=Kh qX;have nY:T≠go:=Nat.ne_of_lt rW.1;have sQ:gp≠go:=Nat.ne_of_gt rS.1;have oH:gq≠go:=Nat.ne_of_gt pQ.1;clear cF qX;by_cases hlt:q<wt+1
       ·have uO:(q:Int)<((wt+1:Nat):Int):=by omega
        obtain⟨s,p,n5,c5,a0,a1,hz⟩:=ZE.but hD.1.sts nI.1 sQ (qF.1 q hlt);have HZ:=Kh hz;clear hz;go_wp2_with fail
        obtain⟨wb,mR⟩:∃wb,we.alloc (.cells #[.bool s,.slice p n5 c5] 84)=wb:=⟨_,rfl⟩
        have mE:Below we.heap.size we wb:=mR▸(Below.refl _ _).alloc (mG _) _;have X:=mR▸Blk.new we 84 #[.bool s,.slice p n5 c5];rw[mR];obtain⟨gb,qT⟩:∃gb,we.heap.size=gb:=⟨_,rfl⟩
        have bA:=ZRow.keep cY.1 mE;have eP:gb≠go:=by have:=cY.1.sts.1;omega
        have mM:=nI.1.trans (Af go mE);rw[qT]at X ⊢;obtain⟨QL,mB⟩:∃x,q*L.length=x:=⟨_,rfl⟩
        obtain⟨IX,nT⟩:∃x,QL+ix=x:=⟨_,rfl⟩
        have qI:IX<CC:=by
         rw[<-nT,<-mB,<-rR.1];have h1:q*L.length+L.length<=(wt+1)*L.length:=by rw[<-Nat.succ_mul];exact Nat.mul_le_mul_right _ hlt
         omega
        have pR:=Kh (show IX=q*L.length+ix by rw[<-nT,<-mB]);have e1:(q:Int)*(L.length:Int)=(QL:Nat):=by rw[<-mB];push_cast;rfl
        have e2:(QL:Int)+(ix:Int)=(IX:Nat):=by omega
        have v1:IntKind.i64.wrap (QL:Int)=(QL:Nat):=IntWalk.i64_in _ (by omega);have v2:IntKind.i64.wrap (IX:Int)=(IX:Nat):=IntWalk.i64_in _ (by omega);have i0:(0:Int)<=(IX:Int):=by omega
        have i1:(IX:Int)<(CC:Int):=by omega
        have t2:=mM.cell rV.1 (λe=>by injection e with e;exact nY e);have x0:=mM.cell (qC.1.at_ 0 rfl) (λe=>by injection e with e;exact oH e);have b0:=X.at_ 0 rfl;have b1:=X.at_ 1 rfl;obtain⟨u0,sR⟩:=mK (bA.has (IX*2) (by omega));obtain⟨u1,uQ⟩:=mK (bA.has (IX*2+1) (by omega));have f0:=bA.free (IX*2) (by omega);have f1:=bA.free (IX*2+1) (by omega);have eV:wb.drew.cell? ⟨T,2,none⟩=some (.slice mS L.length mA)/\wb.drew.cell? ⟨gq,0,none⟩=some (.int .i64 (ix:Int))/\wb.drew.cell? ⟨gb,0,none⟩=some (.bool s)/\wb.drew.cell? ⟨gb,1,none⟩=some (.slice p n5 c5):=⟨t2,x0,b0,b1⟩
        have rU:=Kh (show ∀(X:World) (v1 v2:Value),(X.cell? ⟨T,2,none⟩=some (.slice mS L.length mA)/\X.cell? ⟨gq,0,none⟩=some (.int .i64 (ix:Int))/\X.cell? ⟨gb,0,none⟩=some (.bool s)/\X.cell? ⟨gb,1,none⟩=some (.slice p n5 c5))->(((X.setCell ⟨go,IX*2,none⟩ v1).setCell ⟨go,IX*2+1,none⟩ v2).cell? ⟨T,2,none⟩=some (.slice mS L.length mA)/\((X.setCell ⟨go,IX*2,none⟩ v1).setCell ⟨go,IX*2+1,none⟩ v2).cell? ⟨gq,0,none⟩=some (.int .i64 (ix:Int))/\((X.setCell ⟨go,IX*2,none⟩ v1).setCell ⟨go,IX*2+1,none⟩ v2).cell? ⟨gb,0,none⟩=some (.bool s)/\((X.setCell ⟨go,IX*2,none⟩ v1).setCell ⟨go,IX*2+1,none⟩ v2).cell? ⟨gb,1,none⟩=some (.slice p n5 c5))from λX v1 v2 h=>⟨by rw[World.cell?_setCell_far _ _ _ _ (by exact nY.symm),World.cell?_setCell_far _ _ _ _ (by exact nY.symm)];exact h.1,by rw[World.cell?_setCell_far _ _ _ _ (by exact oH.symm),World.cell?_setCell_far _ _ _ _ (by exact oH.symm)];exact h.2.1,by rw[World.cell?_setCell_far _ _ _ _ (by exact eP.symm),World.cell?_setCell_far _ _ _ _ (by exact eP.symm)];exact h.2.2.1,by rw[World.cell?_setCell_far _ _ _ _ (by exact eP.symm),World.cell?_setCell_far _ _ _ _ (by exact eP.symm)];exact h.2.2.2⟩);have gY:=Kh bA;have pP:=Kh mM;have rY:=Kh (HZ.1.keep mE);clear mB nT bA mM X mR mE b0 b1 t2 x0 qT a0 a1 HZ;go_upto_region 22 with(fail)
        go_region_held3 (λw'=>w'.cell? ⟨T,2,none⟩=some (.slice mS L.length mA)/\w'.cell? ⟨gq,0,none⟩=some (.int .i64 (ix:Int))/\w'.cell? ⟨gb,0,none⟩=some (.bool s)/\w'.cell? ⟨gb,1,none⟩=some (.slice p n5 c5))
         (first|with_reducible exact eV|exact rU.1 _ _ _ eV)
         (fail)
        all_goals go_wp2
        all_goals go_roundw
        all_goals first
         | exact⟨q+1,by omega,by go_num,ZRow.set (k':=CC) (ZRow.keep gY.1 (Below.refl _ wb).drew) IX qI (Xd L.length ix sg (mv i a b c d wt) (q+1)) (λc' h1 h2=>⟨h1,aR (by rw[<-pR.1];exact h2)⟩) (by rw[pR.1,eS sg _ sM];exact rY.1.keep (Below.refl _ wb).drew),(pP.1.trans (Af go (Below.refl _ wb).drew)).trans (Jq _ go _ _ _ _)⟩
         |(simp[intOf];omega)
       ·obtain rfl:wt+1=q:=by omega
        have pO:=Kh (show ZRow (λk=>if k % L.length=ix/\k / L.length<=wt then sg*mv i a b c d wt (k / L.length)else 0) we go CC CC from cY.1.congr (λc' _=>by
         unfold Xd;by_cases h1:c' % L.length=ix/\c' / L.length<=wt
         ·rw[if_pos h1,if_pos ⟨h1.1,by omega⟩]
         ·rw[if_neg h1,if_neg (λh=>h1 ⟨h.1,by omega⟩)]))
        have rQ:=Kh (An pZ.1 nI.1 pZ.1.size (Nat.le_of_lt bB.1));go_wp2;go_ret;exact⟨⟨go,rfl,Nat.le_of_lt bB.1,pO.1⟩,rQ.1⟩
end
section
open Go.RowKit Eli Tryz
def Bv (C:Nat) (f:Nat->Int) (i q:Nat):Int:=if q<C then f (i*C+q)else 0
theorem Cv {C:Nat} {f:Nat->Int} (I:∀j,(f j).natAbs<=16777216) (i q:Nat):(Bv C f i q).natAbs<=16777216:=by
 unfold Bv;split
 ·exact I _
 ·simp
theorem Xc {C t:Nat} {w:World} {B:Nat} {v:Value} {r:List (Nat×Rat)} (h:OwnT r w B v) (I:Ord C (t+1) r) (O:t<C):iU C w v<C+1 - t:=by
 cases r with
 | nil=>rw[aQ h];omega
 | cons y r=>rw[Pd h];have J:=I.1;have M:=I.2.1;omega
theorem eM {x:Rat} (h:x≠0):hq (1 / x)<=hq x:=by
 have M:x.num≠0:=λe=>h (Rat.num_eq_zero.1 e)
 rw[<-Pn 1 x];have I:(1:Rat).num=1:=rfl;have J:(1:Rat).den=1:=rfl;rw[I,J,Int.one_mul,Int.natCast_one,Int.one_mul];exact Cz M (by rw[Int.natAbs_natCast];exact Ff x) (En x)
theorem Dl (C:Nat) (f:Nat->Int) (i q:Nat) (h:C<=q):Bv C f i q=0:=by unfold Bv;rw[if_neg (by omega)]
theorem Oo (R C gA oA cA:Nat) (f:Nat->Int) (w:World) (hg:gA<w.heap.size) (hA:∀j,j<R*C->ZE (f j) w gA (oA+j*2)) (hR:R<=1000) (h0:0<C) (hC:C<=72) (mO:R*C<=cA) (hD:cA<=9223372036854775807) (hf:∀j,(f j).natAbs<=16777216):
  Calls prog 48 #[.agg #[.int .i64 R,.int .i64 C,.slice (some ⟨gA,oA,none⟩) (R*C:Nat) cA]] w λe w'=>(∃G,e=.returned (.slice (some ⟨G,0,none⟩) C C)/\w.heap.size<=G/\LeadTab (elim C (Bv C f) R) w' G C w'.heap.size)/\Below w.heap.size w w':=by
 have HA:=Kh hA;have nT:=Kh (And.intro mO hD);have mY:=Kh (λk=>Good.elim (n:=C) (B:=16777216) (by omega) (Cv hf) (Dl C f) k);have oE:=Kh (Cv (C:=C) hf);have gU:=Kh (Ny (n:=C) (B:=16777216) hC (mG _));have HF:=Kh hf;have rJ:=iD C (by omega);obtain⟨RC,nD⟩:∃n,R*C=n:=⟨_,rfl⟩
 rw[nD];clear hA mO hD hf;go_enter func48,ntmps48
 go_wp2_with fail
 obtain⟨wm,iL⟩:∃wm,w.alloc (.cells #[.int .i64 R,.int .i64 C,.slice (some ⟨gA,oA,none⟩) RC cA] 99)=wm:=⟨_,rfl⟩
 obtain⟨X0,gY⟩:=Gs w #[.int .i64 R,.int .i64 C,.slice (some ⟨gA,oA,none⟩) RC cA] 99;rw[iL]at X0 gY;have hO:wm.heap.size=w.heap.size+1:=by rw[<-iL];simp
 have HT:=Kh (LeadTab.made wm C);obtain⟨wn,hP⟩:∃wn,wm.alloc (.cells (madeCells #[.slice none 0 0] C) 107)=wn:=⟨_,rfl⟩
 have nF:Below wm.heap.size wm wn:=hP▸(Below.refl _ _).alloc (mG _) _;have hZ:wn.heap.size=wm.heap.size+1:=by rw[<-hP];simp
 rw[hP]at HT;rw[iL,hP];obtain⟨G,hG⟩:∃G,w.heap.size+1=G:=⟨_,rfl⟩
 rw[hG]at hO ⊢;obtain⟨gm,pD⟩:∃gm,w.heap.size=gm:=⟨_,rfl⟩
 have mX:=Kh (show gm<G by omega);have pX:=Kh (show Below w.heap.size w wm from gY);have nW:=Kh (show w.heap.size<=G by omega);rw[hO]at HT nF hZ;rw[pD]at X0 ⊢;have HX:=Kh X0;have nR:=Kh nF;have sR:=Kh hZ;have pU:=Kh (mI hg gY.size);have pW:=Kh (λj (hj:j<R*C)=>(HA.1 j hj).keep gY);have gX:=Kh hO;rw[hO]at pU;have oF:=Kh (HT.1.up (Nat.le_of_eq hZ.symm));clear X0 iL hP nF hZ gY hO rJ HA HT hG pD hg;go_loopw [4] (λi wr=>∃k:Nat,k<=R/\i=.int .i64 k/\LeadTab (elim C (Bv C f) k) wr G C wr.heap.size/\Below G wm wr) (λi _=>R - (intOf i).toNat)
 case atStart=>exact⟨0,Nat.zero_le _,rfl,oF.1,nR.1⟩
 case round=>
  obtain⟨k,hk,rfl,mP,hB⟩:=hrel;obtain⟨wi,rfl⟩:∃wi:World,wi=wr:=⟨_,rfl⟩
  have aN:=Kh mP;have bA:=Kh hB;have x0:=(HX.1.below_ hB mX.1).at_ 0 rfl;have x1:=(HX.1.below_ hB mX.1).at_ 1 rfl;have x2:=(HX.1.below_ hB mX.1).at_ 2 rfl;clear mP hB oF nR;by_cases hlt:k<R
  ·obtain⟨KC,hX⟩:∃n,k*C=n:=⟨_,rfl⟩
   have qD:=Kh (show KC+C<=RC by
    have h1:=Nat.mul_le_mul_right C (show k+1<=R by omega);rw[Nat.succ_mul]at h1;omega)
   have e1:(k:Int)*(C:Int)=(KC:Nat):=by rw[<-hX];push_cast;rfl
   have e2:((k:Int)+1)*(C:Int)=((KC+C:Nat)):=by rw[Int.add_mul,e1];push_cast;omega
   have pC:=nT.1;rw[nD]at pC;have rI:=qD.1;have sQ:=Kh hX
   have pV:=Kh (λj (hj:j<C)=>show ZE (Bv C f k j) wm gA (oA+KC*2+j*2)by
    have h:=pW.1 (KC+j) (by rw[nD];omega);rw[show oA+(KC+j)*2=oA+KC*2+j*2 by omega]at h;unfold Bv;rw[if_pos hj,hX];exact h)
   clear hX;go_wp2_with fail
   rw[show KC+C - KC=C by omega];have sZ:C<=cA - KC:=by omega
   clear e1 e2 pC rI x0 x1 x2;have qA:=Kh (show ∀O,Below wi.heap.size wi O->Below wm.heap.size wm O from λO J=>gX.1▸(bA.1.trans (J.mono (gX.1▸bA.1.size))));go_loopw [5,33] (λv ii w2=>∃j:Nat,j<=C/\ii=.int .i64 j/\OwnT (Zy (Bv C f k) j) w2 wi.heap.size v/\Below wi.heap.size wi w2) (λ_ ii _=>C - (intOf ii).toNat)
   case atStart=>exact⟨0,Nat.zero_le _,rfl,OwnT.nil _ _,Below.refl _ _⟩
   case round=>
    obtain⟨j,hj,rfl,V,dY⟩:=hrel;obtain⟨w2,rfl⟩:∃w2:World,w2=wr:=⟨_,rfl⟩
    have aD:=Kh V;have bG:=Kh dY;clear V dY;by_cases hjc:j<C
    ·have sB:(j:Int)<(C:Int):=by omega
     obtain⟨s,p,n,c,a0,a1,hz⟩:=(pV.1 j hjc).keep (qA.1 _ bG.1);have HZ:=Kh hz;have HN:=Kh (show n<=1 by rw[<-hz.2.1];exact Be.2 (by have:=oE.1 k j;omega));clear hz;go_wp2_with fail
     obtain⟨I,nJ,X3,bB⟩:=bx1 w2 #[.bool s,.slice p n c] 84;rw[nJ];have oM:=Kh X3;have M:=Kh bB;have pA:w2.heap.size<I.heap.size:=by rw[<-nJ];simp
     have nS:=Kh pA;clear X3 bB nJ a0 a1 pA;refine(Ht s p n c _ I (HZ.1.keep M.1).raw (by have:=HN.1;omega)).mono ?_;rintro e w4 ⟨rfl,bE⟩;have cB:=bt M bE;have pY:=Kh (bG.1.trans (cB.1.mono bG.1.size));have y0:=(oM.1.below_ bE nS.1).at_ 0 rfl;have y1:=(oM.1.below_ bE nS.1).at_ 1 rfl;clear bE;by_cases hz0:Bv C f k j=0
     ·have hY:Int.sign (Bv C f k j)=0:=by rw[hz0];rfl
      have nB:=Kh hz0;rw[hY];clear hz0 hY;go_wp2;go_roundw
      case rel=>exact⟨j+1,by omega,by go_num,by rw[Zy,if_pos nB.1];exact aD.1.keep cB.1,pY.1⟩
      case measure=>simp[intOf];omega
     ·have hY:(Int.sign (Bv C f k j) != 0)=true:=by
       have:Int.sign (Bv C f k j)≠0:=λe=>hz0 (Int.sign_eq_zero_iff_zero.1 e)
       simpa using this
      have nB:=Kh hz0;clear hz0;go_wp2_with fail
      refine(V6 s p n c _ w4 (HZ.1.keep cB.1) (by have:=HN.1;omega)).mono ?_;rintro e Z ⟨⟨s4,p4,n4,c4,t4,q4,m4,d4,rfl,pH⟩,oY⟩;have qL:=Kh pH;have mA:=bt cB oY;have mU:=Kh (bG.1.trans (mA.1.mono bG.1.size));obtain⟨xs,oU,oW⟩:=aD.1.keep mA.1;have mZ:=Kh oU;have qP:=Kh oW;have nZ:=Kh (Dp (So (Bv C f k) j));clear pH oY oU oW y0 y1 hY;go_wp2_with (at_builtin;refine Bj NotU32 rfl (.tmp 41) (.tmp 46) _ 110 rfl underlying107 Ei rfl (by decide) wi.heap.size (Zy (Bv C f k) j).length u5 xs [.int .i64 (j:Int),.bool s4,.slice p4 n4 c4,.bool t4,.slice q4 m4 d4] rfl mZ.1 rfl rfl (Ul _ _ _ _ _ _ _ _ _) (by have:=nZ.1;omega) (by have:=nZ.1;omega) mU.1.size (fO _ _ _ _ _ _ _ _ _) Uk ?_;intro v9 w9 hM hE oX;have qI:=Kh (OwnT.push mZ.1 qP.1 j (Bv C f k j:Rat) qL.1 hM hE);have pZ:=Kh (mU.1.trans (Aw (Below.refl _ _) mZ.1.1 hE (mG _) mU.1.size));clear hM hE oX)
      go_roundw
      case rel=>exact⟨j+1,by omega,by go_num,by rw[Zy,if_neg nB.1];exact qI.1,pZ.1⟩
      case measure=>simp[intOf];omega
    ·obtain rfl:C=j:=by omega
     go_wp2;obtain⟨L,hL⟩:∃L,elim C (Bv C f) k=L:=⟨_,rfl⟩
     have HL:=Kh hL;have gS:=Kh (show Eli.Good C 16777216 L from hL▸mY.1 k);rw[hL]at aN;clear hL;go_loopw [5] (λv I=>∃(m t:Nat) (r:List (Nat×Rat)),m<=t/\t<=C/\Et L m (Zy (Bv C f k) C)=r/\RowOk C L (Bv C f k) t r/\OwnT r I wi.heap.size v/\Below wi.heap.size wi I) (λv I=>iU C I v)
     case atStart=>exact⟨0,0,_,mG _,Nat.zero_le _,rfl,RowOk.first C L _ (Dl C f k),aD.1,bG.1⟩
     case round=>
      obtain⟨m,t0,r,hm,ht,hr,aX,V,bB⟩:=hrel;obtain⟨I,rfl⟩:∃I:World,I=wr:=⟨_,rfl⟩
      have M:=Kh bB;have bC:=Kh hr;have qJ:=Kh aX;have HM:=Kh (And.intro hm ht);clear bB hr aD bG hm ht;cases r with
      | nil=>
       rcases V.row with⟨_,rfl⟩ |⟨g,cap,rfl,_,_,_,_,_⟩
       ·have HE:=Kh (show elim C (Bv C f) (k+1)=L by
         rw[elim,HL.1,Gp (by rw[bC.1];rfl) C (mH HM.1.1 HM.1.2),bC.1];rfl)
        clear V aX;go_wp2;go_roundw
        case rel=>exact⟨k+1,by omega,by go_num,by rw[HE.1];exact(aN.1.keep (mG _) M.1).up M.1.size,bA.1.trans (M.1.mono (gX.1▸bA.1.size))⟩
        case measure=>simp[intOf];omega
       ·have HE:=Kh (show elim C (Bv C f) (k+1)=L by
         rw[elim,HL.1,Gp (by rw[bC.1];rfl) C (mH HM.1.1 HM.1.2),bC.1];rfl)
        clear V aX;go_wp2;go_roundw
        case rel=>exact⟨k+1,by omega,by go_num,by rw[HE.1];exact(aN.1.keep (mG _) M.1).up M.1.size,bA.1.trans (M.1.mono (gX.1▸bA.1.size))⟩
        case measure=>simp[intOf];omega
      | cons x r=>
       have aD:=Kh V;rcases V.row with⟨he,_⟩ |⟨g,cap,rfl,pB,rG,rH,eV,nI⟩
       ·cases he
       have oK:=Kh nI;obtain⟨a0,s,p,n,c,t,q,m1,d,a1,a2,a3,a4,hq⟩:=nI.val 0 x rfl;rw[Nat.zero_mul]at a0 a1 a2 a3 a4;rw[Nat.zero_add]at a1 a2 a3 a4;have oD:=Kh (show Qs I s p n c t q m1 d x.2 from hq);have hQ:x.1<C:=aX.1.2.1;have oL:=Kh aX.1.2.2.1;have hW:=Kh (aX.size gS.1 (oE.1 k)).1;have oI:=Kh ((aN.1.keep (mG _) M.1).up M.1.size);obtain⟨lv,l0,gF,hI⟩:=oI.1.val x.1 hQ;have oJ:=Kh gF;have nY:=Kh (show(x :: r).length<=72 from mH (Dp aX.1) (by omega));rw[List.length_cons]at pB ⊢;have tF:(x.1:Int)<(C:Int):=by omega
       have sA:(0:Int)<((r.length:Int)+1):=by omega
       have tC:(((r.length:Nat):Int)+1==0)=false:=by simp;omega
       have rC:G<I.heap.size:=oI.1.stk.1;have nU:=Kh (And.intro pB rG);clear V nI hq gF;by_cases hL0:L x.1=[]
       ·obtain rfl:=hI hL0
        have qF:=Kh hL0;clear hL0 hI aX;go_wp2_with fail
        have mM:=Kh (show Et L C (Zy (Bv C f k) C)=x :: r by rw[Gp (by rw[bC.1];exact Ih qF.1) C (mH HM.1.1 HM.1.2),bC.1]);have HE:=Kh (show elim C (Bv C f) (k+1)=λj=>if j=x.1 then scl (x :: r)else L j by rw[elim,HL.1,mM.1];rfl);have qC:=Kh (eM oL.1);have oC:=Kh (show hq x.2<=80 from mH (hW.1 x (List.mem_cons_self ..)) gU.1);have aK:=Kh (show ∀O,Below I.heap.size I O->(O.cell? ⟨g,1,none⟩=some (.bool s)/\O.cell? ⟨g,2,none⟩=some (.slice p n c)/\O.cell? ⟨g,3,none⟩=some (.bool t)/\O.cell? ⟨g,4,none⟩=some (.slice q m1 d))from λO J=>⟨cell_next J a1,cell_next J a2,cell_next J a3,cell_next J a4⟩);clear HM bC mM a0 a1 a2 a3 a4 l0;go_cut [8,9]from 78 to 86 (λv8 v9 wd=>∃Rv s4 p4 n4 c4 t4 q4 m4 d4,v8=.pointer (some ⟨Rv,0,none⟩)/\wd.cell? ⟨Rv,0,none⟩=some (.bool s4)/\wd.cell? ⟨Rv,1,none⟩=some (.slice p4 n4 c4)/\wd.cell? ⟨Rv,2,none⟩=some (.bool t4)/\wd.cell? ⟨Rv,3,none⟩=some (.slice q4 m4 d4)/\Qs wd s4 p4 n4 c4 t4 q4 m4 d4 (1 / x.2)/\Below I.heap.size I wd/\I.heap.size<=Rv)
        case first=>
         go_region_held3 (λO=>O.cell? ⟨g,1,none⟩=some (.bool s)/\O.cell? ⟨g,2,none⟩=some (.slice p n c)/\O.cell? ⟨g,3,none⟩=some (.bool t)/\O.cell? ⟨g,4,none⟩=some (.slice q m1 d))
          (first|exact aK.1 _ (by first|exact(Below.refl _ I).drew|exact Below.refl _ I|exact((Below.refl _ I).drew).alloc (mG _) _|exact(Below.refl _ I).alloc (mG _) _|exact((Below.refl _ I).alloc (mG _) _).drew)|with_reducible exact aK.1 _ Y|exact aK.1 _ (Y.alloc bH _)|with_reducible exact aK.1 _ (As Y rD.1 _ _ _ _)|with_reducible exact aK.1 _ (As Y (mG _) _ _ _ _)|with_reducible exact aK.1 _ (As (Y.alloc bH _) bH _ _ _ _) |(exfalso;assumption))
          (first
           |(go_at_call 49;refine(Ey 1 _ (by omega) (by omega)).mono ?_;rintro e w4 ⟨⟨s3,p3,n3,c3,t3,q3,m3,d3,rfl,pL⟩,dY⟩;have U:Below I.heap.size I w4:=Below.trans (show Below I.heap.size I _ from(by first|exact(Below.refl _ I).drew|exact Below.refl _ I|exact((Below.refl _ I).drew).alloc (mG _) _|exact(Below.refl _ I).alloc (mG _) _|exact((Below.refl _ I).alloc (mG _) _).drew)) (Below.mono dY (Below.size (show Below I.heap.size I _ from(by first|exact(Below.refl _ I).drew|exact Below.refl _ I|exact((Below.refl _ I).drew).alloc (mG _) _|exact(Below.refl _ I).alloc (mG _) _|exact((Below.refl _ I).alloc (mG _) _).drew))));have Y:=U;have bH:=U.size;(first|have fa:=Kb (W:=I.drew) I.heap.size rfl dY|have fa:=Kb (W:=I) I.heap.size rfl dY|skip))
           |(go_at_call 96;refine(Z5 s3 p3 n3 c3 t3 q3 m3 d3 1 s p n c t q m1 d x.2 _ (by first|exact pL|exact pL.keep ((Below.refl _ _).alloc (mG _) _)) (oD.1.keep (show Below I.heap.size I _ from(by first|exact U|exact U.alloc U.size _))) (by rw[Wu];omega) (by have:=oC.1;omega) oL.1).mono ?_;rintro e Z ⟨⟨s4,p4,n4,c4,t4,q4,m4,d4,rfl,pM⟩,bB⟩;have eP:Below I.heap.size I Z:=Below.trans (show Below I.heap.size I _ from(by first|exact U|exact U.alloc U.size _)) (Below.mono bB (Below.size (show Below I.heap.size I _ from(by first|exact U|exact U.alloc U.size _))));have Y:=eP;have bH:=eP.size;(first|have fa:=Io (by first|exact bB) fa|have fa:=Kb w4.heap.size rfl bB|skip);have rD:=Kh (show I.heap.size<=w4.heap.size from U.size)))
         all_goals go_wp2
         all_goals go_meet
         all_goals first
          | exact⟨Z.heap.size,s4,p4,n4,c4,t4,q4,m4,d4,rfl,(Blk.new Z 86 #[.bool s4,.slice p4 n4 c4,.bool t4,.slice q4 m4 d4]).at_ 0 rfl,(Blk.new Z 86 #[.bool s4,.slice p4 n4 c4,.bool t4,.slice q4 m4 d4]).at_ 1 rfl,(Blk.new Z 86 #[.bool s4,.slice p4 n4 c4,.bool t4,.slice q4 m4 d4]).at_ 2 rfl,(Blk.new Z 86 #[.bool s4,.slice p4 n4 c4,.bool t4,.slice q4 m4 d4]).at_ 3 rfl,pM.keep ((Below.refl _ _).alloc (mG _) _),eP.alloc eP.size _,eP.size⟩
          |(obtain⟨E0,E1,E2,E3,rK⟩:=B9 fa.2.2.2.2.2.2.2.2 pM rfl;exact⟨_,s4,p4,n4,c4,t4,q4,m4,d4,rfl,E0,E1,E2,E3,rK,As eP (by first|exact mG _|exact U.size) _ _ _ _,by first|exact mG _|exact U.size⟩)
        case rest=>
         obtain⟨Rv,s4,p4,n4,c4,t4,q4,m4,d4,rfl,e0,e1,e2,e3,hz,nE,rE⟩:=hcut;obtain⟨wd,rfl⟩:∃wd:World,wd=wc:=⟨_,rfl⟩
         have qQ:=Kh hz;have mV:=Kh nE;have dE:=Kh (show Rv≠g by omega);have hU:=Kh (And.intro e0 (And.intro e1 (And.intro e2 e3)));have mN:=Kh (show TRow (Ef (1 / x.2) 0 (x :: r)) wd g by rw[Rg];exact oK.1.keep nE);have qH:=Kh (λy (hy:y∈x :: r)=>show hq y.2<=80 from mH (hW.1 y hy) gU.1);clear hz nE rE e0 e1 e2 e3 aK oK;go_wp2;go_loopw [89] (λii Z=>∃j:Nat,j<=(x :: r).length/\ii=.int .i64 j/\TRow (Ef (1 / x.2) j (x :: r)) Z g/\wd.grownBy Z (some g)/\I32 wd Z) (λii _=>r.length+1 - (intOf ii).toNat)
         case atStart=>exact⟨0,Nat.zero_le _,rfl,mN.1,Af g (Below.refl _ _),I32.refl _⟩
         case round=>
          obtain⟨j,hj,rfl,mQ,pE,oT⟩:=hrel;obtain⟨Z,rfl⟩:∃Z:World,Z=wr:=⟨_,rfl⟩
          have cC:=Kh mQ;have dC:=Kh pE;have mT:=Kh oT;clear mQ pE oT mN;by_cases hjr:j<(x :: r).length
          ·obtain⟨y,hy⟩:∃y,(x :: r)[j]?=some y:=⟨_,List.getElem?_eq_getElem hjr⟩
           have rL:y∈x :: r:=List.mem_of_getElem? hy;obtain⟨_,s',p',n',c',t',q',m',d',b1,b2,b3,b4,pI⟩:=cC.1.elem hy;have qM:=Kh (show Qs Z s' p' n' c' t' q' m' d' y.2 from pI);have z0:=dC.1.cell hU.1.1 (λe=>by injection e with e;exact dE.1 e);have z1:=dC.1.cell hU.1.2.1 (λe=>by injection e with e;exact dE.1 e);have z2:=dC.1.cell hU.1.2.2.1 (λe=>by injection e with e;exact dE.1 e);have z3:=dC.1.cell hU.1.2.2.2 (λe=>by injection e with e;exact dE.1 e);have qG:=Kh (λO (J:Below Z.heap.size Z O)=>Cy s4 p4 n4 c4 t4 q4 m4 d4 (1 / x.2) s' p' n' c' t' q' m' d' y.2 O ((qQ.1.i32 mT.1).keep J) (qM.1.keep J) (by have:=qC.1;have:=oC.1;omega) (by have:=qH.1 y rL;omega));have hN:=cC.1;have tE:(Ef (1 / x.2) j (x :: r)).length=r.length+1:=by rw[Hm];rfl
           have pG:j<r.length+1:=hjr;have tB:(j:Int)<(r.length:Int)+1:=by omega
           have tD:g≠Rv:=λe=>dE.1 e.symm
           have sD:=dE.1;clear pI;go_upto_region 19 with(fail)
           refine K6 (λW=>W.cell? ⟨Rv,0,none⟩=some (.bool s4)/\W.cell? ⟨Rv,1,none⟩=some (.slice p4 n4 c4)/\W.cell? ⟨Rv,2,none⟩=some (.bool t4)/\W.cell? ⟨Rv,3,none⟩=some (.slice q4 m4 d4)/\W.cell? ⟨g,j*5+1,none⟩=some (.bool s')/\W.frozen? ⟨g,j*5+1,none⟩=false/\W.cell? ⟨g,j*5+2,none⟩=some (.slice p' n' c')/\W.frozen? ⟨g,j*5+2,none⟩=false/\W.cell? ⟨g,j*5+3,none⟩=some (.bool t')/\W.frozen? ⟨g,j*5+3,none⟩=false/\W.cell? ⟨g,j*5+4,none⟩=some (.slice q' m' d')/\W.frozen? ⟨g,j*5+4,none⟩=false) (λW J=>⟨Au J z0,Au J z1,Au J z2,Au J z3,Au J b1,Ac J (by rw[b1];rfl) (hN.free _ (by omega)),Au J b2,Ac J (by rw[b2];rfl) (hN.free _ (by omega)),Au J b3,Ac J (by rw[b3];rfl) (hN.free _ (by omega)),Au J b4,Ac J (by rw[b4];rfl) (hN.free _ (by omega))⟩) (λqN hHeld0=>?_);clear z0 z1 z2 z3 b1 b2 b3 b4 hN;refine Al 0 ?_;refine Al 1 ?_;refine Al 2 ?_;refine Al 3 ?_;refine Al 4 ?_;refine Al 5 ?_;refine Al 6 ?_;refine Al 7 ?_;refine F9 8 rfl (λK hK=>?_);focus(go_simp;refine(qG.1 _ (Below.refl _ Z).drew).mono ?_;rintro e w6 ⟨⟨s6,p6,n6,c6,t6,q6,m6,d6,rfl,pN⟩,oZ⟩;have hT:=Kh ((Below.refl _ Z).drew.trans oZ:Below Z.heap.size Z w6);have nH:=cC.1.keep hT.1;have oB:=Kh (nH.scl hy pN);have qB:=Kh (show ∀v0 v1 v2 v3,wd.grownBy ((((w6.setCell ⟨g,j*5+1,none⟩ v0).setCell ⟨g,j*5+2,none⟩ v1).setCell ⟨g,j*5+3,none⟩ v2).setCell ⟨g,j*5+4,none⟩ v3) (some g)from λ_ _ _ _=>Ut dC.1 hT.1);have H6:=Kh ((mT.1.trans (I32.below hT.1)).trans (I32.putT (k:=j) nH.stk s6 t6 p6 q6 n6 c6 m6 d6).2);clear pN oZ nH;(first|with_reducible refine hK.out _ _ ?_ (λhHeld1=>?_) |(go_wp2_with fail;with_reducible refine hK.out _ _ ?_ (λhHeld1=>?_))))
           focus((try dsimp only);exact qN.1 _ hT.1)
           focus(clear hK K;(try simp only[Act.put,Br,Bt,Bs]))
           refine Al 9 ?_;refine Al 10 ?_;refine K5 11 rfl (λK hK=>?_);go_simp
           refine hK.out _ _ ?_;clear hK K
           (try simp only[Act.put,Br,Bt,Bs])
           all_goals go_wp2
           all_goals go_roundw
           all_goals first
            | exact⟨j+1,pG,by go_num,oB.1,qB.1 _ _ _ _,H6.1⟩
            |(simp[intOf];omega)
          ·obtain rfl:(x :: r).length=j:=by omega
           have mC:=Kh (show TRow (scl (x :: r)) Z g by
            have h:=cC.1;rw[Us]at h;exact h)
           have f0:=(mC.1.val 0 (x.1,1 / x.2*x.2) rfl).1;rw[Nat.zero_mul]at f0;have mW:=Kh (show Below wi.heap.size wi Z from An (M.1.trans (mV.1.mono M.1.size)) dC.1 (mH M.1.size mV.1.size) rH);have nQ:=Kh (show I32 wi Z from((I32.below (M.1.trans (mV.1.mono M.1.size)))).trans mT.1);have nA:=Kh ((aN.1.next nQ.1 mW.1 aN.1.stk.1 (mG _)).up mW.1.size);obtain⟨v5,l5,_,_⟩:=nA.1.val x.1 hQ;have tG:=nA.1.free x.1 hQ;have pJ:(scl (x :: r)).length=r.length+1:=by rw[scl,List.length_map];rfl
           have nG:=nA.1.put (l:=scl (x :: r)) hQ (by rw[scl];intro e;cases e) (mC.1.tl (cap:=cap) (by rw[scl,List.length_map];exact nU.1.1) nU.1.2);rw[pJ]at nG;have qK:=Kh nG;clear nG pJ;go_wp2;go_roundw
           case rel=>exact⟨k+1,by omega,by go_num,by rw[HE.1];exact qK.1.up (Nat.le_of_eq (by simp)),(bA.1.trans (mW.1.mono (gX.1▸bA.1.size))).setCell (p:=⟨G,x.1,none⟩) (mG _) _⟩
           case measure=>simp[intOf];omega
       ·have oV:=gS.1.head x.1
        obtain⟨b,J⟩:=oV.resolve_left hL0;have hV:=Kh (aX.step gS.1 hL0);have gF:=oJ.1;rw[J]at gF;obtain⟨gl,ol,cl,rfl,sY,_,_,_,_⟩:=gF.cons;clear gF hI aX hL0 oV;go_wp2_with fail
        have oG:=Kh (λW (J:Below I.heap.size I W)=>(aD.1.tl.keep (mG _) J).up J.size);have oH:=Kh (λW (J:Below I.heap.size I W)=>(oJ.1.keep (mG _) J).up J.size);have mL:=Kh (show Sml (top C 16777216) x.2 (x :: r) (L x.1)from⟨hW.1 x (List.mem_cons_self ..),hW.1,gS.1.size x.1⟩);have nX:=Kh (show(L x.1).length<=72 from mH (Dp (gS.1.ord x.1)) (by omega));have gP:=Kh (λW (J:Below I.heap.size I W)=>Z1 _ _ (x :: r) (L x.1) s p n c t q m1 d x.2 (top C 16777216) W (oG.1 W J) (oH.1 W J) (oD.1.keep J) mL.1 (by have:=gU.1;omega) (by have:=nX.1;have:=nY.1;omega));rw[J]at gP;have rZ:=eV;clear oG oH mL nX;have aK:=Kh (show ∀O,Below I.heap.size I O->(O.cell? ⟨g,0,none⟩=some (.int .i64 (x.1:Int))/\O.cell? ⟨g,1,none⟩=some (.bool s)/\O.cell? ⟨g,2,none⟩=some (.slice p n c)/\O.cell? ⟨g,3,none⟩=some (.bool t)/\O.cell? ⟨g,4,none⟩=some (.slice q m1 d)/\O.cell? ⟨G,x.1,none⟩=some (.slice (some ⟨gl,ol,none⟩) (b.length+1) (cl+1)))from λO J=>⟨(J.cell (p:=⟨g,0,none⟩) (eV)).trans a0,(J.cell (p:=⟨g,1,none⟩) (eV)).trans a1,(J.cell (p:=⟨g,2,none⟩) (eV)).trans a2,(J.cell (p:=⟨g,3,none⟩) (eV)).trans a3,(J.cell (p:=⟨g,4,none⟩) (eV)).trans a4,(J.cell (p:=⟨G,x.1,none⟩) (rC)).trans l0⟩);have Y:Below I.heap.size I I.drew:=(Below.refl _ I).drew;have bH:I.heap.size<=I.heap.size:=mG _;have rF:I.drew.cell? ⟨g,0,none⟩=some (.int .i64 (x.1:Int))/\I.drew.cell? ⟨g,1,none⟩=some (.bool s)/\I.drew.cell? ⟨g,2,none⟩=some (.slice p n c)/\I.drew.cell? ⟨g,3,none⟩=some (.bool t)/\I.drew.cell? ⟨g,4,none⟩=some (.slice q m1 d)/\I.drew.cell? ⟨G,x.1,none⟩=some (.slice (some ⟨gl,ol,none⟩) (b.length+1) (cl+1)):=aK.1 _ Y
        go_region_held3 (λO=>O.cell? ⟨g,0,none⟩=some (.int .i64 (x.1:Int))/\O.cell? ⟨g,1,none⟩=some (.bool s)/\O.cell? ⟨g,2,none⟩=some (.slice p n c)/\O.cell? ⟨g,3,none⟩=some (.bool t)/\O.cell? ⟨g,4,none⟩=some (.slice q m1 d)/\O.cell? ⟨G,x.1,none⟩=some (.slice (some ⟨gl,ol,none⟩) (b.length+1) (cl+1)))
         (first|with_reducible exact rF|with_reducible exact aK.1 _ Y|exact aK.1 _ (Y.alloc bH _))
         (first
          |(go_at_call 95;refine(gP.1 _ (by first|exact(Below.refl _ I).drew|exact Below.refl _ I)).mono ?_;rintro e w4 ⟨⟨v',rfl,hJ⟩,bE⟩;have mB:=Kh (show Below I.heap.size I w4 from(by first|exact(Below.refl _ I).drew.trans bE|exact bE));have mE:=Kh (hJ.base (B':=wi.heap.size) (mH M.1.size (Nat.le_succ _)));clear hJ bE;have Y:=mB.1;have bH:I.heap.size<=w4.heap.size:=Y.size))
        all_goals go_wp2
        all_goals go_roundw
        all_goals first
         | exact⟨m+1,x.1+1,Rb L (x :: r),by have:=HM.1.1;have:=qJ.1.1.1;omega,by omega,by rw[Et,bC.1],hV.1.1,by rw[hV.1.2.1,J];exact mE.1,M.1.trans (mB.1.mono M.1.size)⟩
         |(have h1:=Pd aD.1 (C:=C);have h2:=Xc (C:=C) (t:=x.1) (r:=Rb L (x :: r)) (by rw[hV.1.2.1,J];exact mE.1) hV.1.1.1 hQ;exact Nat.lt_of_lt_of_eq h2 h1.symm)
  ·obtain rfl:k=R:=by omega
   go_wp2;go_ret;exact⟨⟨G,rfl,nW.1,aN.1⟩,pX.1.trans (bA.1.mono nW.1)⟩
end
end Go.Proofs.YtenlbhlllgppmaaGreatDoor
