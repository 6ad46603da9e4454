/- contfrac in general: Expand, Convergents, Path. -/
import Derived.Test.YtenlbhlllgppmaaGreatDoorC28
set_option linter.unusedSimpArgs false
set_option maxRecDepth 100000
set_option maxHeartbeats 8000000
namespace Go.Proofs.YtenlbhlllgppmaaGreatDoor
section
open Go.RowKit Tryz
def OwnI (l:List Int) (w:World) (B:Nat) (v:Value):Prop:=OwnK NotU32 w B 3 1 v l.length (l.map (Value.int .i64))
def cusps (l:List (Int×Int)):List Value:=l.flatMap λc=>[.int .i64 c.1,.int .i64 c.2]
def OwnC (l:List (Int×Int)) (w:World) (B:Nat) (v:Value):Prop:=OwnK NotU32 w B 47 2 v l.length (cusps l)
theorem OwnI.push {l:List Int} {w':World} {B:Nat} {E:Value} {a:Int} (h:OwnK NotU32 w' B 3 1 E (l.length+1) (l.map (Value.int .i64)++[.int .i64 a])):OwnI (l++[a]) w' B E:=by
 unfold OwnI;rw[List.length_append,List.map_append];exact h
theorem OwnC.push {l:List (Int×Int)} {w':World} {B:Nat} {E:Value} {a:Int×Int} (h:OwnK NotU32 w' B 47 2 E (l.length+1) (cusps l++[.int .i64 a.1,.int .i64 a.2])):OwnC (l++[a]) w' B E:=by
 unfold OwnC cusps at *;rw[List.length_append,List.flatMap_append];exact h
theorem Hz:∀(l:List (Int×Int)) (j:Nat) (c:Int×Int),l[j]?=some c->(cusps l)[j*2]?=some (.int .i64 c.1)/\(cusps l)[j*2+1]?=some (.int .i64 c.2)
 | [],j,c,h=>by simp at h
 | x :: l,0,c,h=>by simp at h;subst h;exact⟨rfl,rfl⟩
 | x :: l,j+1,c,h=>by
  have I:=Hz l j c (by simpa using h);have E:(j+1)*2=j*2+1+1:=by omega
  unfold cusps at *;rw[List.flatMap_cons,E];exact I
theorem Cp:∀l:List (Int×Int),(cusps l).length=l.length*2
 | []=>rfl
 | x :: l=>by
  have E:=Cp l;unfold cusps at *;rw[List.flatMap_cons,List.length_append,E,List.length_cons];show 2+l.length*2=(l.length+1)*2;omega
theorem Wf (p q:Int) (w:World) (h:Al p q=0) (cF:q≠0):
  Calls prog 157 #[.agg #[.int .i64 p,.int .i64 q]] w λe w'=>(∃v,e=.returned (.tuple #[v,.int .i64 0])/\OwnI (Fq p q) w' w.heap.size v)/\Below w.heap.size w w':=by
 obtain⟨⟨p1,p2⟩,⟨q1,q2⟩,_,_⟩:=I7 (x:=(p,q)) h;dsimp only at p1 p2 q1 q2;have cM:=Kh (λw1=>Da p q w1 (by omega) (by omega) (by omega) (by omega));rw[h]at cM;obtain⟨L,hL⟩:∃L,Fq p q=L:=⟨_,rfl⟩
 have HL:=Kh hL;have eT:=Kh (show L.length<=61 from hL▸(W7 (x:=(p,q)) h cF).1.1);rw[hL];have cX:=Kh (show(-1073741824<=p/\p<=1073741824)/\0<q/\q<=1073741824 by omega);have HN:=Kh (OwnK.nil NotU32 w w.heap.size 3 1);clear h hL p1 p2 q1 q2;have gF:(q==0)=false:=by rw[beq_eq_false_iff_ne];exact cF
 go_enter func157,ntmps157
 go_wp2_with fail
 obtain⟨w0,dE,X0,cA⟩:=bx1 w #[.int .i64 p,.int .i64 q] 47;rw[dE];refine(cM.1 w0).mono ?_;rintro e w1 ⟨rfl,cB⟩;have X1:=X0.below_ cB X0.lt;have x0:=X1.at_ 0 rfl;have x1:=X1.at_ 1 rfl;have cI:=Kh (cA.trans (cB.mono cA.size));clear dE X0 cA cB X1;go_upto_region 7 with(fail)
 go_quiet (fail)
 have bC:=Kh (show Below w.heap.size w (w1.drewN nq)from Aa cI.1 nq);generalize w1.drewN nq=w2 at bC ⊢;have cT:=Kh (show OwnI [] w2 w.heap.size (.slice none 0 0)from OwnK.nil NotU32 w2 w.heap.size 3 1);clear x0 x1 cI HN cF gF;go_wp2_with fail
 go_loopw [5,6,7] (λvl vp vq wr=>∃(V:List Int) (P Q:Int),vp=.int .i64 P/\vq=.int .i64 Q/\OwnI V wr w.heap.size vl/\Below w.heap.size w wr/\Hd (V++Fq P Q=L/\(-1073741824<=P/\P<=1073741824)/\0<=Q/\Q<=1073741824)) (λ_ _ q _=>(intOf q).toNat)
 case atStart=>exact⟨[],p,q,rfl,rfl,cT.1,bC.1,Kh ⟨HL.1,cX.1.1,by have:=cX.1;omega⟩⟩
 case round=>
  obtain⟨V,P,Q,rfl,rfl,bB,dC,M⟩:=hrel;obtain⟨wi,rfl⟩:∃wi:World,wi=wr:=⟨_,rfl⟩
  have HO:=Kh bB;have HB:=Kh dC;have U:=HB.1.size;clear bB dC cT bC;by_cases hQ:Q=0
  ·have HF:=Kh (show OwnI L wi w.heap.size u5 by
    have h1:=M.1.1;rw[hQ,J4,List.append_nil]at h1;rw[<-h1];exact HO.1)
   subst hQ;clear M U HO;go_wp2
   (first|go_ret2|go_ret)
   exact⟨⟨_,rfl,HF.1⟩,HB.1⟩
  ·have aK:0<Q:=by have:=M.1;omega
   have J:=M.1.1;rw[Mz aK]at J;have cC:=Int.emod_nonneg P hQ;have cD:=Int.emod_lt_of_pos P aK;have aX:=Int.mul_ediv_add_emod P Q;obtain⟨R,hR⟩:∃R,P % Q=R:=⟨_,rfl⟩
   obtain⟨N,hN⟩:∃N,P / Q=N:=⟨_,rfl⟩
   rw[hR]at cC cD aX J;rw[hN]at aX J;have cS:=Kh (show(V++[N])++Fq Q R=L by rw[<-J];simp)
   have dY:V.length+1<=61:=by
    have h1:=eT.1;rw[<-J]at h1;simp at h1;omega
   have aD:=Kh dY;have Z:=Kh (show 0<=R/\R<Q from⟨cC,cD⟩);obtain⟨T,hT⟩:∃T,P.tmod Q=T:=⟨_,rfl⟩
   have aN:(if T<0 then T+Q else T)=R:=by
    rw[<-hT,<-hR];have h1:=Int.tmod_eq_emod (a:=P) (b:=Q);have h4:=Int.emod_lt_of_pos P aK;have h5:=Int.emod_nonneg P hQ;split at h1 <;> split <;> omega
   have hJ:-1073741824<=T/\T<=1073741824:=by have:=M.1;split at aN <;> omega
   have hM:(P - R).tdiv Q=N:=by
    rw[<-aX,Int.add_sub_cancel];exact Int.mul_tdiv_cancel_left N hQ
   have hH:-2147483648<=P - R/\P - R<=2147483648:=by have:=M.1;omega
   have hG:-2147483648<=N/\N<=2147483648:=by
    have h1:=M.1;constructor
    ·rcases Int.lt_or_le N (-2147483648)with h|h
     ·have:=Int.mul_le_mul_of_nonneg_left (show N<=-2147483649 by omega) (show 0<=Q by omega)
      omega
     ·exact h
    ·rcases Int.lt_or_le 2147483648 N with h|h
     ·have:=Int.mul_le_mul_of_nonneg_left (show 2147483649<=N by omega) (show 0<=Q by omega)
      omega
     ·exact h
   have hV:IntKind.i64.wrap R=R:=IntWalk.i64_in _ (by have:=M.1;omega);have hW:IntKind.i64.wrap (P - R)=P - R:=IntWalk.i64_in _ (by omega);have hX:IntKind.i64.wrap N=N:=IntWalk.i64_in _ (by omega);clear cC cD aX J dY hN hR aK;by_cases hT0:T<0
   ·rw[if_pos hT0]at aN
    go_wp2_with (at_builtin;refine Bk NotU32 rfl (.tmp 31) (.tmp 37) _ 3 rfl underlying93 Es rfl (by decide) w.heap.size V.length u5 (V.map (Value.int .i64)) [.int .i64 N] rfl HO.1 rfl rfl (Sv N) (by have:=aD.1;omega) (by have:=aD.1;omega) U (Su N) Yt ?_;intro v3 w3 E I O;have bY:=Kh (OwnI.push E);have bE:=Kh (At HB.1 HO.1.1 I (nL _) U);clear E I O)
    go_roundw
    case rel=>exact⟨V++[N],Q,R,rfl,rfl,bY.1,bE.1,Kh ⟨cS.1,by have:=M.1;omega,by have:=M.1;have:=Z.1;omega⟩⟩
    case measure=>have:=Z.1;simp[intOf];omega
   ·rw[if_neg hT0]at aN
    obtain rfl:R=T:=aN.symm;go_wp2_with (at_builtin;refine Bk NotU32 rfl (.tmp 31) (.tmp 37) _ 3 rfl underlying93 Es rfl (by decide) w.heap.size V.length u5 (V.map (Value.int .i64)) [.int .i64 N] rfl HO.1 rfl rfl (Sv N) (by have:=aD.1;omega) (by have:=aD.1;omega) U (Su N) Yt ?_;intro v3 w3 E I O;have bY:=Kh (OwnI.push E);have bE:=Kh (At HB.1 HO.1.1 I (nL _) U);clear E I O)
    go_roundw
    case rel=>exact⟨V++[N],Q,R,rfl,rfl,bY.1,bE.1,Kh ⟨cS.1,by have:=M.1;omega,by have:=M.1;have:=Z.1;omega⟩⟩
    case measure=>have:=Z.1;simp[intOf];omega
theorem OwnC.low {l:List (Int×Int)} {w:World} {B B':Nat} {v:Value} (h:OwnC l w B v) (hB:B'<=B):OwnC l w B' v:=⟨h.1.mono hB,h.2⟩
theorem K9 (V:List Int) (g cap:Nat) (w:World) (h0:0<V.length) (dE:V.length<=64) (hg:g<w.heap.size) (hc:∀(i:Nat) (n:Int),V[i]?=some n->w.cell? ⟨g,i,none⟩=some (.int .i64 n))
  (hr:∀(i:Nat) (n:Int),V[i]?=some n->-1073741824<=n/\n<=1073741824/\(0<i->1<=n)) (hH:∀c∈F8 (0,1) (1,0) V,InC c):
  Calls prog 158 #[.slice (some ⟨g,0,none⟩) V.length cap] w λe w'=>(∃v,e=.returned (.tuple #[v,.int .i64 0])/\OwnC (F8 (0,1) (1,0) V) w' w.heap.size v)/\Below w.heap.size w w':=by
 obtain⟨N,hN⟩:∃N,V.length=N:=⟨_,rfl⟩
 have mE:=Kh hN;have HC:=Kh (λW (hb:Below w.heap.size w W) (i:Nat) (n:Int) (hi:V[i]?=some n)=>(show W.cell? ⟨g,i,none⟩=some (.int .i64 n)from(hb.cell (p:=⟨g,i,none⟩) hg).trans (hc i n hi)));have HR:=Kh hr;have mD:=Kh hH;have eX:=Kh (show ∀i,i<N->∃n,V[i]?=some n from λi hi=>⟨_,List.getElem?_eq_getElem (by omega)⟩);rw[hN]at h0 dE ⊢;have oT:¬(N:Int)=0:=by omega
 have oU:¬(64:Int)<(N:Int):=by omega
 have cM:=Kh dE;clear hc hr hH hg dE hN;go_enter func158,ntmps158
 go_wp2_with fail
 go_loopw [19] (λii wr=>∃i:Nat,i<=N/\ii=.int .i64 i/\wr=w) (λii _=>N - (intOf ii).toNat)
 case atStart=>exact⟨0,Nat.zero_le _,rfl,rfl⟩
 case round=>
  obtain⟨i,hi,rfl,hQ⟩:=hrel;obtain rfl:w=wr:=hQ.symm;clear hQ;by_cases hlt:i<N
  ·obtain⟨n,hn⟩:=eX.1 i hlt
   have hG:=HC.1 w (Below.refl _ w) i n hn;have aN:=HR.1 i n hn;have nX:Hp n=true:=Dl.2 ⟨aN.1,aN.2.1⟩;have nW:(i:Int)<(N:Int):=by omega
   have nB:=Kh (show 0<i->1<=n from aN.2.2);clear hn aN;go_wp2_with fail
   refine(Wq n w).mono ?_;rintro e w' ⟨rfl,aD⟩;obtain rfl:w=w':=aD.symm;rw[nX];by_cases hi0:i=0
   ·subst hi0
    go_wp2;go_roundw
    case rel=>exact⟨0+1,by omega,by go_num,by first|rfl|trivial⟩
    case measure=>simp[intOf];omega
   ·have oW:(0:Int)<(i:Int):=by omega
    have oX:0<i:=by omega
    have oY:¬n<1:=by have:=nB.1 (by omega);omega
    go_wp2;go_roundw
    case rel=>exact⟨i+1,by omega,by go_num,by first|rfl|trivial⟩
    case measure=>simp[intOf];omega
  ·obtain rfl:N=i:=by omega
   go_wp2_with fail
   obtain⟨w2,hP,XA,XB,eF⟩:=bx2 w #[.int .i64 0,.int .i64 1] 47 #[.int .i64 1,.int .i64 0] 47;rw[hP];obtain⟨ga,eG⟩:∃x,w.heap.size=x:=⟨_,rfl⟩
   obtain⟨gb,eP⟩:∃x,w.heap.size+1=x:=⟨_,rfl⟩
   have gA:=Kh eG;have gF:=Kh eP;rw[eP]at XB ⊢;rw[eG]at XA ⊢;have HA:=Kh XA;have eY:=Kh XB;have cF:=Kh eF;obtain⟨B2,hB⟩:∃x,w2.heap.size=x:=⟨_,rfl⟩
   have aK:=Kh (show ga<B2/\gb<B2/\w.heap.size<=B2 by have h1:=XA.lt;have h2:=XB.lt;have h3:=eF.size;omega);have gN:=Kh hB;clear hP XA XB eF eG eP hlt hB;go_loopw [6,40] (λvl ii wr=>∃(i:Nat) (b l:Int×Int) (J:List (Int×Int)),i<=N/\ii=.int .i64 i/\OwnC J wr B2 vl/\B2<=wr.heap.size/\Blk wr ga 47 #[.int .i64 b.1,.int .i64 b.2]/\Blk wr gb 47 #[.int .i64 l.1,.int .i64 l.2]/\Below w.heap.size w wr/\Hd (J++F8 b l (V.drop i)=F8 (0,1) (1,0) V/\J.length=i/\(-1073741824<=b.1/\b.1<=1073741824/\-1073741824<=b.2/\b.2<=1073741824)/\(-1073741824<=l.1/\l.1<=1073741824/\-1073741824<=l.2/\l.2<=1073741824))) (λ_ ii _=>N - (intOf ii).toNat)
   case atStart=>exact⟨0,(0,1),(1,0),[],Nat.zero_le _,rfl,OwnK.nil NotU32 w2 B2 47 2,Nat.le_of_eq gN.1.symm,HA.1,eY.1,cF.1,Kh ⟨rfl,rfl,by decide,by decide⟩⟩
   case round=>
    obtain⟨i,⟨M,O⟩,⟨E,I⟩,J,hi,rfl,cS,aX,hA,dY,hE,HI⟩:=hrel;dsimp only at hA dY HI;obtain⟨wi,rfl⟩:∃wi:World,wi=wr:=⟨_,rfl⟩
    have HO:=Kh cS;have Z:=Kh hA;have h:=Kh dY;have HB:=Kh hE;have cT:=Kh aX;clear cS hA dY hE HA eY cF gN aX;by_cases hlt:i<N
    ·obtain⟨n,hn⟩:=eX.1 i hlt
     have hG:=HC.1 wi HB.1 i n hn;have aN:=HR.1 i n hn;have nW:(i:Int)<(N:Int):=by omega
     obtain⟨e1,e2,e3,e4⟩:=HI.1
     have hI:V.drop i=n :: V.drop (i+1):=by
      obtain⟨hM,e⟩:=List.getElem?_eq_some_iff.1 hn;rw[List.drop_eq_getElem_cons hM,e]
     rw[hI,F8]at e1;dsimp only at e1;have hO:InC (n*E+M,n*I+O):=mD.1 _ (by rw[<-e1];exact List.mem_append_right _ (List.mem_cons_self ..));obtain⟨m1,m2,m3,m4⟩:=hO;dsimp only at m1 m2 m3 m4;have nY:-1073741824 - 1073741824<=n*E/\n*E<=1073741824+1073741824:=by omega
     have nZ:-1073741824 - 1073741824<=n*I/\n*I<=1073741824+1073741824:=by omega
     have oA:IntKind.i64.wrap (n*E)=n*E:=IntWalk.i64_in _ (by omega);have oB:IntKind.i64.wrap (n*I)=n*I:=IntWalk.i64_in _ (by omega);have oC:IntKind.i64.wrap (n*E+M)=n*E+M:=IntWalk.i64_in _ (by omega);have oD:IntKind.i64.wrap (n*I+O)=n*I+O:=IntWalk.i64_in _ (by omega);have HE:=Kh (show(J++[(n*E+M,n*I+O)])++F8 (E,I) (n*E+M,n*I+O) (V.drop (i+1))=F8 (0,1) (1,0) V by rw[<-e1];simp);have mB:=Kh (show(J++[(n*E+M,n*I+O)]).length=i+1/\(-1073741824<=E/\E<=1073741824/\-1073741824<=I/\I<=1073741824)/\(-1073741824<=n*E+M/\n*E+M<=1073741824/\-1073741824<=n*I+O/\n*I+O<=1073741824)from⟨by simp[e2],e4,m1,m2,by omega,m4⟩);have gL:=Kh e2;have hJ:Hp (n*E+M)=true:=Dl.2 ⟨m1,m2⟩;have hL:Hp (n*I+O)=true:=Dl.2 ⟨by omega,m4⟩;clear e1 e2 e3 e4 hI m1 m2 m3 m4 nY nZ aN hn HI;have a0:=Z.1.at_ 0 rfl;have a1:=Z.1.at_ 1 rfl;have b0:=h.1.at_ 0 rfl;have nD:=h.1.at_ 1 rfl;have nR:=Z.1.free_ 0;have nS:=Z.1.free_ 1;have nT:=h.1.free_ 0;have nU:=h.1.free_ 1;have bE:ga≠gb:=by have:=gA.1;have:=gF.1;omega
     go_upto_region 16 with(fail)
     go_region
     have XA:=(Z.1.set_ 0 (.int .i64 E)).set_ 1 (.int .i64 I);have bY:w.heap.size<=ga:=Nat.le_of_eq gA.1;have cA:w.heap.size<=gb:=by have:=gF.1;omega
     have dC:=((XA.far_ (p:=⟨gb,0,none⟩) bE (.int .i64 (n*E+M))).far_ (p:=⟨gb,1,none⟩) bE (.int .i64 (n*I+O))).drew_;have bC:=((((h.1.far_ (p:=⟨ga,0,none⟩) (λe=>bE e.symm) (.int .i64 E)).far_ (p:=⟨ga,1,none⟩) (λe=>bE e.symm) (.int .i64 I)).set_ 0 (.int .i64 (n*E+M))).set_ 1 (.int .i64 (n*I+O))).drew_;obtain⟨ws,cC⟩:∃ws,((((wi.setCell ⟨ga,0,none⟩ (.int .i64 E)).setCell ⟨ga,1,none⟩ (.int .i64 I)).setCell ⟨gb,0,none⟩ (.int .i64 (n*E+M))).setCell ⟨gb,1,none⟩ (.int .i64 (n*I+O))).drew=ws:=⟨_,rfl⟩
     rw[cC]at dC bC ⊢;have mC:=Kh (show Below w.heap.size w ws from cC▸((((HB.1.setCell (p:=⟨ga,0,none⟩) bY _).setCell (p:=⟨ga,1,none⟩) bY _).setCell (p:=⟨gb,0,none⟩) cA _).setCell (p:=⟨gb,1,none⟩) cA _).drew)
     have cG:=Kh (show OwnC J ws B2 u6 by
      obtain⟨q1,q2,q3⟩:=aK.1;rw[<-cC];have h1:=(((OwnK.other (a:=⟨ga,0,none⟩) HO.1 q1 (int_i64 E)).other (a:=⟨ga,1,none⟩) q1 (int_i64 I)).other (a:=⟨gb,0,none⟩) q2 (int_i64 (n*E+M))).other (a:=⟨gb,1,none⟩) q2 (int_i64 (n*I+O));exact h1.keep (Below.refl _ _).drew)
     have aX:B2<=ws.heap.size:=by rw[<-cC];simpa using cT.1
     have hZ:=Kh dC;have cF:=Kh bC;have c0:=bC.at_ 0 rfl;have c1:=bC.at_ 1 rfl;clear XA dC bC cC a0 a1 b0 nD nR nS nT nU bE hG Z h HO HB cT oA oB oC oD bY cA;go_wp2_with fail
     refine(Wq (n*E+M) ws).mono ?_;rintro e w' ⟨rfl,aD⟩;obtain rfl:ws=w':=aD.symm;rw[hJ];clear aD;go_wp2_with fail
     refine(Wq (n*I+O) ws).mono ?_;rintro e w' ⟨rfl,aD⟩;obtain rfl:ws=w':=aD.symm;rw[hL];clear aD;go_wp2_with (at_builtin;refine Bk NotU32 rfl (.tmp 70) (.tmp 72) _ 47 rfl underlying128 Fb rfl (by decide) B2 J.length u6 (cusps J) [.int .i64 (n*E+M),.int .i64 (n*I+O)] rfl cG.1 rfl rfl (eD _ _) (by have:=gL.1;have:=cM.1;omega) (by have:=gL.1;have:=cM.1;omega) aX (eC _ _) St ?_;intro v3 w3 cB U hD;have nA:=Kh (OwnC.push (a:=(n*E+M,n*I+O)) cB);have mA:=Kh (At mC.1 cG.1.1 U aK.1.2.2 (nM aK.1.2.2 aX));have iL:=Kh (hZ.1.grown_ U (λe=>by have:=Cl cG.1.1 e;have:=aK.1.1;omega));have gP:=Kh (cF.1.grown_ U (λe=>by have:=Cl cG.1.1 e;have:=aK.1.2.1;omega));have nC:=Kh (nM aX U.size);clear cB U hD)
     go_roundw
     case rel=>exact⟨i+1,(E,I),(n*E+M,n*I+O),_,by omega,by go_num,nA.1,nC.1,iL.1,gP.1,mA.1,Kh ⟨HE.1,mB.1⟩⟩
     case measure=>simp[intOf];omega
    ·obtain rfl:N=i:=by omega
     have HF:=Kh (show OwnC (F8 (0,1) (1,0) V) wi w.heap.size u6 by
      have h1:=HI.1.1;rw[List.drop_eq_nil_of_le (by have:=mE.1;omega),F8,List.append_nil]at h1;rw[<-h1];exact HO.1.low aK.1.2.2)
     clear HI HO hlt cT Z h;go_wp2
     (first|go_ret2|go_ret)
     exact⟨⟨_,rfl,HF.1⟩,HB.1⟩
theorem OwnI.at_ {l:List Int} {w:World} {B:Nat} {v:Value} (h:OwnI l w B v) (E:0<l.length):∃g cap,v=.slice (some ⟨g,0,none⟩) l.length cap/\g<w.heap.size/\∀(i:Nat) (n:Int),l[i]?=some n->w.cell? ⟨g,i,none⟩=some (.int .i64 n):=by
 obtain⟨g,cap,e,_,_,_,hlt,_,I⟩:=Yw h E;exact⟨g,cap,e,hlt,λi n J=>I i _ (by rw[List.getElem?_map,J];rfl)⟩
theorem Fs:∀(l:List (Int×Int)),∀u∈cusps l,NotU32 u/\u.oneCell'=true
 | [],u,h=>by cases h
 | x :: l,u,h=>by
  unfold cusps at h;rw[List.flatMap_cons]at h;rcases List.mem_append.1 h with h|h
  ·simp at h
   rcases h with rfl|rfl <;> exact⟨int_i64 _,rfl⟩
  ·exact Fs l u h
theorem Wl (p q:Int) (w:World) (h:Al p q=0):
  Calls prog 112 #[.agg #[.int .i64 p,.int .i64 q]] w λe w'=>(∃v,e=.returned (.tuple #[v,.int .i64 0])/\OwnC (Cn (p,q)) w' w.heap.size v)/\Below w.heap.size w w':=by
 by_cases hq0:q=0
 ·subst hq0
  obtain rfl:p=1:=(I7 (x:=(p,0)) h).2.2.2 rfl;have e:Cn ((1:Int),(0:Int))=[(1,0)]:=by unfold Cn;rw[if_pos rfl]
  rw[e];exact Wm w
 ·obtain⟨k1,k2,k3,k4,k5⟩:=W7 (x:=(p,q)) h hq0
  dsimp only at k1 k2 k3;have ep:Cn (p,q)=[(1,0)]++F8 (0,1) (1,0) (Fq p q):=by unfold Cn;rw[if_neg hq0];rfl
  rw[ep];have aD:=Kh (λW=>Wf p q W h hq0);have O:=Kh (λg cap W hg hc=>K9 (Fq p q) g cap W k1.2 (by omega) hg hc k2 (λc hc=>(k3 c hc).1));have U:=Gg (Fq p q) (0,1) (1,0);obtain⟨L,hL⟩:∃L,Fq p q=L:=⟨_,rfl⟩
  obtain⟨C,hC⟩:∃C,F8 (0,1) (1,0) L=C:=⟨_,rfl⟩
  rw[hL]at k1 aD O U ⊢;rw[hC]at O U ⊢;have HK:=Kh (show 0<L.length/\L.length<=61/\C.length=L.length from⟨k1.2,k1.1,U⟩);clear k1 k2 k3 k4 k5 hL hC U ep h hq0;go_enter func112,ntmps112
  go_wp2_with fail
  obtain⟨w2,cC,_,XB,aK⟩:=bx2 w #[.int .i64 p,.int .i64 q] 47 #[.int .i64 1,.int .i64 0] 47;rw[cC];refine(aD.1 w2).mono ?_;rintro e w3 ⟨⟨v,rfl,Z⟩,aN⟩;obtain⟨g,cap,rfl,hlt,I⟩:=Z.at_ HK.1.1;have HC:=Kh (O.1 g cap w3 hlt I);have HO:=Kh (Sz (B:=w.heap.size) (XB.below_ aN XB.lt) (by omega));have HB:=Kh (aK.trans (aN.mono aK.size));clear cC XB aK aN Z I hlt;go_wp2_with fail
  refine HC.1.mono ?_;rintro e w4 ⟨⟨v4,rfl,J⟩,aX⟩;obtain⟨g4,bY,rfl,_,_,_,_,_,E⟩:=Yw J (by have:=HK.1;omega);have cF:=Kh (show ∀(j:Nat) u,(cusps C)[j]?=some u->w4.cell? ⟨g4,j,none⟩=some u from E);have bE:=Kh (HO.1.keep aX);have bB:=bt HB aX;have cB:=bB.1.size;clear J E aX HO HB HC O aD;go_wp2_with (at_builtin;refine K5 NotU32 rfl (.tmp 27) (.tmp 28) _ 47 rfl underlying128 Fb rfl (by decide) w.heap.size 1 C.length g4 bY _ [.int .i64 1,.int .i64 0] (cusps C) rfl bE.1 rfl (Cp C) cF.1 (λu hu=>(Fs C u hu).2) (by have:=HK.1;omega) (by have:=HK.1;omega) (by have:=HK.1;omega) cB (λu hu=>(Fs C u hu).1) St ?_;intro v5 w5 M V cA;have cG:=Kh M;have cD:=Kh (At bB.1 bE.1.1 V (nL _) cB);clear M V cA)
  (first|go_ret2|go_ret)
  have h5:OwnC ((1,0) :: C) w5 w.heap.size v5:=by
   unfold OwnC;rw[List.length_cons,Nat.add_comm];exact cG.1
  exact⟨⟨v5,rfl,h5⟩,cD.1⟩
def CAt (w:World) (g o:Nat) (l:List (Int×Int)):Prop:=∀(j:Nat) (c:Int×Int),l[j]?=some c->w.cell? ⟨g,o+j*2,none⟩=some (.int .i64 c.1)/\w.cell? ⟨g,o+j*2+1,none⟩=some (.int .i64 c.2)
def rv (l:List (Int×Int)) (i j:Nat):Option (Int×Int):=if j<i∨l.length<=i+j then l[l.length - 1 - j]? else l[j]?
theorem Kr {w:World} {g a:Nat} {u:Value} (h:(w.cell? ⟨g,a,none⟩).isSome=true):(w.setCell ⟨g,a,none⟩ u).cell? ⟨g,a,none⟩=some u:=World.cell?_setCell_same' _ _ _ h
theorem Cw {w:World} {g a b:Nat} {u:Value} (h:a≠b):(w.setCell ⟨g,a,none⟩ u).cell? ⟨g,b,none⟩=w.cell? ⟨g,b,none⟩:=World.cell?_setCell_other _ _ _ _ (by simp[h])
theorem Hh {w:World} {g a b:Nat} {u:Value} (E:(w.cell? ⟨g,a,none⟩).isSome=true):((w.setCell ⟨g,a,none⟩ u).cell? ⟨g,b,none⟩).isSome=(w.cell? ⟨g,b,none⟩).isSome:=by
 by_cases h:a=b
 ·subst h;rw[Kr E,E];rfl
 ·rw[Cw h]
theorem Ue (l:List (Int×Int)) (g o cap:Nat) (w:World) (hl:l.length<=1000) (h:CAt w g o l) (hf:∀i,w.frozen? ⟨g,i,none⟩=false) (h0:0<l.length):
  Calls prog 113 #[.slice (some ⟨g,o,none⟩) l.length cap] w λe w'=>(∃v,e=.returned v)/\CAt w' g o l.reverse/\(∀i,w'.frozen? ⟨g,i,none⟩=false)/\w'.heap.size=w.heap.size/\(∀i,i<o∨o+l.length*2<=i->w'.cell? ⟨g,i,none⟩=w.cell? ⟨g,i,none⟩)/\(∀i,(w'.cell? ⟨g,i,none⟩).isSome=(w.cell? ⟨g,i,none⟩).isSome)/\(∀B,B<=g->Below B w w')/\∀b,b≠g->w'.heap[b]?=w.heap[b]?:=by
 obtain⟨N,hN⟩:∃N,l.length=N:=⟨_,rfl⟩
 have HN:=Kh hN;have HL:=Kh hl;rw[hN]at hl h0;rw[hN];have HA:=Kh h;have HF:=Kh hf;have hY:IntKind.i64.wrap ((N:Int) - 1)=(N:Int) - 1:=IntWalk.i64_in _ (by omega);clear hN h hf;go_enter func113,ntmps113
 go_wp2_with fail
 go_loopw [2,3] (λvi vj wr=>∃(i:Nat) (j:Int),vi=.int .i64 i/\vj=.int .i64 j/\j=(N:Int) - 1 - i/\Hd (2*i<=N+1/\(∀(k:Nat) (c:Int×Int),k<N->rv l i k=some c->wr.cell? ⟨g,o+k*2,none⟩=some (.int .i64 c.1)/\wr.cell? ⟨g,o+k*2+1,none⟩=some (.int .i64 c.2))/\(∀i,wr.frozen? ⟨g,i,none⟩=false)/\wr.heap.size=w.heap.size/\(∀i,i<o∨o+N*2<=i->wr.cell? ⟨g,i,none⟩=w.cell? ⟨g,i,none⟩)/\(∀i,(wr.cell? ⟨g,i,none⟩).isSome=(w.cell? ⟨g,i,none⟩).isSome)/\(∀B,B<=g->Below B w wr)/\∀b,b≠g->wr.heap[b]?=w.heap[b]?)) (λ_ j _=>(intOf j).toNat)
 case atStart=>
  refine⟨0,(N:Int) - 1,rfl,rfl,by omega,Kh ⟨by omega,λk c hk Z=>?_,HF.1,rfl,λ_ _=>rfl,λ_=>rfl,λB _=>Below.refl B w,λ_ _=>rfl⟩⟩;have e:rv l 0 k=l[k]?:=by unfold rv;rw[if_neg (by have:=HN.1;omega)]
  rw[e]at Z;exact HA.1 k c Z
 case round=>
  obtain⟨i,j,rfl,rfl,hj,U⟩:=hrel;obtain⟨V,rfl⟩:∃V:World,V=wr:=⟨_,rfl⟩
  by_cases hlt:(i:Int)<j
  ·obtain⟨m,rfl⟩:∃m:Nat,j=(m:Int):=⟨j.toNat,by omega⟩
   have aX:N=i+m+1:=by omega
   have hW:i<m:=by omega
   have eX:i<N:=by omega
   have gA:m<N:=by omega
   have hV:(i:Int)<(N:Int):=by omega
   have hX:(m:Int)<(N:Int):=by omega
   have mE:IntKind.i64.wrap ((m:Int) - 1)=(m:Int) - 1:=IntWalk.i64_in _ (by omega);obtain⟨⟨p1,q1⟩,bB⟩:∃c,l[i]?=some c:=⟨_,List.getElem?_eq_getElem (by have:=HN.1;omega)⟩
   obtain⟨⟨p2,q2⟩,bC⟩:∃c,l[m]?=some c:=⟨_,List.getElem?_eq_getElem (by have:=HN.1;omega)⟩
   have cX:=Kh bB;have dC:=Kh bC;obtain⟨x0,x1⟩:=U.1.2.1 i (p1,q1) eX (by unfold rv;rw[if_neg (by have:=HN.1;omega)];exact bB);obtain⟨y0,y1⟩:=U.1.2.1 m (p2,q2) gA (by unfold rv;rw[if_neg (by have:=HN.1;omega)];exact bC);dsimp only at x0 x1 y0 y1;have f0:=U.1.2.2.1 (o+i*2);have f1:=U.1.2.2.1 (o+i*2+1);have f2:=U.1.2.2.1 (o+m*2);have f3:=U.1.2.2.1 (o+m*2+1);have dY:=Kh aX;clear bB bC hj aX;go_upto_region 3 with(fail)
   go_region
   have s0:(V.cell? ⟨g,o+i*2,none⟩).isSome=true:=by rw[x0];rfl
   have s1:(V.cell? ⟨g,o+i*2+1,none⟩).isSome=true:=by rw[x1];rfl
   have s2:(V.cell? ⟨g,o+m*2,none⟩).isSome=true:=by rw[y0];rfl
   have s3:(V.cell? ⟨g,o+m*2+1,none⟩).isSome=true:=by rw[y1];rfl
   obtain⟨wa,O⟩:∃x,V.setCell ⟨g,o+i*2,none⟩ (.int .i64 p2)=x:=⟨_,rfl⟩
   obtain⟨wb,M⟩:∃x,wa.setCell ⟨g,o+i*2+1,none⟩ (.int .i64 q2)=x:=⟨_,rfl⟩
   obtain⟨wc,I⟩:∃x,wb.setCell ⟨g,o+m*2,none⟩ (.int .i64 p1)=x:=⟨_,rfl⟩
   obtain⟨J,E⟩:∃x,wc.setCell ⟨g,o+m*2+1,none⟩ (.int .i64 q1)=x:=⟨_,rfl⟩
   have aK:∀b,(J.cell? ⟨g,b,none⟩).isSome=(V.cell? ⟨g,b,none⟩).isSome/\(wc.cell? ⟨g,b,none⟩).isSome=(V.cell? ⟨g,b,none⟩).isSome/\(wb.cell? ⟨g,b,none⟩).isSome=(V.cell? ⟨g,b,none⟩).isSome/\(wa.cell? ⟨g,b,none⟩).isSome=(V.cell? ⟨g,b,none⟩).isSome:=by
    have e1:∀b,(wa.cell? ⟨g,b,none⟩).isSome=(V.cell? ⟨g,b,none⟩).isSome:=λb=>O▸Hh s0
    have e2:∀b,(wb.cell? ⟨g,b,none⟩).isSome=(V.cell? ⟨g,b,none⟩).isSome:=λb=>M▸(Hh ((e1 _).trans s1)).trans (e1 b)
    have e3:∀b,(wc.cell? ⟨g,b,none⟩).isSome=(V.cell? ⟨g,b,none⟩).isSome:=λb=>I▸(Hh ((e2 _).trans s2)).trans (e2 b)
    have e4:∀b,(J.cell? ⟨g,b,none⟩).isSome=(V.cell? ⟨g,b,none⟩).isSome:=λb=>E▸(Hh ((e3 _).trans s3)).trans (e3 b)
    exact λb=>⟨e4 b,e3 b,e2 b,e1 b⟩
   have aD:∀b,b≠o+i*2->b≠o+i*2+1->b≠o+m*2->b≠o+m*2+1->J.cell? ⟨g,b,none⟩=V.cell? ⟨g,b,none⟩:=λb n0 n1 n2 n3=>by
    rw[<-E,Cw n3.symm,<-I,Cw n2.symm,<-M,Cw n1.symm,<-O,Cw n0.symm]
   have bE:J.cell? ⟨g,o+i*2,none⟩=some (.int .i64 p2):=by rw[<-E,Cw (by omega),<-I,Cw (by omega),<-M,Cw (by omega),<-O,Kr s0]
   have bY:J.cell? ⟨g,o+i*2+1,none⟩=some (.int .i64 q2):=by rw[<-E,Cw (by omega),<-I,Cw (by omega),<-M,Kr ((aK _).2.2.2.trans s1)]
   have cC:J.cell? ⟨g,o+m*2,none⟩=some (.int .i64 p1):=by rw[<-E,Cw (by omega),<-I,Kr ((aK _).2.2.1.trans s2)]
   have cD:J.cell? ⟨g,o+m*2+1,none⟩=some (.int .i64 q1):=by rw[<-E,Kr ((aK _).2.1.trans s3)]
   have aX:=dY.1;have eY:=HN.1
   have HZ:=Kh (show 2*(i+1)<=N+1/\(∀(k:Nat) (c:Int×Int),k<N->rv l (i+1) k=some c->J.drew.cell? ⟨g,o+k*2,none⟩=some (.int .i64 c.1)/\J.drew.cell? ⟨g,o+k*2+1,none⟩=some (.int .i64 c.2))/\(∀i,J.drew.frozen? ⟨g,i,none⟩=false)/\J.drew.heap.size=w.heap.size/\(∀i,i<o∨o+N*2<=i->J.drew.cell? ⟨g,i,none⟩=w.cell? ⟨g,i,none⟩)/\(∀i,(J.drew.cell? ⟨g,i,none⟩).isSome=(w.cell? ⟨g,i,none⟩).isSome)/\(∀B,B<=g->Below B w J.drew)/\∀b,b≠g->J.drew.heap[b]?=w.heap[b]? from by
    refine⟨by omega,λk c hk Z=>?_,λb=>?_,?_,λb hb=>?_,λb=>(aK b).1.trans (U.1.2.2.2.2.2.1 b),λB hB=>?_,λb hb=>?_⟩
    ·show J.cell? ⟨g,o+k*2,none⟩=_/\J.cell? ⟨g,o+k*2+1,none⟩=_
     by_cases k1:k=i
     ·subst k1
      have e:rv l (k+1) k=l[m]?:=by unfold rv;rw[if_pos (by omega)];congr 1;omega
      rw[e,dC.1]at Z;obtain rfl:(p2,q2)=c:=by simpa using Z
      exact⟨bE,bY⟩
     ·by_cases k2:k=m
      ·subst k2
       have e:rv l (i+1) k=l[i]?:=by unfold rv;rw[if_pos (by omega)];congr 1;omega
       rw[e,cX.1]at Z;obtain rfl:(p1,q1)=c:=by simpa using Z
       exact⟨cC,cD⟩
      ·have e:rv l (i+1) k=rv l i k:=by
        unfold rv;by_cases k3:k<i∨l.length<=i+k
        ·rw[if_pos k3,if_pos (by omega)]
        ·rw[if_neg k3,if_neg (by omega)]
       rw[e]at Z;have h9:=U.1.2.1 k c hk Z;rw[aD _ (by omega) (by omega) (by omega) (by omega),aD _ (by omega) (by omega) (by omega) (by omega)];exact h9
    ·show J.frozen? ⟨g,b,none⟩=false
     rw[<-E,<-I,<-M,<-O];simp only[World.frozen?_setCell];exact U.1.2.2.1 b
    ·show J.heap.size=_
     rw[<-E,<-I,<-M,<-O];simp;exact U.1.2.2.2.1
    ·show J.cell? ⟨g,b,none⟩=_
     rw[aD _ (by omega) (by omega) (by omega) (by omega)];exact U.1.2.2.2.2.1 b hb
    ·have h9:=U.1.2.2.2.2.2.2.1 B hB
     rw[<-E,<-I,<-M,<-O];exact((((h9.setCell (p:=⟨g,o+i*2,none⟩) hB _).setCell (p:=⟨g,o+i*2+1,none⟩) hB _).setCell (p:=⟨g,o+m*2,none⟩) hB _).setCell (p:=⟨g,o+m*2+1,none⟩) hB _).drew
    ·show J.heap[b]?=_
     rw[<-E,<-I,<-M,<-O];exact(Below.heap_setCell _ ⟨g,o+m*2+1,none⟩ _ b hb).trans ((Below.heap_setCell _ ⟨g,o+m*2,none⟩ _ b hb).trans ((Below.heap_setCell _ ⟨g,o+i*2+1,none⟩ _ b hb).trans ((Below.heap_setCell _ ⟨g,o+i*2,none⟩ _ b hb).trans (U.1.2.2.2.2.2.2.2 b hb)))))
   have cA:(m:Int) - 1=(N:Int) - 1 - ((i+1:Nat):Int):=by omega
   have dE:=Kh cA;rw[O,M,I,E];clear O M I E aK aD bE bY cC cD s0 s1 s2 s3 x0 x1 y0 y1 f0 f1 f2 f3 U aX eY cA;generalize J.drew=we at HZ ⊢;go_wp2;go_roundw
   case rel=>exact⟨i+1,(m:Int) - 1,by go_num,rfl,dE.1,HZ⟩
   case measure=>simp[intOf];omega
  ·have HZ:=Kh (show CAt V g o l.reverse/\_ from⟨λk c Z=>by
     have hk:k<N:=by have:=(List.getElem?_eq_some_iff.1 Z).1;rw[List.length_reverse,HN.1]at this;exact this
     refine U.1.2.1 k c hk ?_;rw[List.getElem?_reverse (by rw[HN.1];exact hk)]at Z;have h1:=U.1.1;unfold rv;by_cases h2:k<i∨l.length<=i+k
     ·rw[if_pos h2];exact Z
     ·rw[if_neg h2]
      have h3:l.length - 1 - k=k:=by have:=HN.1;omega
      rw[h3]at Z;exact Z,U.1.2.2⟩)
   clear U hj;go_wp2;go_end0;exact⟨⟨_,rfl⟩,HZ.1⟩
theorem E7 {B g:Nat} (hB:B<=g):∀(E:List Value) (o:Nat) (w:World),Below B w (w.setCells g o E)
 | [],_,w=>Below.refl B w
 | v :: E,o,w=>by
  have I:Below B w (w.setCell ⟨g,o,none⟩ v):=(Below.refl B w).setCell (p:=⟨g,o,none⟩) hB v;exact I.trans (E7 hB E (o+1) _)
theorem aB {P:Program} {W:World} {cD:Array Oper} {rest:List Oper} {o:Oper} {a:Act} {Q:Exit->Act->World->Prop} (cM:o.guard=none) (s x:Operand) (t E:TypeId)
  (ho:o.op=.call { callee:=.builtin .append,args:=#[s,x],argTypes:=#[t,t] }) {z:Value} {sz O:Nat} (hU:P.underlying t=some (.slice E))
  (aN:(P.info? E).map (λi=>(i.zero,i.size,i.bytes))=some (some z,sz,O)) (B g of n V g2 o2 m c2:Nat) (J I:List Value)
  (hs:a.eval s=.slice (some ⟨g,of,none⟩) n V) (hx:a.eval x=.slice (some ⟨g2,o2,none⟩) m c2) (cT:J.length=n*sz) (U:∀(j:Nat) (u:Value),J[j]?=some u->W.cell? ⟨g,of+j,none⟩=some u)
  (cB:∀j,j<V*sz->(W.cell? ⟨g,of+j,none⟩).isSome=true) (hf:∀i,W.frozen? ⟨g,i,none⟩=false) (hn:I.length=m*sz) (bY:∀(j:Nat) (u:Value),I[j]?=some u->W.cell? ⟨g2,o2+j,none⟩=some u) (h1:∀u∈I,u.oneCell'=true)
  (hb:(n+m)*O<=140737488355328) (hm:n+m<=9223372036854775807) (bB:B<=g) (cI:B<=W.heap.size) (hg:g<W.heap.size)
  (h:∀g' o' c' w',(∀(j:Nat) (u:Value),(J++I)[j]?=some u->w'.cell? ⟨g',o'+j,none⟩=some u)->g'<w'.heap.size->Below B W w'->wpList P cD Q rest (a.put o.dst (.slice (some ⟨g',o',none⟩) (n+m) c')) w'):
  wpList P cD Q (o :: rest) a W:=by
 obtain⟨i0,hi,cX,Z,dC⟩:=info_parts aN
 have aD:∀(b k j:Nat),(⟨b,k,none⟩:Addr).add j=⟨b,k+j,none⟩:=λb k j=>by
  unfold Addr.add;split
  ·rename_i h0;rw[h0,Nat.add_zero]
  ·simp
 have aK:Src P i0.size t (.slice (some ⟨g2,o2,none⟩) m c2) m I W:=Src.ofSlice W hU ⟨g2,o2,none⟩ m c2 I (by rw[Z];exact hn) (λj u M=>by rw[aD];exact bY j u M) h1;refine wpList_plain cM λK' bC=>?_
 unfold Oper.wp execOp;by_cases hroom:n+m<=V
 ·have cF:n*sz+I.length<=V*sz:=by rw[hn,<-Nat.add_mul];exact Nat.mul_le_mul_right _ hroom
  have hr:=run_append_room_src (P:=P) W t t o.type E i0 hU hi g of n V (.slice (some ⟨g2,o2,none⟩) m c2) m I aK hroom (λj M=>by rw[Z,Nat.add_assoc];exact cB _ (by omega)) (λj _=>hf _);rw[Z]at hr;simp only[ho,resolve,invoke,builtin,Sem.run_bind,Sem.run_pure,Result.andThen_ok,List.map_toArray,List.map_cons,List.map_nil,hs,hx,hr];refine bC _ _ (h g of V _ (λj u M=>?_) ?_ (E7 bB I _ W))
  ·rcases Nat.lt_or_ge j J.length with hlt|cS
   ·rw[List.getElem?_append_left hlt]at M
    rw[World.cell?_setCells_out g I (of+n*sz) W ⟨g,of+j,none⟩ (λ_ _=>.inl (by dsimp only;omega))];exact U j u M
   ·rw[List.getElem?_append_right cS]at M
    obtain⟨bE,e⟩:=List.getElem?_eq_some_iff.1 M;have h3:=World.cell?_setCells_in g I (of+n*sz) W (λj M=>by rw[Nat.add_assoc];exact cB _ (by omega)) (j - J.length) bE;rw[show of+n*sz+(j - J.length)=of+j by omega]at h3;rw[h3,e]
  ·exact nN hg (E7 bB I _ W).size
 ·have cA:(Builtin.firstCells i0.size n (.slice (some ⟨g,of,none⟩) n V)).run P W.drew=.ok J.toArray W.drew:=run_firstCells_some W.drew i0.size n ⟨g,of,none⟩ n V J (by rw[Z];exact cT) (λj u M=>by rw[aD];exact U j u M)
  have hr:=run_append_grow_src (P:=P) W t t o.type E i0 z hU hi cX (some ⟨g,of,none⟩) n V J cA (.slice (some ⟨g2,o2,none⟩) m c2) m I aK (by omega) (by omega) (growslice_fits (by omega) (by rw[dC];exact hb));simp only[ho,resolve,invoke,builtin,Sem.run_bind,Sem.run_pure,Result.andThen_ok,List.map_toArray,List.map_cons,List.map_nil,hs,hx,hr];refine bC _ _ (h W.heap.size 0 _ _ (λj u M=>?_) ?_ ((Below.refl B W).drew.alloc (by simpa using cI) _))
  ·have e1:=World.cell?_alloc_new W.drew (((J++I).toArray++Builtin.zeroCells z.cells (grownCap W (n+m) V E - (n+m)))) E j
   obtain⟨hlt,e⟩:=List.getElem?_eq_some_iff.1 M;rw[Nat.zero_add];refine e1.trans ?_;rw[Array.getElem?_append_left (by simpa using hlt),List.getElem?_toArray];exact M
  ·simp
theorem Hb {K:Value->Prop} {w:World} {B E sz n:Nat} {v:Value} {M:List Value} (h:OwnK K w B E sz v n M) (hn:0<n):∃g cap,v=.slice (some ⟨g,0,none⟩) n cap/\n<=cap/\cap<=9223372036854775807/\B<=g/\g<w.heap.size/\(∀i,w.frozen? ⟨g,i,none⟩=false)/\(∀(j:Nat) u,M[j]?=some u->w.cell? ⟨g,j,none⟩=some u)/\∀j,j<cap*sz->(w.cell? ⟨g,j,none⟩).isSome=true:=by
 rcases h.1.2 with⟨_,e2⟩ |⟨g,cap,cs,J,hB,hg,O,I,U,_⟩
 ·omega
 ·have V:=h.2 g (by rw[J];rfl)
  subst J;exact⟨g,cap,rfl,O,by simp only[maxLen]at I;omega,hB,V.1,λi=>Blk.free_ hg i,λj u Z=>Ai h.1 Z,λj hj=>by rw[Blk.cell_ hg j,Array.getElem?_eq_getElem (by omega)];rfl⟩
theorem Nt {a:Option Addr} {n m c:Nat} (h:n=m):Ending.returned (.tuple #[.slice a n c,.int .i64 0])=Ending.returned (.tuple #[.slice a m c,.int .i64 0]):=by rw[h]
theorem Ed {w:World} {g o:Nat}:∀(l:List (Int×Int)),(∀(j:Nat) (u:Value),(cusps l)[j]?=some u->w.cell? ⟨g,o+j,none⟩=some u)↔CAt w g o l:=by
 intro l;constructor
 ·intro h j c M
  have E:=Hz l j c M;exact⟨h _ _ E.1,by rw[Nat.add_assoc];exact h _ _ E.2⟩
 ·intro h j u I
  have hlt:=(List.getElem?_eq_some_iff.1 I).1;rw[Cp]at hlt;have U:j / 2<l.length:=by omega
  obtain⟨c,M⟩:∃c,l[j / 2]?=some c:=⟨_,List.getElem?_eq_getElem U⟩
  have E:=h _ _ M;have J:=Hz l _ c M;rcases Nat.mod_two_eq_zero_or_one j with V|V
  ·have e:j / 2*2=j:=by omega
   rw[e]at E J;rw[J.1]at I;rw[<-I];exact E.1
  ·have e:j / 2*2+1=j:=by omega
   have O:o+j / 2*2+1=o+j:=by omega
   rw[e]at J;rw[O]at E;rw[J.2]at I;rw[<-I];exact E.2
theorem CAt.keep {w w':World} {g o:Nat} {l:List (Int×Int)} (h:CAt w g o l) (hg:g<w.heap.size) (E:Below w.heap.size w w'):CAt w' g o l:=λj c I=>⟨(E.cell (p:=⟨g,o+j*2,none⟩) hg).trans (h j c I).1,(E.cell (p:=⟨g,o+j*2+1,none⟩) hg).trans (h j c I).2⟩
theorem CAt.drop {w:World} {g o:Nat} {l:List (Int×Int)} (h:CAt w g o l) (d:Nat):CAt w g (o+d*2) (l.drop d):=λj c I=>by
 rw[List.getElem?_drop]at I;have E:=h _ _ I;rw[show o+(d+j)*2=o+d*2+j*2 by omega]at E;exact E
theorem aP (p q p' q':Int) (w:World) (ha:Al p q=0) (hb:Al p' q'=0):
  Calls prog 65 #[.agg #[.int .i64 p,.int .i64 q],.agg #[.int .i64 p',.int .i64 q']] w λe w'=>(∃ch g o cap,e=.returned (.tuple #[.slice (some ⟨g,o,none⟩) ch.length cap,.int .i64 0])/\g<w'.heap.size/\CAt w' g o ch/\ChainOk (p,q) (p',q') ch)/\Below w.heap.size w w':=by
 have eG:=Kh (λW=>Wl p q W ha);have eP:=Kh (λW=>Wl p' q' W hb);have HJ:=Kh (λc hc h1 h2 he=>Rb (a:=(p,q)) (b:=(p',q')) ha hb (c:=c) hc h1 h2 he);have ka:=(Nr (x:=(p,q)) ha).1;have kb:=(Nr (x:=(p',q')) hb).1;obtain⟨ra,cC⟩:∃r,Cn (p,q)=(1,0) :: r:=⟨_,rfl⟩
 obtain⟨rb,cD⟩:∃r,Cn (p',q')=(1,0) :: r:=⟨_,rfl⟩
 obtain⟨A,hA⟩:∃A,Cn (p,q)=A:=⟨_,rfl⟩
 obtain⟨B,hB⟩:∃B,Cn (p',q')=B:=⟨_,rfl⟩
 rw[hA]at eG HJ ka cC;rw[hB]at eP HJ kb cD;have oL:=Kh (show A[0]?=B[0]? by rw[cC,cD];rfl);obtain⟨E,cA⟩:∃n,A.length=n:=⟨_,rfl⟩
 obtain⟨nb,cB⟩:∃n,B.length=n:=⟨_,rfl⟩
 rw[cA]at ka HJ;rw[cB]at kb HJ;have cI:0<E:=by rw[<-cA,cC];simp
 have cM:0<nb:=by rw[<-cB,cD];simp
 have bC:=Kh cA;have V:=Kh cB;have HK:=Kh (show E<=62/\nb<=62/\0<E/\0<nb from⟨ka,kb,cI,cM⟩);clear ha hb cC cD hA hB cA cB ka kb cI cM ra rb;go_enter func65,ntmps65
 go_wp2_with fail
 obtain⟨w0,oA,_,XB,bY⟩:=bx2 w #[.int .i64 p,.int .i64 q] 47 #[.int .i64 p',.int .i64 q'] 47;rw[oA];refine(eG.1 w0).mono ?_;rintro e w1 ⟨⟨v1,rfl,aN⟩,eX⟩;have eT:=XB.below_ eX XB.lt;have x0:=eT.at_ 0 rfl;have x1:=eT.at_ 1 rfl;obtain⟨g,cap,rfl,gN,nX,nB,nC,mE,mA,nZ⟩:=Hb aN (by rw[bC.1];exact HK.1.2.2.1);rw[bC.1]at gN ⊢;have hJ:=Kh ((Ed A (o:=0)).1 (by simpa using mA));have hL:=Kh mE;have hW:=Kh nZ;have HG:=Kh (show w.heap.size<=g from nM bY.size nB);have U:=Kh nC;have hE:=Kh (bY.trans (eX.mono bY.size));have cX:=Kh (show E<=cap/\cap<=9223372036854775807 from⟨gN,nX⟩);clear oA XB bY eX eT aN mE mA nZ nB nC gN nX;go_wp2_with fail
 refine(eP.1 w1).mono ?_;rintro e w2 ⟨⟨v2,rfl,aX⟩,Z⟩;obtain⟨g2,I,rfl,gL,nV,nD,nQ,_,mB,_⟩:=Hb aX (by rw[V.1];exact HK.1.2.2.2);rw[V.1]at gL ⊢;have oR:=Kh (show g<g2 from nN U.1 nD);have cS:=Kh ((Ed B (o:=0)).1 (by simpa using mB));have cT:=Kh (hJ.1.keep U.1 Z);have hM:=Kh (show ∀i,w2.frozen? ⟨g,i,none⟩=false from λi=>(World.frozen?_of_block (a:=⟨g,i,none⟩) (Z.block g U.1)).trans (hL.1 i));have hX:=Kh (show ∀j,j<cap*2->(w2.cell? ⟨g,j,none⟩).isSome=true from λj hj=>by rw[Z.cell (p:=⟨g,j,none⟩) U.1];exact hW.1 j hj);have hG:=bt hE Z;have bB:=Kh (nN U.1 Z.size);have hN:=Kh nQ;have dC:=Kh (show nb<=I/\I<=9223372036854775807 from⟨gL,nV⟩);clear x0 x1 aX Z mB hJ hL hW hE U nD nQ gL nV eG eP;go_wp2_with fail
 go_loopw [9] (λii wr=>∃c:Nat,ii=.int .i64 c/\Below w2.heap.size w2 wr/\Hd (c<=E/\c<=nb/\∀j,j<c->A[j]?=B[j]?)) (λii _=>E - (intOf ii).toNat)
 case atStart=>exact⟨0,rfl,Below.refl _ _,Kh ⟨by omega,by omega,λj hj=>absurd hj (Nat.not_lt_zero _)⟩⟩
 case round=>
  obtain⟨c,rfl,hZ,HI⟩:=hrel;obtain⟨w3,rfl⟩:∃w3:World,w3=wr:=⟨_,rfl⟩
  have J:=Kh hZ;clear hZ;go_upto_region 8 with(fail)
  go_cut [43]from 26 to 44 (λpH wx=>∃b:Bool,pH=.bool b/\Below w2.heap.size w2 wx/\(b=true->c<E/\c<nb/\A[c]?=B[c]?)/\(b=false->0<c))
  case first=>
   by_cases hlt:c<E/\c<nb
   ·obtain⟨h1,h2⟩:=hlt
    obtain⟨⟨a1,a2⟩,aD⟩:∃x,A[c]?=some x:=⟨_,List.getElem?_eq_getElem (by have:=bC.1;omega)⟩
    obtain⟨⟨b1,b2⟩,aK⟩:∃x,B[c]?=some x:=⟨_,List.getElem?_eq_getElem (by have:=V.1;omega)⟩
    obtain⟨d0,d1⟩:=cT.1 c _ aD;obtain⟨e0,e1⟩:=cS.1 c _ aK;dsimp only at d0 d1 e0 e1;rw[Nat.zero_add]at d0 d1 e0 e1;replace d0:=Ad J.1 d0;replace d1:=Ad J.1 d1;replace e0:=Ad J.1 e0;replace e1:=Ad J.1 e1;have pZ:(c:Int)<(E:Int):=by omega
    have qA:(c:Int)<(nb:Int):=by omega
    have nW:(c:Int)<min (E:Int) (nb:Int):=by omega
    by_cases heq:a1=b1/\a2=b2
    ·obtain⟨rfl,rfl⟩:=heq
     have oP:=Kh (show A[c]?=B[c]? by rw[aD,aK]);clear aD aK;go_quiet (fail)
     go_wp2;go_meet
     exact⟨true,rfl,Aa J.1 _,λ_=>⟨h1,h2,oP.1⟩,λh=>by cases h⟩
    ·have hI:=Kh (show 0<c by
      rcases Nat.eq_zero_or_pos c with h|h
      ·exfalso
       subst h;have h9:=oL.1;rw[aD,aK]at h9;exact heq (by simpa using h9)
      ·exact h)
     clear aD aK;by_cases k1:a1=b1
     ·subst k1
      have k2:¬a2=b2:=λh=>heq ⟨rfl,h⟩
      have k3:(a2==b2)=false:=by rw[beq_eq_false_iff_ne];exact k2
      clear heq;go_quiet (fail)
      go_wp2;go_meet
      exact⟨false,rfl,Aa J.1 _,(λh=>by cases h),λ_=>hI.1⟩
     ·have k3:(a1==b1)=false:=by rw[beq_eq_false_iff_ne];exact k1
      clear heq;go_quiet (fail)
      go_wp2;go_meet
      exact⟨false,rfl,Aa J.1 _,(λh=>by cases h),λ_=>hI.1⟩
   ·have nW:¬((c:Int)<min (E:Int) (nb:Int)):=by omega
    have qB:decide ((c:Int)<min (E:Int) (nb:Int))=false:=decide_eq_false nW;refine Lg (λ_=>True) (λ_ _=>trivial) (λ_ hT=>?_);refine Ap 0 ?_;refine Ap 1 ?_;refine Ap 2 ?_;refine Ap 3 ?_;refine Ap 4 ?_;refine Ap 5 ?_;refine Ap 6 ?_;refine Ap 7 ?_;refine eA 8 ?_;refine eA 9 ?_;refine eA 10 ?_;refine eA 11 ?_;refine eA 12 ?_;refine eA 13 ?_;refine eA 14 ?_;refine eA 15 ?_;refine eA 16 ?_;refine Le 17 rfl (λK hK=>?_);go_simp
    refine hK.out _ _ ?_;clear hK K
    (try simp only[Act.put,Bn,Bp,Bo])
    go_wp2;go_meet
    exact⟨false,rfl,J.1.drew,(λh=>by cases h),λ_=>by have:=HK.1;have:=HI.1;omega⟩
  case rest=>
   obtain⟨b,rfl,iL,gA,eY⟩:=hcut;obtain⟨w4,rfl⟩:∃w4:World,w4=wc:=⟨_,rfl⟩
   have M:=Kh iL;clear iL J;cases b with
   | true=>
    obtain⟨h1,h2,h3⟩:=gA rfl;have H3:=Kh h3;have pE:E<=62:=HK.1.1;clear h3 gA eY;go_wp2;go_roundw
    case rel=>exact⟨c+1,by go_num,M.1,Kh ⟨by omega,by omega,λj hj=>by
      rcases Nat.lt_or_ge j c with h|h
      ·exact HI.1.2.2 j h
      ·obtain rfl:j=c:=by omega
       exact H3.1⟩⟩
    case measure=>simp[intOf];omega
   | false=>
    have pA:=eY rfl;obtain⟨d,rfl⟩:∃d,c=d+1:=⟨c - 1,by omega⟩
    clear gA eY pA;have eF:=Kh (HJ.1 (d+1) (by omega) HI.1.1 HI.1.2.1 HI.1.2.2);have O:=Kh (show d+1<=E/\d+1<=nb from⟨HI.1.1,HI.1.2.1⟩);have e1:((d+1:Nat):Int) - 1=(d:Int):=by omega
    have e2:IntKind.i64.wrap (d:Int)=(d:Int):=IntWalk.i64_in _ (by have:=O.1;have:=HK.1;omega);have mD:¬(cap - d=0):=by have:=O.1;have:=cX.1;omega
    have pC:d<=E:=by have:=O.1;omega
    have pB:E<=cap:=cX.1.1;clear HI HJ;have gF:(A.drop d).length=E - d:=by rw[List.length_drop,bC.1]
    have nA:∀i,w4.frozen? ⟨g,i,none⟩=false:=λi=>(World.frozen?_of_block (a:=⟨g,i,none⟩) (M.1.block g bB.1)).trans (hM.1 i)
    have hV:=Kh (show Calls prog 113 #[.slice (some ⟨g,d*2,none⟩) (E - d) (cap - d)] w4 _ from gF▸Ue (A.drop d) g (d*2) (cap - d) w4 (by have:=HK.1;omega) (by have h:=(cT.1.keep bB.1 M.1).drop d;rwa [Nat.zero_add]at h) nA (by have:=O.1;omega));have hQ:=Kh gF;clear gF nA;go_wp2_with fail
    refine hV.1.mono ?_;rintro e w5 ⟨⟨v5,rfl⟩,r1,r2,r3,r4,r5,r6,r7⟩;have hU:=Kh r1;have oS:=Kh r2
    have oT:=Kh (show ∀j,j<(cap - d)*2->(w5.cell? ⟨g,d*2+j,none⟩).isSome=true from λj hj=>by
     rw[r5,M.1.cell (p:=⟨g,d*2+j,none⟩) bB.1];exact hX.1 _ (by omega))
    have oN:=Kh (show CAt w5 g2 0 B from λj c hc=>by
     have h:=(cS.1.keep hN.1 M.1) j c hc;have nY:g2≠g:=by have:=oR.1;omega
     exact⟨(World.cell?_of_block (a:=⟨g2,0+j*2,none⟩) (r7 g2 nY)).trans h.1,(World.cell?_of_block (a:=⟨g2,0+j*2+1,none⟩) (r7 g2 nY)).trans h.2⟩)
    have bA:=Kh (show Below w.heap.size w w5 from(hG.1.trans (M.1.mono hG.1.size)).trans (r6 _ HG.1));have dE:=Kh (show g<w5.heap.size by rw[r3];exact nN bB.1 M.1.size);clear r1 r2 r3 r4 r5 r6 r7 hV mD pC pB e1 e2 M hM hX cT cS;by_cases hm:nb=d+1
    ·have HF:=Kh (show CAt w5 g (d*2) ((A.drop d).reverse++B.drop (d+1))by
      have h0:B.drop (d+1)=[]:=List.drop_eq_nil_of_le (by rw[V.1,hm];exact nL _);rw[h0,List.append_nil];exact hU.1)
     have gI:E - d<=cap - d:=by have:=cX.1;omega
     have cG:((A.drop d).reverse++B.drop (d+1)).length=E - d:=by
      rw[List.length_append,List.length_reverse,hQ.1,List.length_drop,V.1,hm];omega
     have pD:d+1<=I:=by have:=dC.1;omega
     have hR:=Kh cG;subst hm;clear cG;by_cases mD:I - (d+1)=0
     ·go_wp2_with (at_builtin;refine Qc rfl (.tmp 52) (.tmp 55) _ 47 rfl underlying128 Fb _ _ (E - d) (cap - d) _ gI rfl rfl ?_)
      (first|go_ret2|go_ret)
      exact⟨⟨(A.drop d).reverse++B.drop (d+1),g,d*2,cap - d,Nt hR.1.symm,dE.1,HF.1,eF.1⟩,bA.1⟩
     ·go_wp2_with (at_builtin;refine Qc rfl (.tmp 52) (.tmp 55) _ 47 rfl underlying128 Fb _ _ (E - d) (cap - d) _ gI rfl rfl ?_)
      (first|go_ret2|go_ret)
      exact⟨⟨(A.drop d).reverse++B.drop (d+1),g,d*2,cap - d,Nt hR.1.symm,dE.1,HF.1,eF.1⟩,bA.1⟩
    ·have pD:¬(I - (d+1)=0):=by have:=dC.1;have:=O.1;omega
     have gI:d+1<=nb:=by have:=O.1;omega
     have pM:nb<=I:=dC.1.1;have nT:(A.drop d).reverse.length=E - d:=by rw[List.length_reverse,hQ.1]
     have nU:(B.drop (d+1)).length=nb - (d+1):=by rw[List.length_drop,V.1]
     have hO:=Kh nT;have hP:=Kh nU;have hS:=Kh (show CAt w5 g2 ((d+1)*2) (B.drop (d+1))by have h:=oN.1.drop (d+1);rwa [Nat.zero_add]at h);have hH:=Kh (show E - d+(nb - (d+1))<=200 by have:=HK.1;omega);clear nT nU;go_wp2_with (at_builtin;refine aB rfl (.tmp 52) (.tmp 55) _ 47 rfl underlying128 Fb w.heap.size g (d*2) (E - d) (cap - d) g2 ((d+1)*2) (nb - (d+1)) (I - (d+1)) (cusps (A.drop d).reverse) (cusps (B.drop (d+1))) rfl rfl (by rw[Cp,hO.1]) ((Ed _).2 hU.1) oT.1 oS.1 (by rw[Cp,hP.1]) ((Ed _).2 hS.1) (λu hu=>(Fs _ u hu).2) (by have:=hH.1;omega) (by have:=hH.1;omega) HG.1 bA.1.size dE.1 ?_;intro g' o' c' w6 mC nR hY;have oO:=Kh mC;have oQ:=Kh nR;have oM:=Kh (bA.1.trans hY);clear mC nR hY)
     (first|go_ret2|go_ret)
     refine⟨⟨(A.drop d).reverse++B.drop (d+1),g',o',c',Nt (by rw[List.length_append,hO.1,hP.1]),oQ.1,?_,eF.1⟩,oM.1⟩;refine(Ed _).1 ?_;unfold cusps;rw[List.flatMap_append];exact oO.1
end
section
open Go.RowKit Eli Tryz
theorem Xa (V:Nat):∀U:Nat,0<U->∃K m,0<K/\K∣U/\Nat.gcd K V=1/\U∣K*V ^ m:=by
 intro U;induction U using Nat.strongRecOn with
 | _ U ih=>
  intro hU;by_cases hg:Nat.gcd U V=1
  ·exact⟨U,0,hU,Nat.dvd_refl U,hg,by simp⟩
  ·obtain⟨W,E⟩:=Nat.gcd_dvd_left U V
   have aD:0<Nat.gcd U V:=Nat.gcd_pos_of_pos_left V hU
   have I:0<W:=by
    rcases Nat.eq_zero_or_pos W with h|h
    ·rw[h,Nat.mul_zero]at E;omega
    ·exact h
   have hlt:W<U:=by
    have J:2*W<=Nat.gcd U V*W:=Nat.mul_le_mul_right W (by omega);omega
   obtain⟨K,m,M,J,O,Z⟩:=ih W hlt I;refine⟨K,m+1,M,Nat.dvd_trans J ⟨_,by rw[Nat.mul_comm];exact E⟩,O,?_⟩;rw[E,Nat.pow_succ,<-Nat.mul_assoc,Nat.mul_comm (K*V ^ m)];exact Nat.mul_dvd_mul (Nat.gcd_dvd_right U V) Z
theorem Sm {U V n:Nat} (hU:0<U) (hg:Nat.gcd (Nat.gcd U V) n=1):∃k,k<=U/\Nat.gcd (V+k*n) U=1:=by
 obtain⟨K,m,h1,h2,h3,h4⟩:=Xa V U hU;refine⟨K,Nat.le_of_dvd hU h2,?_⟩;obtain⟨q,hq⟩:∃q,Nat.gcd (V+K*n) U=q:=⟨_,rfl⟩
 have E:q∣V+K*n:=hq▸Nat.gcd_dvd_left ..;have I:q∣U:=hq▸Nat.gcd_dvd_right ..;rw[hq]
 have O:Nat.gcd q K=1:=by
  have J:Nat.gcd q K∣K*n:=Nat.dvd_trans (Nat.gcd_dvd_right ..) (Nat.dvd_mul_right ..);have M:Nat.gcd q K∣V:=(Nat.dvd_add_left J).1 (Nat.dvd_trans (Nat.gcd_dvd_left ..) E);exact Nat.dvd_one.1 (h3▸Nat.dvd_gcd (Nat.gcd_dvd_right ..) M)
 have h:q∣V ^ m:=(Nat.Coprime.dvd_of_dvd_mul_left O (Nat.dvd_trans I h4))
 have e3:Nat.gcd q V=1:=by
  have J:Nat.gcd q V∣K*n:=(Nat.dvd_add_right (Nat.gcd_dvd_right q V)).1 (Nat.dvd_trans (Nat.gcd_dvd_left ..) E);have M:Nat.gcd (Nat.gcd q V) K=1:=Nat.dvd_one.1 (O▸Nat.dvd_gcd (Nat.dvd_trans (Nat.gcd_dvd_left ..) (Nat.gcd_dvd_left ..)) (Nat.gcd_dvd_right ..));have Z:Nat.gcd q V∣n:=Nat.Coprime.dvd_of_dvd_mul_left M J;exact Nat.dvd_one.1 (hg▸Nat.dvd_gcd (Nat.dvd_gcd (Nat.dvd_trans (Nat.gcd_dvd_left ..) I) (Nat.gcd_dvd_right ..)) Z)
 have e4:Nat.gcd q (V ^ m)=1:=Nat.Coprime.pow_right m e3;exact Nat.dvd_one.1 (e4▸Nat.dvd_gcd (Nat.dvd_refl q) h)
theorem bL (n p:Nat) (w:World) (h0:0<n) (hn:n<=120) (hp:p<(pts n (n*n)).length):
  Calls prog 156 #[.int .i64 n,.int .i64 p] w λe w'=>e=.returned (.tuple #[.agg #[.int .i64 (((pts n (n*n)).getD p 0 / n:Nat):Int),.int .i64 (((pts n (n*n)).getD p 0 % n:Nat):Int),.int .i64 1],.int .i64 0])/\Below w.heap.size w w':=by
 obtain⟨L,hL⟩:∃L,pts n (n*n)=L:=⟨_,rfl⟩
 have V:=Kh (λW=>Ms n W h0 hn);rw[hL]at hp V ⊢;have dY:L.length<=14400:=by rw[<-hL];exact nM (B9 n (n*n)) (Nat.mul_le_mul hn hn)
 obtain⟨a,ha⟩:∃a,L.getD p 0=a:=⟨_,rfl⟩
 have bE:L[p]?=some a:=by rw[<-ha,List.getD_eq_getElem?_getD,List.getElem?_eq_getElem hp];rfl
 rw[ha];obtain⟨u,hu⟩:∃u,a / n=u:=⟨_,rfl⟩
 obtain⟨v,hv⟩:∃v,a % n=v:=⟨_,rfl⟩
 rw[hu,hv];have eT:¬(p:Int)<0:=by omega
 have eX:¬(L.length:Int)<=(p:Int):=by omega
 have cC:=Kh bE;have aN:=Kh (And.intro hu hv);clear hL ha bE hu hv;go_enter func156,ntmps156
 go_wp2_with fail
 obtain⟨w0,bY,X0,bA⟩:=bx1 w #[.int .i64 0,.int .i64 0,.int .i64 0] 213;rw[bY];obtain⟨I,M⟩:∃x,w.heap.size=x:=⟨_,rfl⟩
 have U:=Kh (show w.heap.size<=I from Nat.le_of_eq M);have aX:=Kh (show Blk w0 I 213 #[.int .i64 0,.int .i64 0,.int .i64 0]from M▸X0);have aK:=Kh bA;try rw[M]
 refine(V.1 w0).mono ?_;rintro e w1 ⟨⟨vl,rfl,bC⟩,Z⟩;obtain⟨g,cap,rfl,_,_,_,eF,_,bB,_⟩:=Hb bC (by omega);have J:∀i u,(N3 n a)[i]?=some u->i<3->w1.cell? ⟨g,p*3+i,none⟩=some u:=λi u h hi=>bB _ _ (by rw[Ee cC.1 hi];exact h)
 have l0:w1.cell? ⟨g,p*3,none⟩=some (.int .i64 (u:Int)):=by have h:=J 0 _ rfl (by decide);rw[aN.1.1]at h;exact h
 have l1:w1.cell? ⟨g,p*3+1,none⟩=some (.int .i64 (v:Int)):=by have h:=J 1 _ rfl (by decide);rw[aN.1.2]at h;exact h
 have l2:w1.cell? ⟨g,p*3+2,none⟩=some (.int .i64 1):=J 2 _ rfl (by decide);have E:=Kh (bk aX Z);have cA:=bt aK Z;clear bY X0 bA Z aX aK M bC bB J V;have r0:=E.1.at_ 0 rfl;have r1:=E.1.at_ 1 rfl;have r2:=E.1.at_ 2 rfl;have f0:=E.1.free_ 0;have f1:=E.1.free_ 1;have f2:=E.1.free_ 2;have O:=Kh (Dm (w:=w1) (R:=I) (v0:=.int .i64 (u:Int)) (v1:=.int .i64 (v:Int)) (v2:=.int .i64 1) (by rw[r0];rfl) (by rw[r1];rfl) (by rw[r2];rfl));have cB:=Kh (show Below w.heap.size w (((w1.setCell ⟨I,0,none⟩ (.int .i64 (u:Int))).setCell ⟨I,1,none⟩ (.int .i64 (v:Int))).setCell ⟨I,2,none⟩ (.int .i64 1))from((cA.1.setCell (p:=⟨I,0,none⟩) U.1 _).setCell (p:=⟨I,1,none⟩) U.1 _).setCell (p:=⟨I,2,none⟩) U.1 _);have eG:I<w1.heap.size:=E.1.lt;go_wp2;have e0:=O.1.1;have e1:=O.1.2.1;have e2:=O.1.2.2;try simp only[Exit.inBlock,Exit.then]
 refine bodyPost_ret (by simp[results,results156,go_sem,e0,e1,e2];try rfl) rfl ?_;exact⟨rfl,cB.1⟩
structure LiftOf (n p:Nat) (A B C E:Int):Prop where
 det:A*E - B*C=1
 c:C % n=(((pts n (n*n)).getD p 0 / n:Nat):Int) % n
 d:E % n=(((pts n (n*n)).getD p 0 % n:Nat):Int) % n
 bA:-20000<=A/\A<=20000
 bB:-20000<=B/\B<=20000
 bC:-20000<=C/\C<=20000
 bE:-20000<=E/\E<=20000
theorem Jg {n a:Nat} (h:E5 n a=true):Nat.gcd (Nat.gcd (a / n) (a % n)) n=1:=by
 unfold E5 at h
 simpa using h
theorem Ta {n p:Nat} (J:0<n) (hp:p<(pts n (n*n)).length) (hu:(pts n (n*n)).getD p 0 / n=0):(pts n (n*n)).getD p 0 % n=1 % n:=by
 have O:=Bl hp;obtain⟨a,ha⟩:∃a,(pts n (n*n)).getD p 0=a:=⟨_,rfl⟩
 rw[ha]at O hu ⊢;have E:=Jg (Ij O).1;rw[hu,Nat.gcd_zero_left]at E;have M:=O;rw[B8 J _ (nL _),List.mem_filter]at M;simp only[Bool.and_eq_true]at M;have U:=Cs.1 M.2.2
 have I:a<n:=by
  rcases Nat.lt_or_ge a n with h|h
  ·exact h
  ·have:=Nat.div_pos h J;omega
 rw[Nat.mod_eq_of_lt I]at E ⊢;obtain⟨s,s1,s2,s3,s4⟩:=Kz n a J E;have h5:=U s s1 s2 (by simp[pun,s3])
 have h6:Az n s a=1 % n:=by
  have V:=Dd J s a;have Z:=De n s a;rw[Nat.div_eq_of_lt I,Nat.mul_zero,Nat.zero_mod]at V;rw[Nat.mod_eq_of_lt I,s4]at Z;have h7:=Nat.div_add_mod (Az n s a) n;rw[V,Z,Nat.mul_zero,Nat.zero_add]at h7;exact h7.symm
 rw[h6]at h5;rcases Nat.lt_or_ge 1 n with h|h
 ·rw[Nat.mod_eq_of_lt h]at h5 ⊢
  rcases Nat.eq_zero_or_pos a with h8|h8
  ·rw[h8,Nat.gcd_zero_left]at E;omega
  ·omega
 ·obtain rfl:n=1:=by omega
  omega
theorem fK (n p:Nat) (w:World) (h0:0<n) (hn:n<=120) (hp:p<(pts n (n*n)).length):
  Calls prog 109 #[.int .i64 n,.int .i64 p] w λe w'=>(∃A B C E:Int,e=.returned (.tuple #[.agg #[.int .i64 A,.int .i64 B,.int .i64 C,.int .i64 E],.int .i64 0])/\LiftOf n p A B C E)/\Below w.heap.size w w':=by
 have cF:=Kh (λW=>bL n p W h0 hn hp);have dE:=Jg (Ij (Bl hp)).1;have hlt:=Gm (Bl hp);obtain⟨U,hU⟩:∃U,(pts n (n*n)).getD p 0 / n=U:=⟨_,rfl⟩
 obtain⟨V,hV⟩:∃V,(pts n (n*n)).getD p 0 % n=V:=⟨_,rfl⟩
 have oR:U<n:=by rw[<-hU];exact Nat.div_lt_of_lt_mul hlt
 have oS:V<n:=by rw[<-hV];exact Nat.mod_lt _ h0
 have cM:=Kh (show U=0->V % n=1 % n from λh=>by
  have M:=Ta h0 hp (hU.trans h);rw[hV]at M;rw[<-M,<-hV,Nat.mod_mod])
 have aX:=Kh (λ(A B C E:Int) (M:A*E - B*C=1) (h2:C % n=(U:Int) % n) (h3:E % n=(V:Int) % n) (b1:-20000<=A/\A<=20000) (b2:-20000<=B/\B<=20000) (b3:-20000<=C/\C<=20000) (b4:-20000<=E/\E<=20000)=>(show LiftOf n p A B C E from⟨M,by rw[hU];exact h2,by rw[hV];exact h3,b1,b2,b3,b4⟩));rw[hU,hV]at cF dE;clear hp hlt hU hV;go_enter func109,ntmps109
 go_wp2_with fail
 obtain⟨w0,hQ,X0,hI⟩:=bx1 w #[.int .i64 0,.int .i64 0,.int .i64 0,.int .i64 0] 63;rw[hQ];obtain⟨gr,cA⟩:∃x,w.heap.size=x:=⟨_,rfl⟩
 have J:=Kh (show w.heap.size<=gr from Nat.le_of_eq cA);have gS:=Kh (show Blk w0 gr 63 #[.int .i64 0,.int .i64 0,.int .i64 0,.int .i64 0]from cA▸X0);have eP:=Kh hI;try rw[cA]
 refine(cF.1 w0).mono ?_;rintro e w1 ⟨rfl,cS⟩;have gU:=Kh (bk gS cS);have eT:=bt eP cS;clear hQ X0 hI cS gS eP cA cF;go_upto_region 4 with(fail)
 obtain⟨w2,hR,Y,cT⟩:=bx1 w1 #[.int .i64 U,.int .i64 V,.int .i64 1] 213;rw[hR];obtain⟨g6,hJ⟩:∃x,w1.heap.size=x:=⟨_,rfl⟩
 rw[hJ]at Y ⊢;have HY:=Kh Y;have I:=Kh (bk gU cT);have eX:=bt eT cT;clear hR Y cT hJ gU eT;by_cases hU0:U=0
 ·subst hU0
  have y0:=HY.1.at_ 0 rfl;have r0:=I.1.at_ 0 rfl;have r1:=I.1.at_ 1 rfl;have r2:=I.1.at_ 2 rfl;have r3:=I.1.at_ 3 rfl;have f0:=I.1.free_ 0;have f1:=I.1.free_ 1;have f2:=I.1.free_ 2;have f3:=I.1.free_ 3;have hH:=cM.1 rfl
  have iL:=Kh (aX.1 1 0 0 1 (by decide) rfl (by
   have M:((V % n:Nat):Int)=((1 % n:Nat):Int):=by rw[hH]
   push_cast at M
   exact M.symm) (by decide) (by decide) (by decide) (by decide))
  clear hH cM aX;go_wp2
  (try simp only[Exit.inBlock,Exit.then])
  exact bodyPost_ret (v:=.tuple #[.agg #[.int .i64 1,.int .i64 0,.int .i64 0,.int .i64 1],.int .i64 0]) (by rw[results_cell_tmp rfl];go_simp) rfl ⟨⟨1,0,0,1,rfl,iL.1⟩,((((eX.1.setCell J.1 _).setCell J.1 _).setCell J.1 _).setCell J.1 _)⟩
 ·have oQ:((U:Int)==0)=false:=beq_eq_false_iff_ne.2 (by omega)
  obtain⟨K,oO,hG⟩:=Sm (n:=n) (show 0<U by omega) dE;have gL:=Kh hG;clear dE hG cM;have y0:=HY.1.at_ 0 rfl;have y1:=HY.1.at_ 1 rfl;go_upto_region 7 with(fail)
  clear y0 y1;go_loopw [8] (λv8 wr=>∃k:Nat,v8=.int .i64 ((V+k*n:Nat):Int)/\(∀j,j<k->Nat.gcd (V+j*n) U≠1)/\Below w2.heap.size w2 wr) (λv8 _=>V+K*n - (intOf v8).toNat)
  case atStart=>exact⟨0,by rw[Nat.zero_mul];rfl,λj hj=>absurd hj (Nat.not_lt_zero _),Below.refl _ _⟩
  case round=>
   obtain⟨k,rfl,dC,O⟩:=hrel;obtain⟨w3,rfl⟩:∃w3:World,w3=wr:=⟨_,rfl⟩
   have gN:=Kh dC
   have nD:k<=K:=by
    rcases Nat.lt_or_ge K k with h|h
    ·exact absurd gL.1 (dC K h)
    ·exact h
   have oT:k*n<=120*120:=Nat.mul_le_mul (by omega) hn;have oE:k*n<=K*n:=Nat.mul_le_mul_right _ nD;have cG:=Kh (bk HY O);have hD:=Kh (bk I O);have eY:=bt eX O;have cC:=Kh O;clear dC O;have Z:(V+(k+1)*n:Nat)=V+k*n+n:=by rw[Nat.succ_mul,Nat.add_assoc]
   obtain⟨d,hd⟩:∃d,V+k*n=d:=⟨_,rfl⟩
   rw[hd]at Z ⊢;have nB:d<=14520:=by omega
   have y0:=cG.1.at_ 0 rfl;have HD:=Kh hd;have cD:=Kh Z;by_cases hg:Nat.gcd d U=1
   ·have HG:=Kh (show((Int.gcd (d:Int) (U:Int):Nat):Int)=1 by rw[Int.gcd_natCast_natCast,hg];rfl)
    have gI:=Kh (show Int.gcd (d:Int) (U:Int)=1 by rw[Int.gcd_natCast_natCast];exact hg);clear hg hd Z;go_wp2_with fail
    refine(Ec (d:Int) (U:Int) w3 (by omega) (by omega) (by omega) (by omega)).mono ?_;rw[HG.1];rintro e w4 ⟨rfl,nd,aD⟩;have bE:Below w3.heap.size w3 w4:=by rw[aD];exact Aa (Below.refl _ _) nd
    have cI:=Kh (bk cG bE);have hE:=Kh (bk hD bE);have aN:=bt eY bE;clear aD bE y0 cG hD eY cC;have y0:=cI.1.at_ 0 rfl;go_wp2_with fail
    refine(Lr (d:Int) U w4 (by omega) (by omega) gI.1).mono ?_;rintro e w5 ⟨⟨A,rfl,oM,B,hB⟩,bY⟩;have Y5:=bk cI bY;have X5:=bk hE bY;have hZ:=bt aN bY;clear bY cI hE aN y0;obtain⟨P,hP⟩:∃P:Nat,A*d=P:=⟨_,rfl⟩
    have oP:P<=120*14520:=by rw[<-hP];exact Nat.mul_le_mul (by omega) nB
    have bB:(A:Int)*(d:Int)=(P:Int):=by rw[<-hP];push_cast;rfl
    have v1:IntKind.i64.wrap ((A:Int)*(d:Int))=(P:Int):=by rw[bB];exact IntWalk.i64_in _ (by omega)
    obtain⟨z,hz⟩:∃z:Int,(P:Int) - 1=z:=⟨_,rfl⟩
    have v2:IntKind.i64.wrap ((P:Int) - 1)=z:=by rw[hz];exact IntWalk.i64_in _ (by omega)
    have cB:z=U*B:=by rw[<-hz,<-bB];exact hB
    have v3:z.tdiv (U:Int)=B:=by rw[cB];exact Int.mul_tdiv_cancel_left B (by omega)
    have mE:-20000<=B/\B<=20000:=by
     have oN:B.natAbs<=14520:=by
      rcases Int.lt_or_le B 0 with h|h
      ·have M:(U:Int)*B<=1*B:=by
        have h2:=Int.mul_le_mul_of_nonpos_right (show(1:Int)<=U by omega) (Int.le_of_lt h);exact h2
       omega
      ·have h3:B*U=z:=by rw[cB,Int.mul_comm]
       have h4:B<=d:=by
        rcases Int.lt_or_le (d:Int) B with h5|h5
        ·exfalso
         have h6:(A:Int)*d<=U*d:=Int.mul_le_mul_of_nonneg_right (by omega) (by omega);have h7:(U:Int)*d<=U*B:=Int.mul_le_mul_of_nonneg_left (Int.le_of_lt h5) (by omega);omega
        ·exact h5
       omega
     omega
    have v4:IntKind.i64.wrap B=B:=IntWalk.i64_in _ (by omega);have v5:U≠0:=hU0
    have mA:=Kh (aX.1 A B U d (by rw[bB];have M:B*(U:Int)=z:=(by rw[cB,Int.mul_comm]);omega) rfl (by
     have M:=HD.1;rw[<-M]
     push_cast
     rw[Int.add_mul_emod_self_right]) (by omega) mE (by omega) (by omega))
    have q0:=Y5.at_ 0 rfl;have r0:=X5.at_ 0 rfl;have r1:=X5.at_ 1 rfl;have r2:=X5.at_ 2 rfl;have r3:=X5.at_ 3 rfl;have f0:=X5.free_ 0;have f1:=X5.free_ 1;have f2:=X5.free_ 2;have f3:=X5.free_ 3;clear hP bB hz cB hB Y5 X5 aX gI HG gN cD HD;go_upto_region 10 with(fail)
    refine kX [13] (λW=>W.cell? ⟨g6,0,none⟩=some (.int .i64 (U:Int))/\W.cell? ⟨gr,0,none⟩=some (.int .i64 0)/\W.frozen? ⟨gr,0,none⟩=false/\W.cell? ⟨gr,1,none⟩=some (.int .i64 0)/\W.frozen? ⟨gr,1,none⟩=false/\W.cell? ⟨gr,2,none⟩=some (.int .i64 0)/\W.frozen? ⟨gr,2,none⟩=false/\W.cell? ⟨gr,3,none⟩=some (.int .i64 0)/\W.frozen? ⟨gr,3,none⟩=false) (λW hb=>⟨Av hb q0,Av hb r0,Ab hb (by rw[r0];rfl) (f0),Av hb r1,Ab hb (by rw[r1];rfl) (f1),Av hb r2,Ab hb (by rw[r2];rfl) (f2),Av hb r3,Ab hb (by rw[r3];rfl) (f3)⟩) (λoG hHeld0=>?_);refine Dh 0 ?_;refine Dh 1 ?_;refine Dh 2 ?_;refine Dh 3 ?_;refine Dh 4 ?_;refine Dh 5 ?_;refine Dh 6 ?_;refine Dh 7 ?_;refine Dh 8 ?_;refine Dh 9 ?_;refine Dh 10 ?_;refine Dh 11 ?_;refine kZ 12 rfl (λK hK=>?_);go_simp
    refine hK.out _ _ ?_;clear hK K
    (try simp only[Act.put,Bn,Bp,Bo])
    refine dW 13 ?_;refine kA ?_;go_wp2
    (try simp only[Exit.inBlock,Exit.then])
    exact bodyPost_ret (v:=.tuple #[.agg #[.int .i64 A,.int .i64 B,.int .i64 U,.int .i64 d],.int .i64 0]) (by rw[results_cell_tmp rfl];go_simp) rfl ⟨⟨A,B,U,d,rfl,mA.1⟩,Aa ((((hZ.1.setCell J.1 _).setCell J.1 _).setCell J.1 _).setCell J.1 _) 1⟩
   ·have HG:=Kh (show((Int.gcd (d:Int) (U:Int):Nat):Int)=(Nat.gcd d U:Nat)by rw[Int.gcd_natCast_natCast])
    have nC:(((Nat.gcd d U:Nat):Int) != 1)=true:=by rw[bne_iff_ne];omega
    have hM:k<K:=by
     rcases Nat.lt_or_ge k K with h|h
     ·exact h
     ·exfalso
      have M:k=K:=by omega
      rw[M]at hd;exact hg (by rw[<-hd];exact gL.1)
    have gP:=Kh (show ∀j,j<k+1->Nat.gcd (V+j*n) U≠1 from λj hj=>by
     rcases Nat.lt_or_ge j k with h|h
     ·exact gN.1 j h
     ·obtain rfl:j=k:=by omega
      rw[HD.1];exact hg)
    have hN:(k+1)*n<=K*n:=Nat.mul_le_mul_right _ hM;have wd:IntKind.i64.wrap ((d:Int)+(n:Int))=((d+n:Nat):Int):=by rw[show(d:Int)+(n:Int)=((d+n:Nat):Int)by push_cast;rfl];exact IntWalk.i64_in _ (by omega)
    obtain⟨g,hL⟩:∃g,Nat.gcd d U=g:=⟨_,rfl⟩
    rw[hL]at HG nC;obtain⟨d2,cX⟩:∃d2,d+n=d2:=⟨_,rfl⟩
    rw[cX]at wd;have gA:=Kh cX;clear hg hd hL cX;go_wp2_with fail
    refine(Ec (d:Int) (U:Int) w3 (by omega) (by omega) (by omega) (by omega)).mono ?_;rw[HG.1];rintro e w4 ⟨rfl,nd,aD⟩;have aN:=Kh (show Below w2.heap.size w2 w4 from cC.1.trans (by rw[aD];exact Aa ((Below.refl _ _).mono cC.1.size) nd));clear aD y0;go_wp2;go_roundw
    case rel=>exact⟨k+1,by rw[cD.1,gA.1],gP.1,aN.1⟩
    case measure=>have M:=gA.1;have h2:=cD.1;have h3:=HD.1;simp[intOf];rw[Nat.succ_mul]at hN;omega
end
end Go.Proofs.YtenlbhlllgppmaaGreatDoor
