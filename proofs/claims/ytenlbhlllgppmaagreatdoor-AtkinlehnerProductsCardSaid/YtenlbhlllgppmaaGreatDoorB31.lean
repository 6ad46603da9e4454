/- contfrac.Chain in general: a chain of Farey neighbours from one cusp to another. -/
import Derived.Test.YtenlbhlllgppmaaGreatDoorB30
set_option linter.unusedSimpArgs false
set_option maxRecDepth 100000
set_option maxHeartbeats 8000000
namespace Go.Proofs.YtenlbhlllgppmaaGreatDoor
section
open Go.RowKit Tryz
theorem Fv {B g:Nat} (hB:B<=g):∀(I:List Value) (o:Nat) (w:World),Below B w (w.setCells g o I)
 | [],_,w=>Below.refl B w
 | v :: I,o,w=>by
  have J:Below B w (w.setCell ⟨g,o,none⟩ v):=(Below.refl B w).setCell (p:=⟨g,o,none⟩) hB v;exact J.trans (Fv hB I (o+1) _)
theorem aT {P:Program} {W:World} {cX:Array Oper} {rest:List Oper} {o:Oper} {a:Act} {Q:Exit->Act->World->Prop} (eP:o.guard=none) (s x:Operand) (t E:TypeId)
  (ho:o.op=.call { callee:=.builtin .append,args:=#[s,x],argTypes:=#[t,t] }) {z:Value} {sz U:Nat} (hU:P.underlying t=some (.slice E))
  (bC:(P.info? E).map (λi=>(i.zero,i.size,i.bytes))=some (some z,sz,U)) (B g of n Y g2 o2 m c2:Nat) (J I:List Value)
  (hs:a.eval s=.slice (some ⟨g,of,none⟩) n Y) (hx:a.eval x=.slice (some ⟨g2,o2,none⟩) m c2) (gF:J.length=n*sz) (V:∀(j:Nat) (u:Value),J[j]?=some u->W.cell? ⟨g,of+j,none⟩=some u)
  (cG:∀j,j<Y*sz->(W.cell? ⟨g,of+j,none⟩).isSome=true) (hf:∀i,W.frozen? ⟨g,i,none⟩=false) (hn:I.length=m*sz) (cD:∀(j:Nat) (u:Value),I[j]?=some u->W.cell? ⟨g2,o2+j,none⟩=some u) (h1:∀u∈I,u.oneCell'=true)
  (hb:(n+m)*U<=140737488355328) (hm:n+m<=9223372036854775807) (cA:B<=g) (dY:B<=W.heap.size) (hg:g<W.heap.size)
  (h:∀g' o' c' w',(∀(j:Nat) (u:Value),(J++I)[j]?=some u->w'.cell? ⟨g',o'+j,none⟩=some u)->g'<w'.heap.size->Below B W w'->wpList P cX Q rest (a.put o.dst (.slice (some ⟨g',o',none⟩) (n+m) c')) w'):
  wpList P cX Q (o :: rest) a W:=by
 obtain⟨i0,hi,gL,Z,gN⟩:=info_parts bC
 have bA:∀(b k j:Nat),(⟨b,k,none⟩:Addr).add j=⟨b,k+j,none⟩:=λb k j=>by
  unfold Addr.add;split
  ·rename_i h0;rw[h0,Nat.add_zero]
  ·simp
 have bB:Src P i0.size t (.slice (some ⟨g2,o2,none⟩) m c2) m I W:=Src.ofSlice W hU ⟨g2,o2,none⟩ m c2 I (by rw[Z];exact hn) (λj u O=>by rw[bA];exact cD j u O) h1;refine wpList_plain eP λK' cB=>?_
 unfold Oper.wp execOp;by_cases hroom:n+m<=Y
 ·have dC:n*sz+I.length<=Y*sz:=by rw[hn,<-Nat.add_mul];exact Nat.mul_le_mul_right _ hroom
  have hr:=run_append_room_src (P:=P) W t t o.type E i0 hU hi g of n Y (.slice (some ⟨g2,o2,none⟩) m c2) m I bB hroom (λj O=>by rw[Z,Nat.add_assoc];exact cG _ (by omega)) (λj _=>hf _);rw[Z]at hr;simp only[ho,resolve,invoke,builtin,Sem.run_bind,Sem.run_pure,Result.andThen_ok,List.map_toArray,List.map_cons,List.map_nil,hs,hx,hr];refine cB _ _ (h g of Y _ (λj u O=>?_) ?_ (Fv cA I _ W))
  ·rcases Nat.lt_or_ge j J.length with hlt|gA
   ·rw[List.getElem?_append_left hlt]at O
    rw[World.cell?_setCells_out g I (of+n*sz) W ⟨g,of+j,none⟩ (λ_ _=>.inl (by dsimp only;omega))];exact V j u O
   ·rw[List.getElem?_append_right gA]at O
    obtain⟨cC,e⟩:=List.getElem?_eq_some_iff.1 O;have h3:=World.cell?_setCells_in g I (of+n*sz) W (λj O=>by rw[Nat.add_assoc];exact cG _ (by omega)) (j - J.length) cC;rw[show of+n*sz+(j - J.length)=of+j by omega]at h3;rw[h3,e]
  ·exact nT hg (Fv cA I _ W).size
 ·have cF:(Builtin.firstCells i0.size n (.slice (some ⟨g,of,none⟩) n Y)).run P W.drew=.ok J.toArray W.drew:=run_firstCells_some W.drew i0.size n ⟨g,of,none⟩ n Y J (by rw[Z];exact gF) (λj u O=>by rw[bA];exact V j u O)
  have hr:=run_append_grow_src (P:=P) W t t o.type E i0 z hU hi gL (some ⟨g,of,none⟩) n Y J cF (.slice (some ⟨g2,o2,none⟩) m c2) m I bB (by omega) (by omega) (growslice_fits (by omega) (by rw[gN];exact hb));simp only[ho,resolve,invoke,builtin,Sem.run_bind,Sem.run_pure,Result.andThen_ok,List.map_toArray,List.map_cons,List.map_nil,hs,hx,hr];refine cB _ _ (h W.heap.size 0 _ _ (λj u O=>?_) ?_ ((Below.refl B W).drew.alloc (by simpa using dY) _))
  ·have e1:=World.cell?_alloc_new W.drew (((J++I).toArray++Builtin.zeroCells z.cells (grownCap W (n+m) Y E - (n+m)))) E j
   obtain⟨hlt,e⟩:=List.getElem?_eq_some_iff.1 O;rw[Nat.zero_add];refine e1.trans ?_;rw[Array.getElem?_append_left (by simpa using hlt),List.getElem?_toArray];exact O
  ·simp
theorem H8 {K:Value->Prop} {w:World} {B E O n:Nat} {v:Value} {U:List Value} (h:OwnK K w B E O v n U) (hn:0<n):∃g cap,v=.slice (some ⟨g,0,none⟩) n cap/\n<=cap/\cap<=9223372036854775807/\B<=g/\g<w.heap.size/\(∀i,w.frozen? ⟨g,i,none⟩=false)/\(∀(j:Nat) u,U[j]?=some u->w.cell? ⟨g,j,none⟩=some u)/\∀j,j<cap*O->(w.cell? ⟨g,j,none⟩).isSome=true:=by
 rcases h.1.2 with⟨_,e2⟩ |⟨g,cap,cs,J,hB,hg,V,I,Y,_⟩
 ·omega
 ·have Z:=h.2 g (by rw[J];rfl)
  subst J;exact⟨g,cap,rfl,V,by simp only[maxLen]at I;omega,hB,Z.1,λi=>Blk.free_ hg i,λj u hu=>An h.1 hu,λj hj=>by rw[Blk.cell_ hg j,Array.getElem?_eq_getElem (by omega)];rfl⟩
theorem Oi {a:Option Addr} {n m c:Nat} (h:n=m):Ending.returned (.tuple #[.slice a n c,.int .i64 0])=Ending.returned (.tuple #[.slice a m c,.int .i64 0]):=by rw[h]
theorem Eo {w:World} {g o:Nat}:∀(l:List (Int×Int)),(∀(j:Nat) (u:Value),(cusps l)[j]?=some u->w.cell? ⟨g,o+j,none⟩=some u)↔CAt w g o l:=by
 intro l;constructor
 ·intro h j c U
  have I:=Ix l j c U;exact⟨h _ _ I.1,by rw[Nat.add_assoc];exact h _ _ I.2⟩
 ·intro h j u J
  have hlt:=(List.getElem?_eq_some_iff.1 J).1;rw[Cy]at hlt;have Y:j / 2<l.length:=by omega
  obtain⟨c,U⟩:∃c,l[j / 2]?=some c:=⟨_,List.getElem?_eq_getElem Y⟩
  have I:=h _ _ U;have O:=Ix l _ c U;rcases Nat.mod_two_eq_zero_or_one j with Z|Z
  ·have e:j / 2*2=j:=by omega
   rw[e]at I O;rw[O.1]at J;rw[<-J];exact I.1
  ·have e:j / 2*2+1=j:=by omega
   have V:o+j / 2*2+1=o+j:=by omega
   rw[e]at O;rw[V]at I;rw[O.2]at J;rw[<-J];exact I.2
theorem CAt.keep {w w':World} {g o:Nat} {l:List (Int×Int)} (h:CAt w g o l) (hg:g<w.heap.size) (I:Below w.heap.size w w'):CAt w' g o l:=λj c J=>⟨(I.cell (p:=⟨g,o+j*2,none⟩) hg).trans (h j c J).1,(I.cell (p:=⟨g,o+j*2+1,none⟩) hg).trans (h j c J).2⟩
theorem CAt.drop {w:World} {g o:Nat} {l:List (Int×Int)} (h:CAt w g o l) (d:Nat):CAt w g (o+d*2) (l.drop d):=λj c J=>by
 rw[List.getElem?_drop]at J;have I:=h _ _ J;rw[show o+(d+j)*2=o+d*2+j*2 by omega]at I;exact I
theorem bH (p q p' q':Int) (w:World) (ha:At p q=0) (hb:At p' q'=0):
  Calls prog 65 #[.agg #[.int .i64 p,.int .i64 q],.agg #[.int .i64 p',.int .i64 q']] w λe w'=>(∃ch g o cap,e=.returned (.tuple #[.slice (some ⟨g,o,none⟩) ch.length cap,.int .i64 0])/\g<w'.heap.size/\CAt w' g o ch/\ChainOk (p,q) (p',q') ch)/\Below w.heap.size w w':=by
 have hE:=Kh (λW=>W0 p q W ha);have hG:=Kh (λW=>W0 p' q' W hb);have HJ:=Kh (λc hc h1 h2 he=>Ry (a:=(p,q)) (b:=(p',q')) ha hb (c:=c) hc h1 h2 he);have ka:=(Og (x:=(p,q)) ha).1;have kb:=(Og (x:=(p',q')) hb).1;obtain⟨ra,cT⟩:∃r,Cw (p,q)=(1,0) :: r:=⟨_,rfl⟩
 obtain⟨rb,cX⟩:∃r,Cw (p',q')=(1,0) :: r:=⟨_,rfl⟩
 obtain⟨A,hA⟩:∃A,Cw (p,q)=A:=⟨_,rfl⟩
 obtain⟨B,hB⟩:∃B,Cw (p',q')=B:=⟨_,rfl⟩
 rw[hA]at hE HJ ka cT;rw[hB]at hG HJ kb cX;have pF:=Kh (show A[0]?=B[0]? by rw[cT,cX];rfl);obtain⟨I,cF⟩:∃n,A.length=n:=⟨_,rfl⟩
 obtain⟨nb,cG⟩:∃n,B.length=n:=⟨_,rfl⟩
 rw[cF]at ka HJ;rw[cG]at kb HJ;have eP:0<I:=by rw[<-cF,cT];simp
 have gA:0<nb:=by rw[<-cG,cX];simp
 have cB:=Kh cF;have Z:=Kh cG;have HK:=Kh (show I<=62/\nb<=62/\0<I/\0<nb from⟨ka,kb,eP,gA⟩);clear ha hb cT cX hA hB cF cG ka kb eP gA ra rb;go_enter func65,ntmps65
 go_wp2_with fail
 obtain⟨w0,oU,_,XB,cD⟩:=bx2 w #[.int .i64 p,.int .i64 q] 47 #[.int .i64 p',.int .i64 q'] 47;rw[oU];refine(hE.1 w0).mono ?_;rintro e w1 ⟨⟨v1,rfl,bC⟩,hI⟩;have hH:=XB.below_ hI XB.lt;have x0:=hH.at_ 0 rfl;have x1:=hH.at_ 1 rfl;obtain⟨g,cap,rfl,hP,oR,oH,oI,oF,oB,oT⟩:=H8 bC (by rw[cB.1];exact HK.1.2.2.1);rw[cB.1]at hP ⊢;have hZ:=Kh ((Eo A (o:=0)).1 (by simpa using oB));have iL:=Kh oF;have nW:=Kh oT;have HG:=Kh (show w.heap.size<=g from nS cD.size oH);have Y:=Kh oI;have hV:=Kh (cD.trans (hI.mono cD.size));have gN:=Kh (show I<=cap/\cap<=9223372036854775807 from⟨hP,oR⟩);clear oU XB cD hI hH bC oF oB oT oH oI hP oR;go_wp2_with fail
 refine(hG.1 w1).mono ?_;rintro e w2 ⟨⟨v2,rfl,bE⟩,aX⟩;obtain⟨g2,J,rfl,hO,oP,oJ,oK,_,oC,_⟩:=H8 bE (by rw[Z.1];exact HK.1.2.2.2);rw[Z.1]at hO ⊢;have pL:=Kh (show g<g2 from nT Y.1 oJ);have gF:=Kh ((Eo B (o:=0)).1 (by simpa using oC));have gL:=Kh (hZ.1.keep Y.1 aX);have mA:=Kh (show ∀i,w2.frozen? ⟨g,i,none⟩=false from λi=>(World.frozen?_of_block (a:=⟨g,i,none⟩) (aX.block g Y.1)).trans (iL.1 i));have nX:=Kh (show ∀j,j<cap*2->(w2.cell? ⟨g,j,none⟩).isSome=true from λj hj=>by rw[aX.cell (p:=⟨g,j,none⟩) Y.1];exact nW.1 j hj);have hW:=bt hV aX;have cA:=Kh (nT Y.1 aX.size);have mB:=Kh oK;have gP:=Kh (show nb<=J/\J<=9223372036854775807 from⟨hO,oP⟩);clear x0 x1 bE aX oC hZ iL nW hV Y oJ oK hO oP hE hG;go_wp2_with fail
 go_loopw [9] (λii wr=>∃c:Nat,ii=.int .i64 c/\Below w2.heap.size w2 wr/\Hd (c<=I/\c<=nb/\∀j,j<c->A[j]?=B[j]?)) (λii _=>I - (intOf ii).toNat)
 case atStart=>exact⟨0,rfl,Below.refl _ _,Kh ⟨by omega,by omega,λj hj=>absurd hj (Nat.not_lt_zero _)⟩⟩
 case round=>
  obtain⟨c,rfl,nZ,HI⟩:=hrel;obtain⟨w3,rfl⟩:∃w3:World,w3=wr:=⟨_,rfl⟩
  have O:=Kh nZ;clear nZ;go_upto_region 8 with(fail)
  go_cut [43]from 26 to 44 (λqB wx=>∃b:Bool,qB=.bool b/\Below w2.heap.size w2 wx/\(b=true->c<I/\c<nb/\A[c]?=B[c]?)/\(b=false->0<c))
  case first=>
   by_cases hlt:c<I/\c<nb
   ·obtain⟨h1,h2⟩:=hlt
    obtain⟨⟨a1,a2⟩,bA⟩:∃x,A[c]?=some x:=⟨_,List.getElem?_eq_getElem (by have:=cB.1;omega)⟩
    obtain⟨⟨b1,b2⟩,bB⟩:∃x,B[c]?=some x:=⟨_,List.getElem?_eq_getElem (by have:=Z.1;omega)⟩
    obtain⟨d0,d1⟩:=gL.1 c _ bA;obtain⟨e0,e1⟩:=gF.1 c _ bB;dsimp only at d0 d1 e0 e1;rw[Nat.zero_add]at d0 d1 e0 e1;replace d0:=cell_next O.1 d0;replace d1:=cell_next O.1 d1;replace e0:=cell_next O.1 e0;replace e1:=cell_next O.1 e1;have qT:(c:Int)<(I:Int):=by omega
    have qU:(c:Int)<(nb:Int):=by omega
    have oQ:(c:Int)<min (I:Int) (nb:Int):=by omega
    by_cases heq:a1=b1/\a2=b2
    ·obtain⟨rfl,rfl⟩:=heq
     have pJ:=Kh (show A[c]?=B[c]? by rw[bA,bB]);clear bA bB;go_quiet (fail)
     go_wp2;go_meet
     exact⟨true,rfl,Aa O.1 _,λ_=>⟨h1,h2,pJ.1⟩,λh=>by cases h⟩
    ·have hY:=Kh (show 0<c by
      rcases Nat.eq_zero_or_pos c with h|h
      ·exfalso
       subst h;have h9:=pF.1;rw[bA,bB]at h9;exact heq (by simpa using h9)
      ·exact h)
     clear bA bB;by_cases k1:a1=b1
     ·subst k1
      have k2:¬a2=b2:=λh=>heq ⟨rfl,h⟩
      have k3:(a2==b2)=false:=by rw[beq_eq_false_iff_ne];exact k2
      clear heq;go_quiet (fail)
      go_wp2;go_meet
      exact⟨false,rfl,Aa O.1 _,(λh=>by cases h),λ_=>hY.1⟩
     ·have k3:(a1==b1)=false:=by rw[beq_eq_false_iff_ne];exact k1
      clear heq;go_quiet (fail)
      go_wp2;go_meet
      exact⟨false,rfl,Aa O.1 _,(λh=>by cases h),λ_=>hY.1⟩
   ·have oQ:¬((c:Int)<min (I:Int) (nb:Int)):=by omega
    have qV:decide ((c:Int)<min (I:Int) (nb:Int))=false:=decide_eq_false oQ;refine J2 (λ_=>True) (λ_ _=>trivial) (λ_ hT=>?_);refine Aj 0 ?_;refine Aj 1 ?_;refine Aj 2 ?_;refine Aj 3 ?_;refine Aj 4 ?_;refine Aj 5 ?_;refine Aj 6 ?_;refine Aj 7 ?_;refine eK 8 ?_;refine eK 9 ?_;refine eK 10 ?_;refine eK 11 ?_;refine eK 12 ?_;refine eK 13 ?_;refine eK 14 ?_;refine eK 15 ?_;refine eK 16 ?_;refine Js 17 rfl (λK hK=>?_);go_simp
    refine hK.out _ _ ?_;clear hK K
    (try simp only[Act.put,Bo,Bt,Bp])
    go_wp2;go_meet
    exact⟨false,rfl,O.1.drew,(λh=>by cases h),λ_=>by have:=HK.1;have:=HI.1;omega⟩
  case rest=>
   obtain⟨b,rfl,oA,hL,hJ⟩:=hcut;obtain⟨w4,rfl⟩:∃w4:World,w4=wc:=⟨_,rfl⟩
   have U:=Kh oA;clear oA O;cases b with
   | true=>
    obtain⟨h1,h2,h3⟩:=hL rfl;have H3:=Kh h3;have pY:I<=62:=HK.1.1;clear h3 hL hJ;go_wp2;go_roundw
    case rel=>exact⟨c+1,by go_num,U.1,Kh ⟨by omega,by omega,λj hj=>by
      rcases Nat.lt_or_ge j c with h|h
      ·exact HI.1.2.2 j h
      ·obtain rfl:j=c:=by omega
       exact H3.1⟩⟩
    case measure=>simp[intOf];omega
   | false=>
    have pU:=hJ rfl;obtain⟨d,rfl⟩:∃d,c=d+1:=⟨c - 1,by omega⟩
    clear hL hJ pU;have hD:=Kh (HJ.1 (d+1) (by omega) HI.1.1 HI.1.2.1 HI.1.2.2);have V:=Kh (show d+1<=I/\d+1<=nb from⟨HI.1.1,HI.1.2.1⟩);have e1:((d+1:Nat):Int) - 1=(d:Int):=by omega
    have e2:IntKind.i64.wrap (d:Int)=(d:Int):=IntWalk.i64_in _ (by have:=V.1;have:=HK.1;omega);have oE:¬(cap - d=0):=by have:=V.1;have:=gN.1;omega
    have pW:d<=I:=by have:=V.1;omega
    have pV:I<=cap:=gN.1.1;clear HI HJ;have hM:(A.drop d).length=I - d:=by rw[List.length_drop,cB.1]
    have oG:∀i,w4.frozen? ⟨g,i,none⟩=false:=λi=>(World.frozen?_of_block (a:=⟨g,i,none⟩) (U.1.block g cA.1)).trans (mA.1 i)
    have nD:=Kh (show Calls prog 113 #[.slice (some ⟨g,d*2,none⟩) (I - d) (cap - d)] w4 _ from hM▸Ur (A.drop d) g (d*2) (cap - d) w4 (by have:=HK.1;omega) (by have h:=(gL.1.keep cA.1 U.1).drop d;rwa [Nat.zero_add]at h) oG (by have:=V.1;omega));have mE:=Kh hM;clear hM oG;go_wp2_with fail
    refine nD.1.mono ?_;rintro e w5 ⟨⟨v5,rfl⟩,r1,r2,r3,r4,r5,r6,r7⟩;have nC:=Kh r1;have pM:=Kh r2
    have pN:=Kh (show ∀j,j<(cap - d)*2->(w5.cell? ⟨g,d*2+j,none⟩).isSome=true from λj hj=>by
     rw[r5,U.1.cell (p:=⟨g,d*2+j,none⟩) cA.1];exact nX.1 _ (by omega))
    have pH:=Kh (show CAt w5 g2 0 B from λj c hc=>by
     have h:=(gF.1.keep mB.1 U.1) j c hc;have oS:g2≠g:=by have:=pL.1;omega
     exact⟨(World.cell?_of_block (a:=⟨g2,0+j*2,none⟩) (r7 g2 oS)).trans h.1,(World.cell?_of_block (a:=⟨g2,0+j*2+1,none⟩) (r7 g2 oS)).trans h.2⟩)
    have bY:=Kh (show Below w.heap.size w w5 from(hW.1.trans (U.1.mono hW.1.size)).trans (r6 _ HG.1));have gS:=Kh (show g<w5.heap.size by rw[r3];exact nT cA.1 U.1.size);clear r1 r2 r3 r4 r5 r6 r7 nD oE pW pV e1 e2 U mA nX gL gF;by_cases hm:nb=d+1
    ·have HF:=Kh (show CAt w5 g (d*2) ((A.drop d).reverse++B.drop (d+1))by
      have h0:B.drop (d+1)=[]:=List.drop_eq_nil_of_le (by rw[Z.1,hm];exact nR _);rw[h0,List.append_nil];exact nC.1)
     have hN:I - d<=cap - d:=by have:=gN.1;omega
     have dY:((A.drop d).reverse++B.drop (d+1)).length=I - d:=by
      rw[List.length_append,List.length_reverse,mE.1,List.length_drop,Z.1,hm];omega
     have pX:d+1<=J:=by have:=gP.1;omega
     have nA:=Kh dY;subst hm;clear dY;by_cases oE:J - (d+1)=0
     ·go_wp2_with (at_builtin;refine Q4 rfl (.tmp 52) (.tmp 55) _ 47 rfl underlying128 F0 _ _ (I - d) (cap - d) _ hN rfl rfl ?_)
      (first|go_ret2|go_ret)
      exact⟨⟨(A.drop d).reverse++B.drop (d+1),g,d*2,cap - d,Oi nA.1.symm,gS.1,HF.1,hD.1⟩,bY.1⟩
     ·go_wp2_with (at_builtin;refine Q4 rfl (.tmp 52) (.tmp 55) _ 47 rfl underlying128 F0 _ _ (I - d) (cap - d) _ hN rfl rfl ?_)
      (first|go_ret2|go_ret)
      exact⟨⟨(A.drop d).reverse++B.drop (d+1),g,d*2,cap - d,Oi nA.1.symm,gS.1,HF.1,hD.1⟩,bY.1⟩
    ·have pX:¬(J - (d+1)=0):=by have:=gP.1;have:=V.1;omega
     have hN:d+1<=nb:=by have:=V.1;omega
     have qG:nb<=J:=gP.1.1;have oN:(A.drop d).reverse.length=I - d:=by rw[List.length_reverse,mE.1]
     have oO:(B.drop (d+1)).length=nb - (d+1):=by rw[List.length_drop,Z.1]
     have mC:=Kh oN;have mD:=Kh oO;have nB:=Kh (show CAt w5 g2 ((d+1)*2) (B.drop (d+1))by have h:=pH.1.drop (d+1);rwa [Nat.zero_add]at h);have hX:=Kh (show I - d+(nb - (d+1))<=200 by have:=HK.1;omega);clear oN oO;go_wp2_with (at_builtin;refine aT rfl (.tmp 52) (.tmp 55) _ 47 rfl underlying128 F0 w.heap.size g (d*2) (I - d) (cap - d) g2 ((d+1)*2) (nb - (d+1)) (J - (d+1)) (cusps (A.drop d).reverse) (cusps (B.drop (d+1))) rfl rfl (by rw[Cy,mC.1]) ((Eo _).2 nC.1) pN.1 pM.1 (by rw[Cy,mD.1]) ((Eo _).2 nB.1) (λu hu=>(Gk _ u hu).2) (by have:=hX.1;omega) (by have:=hX.1;omega) HG.1 bY.1.size gS.1 ?_;intro g' o' c' w6 oD oL nY;have pI:=Kh oD;have pK:=Kh oL;have pG:=Kh (bY.1.trans nY);clear oD oL nY)
     (first|go_ret2|go_ret)
     refine⟨⟨(A.drop d).reverse++B.drop (d+1),g',o',c',Oi (by rw[List.length_append,mC.1,mD.1]),pK.1,?_,hD.1⟩,pG.1⟩;refine(Eo _).1 ?_;unfold cusps;rw[List.flatMap_append];exact pI.1
end
section
open Go.RowKit Eli Tryz
theorem Z9 (Q:Nat->Rat) (n wt:Nat) (D:Int) (X:Nat->Nat->Rat) (a b:Int×Int) (f:Nat):V9 Q n wt D X a b f (wt+1)=Ah n wt D (λj=>X j f) Q a b:=by
 unfold Ah V9 eE Ak;split <;> rfl
theorem Vx {n wt:Nat} {D:Int} {X:Nat->Nat->Rat} {f:Nat} {a b:Int×Int} {ch:List (Int×Int)} (J:Pl.check n ((wt:Int)+2) D=0) (Z:RelZ n wt D (λj=>X j f)) (h:ChainOk a b ch) (Q:Nat->Rat):
  Ot Q n wt D X ch f (ch.length - 1)=Pot (Ah n wt D (λj=>X j f) Q) b - Pot (Ah n wt D (λj=>X j f) Q) a:=by
 have hs:=Lm (Q:=Q) J Z;have I:∀j,j<ch.length->ch[j]?=some (ch.getD j (0,0)):=λj O=>by rw[List.getD_eq_getElem?_getD,List.getElem?_eq_getElem O];rfl
 have U:=hs.chain (λj=>ch.getD j (0,0)) (ch.length - 1) (λj O=>(h.good _ (List.mem_of_getElem? (I j (by have:=h.pos;omega)))).2) (λj O=>h.nb j _ _ (I j (by omega)) (I (j+1) (by omega)));have V:ch.getD 0 (0,0)=a:=by rw[List.getD_eq_getElem?_getD,h.first];rfl
 have Y:ch.getD (ch.length - 1) (0,0)=b:=by rw[List.getD_eq_getElem?_getD,h.last];rfl
 rw[V,Y]at U;rw[<-U];unfold Ot;exact Ac (λj _=>Z9 ..)
theorem Tz {a b:Int×Int} (h:Nb a b):(Ak a b).1.1*(Ak a b).2.2 - (Ak a b).1.2*(Ak a b).2.1=1:=by
 unfold Ak;split
 ·rename_i h1;dsimp only;grind
 ·rename_i h1
  have I:b.1*a.2 - a.1*b.2=-1:=h.resolve_left h1;dsimp only;grind
theorem Z8 {n wt C:Nat} {D:Int} {X:Nat->Nat->Rat} {F:List Nat} {f:Nat} {a b:Int×Int} {ch:List (Int×Int)} {Q:Nat->Rat} (J:Pl.check n ((wt:Int)+2) D=0) (aX:cntF n wt=C) (hQ:∀i,i<wt+1->hq (Q i)<=4000)
  (hX:∀j f,j<C->f∈F->hq (X j f)<=10000) (hf:f∈F) (h:ChainOk a b ch):hq (Ot Q n wt D X ch f (ch.length - 1))<=430000000:=by
 obtain⟨h1,h2,h3,h4,h5,h6⟩:=Av J;have cX:wt<=22:=by omega
 have I:∀j,j<ch.length->ch[j]?=some (ch.getD j (0,0)):=λj hj=>by rw[List.getD_eq_getElem?_getD,List.getElem?_eq_getElem hj];rfl
 have hT:∀k i,k+1<ch.length->i<wt+1->hq (eE Q n wt D X (ch.getD k (0,0)) (ch.getD (k+1) (0,0)) f i)<=140000:=by
  intro k i hk hi;obtain⟨x,hx⟩:∃x,ch.getD k (0,0)=x:=⟨_,rfl⟩
  obtain⟨y,hy⟩:∃y,ch.getD (k+1) (0,0)=y:=⟨_,rfl⟩
  have V:=I k (by omega);have Y:=I (k+1) hk;rw[hx]at V ⊢;rw[hy]at Y ⊢;have bB:=h.nb k x y V Y;obtain⟨a1,a2,a3,a4⟩:=(h.good x (List.mem_of_getElem? V)).1;obtain⟨b1,b2,b3,b4⟩:=(h.good y (List.mem_of_getElem? Y)).1;have hp:=Hg J (Dl (n:=n) (by omega) (Tz bB))
  have O:i*(pts n (n*n)).length+(Al n D (Ak x y).2.1 (Ak x y).2.2).1<C:=by
   rw[<-aX];have U:=Nat.mul_le_mul_right (pts n (n*n)).length (show i+1<=wt+1 by omega);rw[Nat.succ_mul]at U;unfold cntF;have:=hp.2;omega
  have cF:hq (subst Q wt (Ak x y).1.1 (Ak x y).1.2 (Ak x y).2.1 (Ak x y).2.2 (wt+1) i)<=123880:=by
   refine Dz (K:=4000) hQ (Dv ?_ ?_) (Dv ?_ ?_) (Dv ?_ ?_) (Dv ?_ ?_) (by omega) (by omega) <;>(unfold Ak;split <;>(dsimp only;omega))
  have cG:hq (((Al n D (Ak x y).2.1 (Ak x y).2.2).2:Int):Rat)<=1:=by
   rw[Ed]
   have Z:(Al n D (Ak x y).2.1 (Ak x y).2.2).2.natAbs<=1:=by
    rcases Gb (Yr D) n (((Ak x y).2.1 % n).toNat*n+((Ak x y).2.2 % n).toNat)with h|h
    ·unfold Al;rw[h];decide
    ·unfold Al;omega
   have:nd ((Al n D (Ak x y).2.1 (Ak x y).2.2).2).natAbs<=1:=Bj.2 (by omega);omega
  have cT:=hX _ f O hf;have U:=B7 (subst Q wt (Ak x y).1.1 (Ak x y).1.2 (Ak x y).2.1 (Ak x y).2.2 (wt+1) i*((Al n D (Ak x y).2.1 (Ak x y).2.2).2:Rat)) (X (i*(pts n (n*n)).length+(Al n D (Ak x y).2.1 (Ak x y).2.2).1) f);have Z:=B7 (subst Q wt (Ak x y).1.1 (Ak x y).1.2 (Ak x y).2.1 (Ak x y).2.2 (wt+1) i) ((Al n D (Ak x y).2.1 (Ak x y).2.2).2:Rat);unfold eE;omega
 have hS:∀k,k+1<ch.length->hq (V9 Q n wt D X (ch.getD k (0,0)) (ch.getD (k+1) (0,0)) f (wt+1))<=3300000:=by
  intro k hk;have U:=D2 (eE Q n wt D X (ch.getD k (0,0)) (ch.getD (k+1) (0,0)) f) 140000 (wt+1) (λq hq=>hT k q hk hq);have Z:(wt+1)*(140000+1)<=23*140001:=Nat.mul_le_mul (by omega) (nR _);unfold V9;omega
 have U:=D2 (λj=>V9 Q n wt D X (ch.getD j (0,0)) (ch.getD (j+1) (0,0)) f (wt+1)) 3300000 (ch.length - 1) (λq hq=>hS q (by omega));have Z:(ch.length - 1)*(3300000+1)<=130*3300001:=Nat.mul_le_mul (by have:=h.len;omega) (nR _);unfold Ot;omega
def Xv (p q p' q':Int):Int:=if At p q≠0 then At p q else At p' q'
def CoRet (w:World) (w':World) (e:Ending) (p q p' q':Int) (n wt:Nat) (D:Int) (F:List Nat) (X:Nat->Nat->Rat) (Q:Nat->Rat):Prop:=
 ((At p q≠0∨At p' q'≠0)/\∃er,(er≠0/\er=Xv p q p' q')/\e=.returned (.tuple #[.slice none 0 0,.int .i64 er])) ∨
 ((At p q=0/\At p' q'=0)/\∃g,e=.returned (.tuple #[.slice (some ⟨g,0,none⟩) F.length F.length,.int .i64 0])/\w.heap.size<=g/\QRow (λj=>IsQ (Pot (Ah n wt D (λi=>X i (F.getD j 0)) Q) (p',q') - Pot (Ah n wt D (λi=>X i (F.getD j 0)) Q) (p,q))) w' g F.length F.length/\∀j,j<F.length->hq (Pot (Ah n wt D (λi=>X i (F.getD j 0)) Q) (p',q') - Pot (Ah n wt D (λi=>X i (F.getD j 0)) Q) (p,q))<=430000000)
theorem bI (M B n wt:Nat) (D:Int) (F:List Nat) (C:Nat) (X:Nat->Nat->Rat) (v:Value) (x y:Nat->Int) (p q p' Z:Int) (w:World) (hT:Tab w) (V:Pl.check n ((wt:Int)+2) D=0) (eP:cntF n wt=C) (hF:F.length<=72)
  (bC:ModAt w M B n ((wt:Int)+2) D F C X) (hB:B<=w.heap.size) (hX:∀j f,j<C->f∈F->hq (X j f)<=10000) (hR:∀f,f∈F->RelZ n wt D (λj=>X j f)) (hp:QL (λj=>IsB 4000 (x j) (y j)) w v (wt+1))
  (hW:-9223372036854775808<=p) (hY:p<=9223372036854775807) (hZ:-9223372036854775808<=q) (iL:q<=9223372036854775807) (mA:-9223372036854775808<=p') (mB:p'<=9223372036854775807) (mC:-9223372036854775808<=Z) (mD:Z<=9223372036854775807):
  Calls prog 24 #[.pointer (some ⟨M,0,none⟩),.agg #[v,.int .i64 p,.int .i64 q,.int .i64 p',.int .i64 Z]] w λe w'=>CoRet w w' e p q p' Z n wt D F X (λi=>Rat.divInt (x i) (y i))/\Below w.heap.size w w':=by
 obtain⟨pv,cv,rfl⟩:∃p c,v=.slice p (wt+1) c:=by
  obtain⟨_,_,_,e',_⟩:=hp.resolve_left (λh=>by omega);exact⟨_,_,e'⟩
 have oP:wt<=22:=by have:=Av V;omega
 have hV:0<n:=by have:=Av V;omega
 obtain⟨kk,hU⟩:∃kk,(wt:Int)+2=kk:=⟨_,rfl⟩
 obtain⟨L,hL⟩:∃L,wt+1=L:=⟨_,rfl⟩
 have aX:=Kh (λW=>Dk p q W hW hY hZ iL);have I:=Kh (λW=>Dk p' Z W mA mB mC mD);have cB:=Kh (λW ha Y=>bH p q p' Z W ha Y);have hJ:=Kh (λW (Y:Below w.heap.size w W)=>Nt M B n kk D F C X W (hU▸bC.keep hB Y) (nS hB Y.size))
 have bA:=Kh (λW gc oc cc ch (Y:Below w.heap.size w W) (hg:gc<W.heap.size) (hc:CAt W gc oc ch) (ho:ChainOk (p,q) (p',Z) ch)=>Uu M B n wt D F C X ch gc oc cc (.slice pv (wt+1) cv) x y W (hT.below Y) V eP hF (bC.keep hB Y) (nS hB Y.size) hX (hp.keep (λ_=>IsB.solid _ _ _) Y) hg (nS ho.len (by decide))
  (λk c hk=>⟨(hc k c hk).1,(hc k c hk).2,by have h:=(ho.good c (List.mem_of_getElem? hk)).1;unfold InC at h;omega⟩)
  (λk a b ha Y=>by
   have h:=ho.nb k a b ha Y;exact⟨h,(Hg V (Dl (a:=(Ak a b).1.1) (b:=(Ak a b).1.2) hV (Tz h))).1⟩))
 have HV:=Kh (λch (ho:ChainOk (p,q) (p',Z) ch) f (hf:f∈F)=>Vx V (hR f hf) ho (λi=>Rat.divInt (x i) (y i)))
 have oD:=Kh (λch (ho:ChainOk (p,q) (p',Z) ch) f (hf:f∈F)=>Z8 V eP (λi hi=>by
  obtain⟨_,_,_,_,hr⟩:=hp.resolve_left (λh=>by omega);obtain⟨_,_,_,_,_,_,_,_,_,_,_,_,h5,h6,h7,h8⟩:=hr.2 i hi;exact K7 (by decide) (nS h5.size h7) (nS h6.size h8)) hX hf ho (Q:=λi=>Rat.divInt (x i) (y i)))
 rw[hL]at bA ⊢;have pF:kk - 1=(L:Int):=by omega
 have pG:IntKind.i64.wrap (L:Int)=(L:Int):=IntWalk.i64_in _ (by omega);clear hT bC hB hX hp V eP hF hR oP hV hU hL hW hY hZ iL mA mB mC mD;go_enter func24,ntmps24
 go_upto_region 3 with(fail)
 obtain⟨w0,mE,X0,hO⟩:=bx1 w #[.slice pv L cv,.int .i64 p,.int .i64 q,.int .i64 p',.int .i64 Z] 57;rw[mE];obtain⟨gp,gS⟩:∃x,w.heap.size=x:=⟨_,rfl⟩
 have oW:=Kh gS;rw[gS]at X0 ⊢;have dY:=Kh X0;have bY:=Kh hO;have x0:=X0.at_ 0 rfl;have oL:∀W:World,(Instr.field 23 (.agg #[.int .i64 n,.int .i64 kk,.int .i64 D]) 1).run prog W=.ok (.int .i64 kk) W:=λW=>by kernel_rfl
 clear mE X0 hO gS;refine J2 (λW=>W.cell? ⟨gp,0,none⟩=some (.slice pv L cv)) (λW Y=>Aq Y x0) (λhI hHeld0=>?_);refine Aj 0 ?_;refine Aj 1 ?_;refine Aj 2 ?_;refine Aj 3 ?_;refine G6 4 rfl (λK hK=>?_);focus(go_simp;refine(hJ.1 _ bY.1.drew).mono ?_;rintro e w1 ⟨rfl,hP⟩;have cA:=Kh ((Below.refl _ w0).drew.trans hP:Below w0.heap.size w0 w1);clear hP;(first|with_reducible refine hK.out _ _ ?_ (λhHeld1=>?_) |(go_wp2_with fail;with_reducible refine hK.out _ _ ?_ (λhHeld1=>?_))))
 focus((try dsimp only);exact hI.1 _ cA.1)
 focus(clear hK K;(try simp only[Act.put,Bo,Bt,Bp]))
 refine Aj 5 ?_;refine Aj 6 ?_;refine Js 7 rfl (λK hK=>?_);go_simp
 refine hK.out _ _ ?_;clear hK K
 (try simp only[Act.put,Bo,Bt,Bp])
 have J:=Kh (dY.1.below_ cA.1 dY.1.lt);have hM:=Kh (bY.1.trans (cA.1.mono bY.1.size));clear x0 hI cA hHeld0 hHeld1 hJ dY bY oL;have x0:=J.1.at_ 0 rfl;have x1:=J.1.at_ 1 rfl;have x2:=J.1.at_ 2 rfl;have x3:=J.1.at_ 3 rfl;have x4:=J.1.at_ 4 rfl;obtain⟨e1,gN⟩:∃e1,At p q=e1:=⟨_,rfl⟩
 obtain⟨e2,gP⟩:∃e2,At p' Z=e2:=⟨_,rfl⟩
 have bB:=Kh gN;have cC:=Kh gP;rw[gN]at aX;rw[gP]at I;clear gN gP;go_wp2_with fail
 refine(aX.1 w1).mono ?_;rintro e w2 ⟨rfl,gA⟩;have O:=Kh (bk J gA);have cX:=bt hM gA;clear x0 x1 x2 x3 x4 gA J hM;by_cases h1:e1=0
 ·have x0:=O.1.at_ 0 rfl
  have x1:=O.1.at_ 1 rfl;have x2:=O.1.at_ 2 rfl;have x3:=O.1.at_ 3 rfl;have x4:=O.1.at_ 4 rfl;have oH:(e1 != 0)=false:=by rw[h1];rfl
  go_wp2_with fail
  refine(I.1 w2).mono ?_;rintro e w3 ⟨rfl,gF⟩;have U:=Kh (bk O gF);have dC:=bt cX gF;clear x0 x1 x2 x3 x4 gF O cX;by_cases h2:e2=0
  ·have x0:=U.1.at_ 0 rfl
   have x1:=U.1.at_ 1 rfl;have x2:=U.1.at_ 2 rfl;have x3:=U.1.at_ 3 rfl;have x4:=U.1.at_ 4 rfl;have oI:(e2 != 0)=false:=by rw[h2];rfl
   go_wp2_with fail
   refine(cB.1 w3 (bB.1.trans h1) (cC.1.trans h2)).mono ?_;rintro e w4 ⟨⟨ch,gc,oc,cc,rfl,hg,cD,hD⟩,gL⟩;have oE:=Kh (bk U gL);have dE:=bt dC gL;have oA:=Kh (bA.1 w4 gc oc cc ch dE.1 hg cD hD);have cT:=Kh hD;clear x0 x1 x2 x3 x4 gL U dC cD hg hD bA cB aX I;have x0:=oE.1.at_ 0 rfl;go_wp2_with fail
   refine oA.1.mono ?_;rintro e w5 ⟨⟨g,rfl,hS,cG⟩,hQ⟩
   have HR:=Kh (QRow.congr cG (λj hj=>by
    have oN:j<F.length:=hj;have hf:F.getD j 0∈F:=Ax oN;show IsQ (Ot (λi=>Rat.divInt (x i) (y i)) n wt D X ch (F.getD j 0) (ch.length - 1))=_;rw[HV.1 ch cT.1 _ hf]))
   have oC:=Kh (show ∀j,j<F.length->hq (Pot (Ah n wt D (λi=>X i (F.getD j 0)) (λi=>Rat.divInt (x i) (y i))) (p',Z) - Pot (Ah n wt D (λi=>X i (F.getD j 0)) (λi=>Rat.divInt (x i) (y i))) (p,q))<=430000000 from λj hj=>by
    have hf:F.getD j 0∈F:=Ax hj;rw[<-HV.1 ch cT.1 _ hf];exact oD.1 ch cT.1 _ hf)
   have nZ:=bt dE hQ;have oB:=Kh (nS dE.1.size hS);clear cG hQ x0 hS;go_wp2
   (first|go_ret2|go_ret)
   exact⟨.inr ⟨⟨bB.1.trans h1,cC.1.trans h2⟩,g,rfl,oB.1,HR.1,oC.1⟩,nZ.1⟩
  ·have oI:(e2 != 0)=true:=by rw[bne_iff_ne];exact h2
   clear bA cB aX I;go_wp2
   (first|go_ret2|go_ret)
   exact⟨.inl ⟨.inr (by rw[cC.1];exact h2),e2,⟨h2,by unfold Xv;rw[bB.1,cC.1,if_neg (by rw[h1];simp)]⟩,rfl⟩,dC.1⟩
 ·have oH:(e1 != 0)=true:=by rw[bne_iff_ne];exact h1
  clear bA cB aX I;go_wp2
  (first|go_ret2|go_ret)
  exact⟨.inl ⟨.inl (by rw[bB.1];exact h1),e1,⟨h1,by unfold Xv;rw[bB.1,if_pos h1]⟩,rfl⟩,cX.1⟩
end
section
open Eli
theorem J1 {n wt:Nat} {D:Int} (J:wt<=22) {f:Nat} (Z:f∈frs (C9 n wt D) (cntF n wt)):RelZ n wt D (λj=>B5 (C9 n wt D) (cntF n wt) (cntF n wt) j f):=by
 intro r hr;obtain⟨V,Y⟩:=Ht.1 Z;have h:=Rr (Hs J) ((Mp (by omega) (Df (Fm J)) (D1 _ _) _).1 r hr) V Y;rw[<-h];refine Ac (λk hk=>?_);have I:k<cntF n wt:=hk
 have e:Ce (cntF n wt) (Ji n wt D) r k=Lj n wt D r k:=by
  unfold Ce Ji;rw[if_pos I]
  have O:(r*cntF n wt+k) / ((wt+1)*(pts n (n*n)).length)=r:=by
   show(r*cntF n wt+k) / cntF n wt=r;rw[Nat.mul_comm,Nat.mul_add_div (by omega),Nat.div_eq_of_lt I,Nat.add_zero]
  have U:(r*cntF n wt+k) % ((wt+1)*(pts n (n*n)).length)=k:=by
   show(r*cntF n wt+k) % cntF n wt=k;rw[Nat.mul_comm,Nat.mul_add_mod,Nat.mod_eq_of_lt I]
  rw[O,U]
 rw[e]
end
section
open Go.RowKit Eli Tryz
theorem RetP.ok {w w':World} {e:Ending} {n:Nat} {f:Nat->Rat} {X Y:Int×Int} {I:Int} (h:RetP w w' e n f X Y I):
  ∃U V,e=.returned (.tuple #[.agg #[.slice U (if I=0 then n else 0) V,.int .i64 ((if I=0 then X else(0,0)).1),.int .i64 ((if I=0 then X else(0,0)).2),.int .i64 ((if I=0 then Y else(0,0)).1),.int .i64 ((if I=0 then Y else(0,0)).2)],.int .i64 I])/\QL (λj=>IsQ (f j)) w' (.slice U (if I=0 then n else 0) V) (if I=0 then n else 0)/\∀a,U=some a->w.heap.size<=a.block:=by
 rcases h with⟨h,O⟩ |⟨h,g,cap,O,hg,hr⟩
 ·simp only[if_neg h]
  exact⟨none,0,O,.inl ⟨rfl,_,_,rfl⟩,λa J=>by cases J⟩
 ·subst h
  simp only[if_true];exact⟨_,cap,O,hr.ql cap,λa J=>by injection J with J;subst J;exact hg⟩
theorem IsQ.isB {K:Nat} {r:Rat} {w:World} {s:Bool} {p:Option Addr} {n c:Nat} {t:Bool} {q:Option Addr} {m d:Nat} (h:IsQ r w s p n c t q m d) (hr:hq r<=K):IsB K r.num r.den w s p n c t q m d:=
 ⟨h.1.raw,h.2.raw,by have:=Qs.sizes h;omega,by have:=Qs.sizes h;omega⟩
theorem QL.isB {K:Nat} {f:Nat->Rat} {w:World} {v:Value} {n:Nat} (h:QL (λj=>IsQ (f j)) w v n) (hf:∀j,j<n->hq (f j)<=K):QL (λj=>IsB K (f j).num (f j).den) w v n:=by
 rcases h with h |⟨g,o,c,Z,h2,h3⟩
 ·exact .inl h
 ·exact .inr ⟨g,o,c,Z,h2,λj I=>by
   obtain⟨s,p,k,J,t,q,m,d,O,U,V,Y,hx⟩:=h3 j I;exact⟨s,p,k,J,t,q,m,d,O,U,V,Y,IsQ.isB hx (hf j I)⟩⟩
structure ModR (w:World) (M n wt:Nat) (D:Int) (F:List Nat) (C:Nat) (X:Nat->Nat->Rat):Prop where
 check:Pl.check n ((wt:Int)+2) D=0
 cnt:cntF n wt=C
 len:F.length<=72
 mod:ModAt w M w.heap.size n ((wt:Int)+2) D F C X
 size:∀j f,j<C->f∈F->hq (X j f)<=10000
 rel:∀f,f∈F->RelZ n wt D (λj=>X j f)
theorem ModR.keep {w w':World} {M n wt:Nat} {D:Int} {F:List Nat} {C:Nat} {X:Nat->Nat->Rat} (h:ModR w M n wt D F C X) (I:Below w.heap.size w w'):ModR w' M n wt D F C X:=
 ⟨h.check,h.cnt,h.len,(h.mod.keep (nR _) I).up I.size,h.size,h.rel⟩
theorem Wq {M n wt:Nat} {D:Int} {F:List Nat} {C:Nat} {X:Nat->Nat->Rat} {w:World} (hT:Tab w) (h:ModR w M n wt D F C X) (v:Value) (f:Nat->Rat) (p q p' I:Int) (hp:QL (λj=>IsQ (f j)) w v (wt+1)) (hf:∀j,j<wt+1->hq (f j)<=4000)
  (J:-9223372036854775808<=p) (O:p<=9223372036854775807) (U:-9223372036854775808<=q) (V:q<=9223372036854775807) (Y:-9223372036854775808<=p') (Z:p'<=9223372036854775807) (aX:-9223372036854775808<=I) (bA:I<=9223372036854775807):
  Calls prog 24 #[.pointer (some ⟨M,0,none⟩),.agg #[v,.int .i64 p,.int .i64 q,.int .i64 p',.int .i64 I]] w λe w'=>CoRet w w' e p q p' I n wt D F X f/\Below w.heap.size w w':=by
 have h1:=bI M w.heap.size n wt D F C X v (λj=>(f j).num) (λj=>(f j).den) p q p' I w hT h.check h.cnt h.len h.mod (nR _) h.size h.rel (hp.isB hf) J O U V Y Z aX bA;have e:(λi=>Rat.divInt (f i).num ((f i).den:Int))=f:=funext λi=>Rat.num_divInt_den (f i)
 rw[e]at h1;exact h1
theorem Uy (G cap:Nat) (w:World):
  Calls prog 55 #[.int .i64 0,.slice (some ⟨G,0,none⟩) 0 cap] w λe w'=>e=.returned (.agg #[.int .i64 0,.int .i64 0,.slice none 0 0])/\Below w.heap.size w w':=by
 go_enter func55,ntmps55
 go_wp2_with fail
 obtain⟨w0,h,X0,bB⟩:=bx1 w #[.int .i64 0,.int .i64 0,.slice none 0 0] 32;rw[h];obtain⟨J,O⟩:∃x,w.heap.size=x:=⟨_,rfl⟩
 have V:=Kh (show w.heap.size<=J from Nat.le_of_eq O);have bA:=Kh (show Blk w0 J 32 #[.int .i64 0,.int .i64 0,.slice none 0 0]from O▸X0);have aX:=Kh bB;try rw[O]
 obtain⟨w1,bE,Y0,Y⟩:=bx1 w0 #[.int .i64 0,.int .i64 0,.slice none 0 0] 32;rw[bE];have bC:w0.heap.size=J+1:=by rw[<-h,<-O];simp
 obtain⟨ob,Z⟩:∃x,J+1=x:=⟨_,rfl⟩
 rw[bC,Z]at Y0;try rw[Z]
 have I:=Kh (bk bA Y);have HY:=Kh Y0;have bY:=bt aX Y;clear h X0 bB bE Y Y0 bA aX O Z bC;go_loopw [14] (λii wr=>ii=.int .i64 0/\wr=w1) (λ_ _=>0)
 case atStart=>exact⟨rfl,rfl⟩
 case round=>
  obtain⟨rfl,rfl⟩:=hrel;have y0:=HY.1.at_ 0 rfl;have y1:=HY.1.at_ 1 rfl;have y2:=HY.1.at_ 2 rfl;have r0:=I.1.at_ 0 rfl;have r1:=I.1.at_ 1 rfl;have r2:=I.1.at_ 2 rfl;have f0:=I.1.free_ 0;have f1:=I.1.free_ 1;have f2:=I.1.free_ 2;have U:=Kh (A9 (w:=wr) (R:=J) (v0:=.int .i64 0) (v1:=.int .i64 0) (v2:=.slice none 0 0) (by rw[r0];rfl) (by rw[r1];rfl) (by rw[r2];rfl));have cA:=Kh (show Below w.heap.size w (((wr.setCell ⟨J,0,none⟩ (.int .i64 0)).setCell ⟨J,1,none⟩ (.int .i64 0)).setCell ⟨J,2,none⟩ (.slice none 0 0))from((bY.1.setCell (p:=⟨J,0,none⟩) V.1 _).setCell (p:=⟨J,1,none⟩) V.1 _).setCell (p:=⟨J,2,none⟩) V.1 _);go_wp2;have e0:=U.1.1;have e1:=U.1.2.1;have e2:=U.1.2.2;try simp only[Exit.inBlock,Exit.then]
  refine bodyPost_ret (by simp[results,results55,go_sem,e0,e1,e2];try rfl) rfl ?_;exact⟨rfl,cA.1⟩
theorem O4 (w:World):
  Calls prog 13 #[.int .i64 0] w λe w'=>e=.returned (.tuple #[.agg #[.int .i64 0,.int .i64 0,.slice none 0 0],.int .i64 0])/\Below w.heap.size w w':=by
 go_enter func13,ntmps13
 go_wp2_with fail
 obtain⟨w0,cB,X0,cA⟩:=bx1 w #[.int .i64 0,.int .i64 0,.slice none 0 0] 32;rw[cB];obtain⟨J,O⟩:∃x,w.heap.size=x:=⟨_,rfl⟩
 have V:=Kh (show w.heap.size<=J from Nat.le_of_eq O);have bC:=Kh (show Blk w0 J 32 #[.int .i64 0,.int .i64 0,.slice none 0 0]from O▸X0);have aX:=Kh cA;try rw[O]
 refine(Gg 0 w0 (by omega)).mono ?_;rintro e w1 ⟨rfl,Y⟩;have bE:=Kh (bk bC Y);have bA:=bt aX Y;clear cB X0 cA Y bC aX O;go_wp2_with fail
 refine(Xq 0 w1 (by omega)).mono ?_;rintro e w2 ⟨⟨G,gs,rfl,_⟩,Z⟩;have bY:=Kh (bk bE Z);have bB:=bt bA Z;clear Z bE bA;go_wp2_with fail
 refine(Uy G 0 w2).mono ?_;rintro e w5 ⟨rfl,h⟩;have I:=Kh (bk bY h);have cC:=bt bB h;clear h bY bB;have r0:=I.1.at_ 0 rfl;have r1:=I.1.at_ 1 rfl;have r2:=I.1.at_ 2 rfl;have f0:=I.1.free_ 0;have f1:=I.1.free_ 1;have f2:=I.1.free_ 2;have U:=Kh (A9 (w:=w5) (R:=J) (v0:=.int .i64 0) (v1:=.int .i64 0) (v2:=.slice none 0 0) (by rw[r0];rfl) (by rw[r1];rfl) (by rw[r2];rfl));have cD:=Kh (show Below w.heap.size w (((w5.setCell ⟨J,0,none⟩ (.int .i64 0)).setCell ⟨J,1,none⟩ (.int .i64 0)).setCell ⟨J,2,none⟩ (.slice none 0 0))from((cC.1.setCell (p:=⟨J,0,none⟩) V.1 _).setCell (p:=⟨J,1,none⟩) V.1 _).setCell (p:=⟨J,2,none⟩) V.1 _);go_wp2;have e0:=U.1.1;have e1:=U.1.2.1;have e2:=U.1.2.2;try simp only[Exit.inBlock,Exit.then]
 refine bodyPost_ret (by simp[results,results13,go_sem,e0,e1,e2];try rfl) rfl ?_;exact⟨rfl,cD.1⟩
theorem QL.boxM {f:Nat->Rat} {w w':World} {p:Option Addr} {m c R:Nat} (h:QL (λj=>IsQ (f j)) w (.slice p m c) m) (U:Stk (λv=>∀b,v≠.bool b) w R) (O:I32 w w') (hg:w.grownBy w' (some R)):QL (λj=>IsQ (f j)) w' (.slice p m c) m:=by
 rcases Nat.eq_zero_or_pos m with J|J
 ·subst J
  exact .inl ⟨rfl,p,c,rfl⟩
 ·obtain⟨g,o,cap,I,_,Y⟩:=h.resolve_left (λh=>by omega)
  refine h.boxed (λ_=>IsQ.solid _) O hg (λa Z e=>?_);injection I with I
  obtain⟨s,p',n',c',t,q,m',d,V,_⟩:=Y 0 J;rw[Z]at I;injection I with I
  rw[I]at e;rw[show g=R from e]at V;exact U.2 _ _ V _ rfl
theorem QL.eqv {f g:Nat->Rat} {w:World} {v:Value} {n:Nat} (h:QL (λj=>IsQ (f j)) w v n) (e:∀j,j<n->f j=g j):QL (λj=>IsQ (g j)) w v n:=by
 rcases h with h |⟨b,o,c,J,O,U⟩
 ·exact .inl h
 ·exact .inr ⟨b,o,c,J,O,λj I=>by show QE (IsQ (g j)) w b (o+j*4);rw[<-e j I];exact U j I⟩
def jG (FL:Nat) (f:Nat->Nat->Rat) (w':World) (e:Ending):Prop:=∃p c,e=.returned (.tuple #[.agg #[.int .i64 FL,.int .i64 FL,.slice p (FL*FL) c],.int .i64 0])/\QL (λj=>IsQ (f (j / FL) (j % FL))) w' (.slice p (FL*FL) c) (FL*FL)
theorem Xo (gx:Nat) (s:Bool) (p:Option Addr) (i1 c:Nat) (t:Bool) (q:Option Addr) (m d:Nat) (x:Rat) (s':Bool) (p':Option Addr) (U c':Nat) (t':Bool) (q':Option Addr) (m' d':Nat) (y:Rat) (s2:Bool) (p2:Option Addr) (i2 c2:Nat) (t2:Bool) (q2:Option Addr) (m2 d2:Nat) (w:World) (h:gx<w.heap.size) (hc:Cells4 w gx 0 s p i1 c t q m d) (hx:Qs w s p i1 c t q m d x) (hy:Qs w s' p' U c' t' q' m' d' y) (gP:hq x<=1000000000) (gS:hq y<=1000000000):
  Calls prog 88 #[.agg #[.bool s',.slice p' U c',.bool t',.slice q' m' d'],.agg #[.bool s2,.slice p2 i2 c2,.bool t2,.slice q2 m2 d2],.pointer (some ⟨gx,0,none⟩)] w λe w'=>Eg w' e (x*y)/\Below w.heap.size w w':=by
 have HC:=Kh hc;have HX:=Kh hx;have HY:=Kh hy;have HG:=Kh h;clear hc hx hy h;go_enter func88,ntmps88
 go_upto_region 1 with(fail)
 obtain⟨w0,bA,Y,_,XR,I⟩:=Kk w #[.bool s',.slice p' U c',.bool t',.slice q' m' d'] 86 #[.bool s2,.slice p2 i2 c2,.bool t2,.slice q2 m2 d2] 86 #[.bool false,.slice none 0 0,.bool false,.slice none 0 0] 86;rw[bA];obtain⟨x0,x1,x2,x3⟩:=HC.1.keep I;have y0:=Y.at_ 0 rfl;have y1:=Y.at_ 1 rfl;have y2:=Y.at_ 2 rfl;have y3:=Y.at_ 3 rfl;have gF:=Kh (HX.1.keep I);have gL:=Kh (HY.1.keep I);have cX:=Kh I;have eP:=Kh XR;clear bA Y XR I HX HY HC;go_wp2_with fail
 refine(Cx s p i1 c t q m d x s' p' U c' t' q' m' d' y w0 gF.1 gL.1 gP gS).mono ?_;rintro e w4 ⟨⟨s6,p6,n6,c6,t6,q6,m6,d6,rfl,bB⟩,V⟩;have HQ:=Kh bB;have J:=Kh (bk eP V);have HB:=bt cX V;clear bB V x0 x1 x2 x3 y0 y1 y2 y3;have r0:=J.1.at_ 0 rfl;have r1:=J.1.at_ 1 rfl;have r2:=J.1.at_ 2 rfl;have r3:=J.1.at_ 3 rfl;have f0:=J.1.free_ 0;have f1:=J.1.free_ 1;have f2:=J.1.free_ 2;have f3:=J.1.free_ 3;obtain⟨w9,O⟩:∃w9,(((w4.setCell ⟨w.heap.size+1+1,0,none⟩ (.bool s6)).setCell ⟨w.heap.size+1+1,1,none⟩ (.slice p6 n6 c6)).setCell ⟨w.heap.size+1+1,2,none⟩ (.bool t6)).setCell ⟨w.heap.size+1+1,3,none⟩ (.slice q6 m6 d6)=w9:=⟨_,rfl⟩
 obtain⟨E0,E1,E2,E3,aX⟩:=Cd J.1 HQ.1 O;have Z:Below w.heap.size w w9:=by rw[<-O];exact As HB.1 (by omega) _ _ _ _
 have gA:=Kh O;have dE:=Kh (And.intro E0 (And.intro E1 (And.intro E2 E3)));have dY:=Kh aX;have dC:=Kh Z;clear E0 E1 E2 E3 aX Z O HQ HB J;go_wp2;try rw[gA.1]
 obtain⟨E0,E1,E2,E3⟩:=dE.1;try simp only[Exit.inBlock,Exit.then]
 refine bodyPost_ret (by simp[results,results88,go_sem,E0,E1,E2,E3];try rfl) rfl ?_;exact⟨⟨s6,p6,n6,c6,t6,q6,m6,d6,rfl,dY.1⟩,dC.1⟩
theorem gC (R C n:Nat) (pA:Option Addr) (cA:Nat) (T:Nat->Rat) (gx:Nat) (s:Bool) (p:Option Addr) (i1 c:Nat) (t:Bool) (q:Option Addr) (m d:Nat) (x:Rat) (w:World) (hA:QL (λj=>IsQ (T j)) w (.slice pA n cA) n) (hN:R*C=n) (hR:R<=1000) (hC:C<=1000) (nZ:gx<w.heap.size) (hc:Cells4 w gx 0 s p i1 c t q m d) (hx:Qs w s p i1 c t q m d x) (oC:hq x<=1000000000) (hT:∀j,j<n->hq (T j)<=430000000):
  Calls prog 87 #[.agg #[.int .i64 R,.int .i64 C,.slice pA n cA],.agg #[.int .i64 R,.int .i64 C,.slice pA n cA],.func (.func 88) #[] #[.pointer (some ⟨gx,0,none⟩)]] w λe w'=>(∃p c,e=.returned (.tuple #[.agg #[.int .i64 R,.int .i64 C,.slice p n c],.int .i64 0])/\QL (λj=>IsQ (x*T j)) w' (.slice p n c) n)/\Below w.heap.size w w':=by
 have hn:n<=1000000:=by rw[<-hN];exact Nat.mul_le_mul hR hC
 have pX:=Hx n (by omega);have HA:=Kh hA;have HT:=Kh hT;have oW:=Kh (λW (U:Below w.heap.size w W) (s':Bool) (p':Option Addr) (eP c':Nat) (t':Bool) (q':Option Addr) (m' d':Nat) (y:Rat) (s2:Bool) (p2:Option Addr) (i2 c2:Nat) (t2:Bool) (q2:Option Addr) (m2 d2:Nat) (hy:Qs W s' p' eP c' t' q' m' d' y) (pK:hq y<=1000000000)=>Xo gx s p i1 c t q m d x s' p' eP c' t' q' m' d' y s2 p2 i2 c2 t2 q2 m2 d2 W (nT nZ U.size) (hc.keep U) (hx.keep U) hy oC pK);clear hA hT hc hx nZ oC;go_enter func87,ntmps87
 go_wp2_with fail
 obtain⟨w0,oD,XA,XB,XR,hO⟩:=Kk w #[.int .i64 R,.int .i64 C,.slice pA n cA] 32 #[.int .i64 R,.int .i64 C,.slice pA n cA] 32 #[.int .i64 0,.int .i64 0,.slice none 0 0] 32;rw[oD];refine(Jm R C n pA cA w0 (by omega) (by omega) hN).mono ?_;rintro e w1 ⟨rfl,dC⟩;obtain⟨ga,hP⟩:∃z,w.heap.size=z:=⟨_,rfl⟩
 obtain⟨gb,hQ⟩:∃z,w.heap.size+1=z:=⟨_,rfl⟩
 obtain⟨gr,bB⟩:∃z,w.heap.size+1+1=z:=⟨_,rfl⟩
 have hI:=XA.below_ dC XA.lt;have hJ:=XB.below_ dC XB.lt;have hM:=XR.below_ dC XR.lt;have hZ:=Kh (hO.trans (dC.mono hO.size));have oS:=Kh (And.intro hP (And.intro hQ bB));rw[bB]at hM ⊢;rw[hQ]at hJ ⊢;rw[hP]at hI ⊢;have gU:=Kh hI;have Z:=Kh hJ;have hB:=Kh hM;clear oD XA XB XR hO dC hI hJ hM hP hQ bB;have b0:=Z.1.at_ 0 rfl;have b1:=Z.1.at_ 1 rfl;have b2:=Z.1.at_ 2 rfl;go_wp2_with fail
 refine(Jm R C n pA cA w1 (by omega) (by omega) hN).mono ?_;rintro e O ⟨rfl,dE⟩;have V:=Kh (bk gU dE);have aX:=Kh (bk Z dE);have bE:=Kh (bk hB dE);have gF:=bt hZ dE;clear b0 b1 b2 dE gU Z hB hZ;have a0:=V.1.at_ 0 rfl;have a1:=V.1.at_ 1 rfl;have a2:=V.1.at_ 2 rfl;have b0:=aX.1.at_ 0 rfl;have b1:=aX.1.at_ 1 rfl;go_upto_region 3 with(fail)
 go_cut [8]from 33 to 41 (λv8 wx=>∃go G,v8=.pointer (some ⟨go,0,none⟩)/\Blk wx go 32 #[.int .i64 R,.int .i64 C,.slice (some ⟨G,0,none⟩) n n]/\QRow (λj=>IsQ (x*T j)) wx G n 0/\go≠G/\O.heap.size<=G/\O.heap.size<=go/\Below O.heap.size O wx)
 case first=>
  refine jC [] (λW=>W.cell? ⟨ga,0,none⟩=some (.int .i64 R)/\W.cell? ⟨ga,1,none⟩=some (.int .i64 C)/\W.cell? ⟨ga,2,none⟩=some (.slice pA n cA)) (λW U=>⟨Aq U a0,Aq U a1,Aq U a2⟩) (λbY hHeld0=>?_);clear a0 a1 a2 b0 b1;refine C8 0 ?_;refine C8 1 ?_;refine C8 2 ?_;refine C8 3 ?_;refine C8 4 ?_;refine C8 5 ?_;refine C8 6 ?_;refine dW 7 9 rfl rfl (λK hK=>?_) (λK hK=>?_)
  ·focus(go_simp;refine hK.out _ _ ?_ (λhHeld1=>?_))
   focus((try dsimp only);exact bY.1 _ ((Below.refl _ O).drew.alloc (nR _) _))
   focus(clear hK K;(try simp only[Act.put,Bo,Bt,Bp]))
   refine C8 8 ?_;refine aA 9 rfl (λK hK=>?_);focus(go_simp;refine hK.out _ _ ?_ (λhHeld2=>?_))
   focus((try dsimp only);exact bY.1 _ (((Below.refl _ O).drew.alloc (nR _) _).alloc (by simp) _))
   focus(clear hK K;(try simp only[Act.put,Bo,Bt,Bp]))
   refine nH 10 rfl (λK hK=>?_);go_simp
   refine hK.out _ _ ?_;clear hK K
   (try simp only[Act.put,Bo,Bt,Bp])
   go_wp2;go_meet
   exact⟨O.heap.size+1,O.heap.size,rfl,(by have h0:=Blk.new (O.alloc (.cells (madeCells #[.bool false,.slice none 0 0,.bool false,.slice none 0 0] (n*4)) 86)) 32 #[.int .i64 R,.int .i64 C,.slice (some ⟨O.heap.size,0,none⟩) n n];have h:=h0.below_ (Below.refl _ _).drew h0.lt;rw[World.size_alloc]at h;exact h),QRow.keep (λ_=>IsQ.solid _) (QRow.made (λj=>IsQ (x*T j)) O n) ((Below.refl _ _).alloc (nR _) _).drew,by omega,nR _,by omega,(((Below.refl _ O).alloc (nR _) _).alloc (by simp) _).drew⟩
  ·focus(go_simp;refine hK.out _ _ ?_ (λhHeld1=>?_))
   focus((try dsimp only);exact bY.1 _ ((Below.refl _ O).drew.alloc (nR _) _))
   focus(clear hK K;(try simp only[Act.put,Bo,Bt,Bp]))
   refine aA 7 rfl (λK hK=>?_);focus(go_simp;refine hK.out _ _ ?_ (λhHeld2=>?_))
   focus((try dsimp only);exact bY.1 _ (((Below.refl _ O).drew.alloc (nR _) _).alloc (by simp) _))
   focus(clear hK K;(try simp only[Act.put,Bo,Bt,Bp]))
   refine C8 8 ?_;have XN:Blk ((O.drew.alloc (.cells #[.int .i64 0,.int .i64 0,.slice none 0 0] 32)).alloc (.cells (madeCells #[.bool false,.slice none 0 0,.bool false,.slice none 0 0] (n*4)) 86)) O.heap.size 32 #[.int .i64 0,.int .i64 0,.slice none 0 0]:=(Blk.new O.drew 32 #[.int .i64 0,.int .i64 0,.slice none 0 0]).below_ ((Below.refl _ _).alloc (nR _) _) (by simp);have n0:=XN.at_ 0 rfl;have n1:=XN.at_ 1 rfl;have n2:=XN.at_ 2 rfl;have f0:=XN.free_ 0;have f1:=XN.free_ 1;have f2:=XN.free_ 2;clear XN;refine nH 10 rfl (λK hK=>?_);go_simp
   refine hK.out _ _ ?_;clear hK K
   (try simp only[Act.put,Bo,Bt,Bp])
   go_wp2;go_meet
   exact⟨O.heap.size,O.heap.size+1,rfl,(Blk.new O 32 #[.int .i64 R,.int .i64 C,.slice (some ⟨O.heap.size+1,0,none⟩) n n]).below_ ((Below.refl _ _).alloc (nR _) _).drew (by simp),(by have h:=QRow.keep (λ_=>IsQ.solid _) (QRow.made (λj=>IsQ (x*T j)) (O.alloc (.cells #[.int .i64 R,.int .i64 C,.slice (some ⟨O.heap.size+1,0,none⟩) n n] 32)) n) (Below.refl _ _).drew;rw[World.size_alloc]at h;exact h),by omega,by omega,nR _,(((Below.refl _ O).alloc (nR _) _).alloc (by simp) _).drew⟩
 obtain⟨go,G,rfl,nW,bA,oA,pE,pG,dY⟩:=hcut;obtain⟨w3,rfl⟩:∃x:World,x=wc:=⟨_,rfl⟩
 have mD:=Kh (bk V dY);have oX:=Kh (bk aX dY);have cT:=Kh (bk bE dY);have cG:=bt gF dY;have hH:=Kh nW;have J:=Kh (And.intro oA (And.intro (show ga≠G by have:=V.1.lt;omega) (And.intro (show gb≠G by have:=aX.1.lt;omega) (And.intro (show gr≠G by have:=bE.1.lt;omega) (And.intro (show gr≠go by have:=bE.1.lt;omega) (show w.heap.size<=G by have:=gF.1.size;omega))))));have oU:=Kh (HA.1.keep (λ_=>IsQ.solid _) cG.1);have mC:=Kh bA
 have oP:=Kh (show ∀k,k<n->∃g0 o0,pA=some ⟨g0,o0,none⟩/\g0≠G/\QE (IsQ (T k)) w3 g0 (o0+k*4)from λk hk=>by
  rcases HA.1 with⟨h0,_⟩ |⟨g0,o0,c0,e0,hlt,_⟩
  ·omega
  ·rcases oU.1 with⟨h0,_⟩ |⟨g1,o1,c1,e1,_,h1⟩
   ·omega
   ·injection e0 with e0 _ _
    injection e1 with e1 _ _
    rw[e0]at e1;injection e1 with e1
    injection e1 with e1 e2 _
    subst e1 e2;exact⟨g0,o0,e0,by have:=gF.1.size;omega,h1 k hk⟩)
 clear a0 a1 a2 b0 b1 nW bA oA pE pG dY V aX bE gF;have a2:=mD.1.at_ 2 rfl;go_wp2_with fail
 go_loopw [45] (λii wr=>∃k:Nat,k<=n/\ii=.int .i64 k/\QRow (λj=>IsQ (x*T j)) wr G n k/\w3.grownBy wr (some G)/\I32 w3 wr) (λii _=>n - (intOf ii).toNat)
 case atStart=>exact⟨0,Nat.zero_le _,rfl,mC.1,Af G (Below.refl _ _),I32.refl _⟩
 case round=>
  clear a2;obtain⟨k,hk,rfl,bA,bB,nD⟩:=hrel;obtain⟨we,rfl⟩:∃we:World,we=wr:=⟨_,rfl⟩
  have bC:=Kh bA;have I:=Kh bB;have hY:=Kh nD;have oQ:=Kh (Ae cG.1 bB (by have:=cG.1.size;omega) J.1.2.2.2.2.2);clear bA bB nD mC;have a2:=I.1.cell (mD.1.at_ 2 rfl) (λe=>by injection e with e;exact J.1.2.1 e);have b2:=I.1.cell (oX.1.at_ 2 rfl) (λe=>by injection e with e;exact J.1.2.2.1 e);have o2:=I.1.cell (hH.1.at_ 2 rfl) (λe=>by injection e with e;exact J.1.1 e);by_cases hlt:k<n
  ·obtain⟨g0,o0,pJ,nY,oB⟩:=oP.1 k hlt
   obtain⟨s',p',eP,c',t',q',m',d',e0,e1,e2,e3,hy⟩:=oB.butR hY.1 I.1 nY;have HP:=Kh (show Qs we s' p' eP c' t' q' m' d' (T k)from hy);have qQ:(k:Int)<(n:Int):=by omega
   have Y:=bC.1;obtain⟨u0,hU⟩:=nV (Y.has (k*4) (by omega));obtain⟨u1,hV⟩:=nV (Y.has (k*4+1) (by omega));obtain⟨u2,hu2⟩:=nV (Y.has (k*4+2) (by omega));obtain⟨u3,hW⟩:=nV (Y.has (k*4+3) (by omega));have qR:=nY;subst pJ;clear hy oB;go_upto_region 7 with(fail)
   refine J2 (λW=>W.cell? ⟨go,2,none⟩=some (.slice (some ⟨G,0,none⟩) n n)/\W.cell? ⟨ga,2,none⟩=some (.slice (some ⟨g0,o0,none⟩) n cA)/\W.cell? ⟨gb,2,none⟩=some (.slice (some ⟨g0,o0,none⟩) n cA)/\W.cell? ⟨g0,o0+k*4,none⟩=some (.bool s')/\W.cell? ⟨g0,o0+k*4+1,none⟩=some (.slice p' eP c')/\W.cell? ⟨g0,o0+k*4+2,none⟩=some (.bool t')/\W.cell? ⟨g0,o0+k*4+3,none⟩=some (.slice q' m' d')/\W.cell? ⟨G,k*4,none⟩=some (u0)/\W.frozen? ⟨G,k*4,none⟩=false/\W.cell? ⟨G,k*4+1,none⟩=some (u1)/\W.frozen? ⟨G,k*4+1,none⟩=false/\W.cell? ⟨G,k*4+2,none⟩=some (u2)/\W.frozen? ⟨G,k*4+2,none⟩=false/\W.cell? ⟨G,k*4+3,none⟩=some (u3)/\W.frozen? ⟨G,k*4+3,none⟩=false) (λW U=>⟨Aq U o2,Aq U a2,Aq U b2,Aq U e0,Aq U e1,Aq U e2,Aq U e3,Aq U hU,Ab U (by rw[hU];rfl) (Y.free _ (by omega)),Aq U hV,Ab U (by rw[hV];rfl) (Y.free _ (by omega)),Aq U hu2,Ab U (by rw[hu2];rfl) (Y.free _ (by omega)),Aq U hW,Ab U (by rw[hW];rfl) (Y.free _ (by omega))⟩) (λbY hHeld0=>?_);clear a2 b2 o2 e0 e1 e2 e3 hU hV hu2 hW Y;refine Aj 0 ?_;refine Aj 1 ?_;refine Aj 2 ?_;refine Aj 3 ?_;refine Aj 4 ?_;refine Aj 5 ?_;refine Aj 6 ?_;refine Aj 7 ?_;refine Aj 8 ?_;refine Aj 9 ?_;refine Aj 10 ?_;refine Aj 11 ?_;refine Aj 12 ?_;refine Aj 13 ?_;refine G6 14 rfl (λK hK=>?_);focus(go_simp;refine(oW.1 we.drew oQ.1.drew _ _ _ _ _ _ _ _ _ _ _ _ _ _ _ _ _ (HP.1.keep (Below.refl _ we).drew) (by have:=HT.1 k hlt;omega)).mono ?_;rintro e w4 ⟨⟨s6,p6,n6,c6,t6,q6,m6,d6,rfl,oE⟩,nX⟩;have gL:=Kh ((Below.refl _ we).drew.trans nX:Below we.heap.size we w4);have hS:=QRow.keep (λ_=>IsQ.solid _) bC.1 gL.1;have mB:=Kh (QRow.set (k':=k+1) (λ_=>IsQ.solid _) hS k hlt (λj=>IsQ (x*T j)) (IsQ.solid _) (λi h1 h2=>⟨by omega,rfl⟩) (show IsQ (x*T k) w4 s6 p6 n6 c6 t6 q6 m6 d6 from oE));have oR:=Kh (show ∀v0 v1 v2 v3,w3.grownBy ((((w4.setCell ⟨G,k*4,none⟩ v0).setCell ⟨G,k*4+1,none⟩ v1).setCell ⟨G,k*4+2,none⟩ v2).setCell ⟨G,k*4+3,none⟩ v3) (some G)from λ_ _ _ _=>Ej I.1 gL.1);have H4:=Kh ((hY.1.trans (I32.below gL.1)).trans (I32.put4 hS.sts (k*4) (k*4+1) (k*4+2) (k*4+3) (.bool s6) (.slice p6 n6 c6) (.bool t6) (.slice q6 m6 d6) (NotInt.bool _) (NotInt.slice _ _ _) (NotInt.bool _)));clear oE nX hS;(first|with_reducible refine hK.out _ _ ?_ (λhHeld1=>?_) |(go_wp2_with fail;with_reducible refine hK.out _ _ ?_ (λhHeld1=>?_))))
   focus((try dsimp only);exact bY.1 _ gL.1)
   focus(clear hK K;(try simp only[Act.put,Bo,Bt,Bp]))
   refine Aj 15 ?_;refine Js 16 rfl (λK hK=>?_);go_simp
   refine hK.out _ _ ?_;clear hK K
   (try simp only[Act.put,Bo,Bt,Bp])
   all_goals clear bC
   all_goals go_wp2
   all_goals go_roundw
   all_goals first
    | exact⟨k+1,by omega,by go_num,mB.1,oR.1 _ _ _ _,H4.1⟩
    |(simp[intOf];omega)
  ·obtain rfl:n=k:=by omega
   have o0:=I.1.cell (hH.1.at_ 0 rfl) (λe=>by injection e with e;exact J.1.1 e);have o1:=I.1.cell (hH.1.at_ 1 rfl) (λe=>by injection e with e;exact J.1.1 e);have pH:=cT.1.lt;have r0:=I.1.cell (cT.1.at_ 0 rfl) (λe=>by injection e with e;exact J.1.2.2.2.1 e);have r1:=I.1.cell (cT.1.at_ 1 rfl) (λe=>by injection e with e;exact J.1.2.2.2.1 e);have r2:=I.1.cell (cT.1.at_ 2 rfl) (λe=>by injection e with e;exact J.1.2.2.2.1 e);have cX:=cT.1.grown_ I.1 (λe=>by injection e with e;exact J.1.2.2.2.1 e);have f0:=cX.free_ 0;have f1:=cX.free_ 1;have f2:=cX.free_ 2;have hE:Stk NotU32 we gr:=Stk.of cX (by intro v hv;simp at hv;rcases hv with rfl|rfl|rfl <;> exact λ_ h=>by cases h);have hG:=Kh (A9 (w:=we) (R:=gr) (v0:=.int .i64 (R:Int)) (v1:=.int .i64 (C:Int)) (v2:=.slice (some ⟨G,0,none⟩) n n) (by rw[r0];rfl) (by rw[r1];rfl) (by rw[r2];rfl));have oT:=Kh (Cc hE (v0:=.int .i64 (R:Int)) (v1:=.int .i64 (C:Int)) (v2:=.slice (some ⟨G,0,none⟩) n n) (λ_ h=>by cases h) (λ_ h=>by cases h));have mA:=Kh (((Ad we gr 0 (.int .i64 (R:Int))).trans (Ad _ gr 1 (.int .i64 (C:Int)))).trans (Ad _ gr 2 (.slice (some ⟨G,0,none⟩) n n)));have iL:=Kh (show Below w.heap.size w we from Ae cG.1 I.1 (by have:=cG.1.size;omega) J.1.2.2.2.2.2);have oV:=Kh (show w.heap.size<=gr by have:=oS.1;omega);clear hE cX pH hlt hk a2 b2;go_wp2;have e0:=hG.1.1;have e1:=hG.1.2.1;have e2:=hG.1.2.2;try simp only[Exit.inBlock,Exit.then]
   refine bodyPost_ret (by simp[results,results87,go_sem,e0,e1,e2];try rfl) rfl ?_;exact⟨⟨_,_,rfl,(QRow.ql bC.1 n).boxed (λ_=>IsQ.solid _) oT.1 mA.1 (λa ha h=>by injection ha with ha;rw[<-ha]at h;exact J.1.2.2.2.1 h.symm)⟩,Ae iL.1 mA.1 (by have:=iL.1.size;omega) oV.1⟩
theorem bR (R C n:Nat) (pA:Option Addr) (cA:Nat) (T:Nat->Rat) (s:Bool) (p:Option Addr) (i1 c:Nat) (t:Bool) (q:Option Addr) (m d:Nat) (x:Rat) (w:World) (hA:QL (λj=>IsQ (T j)) w (.slice pA n cA) n) (hD:R*C=n) (hR:R<=1000) (hC:C<=1000) (hx:Qs w s p i1 c t q m d x) (hG:hq x<=1000000000) (hT:∀j,j<n->hq (T j)<=430000000):
  Calls prog 43 #[.agg #[.int .i64 R,.int .i64 C,.slice pA n cA],.agg #[.bool s,.slice p i1 c,.bool t,.slice q m d]] w λe w'=>(∃p c,e=.returned (.tuple #[.agg #[.int .i64 R,.int .i64 C,.slice p n c],.int .i64 0])/\QL (λj=>IsQ (x*T j)) w' (.slice p n c) n)/\Below w.heap.size w w':=by
 have hZ:∀(fn:Fn) (first cap:Array Value) (w:World),(Instr.makeFunc fn first cap).run prog w=.ok (.func fn first cap) w:=λ_ _ _ _=>rfl
 have HA:=Kh hA;have HX:=Kh hx;have HT:=Kh hT;clear hA hx hT;go_enter func43,ntmps43
 go_upto_region 1 with(fail)
 obtain⟨w0,cT,XA,Z,XR,J⟩:=Kk w #[.int .i64 R,.int .i64 C,.slice pA n cA] 32 #[.bool s,.slice p i1 c,.bool t,.slice q m d] 86 #[.int .i64 0,.int .i64 0,.slice none 0 0] 32;rw[cT];obtain⟨ga,bB⟩:∃z,w.heap.size=z:=⟨_,rfl⟩
 obtain⟨gx,bE⟩:∃z,w.heap.size+1=z:=⟨_,rfl⟩
 obtain⟨gr,bC⟩:∃z,w.heap.size+1+1=z:=⟨_,rfl⟩
 have gF:=Kh J;have gL:=Kh (And.intro bB (And.intro bE bC));rw[bC]at XR ⊢;rw[bE]at Z ⊢;rw[bB]at XA ⊢;have cB:=Kh (gC R C n pA cA T gx s p i1 c t q m d x w0 (HA.1.keep (λ_=>IsQ.solid _) J) hD hR hC Z.lt ⟨Z.at_ 0 rfl,Z.at_ 1 rfl,Z.at_ 2 rfl,Z.at_ 3 rfl⟩ (HX.1.keep J) hG HT.1);have Y:=Kh XR;have a0:=XA.at_ 0 rfl;have a1:=XA.at_ 1 rfl;have a2:=XA.at_ 2 rfl;clear cT XA Z XR J bB bE bC HA HX HT;go_wp2_with fail
 refine cB.1.mono ?_;rintro e w6 ⟨⟨p6,c6,rfl,cF⟩,bA⟩;have I:=bk Y bA;have hE:=Y.1.lt;have r0:=I.at_ 0 rfl;have r1:=I.at_ 1 rfl;have r2:=I.at_ 2 rfl;have f0:=I.free_ 0;have f1:=I.free_ 1;have f2:=I.free_ 2;have U:Stk NotU32 w6 gr:=Stk.of I (by intro v hv;simp at hv;rcases hv with rfl|rfl|rfl <;> exact λ_ h=>by cases h);have O:Stk (λv=>∀b,v≠.bool b) w6 gr:=Stk.of I (by intro v hv;simp at hv;rcases hv with rfl|rfl|rfl <;> exact λ_ h=>by cases h);have V:=Kh (A9 (w:=w6) (R:=gr) (v0:=.int .i64 (R:Int)) (v1:=.int .i64 (C:Int)) (v2:=.slice p6 n c6) (by rw[r0];rfl) (by rw[r1];rfl) (by rw[r2];rfl));have gN:=Kh (Cc U (v0:=.int .i64 (R:Int)) (v1:=.int .i64 (C:Int)) (v2:=.slice p6 n c6) (λ_ h=>by cases h) (λ_ h=>by cases h));have cC:=Kh (((Ad w6 gr 0 (.int .i64 (R:Int))).trans (Ad _ gr 1 (.int .i64 (C:Int)))).trans (Ad _ gr 2 (.slice p6 n c6)));have gS:=Kh cF;have gP:=Kh O;have bY:=bt gF bA;have gU:=Kh (show w.heap.size<=gr by have:=gL.1;omega);clear I U O cF bA hE a0 a1 a2 cB Y;go_wp2;have e0:=V.1.1;have e1:=V.1.2.1;have e2:=V.1.2.2;try simp only[Exit.inBlock,Exit.then]
 refine bodyPost_ret (by simp[results,results43,go_sem,e0,e1,e2];try rfl) rfl ?_;exact⟨⟨p6,c6,rfl,gS.1.boxM gP.1 gN.1 cC.1⟩,Ae bY.1 cC.1 (by have:=bY.1.size;omega) gU.1⟩
end
end Go.Proofs.YtenlbhlllgppmaaGreatDoor
