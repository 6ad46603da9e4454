/- contfrac in general: Path, slices.Reverse of cusps. -/
import Derived.Test.YtenlbhlllgppmaaGreatDoorA28
set_option linter.unusedSimpArgs false
set_option maxRecDepth 100000
set_option maxHeartbeats 8000000
namespace Go.Proofs.YtenlbhlllgppmaaGreatDoor
section
open Go.RowKit Tryz
theorem OwnI.at_ {l:List Int} {w:World} {B:Nat} {v:Value} (h:OwnI l w B v) (I:0<l.length):∃g cap,v=.slice (some ⟨g,0,none⟩) l.length cap/\g<w.heap.size/\∀(i:Nat) (n:Int),l[i]?=some n->w.cell? ⟨g,i,none⟩=some (.int .i64 n):=by
 obtain⟨g,cap,e,_,_,_,hlt,_,J⟩:=Xo h I;exact⟨g,cap,e,hlt,λi n M=>J i _ (by rw[List.getElem?_map,M];rfl)⟩
theorem Fq:∀(l:List (Int×Int)),∀u∈cusps l,NotU32 u/\u.oneCell'=true
 | [],u,h=>by cases h
 | x :: l,u,h=>by
  unfold cusps at h;rw[List.flatMap_cons]at h;rcases List.mem_append.1 h with h|h
  ·simp at h
   rcases h with rfl|rfl <;> exact⟨int_i64 _,rfl⟩
  ·exact Fq l u h
theorem Vr (p q:Int) (w:World) (h:Av p q=0):
  Calls prog 112 #[.agg #[.int .i64 p,.int .i64 q]] w λe w'=>(∃v,e=.returned (.tuple #[v,.int .i64 0])/\OwnC (Ci (p,q)) w' w.heap.size v)/\Below w.heap.size w w':=by
 by_cases hq0:q=0
 ·subst hq0
  obtain rfl:p=1:=(I3 (x:=(p,0)) h).2.2.2 rfl;have e:Ci ((1:Int),(0:Int))=[(1,0)]:=by unfold Ci;rw[if_pos rfl]
  rw[e];exact Vs w
 ·obtain⟨k1,k2,k3,k4,k5⟩:=Wb (x:=(p,q)) h hq0
  dsimp only at k1 k2 k3;have ep:Ci (p,q)=[(1,0)]++F4 (0,1) (1,0) (Fp p q):=by unfold Ci;rw[if_neg hq0];rfl
  rw[ep];have aD:=Kh (λW=>Vl p q W h hq0);have U:=Kh (λg cap W hg hc=>La (Fp p q) g cap W k1.2 (by omega) hg hc k2 (λc hc=>(k3 c hc).1));have V:=Gh (Fp p q) (0,1) (1,0);obtain⟨L,hL⟩:∃L,Fp p q=L:=⟨_,rfl⟩
  obtain⟨C,hC⟩:∃C,F4 (0,1) (1,0) L=C:=⟨_,rfl⟩
  rw[hL]at k1 aD U V ⊢;rw[hC]at U V ⊢;have HK:=Kh (show 0<L.length/\L.length<=61/\C.length=L.length from⟨k1.2,k1.1,V⟩);clear k1 k2 k3 k4 k5 hL hC V ep h hq0;go_enter func112,ntmps112
  go_wp2_with fail
  obtain⟨w2,cA,_,XB,aK⟩:=bx2 w #[.int .i64 p,.int .i64 q] 47 #[.int .i64 1,.int .i64 0] 47;rw[cA];refine(aD.1 w2).mono ?_;rintro e w3 ⟨⟨v,rfl,Z⟩,aN⟩;obtain⟨g,cap,rfl,hlt,J⟩:=Z.at_ HK.1.1;have HC:=Kh (U.1 g cap w3 hlt J);have HO:=Kh (Sq (B:=w.heap.size) (XB.below_ aN XB.lt) (by omega));have HB:=Kh (aK.trans (aN.mono aK.size));clear cA XB aK aN Z J hlt;go_wp2_with fail
  refine HC.1.mono ?_;rintro e w4 ⟨⟨v4,rfl,M⟩,aX⟩;obtain⟨g4,bG,rfl,_,_,_,_,_,I⟩:=Xo M (by have:=HK.1;omega);have cC:=Kh (show ∀(j:Nat) u,(cusps C)[j]?=some u->w4.cell? ⟨g4,j,none⟩=some u from I);have bE:=Kh (HO.1.keep aX);have bB:=bt HB aX;have bY:=bB.1.size;clear M I aX HO HB HC U aD;go_wp2_with (at_builtin;refine K3 NotU32 rfl (.tmp 27) (.tmp 28) _ 47 rfl underlying128 Fb rfl (by decide) w.heap.size 1 C.length g4 bG _ [.int .i64 1,.int .i64 0] (cusps C) rfl bE.1 rfl (Ck C) cC.1 (λu hu=>(Fq C u hu).2) (by have:=HK.1;omega) (by have:=HK.1;omega) (by have:=HK.1;omega) bY (λu hu=>(Fq C u hu).1) Sk ?_;intro v5 w5 O Y bH;have cD:=Kh O;have cB:=Kh (Aw bB.1 bE.1.1 Y (mG _) bY);clear O Y bH)
  (first|go_ret2|go_ret)
  have h5:OwnC ((1,0) :: C) w5 w.heap.size v5:=by
   unfold OwnC;rw[List.length_cons,Nat.add_comm];exact cD.1
  exact⟨⟨v5,rfl,h5⟩,cB.1⟩
def CAt (w:World) (g o:Nat) (l:List (Int×Int)):Prop:=∀(j:Nat) (c:Int×Int),l[j]?=some c->w.cell? ⟨g,o+j*2,none⟩=some (.int .i64 c.1)/\w.cell? ⟨g,o+j*2+1,none⟩=some (.int .i64 c.2)
def rv (l:List (Int×Int)) (i j:Nat):Option (Int×Int):=if j<i∨l.length<=i+j then l[l.length - 1 - j]? else l[j]?
theorem Kq {w:World} {g a:Nat} {u:Value} (h:(w.cell? ⟨g,a,none⟩).isSome=true):(w.setCell ⟨g,a,none⟩ u).cell? ⟨g,a,none⟩=some u:=World.cell?_setCell_same' _ _ _ h
theorem Co {w:World} {g a b:Nat} {u:Value} (h:a≠b):(w.setCell ⟨g,a,none⟩ u).cell? ⟨g,b,none⟩=w.cell? ⟨g,b,none⟩:=World.cell?_setCell_other _ _ _ _ (by simp[h])
theorem Hj {w:World} {g a b:Nat} {u:Value} (I:(w.cell? ⟨g,a,none⟩).isSome=true):((w.setCell ⟨g,a,none⟩ u).cell? ⟨g,b,none⟩).isSome=(w.cell? ⟨g,b,none⟩).isSome:=by
 by_cases h:a=b
 ·subst h;rw[Kq I,I];rfl
 ·rw[Co h]
theorem Tu (l:List (Int×Int)) (g o cap:Nat) (w:World) (hl:l.length<=1000) (h:CAt w g o l) (hf:∀i,w.frozen? ⟨g,i,none⟩=false) (h0:0<l.length):
  Calls prog 113 #[.slice (some ⟨g,o,none⟩) l.length cap] w λe w'=>(∃v,e=.returned v)/\CAt w' g o l.reverse/\(∀i,w'.frozen? ⟨g,i,none⟩=false)/\w'.heap.size=w.heap.size/\(∀i,i<o∨o+l.length*2<=i->w'.cell? ⟨g,i,none⟩=w.cell? ⟨g,i,none⟩)/\(∀i,(w'.cell? ⟨g,i,none⟩).isSome=(w.cell? ⟨g,i,none⟩).isSome)/\(∀B,B<=g->Below B w w')/\∀b,b≠g->w'.heap[b]?=w.heap[b]?:=by
 obtain⟨N,hN⟩:∃N,l.length=N:=⟨_,rfl⟩
 have HN:=Kh hN;have HL:=Kh hl;rw[hN]at hl h0;rw[hN];have HA:=Kh h;have HF:=Kh hf;have iL:IntKind.i64.wrap ((N:Int) - 1)=(N:Int) - 1:=IntWalk.i64_in _ (by omega);clear hN h hf;go_enter func113,ntmps113
 go_wp2_with fail
 go_loopw [2,3] (λvi vj wr=>∃(i:Nat) (j:Int),vi=.int .i64 i/\vj=.int .i64 j/\j=(N:Int) - 1 - i/\Hd (2*i<=N+1/\(∀(k:Nat) (c:Int×Int),k<N->rv l i k=some c->wr.cell? ⟨g,o+k*2,none⟩=some (.int .i64 c.1)/\wr.cell? ⟨g,o+k*2+1,none⟩=some (.int .i64 c.2))/\(∀i,wr.frozen? ⟨g,i,none⟩=false)/\wr.heap.size=w.heap.size/\(∀i,i<o∨o+N*2<=i->wr.cell? ⟨g,i,none⟩=w.cell? ⟨g,i,none⟩)/\(∀i,(wr.cell? ⟨g,i,none⟩).isSome=(w.cell? ⟨g,i,none⟩).isSome)/\(∀B,B<=g->Below B w wr)/\∀b,b≠g->wr.heap[b]?=w.heap[b]?)) (λ_ j _=>(intOf j).toNat)
 case atStart=>
  refine⟨0,(N:Int) - 1,rfl,rfl,by omega,Kh ⟨by omega,λk c hk Z=>?_,HF.1,rfl,λ_ _=>rfl,λ_=>rfl,λB _=>Below.refl B w,λ_ _=>rfl⟩⟩;have e:rv l 0 k=l[k]?:=by unfold rv;rw[if_neg (by have:=HN.1;omega)]
  rw[e]at Z;exact HA.1 k c Z
 case round=>
  obtain⟨i,j,rfl,rfl,hj,V⟩:=hrel;obtain⟨Y,rfl⟩:∃Y:World,Y=wr:=⟨_,rfl⟩
  by_cases hlt:(i:Int)<j
  ·obtain⟨m,rfl⟩:∃m:Nat,j=(m:Int):=⟨j.toNat,by omega⟩
   have aX:N=i+m+1:=by omega
   have hY:i<m:=by omega
   have gA:i<N:=by omega
   have gL:m<N:=by omega
   have hX:(i:Int)<(N:Int):=by omega
   have hZ:(m:Int)<(N:Int):=by omega
   have mM:IntKind.i64.wrap ((m:Int) - 1)=(m:Int) - 1:=IntWalk.i64_in _ (by omega);obtain⟨⟨p1,q1⟩,bB⟩:∃c,l[i]?=some c:=⟨_,List.getElem?_eq_getElem (by have:=HN.1;omega)⟩
   obtain⟨⟨p2,q2⟩,bC⟩:∃c,l[m]?=some c:=⟨_,List.getElem?_eq_getElem (by have:=HN.1;omega)⟩
   have cX:=Kh bB;have cY:=Kh bC;obtain⟨x0,x1⟩:=V.1.2.1 i (p1,q1) gA (by unfold rv;rw[if_neg (by have:=HN.1;omega)];exact bB);obtain⟨y0,y1⟩:=V.1.2.1 m (p2,q2) gL (by unfold rv;rw[if_neg (by have:=HN.1;omega)];exact bC);dsimp only at x0 x1 y0 y1;have f0:=V.1.2.2.1 (o+i*2);have f1:=V.1.2.2.1 (o+i*2+1);have f2:=V.1.2.2.1 (o+m*2);have f3:=V.1.2.2.1 (o+m*2+1);have dE:=Kh aX;clear bB bC hj aX;go_upto_region 3 with(fail)
   go_region
   have s0:(Y.cell? ⟨g,o+i*2,none⟩).isSome=true:=by rw[x0];rfl
   have s1:(Y.cell? ⟨g,o+i*2+1,none⟩).isSome=true:=by rw[x1];rfl
   have s2:(Y.cell? ⟨g,o+m*2,none⟩).isSome=true:=by rw[y0];rfl
   have s3:(Y.cell? ⟨g,o+m*2+1,none⟩).isSome=true:=by rw[y1];rfl
   obtain⟨wa,U⟩:∃x,Y.setCell ⟨g,o+i*2,none⟩ (.int .i64 p2)=x:=⟨_,rfl⟩
   obtain⟨wb,O⟩:∃x,wa.setCell ⟨g,o+i*2+1,none⟩ (.int .i64 q2)=x:=⟨_,rfl⟩
   obtain⟨wc,J⟩:∃x,wb.setCell ⟨g,o+m*2,none⟩ (.int .i64 p1)=x:=⟨_,rfl⟩
   obtain⟨M,I⟩:∃x,wc.setCell ⟨g,o+m*2+1,none⟩ (.int .i64 q1)=x:=⟨_,rfl⟩
   have aK:∀b,(M.cell? ⟨g,b,none⟩).isSome=(Y.cell? ⟨g,b,none⟩).isSome/\(wc.cell? ⟨g,b,none⟩).isSome=(Y.cell? ⟨g,b,none⟩).isSome/\(wb.cell? ⟨g,b,none⟩).isSome=(Y.cell? ⟨g,b,none⟩).isSome/\(wa.cell? ⟨g,b,none⟩).isSome=(Y.cell? ⟨g,b,none⟩).isSome:=by
    have e1:∀b,(wa.cell? ⟨g,b,none⟩).isSome=(Y.cell? ⟨g,b,none⟩).isSome:=λb=>U▸Hj s0
    have e2:∀b,(wb.cell? ⟨g,b,none⟩).isSome=(Y.cell? ⟨g,b,none⟩).isSome:=λb=>O▸(Hj ((e1 _).trans s1)).trans (e1 b)
    have e3:∀b,(wc.cell? ⟨g,b,none⟩).isSome=(Y.cell? ⟨g,b,none⟩).isSome:=λb=>J▸(Hj ((e2 _).trans s2)).trans (e2 b)
    have e4:∀b,(M.cell? ⟨g,b,none⟩).isSome=(Y.cell? ⟨g,b,none⟩).isSome:=λb=>I▸(Hj ((e3 _).trans s3)).trans (e3 b)
    exact λb=>⟨e4 b,e3 b,e2 b,e1 b⟩
   have aD:∀b,b≠o+i*2->b≠o+i*2+1->b≠o+m*2->b≠o+m*2+1->M.cell? ⟨g,b,none⟩=Y.cell? ⟨g,b,none⟩:=λb n0 n1 n2 n3=>by
    rw[<-I,Co n3.symm,<-J,Co n2.symm,<-O,Co n1.symm,<-U,Co n0.symm]
   have bE:M.cell? ⟨g,o+i*2,none⟩=some (.int .i64 p2):=by rw[<-I,Co (by omega),<-J,Co (by omega),<-O,Co (by omega),<-U,Kq s0]
   have bG:M.cell? ⟨g,o+i*2+1,none⟩=some (.int .i64 q2):=by rw[<-I,Co (by omega),<-J,Co (by omega),<-O,Kq ((aK _).2.2.2.trans s1)]
   have cA:M.cell? ⟨g,o+m*2,none⟩=some (.int .i64 p1):=by rw[<-I,Co (by omega),<-J,Kq ((aK _).2.2.1.trans s2)]
   have cB:M.cell? ⟨g,o+m*2+1,none⟩=some (.int .i64 q1):=by rw[<-I,Kq ((aK _).2.1.trans s3)]
   have aX:=dE.1;have gF:=HN.1
   have HZ:=Kh (show 2*(i+1)<=N+1/\(∀(k:Nat) (c:Int×Int),k<N->rv l (i+1) k=some c->M.drew.cell? ⟨g,o+k*2,none⟩=some (.int .i64 c.1)/\M.drew.cell? ⟨g,o+k*2+1,none⟩=some (.int .i64 c.2))/\(∀i,M.drew.frozen? ⟨g,i,none⟩=false)/\M.drew.heap.size=w.heap.size/\(∀i,i<o∨o+N*2<=i->M.drew.cell? ⟨g,i,none⟩=w.cell? ⟨g,i,none⟩)/\(∀i,(M.drew.cell? ⟨g,i,none⟩).isSome=(w.cell? ⟨g,i,none⟩).isSome)/\(∀B,B<=g->Below B w M.drew)/\∀b,b≠g->M.drew.heap[b]?=w.heap[b]? from by
    refine⟨by omega,λk c hk Z=>?_,λb=>?_,?_,λb hb=>?_,λb=>(aK b).1.trans (V.1.2.2.2.2.2.1 b),λB hB=>?_,λb hb=>?_⟩
    ·show M.cell? ⟨g,o+k*2,none⟩=_/\M.cell? ⟨g,o+k*2+1,none⟩=_
     by_cases k1:k=i
     ·subst k1
      have e:rv l (k+1) k=l[m]?:=by unfold rv;rw[if_pos (by omega)];congr 1;omega
      rw[e,cY.1]at Z;obtain rfl:(p2,q2)=c:=by simpa using Z
      exact⟨bE,bG⟩
     ·by_cases k2:k=m
      ·subst k2
       have e:rv l (i+1) k=l[i]?:=by unfold rv;rw[if_pos (by omega)];congr 1;omega
       rw[e,cX.1]at Z;obtain rfl:(p1,q1)=c:=by simpa using Z
       exact⟨cA,cB⟩
      ·have e:rv l (i+1) k=rv l i k:=by
        unfold rv;by_cases k3:k<i∨l.length<=i+k
        ·rw[if_pos k3,if_pos (by omega)]
        ·rw[if_neg k3,if_neg (by omega)]
       rw[e]at Z;have h9:=V.1.2.1 k c hk Z;rw[aD _ (by omega) (by omega) (by omega) (by omega),aD _ (by omega) (by omega) (by omega) (by omega)];exact h9
    ·show M.frozen? ⟨g,b,none⟩=false
     rw[<-I,<-J,<-O,<-U];simp only[World.frozen?_setCell];exact V.1.2.2.1 b
    ·show M.heap.size=_
     rw[<-I,<-J,<-O,<-U];simp;exact V.1.2.2.2.1
    ·show M.cell? ⟨g,b,none⟩=_
     rw[aD _ (by omega) (by omega) (by omega) (by omega)];exact V.1.2.2.2.2.1 b hb
    ·have h9:=V.1.2.2.2.2.2.2.1 B hB
     rw[<-I,<-J,<-O,<-U];exact((((h9.setCell (p:=⟨g,o+i*2,none⟩) hB _).setCell (p:=⟨g,o+i*2+1,none⟩) hB _).setCell (p:=⟨g,o+m*2,none⟩) hB _).setCell (p:=⟨g,o+m*2+1,none⟩) hB _).drew
    ·show M.heap[b]?=_
     rw[<-I,<-J,<-O,<-U];exact(Below.heap_setCell _ ⟨g,o+m*2+1,none⟩ _ b hb).trans ((Below.heap_setCell _ ⟨g,o+m*2,none⟩ _ b hb).trans ((Below.heap_setCell _ ⟨g,o+i*2+1,none⟩ _ b hb).trans ((Below.heap_setCell _ ⟨g,o+i*2,none⟩ _ b hb).trans (V.1.2.2.2.2.2.2.2 b hb)))))
   have bH:(m:Int) - 1=(N:Int) - 1 - ((i+1:Nat):Int):=by omega
   have dC:=Kh bH;rw[U,O,J,I];clear U O J I aK aD bE bG cA cB s0 s1 s2 s3 x0 x1 y0 y1 f0 f1 f2 f3 V aX gF bH;generalize M.drew=we at HZ ⊢;go_wp2;go_roundw
   case rel=>exact⟨i+1,(m:Int) - 1,by go_num,rfl,dC.1,HZ⟩
   case measure=>simp[intOf];omega
  ·have HZ:=Kh (show CAt Y g o l.reverse/\_ from⟨λk c Z=>by
     have hk:k<N:=by have:=(List.getElem?_eq_some_iff.1 Z).1;rw[List.length_reverse,HN.1]at this;exact this
     refine V.1.2.1 k c hk ?_;rw[List.getElem?_reverse (by rw[HN.1];exact hk)]at Z;have h1:=V.1.1;unfold rv;by_cases h2:k<i∨l.length<=i+k
     ·rw[if_pos h2];exact Z
     ·rw[if_neg h2]
      have h3:l.length - 1 - k=k:=by have:=HN.1;omega
      rw[h3]at Z;exact Z,V.1.2.2⟩)
   clear V hj;go_wp2;go_end0;exact⟨⟨_,rfl⟩,HZ.1⟩
theorem E6 {B g:Nat} (hB:B<=g):∀(I:List Value) (o:Nat) (w:World),Below B w (w.setCells g o I)
 | [],_,w=>Below.refl B w
 | v :: I,o,w=>by
  have J:Below B w (w.setCell ⟨g,o,none⟩ v):=(Below.refl B w).setCell (p:=⟨g,o,none⟩) hB v;exact J.trans (E6 hB I (o+1) _)
theorem Y9 {P:Program} {W:World} {cB:Array Oper} {rest:List Oper} {o:Oper} {a:Act} {Q:Exit->Act->World->Prop} (cG:o.guard=none) (s x:Operand) (t E:TypeId)
  (ho:o.op=.call { callee:=.builtin .append,args:=#[s,x],argTypes:=#[t,t] }) {z:Value} {Z O:Nat} (hU:P.underlying t=some (.slice E))
  (aN:(P.info? E).map (λi=>(i.zero,i.size,i.bytes))=some (some z,Z,O)) (B g of n V g2 o2 m c2:Nat) (J I:List Value)
  (hs:a.eval s=.slice (some ⟨g,of,none⟩) n V) (hx:a.eval x=.slice (some ⟨g2,o2,none⟩) m c2) (cV:J.length=n*Z) (U:∀(j:Nat) (u:Value),J[j]?=some u->W.cell? ⟨g,of+j,none⟩=some u)
  (bY:∀j,j<V*Z->(W.cell? ⟨g,of+j,none⟩).isSome=true) (hf:∀i,W.frozen? ⟨g,i,none⟩=false) (hn:I.length=m*Z) (bG:∀(j:Nat) (u:Value),I[j]?=some u->W.cell? ⟨g2,o2+j,none⟩=some u) (h1:∀u∈I,u.oneCell'=true)
  (hb:(n+m)*O<=140737488355328) (hm:n+m<=9223372036854775807) (bB:B<=g) (cF:B<=W.heap.size) (hg:g<W.heap.size)
  (h:∀g' o' c' w',(∀(j:Nat) (u:Value),(J++I)[j]?=some u->w'.cell? ⟨g',o'+j,none⟩=some u)->g'<w'.heap.size->Below B W w'->wpList P cB Q rest (a.put o.dst (.slice (some ⟨g',o',none⟩) (n+m) c')) w'):
  wpList P cB Q (o :: rest) a W:=by
 obtain⟨i0,hi,cX,Y,cY⟩:=info_parts aN
 have aD:∀(b k j:Nat),(⟨b,k,none⟩:Addr).add j=⟨b,k+j,none⟩:=λb k j=>by
  unfold Addr.add;split
  ·rename_i h0;rw[h0,Nat.add_zero]
  ·simp
 have aK:Src P i0.size t (.slice (some ⟨g2,o2,none⟩) m c2) m I W:=Src.ofSlice W hU ⟨g2,o2,none⟩ m c2 I (by rw[Y];exact hn) (λj u M=>by rw[aD];exact bG j u M) h1;refine wpList_plain cG λK' bC=>?_
 unfold Oper.wp execOp;by_cases hroom:n+m<=V
 ·have cC:n*Z+I.length<=V*Z:=by rw[hn,<-Nat.add_mul];exact Nat.mul_le_mul_right _ hroom
  have hr:=run_append_room_src (P:=P) W t t o.type E i0 hU hi g of n V (.slice (some ⟨g2,o2,none⟩) m c2) m I aK hroom (λj M=>by rw[Y,Nat.add_assoc];exact bY _ (by omega)) (λj _=>hf _);rw[Y]at hr;simp only[ho,resolve,invoke,builtin,Sem.run_bind,Sem.run_pure,Result.andThen_ok,List.map_toArray,List.map_cons,List.map_nil,hs,hx,hr];refine bC _ _ (h g of V _ (λj u M=>?_) ?_ (E6 bB I _ W))
  ·rcases Nat.lt_or_ge j J.length with hlt|cT
   ·rw[List.getElem?_append_left hlt]at M
    rw[World.cell?_setCells_out g I (of+n*Z) W ⟨g,of+j,none⟩ (λ_ _=>.inl (by dsimp only;omega))];exact U j u M
   ·rw[List.getElem?_append_right cT]at M
    obtain⟨bE,e⟩:=List.getElem?_eq_some_iff.1 M;have h3:=World.cell?_setCells_in g I (of+n*Z) W (λj M=>by rw[Nat.add_assoc];exact bY _ (by omega)) (j - J.length) bE;rw[show of+n*Z+(j - J.length)=of+j by omega]at h3;rw[h3,e]
  ·exact mI hg (E6 bB I _ W).size
 ·have bH:(Builtin.firstCells i0.size n (.slice (some ⟨g,of,none⟩) n V)).run P W.drew=.ok J.toArray W.drew:=run_firstCells_some W.drew i0.size n ⟨g,of,none⟩ n V J (by rw[Y];exact cV) (λj u M=>by rw[aD];exact U j u M)
  have hr:=run_append_grow_src (P:=P) W t t o.type E i0 z hU hi cX (some ⟨g,of,none⟩) n V J bH (.slice (some ⟨g2,o2,none⟩) m c2) m I aK (by omega) (by omega) (growslice_fits (by omega) (by rw[cY];exact hb));simp only[ho,resolve,invoke,builtin,Sem.run_bind,Sem.run_pure,Result.andThen_ok,List.map_toArray,List.map_cons,List.map_nil,hs,hx,hr];refine bC _ _ (h W.heap.size 0 _ _ (λj u M=>?_) ?_ ((Below.refl B W).drew.alloc (by simpa using cF) _))
  ·have e1:=World.cell?_alloc_new W.drew (((J++I).toArray++Builtin.zeroCells z.cells (grownCap W (n+m) V E - (n+m)))) E j
   obtain⟨hlt,e⟩:=List.getElem?_eq_some_iff.1 M;rw[Nat.zero_add];refine e1.trans ?_;rw[Array.getElem?_append_left (by simpa using hlt),List.getElem?_toArray];exact M
  ·simp
theorem He {K:Value->Prop} {w:World} {B E M n:Nat} {v:Value} {O:List Value} (h:OwnK K w B E M v n O) (hn:0<n):∃g cap,v=.slice (some ⟨g,0,none⟩) n cap/\n<=cap/\cap<=9223372036854775807/\B<=g/\g<w.heap.size/\(∀i,w.frozen? ⟨g,i,none⟩=false)/\(∀(j:Nat) u,O[j]?=some u->w.cell? ⟨g,j,none⟩=some u)/\∀j,j<cap*M->(w.cell? ⟨g,j,none⟩).isSome=true:=by
 rcases h.1.2 with⟨_,e2⟩ |⟨g,cap,cs,J,hB,hg,U,I,V,_⟩
 ·omega
 ·have Y:=h.2 g (by rw[J];rfl)
  subst J;exact⟨g,cap,rfl,U,by simp only[maxLen]at I;omega,hB,Y.1,λi=>Blk.free_ hg i,λj u Z=>Aq h.1 Z,λj hj=>by rw[Blk.cell_ hg j,Array.getElem?_eq_getElem (by omega)];rfl⟩
theorem Nu {a:Option Addr} {n m c:Nat} (h:n=m):Ending.returned (.tuple #[.slice a n c,.int .i64 0])=Ending.returned (.tuple #[.slice a m c,.int .i64 0]):=by rw[h]
theorem D9 {w:World} {g o:Nat}:∀(l:List (Int×Int)),(∀(j:Nat) (u:Value),(cusps l)[j]?=some u->w.cell? ⟨g,o+j,none⟩=some u)↔CAt w g o l:=by
 intro l;constructor
 ·intro h j c O
  have I:=Hx l j c O;exact⟨h _ _ I.1,by rw[Nat.add_assoc];exact h _ _ I.2⟩
 ·intro h j u J
  have hlt:=(List.getElem?_eq_some_iff.1 J).1;rw[Ck]at hlt;have V:j / 2<l.length:=by omega
  obtain⟨c,O⟩:∃c,l[j / 2]?=some c:=⟨_,List.getElem?_eq_getElem V⟩
  have I:=h _ _ O;have M:=Hx l _ c O;rcases Nat.mod_two_eq_zero_or_one j with Y|Y
  ·have e:j / 2*2=j:=by omega
   rw[e]at I M;rw[M.1]at J;rw[<-J];exact I.1
  ·have e:j / 2*2+1=j:=by omega
   have U:o+j / 2*2+1=o+j:=by omega
   rw[e]at M;rw[U]at I;rw[M.2]at J;rw[<-J];exact I.2
theorem CAt.keep {w w':World} {g o:Nat} {l:List (Int×Int)} (h:CAt w g o l) (hg:g<w.heap.size) (I:Below w.heap.size w w'):CAt w' g o l:=λj c J=>⟨(I.cell (p:=⟨g,o+j*2,none⟩) hg).trans (h j c J).1,(I.cell (p:=⟨g,o+j*2+1,none⟩) hg).trans (h j c J).2⟩
theorem CAt.drop {w:World} {g o:Nat} {l:List (Int×Int)} (h:CAt w g o l) (d:Nat):CAt w g (o+d*2) (l.drop d):=λj c J=>by
 rw[List.getElem?_drop]at J;have I:=h _ _ J;rw[show o+(d+j)*2=o+d*2+j*2 by omega]at I;exact I
theorem Zi (p q p' q':Int) (w:World) (ha:Av p q=0) (hb:Av p' q'=0):
  Calls prog 65 #[.agg #[.int .i64 p,.int .i64 q],.agg #[.int .i64 p',.int .i64 q']] w λe w'=>(∃ch g o cap,e=.returned (.tuple #[.slice (some ⟨g,o,none⟩) ch.length cap,.int .i64 0])/\g<w'.heap.size/\CAt w' g o ch/\ChainOk (p,q) (p',q') ch)/\Below w.heap.size w w':=by
 have eP:=Kh (λW=>Vr p q W ha);have eV:=Kh (λW=>Vr p' q' W hb);have HJ:=Kh (λc hc h1 h2 he=>aU (a:=(p,q)) (b:=(p',q')) ha hb (c:=c) hc h1 h2 he);have ka:=(Nr (x:=(p,q)) ha).1;have kb:=(Nr (x:=(p',q')) hb).1;obtain⟨ra,cA⟩:∃r,Ci (p,q)=(1,0) :: r:=⟨_,rfl⟩
 obtain⟨rb,cB⟩:∃r,Ci (p',q')=(1,0) :: r:=⟨_,rfl⟩
 obtain⟨A,hA⟩:∃A,Ci (p,q)=A:=⟨_,rfl⟩
 obtain⟨B,hB⟩:∃B,Ci (p',q')=B:=⟨_,rfl⟩
 rw[hA]at eP HJ ka cA;rw[hB]at eV HJ kb cB;have nN:=Kh (show A[0]?=B[0]? by rw[cA,cB];rfl);obtain⟨I,bH⟩:∃n,A.length=n:=⟨_,rfl⟩
 obtain⟨nb,bY⟩:∃n,B.length=n:=⟨_,rfl⟩
 rw[bH]at ka HJ;rw[bY]at kb HJ;have cG:0<I:=by rw[<-bH,cA];simp
 have cT:0<nb:=by rw[<-bY,cB];simp
 have bC:=Kh bH;have Y:=Kh bY;have HK:=Kh (show I<=62/\nb<=62/\0<I/\0<nb from⟨ka,kb,cG,cT⟩);clear ha hb cA cB hA hB bH bY ka kb cG cT ra rb;go_enter func65,ntmps65
 go_wp2_with fail
 obtain⟨w0,nC,_,XB,bG⟩:=bx2 w #[.int .i64 p,.int .i64 q] 47 #[.int .i64 p',.int .i64 q'] 47;rw[nC];refine(eP.1 w0).mono ?_;rintro e w1 ⟨⟨v1,rfl,aN⟩,gF⟩;have gA:=XB.below_ gF XB.lt;have x0:=gA.at_ 0 rfl;have x1:=gA.at_ 1 rfl;obtain⟨g,cap,rfl,gX,mZ,mP,mQ,mN,mD,nB⟩:=He aN (by rw[bC.1];exact HK.1.2.2.1);rw[bC.1]at gX ⊢;have hN:=Kh ((D9 A (o:=0)).1 (by simpa using mD));have hO:=Kh mN;have hZ:=Kh nB;have HG:=Kh (show w.heap.size<=g from mH bG.size mP);have V:=Kh mQ;have hI:=Kh (bG.trans (gF.mono bG.size));have cY:=Kh (show I<=cap/\cap<=9223372036854775807 from⟨gX,mZ⟩);clear nC XB bG gF gA aN mN mD nB mP mQ gX mZ;go_wp2_with fail
 refine(eV.1 w1).mono ?_;rintro e w2 ⟨⟨v2,rfl,aX⟩,Z⟩;obtain⟨g2,J,rfl,gU,mX,mR,mS,_,mE,_⟩:=He aX (by rw[Y.1];exact HK.1.2.2.2);rw[Y.1]at gU ⊢;have nT:=Kh (show g<g2 from mI V.1 mR);have cV:=Kh ((D9 B (o:=0)).1 (by simpa using mE));have cX:=Kh (hN.1.keep V.1 Z);have hP:=Kh (show ∀i,w2.frozen? ⟨g,i,none⟩=false from λi=>(World.frozen?_of_block (a:=⟨g,i,none⟩) (Z.block g V.1)).trans (hO.1 i));have iL:=Kh (show ∀j,j<cap*2->(w2.cell? ⟨g,j,none⟩).isSome=true from λj hj=>by rw[Z.cell (p:=⟨g,j,none⟩) V.1];exact hZ.1 j hj);have hJ:=bt hI Z;have bB:=Kh (mI V.1 Z.size);have hQ:=Kh mS;have dC:=Kh (show nb<=J/\J<=9223372036854775807 from⟨gU,mX⟩);clear x0 x1 aX Z mE hN hO hZ hI V mR mS gU mX eP eV;go_wp2_with fail
 go_loopw [9] (λii wr=>∃c:Nat,ii=.int .i64 c/\Below w2.heap.size w2 wr/\Hd (c<=I/\c<=nb/\∀j,j<c->A[j]?=B[j]?)) (λii _=>I - (intOf ii).toNat)
 case atStart=>exact⟨0,rfl,Below.refl _ _,Kh ⟨by omega,by omega,λj hj=>absurd hj (Nat.not_lt_zero _)⟩⟩
 case round=>
  obtain⟨c,rfl,mB,HI⟩:=hrel;obtain⟨w3,rfl⟩:∃w3:World,w3=wr:=⟨_,rfl⟩
  have M:=Kh mB;clear mB;go_upto_region 8 with(fail)
  go_cut [43]from 26 to 44 (λoJ wx=>∃b:Bool,oJ=.bool b/\Below w2.heap.size w2 wx/\(b=true->c<I/\c<nb/\A[c]?=B[c]?)/\(b=false->0<c))
  case first=>
   by_cases hlt:c<I/\c<nb
   ·obtain⟨h1,h2⟩:=hlt
    obtain⟨⟨a1,a2⟩,aD⟩:∃x,A[c]?=some x:=⟨_,List.getElem?_eq_getElem (by have:=bC.1;omega)⟩
    obtain⟨⟨b1,b2⟩,aK⟩:∃x,B[c]?=some x:=⟨_,List.getElem?_eq_getElem (by have:=Y.1;omega)⟩
    obtain⟨d0,d1⟩:=cX.1 c _ aD;obtain⟨e0,e1⟩:=cV.1 c _ aK;dsimp only at d0 d1 e0 e1;rw[Nat.zero_add]at d0 d1 e0 e1;replace d0:=cell_next M.1 d0;replace d1:=cell_next M.1 d1;replace e0:=cell_next M.1 e0;replace e1:=cell_next M.1 e1;have pB:(c:Int)<(I:Int):=by omega
    have pC:(c:Int)<(nb:Int):=by omega
    have mY:(c:Int)<min (I:Int) (nb:Int):=by omega
    by_cases heq:a1=b1/\a2=b2
    ·obtain⟨rfl,rfl⟩:=heq
     have nR:=Kh (show A[c]?=B[c]? by rw[aD,aK]);clear aD aK;go_quiet (fail)
     go_wp2;go_meet
     exact⟨true,rfl,Aa M.1 _,λ_=>⟨h1,h2,nR.1⟩,λh=>by cases h⟩
    ·have hM:=Kh (show 0<c by
      rcases Nat.eq_zero_or_pos c with h|h
      ·exfalso
       subst h;have h9:=nN.1;rw[aD,aK]at h9;exact heq (by simpa using h9)
      ·exact h)
     clear aD aK;by_cases k1:a1=b1
     ·subst k1
      have k2:¬a2=b2:=λh=>heq ⟨rfl,h⟩
      have k3:(a2==b2)=false:=by rw[beq_eq_false_iff_ne];exact k2
      clear heq;go_quiet (fail)
      go_wp2;go_meet
      exact⟨false,rfl,Aa M.1 _,(λh=>by cases h),λ_=>hM.1⟩
     ·have k3:(a1==b1)=false:=by rw[beq_eq_false_iff_ne];exact k1
      clear heq;go_quiet (fail)
      go_wp2;go_meet
      exact⟨false,rfl,Aa M.1 _,(λh=>by cases h),λ_=>hM.1⟩
   ·have mY:¬((c:Int)<min (I:Int) (nb:Int)):=by omega
    have pD:decide ((c:Int)<min (I:Int) (nb:Int))=false:=decide_eq_false mY;refine K6 (λ_=>True) (λ_ _=>trivial) (λ_ hT=>?_);refine Al 0 ?_;refine Al 1 ?_;refine Al 2 ?_;refine Al 3 ?_;refine Al 4 ?_;refine Al 5 ?_;refine Al 6 ?_;refine Al 7 ?_;refine bT 8 ?_;refine bT 9 ?_;refine bT 10 ?_;refine bT 11 ?_;refine bT 12 ?_;refine bT 13 ?_;refine bT 14 ?_;refine bT 15 ?_;refine bT 16 ?_;refine K5 17 rfl (λK hK=>?_);go_simp
    refine hK.out _ _ ?_;clear hK K
    (try simp only[Act.put,Br,Bt,Bs])
    go_wp2;go_meet
    exact⟨false,rfl,M.1.drew,(λh=>by cases h),λ_=>by have:=HK.1;have:=HI.1;omega⟩
  case rest=>
   obtain⟨b,rfl,mC,gN,gL⟩:=hcut;obtain⟨w4,rfl⟩:∃w4:World,w4=wc:=⟨_,rfl⟩
   have O:=Kh mC;clear mC M;cases b with
   | true=>
    obtain⟨h1,h2,h3⟩:=gN rfl;have H3:=Kh h3;have oG:I<=62:=HK.1.1;clear h3 gN gL;go_wp2;go_roundw
    case rel=>exact⟨c+1,by go_num,O.1,Kh ⟨by omega,by omega,λj hj=>by
      rcases Nat.lt_or_ge j c with h|h
      ·exact HI.1.2.2 j h
      ·obtain rfl:j=c:=by omega
       exact H3.1⟩⟩
    case measure=>simp[intOf];omega
   | false=>
    have oC:=gL rfl;obtain⟨d,rfl⟩:∃d,c=d+1:=⟨c - 1,by omega⟩
    clear gN gL oC;have dY:=Kh (HJ.1 (d+1) (by omega) HI.1.1 HI.1.2.1 HI.1.2.2);have U:=Kh (show d+1<=I/\d+1<=nb from⟨HI.1.1,HI.1.2.1⟩);have e1:((d+1:Nat):Int) - 1=(d:Int):=by omega
    have e2:IntKind.i64.wrap (d:Int)=(d:Int):=IntWalk.i64_in _ (by have:=U.1;have:=HK.1;omega);have mM:¬(cap - d=0):=by have:=U.1;have:=cY.1;omega
    have oE:d<=I:=by have:=U.1;omega
    have oD:I<=cap:=cY.1.1;clear HI HJ;have gP:(A.drop d).length=I - d:=by rw[List.length_drop,bC.1]
    have mO:∀i,w4.frozen? ⟨g,i,none⟩=false:=λi=>(World.frozen?_of_block (a:=⟨g,i,none⟩) (O.1.block g bB.1)).trans (hP.1 i)
    have hY:=Kh (show Calls prog 113 #[.slice (some ⟨g,d*2,none⟩) (I - d) (cap - d)] w4 _ from gP▸Tu (A.drop d) g (d*2) (cap - d) w4 (by have:=HK.1;omega) (by have h:=(cX.1.keep bB.1 O.1).drop d;rwa [Nat.zero_add]at h) mO (by have:=U.1;omega));have hU:=Kh gP;clear gP mO;go_wp2_with fail
    refine hY.1.mono ?_;rintro e w5 ⟨⟨v5,rfl⟩,r1,r2,r3,r4,r5,r6,r7⟩;have hX:=Kh r1;have nU:=Kh r2
    have nV:=Kh (show ∀j,j<(cap - d)*2->(w5.cell? ⟨g,d*2+j,none⟩).isSome=true from λj hj=>by
     rw[r5,O.1.cell (p:=⟨g,d*2+j,none⟩) bB.1];exact iL.1 _ (by omega))
    have nP:=Kh (show CAt w5 g2 0 B from λj c hc=>by
     have h:=(cV.1.keep hQ.1 O.1) j c hc;have nA:g2≠g:=by have:=nT.1;omega
     exact⟨(World.cell?_of_block (a:=⟨g2,0+j*2,none⟩) (r7 g2 nA)).trans h.1,(World.cell?_of_block (a:=⟨g2,0+j*2+1,none⟩) (r7 g2 nA)).trans h.2⟩)
    have bA:=Kh (show Below w.heap.size w w5 from(hJ.1.trans (O.1.mono hJ.1.size)).trans (r6 _ HG.1));have dE:=Kh (show g<w5.heap.size by rw[r3];exact mI bB.1 O.1.size);clear r1 r2 r3 r4 r5 r6 r7 hY mM oE oD e1 e2 O hP iL cX cV;by_cases hm:nb=d+1
    ·have HF:=Kh (show CAt w5 g (d*2) ((A.drop d).reverse++B.drop (d+1))by
      have h0:B.drop (d+1)=[]:=List.drop_eq_nil_of_le (by rw[Y.1,hm];exact mG _);rw[h0,List.append_nil];exact hX.1)
     have gS:I - d<=cap - d:=by have:=cY.1;omega
     have cF:((A.drop d).reverse++B.drop (d+1)).length=I - d:=by
      rw[List.length_append,List.length_reverse,hU.1,List.length_drop,Y.1,hm];omega
     have oF:d+1<=J:=by have:=dC.1;omega
     have hV:=Kh cF;subst hm;clear cF;by_cases mM:J - (d+1)=0
     ·go_wp2_with (at_builtin;refine Xu rfl (.tmp 52) (.tmp 55) _ 47 rfl underlying128 Fb _ _ (I - d) (cap - d) _ gS rfl rfl ?_)
      (first|go_ret2|go_ret)
      exact⟨⟨(A.drop d).reverse++B.drop (d+1),g,d*2,cap - d,Nu hV.1.symm,dE.1,HF.1,dY.1⟩,bA.1⟩
     ·go_wp2_with (at_builtin;refine Xu rfl (.tmp 52) (.tmp 55) _ 47 rfl underlying128 Fb _ _ (I - d) (cap - d) _ gS rfl rfl ?_)
      (first|go_ret2|go_ret)
      exact⟨⟨(A.drop d).reverse++B.drop (d+1),g,d*2,cap - d,Nu hV.1.symm,dE.1,HF.1,dY.1⟩,bA.1⟩
    ·have oF:¬(J - (d+1)=0):=by have:=dC.1;have:=U.1;omega
     have gS:d+1<=nb:=by have:=U.1;omega
     have oO:nb<=J:=dC.1.1;have mV:(A.drop d).reverse.length=I - d:=by rw[List.length_reverse,hU.1]
     have mW:(B.drop (d+1)).length=nb - (d+1):=by rw[List.length_drop,Y.1]
     have hR:=Kh mV;have hS:=Kh mW;have hW:=Kh (show CAt w5 g2 ((d+1)*2) (B.drop (d+1))by have h:=nP.1.drop (d+1);rwa [Nat.zero_add]at h);have hL:=Kh (show I - d+(nb - (d+1))<=200 by have:=HK.1;omega);clear mV mW;go_wp2_with (at_builtin;refine Y9 rfl (.tmp 52) (.tmp 55) _ 47 rfl underlying128 Fb w.heap.size g (d*2) (I - d) (cap - d) g2 ((d+1)*2) (nb - (d+1)) (J - (d+1)) (cusps (A.drop d).reverse) (cusps (B.drop (d+1))) rfl rfl (by rw[Ck,hR.1]) ((D9 _).2 hX.1) nV.1 nU.1 (by rw[Ck,hS.1]) ((D9 _).2 hW.1) (λu hu=>(Fq _ u hu).2) (by have:=hL.1;omega) (by have:=hL.1;omega) HG.1 bA.1.size dE.1 ?_;intro g' o' c' w6 mL mT mA;have nQ:=Kh mL;have nS:=Kh mT;have nO:=Kh (bA.1.trans mA);clear mL mT mA)
     (first|go_ret2|go_ret)
     refine⟨⟨(A.drop d).reverse++B.drop (d+1),g',o',c',Nu (by rw[List.length_append,hR.1,hS.1]),nS.1,?_,dY.1⟩,nO.1⟩;refine(D9 _).1 ?_;unfold cusps;rw[List.flatMap_append];exact nQ.1
end
section
open Go.RowKit Eli Tryz
theorem Wd (V:Nat):∀U:Nat,0<U->∃K m,0<K/\K∣U/\Nat.gcd K V=1/\U∣K*V ^ m:=by
 intro U;induction U using Nat.strongRecOn with
 | _ U ih=>
  intro hU;by_cases hg:Nat.gcd U V=1
  ·exact⟨U,0,hU,Nat.dvd_refl U,hg,by simp⟩
  ·obtain⟨W,I⟩:=Nat.gcd_dvd_left U V
   have aD:0<Nat.gcd U V:=Nat.gcd_pos_of_pos_left V hU
   have J:0<W:=by
    rcases Nat.eq_zero_or_pos W with h|h
    ·rw[h,Nat.mul_zero]at I;omega
    ·exact h
   have hlt:W<U:=by
    have M:2*W<=Nat.gcd U V*W:=Nat.mul_le_mul_right W (by omega);omega
   obtain⟨K,m,O,M,Y,Z⟩:=ih W hlt J;refine⟨K,m+1,O,Nat.dvd_trans M ⟨_,by rw[Nat.mul_comm];exact I⟩,Y,?_⟩;rw[I,Nat.pow_succ,<-Nat.mul_assoc,Nat.mul_comm (K*V ^ m)];exact Nat.mul_dvd_mul (Nat.gcd_dvd_right U V) Z
theorem Sf {U V n:Nat} (hU:0<U) (hg:Nat.gcd (Nat.gcd U V) n=1):∃k,k<=U/\Nat.gcd (V+k*n) U=1:=by
 obtain⟨K,m,h1,h2,h3,h4⟩:=Wd V U hU;refine⟨K,Nat.le_of_dvd hU h2,?_⟩;obtain⟨q,hq⟩:∃q,Nat.gcd (V+K*n) U=q:=⟨_,rfl⟩
 have I:q∣V+K*n:=hq▸Nat.gcd_dvd_left ..;have J:q∣U:=hq▸Nat.gcd_dvd_right ..;rw[hq]
 have Y:Nat.gcd q K=1:=by
  have M:Nat.gcd q K∣K*n:=Nat.dvd_trans (Nat.gcd_dvd_right ..) (Nat.dvd_mul_right ..);have O:Nat.gcd q K∣V:=(Nat.dvd_add_left M).1 (Nat.dvd_trans (Nat.gcd_dvd_left ..) I);exact Nat.dvd_one.1 (h3▸Nat.dvd_gcd (Nat.gcd_dvd_right ..) O)
 have h:q∣V ^ m:=(Nat.Coprime.dvd_of_dvd_mul_left Y (Nat.dvd_trans J h4))
 have e3:Nat.gcd q V=1:=by
  have M:Nat.gcd q V∣K*n:=(Nat.dvd_add_right (Nat.gcd_dvd_right q V)).1 (Nat.dvd_trans (Nat.gcd_dvd_left ..) I);have O:Nat.gcd (Nat.gcd q V) K=1:=Nat.dvd_one.1 (Y▸Nat.dvd_gcd (Nat.dvd_trans (Nat.gcd_dvd_left ..) (Nat.gcd_dvd_left ..)) (Nat.gcd_dvd_right ..));have Z:Nat.gcd q V∣n:=Nat.Coprime.dvd_of_dvd_mul_left O M;exact Nat.dvd_one.1 (hg▸Nat.dvd_gcd (Nat.dvd_gcd (Nat.dvd_trans (Nat.gcd_dvd_left ..) J) (Nat.gcd_dvd_right ..)) Z)
 have e4:Nat.gcd q (V ^ m)=1:=Nat.Coprime.pow_right m e3;exact Nat.dvd_one.1 (e4▸Nat.dvd_gcd (Nat.dvd_refl q) h)
theorem Z2 (n p:Nat) (w:World) (h0:0<n) (hn:n<=120) (hp:p<(pts n (n*n)).length):
  Calls prog 156 #[.int .i64 n,.int .i64 p] w λe w'=>e=.returned (.tuple #[.agg #[.int .i64 (((pts n (n*n)).getD p 0 / n:Nat):Int),.int .i64 (((pts n (n*n)).getD p 0 % n:Nat):Int),.int .i64 1],.int .i64 0])/\Below w.heap.size w w':=by
 obtain⟨L,hL⟩:∃L,pts n (n*n)=L:=⟨_,rfl⟩
 have Y:=Kh (λW=>Mv n W h0 hn);rw[hL]at hp Y ⊢;have dE:L.length<=14400:=by rw[<-hL];exact mH (B6 n (n*n)) (Nat.mul_le_mul hn hn)
 obtain⟨a,ha⟩:∃a,L.getD p 0=a:=⟨_,rfl⟩
 have bE:L[p]?=some a:=by rw[<-ha,List.getD_eq_getElem?_getD,List.getElem?_eq_getElem hp];rfl
 rw[ha];obtain⟨u,hu⟩:∃u,a / n=u:=⟨_,rfl⟩
 obtain⟨v,hv⟩:∃v,a % n=v:=⟨_,rfl⟩
 rw[hu,hv];have eV:¬(p:Int)<0:=by omega
 have gA:¬(L.length:Int)<=(p:Int):=by omega
 have cA:=Kh bE;have aN:=Kh (And.intro hu hv);clear hL ha bE hu hv;go_enter func156,ntmps156
 go_wp2_with fail
 obtain⟨w0,bG,X0,bA⟩:=bx1 w #[.int .i64 0,.int .i64 0,.int .i64 0] 213;rw[bG];obtain⟨J,O⟩:∃x,w.heap.size=x:=⟨_,rfl⟩
 have V:=Kh (show w.heap.size<=J from Nat.le_of_eq O);have aX:=Kh (show Blk w0 J 213 #[.int .i64 0,.int .i64 0,.int .i64 0]from O▸X0);have aK:=Kh bA;try rw[O]
 refine(Y.1 w0).mono ?_;rintro e w1 ⟨⟨vl,rfl,bC⟩,Z⟩;obtain⟨g,cap,rfl,_,_,_,dX,_,bB,_⟩:=He bC (by omega);have M:∀i u,(N3 n a)[i]?=some u->i<3->w1.cell? ⟨g,p*3+i,none⟩=some u:=λi u h hi=>bB _ _ (by rw[Ea cA.1 hi];exact h)
 have l0:w1.cell? ⟨g,p*3,none⟩=some (.int .i64 (u:Int)):=by have h:=M 0 _ rfl (by decide);rw[aN.1.1]at h;exact h
 have l1:w1.cell? ⟨g,p*3+1,none⟩=some (.int .i64 (v:Int)):=by have h:=M 1 _ rfl (by decide);rw[aN.1.2]at h;exact h
 have l2:w1.cell? ⟨g,p*3+2,none⟩=some (.int .i64 1):=M 2 _ rfl (by decide);have I:=Kh (bk aX Z);have bH:=bt aK Z;clear bG X0 bA Z aX aK O bC bB M Y;have r0:=I.1.at_ 0 rfl;have r1:=I.1.at_ 1 rfl;have r2:=I.1.at_ 2 rfl;have f0:=I.1.free_ 0;have f1:=I.1.free_ 1;have f2:=I.1.free_ 2;have U:=Kh (Hy (w:=w1) (R:=J) (v0:=.int .i64 (u:Int)) (v1:=.int .i64 (v:Int)) (v2:=.int .i64 1) (by rw[r0];rfl) (by rw[r1];rfl) (by rw[r2];rfl));have bY:=Kh (show Below w.heap.size w (((w1.setCell ⟨J,0,none⟩ (.int .i64 (u:Int))).setCell ⟨J,1,none⟩ (.int .i64 (v:Int))).setCell ⟨J,2,none⟩ (.int .i64 1))from((bH.1.setCell (p:=⟨J,0,none⟩) V.1 _).setCell (p:=⟨J,1,none⟩) V.1 _).setCell (p:=⟨J,2,none⟩) V.1 _);have dY:J<w1.heap.size:=I.1.lt;go_wp2;have e0:=U.1.1;have e1:=U.1.2.1;have e2:=U.1.2.2;try simp only[Exit.inBlock,Exit.then]
 refine bodyPost_ret (by simp[results,results156,go_sem,e0,e1,e2];try rfl) rfl ?_;exact⟨rfl,bY.1⟩
structure LiftOf (n p:Nat) (A B C E:Int):Prop where
 det:A*E - B*C=1
 c:C % n=(((pts n (n*n)).getD p 0 / n:Nat):Int) % n
 d:E % n=(((pts n (n*n)).getD p 0 % n:Nat):Int) % n
 bA:-20000<=A/\A<=20000
 bB:-20000<=B/\B<=20000
 bC:-20000<=C/\C<=20000
 bE:-20000<=E/\E<=20000
theorem Jc {n a:Nat} (h:E4 n a=true):Nat.gcd (Nat.gcd (a / n) (a % n)) n=1:=by
 unfold E4 at h
 simpa using h
theorem Sx {n p:Nat} (M:0<n) (hp:p<(pts n (n*n)).length) (hu:(pts n (n*n)).getD p 0 / n=0):(pts n (n*n)).getD p 0 % n=1 % n:=by
 have U:=Bd hp;obtain⟨a,ha⟩:∃a,(pts n (n*n)).getD p 0=a:=⟨_,rfl⟩
 rw[ha]at U hu ⊢;have I:=Jc (Ig U).1;rw[hu,Nat.gcd_zero_left]at I;have O:=U;rw[B5 M _ (mG _),List.mem_filter]at O;simp only[Bool.and_eq_true]at O;have V:=Cl.1 O.2.2
 have J:a<n:=by
  rcases Nat.lt_or_ge a n with h|h
  ·exact h
  ·have:=Nat.div_pos h M;omega
 rw[Nat.mod_eq_of_lt J]at I ⊢;obtain⟨s,s1,s2,s3,s4⟩:=Kx n a M I;have h5:=V s s1 s2 (by simp[pun,s3])
 have h6:Az n s a=1 % n:=by
  have Y:=C6 M s a;have Z:=C7 n s a;rw[Nat.div_eq_of_lt J,Nat.mul_zero,Nat.zero_mod]at Y;rw[Nat.mod_eq_of_lt J,s4]at Z;have h7:=Nat.div_add_mod (Az n s a) n;rw[Y,Z,Nat.mul_zero,Nat.zero_add]at h7;exact h7.symm
 rw[h6]at h5;rcases Nat.lt_or_ge 1 n with h|h
 ·rw[Nat.mod_eq_of_lt h]at h5 ⊢
  rcases Nat.eq_zero_or_pos a with h8|h8
  ·rw[h8,Nat.gcd_zero_left]at I;omega
  ·omega
 ·obtain rfl:n=1:=by omega
  omega
theorem dO (n p:Nat) (w:World) (h0:0<n) (hn:n<=120) (hp:p<(pts n (n*n)).length):
  Calls prog 109 #[.int .i64 n,.int .i64 p] w λe w'=>(∃A B C E:Int,e=.returned (.tuple #[.agg #[.int .i64 A,.int .i64 B,.int .i64 C,.int .i64 E],.int .i64 0])/\LiftOf n p A B C E)/\Below w.heap.size w w':=by
 have cC:=Kh (λW=>Z2 n p W h0 hn hp);have dC:=Jc (Ig (Bd hp)).1;have hlt:=Gn (Bd hp);obtain⟨U,hU⟩:∃U,(pts n (n*n)).getD p 0 / n=U:=⟨_,rfl⟩
 obtain⟨V,hV⟩:∃V,(pts n (n*n)).getD p 0 % n=V:=⟨_,rfl⟩
 have nS:U<n:=by rw[<-hU];exact Nat.div_lt_of_lt_mul hlt
 have nT:V<n:=by rw[<-hV];exact Nat.mod_lt _ h0
 have cG:=Kh (show U=0->V % n=1 % n from λh=>by
  have M:=Sx h0 hp (hU.trans h);rw[hV]at M;rw[<-M,<-hV,Nat.mod_mod])
 have aX:=Kh (λ(A B C E:Int) (M:A*E - B*C=1) (h2:C % n=(U:Int) % n) (h3:E % n=(V:Int) % n) (b1:-20000<=A/\A<=20000) (b2:-20000<=B/\B<=20000) (b3:-20000<=C/\C<=20000) (b4:-20000<=E/\E<=20000)=>(show LiftOf n p A B C E from⟨M,by rw[hU];exact h2,by rw[hV];exact h3,b1,b2,b3,b4⟩));rw[hU,hV]at cC dC;clear hp hlt hU hV;go_enter func109,ntmps109
 go_wp2_with fail
 obtain⟨w0,hS,X0,hL⟩:=bx1 w #[.int .i64 0,.int .i64 0,.int .i64 0,.int .i64 0] 63;rw[hS];obtain⟨gr,bH⟩:∃x,w.heap.size=x:=⟨_,rfl⟩
 have J:=Kh (show w.heap.size<=gr from Nat.le_of_eq bH);have gY:=Kh (show Blk w0 gr 63 #[.int .i64 0,.int .i64 0,.int .i64 0,.int .i64 0]from bH▸X0);have eP:=Kh hL;try rw[bH]
 refine(cC.1 w0).mono ?_;rintro e w1 ⟨rfl,cT⟩;have hD:=Kh (bk gY cT);have eV:=bt eP cT;clear hS X0 hL cT gY eP bH cC;go_upto_region 4 with(fail)
 obtain⟨w2,hT,Y,cV⟩:=bx1 w1 #[.int .i64 U,.int .i64 V,.int .i64 1] 213;rw[hT];obtain⟨g6,hM⟩:∃x,w1.heap.size=x:=⟨_,rfl⟩
 rw[hM]at Y ⊢;have HY:=Kh Y;have I:=Kh (bk hD cV);have gA:=bt eV cV;clear hT Y cV hM hD eV;by_cases hU0:U=0
 ·subst hU0
  have y0:=HY.1.at_ 0 rfl;have r0:=I.1.at_ 0 rfl;have r1:=I.1.at_ 1 rfl;have r2:=I.1.at_ 2 rfl;have r3:=I.1.at_ 3 rfl;have f0:=I.1.free_ 0;have f1:=I.1.free_ 1;have f2:=I.1.free_ 2;have f3:=I.1.free_ 3;have hJ:=cG.1 rfl
  have mB:=Kh (aX.1 1 0 0 1 (by decide) rfl (by
   have M:((V % n:Nat):Int)=((1 % n:Nat):Int):=by rw[hJ]
   push_cast at M
   exact M.symm) (by decide) (by decide) (by decide) (by decide))
  clear hJ cG aX;go_wp2
  (try simp only[Exit.inBlock,Exit.then])
  exact bodyPost_ret (v:=.tuple #[.agg #[.int .i64 1,.int .i64 0,.int .i64 0,.int .i64 1],.int .i64 0]) (by rw[results_cell_tmp rfl];go_simp) rfl ⟨⟨1,0,0,1,rfl,mB.1⟩,((((gA.1.setCell J.1 _).setCell J.1 _).setCell J.1 _).setCell J.1 _)⟩
 ·have nR:((U:Int)==0)=false:=beq_eq_false_iff_ne.2 (by omega)
  obtain⟨K,nP,hI⟩:=Sf (n:=n) (show 0<U by omega) dC;have gS:=Kh hI;clear dC hI cG;have y0:=HY.1.at_ 0 rfl;have y1:=HY.1.at_ 1 rfl;go_upto_region 7 with(fail)
  clear y0 y1;go_loopw [8] (λv8 wr=>∃k:Nat,v8=.int .i64 ((V+k*n:Nat):Int)/\(∀j,j<k->Nat.gcd (V+j*n) U≠1)/\Below w2.heap.size w2 wr) (λv8 _=>V+K*n - (intOf v8).toNat)
  case atStart=>exact⟨0,by rw[Nat.zero_mul];rfl,λj hj=>absurd hj (Nat.not_lt_zero _),Below.refl _ _⟩
  case round=>
   obtain⟨k,rfl,cY,O⟩:=hrel;obtain⟨w3,rfl⟩:∃w3:World,w3=wr:=⟨_,rfl⟩
   have gU:=Kh cY
   have mQ:k<=K:=by
    rcases Nat.lt_or_ge K k with h|h
    ·exact absurd gS.1 (cY K h)
    ·exact h
   have nU:k*n<=120*120:=Nat.mul_le_mul (by omega) hn;have nF:k*n<=K*n:=Nat.mul_le_mul_right _ mQ;have cD:=Kh (bk HY O);have hE:=Kh (bk I O);have gF:=bt gA O;have cA:=Kh O;clear cY O;have Z:(V+(k+1)*n:Nat)=V+k*n+n:=by rw[Nat.succ_mul,Nat.add_assoc]
   obtain⟨d,hd⟩:∃d,V+k*n=d:=⟨_,rfl⟩
   rw[hd]at Z ⊢;have mO:d<=14520:=by omega
   have y0:=cD.1.at_ 0 rfl;have HD:=Kh hd;have cB:=Kh Z;by_cases hg:Nat.gcd d U=1
   ·have HG:=Kh (show((Int.gcd (d:Int) (U:Int):Nat):Int)=1 by rw[Int.gcd_natCast_natCast,hg];rfl)
    have gP:=Kh (show Int.gcd (d:Int) (U:Int)=1 by rw[Int.gcd_natCast_natCast];exact hg);clear hg hd Z;go_wp2_with fail
    refine(E7 (d:Int) (U:Int) w3 (by omega) (by omega) (by omega) (by omega)).mono ?_;rw[HG.1];rintro e w4 ⟨rfl,nd,aD⟩;have bE:Below w3.heap.size w3 w4:=by rw[aD];exact Aa (Below.refl _ _) nd
    have cF:=Kh (bk cD bE);have hG:=Kh (bk hE bE);have aN:=bt gF bE;clear aD bE y0 cD hE gF cA;have y0:=cF.1.at_ 0 rfl;go_wp2_with fail
    refine(Lo (d:Int) U w4 (by omega) (by omega) gP.1).mono ?_;rintro e w5 ⟨⟨A,rfl,nN,B,hB⟩,bG⟩;have Y5:=bk cF bG;have X5:=bk hG bG;have mA:=bt aN bG;clear bG cF hG aN y0;obtain⟨P,hP⟩:∃P:Nat,A*d=P:=⟨_,rfl⟩
    have nQ:P<=120*14520:=by rw[<-hP];exact Nat.mul_le_mul (by omega) mO
    have bB:(A:Int)*(d:Int)=(P:Int):=by rw[<-hP];push_cast;rfl
    have v1:IntKind.i64.wrap ((A:Int)*(d:Int))=(P:Int):=by rw[bB];exact IntWalk.i64_in _ (by omega)
    obtain⟨z,hz⟩:∃z:Int,(P:Int) - 1=z:=⟨_,rfl⟩
    have v2:IntKind.i64.wrap ((P:Int) - 1)=z:=by rw[hz];exact IntWalk.i64_in _ (by omega)
    have bY:z=U*B:=by rw[<-hz,<-bB];exact hB
    have v3:z.tdiv (U:Int)=B:=by rw[bY];exact Int.mul_tdiv_cancel_left B (by omega)
    have mM:-20000<=B/\B<=20000:=by
     have nO:B.natAbs<=14520:=by
      rcases Int.lt_or_le B 0 with h|h
      ·have M:(U:Int)*B<=1*B:=by
        have h2:=Int.mul_le_mul_of_nonpos_right (show(1:Int)<=U by omega) (Int.le_of_lt h);exact h2
       omega
      ·have h3:B*U=z:=by rw[bY,Int.mul_comm]
       have h4:B<=d:=by
        rcases Int.lt_or_le (d:Int) B with h5|h5
        ·exfalso
         have h6:(A:Int)*d<=U*d:=Int.mul_le_mul_of_nonneg_right (by omega) (by omega);have h7:(U:Int)*d<=U*B:=Int.mul_le_mul_of_nonneg_left (Int.le_of_lt h5) (by omega);omega
        ·exact h5
       omega
     omega
    have v4:IntKind.i64.wrap B=B:=IntWalk.i64_in _ (by omega);have v5:U≠0:=hU0
    have mC:=Kh (aX.1 A B U d (by rw[bB];have M:B*(U:Int)=z:=(by rw[bY,Int.mul_comm]);omega) rfl (by
     have M:=HD.1;rw[<-M]
     push_cast
     rw[Int.add_mul_emod_self_right]) (by omega) mM (by omega) (by omega))
    have q0:=Y5.at_ 0 rfl;have r0:=X5.at_ 0 rfl;have r1:=X5.at_ 1 rfl;have r2:=X5.at_ 2 rfl;have r3:=X5.at_ 3 rfl;have f0:=X5.free_ 0;have f1:=X5.free_ 1;have f2:=X5.free_ 2;have f3:=X5.free_ 3;clear hP bB hz bY hB Y5 X5 aX gP HG gU cB HD;go_upto_region 10 with(fail)
    refine iW [13] (λW=>W.cell? ⟨g6,0,none⟩=some (.int .i64 (U:Int))/\W.cell? ⟨gr,0,none⟩=some (.int .i64 0)/\W.frozen? ⟨gr,0,none⟩=false/\W.cell? ⟨gr,1,none⟩=some (.int .i64 0)/\W.frozen? ⟨gr,1,none⟩=false/\W.cell? ⟨gr,2,none⟩=some (.int .i64 0)/\W.frozen? ⟨gr,2,none⟩=false/\W.cell? ⟨gr,3,none⟩=some (.int .i64 0)/\W.frozen? ⟨gr,3,none⟩=false) (λW hb=>⟨Au hb q0,Au hb r0,Ac hb (by rw[r0];rfl) (f0),Au hb r1,Ac hb (by rw[r1];rfl) (f1),Au hb r2,Ac hb (by rw[r2];rfl) (f2),Au hb r3,Ac hb (by rw[r3];rfl) (f3)⟩) (λnH hHeld0=>?_);refine De 0 ?_;refine De 1 ?_;refine De 2 ?_;refine De 3 ?_;refine De 4 ?_;refine De 5 ?_;refine De 6 ?_;refine De 7 ?_;refine De 8 ?_;refine De 9 ?_;refine De 10 ?_;refine De 11 ?_;refine iX 12 rfl (λK hK=>?_);go_simp
    refine hK.out _ _ ?_;clear hK K
    (try simp only[Act.put,Br,Bt,Bs])
    refine jA 13 ?_;refine iT ?_;go_wp2
    (try simp only[Exit.inBlock,Exit.then])
    exact bodyPost_ret (v:=.tuple #[.agg #[.int .i64 A,.int .i64 B,.int .i64 U,.int .i64 d],.int .i64 0]) (by rw[results_cell_tmp rfl];go_simp) rfl ⟨⟨A,B,U,d,rfl,mC.1⟩,Aa ((((mA.1.setCell J.1 _).setCell J.1 _).setCell J.1 _).setCell J.1 _) 1⟩
   ·have HG:=Kh (show((Int.gcd (d:Int) (U:Int):Nat):Int)=(Nat.gcd d U:Nat)by rw[Int.gcd_natCast_natCast])
    have mP:(((Nat.gcd d U:Nat):Int) != 1)=true:=by rw[bne_iff_ne];omega
    have hO:k<K:=by
     rcases Nat.lt_or_ge k K with h|h
     ·exact h
     ·exfalso
      have M:k=K:=by omega
      rw[M]at hd;exact hg (by rw[<-hd];exact gS.1)
    have gX:=Kh (show ∀j,j<k+1->Nat.gcd (V+j*n) U≠1 from λj hj=>by
     rcases Nat.lt_or_ge j k with h|h
     ·exact gU.1 j h
     ·obtain rfl:j=k:=by omega
      rw[HD.1];exact hg)
    have hQ:(k+1)*n<=K*n:=Nat.mul_le_mul_right _ hO;have wd:IntKind.i64.wrap ((d:Int)+(n:Int))=((d+n:Nat):Int):=by rw[show(d:Int)+(n:Int)=((d+n:Nat):Int)by push_cast;rfl];exact IntWalk.i64_in _ (by omega)
    obtain⟨g,hN⟩:∃g,Nat.gcd d U=g:=⟨_,rfl⟩
    rw[hN]at HG mP;obtain⟨d2,cX⟩:∃d2,d+n=d2:=⟨_,rfl⟩
    rw[cX]at wd;have gL:=Kh cX;clear hg hd hN cX;go_wp2_with fail
    refine(E7 (d:Int) (U:Int) w3 (by omega) (by omega) (by omega) (by omega)).mono ?_;rw[HG.1];rintro e w4 ⟨rfl,nd,aD⟩;have aN:=Kh (show Below w2.heap.size w2 w4 from cA.1.trans (by rw[aD];exact Aa ((Below.refl _ _).mono cA.1.size) nd));clear aD y0;go_wp2;go_roundw
    case rel=>exact⟨k+1,by rw[cB.1,gL.1],gX.1,aN.1⟩
    case measure=>have M:=gL.1;have h2:=cB.1;have h3:=HD.1;simp[intOf];rw[Nat.succ_mul]at hQ;omega
theorem gD (x:Int) (w:World):Calls prog 223 #[.int .i64 x] w λe w'=>e=.returned (.bool false)/\w'=w:=by
 have I:(x != x)=false:=by simp
 go_enter func223,ntmps223
 go_wp2;go_ret;exact⟨rfl,rfl⟩
def Qt (x y:Int):Int:=if x<y then -1 else if y<x then 1 else 0
theorem dW (x y:Int) (w:World):Calls prog 212 #[.int .i64 x,.int .i64 y] w λe w'=>e=.returned (.int .i64 (Qt x y))/\w'=w:=by
 have I:=Kh (λx w=>gD x w);unfold Qt;go_enter func212,ntmps212
 go_wp2_with fail
 refine(I.1 x w).mono ?_;rintro e M ⟨rfl,rfl⟩;go_wp2_with fail
 refine(I.1 y M).mono ?_;rintro e U ⟨rfl,rfl⟩;rcases Int.lt_trichotomy x y with h|h|h
 ·go_wp2
  go_ret;exact⟨rfl,rfl⟩
 ·have J:¬x<y:=by omega
  have O:¬y<x:=by omega
  go_wp2;go_ret;exact⟨rfl,rfl⟩
 ·have J:¬x<y:=by omega
  go_wp2;go_ret;exact⟨rfl,rfl⟩
def iV (a b:Int):Int:=if a=0 then b else a
theorem gG (a b:Int) (g cap:Nat) (w:World) (O:w.cell? ⟨g,0,none⟩=some (.int .i64 a)) (U:w.cell? ⟨g,1,none⟩=some (.int .i64 b)):
  Calls prog 211 #[.slice (some ⟨g,0,none⟩) 2 cap] w λe w'=>e=.returned (.int .i64 (iV a b))/\w'=w:=by
 unfold iV;go_enter func211,ntmps211
 go_wp2;go_loopw [8] (λi wr=>wr=w/\((i=.int .i64 0)∨(i=.int .i64 1/\a=0)∨(i=.int .i64 2/\a=0/\b=0))) (λi _=>2 - (intOf i).toNat)
 case atStart=>exact⟨rfl,.inl rfl⟩
 case round=>
  obtain⟨rfl,hr⟩:=hrel;rcases hr with rfl |⟨rfl,I⟩ |⟨rfl,I,J⟩
  ·by_cases I:a=0
   ·subst I
    go_wp2;go_roundw
    case rel=>exact⟨by trivial,.inr (.inl ⟨by trivial,by trivial⟩)⟩
    case measure=>simp[intOf]
   ·have J:(a != 0)=true:=by simpa using I
    have M:=Kh I;clear I;go_wp2
    all_goals first
     |(exfalso;exact M.1 (by assumption))
     |(go_ret;exact⟨rfl,rfl⟩)
  ·subst I
   by_cases hb0:b=0
   ·subst hb0
    go_wp2;go_roundw
    case rel=>exact⟨by trivial,.inr (.inr ⟨by trivial,by trivial,by trivial⟩)⟩
    case measure=>simp[intOf]
   ·have J:(b != 0)=true:=by simpa using hb0
    clear hb0;go_wp2;go_ret;exact⟨rfl,rfl⟩
  ·subst I
   subst J;go_wp2;go_ret;exact⟨rfl,rfl⟩
def M3 (u v u' v':Int):Int:=iV (Qt u u') (Qt v v')
theorem R3 (u v t J M t':Int) (w:World):Calls prog 194 #[.agg #[.int .i64 u,.int .i64 v,.int .i64 t],.agg #[.int .i64 J,.int .i64 M,.int .i64 t']] w λe w'=>e=.returned (.int .i64 (M3 u v J M))/\Below w.heap.size w w':=by
 have HC:=Kh (λx y w=>dW x y w);unfold M3;go_enter func194,ntmps194
 go_upto_region 1 with(fail)
 obtain⟨w1,Z,X,Y,U⟩:=bx2 w #[.int .i64 u,.int .i64 v,.int .i64 t] 213 #[.int .i64 J,.int .i64 M,.int .i64 t'] 213;rw[Z];obtain⟨g0,I⟩:∃x,w.heap.size=x:=⟨_,rfl⟩
 obtain⟨g1,V⟩:∃x,w.heap.size+1=x:=⟨_,rfl⟩
 have HB:=Kh U;rw[V]at Y ⊢;rw[I]at X;try rw[I]
 have r0:=X.at_ 0 rfl;have r1:=X.at_ 1 rfl;have q0:=Y.at_ 0 rfl;have q1:=Y.at_ 1 rfl;have HG:=Kh I;clear Z X Y U V I;refine K6 (λW=>W.cell? ⟨g0,0,none⟩=some (.int .i64 u)/\W.cell? ⟨g0,1,none⟩=some (.int .i64 v)/\W.cell? ⟨g1,0,none⟩=some (.int .i64 J)/\W.cell? ⟨g1,1,none⟩=some (.int .i64 M)) (λW h=>⟨Au h r0,Au h r1,Au h q0,Au h q1⟩) (λO hHeld0=>?_);refine Al 0 ?_;refine Al 1 ?_;refine Al 2 ?_;refine Al 3 ?_;refine Al 5 ?_;refine Al 6 ?_;refine Al 7 ?_;refine Al 8 ?_;refine F9 4 rfl (λK hK=>?_);focus(go_simp;refine(HC.1 u J _).mono ?_;rintro e wz ⟨rfl,rfl⟩;(first|with_reducible refine hK.out _ _ ?_ (λhHeld1=>?_) |(go_wp2_with fail;with_reducible refine hK.out _ _ ?_ (λhHeld1=>?_))))
 focus((try dsimp only);with_reducible assumption)
 focus(clear hK K;(try simp only[Act.put,Br,Bt,Bs]))
 refine F9 9 rfl (λK hK=>?_);focus(go_simp;refine(HC.1 v M _).mono ?_;rintro e wz ⟨rfl,rfl⟩;(first|with_reducible refine hK.out _ _ ?_ (λhHeld2=>?_) |(go_wp2_with fail;with_reducible refine hK.out _ _ ?_ (λhHeld2=>?_))))
 focus((try dsimp only);with_reducible assumption)
 focus(clear hK K;(try simp only[Act.put,Br,Bt,Bs]))
 refine F9 10 rfl (λK hK=>?_);focus(go_simp;refine hK.out _ _ ?_ (λhHeld3=>?_))
 focus((try dsimp only);exact O.1 _ (Below.refl _ w1 |>.drew.alloc (mG _) _))
 focus(clear hK K;(try simp only[Act.put,Br,Bt,Bs]))
 refine F9 11 rfl (λK hK=>?_);focus(go_simp;refine(gG (Qt u J) (Qt v M) w1.heap.size 2 _ (by simp) (by simp)).mono ?_;rintro e wz ⟨rfl,rfl⟩;(first|with_reducible refine hK.out _ _ ?_ (λhHeld4=>?_) |(go_wp2_with fail;with_reducible refine hK.out _ _ ?_ (λhHeld4=>?_))))
 focus((try dsimp only);exact O.1 _ (Below.refl _ w1 |>.drew.alloc (mG _) _))
 focus(clear hK K;(try simp only[Act.put,Br,Bt,Bs]))
 refine K5 12 rfl (λK hK=>?_);go_simp
 refine hK.out _ _ ?_;clear hK K
 (try simp only[Act.put,Br,Bt,Bs])
 go_wp2;go_ret;exact⟨rfl,HB.1.trans ((((Below.refl _ w1).drew.alloc (mG _) _)).mono HB.1.size)⟩
theorem fE {n i j:Nat} (M:0<n) (I:i<j) (J:j<(pts n (n*n)).length):(pts n (n*n)).getD i 0<(pts n (n*n)).getD j 0:=by
 have O:(pts n (n*n)).Pairwise (· < ·):=by
  rw[B5 M _ (mG _)];exact List.Pairwise.filter _ List.pairwise_lt_range
 have h:=List.pairwise_iff_getElem.1 O i j (by omega) J I;rw[List.getD_eq_getElem?_getD,List.getD_eq_getElem?_getD,List.getElem?_eq_getElem J,List.getElem?_eq_getElem (show i<_ by omega)];exact h
theorem R9 {n a b:Nat} (V:0<n):M3 ((a / n:Nat):Int) ((a % n:Nat):Int) ((b / n:Nat):Int) ((b % n:Nat):Int)<0↔a<b:=by
 have Z:=Nat.div_add_mod a n;have h2:=Nat.div_add_mod b n;have h3:=Nat.mod_lt a V;have h4:=Nat.mod_lt b V;obtain⟨u,Y⟩:∃u,a / n=u:=⟨_,rfl⟩
 obtain⟨v,U⟩:∃v,a % n=v:=⟨_,rfl⟩
 obtain⟨J,M⟩:∃u,b / n=u:=⟨_,rfl⟩
 obtain⟨v',I⟩:∃v,b % n=v:=⟨_,rfl⟩
 rw[Y,U]at Z;rw[U]at h3;rw[M,I]at h2;rw[I]at h4;rw[Y,U,M,I];unfold M3 iV Qt;rcases Nat.lt_trichotomy u J with h|h|h
 ·have O:n*(u+1)<=n*J:=Nat.mul_le_mul_left n h
  rw[Nat.mul_add,Nat.mul_one]at O;rw[if_pos (show(u:Int)<J by omega),if_neg (by decide)];constructor
  ·intro _;omega
  ·intro _;decide
 ·subst h
  rw[if_neg (show ¬(u:Int)<u by omega),if_neg (show ¬(u:Int)<u by omega),if_pos rfl];split
  ·constructor
   ·intro _;omega
   ·intro _;decide
  ·split
   ·constructor
    ·intro h;omega
    ·intro _;omega
   ·constructor
    ·intro h;omega
    ·intro _;omega
 ·have O:n*(J+1)<=n*u:=Nat.mul_le_mul_left n h
  rw[Nat.mul_add,Nat.mul_one]at O;rw[if_neg (show ¬(u:Int)<J by omega),if_pos (show(J:Int)<u by omega),if_neg (by decide)];constructor
  ·intro h;omega
  ·intro _;omega
theorem V7 (n p a u v g cap:Nat) (L:List Nat) (w:World) (h0:0<n) (_hn:n<=120) (dC:L.length<=14400) (bB:∀i j,i<j->j<L.length->L.getD i 0<L.getD j 0) (hp:p<L.length) (ha:L.getD p 0=a) (hu:a / n=u) (hv:a % n=v)
  (aD:∀i x u,L[i]?=some x->∀k,(N3 n x)[k]?=some u->k<3->w.cell? ⟨g,i*3+k,none⟩=some u):
  Calls prog 193 #[.slice (some ⟨g,0,none⟩) L.length cap,.agg #[.int .i64 (u:Int),.int .i64 (v:Int),.int .i64 1],.func (.func 194) #[] #[]] w λe w'=>(∃b,e=.returned (.tuple #[.int .i64 p,.bool b]))/\Below w.heap.size w w':=by
 have HC:=Kh (λu v t u' v' t' w=>R3 u v t u' v' t' w);obtain⟨N,hN⟩:∃N,L.length=N:=⟨_,rfl⟩
 have hO:=Kh (show L[p]?=some a by rw[<-ha,List.getD_eq_getElem?_getD,List.getElem?_eq_getElem hp];rfl)
 have bH:=Kh (λ(h:Nat) (hh:h<N)=>(show ∃b x y:Nat,L[h]?=some b/\b / n=x/\b % n=y/\(M3 x y u v<0↔h<p)from by
  have Z:h<L.length:=by omega
  refine⟨L[h],_,_,List.getElem?_eq_getElem Z,rfl,rfl,?_⟩;have h2:=R9 (a:=L[h]) (b:=a) h0;rw[hu,hv]at h2;have h3:L.getD h 0=L[h]:=by rw[List.getD_eq_getElem?_getD,List.getElem?_eq_getElem Z];rfl
  rw[h2];constructor
  ·intro h4
   rcases Nat.lt_or_ge h p with h5|h5
   ·exact h5
   ·rcases Nat.lt_or_ge p h with h6|h6
    ·have h7:=bB p h h6 Z
     omega
    ·obtain rfl:h=p:=by omega
     omega
  ·intro h4
   have h7:=bB h p h4 hp;omega))
 have bY:=Kh (λ(h b x y:Nat) (W:World) (I:Below w.heap.size w W) (Z:L[h]?=some b) (h2:b / n=x) (h3:b % n=y)=>(show W.cell? ⟨g,h*3,none⟩=some (.int .i64 (x:Int))/\W.cell? ⟨g,h*3+1,none⟩=some (.int .i64 (y:Int))/\W.cell? ⟨g,h*3+2,none⟩=some (.int .i64 1)from by
  subst h2 h3;exact⟨Au I (aD h b _ Z 0 rfl (by decide)),Au I (aD h b _ Z 1 rfl (by decide)),Au I (aD h b _ Z 2 rfl (by decide))⟩))
 have hP:=Kh (And.intro hu hv);rw[hN]at dC hp ⊢;clear bB aD ha hN hu hv;go_enter func193,ntmps193
 go_wp2_with fail
 obtain⟨w1,bC,X,cC⟩:=bx1 w #[.int .i64 (u:Int),.int .i64 (v:Int),.int .i64 1] 213;rw[bC];obtain⟨gb,aK⟩:∃x,w.heap.size=x:=⟨_,rfl⟩
 rw[aK]at X;try rw[aK]
 have HX:=Kh X;have cX:=Kh cC;have hL:=Kh aK;clear bC X cC aK;go_loopw [9,10] (λvi vj wr=>∃i j:Nat,vi=.int .i64 i/\vj=.int .i64 j/\i<=p/\p<=j/\j<=N/\Below w1.heap.size w1 wr) (λvi vj _=>(intOf vj).toNat - (intOf vi).toNat)
 case atStart=>exact⟨0,N,rfl,rfl,Nat.zero_le _,Nat.le_of_lt hp,mG _,Below.refl _ _⟩
 case round=>
  obtain⟨i,j,rfl,rfl,hi,hj,dX,I⟩:=hrel;have bA:=Kh (bk HX I);have V:=bt cX I;have Y:=Kh I;clear I;have r0:=bA.1.at_ 0 rfl;have r1:=bA.1.at_ 1 rfl;have r2:=bA.1.at_ 2 rfl;by_cases hlt:i<j
  ·obtain⟨h,hh⟩:∃h,(i+j) / 2=h:=⟨_,rfl⟩
   have hU:i<=h:=by omega
   have hV:h<j:=by omega
   have hY:(i:Int)<j:=by omega
   have bC:IntKind.i64.wrap ((i:Int)+j)=((i+j:Nat):Int):=by rw[<-Int.natCast_add];exact IntWalk.i64_in _ (by omega)
   obtain⟨b,x,y,O,hx,hy,J⟩:=bH.1 h (by omega);obtain⟨l0,l1,l2⟩:=bY.1 h b x y wr V.1 O hx hy;have hT:(h:Int)<(N:Int):=by omega
   have cA:=Kh J;have HH:=Kh hh;clear O hx hy J hh;have cY:=Kh (show((i:Int)+j) / 2=(h:Int)by have:=HH.1;omega);go_upto_region 5 with(fail)
   rw[cY.1];obtain⟨z,hz⟩:∃z,M3 x y u v=z:=⟨_,rfl⟩
   have aN:=Kh (λW=>(by rw[<-hz];exact HC.1 x y 1 u v 1 W:Calls prog 194 #[.agg #[.int .i64 (x:Int),.int .i64 (y:Int),.int .i64 1],.agg #[.int .i64 (u:Int),.int .i64 (v:Int),.int .i64 1]] W λe w'=>e=.returned (.int .i64 z)/\Below W.heap.size W w'));have cB:=Kh (show z<0↔h<p by rw[<-hz];exact cA.1);clear hz cA HC;refine K6 (λW=>W.cell? ⟨g,h*3,none⟩=some (.int .i64 (x:Int))/\W.cell? ⟨g,h*3+1,none⟩=some (.int .i64 (y:Int))/\W.cell? ⟨g,h*3+2,none⟩=some (.int .i64 1)/\W.cell? ⟨gb,0,none⟩=some (.int .i64 (u:Int))/\W.cell? ⟨gb,1,none⟩=some (.int .i64 (v:Int))/\W.cell? ⟨gb,2,none⟩=some (.int .i64 1)) (λW I=>⟨Au I l0,Au I l1,Au I l2,Au I r0,Au I r1,Au I r2⟩) (λaX hHeld0=>?_);refine Al 0 ?_;refine Al 1 ?_;refine Al 2 ?_;refine Al 3 ?_;refine Al 4 ?_;refine Al 5 ?_;refine F9 6 rfl (λK hK=>?_);focus(go_simp;refine(aN.1 _).mono ?_;rintro e wz ⟨rfl,U⟩;have M:=Kh ((Below.refl _ wr).drew.trans U);clear U;(first|with_reducible refine hK.out _ _ ?_ (λhHeld1=>?_) |(go_wp2_with fail;with_reducible refine hK.out _ _ ?_ (λhHeld1=>?_))))
   focus((try dsimp only);exact aX.1 _ M.1)
   focus(clear hK K;(try simp only[Act.put,Br,Bt,Bs]))
   refine K5 7 rfl (λK hK=>?_);go_simp
   refine hK.out _ _ ?_;clear hK K
   (try simp only[Act.put,Br,Bt,Bs])
   by_cases hhp:h<p
   ·have eV:z<0:=cB.1.2 hhp
    go_wp2;go_roundw
    case rel=>exact⟨h+1,j,by go_num,rfl,hhp,hj,dX,Y.1.trans (M.1.mono Y.1.size)⟩
    case measure=>simp[intOf];omega
   ·have eV:¬z<0:=λZ=>hhp (cB.1.1 Z)
    go_wp2;go_roundw
    case rel=>exact⟨i,h,rfl,rfl,hi,by omega,by omega,Y.1.trans (M.1.mono Y.1.size)⟩
    case measure=>simp[intOf];omega
  ·obtain rfl:i=p:=by omega
   obtain rfl:i=j:=by omega
   obtain⟨b,x,y,O,hx,hy,J⟩:=bH.1 i (by omega);obtain⟨l0,l1,l2⟩:=bY.1 i b x y wr V.1 O hx hy;obtain⟨z,hz⟩:∃z,M3 x y u v=z:=⟨_,rfl⟩
   have aN:=Kh (λW=>(by rw[<-hz];exact HC.1 x y 1 u v 1 W:Calls prog 194 #[.agg #[.int .i64 (x:Int),.int .i64 (y:Int),.int .i64 1],.agg #[.int .i64 (u:Int),.int .i64 (v:Int),.int .i64 1]] W λe w'=>e=.returned (.int .i64 z)/\Below W.heap.size W w'));have hX:(i:Int)<(N:Int):=by omega
   clear O hx hy J hz HC;go_upto_region 8 with(fail)
   refine K6 (λW=>W.cell? ⟨g,i*3,none⟩=some (.int .i64 (x:Int))/\W.cell? ⟨g,i*3+1,none⟩=some (.int .i64 (y:Int))/\W.cell? ⟨g,i*3+2,none⟩=some (.int .i64 1)/\W.cell? ⟨gb,0,none⟩=some (.int .i64 (u:Int))/\W.cell? ⟨gb,1,none⟩=some (.int .i64 (v:Int))/\W.cell? ⟨gb,2,none⟩=some (.int .i64 1)) (λW I=>⟨Au I l0,Au I l1,Au I l2,Au I r0,Au I r1,Au I r2⟩) (λaX hHeld0=>?_);refine Al 0 ?_;refine Al 1 ?_;refine Al 2 ?_;refine Al 3 ?_;refine Al 4 ?_;refine Al 5 ?_;refine Al 6 ?_;refine Al 7 ?_;refine Al 8 ?_;refine Al 9 ?_;refine Al 10 ?_;refine F9 11 rfl (λK hK=>?_);focus(go_simp;refine(aN.1 _).mono ?_;rintro e wz ⟨rfl,U⟩;have M:=Kh ((Below.refl _ wr).drew.trans U);clear U;(first|with_reducible refine hK.out _ _ ?_ (λhHeld1=>?_) |(go_wp2_with fail;with_reducible refine hK.out _ _ ?_ (λhHeld1=>?_))))
   focus((try dsimp only);exact aX.1 _ M.1)
   focus(clear hK K;(try simp only[Act.put,Br,Bt,Bs]))
   refine Al 12 ?_;refine Al 13 ?_;refine Al 14 ?_;refine K5 15 rfl (λK hK=>?_);go_simp
   refine hK.out _ _ ?_;clear hK K
   (try simp only[Act.put,Br,Bt,Bs])
   go_wp2;go_ret2
   exact⟨⟨_,rfl⟩,V.1.trans (M.1.mono V.1.size)⟩
end
end Go.Proofs.YtenlbhlllgppmaaGreatDoor
