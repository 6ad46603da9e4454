/- contfrac in general: Path, slices.Reverse of cusps. -/
import Derived.Test.YtenlbhlllgppmaaGreatDoorQ28
set_option linter.unusedSimpArgs false
set_option maxRecDepth 100000
set_option maxHeartbeats 8000000
namespace Go.Proofs.YtenlbhlllgppmaaGreatDoor
section
open Go.RowKit Tryz
theorem OwnI.at_ {l:List Int} {w:World} {B:Nat} {v:Value} (h:OwnI l w B v) (H:0<l.length):∃g cap,v=.slice (some ⟨g,0,none⟩) l.length cap/\g<w.heap.size/\∀(i:Nat) (n:Int),l[i]?=some n->w.cell? ⟨g,i,none⟩=some (.int .i64 n):=by
 obtain⟨g,cap,e,_,_,_,hlt,_,I⟩:=Xo h H;exact⟨g,cap,e,hlt,λi n J=>I i _ (by rw[List.getElem?_map,J];rfl)⟩
theorem Fq:∀(l:List (Int×Int)),∀u∈cusps l,NotU32 u/\u.oneCell'=true
 | [],u,h=>by cases h
 | x :: l,u,h=>by
  unfold cusps at h;rw[List.flatMap_cons]at h;rcases List.mem_append.1 h with h|h
  ·simp at h
   rcases h with rfl|rfl <;> exact⟨int_i64 _,rfl⟩
  ·exact Fq l u h
theorem Vr (p q:Int) (w:World) (h:Av p q=0):
  Calls prog 112 #[.agg #[.int .i64 p,.int .i64 q]] w λe w'=>(∃v,e=.returned (.tuple #[v,.int .i64 0])/\OwnC (Ci (p,q)) w' w.heap.size v)/\Below w.heap.size w w':=by
 by_cases hq0:q=0
 ·subst hq0
  obtain rfl:p=1:=(I3 (x:=(p,0)) h).2.2.2 rfl;have e:Ci ((1:Int),(0:Int))=[(1,0)]:=by unfold Ci;rw[if_pos rfl]
  rw[e];exact Vs w
 ·obtain⟨k1,k2,k3,k4,k5⟩:=Wb (x:=(p,q)) h hq0
  dsimp only at k1 k2 k3;have ep:Ci (p,q)=[(1,0)]++F4 (0,1) (1,0) (Fp p q):=by unfold Ci;rw[if_neg hq0];rfl
  rw[ep];have aD:=Kh (λW=>Vl p q W h hq0);have U:=Kh (λg cap W hg hc=>La (Fp p q) g cap W k1.2 (by omega) hg hc k2 (λc hc=>(k3 c hc).1));have V:=Gh (Fp p q) (0,1) (1,0);obtain⟨L,hL⟩:∃L,Fp p q=L:=⟨_,rfl⟩
  obtain⟨C,hC⟩:∃C,F4 (0,1) (1,0) L=C:=⟨_,rfl⟩
  rw[hL]at k1 aD U V ⊢;rw[hC]at U V ⊢;have HK:=Kh (show 0<L.length/\L.length<=61/\C.length=L.length from⟨k1.2,k1.1,V⟩);clear k1 k2 k3 k4 k5 hL hC V ep h hq0;go_enter func112,ntmps112
  go_wp2_with fail
  obtain⟨w2,bE,_,XB,aJ⟩:=bx2 w #[.int .i64 p,.int .i64 q] 47 #[.int .i64 1,.int .i64 0] 47;rw[bE];refine(aD.1 w2).mono ?_;rintro e w3 ⟨⟨v,rfl,Z⟩,aK⟩;obtain⟨g,cap,rfl,hlt,I⟩:=Z.at_ HK.1.1;have HC:=Kh (U.1 g cap w3 hlt I);have HO:=Kh (Sq (B:=w.heap.size) (XB.below_ aK XB.lt) (by omega));have HB:=Kh (aJ.trans (aK.mono aJ.size));clear bE XB aJ aK Z I hlt;go_wp2_with fail
  refine HC.1.mono ?_;rintro e w4 ⟨⟨v4,rfl,J⟩,aL⟩;obtain⟨g4,bA,rfl,_,_,_,_,_,H⟩:=Xo J (by have:=HK.1;omega);have cA:=Kh (show ∀(j:Nat) u,(cusps C)[j]?=some u->w4.cell? ⟨g4,j,none⟩=some u from H);have aX:=Kh (HO.1.keep aL);have aT:=bt HB aL;have bC:=aT.1.size;clear J H aL HO HB HC U aD;go_wp2_with (at_builtin;refine K3 NotU32 rfl (.tmp 27) (.tmp 28) _ 47 rfl underlying128 Fb rfl (by decide) w.heap.size 1 C.length g4 bA _ [.int .i64 1,.int .i64 0] (cusps C) rfl aX.1 rfl (Ck C) cA.1 (λu hu=>(Fq C u hu).2) (by have:=HK.1;omega) (by have:=HK.1;omega) (by have:=HK.1;omega) bC (λu hu=>(Fq C u hu).1) Sk ?_;intro v5 w5 O Y bB;have cB:=Kh O;have bY:=Kh (Aw aT.1 aX.1.1 Y (kT _) bC);clear O Y bB)
  (first|go_ret2|go_ret)
  have h5:OwnC ((1,0) :: C) w5 w.heap.size v5:=by
   unfold OwnC;rw[List.length_cons,Nat.add_comm];exact cB.1
  exact⟨⟨v5,rfl,h5⟩,bY.1⟩
def CAt (w:World) (g o:Nat) (l:List (Int×Int)):Prop:=∀(j:Nat) (c:Int×Int),l[j]?=some c->w.cell? ⟨g,o+j*2,none⟩=some (.int .i64 c.1)/\w.cell? ⟨g,o+j*2+1,none⟩=some (.int .i64 c.2)
def rv (l:List (Int×Int)) (i j:Nat):Option (Int×Int):=if j<i∨l.length<=i+j then l[l.length - 1 - j]? else l[j]?
theorem Kq {w:World} {g a:Nat} {u:Value} (h:(w.cell? ⟨g,a,none⟩).isSome=true):(w.setCell ⟨g,a,none⟩ u).cell? ⟨g,a,none⟩=some u:=World.cell?_setCell_same' _ _ _ h
theorem Co {w:World} {g a b:Nat} {u:Value} (h:a≠b):(w.setCell ⟨g,a,none⟩ u).cell? ⟨g,b,none⟩=w.cell? ⟨g,b,none⟩:=World.cell?_setCell_other _ _ _ _ (by simp[h])
theorem Hj {w:World} {g a b:Nat} {u:Value} (H:(w.cell? ⟨g,a,none⟩).isSome=true):((w.setCell ⟨g,a,none⟩ u).cell? ⟨g,b,none⟩).isSome=(w.cell? ⟨g,b,none⟩).isSome:=by
 by_cases h:a=b
 ·subst h;rw[Kq H,H];rfl
 ·rw[Co h]
theorem Tu (l:List (Int×Int)) (g o cap:Nat) (w:World) (hl:l.length<=1000) (h:CAt w g o l) (hf:∀i,w.frozen? ⟨g,i,none⟩=false) (h0:0<l.length):
  Calls prog 113 #[.slice (some ⟨g,o,none⟩) l.length cap] w λe w'=>(∃v,e=.returned v)/\CAt w' g o l.reverse/\(∀i,w'.frozen? ⟨g,i,none⟩=false)/\w'.heap.size=w.heap.size/\(∀i,i<o∨o+l.length*2<=i->w'.cell? ⟨g,i,none⟩=w.cell? ⟨g,i,none⟩)/\(∀i,(w'.cell? ⟨g,i,none⟩).isSome=(w.cell? ⟨g,i,none⟩).isSome)/\(∀B,B<=g->Below B w w')/\∀b,b≠g->w'.heap[b]?=w.heap[b]?:=by
 obtain⟨N,hN⟩:∃N,l.length=N:=⟨_,rfl⟩
 have HN:=Kh hN;have HL:=Kh hl;rw[hN]at hl h0;rw[hN];have HA:=Kh h;have HF:=Kh hf;have lB:IntKind.i64.wrap ((N:Int) - 1)=(N:Int) - 1:=IntWalk.i64_in _ (by omega);clear hN h hf;go_enter func113,ntmps113
 go_wp2_with fail
 go_loopw [2,3] (λvi vj wr=>∃(i:Nat) (j:Int),vi=.int .i64 i/\vj=.int .i64 j/\j=(N:Int) - 1 - i/\Hd (2*i<=N+1/\(∀(k:Nat) (c:Int×Int),k<N->rv l i k=some c->wr.cell? ⟨g,o+k*2,none⟩=some (.int .i64 c.1)/\wr.cell? ⟨g,o+k*2+1,none⟩=some (.int .i64 c.2))/\(∀i,wr.frozen? ⟨g,i,none⟩=false)/\wr.heap.size=w.heap.size/\(∀i,i<o∨o+N*2<=i->wr.cell? ⟨g,i,none⟩=w.cell? ⟨g,i,none⟩)/\(∀i,(wr.cell? ⟨g,i,none⟩).isSome=(w.cell? ⟨g,i,none⟩).isSome)/\(∀B,B<=g->Below B w wr)/\∀b,b≠g->wr.heap[b]?=w.heap[b]?)) (λ_ j _=>(intOf j).toNat)
 case atStart=>
  refine⟨0,(N:Int) - 1,rfl,rfl,by omega,Kh ⟨by omega,λk c hk Z=>?_,HF.1,rfl,λ_ _=>rfl,λ_=>rfl,λB _=>Below.refl B w,λ_ _=>rfl⟩⟩;have e:rv l 0 k=l[k]?:=by unfold rv;rw[if_neg (by have:=HN.1;omega)]
  rw[e]at Z;exact HA.1 k c Z
 case round=>
  obtain⟨i,j,rfl,rfl,hj,V⟩:=hrel;obtain⟨Y,rfl⟩:∃Y:World,Y=wr:=⟨_,rfl⟩
  by_cases hlt:(i:Int)<j
  ·obtain⟨m,rfl⟩:∃m:Nat,j=(m:Int):=⟨j.toNat,by omega⟩
   have aL:N=i+m+1:=by omega
   have kZ:i<m:=by omega
   have gL:i<N:=by omega
   have gP:m<N:=by omega
   have kY:(i:Int)<(N:Int):=by omega
   have lA:(m:Int)<(N:Int):=by omega
   have lI:IntKind.i64.wrap ((m:Int) - 1)=(m:Int) - 1:=IntWalk.i64_in _ (by omega);obtain⟨⟨p1,q1⟩,aT⟩:∃c,l[i]?=some c:=⟨_,List.getElem?_eq_getElem (by have:=HN.1;omega)⟩
   obtain⟨⟨p2,q2⟩,aU⟩:∃c,l[m]?=some c:=⟨_,List.getElem?_eq_getElem (by have:=HN.1;omega)⟩
   have cT:=Kh aT;have cX:=Kh aU;obtain⟨x0,x1⟩:=V.1.2.1 i (p1,q1) gL (by unfold rv;rw[if_neg (by have:=HN.1;omega)];exact aT);obtain⟨y0,y1⟩:=V.1.2.1 m (p2,q2) gP (by unfold rv;rw[if_neg (by have:=HN.1;omega)];exact aU);dsimp only at x0 x1 y0 y1;have f0:=V.1.2.2.1 (o+i*2);have f1:=V.1.2.2.1 (o+i*2+1);have f2:=V.1.2.2.1 (o+m*2);have f3:=V.1.2.2.1 (o+m*2+1);have dE:=Kh aL;clear aT aU hj aL;go_upto_region 3 with(fail)
   go_region
   have s0:(Y.cell? ⟨g,o+i*2,none⟩).isSome=true:=by rw[x0];rfl
   have s1:(Y.cell? ⟨g,o+i*2+1,none⟩).isSome=true:=by rw[x1];rfl
   have s2:(Y.cell? ⟨g,o+m*2,none⟩).isSome=true:=by rw[y0];rfl
   have s3:(Y.cell? ⟨g,o+m*2+1,none⟩).isSome=true:=by rw[y1];rfl
   obtain⟨wa,U⟩:∃x,Y.setCell ⟨g,o+i*2,none⟩ (.int .i64 p2)=x:=⟨_,rfl⟩
   obtain⟨wb,O⟩:∃x,wa.setCell ⟨g,o+i*2+1,none⟩ (.int .i64 q2)=x:=⟨_,rfl⟩
   obtain⟨wc,I⟩:∃x,wb.setCell ⟨g,o+m*2,none⟩ (.int .i64 p1)=x:=⟨_,rfl⟩
   obtain⟨J,H⟩:∃x,wc.setCell ⟨g,o+m*2+1,none⟩ (.int .i64 q1)=x:=⟨_,rfl⟩
   have aJ:∀b,(J.cell? ⟨g,b,none⟩).isSome=(Y.cell? ⟨g,b,none⟩).isSome/\(wc.cell? ⟨g,b,none⟩).isSome=(Y.cell? ⟨g,b,none⟩).isSome/\(wb.cell? ⟨g,b,none⟩).isSome=(Y.cell? ⟨g,b,none⟩).isSome/\(wa.cell? ⟨g,b,none⟩).isSome=(Y.cell? ⟨g,b,none⟩).isSome:=by
    have e1:∀b,(wa.cell? ⟨g,b,none⟩).isSome=(Y.cell? ⟨g,b,none⟩).isSome:=λb=>U▸Hj s0
    have e2:∀b,(wb.cell? ⟨g,b,none⟩).isSome=(Y.cell? ⟨g,b,none⟩).isSome:=λb=>O▸(Hj ((e1 _).trans s1)).trans (e1 b)
    have e3:∀b,(wc.cell? ⟨g,b,none⟩).isSome=(Y.cell? ⟨g,b,none⟩).isSome:=λb=>I▸(Hj ((e2 _).trans s2)).trans (e2 b)
    have e4:∀b,(J.cell? ⟨g,b,none⟩).isSome=(Y.cell? ⟨g,b,none⟩).isSome:=λb=>H▸(Hj ((e3 _).trans s3)).trans (e3 b)
    exact λb=>⟨e4 b,e3 b,e2 b,e1 b⟩
   have aD:∀b,b≠o+i*2->b≠o+i*2+1->b≠o+m*2->b≠o+m*2+1->J.cell? ⟨g,b,none⟩=Y.cell? ⟨g,b,none⟩:=λb n0 n1 n2 n3=>by
    rw[<-H,Co n3.symm,<-I,Co n2.symm,<-O,Co n1.symm,<-U,Co n0.symm]
   have aX:J.cell? ⟨g,o+i*2,none⟩=some (.int .i64 p2):=by rw[<-H,Co (by omega),<-I,Co (by omega),<-O,Co (by omega),<-U,Kq s0]
   have bA:J.cell? ⟨g,o+i*2+1,none⟩=some (.int .i64 q2):=by rw[<-H,Co (by omega),<-I,Co (by omega),<-O,Kq ((aJ _).2.2.2.trans s1)]
   have bE:J.cell? ⟨g,o+m*2,none⟩=some (.int .i64 p1):=by rw[<-H,Co (by omega),<-I,Kq ((aJ _).2.2.1.trans s2)]
   have bY:J.cell? ⟨g,o+m*2+1,none⟩=some (.int .i64 q1):=by rw[<-H,Kq ((aJ _).2.1.trans s3)]
   have aL:=dE.1;have gN:=HN.1
   have HZ:=Kh (show 2*(i+1)<=N+1/\(∀(k:Nat) (c:Int×Int),k<N->rv l (i+1) k=some c->J.drew.cell? ⟨g,o+k*2,none⟩=some (.int .i64 c.1)/\J.drew.cell? ⟨g,o+k*2+1,none⟩=some (.int .i64 c.2))/\(∀i,J.drew.frozen? ⟨g,i,none⟩=false)/\J.drew.heap.size=w.heap.size/\(∀i,i<o∨o+N*2<=i->J.drew.cell? ⟨g,i,none⟩=w.cell? ⟨g,i,none⟩)/\(∀i,(J.drew.cell? ⟨g,i,none⟩).isSome=(w.cell? ⟨g,i,none⟩).isSome)/\(∀B,B<=g->Below B w J.drew)/\∀b,b≠g->J.drew.heap[b]?=w.heap[b]? from by
    refine⟨by omega,λk c hk Z=>?_,λb=>?_,?_,λb hb=>?_,λb=>(aJ b).1.trans (V.1.2.2.2.2.2.1 b),λB hB=>?_,λb hb=>?_⟩
    ·show J.cell? ⟨g,o+k*2,none⟩=_/\J.cell? ⟨g,o+k*2+1,none⟩=_
     by_cases k1:k=i
     ·subst k1
      have e:rv l (k+1) k=l[m]?:=by unfold rv;rw[if_pos (by omega)];congr 1;omega
      rw[e,cX.1]at Z;obtain rfl:(p2,q2)=c:=by simpa using Z
      exact⟨aX,bA⟩
     ·by_cases k2:k=m
      ·subst k2
       have e:rv l (i+1) k=l[i]?:=by unfold rv;rw[if_pos (by omega)];congr 1;omega
       rw[e,cT.1]at Z;obtain rfl:(p1,q1)=c:=by simpa using Z
       exact⟨bE,bY⟩
      ·have e:rv l (i+1) k=rv l i k:=by
        unfold rv;by_cases k3:k<i∨l.length<=i+k
        ·rw[if_pos k3,if_pos (by omega)]
        ·rw[if_neg k3,if_neg (by omega)]
       rw[e]at Z;have h9:=V.1.2.1 k c hk Z;rw[aD _ (by omega) (by omega) (by omega) (by omega),aD _ (by omega) (by omega) (by omega) (by omega)];exact h9
    ·show J.frozen? ⟨g,b,none⟩=false
     rw[<-H,<-I,<-O,<-U];simp only[World.frozen?_setCell];exact V.1.2.2.1 b
    ·show J.heap.size=_
     rw[<-H,<-I,<-O,<-U];simp;exact V.1.2.2.2.1
    ·show J.cell? ⟨g,b,none⟩=_
     rw[aD _ (by omega) (by omega) (by omega) (by omega)];exact V.1.2.2.2.2.1 b hb
    ·have h9:=V.1.2.2.2.2.2.2.1 B hB
     rw[<-H,<-I,<-O,<-U];exact((((h9.setCell (p:=⟨g,o+i*2,none⟩) hB _).setCell (p:=⟨g,o+i*2+1,none⟩) hB _).setCell (p:=⟨g,o+m*2,none⟩) hB _).setCell (p:=⟨g,o+m*2+1,none⟩) hB _).drew
    ·show J.heap[b]?=_
     rw[<-H,<-I,<-O,<-U];exact(Below.heap_setCell _ ⟨g,o+m*2+1,none⟩ _ b hb).trans ((Below.heap_setCell _ ⟨g,o+m*2,none⟩ _ b hb).trans ((Below.heap_setCell _ ⟨g,o+i*2+1,none⟩ _ b hb).trans ((Below.heap_setCell _ ⟨g,o+i*2,none⟩ _ b hb).trans (V.1.2.2.2.2.2.2.2 b hb)))))
   have bB:(m:Int) - 1=(N:Int) - 1 - ((i+1:Nat):Int):=by omega
   have dC:=Kh bB;rw[U,O,I,H];clear U O I H aJ aD aX bA bE bY s0 s1 s2 s3 x0 x1 y0 y1 f0 f1 f2 f3 V aL gN bB;generalize J.drew=we at HZ ⊢;go_wp2;go_roundw
   case rel=>exact⟨i+1,(m:Int) - 1,by go_num,rfl,dC.1,HZ⟩
   case measure=>simp[intOf];omega
  ·have HZ:=Kh (show CAt Y g o l.reverse/\_ from⟨λk c Z=>by
     have hk:k<N:=by have:=(List.getElem?_eq_some_iff.1 Z).1;rw[List.length_reverse,HN.1]at this;exact this
     refine V.1.2.1 k c hk ?_;rw[List.getElem?_reverse (by rw[HN.1];exact hk)]at Z;have h1:=V.1.1;unfold rv;by_cases h2:k<i∨l.length<=i+k
     ·rw[if_pos h2];exact Z
     ·rw[if_neg h2]
      have h3:l.length - 1 - k=k:=by have:=HN.1;omega
      rw[h3]at Z;exact Z,V.1.2.2⟩)
   clear V hj;go_wp2;go_end0;exact⟨⟨_,rfl⟩,HZ.1⟩
theorem E6 {B g:Nat} (hB:B<=g):∀(H:List Value) (o:Nat) (w:World),Below B w (w.setCells g o H)
 | [],_,w=>Below.refl B w
 | v :: H,o,w=>by
  have I:Below B w (w.setCell ⟨g,o,none⟩ v):=(Below.refl B w).setCell (p:=⟨g,o,none⟩) hB v;exact I.trans (E6 hB H (o+1) _)
theorem Y9 {P:Program} {W:World} {bY:Array Oper} {rest:List Oper} {o:Oper} {a:Act} {Q:Exit->Act->World->Prop} (cD:o.guard=none) (s x:Operand) (t E:TypeId)
  (ho:o.op=.call { callee:=.builtin .append,args:=#[s,x],argTypes:=#[t,t] }) {z:Value} {Z O:Nat} (hU:P.underlying t=some (.slice E))
  (aK:(P.info? E).map (λi=>(i.zero,i.size,i.bytes))=some (some z,Z,O)) (B g of n V g2 o2 m c2:Nat) (I H:List Value)
  (hs:a.eval s=.slice (some ⟨g,of,none⟩) n V) (hx:a.eval x=.slice (some ⟨g2,o2,none⟩) m c2) (cG:I.length=n*Z) (U:∀(j:Nat) (u:Value),I[j]?=some u->W.cell? ⟨g,of+j,none⟩=some u)
  (bC:∀j,j<V*Z->(W.cell? ⟨g,of+j,none⟩).isSome=true) (hf:∀i,W.frozen? ⟨g,i,none⟩=false) (hn:H.length=m*Z) (bA:∀(j:Nat) (u:Value),H[j]?=some u->W.cell? ⟨g2,o2+j,none⟩=some u) (h1:∀u∈H,u.oneCell'=true)
  (hb:(n+m)*O<=140737488355328) (hm:n+m<=9223372036854775807) (aT:B<=g) (cC:B<=W.heap.size) (hg:g<W.heap.size)
  (h:∀g' o' c' w',(∀(j:Nat) (u:Value),(I++H)[j]?=some u->w'.cell? ⟨g',o'+j,none⟩=some u)->g'<w'.heap.size->Below B W w'->wpList P bY Q rest (a.put o.dst (.slice (some ⟨g',o',none⟩) (n+m) c')) w'):
  wpList P bY Q (o :: rest) a W:=by
 obtain⟨i0,hi,cT,Y,cX⟩:=info_parts aK
 have aD:∀(b k j:Nat),(⟨b,k,none⟩:Addr).add j=⟨b,k+j,none⟩:=λb k j=>by
  unfold Addr.add;split
  ·rename_i h0;rw[h0,Nat.add_zero]
  ·simp
 have aJ:Src P i0.size t (.slice (some ⟨g2,o2,none⟩) m c2) m H W:=Src.ofSlice W hU ⟨g2,o2,none⟩ m c2 H (by rw[Y];exact hn) (λj u J=>by rw[aD];exact bA j u J) h1;refine wpList_plain cD λK' aU=>?_
 unfold Oper.wp execOp;by_cases hroom:n+m<=V
 ·have cA:n*Z+H.length<=V*Z:=by rw[hn,<-Nat.add_mul];exact Nat.mul_le_mul_right _ hroom
  have hr:=run_append_room_src (P:=P) W t t o.type E i0 hU hi g of n V (.slice (some ⟨g2,o2,none⟩) m c2) m H aJ hroom (λj J=>by rw[Y,Nat.add_assoc];exact bC _ (by omega)) (λj _=>hf _);rw[Y]at hr;simp only[ho,resolve,invoke,builtin,Sem.run_bind,Sem.run_pure,Result.andThen_ok,List.map_toArray,List.map_cons,List.map_nil,hs,hx,hr];refine aU _ _ (h g of V _ (λj u J=>?_) ?_ (E6 aT H _ W))
  ·rcases Nat.lt_or_ge j I.length with hlt|cF
   ·rw[List.getElem?_append_left hlt]at J
    rw[World.cell?_setCells_out g H (of+n*Z) W ⟨g,of+j,none⟩ (λ_ _=>.inl (by dsimp only;omega))];exact U j u J
   ·rw[List.getElem?_append_right cF]at J
    obtain⟨aX,e⟩:=List.getElem?_eq_some_iff.1 J;have h3:=World.cell?_setCells_in g H (of+n*Z) W (λj J=>by rw[Nat.add_assoc];exact bC _ (by omega)) (j - I.length) aX;rw[show of+n*Z+(j - I.length)=of+j by omega]at h3;rw[h3,e]
  ·exact kV hg (E6 aT H _ W).size
 ·have bB:(Builtin.firstCells i0.size n (.slice (some ⟨g,of,none⟩) n V)).run P W.drew=.ok I.toArray W.drew:=run_firstCells_some W.drew i0.size n ⟨g,of,none⟩ n V I (by rw[Y];exact cG) (λj u J=>by rw[aD];exact U j u J)
  have hr:=run_append_grow_src (P:=P) W t t o.type E i0 z hU hi cT (some ⟨g,of,none⟩) n V I bB (.slice (some ⟨g2,o2,none⟩) m c2) m H aJ (by omega) (by omega) (growslice_fits (by omega) (by rw[cX];exact hb));simp only[ho,resolve,invoke,builtin,Sem.run_bind,Sem.run_pure,Result.andThen_ok,List.map_toArray,List.map_cons,List.map_nil,hs,hx,hr];refine aU _ _ (h W.heap.size 0 _ _ (λj u J=>?_) ?_ ((Below.refl B W).drew.alloc (by simpa using cC) _))
  ·have e1:=World.cell?_alloc_new W.drew (((I++H).toArray++Builtin.zeroCells z.cells (grownCap W (n+m) V E - (n+m)))) E j
   obtain⟨hlt,e⟩:=List.getElem?_eq_some_iff.1 J;rw[Nat.zero_add];refine e1.trans ?_;rw[Array.getElem?_append_left (by simpa using hlt),List.getElem?_toArray];exact J
  ·simp
theorem He {K:Value->Prop} {w:World} {B E J n:Nat} {v:Value} {O:List Value} (h:OwnK K w B E J v n O) (hn:0<n):∃g cap,v=.slice (some ⟨g,0,none⟩) n cap/\n<=cap/\cap<=9223372036854775807/\B<=g/\g<w.heap.size/\(∀i,w.frozen? ⟨g,i,none⟩=false)/\(∀(j:Nat) u,O[j]?=some u->w.cell? ⟨g,j,none⟩=some u)/\∀j,j<cap*J->(w.cell? ⟨g,j,none⟩).isSome=true:=by
 rcases h.1.2 with⟨_,e2⟩ |⟨g,cap,cs,I,hB,hg,U,H,V,_⟩
 ·omega
 ·have Y:=h.2 g (by rw[I];rfl)
  subst I;exact⟨g,cap,rfl,U,by simp only[maxLen]at H;omega,hB,Y.1,λi=>Blk.free_ hg i,λj u Z=>Aq h.1 Z,λj hj=>by rw[Blk.cell_ hg j,Array.getElem?_eq_getElem (by omega)];rfl⟩
theorem Nu {a:Option Addr} {n m c:Nat} (h:n=m):Ending.returned (.tuple #[.slice a n c,.int .i64 0])=Ending.returned (.tuple #[.slice a m c,.int .i64 0]):=by rw[h]
theorem D9 {w:World} {g o:Nat}:∀(l:List (Int×Int)),(∀(j:Nat) (u:Value),(cusps l)[j]?=some u->w.cell? ⟨g,o+j,none⟩=some u)↔CAt w g o l:=by
 intro l;constructor
 ·intro h j c O
  have H:=Hx l j c O;exact⟨h _ _ H.1,by rw[Nat.add_assoc];exact h _ _ H.2⟩
 ·intro h j u I
  have hlt:=(List.getElem?_eq_some_iff.1 I).1;rw[Ck]at hlt;have V:j / 2<l.length:=by omega
  obtain⟨c,O⟩:∃c,l[j / 2]?=some c:=⟨_,List.getElem?_eq_getElem V⟩
  have H:=h _ _ O;have J:=Hx l _ c O;rcases Nat.mod_two_eq_zero_or_one j with Y|Y
  ·have e:j / 2*2=j:=by omega
   rw[e]at H J;rw[J.1]at I;rw[<-I];exact H.1
  ·have e:j / 2*2+1=j:=by omega
   have U:o+j / 2*2+1=o+j:=by omega
   rw[e]at J;rw[U]at H;rw[J.2]at I;rw[<-I];exact H.2
theorem CAt.keep {w w':World} {g o:Nat} {l:List (Int×Int)} (h:CAt w g o l) (hg:g<w.heap.size) (H:Below w.heap.size w w'):CAt w' g o l:=λj c I=>⟨(H.cell (p:=⟨g,o+j*2,none⟩) hg).trans (h j c I).1,(H.cell (p:=⟨g,o+j*2+1,none⟩) hg).trans (h j c I).2⟩
theorem CAt.drop {w:World} {g o:Nat} {l:List (Int×Int)} (h:CAt w g o l) (d:Nat):CAt w g (o+d*2) (l.drop d):=λj c I=>by
 rw[List.getElem?_drop]at I;have H:=h _ _ I;rw[show o+(d+j)*2=o+d*2+j*2 by omega]at H;exact H
theorem Zi (p q p' q':Int) (w:World) (ha:Av p q=0) (hb:Av p' q'=0):
  Calls prog 65 #[.agg #[.int .i64 p,.int .i64 q],.agg #[.int .i64 p',.int .i64 q']] w λe w'=>(∃ch g o cap,e=.returned (.tuple #[.slice (some ⟨g,o,none⟩) ch.length cap,.int .i64 0])/\g<w'.heap.size/\CAt w' g o ch/\ChainOk (p,q) (p',q') ch)/\Below w.heap.size w w':=by
 have gA:=Kh (λW=>Vr p q W ha);have gF:=Kh (λW=>Vr p' q' W hb);have HJ:=Kh (λc hc h1 h2 he=>Q0 (a:=(p,q)) (b:=(p',q')) ha hb (c:=c) hc h1 h2 he);have ka:=(Nr (x:=(p,q)) ha).1;have kb:=(Nr (x:=(p',q')) hb).1;obtain⟨ra,bE⟩:∃r,Ci (p,q)=(1,0) :: r:=⟨_,rfl⟩
 obtain⟨rb,bY⟩:∃r,Ci (p',q')=(1,0) :: r:=⟨_,rfl⟩
 obtain⟨A,hA⟩:∃A,Ci (p,q)=A:=⟨_,rfl⟩
 obtain⟨B,hB⟩:∃B,Ci (p',q')=B:=⟨_,rfl⟩
 rw[hA]at gA HJ ka bE;rw[hB]at gF HJ kb bY;have mJ:=Kh (show A[0]?=B[0]? by rw[bE,bY];rfl);obtain⟨H,bB⟩:∃n,A.length=n:=⟨_,rfl⟩
 obtain⟨nb,bC⟩:∃n,B.length=n:=⟨_,rfl⟩
 rw[bB]at ka HJ;rw[bC]at kb HJ;have cD:0<H:=by rw[<-bB,bE];simp
 have cF:0<nb:=by rw[<-bC,bY];simp
 have aU:=Kh bB;have Y:=Kh bC;have HK:=Kh (show H<=62/\nb<=62/\0<H/\0<nb from⟨ka,kb,cD,cF⟩);clear ha hb bE bY hA hB bB bC ka kb cD cF ra rb;go_enter func65,ntmps65
 go_wp2_with fail
 obtain⟨w0,lY,_,XB,bA⟩:=bx2 w #[.int .i64 p,.int .i64 q] 47 #[.int .i64 p',.int .i64 q'] 47;rw[lY];refine(gA.1 w0).mono ?_;rintro e w1 ⟨⟨v1,rfl,aK⟩,gN⟩;have gL:=XB.below_ gN XB.lt;have x0:=gL.at_ 0 rfl;have x1:=gL.at_ 1 rfl;obtain⟨g,cap,rfl,hG,lV,lL,lM,lJ,lF,lX⟩:=He aK (by rw[aU.1];exact HK.1.2.2.1);rw[aU.1]at hG ⊢;have hR:=Kh ((D9 A (o:=0)).1 (by simpa using lF));have hS:=Kh lJ;have lA:=Kh lX;have HG:=Kh (show w.heap.size<=g from kU bA.size lL);have V:=Kh lM;have hN:=Kh (bA.trans (gN.mono bA.size));have cX:=Kh (show H<=cap/\cap<=9223372036854775807 from⟨hG,lV⟩);clear lY XB bA gN gL aK lJ lF lX lL lM hG lV;go_wp2_with fail
 refine(gF.1 w1).mono ?_;rintro e w2 ⟨⟨v2,rfl,aL⟩,Z⟩;obtain⟨g2,I,rfl,hE,lT,lN,lO,_,lG,_⟩:=He aL (by rw[Y.1];exact HK.1.2.2.2);rw[Y.1]at hE ⊢;have mP:=Kh (show g<g2 from kV V.1 lN);have cG:=Kh ((D9 B (o:=0)).1 (by simpa using lG));have cT:=Kh (hR.1.keep V.1 Z);have hU:=Kh (show ∀i,w2.frozen? ⟨g,i,none⟩=false from λi=>(World.frozen?_of_block (a:=⟨g,i,none⟩) (Z.block g V.1)).trans (hS.1 i));have lB:=Kh (show ∀j,j<cap*2->(w2.cell? ⟨g,j,none⟩).isSome=true from λj hj=>by rw[Z.cell (p:=⟨g,j,none⟩) V.1];exact lA.1 j hj);have hO:=bt hN Z;have aT:=Kh (kV V.1 Z.size);have hV:=Kh lO;have dC:=Kh (show nb<=I/\I<=9223372036854775807 from⟨hE,lT⟩);clear x0 x1 aL Z lG hR hS lA hN V lN lO hE lT gA gF;go_wp2_with fail
 go_loopw [9] (λii wr=>∃c:Nat,ii=.int .i64 c/\Below w2.heap.size w2 wr/\Hd (c<=H/\c<=nb/\∀j,j<c->A[j]?=B[j]?)) (λii _=>H - (intOf ii).toNat)
 case atStart=>exact⟨0,rfl,Below.refl _ _,Kh ⟨by omega,by omega,λj hj=>absurd hj (Nat.not_lt_zero _)⟩⟩
 case round=>
  obtain⟨c,rfl,lD,HI⟩:=hrel;obtain⟨w3,rfl⟩:∃w3:World,w3=wr:=⟨_,rfl⟩
  have J:=Kh lD;clear lD;go_upto_region 8 with(fail)
  go_cut [43]from 26 to 44 (λnF wx=>∃b:Bool,nF=.bool b/\Below w2.heap.size w2 wx/\(b=true->c<H/\c<nb/\A[c]?=B[c]?)/\(b=false->0<c))
  case first=>
   by_cases hlt:c<H/\c<nb
   ·obtain⟨h1,h2⟩:=hlt
    obtain⟨⟨a1,a2⟩,aD⟩:∃x,A[c]?=some x:=⟨_,List.getElem?_eq_getElem (by have:=aU.1;omega)⟩
    obtain⟨⟨b1,b2⟩,aJ⟩:∃x,B[c]?=some x:=⟨_,List.getElem?_eq_getElem (by have:=Y.1;omega)⟩
    obtain⟨d0,d1⟩:=cT.1 c _ aD;obtain⟨e0,e1⟩:=cG.1 c _ aJ;dsimp only at d0 d1 e0 e1;rw[Nat.zero_add]at d0 d1 e0 e1;replace d0:=Ac J.1 d0;replace d1:=Ac J.1 d1;replace e0:=Ac J.1 e0;replace e1:=Ac J.1 e1;have nX:(c:Int)<(H:Int):=by omega
    have nY:(c:Int)<(nb:Int):=by omega
    have lU:(c:Int)<min (H:Int) (nb:Int):=by omega
    by_cases heq:a1=b1/\a2=b2
    ·obtain⟨rfl,rfl⟩:=heq
     have mN:=Kh (show A[c]?=B[c]? by rw[aD,aJ]);clear aD aJ;go_quiet (fail)
     go_wp2;go_meet
     exact⟨true,rfl,Aa J.1 _,λ_=>⟨h1,h2,mN.1⟩,λh=>by cases h⟩
    ·have hQ:=Kh (show 0<c by
      rcases Nat.eq_zero_or_pos c with h|h
      ·exfalso
       subst h;have h9:=mJ.1;rw[aD,aJ]at h9;exact heq (by simpa using h9)
      ·exact h)
     clear aD aJ;by_cases k1:a1=b1
     ·subst k1
      have k2:¬a2=b2:=λh=>heq ⟨rfl,h⟩
      have k3:(a2==b2)=false:=by rw[beq_eq_false_iff_ne];exact k2
      clear heq;go_quiet (fail)
      go_wp2;go_meet
      exact⟨false,rfl,Aa J.1 _,(λh=>by cases h),λ_=>hQ.1⟩
     ·have k3:(a1==b1)=false:=by rw[beq_eq_false_iff_ne];exact k1
      clear heq;go_quiet (fail)
      go_wp2;go_meet
      exact⟨false,rfl,Aa J.1 _,(λh=>by cases h),λ_=>hQ.1⟩
   ·have lU:¬((c:Int)<min (H:Int) (nb:Int)):=by omega
    have nZ:decide ((c:Int)<min (H:Int) (nb:Int))=false:=decide_eq_false lU;refine K6 (λ_=>True) (λ_ _=>trivial) (λ_ hT=>?_);refine Al 0 ?_;refine Al 1 ?_;refine Al 2 ?_;refine Al 3 ?_;refine Al 4 ?_;refine Al 5 ?_;refine Al 6 ?_;refine Al 7 ?_;refine bT 8 ?_;refine bT 9 ?_;refine bT 10 ?_;refine bT 11 ?_;refine bT 12 ?_;refine bT 13 ?_;refine bT 14 ?_;refine bT 15 ?_;refine bT 16 ?_;refine K5 17 rfl (λK hK=>?_);go_simp
    refine hK.out _ _ ?_;clear hK K
    (try simp only[Act.put,Br,Bt,Bs])
    go_wp2;go_meet
    exact⟨false,rfl,J.1.drew,(λh=>by cases h),λ_=>by have:=HK.1;have:=HI.1;omega⟩
  case rest=>
   obtain⟨b,rfl,lE,gS,gP⟩:=hcut;obtain⟨w4,rfl⟩:∃w4:World,w4=wc:=⟨_,rfl⟩
   have O:=Kh lE;clear lE J;cases b with
   | true=>
    obtain⟨h1,h2,h3⟩:=gS rfl;have H3:=Kh h3;have nC:H<=62:=HK.1.1;clear h3 gS gP;go_wp2;go_roundw
    case rel=>exact⟨c+1,by go_num,O.1,Kh ⟨by omega,by omega,λj hj=>by
      rcases Nat.lt_or_ge j c with h|h
      ·exact HI.1.2.2 j h
      ·obtain rfl:j=c:=by omega
       exact H3.1⟩⟩
    case measure=>simp[intOf];omega
   | false=>
    have mY:=gP rfl;obtain⟨d,rfl⟩:∃d,c=d+1:=⟨c - 1,by omega⟩
    clear gS gP mY;have eP:=Kh (HJ.1 (d+1) (by omega) HI.1.1 HI.1.2.1 HI.1.2.2);have U:=Kh (show d+1<=H/\d+1<=nb from⟨HI.1.1,HI.1.2.1⟩);have e1:((d+1:Nat):Int) - 1=(d:Int):=by omega
    have e2:IntKind.i64.wrap (d:Int)=(d:Int):=IntWalk.i64_in _ (by have:=U.1;have:=HK.1;omega);have lI:¬(cap - d=0):=by have:=U.1;have:=cX.1;omega
    have nA:d<=H:=by have:=U.1;omega
    have mZ:H<=cap:=cX.1.1;clear HI HJ;have gU:(A.drop d).length=H - d:=by rw[List.length_drop,aU.1]
    have lK:∀i,w4.frozen? ⟨g,i,none⟩=false:=λi=>(World.frozen?_of_block (a:=⟨g,i,none⟩) (O.1.block g aT.1)).trans (hU.1 i)
    have kZ:=Kh (show Calls prog 113 #[.slice (some ⟨g,d*2,none⟩) (H - d) (cap - d)] w4 _ from gU▸Tu (A.drop d) g (d*2) (cap - d) w4 (by have:=HK.1;omega) (by have h:=(cT.1.keep aT.1 O.1).drop d;rwa [Nat.zero_add]at h) lK (by have:=U.1;omega));have hY:=Kh gU;clear gU lK;go_wp2_with fail
    refine kZ.1.mono ?_;rintro e w5 ⟨⟨v5,rfl⟩,r1,r2,r3,r4,r5,r6,r7⟩;have kY:=Kh r1;have mQ:=Kh r2
    have mR:=Kh (show ∀j,j<(cap - d)*2->(w5.cell? ⟨g,d*2+j,none⟩).isSome=true from λj hj=>by
     rw[r5,O.1.cell (p:=⟨g,d*2+j,none⟩) aT.1];exact lB.1 _ (by omega))
    have mL:=Kh (show CAt w5 g2 0 B from λj c hc=>by
     have h:=(cG.1.keep hV.1 O.1) j c hc;have lW:g2≠g:=by have:=mP.1;omega
     exact⟨(World.cell?_of_block (a:=⟨g2,0+j*2,none⟩) (r7 g2 lW)).trans h.1,(World.cell?_of_block (a:=⟨g2,0+j*2+1,none⟩) (r7 g2 lW)).trans h.2⟩)
    have aN:=Kh (show Below w.heap.size w w5 from(hO.1.trans (O.1.mono hO.1.size)).trans (r6 _ HG.1));have dE:=Kh (show g<w5.heap.size by rw[r3];exact kV aT.1 O.1.size);clear r1 r2 r3 r4 r5 r6 r7 kZ lI nA mZ e1 e2 O hU lB cT cG;by_cases hm:nb=d+1
    ·have HF:=Kh (show CAt w5 g (d*2) ((A.drop d).reverse++B.drop (d+1))by
      have h0:B.drop (d+1)=[]:=List.drop_eq_nil_of_le (by rw[Y.1,hm];exact kT _);rw[h0,List.append_nil];exact kY.1)
     have hD:H - d<=cap - d:=by have:=cX.1;omega
     have cC:((A.drop d).reverse++B.drop (d+1)).length=H - d:=by
      rw[List.length_append,List.length_reverse,hY.1,List.length_drop,Y.1,hm];omega
     have nB:d+1<=I:=by have:=dC.1;omega
     have hZ:=Kh cC;subst hm;clear cC;by_cases lI:I - (d+1)=0
     ·go_wp2_with (at_builtin;refine P0 rfl (.tmp 52) (.tmp 55) _ 47 rfl underlying128 Fb _ _ (H - d) (cap - d) _ hD rfl rfl ?_)
      (first|go_ret2|go_ret)
      exact⟨⟨(A.drop d).reverse++B.drop (d+1),g,d*2,cap - d,Nu hZ.1.symm,dE.1,HF.1,eP.1⟩,aN.1⟩
     ·go_wp2_with (at_builtin;refine P0 rfl (.tmp 52) (.tmp 55) _ 47 rfl underlying128 Fb _ _ (H - d) (cap - d) _ hD rfl rfl ?_)
      (first|go_ret2|go_ret)
      exact⟨⟨(A.drop d).reverse++B.drop (d+1),g,d*2,cap - d,Nu hZ.1.symm,dE.1,HF.1,eP.1⟩,aN.1⟩
    ·have nB:¬(I - (d+1)=0):=by have:=dC.1;have:=U.1;omega
     have hD:d+1<=nb:=by have:=U.1;omega
     have nK:nb<=I:=dC.1.1;have lR:(A.drop d).reverse.length=H - d:=by rw[List.length_reverse,hY.1]
     have lS:(B.drop (d+1)).length=nb - (d+1):=by rw[List.length_drop,Y.1]
     have hW:=Kh lR;have hX:=Kh lS;have iL:=Kh (show CAt w5 g2 ((d+1)*2) (B.drop (d+1))by have h:=mL.1.drop (d+1);rwa [Nat.zero_add]at h);have hP:=Kh (show H - d+(nb - (d+1))<=200 by have:=HK.1;omega);clear lR lS;go_wp2_with (at_builtin;refine Y9 rfl (.tmp 52) (.tmp 55) _ 47 rfl underlying128 Fb w.heap.size g (d*2) (H - d) (cap - d) g2 ((d+1)*2) (nb - (d+1)) (I - (d+1)) (cusps (A.drop d).reverse) (cusps (B.drop (d+1))) rfl rfl (by rw[Ck,hW.1]) ((D9 _).2 kY.1) mR.1 mQ.1 (by rw[Ck,hX.1]) ((D9 _).2 iL.1) (λu hu=>(Fq _ u hu).2) (by have:=hP.1;omega) (by have:=hP.1;omega) HG.1 aN.1.size dE.1 ?_;intro g' o' c' w6 lH lP lC;have mM:=Kh lH;have mO:=Kh lP;have mK:=Kh (aN.1.trans lC);clear lH lP lC)
     (first|go_ret2|go_ret)
     refine⟨⟨(A.drop d).reverse++B.drop (d+1),g',o',c',Nu (by rw[List.length_append,hW.1,hX.1]),mO.1,?_,eP.1⟩,mK.1⟩;refine(D9 _).1 ?_;unfold cusps;rw[List.flatMap_append];exact mM.1
end
section
open Go.RowKit Eli Tryz
theorem Wd (V:Nat):∀U:Nat,0<U->∃K m,0<K/\K∣U/\Nat.gcd K V=1/\U∣K*V ^ m:=by
 intro U;induction U using Nat.strongRecOn with
 | _ U ih=>
  intro hU;by_cases hg:Nat.gcd U V=1
  ·exact⟨U,0,hU,Nat.dvd_refl U,hg,by simp⟩
  ·obtain⟨W,H⟩:=Nat.gcd_dvd_left U V
   have aD:0<Nat.gcd U V:=Nat.gcd_pos_of_pos_left V hU
   have I:0<W:=by
    rcases Nat.eq_zero_or_pos W with h|h
    ·rw[h,Nat.mul_zero]at H;omega
    ·exact h
   have hlt:W<U:=by
    have J:2*W<=Nat.gcd U V*W:=Nat.mul_le_mul_right W (by omega);omega
   obtain⟨K,m,O,J,Y,Z⟩:=ih W hlt I;refine⟨K,m+1,O,Nat.dvd_trans J ⟨_,by rw[Nat.mul_comm];exact H⟩,Y,?_⟩;rw[H,Nat.pow_succ,<-Nat.mul_assoc,Nat.mul_comm (K*V ^ m)];exact Nat.mul_dvd_mul (Nat.gcd_dvd_right U V) Z
theorem Sf {U V n:Nat} (hU:0<U) (hg:Nat.gcd (Nat.gcd U V) n=1):∃k,k<=U/\Nat.gcd (V+k*n) U=1:=by
 obtain⟨K,m,h1,h2,h3,h4⟩:=Wd V U hU;refine⟨K,Nat.le_of_dvd hU h2,?_⟩;obtain⟨q,hq⟩:∃q,Nat.gcd (V+K*n) U=q:=⟨_,rfl⟩
 have H:q∣V+K*n:=hq▸Nat.gcd_dvd_left ..;have I:q∣U:=hq▸Nat.gcd_dvd_right ..;rw[hq]
 have Y:Nat.gcd q K=1:=by
  have J:Nat.gcd q K∣K*n:=Nat.dvd_trans (Nat.gcd_dvd_right ..) (Nat.dvd_mul_right ..);have O:Nat.gcd q K∣V:=(Nat.dvd_add_left J).1 (Nat.dvd_trans (Nat.gcd_dvd_left ..) H);exact Nat.dvd_one.1 (h3▸Nat.dvd_gcd (Nat.gcd_dvd_right ..) O)
 have h:q∣V ^ m:=(Nat.Coprime.dvd_of_dvd_mul_left Y (Nat.dvd_trans I h4))
 have e3:Nat.gcd q V=1:=by
  have J:Nat.gcd q V∣K*n:=(Nat.dvd_add_right (Nat.gcd_dvd_right q V)).1 (Nat.dvd_trans (Nat.gcd_dvd_left ..) H);have O:Nat.gcd (Nat.gcd q V) K=1:=Nat.dvd_one.1 (Y▸Nat.dvd_gcd (Nat.dvd_trans (Nat.gcd_dvd_left ..) (Nat.gcd_dvd_left ..)) (Nat.gcd_dvd_right ..));have Z:Nat.gcd q V∣n:=Nat.Coprime.dvd_of_dvd_mul_left O J;exact Nat.dvd_one.1 (hg▸Nat.dvd_gcd (Nat.dvd_gcd (Nat.dvd_trans (Nat.gcd_dvd_left ..) I) (Nat.gcd_dvd_right ..)) Z)
 have e4:Nat.gcd q (V ^ m)=1:=Nat.Coprime.pow_right m e3;exact Nat.dvd_one.1 (e4▸Nat.dvd_gcd (Nat.dvd_refl q) h)
theorem Z2 (n p:Nat) (w:World) (h0:0<n) (hn:n<=120) (hp:p<(pts n (n*n)).length):
  Calls prog 156 #[.int .i64 n,.int .i64 p] w λe w'=>e=.returned (.tuple #[.agg #[.int .i64 (((pts n (n*n)).getD p 0 / n:Nat):Int),.int .i64 (((pts n (n*n)).getD p 0 % n:Nat):Int),.int .i64 1],.int .i64 0])/\Below w.heap.size w w':=by
 obtain⟨L,hL⟩:∃L,pts n (n*n)=L:=⟨_,rfl⟩
 have Y:=Kh (λW=>Mv n W h0 hn);rw[hL]at hp Y ⊢;have dY:L.length<=14400:=by rw[<-hL];exact kU (B6 n (n*n)) (Nat.mul_le_mul hn hn)
 obtain⟨a,ha⟩:∃a,L.getD p 0=a:=⟨_,rfl⟩
 have aX:L[p]?=some a:=by rw[<-ha,List.getD_eq_getElem?_getD,List.getElem?_eq_getElem hp];rfl
 rw[ha];obtain⟨u,hu⟩:∃u,a / n=u:=⟨_,rfl⟩
 obtain⟨v,hv⟩:∃v,a % n=v:=⟨_,rfl⟩
 rw[hu,hv];have gL:¬(p:Int)<0:=by omega
 have gN:¬(L.length:Int)<=(p:Int):=by omega
 have bE:=Kh aX;have aK:=Kh (And.intro hu hv);clear hL ha aX hu hv;go_enter func156,ntmps156
 go_wp2_with fail
 obtain⟨w0,bA,X0,aN⟩:=bx1 w #[.int .i64 0,.int .i64 0,.int .i64 0] 213;rw[bA];obtain⟨I,O⟩:∃x,w.heap.size=x:=⟨_,rfl⟩
 have V:=Kh (show w.heap.size<=I from Nat.le_of_eq O);have aL:=Kh (show Blk w0 I 213 #[.int .i64 0,.int .i64 0,.int .i64 0]from O▸X0);have aJ:=Kh aN;try rw[O]
 refine(Y.1 w0).mono ?_;rintro e w1 ⟨⟨vl,rfl,aU⟩,Z⟩;obtain⟨g,cap,rfl,_,_,_,eP,_,aT,_⟩:=He aU (by omega);have J:∀i u,(N3 n a)[i]?=some u->i<3->w1.cell? ⟨g,p*3+i,none⟩=some u:=λi u h hi=>aT _ _ (by rw[Ea bE.1 hi];exact h)
 have l0:w1.cell? ⟨g,p*3,none⟩=some (.int .i64 (u:Int)):=by have h:=J 0 _ rfl (by decide);rw[aK.1.1]at h;exact h
 have l1:w1.cell? ⟨g,p*3+1,none⟩=some (.int .i64 (v:Int)):=by have h:=J 1 _ rfl (by decide);rw[aK.1.2]at h;exact h
 have l2:w1.cell? ⟨g,p*3+2,none⟩=some (.int .i64 1):=J 2 _ rfl (by decide);have H:=Kh (bk aL Z);have bB:=bt aJ Z;clear bA X0 aN Z aL aJ O aU aT J Y;have r0:=H.1.at_ 0 rfl;have r1:=H.1.at_ 1 rfl;have r2:=H.1.at_ 2 rfl;have f0:=H.1.free_ 0;have f1:=H.1.free_ 1;have f2:=H.1.free_ 2;have U:=Kh (C1 (w:=w1) (R:=I) (v0:=.int .i64 (u:Int)) (v1:=.int .i64 (v:Int)) (v2:=.int .i64 1) (by rw[r0];rfl) (by rw[r1];rfl) (by rw[r2];rfl));have bC:=Kh (show Below w.heap.size w (((w1.setCell ⟨I,0,none⟩ (.int .i64 (u:Int))).setCell ⟨I,1,none⟩ (.int .i64 (v:Int))).setCell ⟨I,2,none⟩ (.int .i64 1))from((bB.1.setCell (p:=⟨I,0,none⟩) V.1 _).setCell (p:=⟨I,1,none⟩) V.1 _).setCell (p:=⟨I,2,none⟩) V.1 _);have gA:I<w1.heap.size:=H.1.lt;go_wp2;have e0:=U.1.1;have e1:=U.1.2.1;have e2:=U.1.2.2;try simp only[Exit.inBlock,Exit.then]
 refine bodyPost_ret (by simp[results,results156,go_sem,e0,e1,e2];try rfl) rfl ?_;exact⟨rfl,bC.1⟩
structure LiftOf (n p:Nat) (A B C E:Int):Prop where
 det:A*E - B*C=1
 c:C % n=(((pts n (n*n)).getD p 0 / n:Nat):Int) % n
 d:E % n=(((pts n (n*n)).getD p 0 % n:Nat):Int) % n
 bA:-20000<=A/\A<=20000
 bB:-20000<=B/\B<=20000
 bC:-20000<=C/\C<=20000
 bE:-20000<=E/\E<=20000
theorem Jc {n a:Nat} (h:E4 n a=true):Nat.gcd (Nat.gcd (a / n) (a % n)) n=1:=by
 unfold E4 at h
 simpa using h
theorem Sx {n p:Nat} (J:0<n) (hp:p<(pts n (n*n)).length) (hu:(pts n (n*n)).getD p 0 / n=0):(pts n (n*n)).getD p 0 % n=1 % n:=by
 have U:=Bd hp;obtain⟨a,ha⟩:∃a,(pts n (n*n)).getD p 0=a:=⟨_,rfl⟩
 rw[ha]at U hu ⊢;have H:=Jc (Ig U).1;rw[hu,Nat.gcd_zero_left]at H;have O:=U;rw[B5 J _ (kT _),List.mem_filter]at O;simp only[Bool.and_eq_true]at O;have V:=Cl.1 O.2.2
 have I:a<n:=by
  rcases Nat.lt_or_ge a n with h|h
  ·exact h
  ·have:=Nat.div_pos h J;omega
 rw[Nat.mod_eq_of_lt I]at H ⊢;obtain⟨s,s1,s2,s3,s4⟩:=Kx n a J H;have h5:=V s s1 s2 (by simp[pun,s3])
 have h6:Az n s a=1 % n:=by
  have Y:=C6 J s a;have Z:=C7 n s a;rw[Nat.div_eq_of_lt I,Nat.mul_zero,Nat.zero_mod]at Y;rw[Nat.mod_eq_of_lt I,s4]at Z;have h7:=Nat.div_add_mod (Az n s a) n;rw[Y,Z,Nat.mul_zero,Nat.zero_add]at h7;exact h7.symm
 rw[h6]at h5;rcases Nat.lt_or_ge 1 n with h|h
 ·rw[Nat.mod_eq_of_lt h]at h5 ⊢
  rcases Nat.eq_zero_or_pos a with h8|h8
  ·rw[h8,Nat.gcd_zero_left]at H;omega
  ·omega
 ·obtain rfl:n=1:=by omega
  omega
theorem dO (n p:Nat) (w:World) (h0:0<n) (hn:n<=120) (hp:p<(pts n (n*n)).length):
  Calls prog 109 #[.int .i64 n,.int .i64 p] w λe w'=>(∃A B C E:Int,e=.returned (.tuple #[.agg #[.int .i64 A,.int .i64 B,.int .i64 C,.int .i64 E],.int .i64 0])/\LiftOf n p A B C E)/\Below w.heap.size w w':=by
 have cA:=Kh (λW=>Z2 n p W h0 hn hp);have dC:=Jc (Ig (Bd hp)).1;have hlt:=Gn (Bd hp);obtain⟨U,hU⟩:∃U,(pts n (n*n)).getD p 0 / n=U:=⟨_,rfl⟩
 obtain⟨V,hV⟩:∃V,(pts n (n*n)).getD p 0 % n=V:=⟨_,rfl⟩
 have mP:U<n:=by rw[<-hU];exact Nat.div_lt_of_lt_mul hlt
 have mQ:V<n:=by rw[<-hV];exact Nat.mod_lt _ h0
 have cD:=Kh (show U=0->V % n=1 % n from λh=>by
  have J:=Sx h0 hp (hU.trans h);rw[hV]at J;rw[<-J,<-hV,Nat.mod_mod])
 have aL:=Kh (λ(A B C E:Int) (J:A*E - B*C=1) (h2:C % n=(U:Int) % n) (h3:E % n=(V:Int) % n) (b1:-20000<=A/\A<=20000) (b2:-20000<=B/\B<=20000) (b3:-20000<=C/\C<=20000) (b4:-20000<=E/\E<=20000)=>(show LiftOf n p A B C E from⟨J,by rw[hU];exact h2,by rw[hV];exact h3,b1,b2,b3,b4⟩));rw[hU,hV]at cA dC;clear hp hlt hU hV;go_enter func109,ntmps109
 go_wp2_with fail
 obtain⟨w0,hY,X0,hQ⟩:=bx1 w #[.int .i64 0,.int .i64 0,.int .i64 0,.int .i64 0] 63;rw[hY];obtain⟨gr,bB⟩:∃x,w.heap.size=x:=⟨_,rfl⟩
 have I:=Kh (show w.heap.size<=gr from Nat.le_of_eq bB);have hI:=Kh (show Blk w0 gr 63 #[.int .i64 0,.int .i64 0,.int .i64 0,.int .i64 0]from bB▸X0);have gA:=Kh hQ;try rw[bB]
 refine(cA.1 w0).mono ?_;rintro e w1 ⟨rfl,cF⟩;have hJ:=Kh (bk hI cF);have gF:=bt gA cF;clear hY X0 hQ cF hI gA bB cA;go_upto_region 4 with(fail)
 obtain⟨w2,hZ,Y,cG⟩:=bx1 w1 #[.int .i64 U,.int .i64 V,.int .i64 1] 213;rw[hZ];obtain⟨g6,hR⟩:∃x,w1.heap.size=x:=⟨_,rfl⟩
 rw[hR]at Y ⊢;have HY:=Kh Y;have H:=Kh (bk hJ cG);have gL:=bt gF cG;clear hZ Y cG hR hJ gF;by_cases hU0:U=0
 ·subst hU0
  have y0:=HY.1.at_ 0 rfl;have r0:=H.1.at_ 0 rfl;have r1:=H.1.at_ 1 rfl;have r2:=H.1.at_ 2 rfl;have r3:=H.1.at_ 3 rfl;have f0:=H.1.free_ 0;have f1:=H.1.free_ 1;have f2:=H.1.free_ 2;have f3:=H.1.free_ 3;have hO:=cD.1 rfl
  have lD:=Kh (aL.1 1 0 0 1 (by decide) rfl (by
   have J:((V % n:Nat):Int)=((1 % n:Nat):Int):=by rw[hO]
   push_cast at J
   exact J.symm) (by decide) (by decide) (by decide) (by decide))
  clear hO cD aL;go_wp2
  (try simp only[Exit.inBlock,Exit.then])
  exact bodyPost_ret (v:=.tuple #[.agg #[.int .i64 1,.int .i64 0,.int .i64 0,.int .i64 1],.int .i64 0]) (by rw[results_cell_tmp rfl];go_simp) rfl ⟨⟨1,0,0,1,rfl,lD.1⟩,((((gL.1.setCell I.1 _).setCell I.1 _).setCell I.1 _).setCell I.1 _)⟩
 ·have mO:((U:Int)==0)=false:=beq_eq_false_iff_ne.2 (by omega)
  obtain⟨K,mM,hN⟩:=Sf (n:=n) (show 0<U by omega) dC;have hD:=Kh hN;clear dC hN cD;have y0:=HY.1.at_ 0 rfl;have y1:=HY.1.at_ 1 rfl;go_upto_region 7 with(fail)
  clear y0 y1;go_loopw [8] (λv8 wr=>∃k:Nat,v8=.int .i64 ((V+k*n:Nat):Int)/\(∀j,j<k->Nat.gcd (V+j*n) U≠1)/\Below w2.heap.size w2 wr) (λv8 _=>V+K*n - (intOf v8).toNat)
  case atStart=>exact⟨0,by rw[Nat.zero_mul];rfl,λj hj=>absurd hj (Nat.not_lt_zero _),Below.refl _ _⟩
  case round=>
   obtain⟨k,rfl,cX,O⟩:=hrel;obtain⟨w3,rfl⟩:∃w3:World,w3=wr:=⟨_,rfl⟩
   have hE:=Kh cX
   have lM:k<=K:=by
    rcases Nat.lt_or_ge K k with h|h
    ·exact absurd hD.1 (cX K h)
    ·exact h
   have mR:k*n<=120*120:=Nat.mul_le_mul (by omega) hn;have mB:k*n<=K*n:=Nat.mul_le_mul_right _ lM;have cB:=Kh (bk HY O);have hL:=Kh (bk H O);have gN:=bt gL O;have bE:=Kh O;clear cX O;have Z:(V+(k+1)*n:Nat)=V+k*n+n:=by rw[Nat.succ_mul,Nat.add_assoc]
   obtain⟨d,hd⟩:∃d,V+k*n=d:=⟨_,rfl⟩
   rw[hd]at Z ⊢;have lK:d<=14520:=by omega
   have y0:=cB.1.at_ 0 rfl;have HD:=Kh hd;have bY:=Kh Z;by_cases hg:Nat.gcd d U=1
   ·have HG:=Kh (show((Int.gcd (d:Int) (U:Int):Nat):Int)=1 by rw[Int.gcd_natCast_natCast,hg];rfl)
    have gU:=Kh (show Int.gcd (d:Int) (U:Int)=1 by rw[Int.gcd_natCast_natCast];exact hg);clear hg hd Z;go_wp2_with fail
    refine(E7 (d:Int) (U:Int) w3 (by omega) (by omega) (by omega) (by omega)).mono ?_;rw[HG.1];rintro e w4 ⟨rfl,nd,aD⟩;have aX:Below w3.heap.size w3 w4:=by rw[aD];exact Aa (Below.refl _ _) nd
    have cC:=Kh (bk cB aX);have hM:=Kh (bk hL aX);have aK:=bt gN aX;clear aD aX y0 cB hL gN bE;have y0:=cC.1.at_ 0 rfl;go_wp2_with fail
    refine(Lo (d:Int) U w4 (by omega) (by omega) gU.1).mono ?_;rintro e w5 ⟨⟨A,rfl,mK,B,hB⟩,bA⟩;have Y5:=bk cC bA;have X5:=bk hM bA;have lC:=bt aK bA;clear bA cC hM aK y0;obtain⟨P,hP⟩:∃P:Nat,A*d=P:=⟨_,rfl⟩
    have mN:P<=120*14520:=by rw[<-hP];exact Nat.mul_le_mul (by omega) lK
    have aT:(A:Int)*(d:Int)=(P:Int):=by rw[<-hP];push_cast;rfl
    have v1:IntKind.i64.wrap ((A:Int)*(d:Int))=(P:Int):=by rw[aT];exact IntWalk.i64_in _ (by omega)
    obtain⟨z,hz⟩:∃z:Int,(P:Int) - 1=z:=⟨_,rfl⟩
    have v2:IntKind.i64.wrap ((P:Int) - 1)=z:=by rw[hz];exact IntWalk.i64_in _ (by omega)
    have bC:z=U*B:=by rw[<-hz,<-aT];exact hB
    have v3:z.tdiv (U:Int)=B:=by rw[bC];exact Int.mul_tdiv_cancel_left B (by omega)
    have lI:-20000<=B/\B<=20000:=by
     have mL:B.natAbs<=14520:=by
      rcases Int.lt_or_le B 0 with h|h
      ·have J:(U:Int)*B<=1*B:=by
        have h2:=Int.mul_le_mul_of_nonpos_right (show(1:Int)<=U by omega) (Int.le_of_lt h);exact h2
       omega
      ·have h3:B*U=z:=by rw[bC,Int.mul_comm]
       have h4:B<=d:=by
        rcases Int.lt_or_le (d:Int) B with h5|h5
        ·exfalso
         have h6:(A:Int)*d<=U*d:=Int.mul_le_mul_of_nonneg_right (by omega) (by omega);have h7:(U:Int)*d<=U*B:=Int.mul_le_mul_of_nonneg_left (Int.le_of_lt h5) (by omega);omega
        ·exact h5
       omega
     omega
    have v4:IntKind.i64.wrap B=B:=IntWalk.i64_in _ (by omega);have v5:U≠0:=hU0
    have lE:=Kh (aL.1 A B U d (by rw[aT];have J:B*(U:Int)=z:=(by rw[bC,Int.mul_comm]);omega) rfl (by
     have J:=HD.1;rw[<-J]
     push_cast
     rw[Int.add_mul_emod_self_right]) (by omega) lI (by omega) (by omega))
    have q0:=Y5.at_ 0 rfl;have r0:=X5.at_ 0 rfl;have r1:=X5.at_ 1 rfl;have r2:=X5.at_ 2 rfl;have r3:=X5.at_ 3 rfl;have f0:=X5.free_ 0;have f1:=X5.free_ 1;have f2:=X5.free_ 2;have f3:=X5.free_ 3;clear hP aT hz bC hB Y5 X5 aL gU HG hE bY HD;go_upto_region 10 with(fail)
    refine iW [13] (λW=>W.cell? ⟨g6,0,none⟩=some (.int .i64 (U:Int))/\W.cell? ⟨gr,0,none⟩=some (.int .i64 0)/\W.frozen? ⟨gr,0,none⟩=false/\W.cell? ⟨gr,1,none⟩=some (.int .i64 0)/\W.frozen? ⟨gr,1,none⟩=false/\W.cell? ⟨gr,2,none⟩=some (.int .i64 0)/\W.frozen? ⟨gr,2,none⟩=false/\W.cell? ⟨gr,3,none⟩=some (.int .i64 0)/\W.frozen? ⟨gr,3,none⟩=false) (λW hb=>⟨Au hb q0,Au hb r0,Ab hb (by rw[r0];rfl) (f0),Au hb r1,Ab hb (by rw[r1];rfl) (f1),Au hb r2,Ab hb (by rw[r2];rfl) (f2),Au hb r3,Ab hb (by rw[r3];rfl) (f3)⟩) (λmE hHeld0=>?_);refine De 0 ?_;refine De 1 ?_;refine De 2 ?_;refine De 3 ?_;refine De 4 ?_;refine De 5 ?_;refine De 6 ?_;refine De 7 ?_;refine De 8 ?_;refine De 9 ?_;refine De 10 ?_;refine De 11 ?_;refine iX 12 rfl (λK hK=>?_);go_simp
    refine hK.out _ _ ?_;clear hK K
    (try simp only[Act.put,Br,Bt,Bs])
    refine jA 13 ?_;refine iT ?_;go_wp2
    (try simp only[Exit.inBlock,Exit.then])
    exact bodyPost_ret (v:=.tuple #[.agg #[.int .i64 A,.int .i64 B,.int .i64 U,.int .i64 d],.int .i64 0]) (by rw[results_cell_tmp rfl];go_simp) rfl ⟨⟨A,B,U,d,rfl,lE.1⟩,Aa ((((lC.1.setCell I.1 _).setCell I.1 _).setCell I.1 _).setCell I.1 _) 1⟩
   ·have HG:=Kh (show((Int.gcd (d:Int) (U:Int):Nat):Int)=(Nat.gcd d U:Nat)by rw[Int.gcd_natCast_natCast])
    have lL:(((Nat.gcd d U:Nat):Int) != 1)=true:=by rw[bne_iff_ne];omega
    have hT:k<K:=by
     rcases Nat.lt_or_ge k K with h|h
     ·exact h
     ·exfalso
      have J:k=K:=by omega
      rw[J]at hd;exact hg (by rw[<-hd];exact hD.1)
    have hG:=Kh (show ∀j,j<k+1->Nat.gcd (V+j*n) U≠1 from λj hj=>by
     rcases Nat.lt_or_ge j k with h|h
     ·exact hE.1 j h
     ·obtain rfl:j=k:=by omega
      rw[HD.1];exact hg)
    have hW:(k+1)*n<=K*n:=Nat.mul_le_mul_right _ hT;have wd:IntKind.i64.wrap ((d:Int)+(n:Int))=((d+n:Nat):Int):=by rw[show(d:Int)+(n:Int)=((d+n:Nat):Int)by push_cast;rfl];exact IntWalk.i64_in _ (by omega)
    obtain⟨g,hS⟩:∃g,Nat.gcd d U=g:=⟨_,rfl⟩
    rw[hS]at HG lL;obtain⟨d2,cT⟩:∃d2,d+n=d2:=⟨_,rfl⟩
    rw[cT]at wd;have gP:=Kh cT;clear hg hd hS cT;go_wp2_with fail
    refine(E7 (d:Int) (U:Int) w3 (by omega) (by omega) (by omega) (by omega)).mono ?_;rw[HG.1];rintro e w4 ⟨rfl,nd,aD⟩;have aK:=Kh (show Below w2.heap.size w2 w4 from bE.1.trans (by rw[aD];exact Aa ((Below.refl _ _).mono bE.1.size) nd));clear aD y0;go_wp2;go_roundw
    case rel=>exact⟨k+1,by rw[bY.1,gP.1],hG.1,aK.1⟩
    case measure=>have J:=gP.1;have h2:=bY.1;have h3:=HD.1;simp[intOf];rw[Nat.succ_mul]at hW;omega
theorem gD (x:Int) (w:World):Calls prog 223 #[.int .i64 x] w λe w'=>e=.returned (.bool false)/\w'=w:=by
 have H:(x != x)=false:=by simp
 go_enter func223,ntmps223
 go_wp2;go_ret;exact⟨rfl,rfl⟩
def Qt (x y:Int):Int:=if x<y then -1 else if y<x then 1 else 0
theorem dW (x y:Int) (w:World):Calls prog 212 #[.int .i64 x,.int .i64 y] w λe w'=>e=.returned (.int .i64 (Qt x y))/\w'=w:=by
 have H:=Kh (λx w=>gD x w);unfold Qt;go_enter func212,ntmps212
 go_wp2_with fail
 refine(H.1 x w).mono ?_;rintro e J ⟨rfl,rfl⟩;go_wp2_with fail
 refine(H.1 y J).mono ?_;rintro e U ⟨rfl,rfl⟩;rcases Int.lt_trichotomy x y with h|h|h
 ·go_wp2
  go_ret;exact⟨rfl,rfl⟩
 ·have I:¬x<y:=by omega
  have O:¬y<x:=by omega
  go_wp2;go_ret;exact⟨rfl,rfl⟩
 ·have I:¬x<y:=by omega
  go_wp2;go_ret;exact⟨rfl,rfl⟩
def iV (a b:Int):Int:=if a=0 then b else a
theorem gG (a b:Int) (g cap:Nat) (w:World) (O:w.cell? ⟨g,0,none⟩=some (.int .i64 a)) (U:w.cell? ⟨g,1,none⟩=some (.int .i64 b)):
  Calls prog 211 #[.slice (some ⟨g,0,none⟩) 2 cap] w λe w'=>e=.returned (.int .i64 (iV a b))/\w'=w:=by
 unfold iV;go_enter func211,ntmps211
 go_wp2;go_loopw [8] (λi wr=>wr=w/\((i=.int .i64 0)∨(i=.int .i64 1/\a=0)∨(i=.int .i64 2/\a=0/\b=0))) (λi _=>2 - (intOf i).toNat)
 case atStart=>exact⟨rfl,.inl rfl⟩
 case round=>
  obtain⟨rfl,hr⟩:=hrel;rcases hr with rfl |⟨rfl,H⟩ |⟨rfl,H,I⟩
  ·by_cases H:a=0
   ·subst H
    go_wp2;go_roundw
    case rel=>exact⟨by trivial,.inr (.inl ⟨by trivial,by trivial⟩)⟩
    case measure=>simp[intOf]
   ·have I:(a != 0)=true:=by simpa using H
    have J:=Kh H;clear H;go_wp2
    all_goals first
     |(exfalso;exact J.1 (by assumption))
     |(go_ret;exact⟨rfl,rfl⟩)
  ·subst H
   by_cases hb0:b=0
   ·subst hb0
    go_wp2;go_roundw
    case rel=>exact⟨by trivial,.inr (.inr ⟨by trivial,by trivial,by trivial⟩)⟩
    case measure=>simp[intOf]
   ·have I:(b != 0)=true:=by simpa using hb0
    clear hb0;go_wp2;go_ret;exact⟨rfl,rfl⟩
  ·subst H
   subst I;go_wp2;go_ret;exact⟨rfl,rfl⟩
def M3 (u v u' v':Int):Int:=iV (Qt u u') (Qt v v')
theorem R3 (u v t I J t':Int) (w:World):Calls prog 194 #[.agg #[.int .i64 u,.int .i64 v,.int .i64 t],.agg #[.int .i64 I,.int .i64 J,.int .i64 t']] w λe w'=>e=.returned (.int .i64 (M3 u v I J))/\Below w.heap.size w w':=by
 have HC:=Kh (λx y w=>dW x y w);unfold M3;go_enter func194,ntmps194
 go_upto_region 1 with(fail)
 obtain⟨w1,Z,X,Y,U⟩:=bx2 w #[.int .i64 u,.int .i64 v,.int .i64 t] 213 #[.int .i64 I,.int .i64 J,.int .i64 t'] 213;rw[Z];obtain⟨g0,H⟩:∃x,w.heap.size=x:=⟨_,rfl⟩
 obtain⟨g1,V⟩:∃x,w.heap.size+1=x:=⟨_,rfl⟩
 have HB:=Kh U;rw[V]at Y ⊢;rw[H]at X;try rw[H]
 have r0:=X.at_ 0 rfl;have r1:=X.at_ 1 rfl;have q0:=Y.at_ 0 rfl;have q1:=Y.at_ 1 rfl;have HG:=Kh H;clear Z X Y U V H;refine K6 (λW=>W.cell? ⟨g0,0,none⟩=some (.int .i64 u)/\W.cell? ⟨g0,1,none⟩=some (.int .i64 v)/\W.cell? ⟨g1,0,none⟩=some (.int .i64 I)/\W.cell? ⟨g1,1,none⟩=some (.int .i64 J)) (λW h=>⟨Au h r0,Au h r1,Au h q0,Au h q1⟩) (λO hHeld0=>?_);refine Al 0 ?_;refine Al 1 ?_;refine Al 2 ?_;refine Al 3 ?_;refine Al 5 ?_;refine Al 6 ?_;refine Al 7 ?_;refine Al 8 ?_;refine F9 4 rfl (λK hK=>?_);focus(go_simp;refine(HC.1 u I _).mono ?_;rintro e wz ⟨rfl,rfl⟩;(first|with_reducible refine hK.out _ _ ?_ (λhHeld1=>?_) |(go_wp2_with fail;with_reducible refine hK.out _ _ ?_ (λhHeld1=>?_))))
 focus((try dsimp only);with_reducible assumption)
 focus(clear hK K;(try simp only[Act.put,Br,Bt,Bs]))
 refine F9 9 rfl (λK hK=>?_);focus(go_simp;refine(HC.1 v J _).mono ?_;rintro e wz ⟨rfl,rfl⟩;(first|with_reducible refine hK.out _ _ ?_ (λhHeld2=>?_) |(go_wp2_with fail;with_reducible refine hK.out _ _ ?_ (λhHeld2=>?_))))
 focus((try dsimp only);with_reducible assumption)
 focus(clear hK K;(try simp only[Act.put,Br,Bt,Bs]))
 refine F9 10 rfl (λK hK=>?_);focus(go_simp;refine hK.out _ _ ?_ (λhHeld3=>?_))
 focus((try dsimp only);exact O.1 _ (Below.refl _ w1 |>.drew.alloc (kT _) _))
 focus(clear hK K;(try simp only[Act.put,Br,Bt,Bs]))
 refine F9 11 rfl (λK hK=>?_);focus(go_simp;refine(gG (Qt u I) (Qt v J) w1.heap.size 2 _ (by simp) (by simp)).mono ?_;rintro e wz ⟨rfl,rfl⟩;(first|with_reducible refine hK.out _ _ ?_ (λhHeld4=>?_) |(go_wp2_with fail;with_reducible refine hK.out _ _ ?_ (λhHeld4=>?_))))
 focus((try dsimp only);exact O.1 _ (Below.refl _ w1 |>.drew.alloc (kT _) _))
 focus(clear hK K;(try simp only[Act.put,Br,Bt,Bs]))
 refine K5 12 rfl (λK hK=>?_);go_simp
 refine hK.out _ _ ?_;clear hK K
 (try simp only[Act.put,Br,Bt,Bs])
 go_wp2;go_ret;exact⟨rfl,HB.1.trans ((((Below.refl _ w1).drew.alloc (kT _) _)).mono HB.1.size)⟩
theorem fE {n i j:Nat} (J:0<n) (H:i<j) (I:j<(pts n (n*n)).length):(pts n (n*n)).getD i 0<(pts n (n*n)).getD j 0:=by
 have O:(pts n (n*n)).Pairwise (· < ·):=by
  rw[B5 J _ (kT _)];exact List.Pairwise.filter _ List.pairwise_lt_range
 have h:=List.pairwise_iff_getElem.1 O i j (by omega) I H;rw[List.getD_eq_getElem?_getD,List.getD_eq_getElem?_getD,List.getElem?_eq_getElem I,List.getElem?_eq_getElem (show i<_ by omega)];exact h
theorem R9 {n a b:Nat} (V:0<n):M3 ((a / n:Nat):Int) ((a % n:Nat):Int) ((b / n:Nat):Int) ((b % n:Nat):Int)<0↔a<b:=by
 have Z:=Nat.div_add_mod a n;have h2:=Nat.div_add_mod b n;have h3:=Nat.mod_lt a V;have h4:=Nat.mod_lt b V;obtain⟨u,Y⟩:∃u,a / n=u:=⟨_,rfl⟩
 obtain⟨v,U⟩:∃v,a % n=v:=⟨_,rfl⟩
 obtain⟨I,J⟩:∃u,b / n=u:=⟨_,rfl⟩
 obtain⟨v',H⟩:∃v,b % n=v:=⟨_,rfl⟩
 rw[Y,U]at Z;rw[U]at h3;rw[J,H]at h2;rw[H]at h4;rw[Y,U,J,H];unfold M3 iV Qt;rcases Nat.lt_trichotomy u I with h|h|h
 ·have O:n*(u+1)<=n*I:=Nat.mul_le_mul_left n h
  rw[Nat.mul_add,Nat.mul_one]at O;rw[if_pos (show(u:Int)<I by omega),if_neg (by decide)];constructor
  ·intro _;omega
  ·intro _;decide
 ·subst h
  rw[if_neg (show ¬(u:Int)<u by omega),if_neg (show ¬(u:Int)<u by omega),if_pos rfl];split
  ·constructor
   ·intro _;omega
   ·intro _;decide
  ·split
   ·constructor
    ·intro h;omega
    ·intro _;omega
   ·constructor
    ·intro h;omega
    ·intro _;omega
 ·have O:n*(I+1)<=n*u:=Nat.mul_le_mul_left n h
  rw[Nat.mul_add,Nat.mul_one]at O;rw[if_neg (show ¬(u:Int)<I by omega),if_pos (show(I:Int)<u by omega),if_neg (by decide)];constructor
  ·intro h;omega
  ·intro _;omega
theorem V7 (n p a u v g cap:Nat) (L:List Nat) (w:World) (h0:0<n) (_hn:n<=120) (dC:L.length<=14400) (aT:∀i j,i<j->j<L.length->L.getD i 0<L.getD j 0) (hp:p<L.length) (ha:L.getD p 0=a) (hu:a / n=u) (hv:a % n=v)
  (aD:∀i x u,L[i]?=some x->∀k,(N3 n x)[k]?=some u->k<3->w.cell? ⟨g,i*3+k,none⟩=some u):
  Calls prog 193 #[.slice (some ⟨g,0,none⟩) L.length cap,.agg #[.int .i64 (u:Int),.int .i64 (v:Int),.int .i64 1],.func (.func 194) #[] #[]] w λe w'=>(∃b,e=.returned (.tuple #[.int .i64 p,.bool b]))/\Below w.heap.size w w':=by
 have HC:=Kh (λu v t u' v' t' w=>R3 u v t u' v' t' w);obtain⟨N,hN⟩:∃N,L.length=N:=⟨_,rfl⟩
 have hS:=Kh (show L[p]?=some a by rw[<-ha,List.getD_eq_getElem?_getD,List.getElem?_eq_getElem hp];rfl)
 have bB:=Kh (λ(h:Nat) (hh:h<N)=>(show ∃b x y:Nat,L[h]?=some b/\b / n=x/\b % n=y/\(M3 x y u v<0↔h<p)from by
  have Z:h<L.length:=by omega
  refine⟨L[h],_,_,List.getElem?_eq_getElem Z,rfl,rfl,?_⟩;have h2:=R9 (a:=L[h]) (b:=a) h0;rw[hu,hv]at h2;have h3:L.getD h 0=L[h]:=by rw[List.getD_eq_getElem?_getD,List.getElem?_eq_getElem Z];rfl
  rw[h2];constructor
  ·intro h4
   rcases Nat.lt_or_ge h p with h5|h5
   ·exact h5
   ·rcases Nat.lt_or_ge p h with h6|h6
    ·have h7:=aT p h h6 Z
     omega
    ·obtain rfl:h=p:=by omega
     omega
  ·intro h4
   have h7:=aT h p h4 hp;omega))
 have bC:=Kh (λ(h b x y:Nat) (W:World) (H:Below w.heap.size w W) (Z:L[h]?=some b) (h2:b / n=x) (h3:b % n=y)=>(show W.cell? ⟨g,h*3,none⟩=some (.int .i64 (x:Int))/\W.cell? ⟨g,h*3+1,none⟩=some (.int .i64 (y:Int))/\W.cell? ⟨g,h*3+2,none⟩=some (.int .i64 1)from by
  subst h2 h3;exact⟨Au H (aD h b _ Z 0 rfl (by decide)),Au H (aD h b _ Z 1 rfl (by decide)),Au H (aD h b _ Z 2 rfl (by decide))⟩))
 have hT:=Kh (And.intro hu hv);rw[hN]at dC hp ⊢;clear aT aD ha hN hu hv;go_enter func193,ntmps193
 go_wp2_with fail
 obtain⟨w1,aU,X,cA⟩:=bx1 w #[.int .i64 (u:Int),.int .i64 (v:Int),.int .i64 1] 213;rw[aU];obtain⟨gb,aJ⟩:∃x,w.heap.size=x:=⟨_,rfl⟩
 rw[aJ]at X;try rw[aJ]
 have HX:=Kh X;have cT:=Kh cA;have hQ:=Kh aJ;clear aU X cA aJ;go_loopw [9,10] (λvi vj wr=>∃i j:Nat,vi=.int .i64 i/\vj=.int .i64 j/\i<=p/\p<=j/\j<=N/\Below w1.heap.size w1 wr) (λvi vj _=>(intOf vj).toNat - (intOf vi).toNat)
 case atStart=>exact⟨0,N,rfl,rfl,Nat.zero_le _,Nat.le_of_lt hp,kT _,Below.refl _ _⟩
 case round=>
  obtain⟨i,j,rfl,rfl,hi,hj,dY,H⟩:=hrel;have aN:=Kh (bk HX H);have V:=bt cT H;have Y:=Kh H;clear H;have r0:=aN.1.at_ 0 rfl;have r1:=aN.1.at_ 1 rfl;have r2:=aN.1.at_ 2 rfl;by_cases hlt:i<j
  ·obtain⟨h,hh⟩:∃h,(i+j) / 2=h:=⟨_,rfl⟩
   have hY:i<=h:=by omega
   have hZ:h<j:=by omega
   have kZ:(i:Int)<j:=by omega
   have aU:IntKind.i64.wrap ((i:Int)+j)=((i+j:Nat):Int):=by rw[<-Int.natCast_add];exact IntWalk.i64_in _ (by omega)
   obtain⟨b,x,y,O,hx,hy,I⟩:=bB.1 h (by omega);obtain⟨l0,l1,l2⟩:=bC.1 h b x y wr V.1 O hx hy;have hX:(h:Int)<(N:Int):=by omega
   have bE:=Kh I;have HH:=Kh hh;clear O hx hy I hh;have cX:=Kh (show((i:Int)+j) / 2=(h:Int)by have:=HH.1;omega);go_upto_region 5 with(fail)
   rw[cX.1];obtain⟨z,hz⟩:∃z,M3 x y u v=z:=⟨_,rfl⟩
   have aK:=Kh (λW=>(by rw[<-hz];exact HC.1 x y 1 u v 1 W:Calls prog 194 #[.agg #[.int .i64 (x:Int),.int .i64 (y:Int),.int .i64 1],.agg #[.int .i64 (u:Int),.int .i64 (v:Int),.int .i64 1]] W λe w'=>e=.returned (.int .i64 z)/\Below W.heap.size W w'));have bY:=Kh (show z<0↔h<p by rw[<-hz];exact bE.1);clear hz bE HC;refine K6 (λW=>W.cell? ⟨g,h*3,none⟩=some (.int .i64 (x:Int))/\W.cell? ⟨g,h*3+1,none⟩=some (.int .i64 (y:Int))/\W.cell? ⟨g,h*3+2,none⟩=some (.int .i64 1)/\W.cell? ⟨gb,0,none⟩=some (.int .i64 (u:Int))/\W.cell? ⟨gb,1,none⟩=some (.int .i64 (v:Int))/\W.cell? ⟨gb,2,none⟩=some (.int .i64 1)) (λW H=>⟨Au H l0,Au H l1,Au H l2,Au H r0,Au H r1,Au H r2⟩) (λaL hHeld0=>?_);refine Al 0 ?_;refine Al 1 ?_;refine Al 2 ?_;refine Al 3 ?_;refine Al 4 ?_;refine Al 5 ?_;refine F9 6 rfl (λK hK=>?_);focus(go_simp;refine(aK.1 _).mono ?_;rintro e wz ⟨rfl,U⟩;have J:=Kh ((Below.refl _ wr).drew.trans U);clear U;(first|with_reducible refine hK.out _ _ ?_ (λhHeld1=>?_) |(go_wp2_with fail;with_reducible refine hK.out _ _ ?_ (λhHeld1=>?_))))
   focus((try dsimp only);exact aL.1 _ J.1)
   focus(clear hK K;(try simp only[Act.put,Br,Bt,Bs]))
   refine K5 7 rfl (λK hK=>?_);go_simp
   refine hK.out _ _ ?_;clear hK K
   (try simp only[Act.put,Br,Bt,Bs])
   by_cases hhp:h<p
   ·have gF:z<0:=bY.1.2 hhp
    go_wp2;go_roundw
    case rel=>exact⟨h+1,j,by go_num,rfl,hhp,hj,dY,Y.1.trans (J.1.mono Y.1.size)⟩
    case measure=>simp[intOf];omega
   ·have gF:¬z<0:=λZ=>hhp (bY.1.1 Z)
    go_wp2;go_roundw
    case rel=>exact⟨i,h,rfl,rfl,hi,by omega,by omega,Y.1.trans (J.1.mono Y.1.size)⟩
    case measure=>simp[intOf];omega
  ·obtain rfl:i=p:=by omega
   obtain rfl:i=j:=by omega
   obtain⟨b,x,y,O,hx,hy,I⟩:=bB.1 i (by omega);obtain⟨l0,l1,l2⟩:=bC.1 i b x y wr V.1 O hx hy;obtain⟨z,hz⟩:∃z,M3 x y u v=z:=⟨_,rfl⟩
   have aK:=Kh (λW=>(by rw[<-hz];exact HC.1 x y 1 u v 1 W:Calls prog 194 #[.agg #[.int .i64 (x:Int),.int .i64 (y:Int),.int .i64 1],.agg #[.int .i64 (u:Int),.int .i64 (v:Int),.int .i64 1]] W λe w'=>e=.returned (.int .i64 z)/\Below W.heap.size W w'));have kY:(i:Int)<(N:Int):=by omega
   clear O hx hy I hz HC;go_upto_region 8 with(fail)
   refine K6 (λW=>W.cell? ⟨g,i*3,none⟩=some (.int .i64 (x:Int))/\W.cell? ⟨g,i*3+1,none⟩=some (.int .i64 (y:Int))/\W.cell? ⟨g,i*3+2,none⟩=some (.int .i64 1)/\W.cell? ⟨gb,0,none⟩=some (.int .i64 (u:Int))/\W.cell? ⟨gb,1,none⟩=some (.int .i64 (v:Int))/\W.cell? ⟨gb,2,none⟩=some (.int .i64 1)) (λW H=>⟨Au H l0,Au H l1,Au H l2,Au H r0,Au H r1,Au H r2⟩) (λaL hHeld0=>?_);refine Al 0 ?_;refine Al 1 ?_;refine Al 2 ?_;refine Al 3 ?_;refine Al 4 ?_;refine Al 5 ?_;refine Al 6 ?_;refine Al 7 ?_;refine Al 8 ?_;refine Al 9 ?_;refine Al 10 ?_;refine F9 11 rfl (λK hK=>?_);focus(go_simp;refine(aK.1 _).mono ?_;rintro e wz ⟨rfl,U⟩;have J:=Kh ((Below.refl _ wr).drew.trans U);clear U;(first|with_reducible refine hK.out _ _ ?_ (λhHeld1=>?_) |(go_wp2_with fail;with_reducible refine hK.out _ _ ?_ (λhHeld1=>?_))))
   focus((try dsimp only);exact aL.1 _ J.1)
   focus(clear hK K;(try simp only[Act.put,Br,Bt,Bs]))
   refine Al 12 ?_;refine Al 13 ?_;refine Al 14 ?_;refine K5 15 rfl (λK hK=>?_);go_simp
   refine hK.out _ _ ?_;clear hK K
   (try simp only[Act.put,Br,Bt,Bs])
   go_wp2;go_ret2
   exact⟨⟨_,rfl⟩,V.1.trans (J.1.mono V.1.size)⟩
end
end Go.Proofs.YtenlbhlllgppmaaGreatDoor
