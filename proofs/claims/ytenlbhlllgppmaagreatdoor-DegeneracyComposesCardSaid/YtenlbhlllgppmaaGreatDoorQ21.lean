/- Append of all elements of a row, as a step of the walk, and rows of integers that are joined. -/
import Derived.Test.YtenlbhlllgppmaaGreatDoorQ20
import Derived.Deep.Upon
set_option maxRecDepth 100000
set_option maxHeartbeats 8000000
namespace Go.Proofs.YtenlbhlllgppmaaGreatDoor
section
open Go.RowKit
theorem K3 {P:Program} {W:World} {aT:Array Oper} {rest:List Oper} {o:Oper} {a:Act} {Q:Exit->Act->World->Prop} (K:Value->Prop) (bC:o.guard=none) (s x:Operand) (t E:TypeId)
  (ho:o.op=.call { callee:=.builtin .append,args:=#[s,x],argTypes:=#[t,t] }) {z:Value} {U I:Nat} (hU:P.underlying t=some (.slice E))
  (Y:(P.info? E).map (λi=>(i.zero,i.size,i.bytes))=some (some z,U,I)) (aN:z.cells.size=U) (aD:0<U) (B n m g c:Nat) (v:Value) (xs H:List Value)
  (hs:a.eval s=v) (O:OwnK K W B E U v n xs) (hx:a.eval x=.slice (some ⟨g,0,none⟩) m c) (hn:H.length=m*U) (V:∀(j:Nat) (u:Value),H[j]?=some u->W.cell? ⟨g,j,none⟩=some u) (h1:∀u∈H,u.oneCell'=true)
  (hb:(n+m)*I<=140737488355328) (hm:n+m<=9223372036854775807) (bE:0<m) (hB:B<=W.heap.size) (bA:∀u∈H,K u) (bB:∀u∈z.cells.toList,K u)
  (h:∀Z w',OwnK K w' B E U Z (n+m) (xs++H)->W.grownBy w' v.ownBlock->(Z.ownBlock=v.ownBlock∨Z.ownBlock=some W.heap.size)->wpList P aT Q rest (a.put o.dst Z) w'):
  wpList P aT Q (o :: rest) a W:=by
 obtain⟨i0,hi,aJ,aK,aL⟩:=info_parts Y
 have J:∀(j:Nat) (u:Value),H[j]?=some u->W.cell? ((⟨g,0,none⟩:Addr).add j)=some u:=by
  intro j u hu
  have e:(⟨g,0,none⟩:Addr).add j=⟨g,j,none⟩:=by
   unfold Addr.add;split
   ·rename_i h0;rw[h0]
   ·simp
  rw[e];exact V j u hu
 obtain⟨Z,w',hr,g1,g2,_,g3⟩:=run_append_own_at (P:=P) W B t o.type E i0 z U I hU hi aJ aK aL aN aD v n xs O.1 ⟨g,0,none⟩ m c H hn J h1 hm hb hB;have g4:=Ek K W B t o.type E i0 z U I hU hi aJ aK aL aN aD v n xs O.1 ⟨g,0,none⟩ m c H hn J h1 hm hb bE O.2 bA bB hr;refine wpList_plain bC λK' aX=>?_
 unfold Oper.wp execOp;simp only[ho,resolve,invoke,builtin,Sem.run_bind,Sem.run_pure,Result.andThen_ok,List.map_toArray,List.map_cons,List.map_nil,hs,hx,hr];exact aX _ _ (h Z w' ⟨g1,g4⟩ g2 g3)
def Ax (w:World) (g n:Nat):List Value:=(List.range n).map λi=>cellOf w ⟨g,i,none⟩
theorem Ce (w:World) (g n:Nat):(Ax w g n).length=n:=by unfold Ax;rw[List.length_map,List.length_range]
theorem A9 {w:World} {g n j:Nat} (H:j<n):(Ax w g n)[j]?=some (cellOf w ⟨g,j,none⟩):=by
 unfold Ax;rw[List.getElem?_map,List.getElem?_range H];rfl
theorem Dv {w:World} {g n j:Nat} {u:Value} (h:(Ax w g n)[j]?=some u):j<n:=by
 rcases Nat.lt_or_ge j n with H|H
 ·exact H
 ·rw[List.getElem?_eq_none (by rw[Ce];exact H)]at h;cases h
theorem ZRow.cellOf {f:Nat->Int} {w:World} {g N:Nat} (h:ZRow f w g N N) {i:Nat} (I:i<N*2):w.cell? ⟨g,i,none⟩=some (cellOf w ⟨g,i,none⟩):=by
 obtain⟨u,H⟩:=kX (h.has i I);rw[H,Ae H]
theorem ZRow.shape {f:Nat->Int} {w:World} {g N:Nat} (h:ZRow f w g N N) {i:Nat} (O:i<N*2):(∃s,Go.Proofs.YtenlbhlllgppmaaGreatDoor.cellOf w ⟨g,i,none⟩=.bool s)∨∃p n c,Go.Proofs.YtenlbhlllgppmaaGreatDoor.cellOf w ⟨g,i,none⟩=.slice p n c:=by
 obtain⟨s,p,n,c,H,I,_⟩:=h.val (i / 2) (by omega);rcases Nat.mod_two_eq_zero_or_one i with J|J
 ·rw[show i / 2*2=i by omega]at H
  exact .inl ⟨s,Ae H⟩
 ·rw[show i / 2*2+1=i by omega]at I
  exact .inr ⟨p,n,c,Ae I⟩
theorem Hk {f:Nat->Int} {w:World} {g N:Nat} (h:ZRow f w g N N) {u:Value} (J:u∈Ax w g (N*2)):(∃s,u=.bool s)∨∃p n c,u=.slice p n c:=by
 obtain⟨j,H⟩:=List.getElem?_of_mem J;have I:=Dv H;rw[A9 I]at H;injection H with H
 subst H;exact h.shape I
theorem Nv {f:Nat->Int} {w:World} {g N:Nat} (h:ZRow f w g N N):∀u∈Ax w g (N*2),u.oneCell'=true:=by
 intro u H;rcases Hk h H with⟨s,rfl⟩ |⟨p,n,c,rfl⟩ <;> rfl
theorem Po {f:Nat->Int} {w:World} {g N:Nat} (h:ZRow f w g N N):∀u∈Ax w g (N*2),NotInt u:=by
 intro u H;rcases Hk h H with⟨s,rfl⟩ |⟨p,n,c,rfl⟩
 ·exact NotInt.bool _
 ·exact NotInt.slice _ _ _
theorem Ld {f:Nat->Int} {w:World} {g N:Nat} (h:ZRow f w g N N):∀(j:Nat) (u:Value),(Ax w g (N*2))[j]?=some u->w.cell? ⟨g,j,none⟩=some u:=by
 intro j u H;have I:=Dv H;rw[A9 I]at H;rw[h.cellOf I,H]
theorem OwnZ.more {f r:Nat->Int} {W w':World} {B n m g:Nat} {v Y:Value} {I:List Value} (O:OwnK NotInt W B 84 2 v n I) (h2:∀j,j<n->ZX (f j) W I (j*2))
  (hr:ZRow r W g m m) (h3:OwnK NotInt w' B 84 2 Y (n+m) (I++Ax W g (m*2))) (hg:W.grownBy w' v.ownBlock) (J:Nat->Int) (Z:∀j,j<n->J j=f j) (h:∀j,j<m->J (n+j)=r j):OwnZ J w' B Y (n+m):=by
 have H:=I32.grown (K:=NotInt) (λx=>Fv x) O.2 hg;refine⟨_,h3,λj hj=>?_⟩;by_cases hjn:j<n
 ·rw[Z j hjn];exact((h2 j hjn).i32 H).app
 ·obtain⟨k,rfl⟩:∃k,j=n+k:=⟨j - n,by omega⟩
  have U:k<m:=by omega
  have V:I.length=n*2:=O.1.1;rw[h k U];obtain⟨s,p,c,d,c0,c1,hz⟩:=hr.val k U;refine⟨s,p,c,d,?_,?_,hz.i32 H⟩
  ·rw[List.getElem?_append_right (by omega),V,show(n+k)*2 - n*2=k*2 by omega,A9 (by omega),Ae c0]
  ·rw[List.getElem?_append_right (by omega),V,show(n+k)*2+1 - n*2=k*2+1 by omega,A9 (by omega),Ae c1]
end
section
open Go.RowKit Eli Tryz
theorem Jz (s:Bool) (p:Option Addr) (n c:Nat) (t:Bool) (q:Option Addr) (m d:Nat) (x:Rat) (w:World) (h:Qs w s p n c t q m d x) (I:hq x<=1000000000):
  Calls prog 80 #[.agg #[.bool s,.slice p n c,.bool t,.slice q m d]] w λe w'=>Gr w' e x/\Below w.heap.size w w':=by
 have H:=Lu s p n c x.num t q m d x.den w h.1.raw h.2.raw (by have:=h.sizes;omega) (by have:=h.sizes;omega);rw[B7]at H;exact H
theorem Px {P:Program} {W:World} {O:Array Oper} {rest:List Oper} {o:Oper} {a:Act} {Q:Exit->Act->World->Prop} (V:o.guard=none) (s x:Operand) (t E:TypeId)
  (ho:o.op=.call { callee:=.builtin .append,args:=#[s,x],argTypes:=#[t,t] }) {z:Value} {sz H:Nat} (hU:P.underlying t=some (.slice E))
  (I:(P.info? E).map (λi=>(i.zero,i.size,i.bytes))=some (some z,sz,H)) (p:Option Addr) (c:Nat)
  (hs:a.eval s=.slice none 0 0) (hx:a.eval x=.slice p 0 c)
  (h:wpList P O Q rest (a.put o.dst (.slice none 0 0)) W):
  wpList P O Q (o :: rest) a W:=by
 obtain⟨Y,Z,aL,aN,aT⟩:=info_parts I
 have J:Src P Y.size t (.slice p 0 c) 0 [] W:=by
  cases p with
  | none=>exact Src.ofNil W hU c
  | some a=>exact Src.ofSlice W hU a 0 c [] (by simp) (λj u h=>by simp at h) (λu h=>by cases h)
 have hr:=run_append_nothing (P:=P) W t t o.type E Y hU Z none 0 0 (kT _) (.slice p 0 c) J;refine wpList_plain V λK' U=>?_
 unfold Oper.wp execOp;simp only[ho,resolve,invoke,builtin,Sem.run_bind,Sem.run_pure,Result.andThen_ok,List.map_toArray,List.map_cons,List.map_nil,hs,hx,hr];exact U _ _ h
theorem Zx (g N:Nat) (F:Nat->Rat) (w:World) (h:∀i,i<N->QE (IsQ (F i)) w g (i*4)) (hN:N<=1000000) (hF:∀i,i<N->hq (F i)<=1000000000):
  Calls prog 159 #[.slice (some ⟨g,0,none⟩) N N] w λe w'=>(∃g',e=.returned (.slice (some ⟨g',0,none⟩) N N)/\w.heap.size<=g'/\QRow (λi=>IsQ (F i)) w' g' N N)/\Below w.heap.size w w':=by
 have HR:=Kh h;have HF:=Kh hF;have cB:=Ir N (by omega);clear h hF;go_enter func159,ntmps159
 go_wp2_with fail
 have aJ:=QRow.made (λi=>IsQ (F i)) w N;obtain⟨w0,aK⟩:∃w0,w.alloc (.cells (madeCells #[.bool false,.slice none 0 0,.bool false,.slice none 0 0] (N*4)) 86)=w0:=⟨_,rfl⟩
 have aU:Below w.heap.size w w0:=aK▸(Below.refl _ _).alloc (kT _) _;rw[aK]at aJ ⊢;have aD:=Kh aJ;have Y:=Kh aU;obtain⟨G,hG⟩:∃G,w.heap.size=G:=⟨_,rfl⟩
 rw[hG]at aD Y ⊢;have aT:=Kh hG;clear aJ aU aK hG cB;go_loopw [11] (λii wr=>∃k:Nat,k<=N/\ii=.int .i64 k/\QRow (λi=>IsQ (F i)) wr G N k/\Below G w wr) (λii _=>N - (intOf ii).toNat)
 case atStart=>exact⟨0,Nat.zero_le _,rfl,aD.1,Y.1⟩
 case round=>
  obtain⟨k,hk,rfl,V,I⟩:=hrel;obtain⟨w1,rfl⟩:∃w1:World,w1=wr:=⟨_,rfl⟩
  have J:=Kh V;have Z:=Kh I;clear V I aD Y;by_cases hlt:k<N
  ·have gF:(k:Int)<(N:Int):=by omega
   have I:=Z.1;rw[<-aT.1]at I;obtain⟨s,p,n,c,t,q,m,d,a0,a1,a2,a3,hx⟩:=(HR.1 k hlt).keep (IsQ.solid _) I;have HX:=Kh (show Qs w1 s p n c t q m d (F k)from hx);clear hx I;go_wp2_with fail
   obtain⟨w2,aL⟩:∃w2,w1.alloc (.cells #[.bool s,.slice p n c,.bool t,.slice q m d] 86)=w2:=⟨_,rfl⟩
   have U:Below w1.heap.size w1 w2:=aL▸(Below.refl _ _).alloc (kT _) _;rw[aL];refine(Jz s p n c t q m d (F k) w2 (HX.1.keep U) (HF.1 k hlt)).mono ?_;rintro e w3 ⟨⟨s3,p3,n3,c3,t3,q3,m3,d3,rfl,bA⟩,aX⟩;have O:=U.trans (aX.mono U.size);have H:=QRow.keep (λ_=>IsQ.solid _) J.1 O;have bE:=Kh (QRow.set (k':=k+1) (λ_=>IsQ.solid _) H k hlt (λi=>IsQ (F i)) (IsQ.solid _) (λi' h1 h2=>⟨by omega,rfl⟩) (show IsQ (F k) w3 s3 p3 n3 c3 t3 q3 m3 d3 from bA));have bC:=Kh (Z.1.trans (O.mono (Nat.le_of_lt J.1.sts.1)));obtain⟨u0,gL⟩:=kX (H.has (k*4) (by omega));obtain⟨u1,gN⟩:=kX (H.has (k*4+1) (by omega));obtain⟨u2,hu2⟩:=kX (H.has (k*4+2) (by omega));obtain⟨u3,gP⟩:=kX (H.has (k*4+3) (by omega));have f0:=H.free (k*4) (by omega);have f1:=H.free (k*4+1) (by omega);have f2:=H.free (k*4+2) (by omega);have f3:=H.free (k*4+3) (by omega);clear bA U aX O H aL a0 a1 a2 a3;go_wp2;go_roundw
   case rel=>exact⟨k+1,by omega,by go_num,bE.1,A5 bC.1⟩
   case measure=>simp[intOf];omega
  ·obtain rfl:N=k:=by omega
   have hE:=aT.1;go_wp2;go_ret;exact⟨⟨G,rfl,Nat.le_of_eq hE,J.1⟩,hE▸Z.1⟩
theorem Vu (M B:Nat) (N k D:Int) (F:List Nat) (C:Nat) (X:Nat->Nat->Rat) (n:Nat) (w:World) (h:ModAt w M B N k D F C X) (hn:n<C) (Y:F.length<=1000000) (hX:∀f,f∈F->hq (X n f)<=1000000000):
  Calls prog 116 #[.pointer (some ⟨M,0,none⟩),.int .i64 n] w λe w'=>(∃g,e=.returned (.tuple #[.slice (some ⟨g,0,none⟩) F.length F.length,.int .i64 0])/\w.heap.size<=g/\QRow (λi=>IsQ (X n (F.getD i 0))) w' g F.length F.length)/\Below w.heap.size w w':=by
 obtain⟨GR,c4,_,H⟩:=h.c4;obtain⟨g,r0,hg,hq⟩:=H n hn
 have Z:=Kh (Zx g F.length (λi=>X n (F.getD i 0)) w (λi U=>by
  have e:F[i]?=some (F.getD i 0):=by rw[List.getD_eq_getElem?_getD,List.getElem?_eq_getElem U];rfl
  exact hq i _ e) Y (λi U=>hX _ (by rw[List.getD_eq_getElem?_getD,List.getElem?_eq_getElem U];exact List.getElem_mem U)))
 have aN:(n:Int)<(C:Int):=by omega
 have aL:(0:Int)<=(n:Int):=by omega
 clear h H hq hX hg;go_enter func116,ntmps116
 go_wp2_with fail
 refine Z.1.mono ?_;rintro e w1 ⟨⟨g1,rfl,O,I⟩,J⟩;have V:=Kh (And.intro O (And.intro I J));clear O I J Z;go_wp2
 (first|go_ret2|go_ret)
 exact⟨⟨g1,rfl,V.1.1,V.1.2.1⟩,V.1.2.2⟩
theorem NL.val {F:List Nat} {w:World} {B:Nat} {v:Value} (h:NL F w B v):∃p c,v=.slice p F.length c:=by
 rcases h with⟨rfl,a,c,rfl⟩ |⟨g,cap,e,_⟩
 ·exact⟨a,c,rfl⟩
 ·exact⟨_,_,e⟩
theorem Ln (M B:Nat) (N k D:Int) (F:List Nat) (C:Nat) (X:Nat->Nat->Rat) (w:World) (h:ModAt w M B N k D F C X):
  Calls prog 14 #[.pointer (some ⟨M,0,none⟩)] w λe w'=>e=.returned (.int .i64 (F.length:Int))/\w'=w:=by
 obtain⟨v,c3,H⟩:=h.c3;obtain⟨p,c,rfl⟩:=H.val;clear h H;go_enter func14,ntmps14
 go_wp2;go_ret;exact⟨rfl,rfl⟩
theorem Ge (M B:Nat) (N k D:Int) (F:List Nat) (C:Nat) (X:Nat->Nat->Rat) (w:World) (h:ModAt w M B N k D F C X) (hB:B<=w.heap.size):
  Calls prog 59 #[.pointer (some ⟨M,0,none⟩)] w λe w'=>e=.returned (.agg #[.int .i64 N,.int .i64 k,.int .i64 D])/\Below w.heap.size w w':=by
 have hM:=kV h.lt hB;have c0:=h.c0;have c1:=h.c1;have c2:=h.c2;clear h;go_enter func59,ntmps59
 go_upto_if 4 with(fail)
 obtain⟨w0,O,I,H⟩:=bx1 w #[.int .i64 0,.int .i64 0,.int .i64 0] 23;rw[O];have c0:=Ac H c0;have c1:=Ac H c1;have c2:=Ac H c2;have r0:=I.at_ 0 rfl;have r1:=I.at_ 1 rfl;have r2:=I.at_ 2 rfl;have Z:=I.free_ 0;have f1:=I.free_ 1;have f2:=I.free_ 2;go_wp2;have J:=((I.set_ 0 (.int .i64 N)).set_ 1 (.int .i64 k)).set_ 2 (.int .i64 D);have U:=J.at_ 0 rfl;have V:=J.at_ 1 rfl;have Y:=J.at_ 2 rfl;try simp only[Exit.inBlock,Exit.then]
 refine bodyPost_ret (by simp[results,results59,go_sem,U,V,Y];try rfl) rfl ?_;exact⟨rfl,((H.setCell (p:=⟨w.heap.size,0,none⟩) (kT _) _).setCell (p:=⟨w.heap.size,1,none⟩) (kT _) _).setCell (p:=⟨w.heap.size,2,none⟩) (kT _) _⟩
theorem dN (M B:Nat) (N k D:Int) (F:List Nat) (C:Nat) (X:Nat->Nat->Rat) (w:World) (h:ModAt w M B N k D F C X) (aJ:F.length<=1000000):
  Calls prog 60 #[.pointer (some ⟨M,0,none⟩)] w λe w'=>(∃v,e=.returned v/\OwnN F w' w.heap.size v)/\Below w.heap.size w w':=by
 obtain⟨v,c3,h3⟩:=h.c3;clear h;rcases h3 with⟨rfl,a,c,rfl⟩ |⟨g,cap,rfl,hc,bA,hg,Y⟩
 ·have Z:=Kh (OwnN.nil w w.heap.size)
  go_enter func60,ntmps60
  go_wp2_with (at_builtin;refine Px rfl (.const (.slice none 0 0)) (.tmp 8) _ 3 rfl underlying93 Ep a c rfl rfl ?_)
  go_ret;exact⟨⟨_,rfl,Z.1⟩,Below.refl _ _⟩
 ·rcases Nat.eq_zero_or_pos F.length with h0|V
  ·have Z:=Kh (OwnN.nil w w.heap.size)
   obtain rfl:F=[]:=List.eq_nil_of_length_eq_zero h0;rw[List.length_nil]at c3;clear hc Y aJ h0;go_enter func60,ntmps60
   go_wp2_with (at_builtin;refine Px rfl (.const (.slice none 0 0)) (.tmp 8) _ 3 rfl underlying93 Ep (some ⟨g,0,none⟩) cap rfl rfl ?_)
   go_ret;exact⟨⟨_,rfl,Z.1⟩,Below.refl _ _⟩
  ·have HX:=Kh Y
   have H:∀(j:Nat) (u:Value),(F.map λn:Nat=>Value.int .i64 (n:Int))[j]?=some u->w.cell? ⟨g,j,none⟩=some u:=by
    intro j u J;rw[List.getElem?_map]at J;cases hF:F[j]? with
    | none=>rw[hF]at J;cases J
    | some x=>rw[hF]at J;injection J with J;rw[<-J];exact Y j x hF
   have aD:=Kh H;clear Y H;go_enter func60,ntmps60
   go_wp2_with (at_builtin;refine K3 NotU32 rfl (.const (.slice none 0 0)) (.tmp 8) _ 3 rfl underlying93 Ep rfl (by decide) w.heap.size 0 F.length g cap (.slice none 0 0) [] (F.map λn:Nat=>Value.int .i64 (n:Int)) rfl (OwnK.nil _ _ _ _ _) rfl (by rw[List.length_map,Nat.mul_one]) aD.1 (by intro u O;obtain⟨x,_,rfl⟩:=List.mem_map.1 O;rfl) (by omega) (by omega) V (kT _) (by intro u O;obtain⟨x,_,rfl⟩:=List.mem_map.1 O;exact λ_ h=>by cases h) (by intro u O;simp[Value.cells]at O;subst O;exact λ_ h=>by cases h) ?_;intro v' w' I U aK;have HO:=Kh (show OwnN F w' w.heap.size v' by have h:=I;rw[Nat.zero_add,List.nil_append]at h;exact h);have HB:=Kh (Aw (Below.refl w.heap.size w) (OwnK.nil NotU32 w w.heap.size 3 1).1 U (kT _) (kT _));clear I U aK)
   go_ret;exact⟨⟨_,rfl,HO.1⟩,HB.1⟩
end
section
open Go.RowKit Tryz
/-! The units -/
def uns (n:Nat):Nat->List Nat
 | 0=>[]
 | m+1=>if pun n (m+1)then uns n m++[m+1]else uns n m
theorem Hn (n m:Nat):uns n (m+1)=if pun n (m+1)then uns n m++[m+1]else uns n m:=rfl
theorem Td {n m s:Nat}:s∈uns n m↔1<=s/\s<=m/\pun n s=true:=by
 induction m with
 | zero=>constructor
         ·intro h;simp[uns]at h
         ·rintro⟨H,J,_⟩;omega
 | succ m ih=>
  rw[Hn];split
  ·rename_i hu
   rw[List.mem_append,ih,List.mem_singleton];constructor
   ·rintro(⟨H,J,I⟩|rfl)
    ·exact⟨H,by omega,I⟩
    ·exact⟨by omega,kT _,hu⟩
   ·rintro⟨H,J,I⟩
    rcases Nat.lt_or_ge s (m+1)with h|h
    ·exact .inl ⟨H,by omega,I⟩
    ·exact .inr (by omega)
  ·rename_i hu
   rw[ih];constructor
   ·rintro⟨H,J,I⟩;exact⟨H,by omega,I⟩
   ·rintro⟨H,J,I⟩
    refine⟨H,?_,I⟩;rcases Nat.lt_or_ge s (m+1)with h|h
    ·omega
    ·have:s=m+1:=by omega
     subst this;exact absurd I hu
theorem Ky (n m:Nat):(uns n m).length<=m:=by
 induction m with
 | zero=>exact kT _
 | succ m ih=>
  rw[Hn];split
  ·rw[List.length_append];simp;exact ih
  ·omega
def Wl (n:Nat) (l:List Nat) (a t i:Nat):Bool:=Cm n l i||((uns n n).take t).any λs=>Az n s a==i
theorem Wn (n:Nat) (l:List Nat) (a i:Nat):Wl n l a 0 i=Cm n l i:=by simp[Wl]
theorem Wm {n:Nat} {l:List Nat} {a t s:Nat} (h:(uns n n)[t]?=some s) (i:Nat):Wl n l a (t+1) i=if i=Az n s a then true else Wl n l a t i:=by
 unfold Wl;rw[List.take_add_one,h,Option.toList_some,List.any_append];simp only[List.any_cons,List.any_nil,Bool.or_false];by_cases e:i=Az n s a
 ·rw[if_pos e,e];simp
 ·rw[if_neg e]
  have:(Az n s a==i)=false:=by simpa using λh=>e h.symm
  rw[this,Bool.or_false]
theorem aH {n:Nat} {l:List Nat} {a:Nat} (i:Nat):Wl n l a (uns n n).length i=Cm n (l++[a]) i:=by
 unfold Wl;rw[List.take_length];unfold Cm;rw[List.any_append];congr 1;simp only[List.any_cons,List.any_nil,Bool.or_false];rw[Bool.eq_iff_iff];simp only[List.any_eq_true,List.mem_range,Bool.and_eq_true,Td];constructor
 ·rintro⟨s,⟨I,J,H⟩,e⟩
  exact⟨s - 1,by omega,by rw[show s - 1+1=s by omega];exact⟨H,e⟩⟩
 ·rintro⟨j,O,H,e⟩
  exact⟨j+1,⟨by omega,by omega,H⟩,e⟩
/-! A row of cells of one kind,written in place: cell i holds f i -/
structure CRow (f:Nat->Value) (w:World) (g m:Nat):Prop where
 stk:Stk NotU32 w g
 free:∀i,i<m->w.frozen? ⟨g,i,none⟩=false
 val:∀i,i<m->w.cell? ⟨g,i,none⟩=some (f i)
theorem CRow.keep {f:Nat->Value} {w w':World} {g m:Nat} (h:CRow f w g m) (I:Below w.heap.size w w'):CRow f w' g m:=
 ⟨h.stk.next I,λi H=>Ab I (by rw[h.val i H];rfl) (h.free i H),λi H=>(I.cell (p:=⟨g,i,none⟩) h.stk.1).trans (h.val i H)⟩
theorem CRow.grown {f:Nat->Value} {w w':World} {g m:Nat} {o:Option Nat} (h:CRow f w g m) (hg:w.grownBy w' o) (J:∀b,o=some b->g≠b):CRow f w' g m:=by
 have H:w'.heap[g]?=w.heap[g]?:=hg.block g h.stk.1 (λe=>J _ e.symm rfl);refine⟨⟨kV h.stk.1 hg.size,λi v O=>h.stk.2 i v ((World.cell?_of_block (a:=⟨g,i,none⟩) H).symm.trans O)⟩,λi I=>(World.frozen?_of_block (a:=⟨g,i,none⟩) H).trans (h.free i I),λi I=>(World.cell?_of_block (a:=⟨g,i,none⟩) H).trans (h.val i I)⟩
theorem CRow.set {f:Nat->Value} {w:World} {g m:Nat} (h:CRow f w g m) (k:Nat) (u:Value) (O:NotU32 u) (I:Nat->Value) (J:∀i,i<m->I i=if i=k then u else f i):CRow I (w.setCell ⟨g,k,none⟩ u) g m:=by
 refine⟨Bc h.stk _ _ O,λi H=>At (h.free i H),λi H=>?_⟩;rw[J i H];by_cases e:i=k
 ·subst e
  rw[if_pos rfl];exact World.cell?_setCell_same' _ _ _ (by rw[h.val i H];rfl)
 ·rw[if_neg e,World.cell?_setCell_other _ _ _ _ (by simp <;> omega)]
  exact h.val i H
theorem CRow.congr {f H:Nat->Value} {w:World} {g m:Nat} (h:CRow f w g m) (e:∀i,i<m->H i=f i):CRow H w g m:=⟨h.stk,h.free,λi I=>by rw[e i I];exact h.val i I⟩
theorem CRow.i32 {f:Nat->Value} {w:World} {g m k:Nat} (h:CRow f w g m) (u:Value):I32 w (w.setCell ⟨g,k,none⟩ u):=I32.putU h.stk k u
theorem Vj:(prog.info? 4).map (λi=>(i.zero,i.size,i.bytes))=some (some (.bool false),1,1):=by kernel_rfl
theorem iC (n:Nat) (h:n<=1000000) (w:World):
  (Instr.makeSlice 240 (.int .i64 (n:Int)) (.int .i64 (n:Int))).run prog w=.ok (.slice (some ⟨w.heap.size,0,none⟩) n n) (w.alloc (.cells (madeCells #[.bool false] n) 4)):=by
 obtain⟨i,O,H,I,J⟩:=info_parts Vj;have hr:=run_make (P:=prog) w 240 4 i _ underlying240 O H .i64 .i64 n n (by omega) (Int.le_refl _) (by rw[J];omega) (by omega);rw[Int.toNat_natCast,I,Nat.mul_one]at hr;exact hr
theorem cR {z:Value} {n i:Nat} {v:Value} (h:(madeCells #[z] n)[i]?=some v):v=z:=by
 unfold madeCells at h;simp only[Array.getElem?_map,Array.getElem?_range]at h;split at h
 ·simp only[Option.map_some]at h
  injection h with h
  rw[<-h];have H:i % 1=0:=Nat.mod_one i;show(#[z]:Array Value)[i % 1]! = _;rw[H];rfl
 ·cases h
theorem CRow.made {z:Value} (O:NotU32 z) (w:World) (n:Nat) (t:TypeId):CRow (λ_=>z) (w.alloc (.cells (madeCells #[z] n) t)) w.heap.size n:=by
 have I:=Blk.new w t (madeCells #[z] n);refine⟨Stk.of I ?_,λi _=>I.free_ i,λi H=>?_⟩
 ·intro v J
  obtain⟨i,H⟩:=Array.getElem?_of_mem (Array.mem_toList_iff.1 J);rw[cR H];exact O
 ·rw[I.cell_ i,Array.getElem?_eq_getElem (by rw[size_madeCells];exact H)]
  congr 1;exact cR (Array.getElem?_eq_getElem (by rw[size_madeCells];exact H))
/-! Points -/
def N3 (n a:Nat):List Value:=[.int .i64 ((a / n:Nat):Int),.int .i64 ((a % n:Nat):Int),.int .i64 1]
def OwnPt (n:Nat) (l:List Nat) (w:World) (B:Nat) (v:Value):Prop:=OwnK NotU32 w B 213 3 v l.length (l.flatMap (N3 n))
theorem OwnPt.nil (n:Nat) (w:World) (B:Nat):OwnPt n [] w B (.slice none 0 0):=OwnK.nil _ _ _ _ _
theorem OwnPt.keep {n:Nat} {l:List Nat} {w w':World} {B:Nat} {v:Value} (h:OwnPt n l w B v) (H:Below w.heap.size w w'):OwnPt n l w' B v:=OwnK.keep h H
theorem OwnPt.push {n:Nat} {l:List Nat} {w':World} {B:Nat} {H:Value} {a:Nat} (h:OwnK NotU32 w' B 213 3 H (l.length+1) (l.flatMap (N3 n)++N3 n a)):OwnPt n (l++[a]) w' B H:=by
 unfold OwnPt;rw[List.flatMap_append,List.length_append]
 simpa using h
theorem OwnK.other {K:Value->Prop} {w:World} {B E H n:Nat} {v:Value} {I:List Value} (h:OwnK K w B E H v n I) {a:Addr} (J:a.block<B) {u:Value} (O:K u):OwnK K (w.setCell a u) B E H v n I:=
 ⟨ownsRow_setCell_below h.1 J u,λg hg=>Bc (h.2 g hg) _ _ O⟩
theorem Ya:(prog.info? 213).map (λi=>(i.zero,i.size,i.bytes))=some (some (.agg #[.int .i64 0,.int .i64 0,.int .i64 0]),3,24):=by kernel_rfl
def PtL (n:Nat) (l:List Nat) (w:World) (B:Nat) (v:Value):Prop:=(l=[]/\∃a c,v=.slice a 0 c)∨∃g cap,v=.slice (some ⟨g,0,none⟩) l.length cap/\g<B/\∀(j a:Nat),l[j]?=some a->w.cell? ⟨g,j*3,none⟩=some (.int .i64 ((a / n:Nat):Int))/\w.cell? ⟨g,j*3+1,none⟩=some (.int .i64 ((a % n:Nat):Int))/\w.cell? ⟨g,j*3+2,none⟩=some (.int .i64 1)
theorem Ea {n:Nat}:∀{l:List Nat} {j a i:Nat},l[j]?=some a->i<3->(l.flatMap (N3 n))[j*3+i]?=(N3 n a)[i]?
 | [],j,a,i,h,_=>by simp at h
 | x :: l,0,a,i,h,hi=>by
  simp at h;subst h;rw[List.flatMap_cons,List.getElem?_append_left (by simp[N3];omega),Nat.zero_mul,Nat.zero_add]
 | x :: l,j+1,a,i,h,hi=>by
  rw[List.getElem?_cons_succ]at h;rw[List.flatMap_cons,List.getElem?_append_right (by simp[N3];omega)];have e:(j+1)*3+i - (N3 n x).length=j*3+i:=by simp[N3];omega
  rw[e];exact Ea h hi
theorem OwnPt.ptl {n:Nat} {l:List Nat} {w:World} {B:Nat} {v:Value} (h:OwnPt n l w B v):PtL n l w w.heap.size v:=by
 rcases h.1.2 with⟨H,O⟩ |⟨g,cap,cs,H,hB,hg,Z,U,V,_⟩
 ·exact .inl ⟨List.eq_nil_of_length_eq_zero O,_,_,H⟩
 ·have Y:=h.2 g (by rw[H];rfl)
  have I:=h.1;subst H;refine .inr ⟨g,cap,rfl,Y.1,λj a J=>⟨?_,?_,?_⟩⟩
  ·exact Aq I ((Ea (i:=0) J (by omega)).trans rfl)
  ·exact Aq I ((Ea (i:=1) J (by omega)).trans rfl)
  ·exact Aq I ((Ea (i:=2) J (by omega)).trans rfl)
theorem PtL.next {n:Nat} {l:List Nat} {w w':World} {B:Nat} {v:Value} (h:PtL n l w B v) (H:Below B w w'):PtL n l w' B v:=by
 rcases h with h |⟨g,cap,e,hg,V⟩
 ·exact .inl h
 ·exact .inr ⟨g,cap,e,hg,λj a U=>by
   obtain⟨I,J,O⟩:=V j a U;exact⟨(H.cell (p:=⟨g,_,none⟩) hg).trans I,(H.cell (p:=⟨g,_,none⟩) hg).trans J,(H.cell (p:=⟨g,_,none⟩) hg).trans O⟩⟩
theorem PtL.up {n:Nat} {l:List Nat} {w:World} {B B':Nat} {v:Value} (h:PtL n l w B v) (hB:B<=B'):PtL n l w B' v:=by
 rcases h with h |⟨g,cap,e,hg,H⟩
 ·exact .inl h
 ·exact .inr ⟨g,cap,e,kV hg hB,H⟩
theorem R4 (n:Int) (w:World) (H:0<n) (I:n<=120):Calls prog 186 #[.int .i64 n] w λe w'=>e=.returned (.int .i64 0)/\w'=w:=by
 go_enter func186,ntmps186
 go_wp2;go_ret;exact⟨rfl,rfl⟩
theorem Mv (n:Nat) (w:World) (h0:0<n) (hn:n<=120):
  Calls prog 142 #[.int .i64 n] w λe w'=>(∃v,e=.returned (.tuple #[v,.int .i64 0])/\OwnPt n (pts n (n*n)) w' w.heap.size v)/\Below w.heap.size w w':=by
 obtain⟨U,aN⟩:∃m,n*n=m:=⟨_,rfl⟩
 have mX:U<=14400:=by rw[<-aN];exact Nat.mul_le_mul hn hn
 have nA:(n:Int)*(n:Int)=(U:Nat):=by rw[<-aN];push_cast;rfl
 have mE:=iC U (by omega);have kZ:=Kh aN;rw[aN];clear aN;go_enter func142,ntmps142
 go_wp2_with fail
 refine(R4 n w (by omega) (by omega)).mono ?_;rintro e w1 ⟨rfl,rfl⟩;go_wp2_with fail
 go_loopw [5,6] (λv s wr=>∃m:Nat,m<=n/\s=.int .i64 ((m:Int)+1)/\OwnN (uns n m) wr w1.heap.size v/\Below w1.heap.size w1 wr) (λ_ s _=>n+1 - (intOf s).toNat)
 case atStart=>exact⟨0,Nat.zero_le _,rfl,OwnN.nil _ _,Below.refl _ _⟩
 case round=>
  obtain⟨m,hm,rfl,eP,hb⟩:=hrel;obtain⟨w2,rfl⟩:∃w2:World,w2=wr:=⟨_,rfl⟩
  have aD:=Kh eP;have HB:=Kh hb;clear eP hb;by_cases hlt:m<n
  ·have mZ:(m:Int)+1<=(n:Int):=by omega
   go_wp2_with fail
   refine(E7 ((m:Int)+1) n w2 (by omega) (by omega) (by omega) (by omega)).mono ?_;rintro e w3 ⟨rfl,k,rfl⟩
   have lH:Int.gcd ((m:Int)+1) (n:Int)=Nat.gcd (m+1) n:=by
    have:((m:Int)+1)=((m+1:Nat):Int):=by push_cast;rfl
    rw[this];rfl
   rw[lH];have bE:=Kh (Aa HB.1 k);have lA:=Kh (aD.1.keep (Aa (Below.refl _ w2) k));clear lH;by_cases H:pun n (m+1)=true
   ·have hu2:(((Nat.gcd (m+1) n:Nat):Int)==1)=true:=by unfold pun at H;simp only[beq_iff_eq]at H;rw[H];rfl
    have HU:=Kh H;have aK:=Kh (Ky n m);have kY:=Kh (show OwnK NotU32 (w2.drewN k) w1.heap.size 3 1 u5 (uns n m).length ((uns n m).map λn:Nat=>Value.int .i64 (n:Int))from lA.1);clear H;go_wp2_with (at_builtin;refine Bj NotU32 rfl (.tmp 28) (.tmp 30) _ 3 rfl underlying93 Ep rfl (by decide) w1.heap.size (uns n m).length u5 ((uns n m).map λn:Nat=>Value.int .i64 (n:Int)) [.int .i64 ((m:Int)+1)] rfl kY.1 rfl rfl (by intro u H;simp at H;subst H;rfl) (by have:=aK.1;omega) (by have:=aK.1;omega) bE.1.size (by intro u H;simp at H;subst H;exact λ_ h=>by cases h) (by intro u H;simp[Value.cells]at H;subst H;exact λ_ h=>by cases h) ?_;intro v9 w9 I O aT;have cB:=Kh (show OwnN (uns n m++[m+1]) w9 w1.heap.size v9 from OwnN.push (by rw[show(((m+1:Nat):Int))=(m:Int)+1 by push_cast;rfl];exact I));have bC:=Kh (bE.1.trans (Aw (Below.refl _ _) kY.1.1 O (kT _) bE.1.size));clear I O aT)
    go_roundw
    case rel=>exact⟨m+1,by omega,by go_num,by rw[Hn,if_pos HU.1];exact cB.1,bC.1⟩
    case measure=>simp[intOf];omega
   ·have hu2:(((Nat.gcd (m+1) n:Nat):Int)==1)=false:=by
     unfold pun at H;simp only[beq_iff_eq]at H;simp;omega
    have HU:=Kh H;clear H;go_wp2;go_roundw
    case rel=>exact⟨m+1,by omega,by go_num,by rw[Hn,if_neg HU.1];exact lA.1,bE.1⟩
    case measure=>simp[intOf];omega
  ·obtain rfl:n=m:=by omega
   go_wp2_with fail
   obtain⟨J,mC⟩:∃g,w2.heap.size=g:=⟨_,rfl⟩
   have V:=CRow.made (z:=.bool false) (λ_ h=>by cases h) w2 U 4;obtain⟨wS,hS⟩:∃wS,w2.alloc (.cells (madeCells #[.bool false] U) 4)=wS:=⟨_,rfl⟩
   have hO:Below w2.heap.size w2 wS:=hS▸(Below.refl _ _).alloc (kT _) _;rw[hS]at V ⊢;obtain⟨pu,cu,mH⟩:=Bf (show OwnK NotU32 w2 w1.heap.size 3 1 u5 (uns n n).length _ from aD.1).1;subst mH;have hP:=OwnN.nl aD.1;have hD:=Kh HB.1.size;rw[mC]at V hO hP hD ⊢;have lV:=Kh hP;have hY:=Kh hO;have iL:=Kh (show CRow (λi=>.bool (Cm n (pts n 0) i)) wS J U from V.congr (λi _=>rfl));have mU:=Kh (Ky n n);clear V hO hP hS aD mE;go_loopw [7,38] (λv ii wr=>∃k:Nat,k<=U/\ii=.int .i64 k/\OwnPt n (pts n k) wr (J+1) v/\CRow (λi=>.bool (Cm n (pts n k) i)) wr J U/\Below J wS wr) (λ_ ii _=>U - (intOf ii).toNat)
   case atStart=>exact⟨0,Nat.zero_le _,rfl,OwnPt.nil _ _ _,iL.1,Below.refl _ _⟩
   case round=>
    obtain⟨k,hk,rfl,lI,V,lE⟩:=hrel;obtain⟨w3,rfl⟩:∃w3:World,w3=wr:=⟨_,rfl⟩
    have hG:=Kh lI;have hE:=Kh V;have gL:=Kh lE;clear lI lE iL;by_cases hkN:k<U
    ·have mY:(k:Int)<(U:Int):=by omega
     have hq:(k:Int).tdiv (n:Int)=((k / n:Nat):Int):=by rw[Int.tdiv_eq_ediv_of_nonneg (by omega)];rfl
     have hr:(k:Int).tmod (n:Int)=((k % n:Nat):Int):=by rw[Int.tmod_eq_emod_of_nonneg (by omega)];rfl
     have mA:k / n<n:=Nat.div_lt_of_lt_mul (by rw[kZ.1];exact hkN);have mB:k % n<n:=Nat.mod_lt _ h0;obtain⟨u,H⟩:∃u,k / n=u:=⟨_,rfl⟩
     obtain⟨v,hv⟩:∃v,k % n=v:=⟨_,rfl⟩
     rw[H]at hq mA;rw[hv]at hr mB;have HU:=Kh H;have HV:=Kh hv;have mF:(n:Int)≠0:=by omega
     have s0:=V.val k hkN;clear H hv V;go_wp2_with fail
     go_quiet (fail)
     generalize hw4:w3.drewN nq=w4;have aU:Below w3.heap.size w3 w4:=hw4▸Aa (Below.refl _ _) nq;have s4:=Ac aU s0;have gN:=Kh (gL.1.trans (aU.mono (Nat.le_of_lt hE.1.stk.1)));have aL:=Kh (hG.1.keep aU);have bY:=Kh (hE.1.keep aU);clear hw4 aU s0 hG hE gL hq hr;cases hs:Cm n (pts n k) k with
     | true=>
      rw[hs]at s4;have HP:=Kh (show pts n (k+1)=pts n k by rw[Cn,hs];simp);clear hs;go_wp2;go_roundw
      case rel=>exact⟨k+1,by omega,by go_num,by rw[HP.1];exact aL.1,by rw[HP.1];exact bY.1,gN.1⟩
      case measure=>simp[intOf];omega
     | false=>
      rw[hs]at s4;have HS:=Kh hs;clear hs;go_wp2_with fail
      refine(E7 u v w4 (by omega) (by omega) (by omega) (by omega)).mono ?_;rintro e w5 ⟨rfl,m1,rfl⟩;have lF:Int.gcd (u:Int) (v:Int)=Nat.gcd u v:=rfl;rw[lF]
      have mD:Nat.gcd u v<=n+n:=by
       rcases Nat.eq_zero_or_pos u with h|h
       ·subst h;rw[Nat.gcd_zero_left];omega
       ·have:=Nat.gcd_le_left v h;omega
      go_wp2_with fail
      refine(E7 ((Nat.gcd u v:Nat):Int) n _ (by omega) (by omega) (by omega) (by omega)).mono ?_;rintro e w6 ⟨rfl,m2,rfl⟩;have lG:Int.gcd ((Nat.gcd u v:Nat):Int) (n:Int)=Nat.gcd (Nat.gcd u v) n:=rfl;rw[lG];generalize hw5:(w4.drewN m1).drewN m2=w5;have cX:Below w4.heap.size w4 w5:=hw5▸Aa (Aa (Below.refl _ _) m1) m2;have gP:=Kh (gN.1.trans (cX.mono (Nat.le_of_lt bY.1.stk.1)));have Y:=Kh (aL.1.keep cX);have aJ:=Kh (bY.1.keep cX);have lB:=Kh (show E4 n k=(Nat.gcd (Nat.gcd u v) n==1)by unfold E4;rw[HU.1,HV.1]);clear hw5 cX s4 aL bY gN lF lG mD;cases ho:(Nat.gcd (Nat.gcd u v) n==1)with
      | false=>
       have mG:(((Nat.gcd (Nat.gcd u v) n:Nat):Int) != 1)=true:=by
        simp only[beq_eq_false_iff_ne]at ho;simp;omega
       have HP:=Kh (show pts n (k+1)=pts n k by rw[Cn,lB.1,ho];simp);clear ho;go_wp2;go_roundw
       case rel=>exact⟨k+1,by omega,by go_num,by rw[HP.1];exact Y.1,by rw[HP.1];exact aJ.1,gP.1⟩
       case measure=>simp[intOf];omega
      | true=>
       have mG:(((Nat.gcd (Nat.gcd u v) n:Nat):Int) != 1)=false:=by
        simp only[beq_iff_eq]at ho;rw[ho];rfl
       have HP:=Kh (show pts n (k+1)=pts n k++[k]by rw[Cn,lB.1,ho,HS.1];rfl)
       have aK:=Kh (show(pts n k).length<=14400 by
        have h1:(pts n k).length<=k:=B6 n k;omega)
       clear ho;go_wp2_with (at_builtin;refine Bj NotU32 rfl (.tmp 59) (.tmp 63) _ 213 rfl underlying159 Ya rfl (by decide) (J+1) (pts n k).length u7 ((pts n k).flatMap (N3 n)) [.int .i64 (u:Int),.int .i64 (v:Int),.int .i64 1] rfl Y.1 rfl rfl (by intro u H;simp at H;rcases H with rfl|rfl|rfl <;> rfl) (by have:=aK.1;omega) (by have:=aK.1;omega) aJ.1.stk.1 (by intro u H;simp at H;rcases H with rfl|rfl|rfl <;> exact λ_ h=>by cases h) (by intro u H;simp[Value.cells]at H;rcases H with rfl|rfl|rfl <;> exact λ_ h=>by cases h) ?_;intro v9 w9 I O aT;have cB:=Kh (show OwnPt n (pts n k++[k]) w9 (J+1) v9 from OwnPt.push (by rw[show N3 n k=[.int .i64 (u:Int),.int .i64 (v:Int),.int .i64 1]by unfold N3;rw[HU.1,HV.1]];exact I));have bC:=Kh (gP.1.trans ((Aw (Below.refl _ _) Y.1.1 O (kT _) aJ.1.stk.1).mono (Nat.le_succ J)));have hZ:=Kh (show CRow (λi=>.bool (Wl n (pts n k) k 0 i)) w9 J U from(aJ.1.grown O (λb hb=>by have:=Ch Y.1.1 hb.symm;omega)).congr (λi _=>by rw[Wn]));clear I O aT)
       clear Y aJ gP;go_loopw [67] (λii w6=>∃t:Nat,t<=(uns n n).length/\ii=.int .i64 t/\CRow (λi=>.bool (Wl n (pts n k) k t i)) w6 J U/\OwnPt n (pts n k++[k]) w6 (J+1) v9/\Below J wS w6) (λii _=>(uns n n).length - (intOf ii).toNat)
       case atStart=>exact⟨0,Nat.zero_le _,rfl,hZ.1,cB.1,bC.1⟩
       case round=>
        obtain⟨t,ht,rfl,dY,gA,lD⟩:=hrel;obtain⟨w6,rfl⟩:∃w6:World,w6=wr:=⟨_,rfl⟩
        have cA:=Kh dY;have dE:=Kh gA;have hB:=Kh lD;clear dY gA lD hZ cB bC;by_cases htl:t<(uns n n).length
        ·have nD:(t:Int)<((uns n n).length:Int):=by omega
         obtain⟨s,hs⟩:∃s,(uns n n)[t]?=some s:=⟨_,List.getElem?_eq_getElem htl⟩
         have hR:=Td.1 (List.mem_of_getElem? hs);have nB:=hR.1;have nC:=hR.2.1;have lX:=Kh hs;rcases lV.1.next (hY.1.trans hB.1)with⟨lZ,_⟩ |⟨gU,mK,e,_,_,_,hx⟩
         ·rw[lZ]at htl;simp at htl
         cases e;have c0:=hx t s hs;obtain⟨SU,cG⟩:∃x,s*u=x:=⟨_,rfl⟩
         obtain⟨SW,cT⟩:∃x,s*v=x:=⟨_,rfl⟩
         obtain⟨P1,cC⟩:∃x,SU % n=x:=⟨_,rfl⟩
         obtain⟨P2,cD⟩:∃x,SW % n=x:=⟨_,rfl⟩
         obtain⟨PN,cF⟩:∃x,P1*n=x:=⟨_,rfl⟩
         have b1:SU<=14400:=by rw[<-cG];exact Nat.mul_le_mul (by omega:s<=120) (by omega:u<=120)
         have b2:SW<=14400:=by rw[<-cT];exact Nat.mul_le_mul (by omega:s<=120) (by omega:v<=120)
         have b3:P1<n:=cC▸Nat.mod_lt _ h0;have b4:P2<n:=cD▸Nat.mod_lt _ h0;have b5:PN<=14400:=by rw[<-cF];exact Nat.mul_le_mul (by omega:P1<=120) (by omega:n<=120)
         have e1:(s:Int)*(u:Int)=(SU:Nat):=by rw[<-cG];push_cast;rfl
         have e2:(s:Int)*(v:Int)=(SW:Nat):=by rw[<-cT];push_cast;rfl
         have e3:(SU:Int).tmod (n:Int)=(P1:Nat):=by rw[Int.tmod_eq_emod_of_nonneg (by omega),<-cC];rfl
         have e4:(SW:Int).tmod (n:Int)=(P2:Nat):=by rw[Int.tmod_eq_emod_of_nonneg (by omega),<-cD];rfl
         have e5:(P1:Int)*(n:Int)=(PN:Nat):=by rw[<-cF];push_cast;rfl
         have hQ:PN+P2=Az n s k:=by unfold Az;rw[HU.1,HV.1,cG,cT,cC,cD,cF]
         obtain⟨Z,hN⟩:∃x,PN+P2=x:=⟨_,rfl⟩
         have e6:(PN:Int)+(P2:Int)=(Z:Nat):=by omega
         have lC:Z<U:=by rw[<-hN,hQ,<-kZ.1];exact Su h0 s k
         have mM:(Z:Int)<(U:Int):=by omega
         have lU:=Kh (show Z=Az n s k by rw[<-hN,hQ]);have d0:=cA.1.val Z lC;have d1:=cA.1.free Z lC;have i0:(0:Int)<=(Z:Int):=by omega
         have v1:IntKind.i64.wrap (SU:Int)=(SU:Nat):=IntWalk.i64_in _ (by omega);have v2:IntKind.i64.wrap (SW:Int)=(SW:Nat):=IntWalk.i64_in _ (by omega);have v3:IntKind.i64.wrap (PN:Int)=(PN:Nat):=IntWalk.i64_in _ (by omega);have v5:IntKind.i64.wrap (P1:Int)=(P1:Nat):=IntWalk.i64_in _ (by omega);have v6:IntKind.i64.wrap (P2:Int)=(P2:Nat):=IntWalk.i64_in _ (by omega);have z1:((n:Int)==0)=false:=by simpa using mF
         have z2:n≠0:=by omega
         have v4:IntKind.i64.wrap (Z:Int)=(Z:Nat):=IntWalk.i64_in _ (by omega);have lR:=Kh (show CRow (λi=>.bool (Wl n (pts n k) k (t+1) i)) (w6.setCell ⟨J,Z,none⟩ (.bool true)).drew J U from(cA.1.set Z (.bool true) (λ_ h=>by cases h) (λi=>.bool (Wl n (pts n k) k (t+1) i)) (λi _=>by rw[Wm lX.1 i,<-lU.1];split <;> rfl)).keep (Below.refl _ _).drew);have lW:=Kh (show OwnPt n (pts n k++[k]) (w6.setCell ⟨J,Z,none⟩ (.bool true)).drew (J+1) v9 from OwnPt.keep (OwnK.other dE.1 (a:=⟨J,Z,none⟩) (kW J) (λ_ h=>by cases h)) (Below.refl _ _).drew);have lP:=Kh (show Below J wS (w6.setCell ⟨J,Z,none⟩ (.bool true)).drew from(hB.1.setCell (p:=⟨J,Z,none⟩) (kT _) _).drew);clear cG cT cC cD cF hQ hN hs hR hx;go_upto_region 21 with(fail)
         go_region_held3 (λ_=>True) (trivial) (fail)
         all_goals go_wp2
         all_goals go_roundw
         all_goals first
          | exact⟨t+1,by omega,by go_num,lR.1,lW.1,lP.1⟩
          |(simp[intOf];omega)
        ·obtain rfl:(uns n n).length=t:=by omega
         have lQ:=Kh (show CRow (λi=>.bool (Cm n (pts n k++[k]) i)) w6 J U from cA.1.congr (λi _=>by rw[aH]));go_wp2;go_roundw
         case rel=>exact⟨k+1,by omega,by go_num,by rw[HP.1];exact dE.1,by rw[HP.1];exact lQ.1,hB.1⟩
         case measure=>simp[intOf];omega
    ·obtain rfl:U=k:=by omega
     have lT:=Kh (show OwnPt n (pts n U) w3 w1.heap.size u7 from by
      obtain⟨⟨e0,h1⟩,h2⟩:=hG.1;refine⟨⟨e0,?_⟩,h2⟩;rcases h1 with h1 |⟨g,cap,cs,e1,hg,rest⟩
      ·exact .inl h1
      ·exact .inr ⟨g,cap,cs,e1,by have:=hD.1;omega,rest⟩)
     have lS:=Kh (HB.1.trans ((hY.1.trans gL.1).mono hD.1));clear V;go_wp2
     (first|go_ret2|go_ret)
     exact⟨⟨_,rfl,lT.1⟩,lS.1⟩
def plc (f:Nat->Nat×Int) (i:Nat):Value:=.int .i64 (if i % 2=0 then((f (i / 2)).1:Int)else(f (i / 2)).2)
theorem aZ (f:Nat->Nat×Int) (p i:Nat) (x:Nat×Int):plc (Pv f p x) i=if i=p*2+1 then .int .i64 x.2 else if i=p*2 then .int .i64 (x.1:Int)else plc f i:=by
 unfold plc Pv;by_cases h1:i=p*2+1
 ·subst h1
  rw[if_pos rfl,if_neg (by omega),show(p*2+1) / 2=p by omega,if_pos rfl]
 ·rw[if_neg h1]
  by_cases h2:i=p*2
  ·subst h2
   rw[if_pos rfl,if_pos (by omega),show p*2 / 2=p by omega,if_pos rfl]
  ·have H:i / 2≠p:=by omega
   simp only[if_neg h2,if_neg H]
theorem CRow.place {f:Nat->Nat×Int} {w:World} {g m p:Nat} (h:CRow (plc f) w g m) (x:Nat×Int):CRow (plc (Pv f p x)) ((w.setCell ⟨g,p*2,none⟩ (.int .i64 (x.1:Int))).setCell ⟨g,p*2+1,none⟩ (.int .i64 x.2)) g m:=by
 have H:=h.set (p*2) (.int .i64 (x.1:Int)) (λ_ h=>by cases h) (λi=>if i=p*2 then .int .i64 (x.1:Int)else plc f i) (λi _=>rfl);exact H.set (p*2+1) (.int .i64 x.2) (λ_ h=>by cases h) _ (λi _=>by rw[aZ])
theorem fD:(prog.info? 215).map (λi=>(i.zero,i.size,i.bytes))=some (some (.agg #[.int .i64 0,.int .i64 0]),2,16):=by kernel_rfl
theorem cS {z:Value} {n i:Nat} {v:Value} (h:(madeCells #[z,z] n)[i]?=some v):v=z:=by
 unfold madeCells at h;simp only[Array.getElem?_map,Array.getElem?_range]at h;split at h
 ·simp only[Option.map_some]at h
  injection h with h
  rw[<-h];have H:i % 2=0∨i % 2=1:=by omega
  show(#[z,z]:Array Value)[i % 2]! = _;rcases H with H|H <;> rw[H] <;> rfl
 ·cases h
theorem iE (n:Nat) (h:n<=1000000) (w:World):
  (Instr.makeSlice 160 (.int .i64 (n:Int)) (.int .i64 (n:Int))).run prog w=.ok (.slice (some ⟨w.heap.size,0,none⟩) n n) (w.alloc (.cells (madeCells #[.int .i64 0,.int .i64 0] (n*2)) 215)):=by
 obtain⟨i,O,H,I,J⟩:=info_parts fD;have hr:=run_make (P:=prog) w 160 215 i _ underlying160 O H .i64 .i64 n n (by omega) (Int.le_refl _) (by rw[J];omega) (by omega);rw[Int.toNat_natCast,I]at hr;exact hr
theorem CRow.places (w:World) (n:Nat):CRow (plc (λ_=>(0,0))) (w.alloc (.cells (madeCells #[.int .i64 0,.int .i64 0] (n*2)) 215)) w.heap.size (n*2):=by
 have I:=Blk.new w 215 (madeCells #[.int .i64 0,.int .i64 0] (n*2));refine⟨Stk.of I ?_,λi _=>I.free_ i,λi H=>?_⟩
 ·intro v J
  obtain⟨i,H⟩:=Array.getElem?_of_mem (Array.mem_toList_iff.1 J);rw[cS H];exact λ_ h=>by cases h
 ·rw[I.cell_ i,Array.getElem?_eq_getElem (by rw[size_madeCells];exact H)]
  congr 1;rw[cS (Array.getElem?_eq_getElem (by rw[size_madeCells];exact H))];unfold plc;split <;> rfl
structure WorldAt (w:World) (T B n wt:Nat) (L:List Nat) (f:Nat->Nat×Int):Prop where
 lt:T<B
 c0:w.cell? ⟨T,0,none⟩=some (.int .i64 (n:Int))
 c1:w.cell? ⟨T,1,none⟩=some (.int .i64 (wt:Int))
 c2:∃p c,w.cell? ⟨T,2,none⟩=some (.slice p L.length c)/\PtL n L w B (.slice p L.length c)
 c3:∃g,w.cell? ⟨T,3,none⟩=some (.slice (some ⟨g,0,none⟩) (n*n) (n*n))/\g<B/\∀i,i<n*n*2->w.cell? ⟨g,i,none⟩=some (plc f i)
theorem WorldAt.next {w w':World} {T B B' n wt:Nat} {L:List Nat} {f:Nat->Nat×Int} (h:WorldAt w T B n wt L f) (I:Below B' w w') (hB:B<=B'):WorldAt w' T B n wt L f:=by
 have H:∀g i v,g<B->w.cell? ⟨g,i,none⟩=some v->w'.cell? ⟨g,i,none⟩=some v:=λg i v hg e=>(I.cell (p:=⟨g,i,none⟩) (kV hg hB)).trans e
 obtain⟨p,c,J,U⟩:=h.c2;obtain⟨g,O,hg,V⟩:=h.c3;exact⟨h.lt,H _ _ _ h.lt h.c0,H _ _ _ h.lt h.c1,⟨p,c,H _ _ _ h.lt J,U.next (I.mono hB)⟩,g,H _ _ _ h.lt O,hg,λi Y=>H _ _ _ hg (V i Y)⟩
theorem WorldAt.keep {w w':World} {T B n wt:Nat} {L:List Nat} {f:Nat->Nat×Int} (h:WorldAt w T B n wt L f) (hB:B<=w.heap.size) (H:Below w.heap.size w w'):WorldAt w' T B n wt L f:=h.next H hB
theorem WorldAt.up {w:World} {T B B' n wt:Nat} {L:List Nat} {f:Nat->Nat×Int} (h:WorldAt w T B n wt L f) (hB:B<=B'):WorldAt w T B' n wt L f:=by
 obtain⟨p,c,H,J⟩:=h.c2;obtain⟨g,I,hg,O⟩:=h.c3;exact⟨kV h.lt hB,h.c0,h.c1,⟨p,c,H,J.up hB⟩,g,I,kV hg hB,O⟩
theorem PtL.but {n:Nat} {l:List Nat} {w w':World} {B G:Nat} {v:Value} (h:PtL n l w B v) (hg:w.grownBy w' (some G)) (Z:B<=G):PtL n l w' B v:=by
 rcases h with h |⟨g,cap,e,I,Y⟩
 ·exact .inl h
 ·have H:∀i,some (⟨g,i,none⟩:Addr).block≠some G:=λi e=>by injection e with e;simp at e;omega
  exact .inr ⟨g,cap,e,I,λj a V=>by
   obtain⟨J,O,U⟩:=Y j a V;exact⟨hg.cell J (H _),hg.cell O (H _),hg.cell U (H _)⟩⟩
theorem Gf (n wt:Nat) (D:Int) (w:World) (hT:Tab w) (h0:0<n) (hn:n<=120) (oL:wt<=22) (hD:-120<=D) (nZ:D<=120) (lV:Pl.check n ((wt:Int)+2) D=0):
  Calls prog 91 #[.agg #[.int .i64 n,.int .i64 ((wt:Int)+2),.int .i64 D]] w λe w'=>(∃T,e=.returned (.tuple #[.pointer (some ⟨T,0,none⟩),.int .i64 0])/\WorldAt w' T w'.heap.size n wt (pts n (n*n)) (Bb n D (pts n (n*n)) n))/\Below w.heap.size w w':=by
 obtain⟨L,hL⟩:∃l,pts n (n*n)=l:=⟨_,rfl⟩
 have mZ:L.length<=n*n:=hL▸B6 n (n*n);obtain⟨J,aX⟩:∃m,n*n=m:=⟨_,rfl⟩
 have oB:J<=14400:=by rw[<-aX];exact Nat.mul_le_mul hn hn
 have oK:(n:Int)*(n:Int)=(J:Nat):=by rw[<-aX];push_cast;rfl
 have nC:=iE J (by omega);have hI:=Kh aX;have lP:=Kh hT;have lH:=Kh lV;have lK:=Kh hL;rw[hL];rw[aX]at mZ;clear aX hT lV hL;go_enter func91,ntmps91
 go_wp2_with fail
 obtain⟨w0,mE,X0,hR⟩:=bx1 w #[.int .i64 n,.int .i64 ((wt:Int)+2),.int .i64 D] 23;rw[mE];refine(Zj n ((wt:Int)+2) D w0).mono ?_;rintro e w1 ⟨rfl,hS⟩;rw[lH.1];have X1:=X0.below_ hS X0.lt;have x0:=X1.at_ 0 rfl;have lF:=Kh (hR.trans (hS.mono hR.size));have lQ:=Kh X1;clear mE X0 hR hS X1;go_wp2_with fail
 refine(Mv n w1 h0 hn).mono ?_;rintro e O ⟨⟨lv,rfl,kZ⟩,hU⟩;obtain⟨pl,cl,hlv⟩:=Bf kZ.1;subst hlv;have bC:=kZ.ptl;rw[lK.1]at bC ⊢;have lL:=Kh bC;have aT:=Kh (bk lQ hU);have gU:=bt lF hU;have lO:=Kh (lP.1.below gU.1);have a0:=aT.1.at_ 0 rfl;have a1:=aT.1.at_ 1 rfl;have nQ:(wt:Int)+2 - 2=(wt:Nat):=by omega
 have nR:(0:Int)<=(wt:Int):=by omega
 have vN:IntKind.i64.wrap (J:Int)=(J:Nat):=IntWalk.i64_in _ (by omega);have vW:IntKind.i64.wrap (wt:Int)=(wt:Nat):=IntWalk.i64_in _ (by omega);clear kZ bC hU x0 lF lQ lP lH;go_upto_region 8 with(fail)
 have Z:=Kh (show ∀w4,Below O.heap.size O w4->(w4.cell? ⟨w.heap.size,1,none⟩=some (.int .i64 ((wt:Int)+2)))from λw4 hb=>Ac hb a1);have bA:=Z.1 _ (Below.refl _ O).drew
 go_region_held3 (λw4=>w4.cell? ⟨w.heap.size,1,none⟩=some (.int .i64 ((wt:Int)+2)))
  (first|with_reducible exact bA|exact Z.1 _ ((Below.refl _ O).drew.alloc (kT _) _)|exact Z.1 _ (((Below.refl _ O).alloc (kT _) _).drew)|exact Z.1 _ (((Below.refl _ O).drew.alloc (kT _) _).alloc (Nat.le_of_lt (by simp)) _)|exact Z.1 _ ((((Below.refl _ O).alloc (kT _) _).drew).alloc (Nat.le_of_lt (by simp)) _) |(exfalso;assumption))
  (fail)
 all_goals go_wp2
 have gF:=CRow.places O J;obtain⟨wx,eP⟩:∃wx,((O.alloc (.cells (madeCells #[.int .i64 0,.int .i64 0] (J*2)) 215)).alloc (.cells #[.int .i64 n,.int .i64 wt,.slice pl L.length cl,.slice (some ⟨O.heap.size,0,none⟩) J J] 162)).drew=wx:=⟨_,rfl⟩
 have hX:Below O.heap.size O (O.alloc (.cells (madeCells #[.int .i64 0,.int .i64 0] (J*2)) 215)):=(Below.refl _ _).alloc (kT _) _;have hY:Below (O.alloc (.cells (madeCells #[.int .i64 0,.int .i64 0] (J*2)) 215)).heap.size (O.alloc (.cells (madeCells #[.int .i64 0,.int .i64 0] (J*2)) 215)) wx:=eP▸((Below.refl _ _).alloc (kT _) _).drew;have mC:(O.alloc (.cells (madeCells #[.int .i64 0,.int .i64 0] (J*2)) 215)).heap.size=O.heap.size+1:=by simp
 have bB:=gF.keep hY
 have aJ:Blk wx (O.heap.size+1) 162 #[.int .i64 n,.int .i64 wt,.slice pl L.length cl,.slice (some ⟨O.heap.size,0,none⟩) J J]:=by
  have h:=Blk.new (O.alloc (.cells (madeCells #[.int .i64 0,.int .i64 0] (J*2)) 215)) 162 #[.int .i64 n,.int .i64 wt,.slice pl L.length cl,.slice (some ⟨O.heap.size,0,none⟩) J J];rw[mC]at h;exact eP▸h.below_ (Below.refl _ _).drew h.lt
 have V:Below O.heap.size O wx:=hX.trans (hY.mono hX.size);have lA:=bk aT V;have bE:=lL.1.next V
 rw[eP];obtain⟨I,hZ⟩:∃I,O.heap.size=I:=⟨_,rfl⟩
 obtain⟨T,lS⟩:∃T,I+1=T:=⟨_,rfl⟩
 obtain⟨gs,mB⟩:∃gs,w.heap.size=gs:=⟨_,rfl⟩
 have mP:=Kh (show gs<I by have:=aT.1.lt;omega);have hJ:=Kh (show w.heap.size<=I by have:=gU.1.size;omega);rw[hZ]at bB aJ V bE ⊢;rw[lS]at aJ ⊢;rw[mB]at lA ⊢;have lI:=Kh bB;have aN:=Kh aJ;have mL:=Kh V;have mV:=Kh lA;have lN:=Kh bE;have lJ:=Kh (show T≠I by omega);have mT:=Kh (show ∀w',wx.grownBy w' (some I)->Tab w' from λw' hg=>lO.1.below (hZ▸An V hg (by have:=V.size;omega) (kT _)));have hG:=Kh (show I<=wx.heap.size by have:=aJ.lt;omega);have mR:=Kh (show T<wx.heap.size from aJ.lt);clear gF bB aJ V lA bE eP hX hY mC hZ lS mB nC Z bA a0 a1 aT lL lO;go_loopw [9] (λv wr=>∃H:Nat,1<=H/\H<=n+1/\v=.int .i64 H/\CRow (plc (Bb n D L (H - 1))) wr I (J*2)/\wx.grownBy wr (some I)) (λv _=>n+1 - (intOf v).toNat)
 case atStart=>exact⟨1,kT _,by omega,rfl,lI.1,Af I (Below.refl _ _)⟩
 case round=>
  obtain⟨H,oH,oI,rfl,lW,mA⟩:=hrel;obtain⟨w3,rfl⟩:∃w3:World,w3=wr:=⟨_,rfl⟩
  have cC:=Kh lW;have U:=Kh mA;clear lW mA lI;have nG:gs≠I:=Nat.ne_of_lt mP.1;by_cases hlt:H<=n
  ·have oJ:(H:Int)<=(n:Int):=by omega
   go_wp2_with fail
   refine(E7 H n w3 (by omega) (by omega) (by omega) (by omega)).mono ?_;rintro e w4 ⟨rfl,m1,rfl⟩;have lX:Int.gcd (H:Int) (n:Int)=Nat.gcd H n:=rfl;rw[lX];generalize hw4:w3.drewN m1=w4;have hV:Below w3.heap.size w3 w4:=hw4▸Aa (Below.refl _ _) m1;have hB:=Kh (cC.1.keep hV);have aL:=Kh (U.1.trans (Af I hV))
   have lE:=Kh (show Bb n D L H=if pun n H then Ez n H (Pl.kroP D H) L L.length (Bb n D L (H - 1))else Bb n D L (H - 1)by
    obtain⟨l,rfl⟩:∃l,H=l+1:=⟨H - 1,by omega⟩
    rfl)
   have lM:=Kh (show pun n H=(Nat.gcd H n==1)from rfl);clear hw4 hV lX cC U;cases ho:(Nat.gcd H n==1)with
   | false=>
    have nF:(((Nat.gcd H n:Nat):Int) != 1)=true:=by
     simp only[beq_eq_false_iff_ne]at ho;simp;omega
    have HP:=Kh (show Bb n D L H=Bb n D L (H - 1)by rw[lE.1,lM.1,ho];rfl);clear ho;go_wp2;go_roundw
    case rel=>exact⟨H+1,by omega,by omega,by go_num,by rw[Nat.add_sub_cancel,HP.1];exact hB.1,aL.1⟩
    case measure=>simp[intOf];omega
   | true=>
    have nF:(((Nat.gcd H n:Nat):Int) != 1)=false:=by
     simp only[beq_iff_eq]at ho;rw[ho];rfl
    have HP:=Kh (show Bb n D L H=Ez n H (Pl.kroP D H) L L.length (Bb n D L (H - 1))by rw[lE.1,lM.1,ho];rfl);have x2:=aL.1.cell (mV.1.at_ 2 rfl) (λe=>by injection e with e;exact nG e);clear ho;go_wp2_with fail
    refine(Oh D H w4 (mT.1 w4 aL.1) (by omega) (by omega) (by omega) (by omega)).mono ?_;rintro e w5 ⟨rfl,rfl⟩;obtain⟨ch,lU⟩:∃ch,Pl.kroP D H=ch:=⟨_,rfl⟩
    rw[lU]at HP ⊢;clear x2 lU;go_wp2_with fail
    have lG:=Kh (show CRow (plc (Ez n H ch L 0 (Bb n D L (H - 1)))) w4 I (J*2)from hB.1);go_loopw [55] (λii w5=>∃j:Nat,j<=L.length/\ii=.int .i64 j/\CRow (plc (Ez n H ch L j (Bb n D L (H - 1)))) w5 I (J*2)/\wx.grownBy w5 (some I)) (λii _=>L.length - (intOf ii).toNat)
    case atStart=>exact⟨0,Nat.zero_le _,rfl,lG.1,aL.1⟩
    case round=>
     obtain⟨j,hj,rfl,gN,gS⟩:=hrel;obtain⟨w5,rfl⟩:∃w5:World,w5=wr:=⟨_,rfl⟩
     have hE:=Kh gN;have cD:=Kh gS;clear gN gS lG hB aL;by_cases hjl:j<L.length
     ·have oG:(j:Int)<(L.length:Int):=by omega
      obtain⟨a,ha⟩:∃a,L[j]?=some a:=⟨_,List.getElem?_eq_getElem hjl⟩
      have lT:a<n*n:=by
       have h:=List.mem_of_getElem? ha;rw[<-lK.1]at h;exact Gn h
      have lZ:L.getD j 0=a:=by rw[List.getD_eq_getElem?_getD,ha];rfl
      have mO:=Kh lZ;rcases lN.1.but cD.1 (kT _)with⟨mY,_⟩ |⟨gL,nN,e,oD,hx⟩
      ·rw[mY]at hjl;simp at hjl
      cases e;obtain⟨p0,p1,p2⟩:=hx j a ha;have nA:a / n<n:=Nat.div_lt_of_lt_mul lT;have nB:a % n<n:=Nat.mod_lt _ h0;obtain⟨u,hu⟩:∃u,a / n=u:=⟨_,rfl⟩
      obtain⟨v,hv⟩:∃v,a % n=v:=⟨_,rfl⟩
      rw[hu]at p0 nA;rw[hv]at p1 nB;have HU:=Kh hu;have HV:=Kh hv;clear hu hv lZ ha lT hx;go_wp2_with fail
      obtain⟨wb,dY⟩:∃wb,w5.alloc (.cells #[.int .i64 (u:Int),.int .i64 (v:Int),.int .i64 1] 213)=wb:=⟨_,rfl⟩
      have hW:Below w5.heap.size w5 wb:=dY▸(Below.refl _ _).alloc (kT _) _;have X:=dY▸Blk.new w5 213 #[.int .i64 (u:Int),.int .i64 (v:Int),.int .i64 1];rw[dY];obtain⟨gb,lY⟩:∃gb,w5.heap.size=gb:=⟨_,rfl⟩
      rw[lY]at X ⊢;have hQ:T≠I:=lJ.1;have Y:gb≠I:=by have:=cD.1.size;have:=hG.1;have:=hE.1.stk.1;omega
      obtain⟨SU,cX⟩:∃x,H*u=x:=⟨_,rfl⟩
      obtain⟨SW,dC⟩:∃x,H*v=x:=⟨_,rfl⟩
      obtain⟨P1,cF⟩:∃x,SU % n=x:=⟨_,rfl⟩
      obtain⟨P2,cG⟩:∃x,SW % n=x:=⟨_,rfl⟩
      obtain⟨PN,cT⟩:∃x,P1*n=x:=⟨_,rfl⟩
      have q1:SU<=14400:=by rw[<-cX];exact Nat.mul_le_mul (by omega:H<=120) (by omega:u<=120)
      have q2:SW<=14400:=by rw[<-dC];exact Nat.mul_le_mul (by omega:H<=120) (by omega:v<=120)
      have q3:P1<n:=cF▸Nat.mod_lt _ h0;have q4:P2<n:=cG▸Nat.mod_lt _ h0;have q5:PN<=14400:=by rw[<-cT];exact Nat.mul_le_mul (by omega:P1<=120) (by omega:n<=120)
      have e1:(H:Int)*(u:Int)=(SU:Nat):=by rw[<-cX];push_cast;rfl
      have e2:(H:Int)*(v:Int)=(SW:Nat):=by rw[<-dC];push_cast;rfl
      have e3:(SU:Int).tmod (n:Int)=(P1:Nat):=by rw[Int.tmod_eq_emod_of_nonneg (by omega),<-cF];rfl
      have e4:(SW:Int).tmod (n:Int)=(P2:Nat):=by rw[Int.tmod_eq_emod_of_nonneg (by omega),<-cG];rfl
      have e5:(P1:Int)*(n:Int)=(PN:Nat):=by rw[<-cT];push_cast;rfl
      have kY:PN+P2=Az n H a:=by unfold Az;rw[HU.1,HV.1,cX,dC,cF,cG,cT]
      obtain⟨IX,hP⟩:∃x,PN+P2=x:=⟨_,rfl⟩
      have e6:(PN:Int)+(P2:Int)=(IX:Nat):=by omega
      have oA:IX<J:=by rw[<-hP,kY,<-hI.1];exact Su h0 H a
      have nO:(IX:Int)<(J:Int):=by omega
      have mQ:=Kh (show IX=Az n H a by rw[<-hP,kY]);have aD:=hE.1.keep hW;have d0:=aD.val (IX*2) (by omega);have d1:=aD.free (IX*2) (by omega);have d2:=aD.val (IX*2+1) (by omega);have d3:=aD.free (IX*2+1) (by omega);have nE:(n:Int)≠0:=by omega
      have z1:((n:Int)==0)=false:=by simpa using nE
      have z2:n≠0:=by omega
      have i0:(0:Int)<=(IX:Int):=by omega
      have v1:IntKind.i64.wrap (SU:Int)=(SU:Nat):=IntWalk.i64_in _ (by omega);have v2:IntKind.i64.wrap (SW:Int)=(SW:Nat):=IntWalk.i64_in _ (by omega);have v3:IntKind.i64.wrap (PN:Int)=(PN:Nat):=IntWalk.i64_in _ (by omega);have v5:IntKind.i64.wrap (P1:Int)=(P1:Nat):=IntWalk.i64_in _ (by omega);have v6:IntKind.i64.wrap (P2:Int)=(P2:Nat):=IntWalk.i64_in _ (by omega);have v4:IntKind.i64.wrap (IX:Int)=(IX:Nat):=IntWalk.i64_in _ (by omega);have iL:=cD.1.trans (Af I hW);have b0:=X.at_ 0 rfl;have b1:=X.at_ 1 rfl;have t3:=iL.cell (aN.1.at_ 3 rfl) (λe=>by injection e with e;exact hQ e);have bA:wb.drew.cell? ⟨T,3,none⟩=some (.slice (some ⟨I,0,none⟩) J J)/\wb.drew.cell? ⟨gb,0,none⟩=some (.int .i64 (u:Int))/\wb.drew.cell? ⟨gb,1,none⟩=some (.int .i64 (v:Int)):=⟨t3,b0,b1⟩
      have mS:=Kh (show ∀(X:World) (i j:Nat) (v1 v2:Value),(X.cell? ⟨T,3,none⟩=some (.slice (some ⟨I,0,none⟩) J J)/\X.cell? ⟨gb,0,none⟩=some (.int .i64 (u:Int))/\X.cell? ⟨gb,1,none⟩=some (.int .i64 (v:Int)))->(((X.setCell ⟨I,i,none⟩ v1).setCell ⟨I,j,none⟩ v2).cell? ⟨T,3,none⟩=some (.slice (some ⟨I,0,none⟩) J J)/\((X.setCell ⟨I,i,none⟩ v1).setCell ⟨I,j,none⟩ v2).cell? ⟨gb,0,none⟩=some (.int .i64 (u:Int))/\((X.setCell ⟨I,i,none⟩ v1).setCell ⟨I,j,none⟩ v2).cell? ⟨gb,1,none⟩=some (.int .i64 (v:Int)))from λX i j v1 v2 h=>⟨by rw[World.cell?_setCell_far _ _ _ _ (by exact hQ.symm),World.cell?_setCell_far _ _ _ _ (by exact hQ.symm)];exact h.1,by rw[World.cell?_setCell_far _ _ _ _ (by exact Y.symm),World.cell?_setCell_far _ _ _ _ (by exact Y.symm)];exact h.2.1,by rw[World.cell?_setCell_far _ _ _ _ (by exact Y.symm),World.cell?_setCell_far _ _ _ _ (by exact Y.symm)];exact h.2.2⟩);have mM:=Kh aD;have mN:=Kh iL;clear cX dC cF cG cT kY hP aD iL X dY hW b0 b1 t3 p0 p1 p2 lY;go_upto_region 17 with(fail)
      go_region_held3 (λw'=>w'.cell? ⟨T,3,none⟩=some (.slice (some ⟨I,0,none⟩) J J)/\w'.cell? ⟨gb,0,none⟩=some (.int .i64 (u:Int))/\w'.cell? ⟨gb,1,none⟩=some (.int .i64 (v:Int)))
       (first|with_reducible exact bA|exact mS.1 _ _ _ _ _ bA)
       (fail)
      all_goals go_wp2
      all_goals go_roundw
      all_goals first
       | exact⟨j+1,by omega,by go_num,by rw[Ez,mO.1,<-mQ.1];exact(mM.1.place (p:=IX) (j,ch)).keep (Below.refl _ _).drew,(mN.1.trans ((Ai wb I _ _).trans (Ai _ I _ _))).trans (Af I (Below.refl _ _).drew)⟩
       |(simp[intOf];omega)
     ·obtain rfl:L.length=j:=by omega
      go_wp2;go_roundw
      case rel=>exact⟨H+1,by omega,by omega,by go_num,by rw[Nat.add_sub_cancel,HP.1];exact hE.1,cD.1⟩
      case measure=>simp[intOf];omega
  ·obtain rfl:n+1=H:=by omega
   have oE:¬((n:Int)+1<=(n:Int)):=by omega
   have dE:T≠I:=lJ.1;have mD:=U.1.size
   have mU:=Kh (show WorldAt w3 T w3.heap.size n wt L (Bb n D L n)from
    ⟨by have:=mR.1;omega,U.1.cell (aN.1.at_ 0 rfl) (λe=>by injection e with e;exact dE e),U.1.cell (aN.1.at_ 1 rfl) (λe=>by injection e with e;exact dE e),
     ⟨pl,cl,U.1.cell (aN.1.at_ 2 rfl) (λe=>by injection e with e;exact dE e),(lN.1.but U.1 (kT _)).up (kU hG.1 mD)⟩,
     I,by rw[hI.1];exact U.1.cell (aN.1.at_ 3 rfl) (λe=>by injection e with e;exact dE e),cC.1.stk.1,λi hi=>cC.1.val i (by rw[<-hI.1];exact hi)⟩)
   have mK:=Kh (show Below w.heap.size w w3 from An (gU.1.trans (mL.1.mono hJ.1)) U.1 (kU hJ.1 hG.1) hJ.1);clear mD;go_wp2
   (first|go_ret2|go_ret)
   exact⟨⟨T,rfl,mU.1⟩,mK.1⟩
theorem Hv (T B n wt:Nat) (L:List Nat) (f:Nat->Nat×Int) (x:Int) (w:World) (h:WorldAt w T B n wt L f) (J:0<n) (V:n<=120):
  Calls prog 143 #[.pointer (some ⟨T,0,none⟩),.int .i64 x] w λe w'=>e=.returned (.int .i64 (x % (n:Int)))/\w'=w:=by
 have O:-(n:Int)<x.tmod n:=by have:=Int.lt_tmod_of_pos x (show(0:Int)<n by omega);omega
 have U:x.tmod n<n:=Int.tmod_lt_of_pos x (by omega);have H:=Kh (Da x n (by omega));have c0:=h.c0;have I:(n:Int)≠0:=by omega
 clear h;go_enter func143,ntmps143
 go_wp2;all_goals (go_ret;refine⟨A3 ?_,rfl⟩;rw[<-H.1];first |(rw[if_pos (by omega)];done) |(rw[if_neg (by omega)];done))
theorem Jv (T B n wt:Nat) (L:List Nat) (f:Nat->Nat×Int) (w:World) (h:WorldAt w T B n wt L f) (O:wt<=22) (I:L.length<=14400):
  Calls prog 92 #[.pointer (some ⟨T,0,none⟩)] w λe w'=>e=.returned (.int .i64 (((wt+1)*L.length:Nat):Int))/\∃m,w'=w.drewN m:=by
 obtain⟨p,c,V,_⟩:=h.c2;have c1:=h.c1;obtain⟨P,H⟩:∃P,(wt+1)*L.length=P:=⟨_,rfl⟩
 have J:P<=331200:=by rw[<-H];exact Nat.mul_le_mul (by omega:wt+1<=23) I
 have U:((wt:Int)+1)*(L.length:Int)=(P:Nat):=by rw[<-H];push_cast;rfl
 rw[H];clear h H;go_enter func92,ntmps92
 go_wp2_with fail
 go_quiet (fail)
 go_wp2;go_ret;exact⟨rfl,_,rfl⟩
theorem cO (T B n wt:Nat) (L:List Nat) (f:Nat->Nat×Int) (x y:Int) (w:World) (h:WorldAt w T B n wt L f) (hB:B<=w.heap.size) (h0:0<n) (hn:n<=120):
  Calls prog 144 #[.pointer (some ⟨T,0,none⟩),.int .i64 x,.int .i64 y] w λe w'=>e=.returned (.agg #[.int .i64 ((f ((x % n).toNat*n+(y % n).toNat)).1:Int),.int .i64 (f ((x % n).toNat*n+(y % n).toNat)).2])/\Below w.heap.size w w':=by
 obtain⟨O,Y⟩:∃m,n*n=m:=⟨_,rfl⟩
 have hL:O<=14400:=by rw[<-Y];exact Nat.mul_le_mul hn hn
 have gL:=Int.emod_nonneg x (show(n:Int)≠0 by omega);have gN:=Int.emod_lt_of_pos x (show(0:Int)<n by omega);have gS:=Int.emod_nonneg y (show(n:Int)≠0 by omega);have hv1:=Int.emod_lt_of_pos y (show(0:Int)<n by omega);obtain⟨u,hu⟩:∃u:Nat,x % (n:Int)=u:=⟨(x % n).toNat,by omega⟩
 obtain⟨v,hv⟩:∃v:Nat,y % (n:Int)=v:=⟨(y % n).toNat,by omega⟩
 rw[hu,hv,Int.toNat_natCast,Int.toNat_natCast];rw[hu]at gL gN;rw[hv]at gS hv1;obtain⟨UN,aD⟩:∃x,u*n=x:=⟨_,rfl⟩
 have e1:(u:Int)*(n:Int)=(UN:Nat):=by rw[<-aD];push_cast;rfl
 have cX:UN+v<O:=by
  rw[<-aD,<-Y]
  calc u*n+v<u*n+n:=by omega
   _=(u+1)*n:=by rw[Nat.add_mul,Nat.one_mul]
   _<=n*n:=Nat.mul_le_mul_right _ (by omega)
 rw[aD];obtain⟨H,aX⟩:∃x,UN+v=x:=⟨_,rfl⟩
 rw[aX]at cX ⊢;have e2:(UN:Int)+(v:Int)=(H:Nat):=by omega
 have U:=Kh (λw' (hb:Below w.heap.size w w')=>Hv T B n wt L f x w' (h.keep hB hb) h0 hn);have V:=Kh (λw' (hb:Below w.heap.size w w')=>Hv T B n wt L f y w' (h.keep hB hb) h0 hn);rw[hu]at U;rw[hv]at V;obtain⟨J,e3,eP,h3⟩:=h.c3;rw[Y]at e3 h3;have p0:=h3 (H*2) (by omega);have p1:=h3 (H*2+1) (by omega);have q0:plc f (H*2)=.int .i64 ((f H).1:Int):=by unfold plc;rw[if_pos (by omega),show H*2 / 2=H by omega]
 have q1:plc f (H*2+1)=.int .i64 (f H).2:=by unfold plc;rw[if_neg (by omega),show(H*2+1) / 2=H by omega]
 rw[q0]at p0;rw[q1]at p1;have t0:=h.c0;have t3:=e3;have dE:T<w.heap.size:=kV h.lt hB;have dY:J<w.heap.size:=kV eP hB;have i0:(0:Int)<=(H:Int):=by omega
 have i1:(H:Int)<(O:Int):=by omega
 have v1:IntKind.i64.wrap (UN:Int)=(UN:Nat):=IntWalk.i64_in _ (by omega);have v2:IntKind.i64.wrap (H:Int)=(H:Nat):=IntWalk.i64_in _ (by omega);clear hu hv aD aX h e3 h3 q0 q1 Y;go_enter func144,ntmps144
 go_upto_region 1 with(fail)
 obtain⟨w0,aK⟩:∃w0,w.alloc (.cells #[.int .i64 0,.int .i64 0] 215)=w0:=⟨_,rfl⟩
 have I:Below w.heap.size w w0:=aK▸(Below.refl _ _).alloc (kT _) _;have X:=aK▸Blk.new w 215 #[.int .i64 0,.int .i64 0];rw[aK];obtain⟨R,hR⟩:∃R,w.heap.size=R:=⟨_,rfl⟩
 have t0:=Ac I t0;have t3:=Ac I t3;have p0:=Ac I p0;have p1:=Ac I p1;have U:=Kh (λw' (hb:Below w0.heap.size w0 w')=>U.1 w' (I.trans (hb.mono I.size)));have V:=Kh (λw' (hb:Below w0.heap.size w0 w')=>V.1 w' (I.trans (hb.mono I.size)));have Z:R≠T:=by omega
 have aJ:R≠J:=by omega
 have aT:=Kh I;have cF:=Kh hR;rw[hR]at X aT ⊢;have gA:=U.1 w0.drew (Below.refl _ w0).drew;have gF:=V.1 w0.drew (Below.refl _ w0).drew;have aU:=Kh X;have r0:=X.at_ 0 rfl;have r1:=X.at_ 1 rfl;have f0:=X.free_ 0;have f1:=X.free_ 1;clear aK I dE dY hR X;have bA:w0.drew.cell? ⟨T,0,none⟩=some (.int .i64 (n:Int))/\w0.drew.cell? ⟨T,3,none⟩=some (.slice (some ⟨J,0,none⟩) O O)/\w0.drew.cell? ⟨J,H*2,none⟩=some (.int .i64 ((f H).1:Int))/\w0.drew.cell? ⟨J,H*2+1,none⟩=some (.int .i64 (f H).2):=⟨t0,t3,p0,p1⟩
 have cG:=Kh (show ∀(X:World) (v1 v2:Value),(X.cell? ⟨T,0,none⟩=some (.int .i64 (n:Int))/\X.cell? ⟨T,3,none⟩=some (.slice (some ⟨J,0,none⟩) O O)/\X.cell? ⟨J,H*2,none⟩=some (.int .i64 ((f H).1:Int))/\X.cell? ⟨J,H*2+1,none⟩=some (.int .i64 (f H).2))->(((X.setCell ⟨R,0,none⟩ v1).setCell ⟨R,1,none⟩ v2).cell? ⟨T,0,none⟩=some (.int .i64 (n:Int))/\((X.setCell ⟨R,0,none⟩ v1).setCell ⟨R,1,none⟩ v2).cell? ⟨T,3,none⟩=some (.slice (some ⟨J,0,none⟩) O O)/\((X.setCell ⟨R,0,none⟩ v1).setCell ⟨R,1,none⟩ v2).cell? ⟨J,H*2,none⟩=some (.int .i64 ((f H).1:Int))/\((X.setCell ⟨R,0,none⟩ v1).setCell ⟨R,1,none⟩ v2).cell? ⟨J,H*2+1,none⟩=some (.int .i64 (f H).2))from λX v1 v2 h=>⟨by rw[World.cell?_setCell_far _ _ _ _ (by exact Z),World.cell?_setCell_far _ _ _ _ (by exact Z)];exact h.1,by rw[World.cell?_setCell_far _ _ _ _ (by exact Z),World.cell?_setCell_far _ _ _ _ (by exact Z)];exact h.2.1,by rw[World.cell?_setCell_far _ _ _ _ (by exact aJ),World.cell?_setCell_far _ _ _ _ (by exact aJ)];exact h.2.2.1,by rw[World.cell?_setCell_far _ _ _ _ (by exact aJ),World.cell?_setCell_far _ _ _ _ (by exact aJ)];exact h.2.2.2⟩);clear t0 t3 p0 p1
 go_region_held3 (λw1=>w1.cell? ⟨T,0,none⟩=some (.int .i64 (n:Int))/\w1.cell? ⟨T,3,none⟩=some (.slice (some ⟨J,0,none⟩) O O)/\w1.cell? ⟨J,H*2,none⟩=some (.int .i64 ((f H).1:Int))/\w1.cell? ⟨J,H*2+1,none⟩=some (.int .i64 (f H).2))
  (first|with_reducible exact bA|exact cG.1 _ _ _ bA)
  (first
   |(go_at_call 143;with_reducible refine gA.mono ?_;rintro e w2 ⟨rfl,rfl⟩)
   |(go_at_call 143;with_reducible refine gF.mono ?_;rintro e w2 ⟨rfl,rfl⟩))
 all_goals go_wp2
 have hE:=(((aU.1.set_ 0 (.int .i64 ((f H).1:Int))).set_ 1 (.int .i64 (f H).2)).below_ (Below.refl _ _).drew (by have:=aU.1.lt;simpa using this))
 have e0:=hE.at_ 0 rfl;have e1:=hE.at_ 1 rfl;try simp only[Exit.inBlock,Exit.then]
 refine bodyPost_ret (by simp[results,results144,go_sem,e0,e1];try rfl) rfl ?_;exact⟨rfl,cF.1▸((aT.1.setCell (p:=⟨R,0,none⟩) (kT _) _).setCell (p:=⟨R,1,none⟩) (kT _) _).drew⟩
end
end Go.Proofs.YtenlbhlllgppmaaGreatDoor
