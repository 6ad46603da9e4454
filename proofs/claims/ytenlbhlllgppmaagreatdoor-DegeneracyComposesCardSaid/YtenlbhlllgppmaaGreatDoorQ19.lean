/- Rows of terms (a column and a fraction) in memory, and append as a step of a region that draws its order. -/
import Derived.Test.YtenlbhlllgppmaaGreatDoorQ18
import Derived.Test.YtenlbhlllgppmaaGreatDoorQ17
set_option linter.unusedSimpArgs false
set_option maxRecDepth 100000
set_option maxHeartbeats 8000000
namespace Go.Proofs.YtenlbhlllgppmaaGreatDoor
section
open Go.RowKit Tryz
theorem Ii {P:Program} {W:World} {aU:Array Oper} {o:Oper} {a:Act} {K':Act->World->Prop} {Q:Exit->Act->World->Prop} {E':Prop} (K:Value->Prop) (bC:o.guard=none) (s x:Operand) (t E:TypeId)
  (ho:o.op=.call { callee:=.builtin .append,args:=#[s,x],argTypes:=#[t,t] }) {z:Value} {U I:Nat} (hU:P.underlying t=some (.slice E))
  (V:(P.info? E).map (λi=>(i.zero,i.size,i.bytes))=some (some z,U,I)) (aT:z.cells.size=U) (aJ:0<U) (B n:Nat) (v:Value) (xs H:List Value)
  (hs:a.eval s=v) (aD:OwnK K W B E U v n xs) (hx:a.eval x=.slice (some ⟨W.heap.size,0,none⟩) 1 1) (hn:H.length=U) (h1:∀u∈H,u.oneCell'=true)
  (hb:(n+1)*I<=140737488355328) (hm:n+1<=9223372036854775807) (hB:B<=W.heap.size) (bA:∀u∈H,K u) (bB:∀u∈z.cells.toList,K u)
  (h:∀Y w',OwnK K w' B E U Y (n+1) (xs++H)->W.grownBy w' v.ownBlock->(Y.ownBlock=v.ownBlock∨Y.ownBlock=some (W.heap.size+1))->K' (a.put o.dst Y) w'):
  if Region.wanted o (yielded aU a.tmps)=true then Oper.wp P o a (W.alloc (.cells H.toArray E)) K' Q else E':=by
 have hw:Region.wanted o (yielded aU a.tmps)=true:=by simp[Region.wanted,bC]
 rw[if_pos hw];obtain⟨i0,hi,aK,aL,aN⟩:=info_parts V
 have O:∀(j:Nat) (u:Value),H[j]?=some u->(W.alloc (.cells H.toArray E)).cell? ((⟨W.heap.size,0,none⟩:Addr).add j)=some u:=by
  intro j u hu;have hc:=(Blk.new W E H.toArray).cell_ j
  have e:(⟨W.heap.size,0,none⟩:Addr).add j=⟨W.heap.size,j,none⟩:=by
   unfold Addr.add;split
   ·rename_i h0;rw[h0]
   ·simp
  rw[e,hc]
  simpa using hu
 have J:OwnK K (W.alloc (.cells H.toArray E)) B E U v n xs:=aD.keep ((Below.refl _ _).alloc (kT _) _);obtain⟨Y,w',hr,g1,g2,_,Z⟩:=run_append_own_at (P:=P) (W.alloc (.cells H.toArray E)) B t o.type E i0 z U I hU hi aK aL aN aT aJ v n xs J.1 ⟨W.heap.size,0,none⟩ 1 1 H (by omega) O h1 hm hb (by simp;omega);have g4:=Ek K (W.alloc (.cells H.toArray E)) B t o.type E i0 z U I hU hi aK aL aN aT aJ v n xs J.1 ⟨W.heap.size,0,none⟩ 1 1 H (by omega) O h1 hm hb (by omega) J.2 bA bB hr;unfold Oper.wp execOp;simp only[ho,resolve,invoke,builtin,Sem.run_bind,Sem.run_pure,Result.andThen_ok,List.map_toArray,List.map_cons,List.map_nil,hs,hx,hr];refine h Y w' ⟨g1,g4⟩ (Dn g2) ?_;rcases Z with Z|Z
 ·exact .inl Z
 ·exact .inr (by rw[Z];simp)
theorem I32.putU {w:World} {R:Nat} (J:Stk NotU32 w R) (i:Nat) (u:Value):I32 w (w.setCell ⟨R,i,none⟩ u):=
 ⟨by simp,λg j n e=>by
  have H:R≠g:=λI=>J.2 j _ (by rw[I];exact e) _ rfl
  rw[World.cell?_setCell_far w ⟨R,i,none⟩ ⟨g,j,none⟩ u H];exact e⟩
theorem Stk.putU {K:Value->Prop} {w:World} {R:Nat} (h:Stk K w R) (p:Addr) (u:Value) (I:K u):Stk K (w.setCell p u) R:=by
 refine⟨by simpa using h.1,λi v H=>?_⟩;by_cases hp:p=⟨R,i,none⟩
 ·cases hc:w.cell? p with
  | none=>
   have:((w.setCell p u).cell? p)=none:=Ev u hc;rw[<-hp,this]at H;cases H
  | some y=>
   rw[<-hp,World.cell?_setCell_same' _ _ _ (by rw[hc];rfl)]at H;injection H with H
   rw[<-H];exact I
 ·rw[World.cell?_setCell_other _ _ _ _ hp]at H
  exact h.2 i v H
def TE (x:Nat×Rat) (w:World) (g i:Nat):Prop:=w.cell? ⟨g,i,none⟩=some (.int .i64 (x.1:Int))/\QE (IsQ x.2) w g (i+1)
theorem TE.keep {x:Nat×Rat} {w w':World} {g i:Nat} (h:TE x w g i) (H:Below w.heap.size w w'):TE x w' g i:=
 ⟨(H.cell (p:=⟨g,i,none⟩) (World.block_lt_of_cell? w ⟨g,i,none⟩ h.1)).trans h.1,h.2.keep (IsQ.solid _) H⟩
theorem TE.next {x:Nat×Rat} {B:Nat} {w w':World} {g i:Nat} (h:TE x w g i) (hg:g<B) (I:I32 w w') (Z:Below B w w'):TE x w' g i:=by
 have H:∀j v,w.cell? ⟨g,j,none⟩=some v->w'.cell? ⟨g,j,none⟩=some v:=λj v e=>(Z.cell (p:=⟨g,j,none⟩) hg).trans e
 obtain⟨e,s,p,n,c,t,q,m,d,J,O,U,V,Y⟩:=h;exact⟨H _ _ e,s,p,n,c,t,q,m,d,H _ _ J,H _ _ O,H _ _ U,H _ _ V,Y.i32 I⟩
def TL (l:List (Nat×Rat)) (w:World) (B:Nat) (v:Value):Prop:=
 (l=[]/\∃a c,v=.slice a 0 c)∨∃g o cap,v=.slice (some ⟨g,o,none⟩) l.length cap/\l.length<=cap/\cap<=9223372036854775807/\g<B/\∀j x,l[j]?=some x->TE x w g (o+j*5)
theorem TL.next {l:List (Nat×Rat)} {w w':World} {B:Nat} {v:Value} (h:TL l w B v) (H:I32 w w') (J:Below B w w'):TL l w' B v:=by
 rcases h with h |⟨g,o,cap,e,O,I,hg,U⟩
 ·exact .inl h
 ·exact .inr ⟨g,o,cap,e,O,I,hg,λj x V=>(U j x V).next hg H J⟩
theorem TL.keep {l:List (Nat×Rat)} {w w':World} {B:Nat} {v:Value} (h:TL l w B v) (hB:B<=w.heap.size) (H:Below w.heap.size w w'):TL l w' B v:=h.next (I32.below H) (H.mono hB)
theorem TL.up {l:List (Nat×Rat)} {w:World} {B B':Nat} {v:Value} (h:TL l w B v) (hB:B<=B'):TL l w B' v:=by
 rcases h with h |⟨g,o,cap,e,I,H,hg,J⟩
 ·exact .inl h
 ·exact .inr ⟨g,o,cap,e,I,H,by omega,J⟩
theorem TL.cons {x:Nat×Rat} {l:List (Nat×Rat)} {w:World} {B:Nat} {v:Value} (h:TL (x :: l) w B v):
  ∃g o cap,v=.slice (some ⟨g,o,none⟩) (l.length+1) (cap+1)/\l.length<=cap/\cap<9223372036854775807/\g<B/\TE x w g o/\TL l w B (.slice (some ⟨g,o+5,none⟩) l.length cap):=by
 rcases h with⟨h,_⟩ |⟨g,o,cap,e,J,O,hg,I⟩
 ·cases h
 ·rw[List.length_cons]at e J
  obtain⟨c,rfl⟩:∃c,cap=c+1:=⟨cap - 1,by omega⟩
  refine⟨g,o,c,e,by omega,by omega,hg,by simpa using I 0 x rfl,.inr ⟨g,o+5,c,rfl,by omega,by omega,hg,λj y U=>?_⟩⟩;have H:=I (j+1) y U;rw[show o+(j+1)*5=o+5+j*5 by omega]at H;exact H
theorem TL.nil {w:World} {B:Nat} {v:Value} (h:TL [] w B v):∃a c,v=.slice a 0 c:=by
 rcases h with⟨_,h⟩ |⟨g,o,cap,e,_⟩
 ·exact h
 ·exact⟨_,_,e⟩
theorem TL.cut {l:List (Nat×Rat)} {w:World} {B:Nat} {a:Option Addr} {cap:Nat} (X:Option Addr) (h:TL l w B (.slice a l.length cap)) (I:l.length<=cap):TL l w B (.slice (if cap=0 then X else a) l.length cap):=by
 by_cases h0:cap=0
 ·rw[if_pos h0]
  have H:l=[]:=List.eq_nil_of_length_eq_zero (by omega);subst H;exact .inl ⟨rfl,_,_,rfl⟩
 ·rw[if_neg h0];exact h
def TX (x:Nat×Rat) (w:World) (xs:List Value) (i:Nat):Prop:=xs[i]?=some (.int .i64 (x.1:Int))/\QX (IsQ x.2) w xs (i+1)
def OwnT (l:List (Nat×Rat)) (w:World) (B:Nat) (v:Value):Prop:=∃xs,OwnK NotU32 w B 110 5 v l.length xs/\∀j x,l[j]?=some x->TX x w xs (j*5)
theorem OwnT.nil (w:World) (B:Nat):OwnT [] w B (.slice none 0 0):=⟨[],OwnK.nil _ _ _ _ _,λj x H=>by simp at H⟩
theorem OwnT.keep {l:List (Nat×Rat)} {w w':World} {B:Nat} {v:Value} (h:OwnT l w B v) (I:Below w.heap.size w w'):OwnT l w' B v:=by
 obtain⟨U,O,H⟩:=h;exact⟨U,O.keep I,λj x J=>⟨(H j x J).1,(H j x J).2.i32 (IsQ.solid _) (I32.below I)⟩⟩
theorem N9 {I J:List Value} {j:Nat} {v:Value} (e:I[j]?=some v):(I++J)[j]?=some v:=by
 rw[List.getElem?_append_left]
 ·exact e
 ·rcases Nat.lt_or_ge j I.length with hlt|H
  ·exact hlt
  ·rw[List.getElem?_eq_none H]at e;cases e
theorem OwnT.push {l:List (Nat×Rat)} {W w':World} {B:Nat} {v Y:Value} {O:List Value} (V:OwnK NotU32 W B 110 5 v l.length O) (h2:∀j x,l[j]?=some x->TX x W O (j*5))
  (a:Nat) (r:Rat) {s t:Bool} {p q:Option Addr} {k c m d:Nat} (hq:Qs W s p k c t q m d r) (h3:OwnK NotU32 w' B 110 5 Y (l.length+1) (O++[.int .i64 (a:Int),.bool s,.slice p k c,.bool t,.slice q m d])) (hg:W.grownBy w' v.ownBlock):OwnT (l++[(a,r)]) w' B Y:=by
 have I:=I32.grown (K:=NotU32) (λx=>Er x) V.2 hg;have J:O.length=l.length*5:=V.1.1;refine⟨_,by rw[List.length_append];exact h3,λj x H=>?_⟩;by_cases hj:j<l.length
 ·rw[List.getElem?_append_left hj]at H
  obtain⟨Z,e1⟩:=h2 j x H;exact⟨N9 Z,(e1.i32 (IsQ.solid _) I).app⟩
 ·rw[List.getElem?_append_right (by omega)]at H
  have U:j=l.length:=by
   rcases Nat.eq_zero_or_pos (j - l.length)with h|h
   ·omega
   ·rw[List.getElem?_eq_none (by rw[List.length_singleton];omega)]at H;cases H
  subst U;rw[Nat.sub_self]at H;injection H with H
  subst H;refine⟨?_,s,p,k,c,t,q,m,d,?_,?_,?_,?_,hq.i32 I⟩
  ·rw[List.getElem?_append_right (by omega),J,show l.length*5 - l.length*5=0 by omega];rfl
  ·rw[List.getElem?_append_right (by omega),J,show l.length*5+1 - l.length*5=1 by omega];rfl
  ·rw[List.getElem?_append_right (by omega),J,show l.length*5+1+1 - l.length*5=2 by omega];rfl
  ·rw[List.getElem?_append_right (by omega),J,show l.length*5+1+2 - l.length*5=3 by omega];rfl
  ·rw[List.getElem?_append_right (by omega),J,show l.length*5+1+3 - l.length*5=4 by omega];rfl
structure TRow (l:List (Nat×Rat)) (w:World) (g:Nat):Prop where
 stk:Stk NotU32 w g
 free:∀i,i<l.length*5->w.frozen? ⟨g,i,none⟩=false
 has:∀i,i<l.length*5->(w.cell? ⟨g,i,none⟩).isSome=true
 val:∀j x,l[j]?=some x->TE x w g (j*5)
theorem OwnT.row {l:List (Nat×Rat)} {w:World} {B:Nat} {v:Value} (h:OwnT l w B v):(l=[]/\v=.slice none 0 0)∨∃g cap,v=.slice (some ⟨g,0,none⟩) l.length cap/\l.length<=cap/\cap<=9223372036854775807/\B<=g/\g<w.heap.size/\TRow l w g:=by
 obtain⟨U,H,h2⟩:=h;rcases H.1.2 with⟨I,Y⟩ |⟨g,cap,cs,I,hB,hg,hn,J,aT,_⟩
 ·exact .inl ⟨List.eq_nil_of_length_eq_zero Y,I⟩
 ·right
  have hl:U.length=l.length*5:=H.1.1;have O:=H.2 g (by rw[I];rfl);subst I;refine⟨g,cap,rfl,hn,by simp only[maxLen]at J;omega,hB,O.1,⟨O,λi _=>?_,λi hi=>?_,λj x hx=>?_⟩⟩
  ·exact Blk.free_ hg i
  ·rw[Aq H.1 (List.getElem?_eq_getElem (by omega:i<U.length))];rfl
  ·obtain⟨V,s,p,n,c,t,q,m,d,Z,f1,f2,f3,f4⟩:=h2 j x hx
   exact⟨Aq H.1 V,s,p,n,c,t,q,m,d,Aq H.1 Z,Aq H.1 f1,Aq H.1 f2,Aq H.1 f3,f4⟩
theorem OwnT.tl {l:List (Nat×Rat)} {w:World} {B:Nat} {v:Value} (h:OwnT l w B v):TL l w w.heap.size v:=by
 rcases h.row with⟨rfl,rfl⟩ |⟨g,cap,rfl,H,I,_,J,O⟩
 ·exact .inl ⟨rfl,_,_,rfl⟩
 ·exact .inr ⟨g,0,cap,rfl,H,I,J,λj x U=>by rw[Nat.zero_add];exact O.val j x U⟩
theorem Ei:(prog.info? 110).map (λi=>(i.zero,i.size,i.bytes))=some (some (.agg #[.int .i64 0,.bool false,.slice none 0 0,.bool false,.slice none 0 0]),5,72):=by kernel_rfl
theorem Ul (a:Int) (s:Bool) (p:Option Addr) (n c:Nat) (t:Bool) (q:Option Addr) (m d:Nat):∀u∈[Value.int .i64 a,.bool s,.slice p n c,.bool t,.slice q m d],u.oneCell'=true:=by
 intro u H;simp at H;rcases H with rfl|rfl|rfl|rfl|rfl <;> rfl
theorem fO (a:Int) (s:Bool) (p:Option Addr) (n c:Nat) (t:Bool) (q:Option Addr) (m d:Nat):∀u∈[Value.int .i64 a,.bool s,.slice p n c,.bool t,.slice q m d],NotU32 u:=by
 intro u H;simp at H;rcases H with rfl|rfl|rfl|rfl|rfl <;> exact λ_ h=>by cases h
theorem Uk:∀u∈(Value.agg #[.int .i64 0,.bool false,.slice none 0 0,.bool false,.slice none 0 0]).cells.toList,NotU32 u:=by
 intro u H;simp[Value.cells]at H;rcases H with rfl|rfl|rfl|rfl|rfl <;> exact λ_ h=>by cases h
end
section
open Go.RowKit Eli Tryz
theorem Kb {W w':World} (g:Nat) (hg:W.heap.size=g) (H:Below (W.alloc (.cells #[.bool false,.slice none 0 0,.bool false,.slice none 0 0] 86)).heap.size (W.alloc (.cells #[.bool false,.slice none 0 0,.bool false,.slice none 0 0] 86)) w'):
  w'.cell? ⟨g,0,none⟩=some (.bool false)/\w'.cell? ⟨g,1,none⟩=some (.slice none 0 0)/\w'.cell? ⟨g,2,none⟩=some (.bool false)/\w'.cell? ⟨g,3,none⟩=some (.slice none 0 0)/\w'.frozen? ⟨g,0,none⟩=false/\w'.frozen? ⟨g,1,none⟩=false/\w'.frozen? ⟨g,2,none⟩=false/\w'.frozen? ⟨g,3,none⟩=false/\Blk w' g 86 #[.bool false,.slice none 0 0,.bool false,.slice none 0 0]:=by
 subst hg;have h:=(Blk.new W 86 #[.bool false,.slice none 0 0,.bool false,.slice none 0 0]).below_ H (by simp);exact⟨h.at_ 0 rfl,h.at_ 1 rfl,h.at_ 2 rfl,h.at_ 3 rfl,h.free_ 0,h.free_ 1,h.free_ 2,h.free_ 3,h⟩
theorem Io {w w':World} {g:Nat} (I:Below w.heap.size w w') (h:w.cell? ⟨g,0,none⟩=some (.bool false)/\w.cell? ⟨g,1,none⟩=some (.slice none 0 0)/\w.cell? ⟨g,2,none⟩=some (.bool false)/\w.cell? ⟨g,3,none⟩=some (.slice none 0 0)/\w.frozen? ⟨g,0,none⟩=false/\w.frozen? ⟨g,1,none⟩=false/\w.frozen? ⟨g,2,none⟩=false/\w.frozen? ⟨g,3,none⟩=false/\Blk w g 86 #[.bool false,.slice none 0 0,.bool false,.slice none 0 0]):
  w'.cell? ⟨g,0,none⟩=some (.bool false)/\w'.cell? ⟨g,1,none⟩=some (.slice none 0 0)/\w'.cell? ⟨g,2,none⟩=some (.bool false)/\w'.cell? ⟨g,3,none⟩=some (.slice none 0 0)/\w'.frozen? ⟨g,0,none⟩=false/\w'.frozen? ⟨g,1,none⟩=false/\w'.frozen? ⟨g,2,none⟩=false/\w'.frozen? ⟨g,3,none⟩=false/\Blk w' g 86 #[.bool false,.slice none 0 0,.bool false,.slice none 0 0]:=by
 have H:=h.2.2.2.2.2.2.2.2;have h:=H.below_ I H.lt;exact⟨h.at_ 0 rfl,h.at_ 1 rfl,h.at_ 2 rfl,h.at_ 3 rfl,h.free_ 0,h.free_ 1,h.free_ 2,h.free_ 3,h⟩
theorem Ac {w w':World} {a:Addr} {v:Value} (H:Below w.heap.size w w') (h:w.cell? a=some v):w'.cell? a=some v:=(H.cell (p:=a) (World.block_lt_of_cell? w a h)).trans h
def Iq:Value->Nat
 |.slice _ n _=>n
 | _=>0
def Sml (K:Nat) (c:Rat) (a b:List (Nat×Rat)):Prop:=hq c<=K/\(∀x,x∈a->hq x.2<=K)/\(∀x,x∈b->hq x.2<=K)
theorem Sml.left {K:Nat} {c:Rat} {x:Nat×Rat} {a b:List (Nat×Rat)} (h:Sml K c (x :: a) b):Sml K c a b:=⟨h.1,λy H=>h.2.1 y (List.mem_cons_of_mem _ H),h.2.2⟩
theorem Sml.right {K:Nat} {c:Rat} {y:Nat×Rat} {a b:List (Nat×Rat)} (h:Sml K c a (y :: b)):Sml K c a b:=⟨h.1,h.2.1,λz H=>h.2.2 z (List.mem_cons_of_mem _ H)⟩
theorem Sml.first {K:Nat} {c:Rat} {x:Nat×Rat} {a b:List (Nat×Rat)} (h:Sml K c (x :: a) b):hq x.2<=K:=h.2.1 x (List.mem_cons_self ..)
theorem Sml.second {K:Nat} {c:Rat} {y:Nat×Rat} {a b:List (Nat×Rat)} (h:Sml K c a (y :: b)):hq y.2<=K:=h.2.2 y (List.mem_cons_self ..)
theorem Z1 (v1 v2:Value) (l1 l2:List (Nat×Rat)) (s:Bool) (p:Option Addr) (n c:Nat) (t:Bool) (q:Option Addr) (m d:Nat) (x:Rat) (K:Nat) (w:World) (h1:TL l1 w w.heap.size v1) (h2:TL l2 w w.heap.size v2) (hx:Qs w s p n c t q m d x) (hK:Sml K x l1 l2) (pL:K<=100000000) (hn:l1.length+l2.length<=1000000):
  Calls prog 95 #[v1,.agg #[.bool s,.slice p n c,.bool t,.slice q m d],v2] w λe w'=>(∃v',e=.returned v'/\OwnT (Gq x l1 l2) w' (w.heap.size+1) v')/\Below w.heap.size w w':=by
 have H1:=Kh h1;have H2:=Kh h2;have HX:=Kh hx;have HK:=Kh hK;clear h1 h2 hx hK;go_enter func95,ntmps95
 go_wp2_with fail
 obtain⟨w0,mB,X0,hM⟩:=bx1 w #[.bool s,.slice p n c,.bool t,.slice q m d] 86;rw[mB];have nH:w0.heap.size=w.heap.size+1:=by rw[<-mB];simp
 have nR:=Kh hM;have gF:=Kh X0;have lM:=Kh (I32.below hM);have mQ:=Kh (HX.1.keep hM);have nX:=Kh nH;have mT:=Kh ((H1.1.next lM.1 hM).up (Nat.le_succ _));have mU:=Kh ((H2.1.next lM.1 hM).up (Nat.le_succ _));have mP:=Kh (OwnT.nil w0 (w.heap.size+1));clear X0 hM mB nH H1 H2 HX;go_loopw [0,2,7] (λva vb vo wr=>∃la lb lo,TL la wr (w.heap.size+1) va/\TL lb wr (w.heap.size+1) vb/\OwnT lo wr (w.heap.size+1) vo/\lo++Gq x la lb=Gq x l1 l2/\Sml K x la lb/\la.length+lb.length+lo.length<=l1.length+l2.length/\Below (w.heap.size+1) w0 wr/\I32 w0 wr) (λva vb _ _=>Iq va+Iq vb)
 case atStart=>exact⟨l1,l2,[],mT.1,mU.1,mP.1,rfl,HK.1,by simp,Below.refl _ _,I32.refl _⟩
 case round=>
  obtain⟨la,lb,lo,hP,bB,lK,nD,nG,hO,lZ,nA⟩:=hrel;have HB:=Kh lZ;have HS:=Kh nG;have gA:=Kh nA;have hB:=Kh nD;have nY:=Kh lK;have I:=Kh (show w.heap.size+1<=wr.heap.size from nX.1▸lZ.size);have bC:=Kh (show lo.length<=1000000 by omega);clear lZ nG nA nD mT mU mP HK;cases la with
  | nil=>
   obtain⟨aa,ac,rfl⟩:=hP.nil;cases lb with
   | nil=>
    obtain⟨ba,bc,rfl⟩:=bB.nil;clear hP bB lK;go_wp2;go_ret;exact⟨⟨_,rfl,by rw[<-hB.1,Si,List.append_nil];exact nY.1⟩,nR.1.trans (HB.1.mono (Nat.le_succ _))⟩
   | cons z lb=>
    clear hP;obtain⟨xs,kZ,hI⟩:=lK;have h:=Kh (λH (U:Below wr.heap.size wr H)=>kZ.keep U);have hG:=Kh (λH (U:Below wr.heap.size wr H) j x hx=>show TX x H xs (j*5)from⟨(hI j x hx).1,(hI j x hx).2.i32 (IsQ.solid _) (I32.below U)⟩);clear kZ hI;obtain⟨gb,ob,cb,rfl,lA,nC,aT,⟨b0,s2,p2,n2,c2,t2,q2,m2,d2,b1,b2,b3,b4,lC⟩,gN⟩:=bB.cons;have hE:=Kh gN;have mV:=Kh bB;have lG:=Kh (show Qs wr s2 p2 n2 c2 t2 q2 m2 d2 z.2 from lC);have r0:=(HB.1.cell (p:=⟨w.heap.size,0,none⟩) (kW _)).trans (gF.1.at_ 0 rfl);have r1:=(HB.1.cell (p:=⟨w.heap.size,1,none⟩) (kW _)).trans (gF.1.at_ 1 rfl);have r2:=(HB.1.cell (p:=⟨w.heap.size,2,none⟩) (kW _)).trans (gF.1.at_ 2 rfl);have r3:=(HB.1.cell (p:=⟨w.heap.size,3,none⟩) (kW _)).trans (gF.1.at_ 3 rfl);have lF:=Kh (mQ.1.i32 gA.1);clear bB gN lC;have g1:(0:Int)<((lb.length+1:Nat):Int):=by omega
    have g2:(((lb.length:Nat):Int)+1==0)=false:=by simp;omega
    go_wp2_with fail
    go_quiet (fail)
    go_wp2_with fail
    go_quiet (fail)
    have hL:=Kh (λH (U:Below wr.heap.size wr H)=>Cy s p n c t q m d x s2 p2 n2 c2 t2 q2 m2 d2 z.2 H (lF.1.keep U) (lG.1.keep U) (by have:=HS.1.1;omega) (by have:=HS.1.second;omega));have hD:=Kh (show hq (x*z.2)<=1000000000 by have h1:=Cc x z.2;have h2:=HS.1.1;have h3:=HS.1.second;omega);have aN:=Kh (show ∀H,Below (w.heap.size+1) wr H->(H.cell? ⟨gb,ob,none⟩=some (.int .i64 (z.1:Int))/\H.cell? ⟨gb,ob+1,none⟩=some (.bool s2)/\H.cell? ⟨gb,ob+2,none⟩=some (.slice p2 n2 c2)/\H.cell? ⟨gb,ob+3,none⟩=some (.bool t2)/\H.cell? ⟨gb,ob+4,none⟩=some (.slice q2 m2 d2)/\H.cell? ⟨w.heap.size,0,none⟩=some (.bool s)/\H.cell? ⟨w.heap.size,1,none⟩=some (.slice p n c)/\H.cell? ⟨w.heap.size,2,none⟩=some (.bool t)/\H.cell? ⟨w.heap.size,3,none⟩=some (.slice q m d))from λH U=>⟨(U.cell (p:=⟨gb,ob,none⟩) (aT)).trans b0,(U.cell (p:=⟨gb,ob+1,none⟩) (aT)).trans b1,(U.cell (p:=⟨gb,ob+2,none⟩) (aT)).trans b2,(U.cell (p:=⟨gb,ob+3,none⟩) (aT)).trans b3,(U.cell (p:=⟨gb,ob+4,none⟩) (aT)).trans b4,(U.cell (p:=⟨w.heap.size,0,none⟩) (kW _)).trans r0,(U.cell (p:=⟨w.heap.size,1,none⟩) (kW _)).trans r1,(U.cell (p:=⟨w.heap.size,2,none⟩) (kW _)).trans r2,(U.cell (p:=⟨w.heap.size,3,none⟩) (kW _)).trans r3⟩);clear b0 b1 b2 b3 b4 r0 r1 r2 r3;go_upto_region 11 with(fail)
    go_region_held3 (λH=>H.cell? ⟨gb,ob,none⟩=some (.int .i64 (z.1:Int))/\H.cell? ⟨gb,ob+1,none⟩=some (.bool s2)/\H.cell? ⟨gb,ob+2,none⟩=some (.slice p2 n2 c2)/\H.cell? ⟨gb,ob+3,none⟩=some (.bool t2)/\H.cell? ⟨gb,ob+4,none⟩=some (.slice q2 m2 d2)/\H.cell? ⟨w.heap.size,0,none⟩=some (.bool s)/\H.cell? ⟨w.heap.size,1,none⟩=some (.slice p n c)/\H.cell? ⟨w.heap.size,2,none⟩=some (.bool t)/\H.cell? ⟨w.heap.size,3,none⟩=some (.slice q m d))
     (first|exact aN.1 _ (Below.mono (show Below wr.heap.size wr _ from(by first|exact(Aa (Aa (Below.refl _ wr) _) _).drew|exact(Aa (Below.refl _ wr) _).drew|exact(Below.refl _ wr).drew)) I.1)|with_reducible exact aN.1 _ aX|exact aN.1 _ (aX.alloc bE _)|exact aN.1 _ aD.1 |(exfalso;assumption))
     (first
      |(refine Ii NotU32 rfl (.tmp 87) (.tmp 100) _ 110 rfl underlying107 Ei rfl (by decide) (w.heap.size+1) lo.length u7 xs [.int .i64 (z.1:Int),.bool s4,.slice p4 n4 c4,.bool t4,.slice q4 m4 d4] rfl (h.1 _ (O)) rfl rfl (Ul _ _ _ _ _ _ _ _ _) (by have:=bC.1;omega) (by have:=bC.1;omega) (by first|exact I.1|exact kU I.1 (Below.size (O))) (fO _ _ _ _ _ _ _ _ _) Uk ?_;intro v9 w9 V J aU;have dC:=Kh (OwnT.push (h.1 _ (O)) (hG.1 _ (O)) z.1 (-(x*z.2)) hS V J);have Y:=Kh (show I32 wr w9 from(I32.below (O)).trans (I32.grown (K:=NotU32) (λz=>Er z) (h.1 _ (O)).2 J));have aD:=Kh (show Below (w.heap.size+1) wr w9 from(Below.mono (O) I.1).trans (Aw (Below.refl _ _) (h.1 _ (O)).1 J (kT _) (by first|exact I.1|exact kU I.1 (Below.size (O)))));clear V J aU)
      |(go_at_call 44;refine(hL.1 _ (show Below wr.heap.size wr _ from(by first|exact(Aa (Aa (Below.refl _ wr) _) _).drew|exact(Aa (Below.refl _ wr) _).drew|exact(Below.refl _ wr).drew))).mono ?_;rintro e w2 ⟨⟨s3,p3,n3,c3,t3,q3,m3,d3,rfl,hQ⟩,hN⟩;have Z:Below wr.heap.size wr w2:=Below.trans (show Below wr.heap.size wr _ from(by first|exact(Aa (Aa (Below.refl _ wr) _) _).drew|exact(Aa (Below.refl _ wr) _).drew|exact(Below.refl _ wr).drew)) hN;have aX:=Z.mono I.1;have bE:=kU I.1 Z.size)
      |(go_at_call 51;refine(I1 s3 p3 n3 c3 t3 q3 m3 d3 (x*z.2) _ hQ hD.1).mono ?_;rintro e w3 ⟨⟨s4,p4,n4,c4,t4,q4,m4,d4,rfl,hS⟩,hJ⟩;have O:Below wr.heap.size wr w3:=Z.trans (hJ.mono Z.size);have aX:=O.mono I.1;have bE:=kU I.1 O.size))
    all_goals go_wp2
    all_goals go_roundw
    all_goals first
     | exact⟨[],lb,lo++[(z.1,-(x*z.2))],.inl ⟨rfl,_,_,rfl⟩,(hE.1.next Y.1 aD.1).cut _ lA,dC.1,by rw[<-hB.1,mrg_right,List.append_assoc];rfl,HS.1.right,by simp at hO ⊢;omega,HB.1.trans aD.1,gA.1.trans Y.1⟩
     |(simp[Iq])
  | cons y la=>
   obtain⟨ga,oa,ca,rfl,lJ,oX,lB,⟨a0,s1,p1,n1,c1,t1,q1,m1,d1,a1,a2,a3,a4,nE⟩,lN⟩:=hP.cons;obtain⟨xs,kZ,hI⟩:=lK;have h:=Kh (λH (U:Below wr.heap.size wr H)=>kZ.keep U);have hG:=Kh (λH (U:Below wr.heap.size wr H) j x hx=>show TX x H xs (j*5)from⟨(hI j x hx).1,(hI j x hx).2.i32 (IsQ.solid _) (I32.below U)⟩);clear kZ hI;have lI:=Kh lN;have nZ:=Kh hP;have lT:=Kh (show Qs wr s1 p1 n1 c1 t1 q1 m1 d1 y.2 from nE);clear hP lN nE;cases lb with
   | nil=>
    obtain⟨ba,bc,rfl⟩:=bB.nil;have hE:=Kh bB;clear bB;have g1:(0:Int)<((la.length+1:Nat):Int):=by omega
    go_wp2_with fail
    go_quiet (fail)
    go_wp2_with (at_builtin;refine Bj NotU32 rfl (.tmp 64) (.tmp 68) _ 110 rfl underlying107 Ei rfl (by decide) (w.heap.size+1) lo.length u7 xs [.int .i64 (y.1:Int),.bool s1,.slice p1 n1 c1,.bool t1,.slice q1 m1 d1] rfl (h.1 _ (Aa (Below.refl _ wr) _)) rfl rfl (Ul _ _ _ _ _ _ _ _ _) (by have:=bC.1;omega) (by have:=bC.1;omega) (by first|exact I.1|exact kU I.1 (Below.size (Aa (Below.refl _ wr) _))) (fO _ _ _ _ _ _ _ _ _) Uk ?_;intro v9 w9 V J aU;have dC:=Kh (OwnT.push (h.1 _ (Aa (Below.refl _ wr) _)) (hG.1 _ (Aa (Below.refl _ wr) _)) y.1 y.2 (lT.1.keep (Aa (Below.refl _ wr) _)) V J);have Y:=Kh (show I32 wr w9 from(I32.below (Aa (Below.refl _ wr) _)).trans (I32.grown (K:=NotU32) (λz=>Er z) (h.1 _ (Aa (Below.refl _ wr) _)).2 J));have aD:=Kh (show Below (w.heap.size+1) wr w9 from(Below.mono (Aa (Below.refl _ wr) _) I.1).trans (Aw (Below.refl _ _) (h.1 _ (Aa (Below.refl _ wr) _)).1 J (kT _) (by first|exact I.1|exact kU I.1 (Below.size (Aa (Below.refl _ wr) _)))));clear V J aU)
    go_roundw
    case rel=>exact⟨la,[],lo++[(y.1,y.2)],(lI.1.next Y.1 aD.1).cut _ lJ,hE.1.next Y.1 aD.1,dC.1,by rw[<-hB.1,mrg_left,List.append_assoc];rfl,HS.1.left,by simp at hO ⊢;omega,HB.1.trans aD.1,gA.1.trans Y.1⟩
    case measure=>simp[Iq]
   | cons z lb=>
    obtain⟨gb,ob,cb,rfl,lA,nC,aT,⟨b0,s2,p2,n2,c2,t2,q2,m2,d2,b1,b2,b3,b4,lC⟩,gN⟩:=bB.cons;have hE:=Kh gN;have mV:=Kh bB;have lG:=Kh (show Qs wr s2 p2 n2 c2 t2 q2 m2 d2 z.2 from lC);have r0:=(HB.1.cell (p:=⟨w.heap.size,0,none⟩) (kW _)).trans (gF.1.at_ 0 rfl);have r1:=(HB.1.cell (p:=⟨w.heap.size,1,none⟩) (kW _)).trans (gF.1.at_ 1 rfl);have r2:=(HB.1.cell (p:=⟨w.heap.size,2,none⟩) (kW _)).trans (gF.1.at_ 2 rfl);have r3:=(HB.1.cell (p:=⟨w.heap.size,3,none⟩) (kW _)).trans (gF.1.at_ 3 rfl);have lF:=Kh (mQ.1.i32 gA.1);clear bB gN lC;have g1:(0:Int)<((la.length+1:Nat):Int):=by omega
    have g2:(((la.length:Nat):Int)+1==0)=false:=by simp;omega
    have g3:(((lb.length:Nat):Int)+1==0)=false:=by simp;omega
    rcases Nat.lt_trichotomy y.1 z.1 with hlt|mA|oC
    ·have g4:(y.1:Int)<(z.1:Int):=by omega
     clear r0 r1 r2 r3;go_wp2_with fail
     go_quiet (fail)
     go_wp2_with (at_builtin;refine Bj NotU32 rfl (.tmp 64) (.tmp 68) _ 110 rfl underlying107 Ei rfl (by decide) (w.heap.size+1) lo.length u7 xs [.int .i64 (y.1:Int),.bool s1,.slice p1 n1 c1,.bool t1,.slice q1 m1 d1] rfl (h.1 _ (Aa (Below.refl _ wr) _)) rfl rfl (Ul _ _ _ _ _ _ _ _ _) (by have:=bC.1;omega) (by have:=bC.1;omega) (by first|exact I.1|exact kU I.1 (Below.size (Aa (Below.refl _ wr) _))) (fO _ _ _ _ _ _ _ _ _) Uk ?_;intro v9 w9 V J aU;have dC:=Kh (OwnT.push (h.1 _ (Aa (Below.refl _ wr) _)) (hG.1 _ (Aa (Below.refl _ wr) _)) y.1 y.2 (lT.1.keep (Aa (Below.refl _ wr) _)) V J);have Y:=Kh (show I32 wr w9 from(I32.below (Aa (Below.refl _ wr) _)).trans (I32.grown (K:=NotU32) (λz=>Er z) (h.1 _ (Aa (Below.refl _ wr) _)).2 J));have aD:=Kh (show Below (w.heap.size+1) wr w9 from(Below.mono (Aa (Below.refl _ wr) _) I.1).trans (Aw (Below.refl _ _) (h.1 _ (Aa (Below.refl _ wr) _)).1 J (kT _) (by first|exact I.1|exact kU I.1 (Below.size (Aa (Below.refl _ wr) _)))));clear V J aU)
     go_roundw
     case rel=>exact⟨la,z :: lb,lo++[(y.1,y.2)],(lI.1.next Y.1 aD.1).cut _ lJ,mV.1.next Y.1 aD.1,dC.1,by rw[<-hB.1,Q5 x y z la lb hlt,List.append_assoc];rfl,HS.1.left,by simp at hO ⊢;omega,HB.1.trans aD.1,gA.1.trans Y.1⟩
     case measure=>simp[Iq]
    ·have g4:decide ((y.1:Int)<(z.1:Int))=false:=by simp;omega
     have g5:decide ((z.1:Int)<(y.1:Int))=false:=by simp;omega
     go_wp2_with fail
     go_quiet (fail)
     go_wp2_with fail
     go_quiet (fail)
     have hL:=Kh (λH (U:Below wr.heap.size wr H)=>Cy s p n c t q m d x s2 p2 n2 c2 t2 q2 m2 d2 z.2 H (lF.1.keep U) (lG.1.keep U) (by have:=HS.1.1;omega) (by have:=HS.1.second;omega));have hD:=Kh (show hq (x*z.2)<=200000000 by have h1:=Cc x z.2;have h2:=HS.1.1;have h3:=HS.1.second;omega);have mW:=Kh (show hq y.2<=1000000000 by have h3:=HS.1.first;omega);have nU:=Kh (show hq (y.2 - x*z.2)<=1000000000 by have h3:=HS.1.first;have h4:=hD.1;have h5:=Nc y.2 (-(x*z.2));rw[Nf]at h5;rw[Rat.sub_eq_add_neg];omega);have aN:=Kh (show ∀H,Below (w.heap.size+1) wr H->(H.cell? ⟨ga,oa+1,none⟩=some (.bool s1)/\H.cell? ⟨ga,oa+2,none⟩=some (.slice p1 n1 c1)/\H.cell? ⟨ga,oa+3,none⟩=some (.bool t1)/\H.cell? ⟨ga,oa+4,none⟩=some (.slice q1 m1 d1)/\H.cell? ⟨gb,ob+1,none⟩=some (.bool s2)/\H.cell? ⟨gb,ob+2,none⟩=some (.slice p2 n2 c2)/\H.cell? ⟨gb,ob+3,none⟩=some (.bool t2)/\H.cell? ⟨gb,ob+4,none⟩=some (.slice q2 m2 d2)/\H.cell? ⟨w.heap.size,0,none⟩=some (.bool s)/\H.cell? ⟨w.heap.size,1,none⟩=some (.slice p n c)/\H.cell? ⟨w.heap.size,2,none⟩=some (.bool t)/\H.cell? ⟨w.heap.size,3,none⟩=some (.slice q m d))from λH U=>⟨(U.cell (p:=⟨ga,oa+1,none⟩) (lB)).trans a1,(U.cell (p:=⟨ga,oa+2,none⟩) (lB)).trans a2,(U.cell (p:=⟨ga,oa+3,none⟩) (lB)).trans a3,(U.cell (p:=⟨ga,oa+4,none⟩) (lB)).trans a4,(U.cell (p:=⟨gb,ob+1,none⟩) (aT)).trans b1,(U.cell (p:=⟨gb,ob+2,none⟩) (aT)).trans b2,(U.cell (p:=⟨gb,ob+3,none⟩) (aT)).trans b3,(U.cell (p:=⟨gb,ob+4,none⟩) (aT)).trans b4,(U.cell (p:=⟨w.heap.size,0,none⟩) (kW _)).trans r0,(U.cell (p:=⟨w.heap.size,1,none⟩) (kW _)).trans r1,(U.cell (p:=⟨w.heap.size,2,none⟩) (kW _)).trans r2,(U.cell (p:=⟨w.heap.size,3,none⟩) (kW _)).trans r3⟩);have mN:=Kh (λH (U:Below (w.heap.size+1) wr H)=>(U.cell (p:=⟨ga,oa,none⟩) lB).trans a0);clear a0 a1 a2 a3 a4 b0 b1 b2 b3 b4 r0 r1 r2 r3;go_upto_region 3 with(fail)
     go_cut [8]from 17 to 27 (λv8 wd=>∃R s4 p4 n4 c4 t4 q4 m4 d4,v8=.pointer (some ⟨R,0,none⟩)/\wd.cell? ⟨R,0,none⟩=some (.bool s4)/\wd.cell? ⟨R,1,none⟩=some (.slice p4 n4 c4)/\wd.cell? ⟨R,2,none⟩=some (.bool t4)/\wd.cell? ⟨R,3,none⟩=some (.slice q4 m4 d4)/\Qs wd s4 p4 n4 c4 t4 q4 m4 d4 (y.2 - x*z.2)/\Below wr.heap.size wr wd/\wr.heap.size<=R)
     case first=>
      have M1:True:=trivial
      go_region_held3 (λH=>H.cell? ⟨ga,oa+1,none⟩=some (.bool s1)/\H.cell? ⟨ga,oa+2,none⟩=some (.slice p1 n1 c1)/\H.cell? ⟨ga,oa+3,none⟩=some (.bool t1)/\H.cell? ⟨ga,oa+4,none⟩=some (.slice q1 m1 d1)/\H.cell? ⟨gb,ob+1,none⟩=some (.bool s2)/\H.cell? ⟨gb,ob+2,none⟩=some (.slice p2 n2 c2)/\H.cell? ⟨gb,ob+3,none⟩=some (.bool t2)/\H.cell? ⟨gb,ob+4,none⟩=some (.slice q2 m2 d2)/\H.cell? ⟨w.heap.size,0,none⟩=some (.bool s)/\H.cell? ⟨w.heap.size,1,none⟩=some (.slice p n c)/\H.cell? ⟨w.heap.size,2,none⟩=some (.bool t)/\H.cell? ⟨w.heap.size,3,none⟩=some (.slice q m d))
       (first|exact aN.1 _ (Below.mono (show Below wr.heap.size wr _ from(by first|exact(Aa (Aa (Below.refl _ wr) _) _).drew|exact(Aa (Below.refl _ wr) _).drew|exact((Aa (Aa (Below.refl _ wr) _) _).drew).alloc (kT _) _|exact((Aa (Below.refl _ wr) _).drew).alloc (kT _) _)) I.1)|with_reducible exact aN.1 _ aX|exact aN.1 _ (aX.alloc bE _)|with_reducible exact aN.1 _ (As aX oA.1 _ _ _ _)|with_reducible exact aN.1 _ (As aX I.1 _ _ _ _)|with_reducible exact aN.1 _ (As (aX.alloc bE _) bE _ _ _ _) |(exfalso;assumption))
       (first
        |(go_at_call 44;clear M1;refine(hL.1 _ (by first|exact(Aa (Aa (Below.refl _ wr) _) _).drew|exact(Aa (Below.refl _ wr) _).drew|exact((Aa (Aa (Below.refl _ wr) _) _).drew).alloc (kT _) _|exact((Aa (Below.refl _ wr) _).drew).alloc (kT _) _)).mono ?_;rintro e w2 ⟨⟨s3,p3,n3,c3,t3,q3,m3,d3,rfl,hQ⟩,hN⟩;have Z:Below wr.heap.size wr w2:=Below.trans (show Below wr.heap.size wr _ from(by first|exact(Aa (Aa (Below.refl _ wr) _) _).drew|exact(Aa (Below.refl _ wr) _).drew|exact((Aa (Aa (Below.refl _ wr) _) _).drew).alloc (kT _) _|exact((Aa (Below.refl _ wr) _).drew).alloc (kT _) _)) (Below.mono hN (Below.size (show Below wr.heap.size wr _ from(by first|exact(Aa (Aa (Below.refl _ wr) _) _).drew|exact(Aa (Below.refl _ wr) _).drew|exact((Aa (Aa (Below.refl _ wr) _) _).drew).alloc (kT _) _|exact((Aa (Below.refl _ wr) _).drew).alloc (kT _) _))));have aX:=Z.mono I.1;have bE:=kU I.1 Z.size;(try have fa:=Kb wr.heap.size (by first|exact rfl |(simp;done)) hN))
        |(go_at_call 146;refine(Z6 s1 p1 n1 c1 t1 q1 m1 d1 y.2 s3 p3 n3 c3 t3 q3 m3 d3 (x*z.2) _ (lT.1.keep (show Below wr.heap.size wr _ from(by first|exact Z|exact Z.alloc Z.size _))) (by first|exact hQ|exact hQ.keep ((Below.refl _ _).alloc (kT _) _)) mW.1 (by have:=hD.1;omega)).mono ?_;rintro e w3 ⟨⟨s4,p4,n4,c4,t4,q4,m4,d4,rfl,hS⟩,hJ⟩;have O:Below wr.heap.size wr w3:=Below.trans (show Below wr.heap.size wr _ from(by first|exact Z|exact Z.alloc Z.size _)) (Below.mono hJ (Below.size (show Below wr.heap.size wr _ from(by first|exact Z|exact Z.alloc Z.size _))));have aX:=O.mono I.1;have bE:=kU I.1 O.size;(first|have fa:=Io (by first|exact hJ) fa|have fa:=Kb w2.heap.size rfl hJ|skip);have oA:=Kh (show w.heap.size+1<=w2.heap.size from kU I.1 Z.size)))
      all_goals go_wp2
      all_goals go_meet
      all_goals first
       | exact⟨w3.heap.size,s4,p4,n4,c4,t4,q4,m4,d4,rfl,(Blk.new w3 86 #[.bool s4,.slice p4 n4 c4,.bool t4,.slice q4 m4 d4]).at_ 0 rfl,(Blk.new w3 86 #[.bool s4,.slice p4 n4 c4,.bool t4,.slice q4 m4 d4]).at_ 1 rfl,(Blk.new w3 86 #[.bool s4,.slice p4 n4 c4,.bool t4,.slice q4 m4 d4]).at_ 2 rfl,(Blk.new w3 86 #[.bool s4,.slice p4 n4 c4,.bool t4,.slice q4 m4 d4]).at_ 3 rfl,hS.keep ((Below.refl _ _).alloc (kT _) _),O.alloc O.size _,O.size⟩
       |(obtain⟨E0,E1,E2,E3,oD⟩:=B9 fa.2.2.2.2.2.2.2.2 hS rfl;exact⟨_,s4,p4,n4,c4,t4,q4,m4,d4,rfl,E0,E1,E2,E3,oD,As O (by first|exact kT _|exact Z.size) _ _ _ _,by first|exact kT _|exact Z.size⟩)
     case rest=>
      obtain⟨R,s4,p4,n4,c4,t4,q4,m4,d4,rfl,e0,e1,e2,e3,hz,nB,hR⟩:=hcut;obtain⟨wd,rfl⟩:∃wd:World,wd=wc:=⟨_,rfl⟩
      have lU:=Kh hz;have mO:=Kh nB;have lH:=Kh (show ∀g,u7.ownBlock=some g->g≠R from λg hg e=>by have:=((h.1 wr (Below.refl _ _)).2 g hg).1;omega);have iL:=Kh (And.intro e0 (And.intro e1 (And.intro e2 e3)));clear hz nB hR;go_wp2_with fail
      refine(E8 s4 p4 n4 c4 t4 q4 m4 d4 (y.2 - x*z.2) wd lU.1 nU.1).mono ?_;rintro e we ⟨⟨sg,rfl,nF⟩,bA⟩;have aJ:=bt mO bA;have mS:=Kh nF;have nV:=Kh (lU.1.keep bA);have kY:=Kh (λH (U:Below we.heap.size we H)=>show H.cell? ⟨R,0,none⟩=some (.bool s4)/\H.cell? ⟨R,1,none⟩=some (.slice p4 n4 c4)/\H.cell? ⟨R,2,none⟩=some (.bool t4)/\H.cell? ⟨R,3,none⟩=some (.slice q4 m4 d4)from⟨Ac (bA.trans (U.mono bA.size)) iL.1.1,Ac (bA.trans (U.mono bA.size)) iL.1.2.1,Ac (bA.trans (U.mono bA.size)) iL.1.2.2.1,Ac (bA.trans (U.mono bA.size)) iL.1.2.2.2⟩);clear nF bA hL hD mW lU mO iL e0 e1 e2 e3;by_cases hd:y.2 - x*z.2=0
      ·have h0:sg=0:=mS.1.2 hd
       subst h0;have nS:=Kh hd;clear hd;go_wp2_with fail
       go_quiet (fail)
       go_wp2;go_roundw
       case rel=>
        have gL:∀n,Below wr.heap.size wr (we.drewN n):=λn=>Aa aJ.1 n
        exact⟨la,lb,lo,(lI.1.next (I32.below (gL _)) ((gL _).mono I.1)).cut _ lJ,(hE.1.next (I32.below (gL _)) ((gL _).mono I.1)).cut _ lA,⟨xs,h.1 _ (gL _),hG.1 _ (gL _)⟩,by rw[<-hB.1,I7 x y z la lb mA nS.1],HS.1.left.right,by simp at hO ⊢;omega,HB.1.trans ((gL _).mono I.1),gA.1.trans (I32.below (gL _))⟩
       case measure=>simp[Iq];omega
      ·have h0:(sg != 0)=true:=by
        have:sg≠0:=λe=>hd (mS.1.1 e)
        simpa using this
       have nT:=Kh hd;clear hd;go_upto_region 5 with(fail)
       have mR:=Kh (show ∀H,Below we.heap.size we H->(H.cell? ⟨ga,oa,none⟩=some (.int .i64 (y.1:Int))/\H.cell? ⟨R,0,none⟩=some (.bool s4)/\H.cell? ⟨R,1,none⟩=some (.slice p4 n4 c4)/\H.cell? ⟨R,2,none⟩=some (.bool t4)/\H.cell? ⟨R,3,none⟩=some (.slice q4 m4 d4))from λH U=>⟨mN.1 H ((aJ.1.mono I.1).trans (U.mono (kU I.1 aJ.1.size))),kY.1 H U⟩);have oB:=mR.1 _ (Below.refl _ we).drew
       go_region_held3 (λH=>H.cell? ⟨ga,oa,none⟩=some (.int .i64 (y.1:Int))/\H.cell? ⟨R,0,none⟩=some (.bool s4)/\H.cell? ⟨R,1,none⟩=some (.slice p4 n4 c4)/\H.cell? ⟨R,2,none⟩=some (.bool t4)/\H.cell? ⟨R,3,none⟩=some (.slice q4 m4 d4))
        (first|with_reducible exact oB|with_reducible exact nW.1|exact mR.1 _ ((Below.refl _ we).drew.alloc (kT _) _) |(exfalso;assumption))
        (first
         |(refine Ii (W:=we.drew) NotU32 rfl (.tmp 31) (.tmp 38) _ 110 rfl underlying107 Ei rfl (by decide) (w.heap.size+1) lo.length u7 xs [.int .i64 (z.1:Int),.bool s4,.slice p4 n4 c4,.bool t4,.slice q4 m4 d4] rfl (h.1 _ (show Below wr.heap.size wr _ from(by first|exact aJ.1.drew|exact aJ.1))) rfl rfl (Ul _ _ _ _ _ _ _ _ _) (by have:=bC.1;omega) (by have:=bC.1;omega) (by first|exact I.1|exact kU I.1 (Below.size (show Below wr.heap.size wr _ from(by first|exact aJ.1.drew|exact aJ.1)))) (fO _ _ _ _ _ _ _ _ _) Uk ?_;intro v9 w9 V J aU;have dC:=Kh (OwnT.push (h.1 _ (show Below wr.heap.size wr _ from(by first|exact aJ.1.drew|exact aJ.1))) (hG.1 _ (show Below wr.heap.size wr _ from(by first|exact aJ.1.drew|exact aJ.1))) z.1 (y.2 - x*z.2) (nV.1.keep (by first|exact(Below.refl _ we).drew|exact Below.refl _ we)) V J);have Y:=Kh (show I32 wr w9 from(I32.below (show Below wr.heap.size wr _ from(by first|exact aJ.1.drew|exact aJ.1))).trans (I32.grown (K:=NotU32) (λz=>Er z) (h.1 _ (show Below wr.heap.size wr _ from(by first|exact aJ.1.drew|exact aJ.1))).2 J));have aD:=Kh (show Below (w.heap.size+1) wr w9 from(Below.mono (show Below wr.heap.size wr _ from(by first|exact aJ.1.drew|exact aJ.1)) I.1).trans (Aw (Below.refl _ _) (h.1 _ (show Below wr.heap.size wr _ from(by first|exact aJ.1.drew|exact aJ.1))).1 J (kT _) (by first|exact I.1|exact kU I.1 (Below.size (show Below wr.heap.size wr _ from(by first|exact aJ.1.drew|exact aJ.1))))));have nW:=Kh (show w9.cell? ⟨ga,oa,none⟩=some (.int .i64 (y.1:Int))/\w9.cell? ⟨R,0,none⟩=some (.bool s4)/\w9.cell? ⟨R,1,none⟩=some (.slice p4 n4 c4)/\w9.cell? ⟨R,2,none⟩=some (.bool t4)/\w9.cell? ⟨R,3,none⟩=some (.slice q4 m4 d4)from⟨mN.1 _ aD.1,J.cell (kY.1 _ (by first|exact(Below.refl _ we).drew|exact Below.refl _ we)).1 (λe=>lH.1 _ e.symm rfl),J.cell (kY.1 _ (by first|exact(Below.refl _ we).drew|exact Below.refl _ we)).2.1 (λe=>lH.1 _ e.symm rfl),J.cell (kY.1 _ (by first|exact(Below.refl _ we).drew|exact Below.refl _ we)).2.2.1 (λe=>lH.1 _ e.symm rfl),J.cell (kY.1 _ (by first|exact(Below.refl _ we).drew|exact Below.refl _ we)).2.2.2 (λe=>lH.1 _ e.symm rfl)⟩);clear V J aU))
       all_goals go_wp2_with fail
       all_goals go_quiet (fail)
       all_goals go_wp2
       all_goals go_roundw
       all_goals first
        | exact⟨la,lb,lo++[(z.1,y.2 - x*z.2)],(lI.1.next (Y.1.trans (I32.below (Aa (Below.refl _ _) _))) (Aa aD.1 _)).cut _ lJ,(hE.1.next (Y.1.trans (I32.below (Aa (Below.refl _ _) _))) (Aa aD.1 _)).cut _ lA,dC.1.keep (Aa (Below.refl _ _) _),by rw[<-hB.1,Nk x y z la lb mA nT.1,mA,List.append_assoc];rfl,HS.1.left.right,by simp at hO ⊢;omega,HB.1.trans (Aa aD.1 _),gA.1.trans (Y.1.trans (I32.below (Aa (Below.refl _ _) _)))⟩
        |(simp[Iq];omega)
    ·have g4:decide ((y.1:Int)<(z.1:Int))=false:=by simp;omega
     have g5:(z.1:Int)<(y.1:Int):=by omega
     go_wp2_with fail
     go_quiet (fail)
     go_wp2_with fail
     go_quiet (fail)
     have hL:=Kh (λH (U:Below wr.heap.size wr H)=>Cy s p n c t q m d x s2 p2 n2 c2 t2 q2 m2 d2 z.2 H (lF.1.keep U) (lG.1.keep U) (by have:=HS.1.1;omega) (by have:=HS.1.second;omega));have hD:=Kh (show hq (x*z.2)<=1000000000 by have h1:=Cc x z.2;have h2:=HS.1.1;have h3:=HS.1.second;omega);have aN:=Kh (show ∀H,Below (w.heap.size+1) wr H->(H.cell? ⟨gb,ob,none⟩=some (.int .i64 (z.1:Int))/\H.cell? ⟨gb,ob+1,none⟩=some (.bool s2)/\H.cell? ⟨gb,ob+2,none⟩=some (.slice p2 n2 c2)/\H.cell? ⟨gb,ob+3,none⟩=some (.bool t2)/\H.cell? ⟨gb,ob+4,none⟩=some (.slice q2 m2 d2)/\H.cell? ⟨w.heap.size,0,none⟩=some (.bool s)/\H.cell? ⟨w.heap.size,1,none⟩=some (.slice p n c)/\H.cell? ⟨w.heap.size,2,none⟩=some (.bool t)/\H.cell? ⟨w.heap.size,3,none⟩=some (.slice q m d))from λH U=>⟨(U.cell (p:=⟨gb,ob,none⟩) (aT)).trans b0,(U.cell (p:=⟨gb,ob+1,none⟩) (aT)).trans b1,(U.cell (p:=⟨gb,ob+2,none⟩) (aT)).trans b2,(U.cell (p:=⟨gb,ob+3,none⟩) (aT)).trans b3,(U.cell (p:=⟨gb,ob+4,none⟩) (aT)).trans b4,(U.cell (p:=⟨w.heap.size,0,none⟩) (kW _)).trans r0,(U.cell (p:=⟨w.heap.size,1,none⟩) (kW _)).trans r1,(U.cell (p:=⟨w.heap.size,2,none⟩) (kW _)).trans r2,(U.cell (p:=⟨w.heap.size,3,none⟩) (kW _)).trans r3⟩);clear b0 b1 b2 b3 b4 r0 r1 r2 r3;go_upto_region 11 with(fail)
     go_region_held3 (λH=>H.cell? ⟨gb,ob,none⟩=some (.int .i64 (z.1:Int))/\H.cell? ⟨gb,ob+1,none⟩=some (.bool s2)/\H.cell? ⟨gb,ob+2,none⟩=some (.slice p2 n2 c2)/\H.cell? ⟨gb,ob+3,none⟩=some (.bool t2)/\H.cell? ⟨gb,ob+4,none⟩=some (.slice q2 m2 d2)/\H.cell? ⟨w.heap.size,0,none⟩=some (.bool s)/\H.cell? ⟨w.heap.size,1,none⟩=some (.slice p n c)/\H.cell? ⟨w.heap.size,2,none⟩=some (.bool t)/\H.cell? ⟨w.heap.size,3,none⟩=some (.slice q m d))
      (first|exact aN.1 _ (Below.mono (show Below wr.heap.size wr _ from(by first|exact(Aa (Aa (Below.refl _ wr) _) _).drew|exact(Aa (Below.refl _ wr) _).drew|exact(Below.refl _ wr).drew)) I.1)|with_reducible exact aN.1 _ aX|exact aN.1 _ (aX.alloc bE _)|exact aN.1 _ aD.1 |(exfalso;assumption))
      (first
       |(refine Ii NotU32 rfl (.tmp 87) (.tmp 100) _ 110 rfl underlying107 Ei rfl (by decide) (w.heap.size+1) lo.length u7 xs [.int .i64 (z.1:Int),.bool s4,.slice p4 n4 c4,.bool t4,.slice q4 m4 d4] rfl (h.1 _ (O)) rfl rfl (Ul _ _ _ _ _ _ _ _ _) (by have:=bC.1;omega) (by have:=bC.1;omega) (by first|exact I.1|exact kU I.1 (Below.size (O))) (fO _ _ _ _ _ _ _ _ _) Uk ?_;intro v9 w9 V J aU;have dC:=Kh (OwnT.push (h.1 _ (O)) (hG.1 _ (O)) z.1 (-(x*z.2)) hS V J);have Y:=Kh (show I32 wr w9 from(I32.below (O)).trans (I32.grown (K:=NotU32) (λz=>Er z) (h.1 _ (O)).2 J));have aD:=Kh (show Below (w.heap.size+1) wr w9 from(Below.mono (O) I.1).trans (Aw (Below.refl _ _) (h.1 _ (O)).1 J (kT _) (by first|exact I.1|exact kU I.1 (Below.size (O)))));clear V J aU)
       |(go_at_call 44;refine(hL.1 _ (show Below wr.heap.size wr _ from(by first|exact(Aa (Aa (Below.refl _ wr) _) _).drew|exact(Aa (Below.refl _ wr) _).drew|exact(Below.refl _ wr).drew))).mono ?_;rintro e w2 ⟨⟨s3,p3,n3,c3,t3,q3,m3,d3,rfl,hQ⟩,hN⟩;have Z:Below wr.heap.size wr w2:=Below.trans (show Below wr.heap.size wr _ from(by first|exact(Aa (Aa (Below.refl _ wr) _) _).drew|exact(Aa (Below.refl _ wr) _).drew|exact(Below.refl _ wr).drew)) hN;have aX:=Z.mono I.1;have bE:=kU I.1 Z.size)
       |(go_at_call 51;refine(I1 s3 p3 n3 c3 t3 q3 m3 d3 (x*z.2) _ hQ hD.1).mono ?_;rintro e w3 ⟨⟨s4,p4,n4,c4,t4,q4,m4,d4,rfl,hS⟩,hJ⟩;have O:Below wr.heap.size wr w3:=Z.trans (hJ.mono Z.size);have aX:=O.mono I.1;have bE:=kU I.1 O.size))
     all_goals go_wp2
     all_goals go_roundw
     all_goals first
      | exact⟨y :: la,lb,lo++[(z.1,-(x*z.2))],nZ.1.next Y.1 aD.1,(hE.1.next Y.1 aD.1).cut _ lA,dC.1,by rw[<-hB.1,Q4 x y z la lb oC,List.append_assoc];rfl,HS.1.right,by simp at hO ⊢;omega,HB.1.trans aD.1,gA.1.trans Y.1⟩
      |(simp[Iq])
theorem QE.butR {r:Rat} {w w':World} {g i R:Nat} (h:QE (IsQ r) w g i) (J:I32 w w') (hg:w.grownBy w' (some R)) (O:g≠R):QE (IsQ r) w' g i:=by
 have H:∀j v,w.cell? ⟨g,j,none⟩=some v->w'.cell? ⟨g,j,none⟩=some v:=λj v e=>hg.cell e (λI=>by injection I with I;exact O I)
 obtain⟨s,p,n,c,t,q,m,d,U,V,Y,Z,h4⟩:=h;exact⟨s,p,n,c,t,q,m,d,H _ _ U,H _ _ V,H _ _ Y,H _ _ Z,h4.i32 J⟩
def addQ (F Y:Nat->Rat) (x:Rat) (k:Nat):Nat->FP:=λj=>IsQ (if j<k then F j+x*Y j else F j)
theorem addQ.done {F Y:Nat->Rat} {x:Rat} {k:Nat} {w:World} {g N:Nat} (h:QRow (addQ F Y x k) w g N N) (H:F k+x*Y k=F k):QRow (addQ F Y x (k+1)) w g N N:=
 QRow.congr h (λj _=>by
  unfold addQ;by_cases hj:j<k
  ·rw[if_pos hj,if_pos (by omega)]
  ·rw[if_neg hj]
   by_cases hj2:j=k
   ·rw[if_pos (by omega),hj2,H]
   ·rw[if_neg (by omega)])
theorem addQ.put {F Y:Nat->Rat} {x:Rat} {k:Nat} {w:World} {g N:Nat} (h:QRow (addQ F Y x k) w g N N) (I:k<N) {s:Bool} {p:Option Addr} {n c:Nat} {t:Bool} {q:Option Addr} {m d:Nat} (hq:Qs w s p n c t q m d (F k+x*Y k)):
  QRow (addQ F Y x (k+1)) ((((w.setCell ⟨g,k*4,none⟩ (.bool s)).setCell ⟨g,k*4+1,none⟩ (.slice p n c)).setCell ⟨g,k*4+2,none⟩ (.bool t)).setCell ⟨g,k*4+3,none⟩ (.slice q m d)) g N N:=
 QRow.set (λ_=>IsQ.solid _) h k I _ (IsQ.solid _) (λi H J=>⟨H,by
  unfold addQ;by_cases hj:i<k
  ·rw[if_pos hj,if_pos (by omega)]
  ·rw[if_neg hj,if_neg (by omega)]⟩) (show IsQ (if k<k+1 then F k+x*Y k else F k) w s p n c t q m d by rw[if_pos (kW k)];exact hq)
theorem addQ.elem {F Y:Nat->Rat} {x:Rat} {k:Nat} {w:World} {g N:Nat} (h:QRow (addQ F Y x k) w g N N) (I:k<N):QE (IsQ (F k)) w g (k*4):=by
 have H:=QRow.val h k I;unfold addQ at H;rw[if_neg (Nat.lt_irrefl k)]at H;exact H
theorem Fm {w0 I H:World} {g k:Nat} {v0 v1 v2 v3:Value} (h:w0.grownBy I (some g)) (J:Below I.heap.size I H):w0.grownBy ((((H.setCell ⟨g,k*4,none⟩ v0).setCell ⟨g,k*4+1,none⟩ v1).setCell ⟨g,k*4+2,none⟩ v2).setCell ⟨g,k*4+3,none⟩ v3) (some g):=
 (h.trans (Af g J)).trans (Gt H g _ _ _ _ v0 v1 v2 v3)
theorem Zu (g N cx:Nat) (v2:Value) (F Y:Nat->Rat) (s:Bool) (p:Option Addr) (n c:Nat) (t:Bool) (q:Option Addr) (m d:Nat) (x:Rat) (w:World) (h1:QRow (λj=>IsQ (F j)) w g N N)
  (hy:N=0∨∃gy oy cy,v2=.slice (some ⟨gy,oy,none⟩) N cy/\gy≠g/\gy<w.heap.size/\∀j,j<N->QE (IsQ (Y j)) w gy (oy+j*4))
  (hx:Qs w s p n c t q m d x) (hK:hq x<=100000000) (hF:∀j,j<N->hq (F j)<=100000000/\hq (Y j)<=100000000) (hN:N<=1000000):
  Calls prog 50 #[.slice (some ⟨g,0,none⟩) N cx,.agg #[.bool s,.slice p n c,.bool t,.slice q m d],v2] w λe w'=>(∃v,e=.returned v)/\QRow (λj=>IsQ (F j+x*Y j)) w' g N N/\w.grownBy w' (some g)/\I32 w w':=by
 have HY:=Kh hy;have HX:=Kh hx;have HF:=Kh hF;have H1:=Kh h1;have HK:=Kh hK;have kY:=Kh h1.sts.1;clear h1 hy hx hF hK;go_enter func50,ntmps50
 go_wp2_with fail
 obtain⟨w0,hD,X0,aT⟩:=bx1 w #[.bool s,.slice p n c,.bool t,.slice q m d] 86;rw[hD];have bC:=Kh aT;have h:=Kh X0;have cG:=Kh (show QRow (addQ F Y x 0) w0 g N N from QRow.congr (QRow.keep (λ_=>IsQ.solid _) H1.1 aT) (λj _=>by unfold addQ;rw[if_neg (Nat.not_lt_zero j)]));have lD:=Kh (HX.1.keep aT);obtain⟨gc,bY⟩:∃gc,w.heap.size=gc:=⟨_,rfl⟩
 have aD:=Kh (show gc≠g by have:=kY.1;omega);rw[bY]at h ⊢;have lW:=Kh bY;clear X0 aT hD H1 HX bY;go_wp2;go_loopw [9] (λi wr=>∃k:Nat,k<=N/\i=.int .i64 k/\QRow (addQ F Y x k) wr g N N/\w0.grownBy wr (some g)/\I32 w0 wr) (λi _=>N - (intOf i).toNat)
 case atStart=>exact⟨0,Nat.zero_le _,rfl,cG.1,Af g (Below.refl _ _),I32.refl _⟩
 case round=>
  obtain⟨k,hk,rfl,aX,gU,gN⟩:=hrel;have aK:=Kh aX;have O:=Kh gU;have V:=Kh gN;clear aX gU gN cG;by_cases hlt:k<N
  ·obtain⟨gy,oy,cy,rfl,cA,mL,hI⟩:=HY.1.resolve_left (by omega)
   have lA:=Kh cA;obtain⟨s',p',i1,c',t',q',m',d',a0,a1,a2,a3,hx⟩:=(((hI k hlt).keep (IsQ.solid _) bC.1).butR V.1 O.1 cA)
   have HP:=Kh (show Qs wr s' p' i1 c' t' q' m' d' (Y k)from hx);have cF:=Kh (lD.1.i32 V.1);have x0:=O.1.cell (h.1.at_ 0 rfl) (λe=>by injection e with e;exact aD.1 e);have x1:=O.1.cell (h.1.at_ 1 rfl) (λe=>by injection e with e;exact aD.1 e);have x2:=O.1.cell (h.1.at_ 2 rfl) (λe=>by injection e with e;exact aD.1 e);have x3:=O.1.cell (h.1.at_ 3 rfl) (λe=>by injection e with e;exact aD.1 e);have mN:(k:Int)<(N:Int):=by omega
   have dC:=Kh (show Cells4 wr gc 0 s p n c t q m d from⟨x0,x1,x2,x3⟩);have cC:=Kh (show Cells4 wr gy (oy+k*4) s' p' i1 c' t' q' m' d' from⟨a0,a1,a2,a3⟩);clear hI cA hx x0 x1 x2 x3;go_wp2_with fail
   refine(E8 s' p' i1 c' t' q' m' d' (Y k) wr HP.1 (by have:=(HF.1 k hlt).2;omega)).mono ?_;rintro e we ⟨⟨sg,rfl,hB⟩,J⟩;have cX:=Kh hB;have mF:=Kh J;have H:=Kh (QRow.keep (λj=>(IsQ.solid _:Bh (addQ F Y x k j))) aK.1 J);have aJ:=Kh (O.1.trans (Af g J));have Z:=Kh (V.1.trans (I32.below J));have lC:=Kh (HP.1.keep J);have lE:=Kh (cF.1.keep J);have lG:=Kh (dC.1.keep J);have hY:=Kh (cC.1.keep J);clear hB J a0 a1 a2 a3 aK O V HP cF dC cC;by_cases hz:Y k=0
   ·have h0:sg=0:=cX.1.2 hz
    subst h0;have lO:=Kh (show F k+x*Y k=F k by rw[hz];grind);go_wp2;go_roundw
    case rel=>exact⟨k+1,by omega,by go_num,addQ.done H.1 lO.1,aJ.1,Z.1⟩
    case measure=>simp[intOf];omega
   ·have h0:(sg != 0)=true:=by
     have:sg≠0:=λe=>hz (cX.1.1 e)
     simpa using this
    obtain⟨x0,x1,x2,x3⟩:=lG.1;obtain⟨a0,a1,a2,a3⟩:=hY.1;obtain⟨s5,p5,n5,c5,t5,q5,m5,d5,e0,e1,e2,e3,hy⟩:=addQ.elem H.1 hlt;have hZ:=Kh (show Qs we s5 p5 n5 c5 t5 q5 m5 d5 (F k)from hy)
    have lF:=Kh (show hq (x*Y k)<=200000000 by
     have h1:=Cc x (Y k);have h2:=HK.1;have h3:=(HF.1 k hlt).2;omega)
    have kZ:=Kh (λw1 (I:Below we.heap.size we w1)=>Cy s p n c t q m d x s' p' i1 c' t' q' m' d' (Y k) w1 (lE.1.keep I) (lC.1.keep I) (by have:=HK.1;omega) (by have:=(HF.1 k hlt).2;omega));have U:=H.1;have mO:=lA.1;have mP:=aD.1;have mQ:g<we.heap.size:=U.sts.1;clear hy;go_upto_region 5 with(fail)
    refine K6 (λW=>W.cell? ⟨gc,0,none⟩=some (.bool s)/\W.cell? ⟨gc,1,none⟩=some (.slice p n c)/\W.cell? ⟨gc,2,none⟩=some (.bool t)/\W.cell? ⟨gc,3,none⟩=some (.slice q m d)/\W.cell? ⟨gy,oy+k*4,none⟩=some (.bool s')/\W.cell? ⟨gy,oy+k*4+1,none⟩=some (.slice p' i1 c')/\W.cell? ⟨gy,oy+k*4+2,none⟩=some (.bool t')/\W.cell? ⟨gy,oy+k*4+3,none⟩=some (.slice q' m' d')/\W.cell? ⟨g,k*4,none⟩=some (.bool s5)/\W.frozen? ⟨g,k*4,none⟩=false/\W.cell? ⟨g,k*4+1,none⟩=some (.slice p5 n5 c5)/\W.frozen? ⟨g,k*4+1,none⟩=false/\W.cell? ⟨g,k*4+2,none⟩=some (.bool t5)/\W.frozen? ⟨g,k*4+2,none⟩=false/\W.cell? ⟨g,k*4+3,none⟩=some (.slice q5 m5 d5)/\W.frozen? ⟨g,k*4+3,none⟩=false) (λW I=>⟨Au I x0,Au I x1,Au I x2,Au I x3,Au I a0,Au I a1,Au I a2,Au I a3,Au I e0,Ab I (by rw[e0];rfl) (U.free _ (by omega)),Au I e1,Ab I (by rw[e1];rfl) (U.free _ (by omega)),Au I e2,Ab I (by rw[e2];rfl) (U.free _ (by omega)),Au I e3,Ab I (by rw[e3];rfl) (U.free _ (by omega))⟩) (λcT hHeld0=>?_);clear x0 x1 x2 x3 a0 a1 a2 a3 e0 e1 e2 e3 U;refine Al 0 ?_;refine Al 1 ?_;refine Al 2 ?_;refine Al 3 ?_;refine Al 4 ?_;refine Al 5 ?_;refine Al 6 ?_;refine Al 7 ?_;refine Al 8 ?_;refine Al 9 ?_;refine Al 10 ?_;refine F9 11 rfl (λK hK=>?_);focus(go_simp;refine(kZ.1 _ (Below.refl _ we).drew).mono ?_;rintro e w2 ⟨⟨s3,p3,n3,c3,t3,q3,m3,d3,rfl,hJ⟩,gP⟩;have bE:=Kh ((Below.refl _ we).drew.trans gP:Below we.heap.size we w2);have lH:=Kh hJ;clear hJ gP;(first|with_reducible refine hK.out _ _ ?_ (λhHeld1=>?_) |(go_wp2_with fail;with_reducible refine hK.out _ _ ?_ (λhHeld1=>?_))))
    focus((try dsimp only);exact cT.1 _ bE.1)
    focus(clear hK K;(try simp only[Act.put,Br,Bt,Bs]))
    refine F9 12 rfl (λK hK=>?_);focus(go_simp;refine(Fo s5 p5 n5 c5 t5 q5 m5 d5 (F k) s3 p3 n3 c3 t3 q3 m3 d3 (x*Y k) _ (hZ.1.keep bE.1) lH.1 (by have:=(HF.1 k hlt).1;omega) (by have:=lF.1;omega)).mono ?_;rintro e w4 ⟨⟨s6,p6,n6,c6,t6,q6,m6,d6,rfl,hL⟩,gS⟩;have aN:=bt bE gS;have cB:=QRow.keep (λj=>(IsQ.solid _:Bh (addQ F Y x k j))) H.1 aN.1;have cD:=Kh (addQ.put cB hlt hL);have iL:=Kh (show ∀v0 v1 v2 v3,w0.grownBy ((((w4.setCell ⟨g,k*4,none⟩ v0).setCell ⟨g,k*4+1,none⟩ v1).setCell ⟨g,k*4+2,none⟩ v2).setCell ⟨g,k*4+3,none⟩ v3) (some g)from λ_ _ _ _=>Fm aJ.1 aN.1);have H4:=Kh (show I32 w0 ((((w4.setCell ⟨g,k*4,none⟩ (.bool s6)).setCell ⟨g,k*4+1,none⟩ (.slice p6 n6 c6)).setCell ⟨g,k*4+2,none⟩ (.bool t6)).setCell ⟨g,k*4+3,none⟩ (.slice q6 m6 d6))from(Z.1.trans (I32.below aN.1)).trans (I32.put4 cB.sts _ _ _ _ _ _ _ _ (NotInt.bool _) (NotInt.slice _ _ _) (NotInt.bool _)));clear hL gS cB;(first|with_reducible refine hK.out _ _ ?_ (λhHeld2=>?_) |(go_wp2_with fail;with_reducible refine hK.out _ _ ?_ (λhHeld2=>?_))))
    focus((try dsimp only);exact cT.1 _ aN.1)
    focus(clear hK K;(try simp only[Act.put,Br,Bt,Bs]))
    refine Al 13 ?_;refine K5 14 rfl (λK hK=>?_);go_simp
    refine hK.out _ _ ?_;clear hK K
    (try simp only[Act.put,Br,Bt,Bs])
    all_goals clear H aJ Z
    all_goals go_wp2
    all_goals go_roundw
    all_goals first
     | exact⟨k+1,by omega,by go_num,cD.1,iL.1 _ _ _ _,H4.1⟩
     |(simp[intOf];omega)
  ·obtain rfl:k=N:=by omega
   go_wp2;go_end0;exact⟨⟨_,rfl⟩,QRow.congr aK.1 (λj hj=>by unfold addQ;rw[if_pos hj]),(Af g bC.1).trans O.1,(I32.below bC.1).trans V.1⟩
end
end Go.Proofs.YtenlbhlllgppmaaGreatDoor
