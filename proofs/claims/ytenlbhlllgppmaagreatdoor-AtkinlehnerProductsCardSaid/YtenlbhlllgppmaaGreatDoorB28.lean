/- contfrac at the document's example: the expansions, the convergents and the chain from 0 to infinity. -/
import Derived.Test.YtenlbhlllgppmaaGreatDoorB27
set_option linter.unusedSimpArgs false
set_option maxRecDepth 100000
set_option maxHeartbeats 8000000
namespace Go.Proofs.YtenlbhlllgppmaaGreatDoor
section
open Go.RowKit Tryz
theorem W7 (n:Int) (w:World):Calls prog 195 #[.int .i64 n] w λe w'=>e=.returned (.bool (Io n))/\w'=w:=by
 go_enter func195,ntmps195
 go_wp2;all_goals (go_ret;exact⟨C7 (by rw[Bool.eq_iff_iff];simp[Io];omega),rfl⟩)
theorem F0:(prog.info? 47).map (λi=>(i.zero,i.size,i.bytes))=some (some (.agg #[.int .i64 0,.int .i64 0]),2,16):=by kernel_rfl
theorem int_i64 (n:Int):NotU32 (.int .i64 n):=λ_ h=>by cases h
theorem Zk:∀u∈(Value.int .i64 0).cells.toList,NotU32 u:=by
 intro u I;simp[Value.cells]at I;subst I;exact int_i64 _
theorem Th:∀u∈(Value.agg #[.int .i64 0,.int .i64 0]).cells.toList,NotU32 u:=by
 intro u I;simp[Value.cells]at I;subst I;exact int_i64 _
theorem eN (a b:Int):∀u∈[Value.int .i64 a,.int .i64 b],NotU32 u:=by
 intro u I;simp at I;rcases I with rfl|rfl <;> exact int_i64 _
theorem eO (a b:Int):∀u∈[Value.int .i64 a,.int .i64 b],u.oneCell'=true:=by
 intro u I;simp at I;rcases I with rfl|rfl <;> rfl
theorem Ti (a:Int):∀u∈[Value.int .i64 a],NotU32 u:=by
 intro u I;simp at I;subst I;exact int_i64 _
theorem Tj (a:Int):∀u∈[Value.int .i64 a],u.oneCell'=true:=by
 intro u I;simp at I;subst I;rfl
theorem Re (w:World):
  Calls prog 157 #[.agg #[.int .i64 1,.int .i64 0]] w λe w'=>e=.returned (.tuple #[.slice none 0 0,.int .i64 5])/\Below w.heap.size w w':=by
 go_enter func157,ntmps157
 go_wp2_with fail
 obtain⟨w0,O,V,I⟩:=bx1 w #[.int .i64 1,.int .i64 0] 47;rw[O];refine(Dk 1 0 w0 (by omega) (by omega) (by omega) (by omega)).mono ?_;rintro e Z ⟨rfl,J⟩;rw[show At 1 0=0 by decide];have Y:=V.below_ J V.lt;have h:=Y.at_ 0 rfl;have x1:=Y.at_ 1 rfl;have U:=Kh (I.trans (J.mono I.size));clear O V I J Y;go_wp2
 (first|go_ret2|go_ret)
 exact⟨rfl,U.1⟩
theorem Zl {K:Value->Prop} {w:World} {B E sz n:Nat} {v:Value} {O:List Value} (h:OwnK K w B E sz v n O) (hn:0<n):∃g cap,v=.slice (some ⟨g,0,none⟩) n cap/\n<=cap/\cap<=9223372036854775807/\B<=g/\g<w.heap.size/\(∀i,w.frozen? ⟨g,i,none⟩=false)/\∀(j:Nat) u,O[j]?=some u->w.cell? ⟨g,j,none⟩=some u:=by
 rcases h.1.2 with⟨_,e2⟩ |⟨g,cap,cs,J,hB,hg,U,I,V,_⟩
 ·omega
 ·have Y:=h.2 g (by rw[J];rfl)
  subst J;exact⟨g,cap,rfl,U,by simp only[maxLen]at I;omega,hB,Y.1,λi=>Blk.free_ hg i,λj u Z=>An h.1 Z⟩
theorem Tm {w:World} {B g:Nat} (X:Blk w g 47 #[.int .i64 1,.int .i64 0]) (hB:B<=g):OwnK NotU32 w B 47 2 (.slice (some ⟨g,0,none⟩) 1 1) 1 [.int .i64 1,.int .i64 0]:=by
 refine⟨⟨rfl,.inr ⟨g,1,#[.int .i64 1,.int .i64 0],rfl,hB,X,nR _,by decide,rfl,rfl⟩⟩,λO e=>?_⟩;have J:g=O:=by simpa [Value.ownBlock] using e
 subst J;exact Stk.of X (by intro v I;simp at I;rcases I with rfl|rfl <;> exact int_i64 _)
theorem W3 (w:World):
  Calls prog 112 #[.agg #[.int .i64 1,.int .i64 0]] w λe w'=>(∃v,e=.returned (.tuple #[v,.int .i64 0])/\OwnK NotU32 w' w.heap.size 47 2 v 1 [.int .i64 1,.int .i64 0])/\Below w.heap.size w w':=by
 go_enter func112,ntmps112
 go_wp2_with fail
 obtain⟨Z,O,_,U,I⟩:=bx2 w #[.int .i64 1,.int .i64 0] 47 #[.int .i64 1,.int .i64 0] 47;rw[O];refine(Re Z).mono ?_;rintro e h ⟨rfl,J⟩;have Y:=Kh (Tm (B:=w.heap.size) (U.below_ J U.lt) (by omega));have V:=Kh (I.trans (J.mono I.size));clear O U I J;go_wp2
 (first|go_ret2|go_ret)
 exact⟨⟨_,rfl,Y.1⟩,V.1⟩
theorem eK {P:Program} {O:Region.Mode} {J:Array Oper} {Q:Exit->Act->World->Prop} {S:World->Prop} (i:Nat) {U:Oper} {n d:Nat} {I:Array Bool} {a V:Act} {w:World} (h:wpE P O J Q S n (I.setIfInBounds i true) V w)
  (Y:J[i]?=some U:=by rfl) (hS:S w:=by assumption) (hw:Region.wanted U (yielded J a.tmps)=false:=by rfl)
  (hd:U.dst=some d:=by rfl) (ha:a.put (some d) undef=V:=by(try simp only[Act.put,List.setIfInBounds_toArray,List.set_cons_zero,List.set_cons_succ]);rfl)
  (hs:Region.noSelect J=true:=by kernel_rfl) (hf:Region.free O J I i=true:=by kernel_rfl) (hr:(Region.ready O J I).contains i=true:=by kernel_rfl) (hk:T9 O J I i=true:=by kernel_rfl)
  (hQ:∀c a w,Q (.panic c) (a.put U.dst undef) w->Q (.panic c) a w:=by exact λ_ _ _ h=>h):wpE P O J Q S (n+1) I a w:=by
 subst ha;rw[<-hd]at h;obtain⟨k,ok,Z,h2,h3,h4⟩:=Lu hk;exact wpE.first Y Z h2 h4 (Region.noSelect_spec hs) hQ n I a w (Region.free_spec Y hf) h3 (by simpa using hr) (.inr ⟨hw,rfl⟩) hS h
theorem Q4 {P:Program} {W:World} {U:Array Oper} {rest:List Oper} {o:Oper} {a:Act} {Q:Exit->Act->World->Prop} (Y:o.guard=none) (s x:Operand) (t E:TypeId)
  (ho:o.op=.call { callee:=.builtin .append,args:=#[s,x],argTypes:=#[t,t] }) {z:Value} {sz I:Nat} (hU:P.underlying t=some (.slice E))
  (J:(P.info? E).map (λi=>(i.zero,i.size,i.bytes))=some (some z,sz,I)) (q p:Option Addr) (n k c:Nat) (Z:n<=k)
  (hs:a.eval s=.slice q n k) (hx:a.eval x=.slice p 0 c)
  (h:wpList P U Q rest (a.put o.dst (.slice q n k)) W):
  wpList P U Q (o :: rest) a W:=by
 obtain⟨i0,hi,bY,cA,cB⟩:=info_parts J
 have O:Src P i0.size t (.slice p 0 c) 0 [] W:=by
  cases p with
  | none=>exact Src.ofNil W hU c
  | some a=>exact Src.ofSlice W hU a 0 c [] (by simp) (λj u h=>by simp at h) (λu h=>by cases h)
 have hr:=run_append_nothing (P:=P) W t t o.type E i0 hU hi q n k Z (.slice p 0 c) O;refine wpList_plain Y λK' V=>?_
 unfold Oper.wp execOp;simp only[ho,resolve,invoke,builtin,Sem.run_bind,Sem.run_pure,Result.andThen_ok,List.map_toArray,List.map_cons,List.map_nil,hs,hx,hr];exact V _ _ h
end
section
open Go.RowKit Eli
theorem QL.r4 {x y:Nat->Int} {w:World} {v:Value} {n:Nat} (h:QL (λj=>IsR (x j) (y j)) w v n):QL (λj=>IsB 4000 (x j) (y j)) w v n:=by
 rcases h with h |⟨g,o,c,Z,h2,h3⟩
 ·exact .inl h
 ·exact .inr ⟨g,o,c,Z,h2,λj hj=>by
   obtain⟨s,p,k,J,t,q,m,d,O,U,V,Y,I⟩:=h3 j hj;exact⟨s,p,k,J,t,q,m,d,O,U,V,Y,I.1,I.2.1,nS I.2.2.1 (by decide),nS I.2.2.2 (by decide)⟩⟩
end
section
open Go.RowKit
def PLs (F:Nat->Nat->Rat) (X Y:Nat->Int×Int) (w:World) (v:Value) (k n:Nat):Prop:=
 (k=0/\∃a c,v=.slice a 0 c)∨∃g0 c0,v=.slice (some ⟨g0,0,none⟩) k c0/\g0<w.heap.size/\∀i,i<k->∃g cap,w.cell? ⟨g0,i*5,none⟩=some (.slice (some ⟨g,0,none⟩) n cap)/\w.cell? ⟨g0,i*5+1,none⟩=some (.int .i64 (X i).1)/\w.cell? ⟨g0,i*5+2,none⟩=some (.int .i64 (X i).2)/\w.cell? ⟨g0,i*5+3,none⟩=some (.int .i64 (Y i).1)/\w.cell? ⟨g0,i*5+4,none⟩=some (.int .i64 (Y i).2)/\QRow (λj=>IsQ (F i j)) w g n n
theorem PLs.keep {F:Nat->Nat->Rat} {X Y:Nat->Int×Int} {w w':World} {k n:Nat} {v:Value} (h:PLs F X Y w v k n) (O:Below w.heap.size w w'):PLs F X Y w' v k n:=by
 rcases h with h |⟨J,c0,e,hg,hc⟩
 ·exact .inl h
 ·refine .inr ⟨J,c0,e,nT hg O.size,λi hi=>?_⟩
  obtain⟨g,cap,U,V,Z,e3,e4,e5⟩:=hc i hi;have I:∀j v,w.cell? ⟨J,j,none⟩=some v->w'.cell? ⟨J,j,none⟩=some v:=λj v e=>(O.cell (p:=⟨J,j,none⟩) hg).trans e
  exact⟨g,cap,I _ _ U,I _ _ V,I _ _ Z,I _ _ e3,I _ _ e4,e5.keep (λ_=>IsQ.solid _) O⟩
def IsA (x y:Int):FP:=λw s p n c t q m d=>Zr w s p n c x/\Zr w t q m d y
theorem IsA.solid (x y:Int):Bu (IsA x y):=λ_ _ _ _ _ _ _ _ _ _ h hq=>⟨hq.1.i32 h,hq.2.i32 h⟩
def Shorts (x y:Nat->Int) (w:World) (vp:Option Addr) (i:Nat):Prop:=∀j,j<i->∃g o,vp=some ⟨g,o,none⟩/\g<w.heap.size/\QE (IsR (x j) (y j)) w g (o+j*4)
theorem Shorts.ql {x y:Nat->Int} {w:World} {I:Option Addr} {n c:Nat} (h:Shorts x y w I n):QL (λj=>IsR (x j) (y j)) w (.slice I n c) n:=by
 rcases Nat.eq_zero_or_pos n with rfl|J
 ·exact .inl ⟨rfl,_,_,rfl⟩
 ·obtain⟨g,o,rfl,hg,_⟩:=h 0 J
  refine .inr ⟨g,o,c,rfl,hg,λj O=>?_⟩;obtain⟨U,V,e,_,hq⟩:=h j O;injection e with e
  injection e with e1 e2
  subst e1;subst e2;exact hq
end
section
open Go.RowKit Eli Tryz
theorem QL.boxed {F:Nat->FP} (hF:∀j,Bu (F j)) {w w':World} {p:Option Addr} {n c R:Nat} (h:QL F w (.slice p n c) n) (I:I32 w w') (hg:w.grownBy w' (some R)) (J:∀a,p=some a->a.block≠R):QL F w' (.slice p n c) n:=by
 rcases h with h |⟨g,o,cap,e,hlt,hq⟩
 ·exact .inl h
 ·injection e with e1 e2 e3
  subst e1;have hn:(some g:Option Nat)≠some R:=λe=>J _ rfl (by injection e)
  refine .inr ⟨g,o,c,rfl,nT hlt hg.size,λj hj=>?_⟩;obtain⟨s,p,k,c,t,q,m,d,O,U,V,Y,Z⟩:=hq j hj;exact⟨s,p,k,c,t,q,m,d,hg.cell O hn,hg.cell U hn,hg.cell V hn,hg.cell Y hn,hF j _ _ _ _ _ _ _ _ _ _ I Z⟩
theorem Lb {F:Nat->FP} {w:World} {B n:Nat} {p:Option Addr} {c:Nat} (h:OwnQ F w B (.slice p n c) n):∀a,p=some a->B<=a.block:=by
 intro a J;rcases h.row with⟨_,I⟩ |⟨g,cap,I,hB,_⟩
 ·injection I with h2
  rw[J]at h2;cases h2
 ·injection I with h2
  rw[J]at h2;injection h2 with h2
  rw[h2];exact hB
theorem Pf (n:Nat) (w:World) (hn:n<=1000):
  Calls prog 120 #[.int .i64 n] w λe w'=>(∃g,e=.returned (.slice (some ⟨g,0,none⟩) n n)/\w.heap.size<=g/\QRow (λ_=>IsQ (((0:Int)):Rat)) w' g n n)/\Below w.heap.size w w':=by
 have cG:=Hx n (by omega);go_enter func120,ntmps120
 go_wp2_with fail
 have J:=QRow.made (λ_=>IsQ (((0:Int)):Rat)) w n;obtain⟨wy,Z⟩:∃wy,w.alloc (.cells (madeCells #[.bool false,.slice none 0 0,.bool false,.slice none 0 0] (n*4)) 86)=wy:=⟨_,rfl⟩
 have Y:Below w.heap.size w wy:=Z▸(Below.refl _ _).alloc (nR _) _;rw[Z]at J ⊢;obtain⟨G,hG⟩:∃g,w.heap.size=g:=⟨_,rfl⟩
 have bA:=Kh hG;rw[hG]at J Y ⊢;have bC:=Kh J;have aX:=Kh Y;clear J Y Z hG;go_loopw [9] (λii wr=>∃k:Nat,k<=n/\ii=.int .i64 k/\QRow (λ_=>IsQ (((0:Int)):Rat)) wr G n k/\Below G w wr) (λii _=>n - (intOf ii).toNat)
 case atStart=>exact⟨0,Nat.zero_le _,rfl,bC.1,aX.1⟩
 case round=>
  obtain⟨k,hk,rfl,O,bE⟩:=hrel;obtain⟨w6,rfl⟩:∃w6:World,w6=wr:=⟨_,rfl⟩
  have U:=Kh O;have h:=Kh bE;clear O bE bC aX;by_cases hlt:k<n
  ·have dE:(k:Int)<(n:Int):=by omega
   go_wp2_with fail
   refine(En 0 w6 (by omega) (by omega)).mono ?_;rintro e w8 ⟨⟨s6,p6,n6,c6,t6,q6,m6,d6,rfl,bY⟩,V⟩;have I:=U.1.keep (λ_=>IsQ.solid _) V;have bB:=Kh (QRow.set (k':=k+1) (λ_=>IsQ.solid _) I k hlt (λ_=>IsQ (((0:Int)):Rat)) (IsQ.solid _) (λi h1 h2=>⟨by omega,rfl⟩) (show IsQ (((0:Int)):Rat) w8 s6 p6 n6 c6 t6 q6 m6 d6 from bY));have cA:=Kh (h.1.trans (V.mono (Nat.le_of_lt U.1.sts.1)));obtain⟨u0,dY⟩:=nV (I.has (k*4) (by omega));obtain⟨u1,eP⟩:=nV (I.has (k*4+1) (by omega));obtain⟨u2,hu2⟩:=nV (I.has (k*4+2) (by omega));obtain⟨u3,gA⟩:=nV (I.has (k*4+3) (by omega));have f0:=I.free (k*4) (by omega);have f1:=I.free (k*4+1) (by omega);have f2:=I.free (k*4+2) (by omega);have f3:=I.free (k*4+3) (by omega);clear V I bY;go_wp2;go_roundw
   case rel=>exact⟨k+1,by omega,by go_num,bB.1,Bb cA.1⟩
   case measure=>simp[intOf];omega
  ·obtain rfl:n=k:=by omega
   clear hlt hk;go_wp2;go_ret;exact⟨⟨G,rfl,Nat.le_of_eq bA.1,U.1⟩,bA.1▸h.1⟩
def zF:Nat->Nat->Rat:=λ_ _=>(((0:Int)):Rat)
theorem bT (n:Nat) (w:World) (hn:n<=1000):
  Calls prog 102 #[.int .i64 n,.int .i64 n] w λe w'=>(∃G gs,e=.returned (.slice (some ⟨G,0,none⟩) n n)/\GM zF n n w' G gs w.heap.size)/\Below w.heap.size w w':=by
 have dE:=Y3 n (by omega);go_enter func102,ntmps102
 go_wp2_with fail
 obtain⟨V,J⟩:=GM.made zF n w n (λ_=>0);obtain⟨wG,cC⟩:∃wG,w.alloc (.cells (madeCells #[.slice none 0 0] n) 30)=wG:=⟨_,rfl⟩
 have bC:Below w.heap.size w wG:=cC▸(Below.refl _ _).alloc (nR _) _;rw[cC]at V J ⊢;obtain⟨G,hG⟩:∃G,w.heap.size=G:=⟨_,rfl⟩
 have cG:=Kh hG;rw[hG]at V J bC ⊢;have cT:=Kh V;have cX:=Kh J;have cD:=Kh bC;clear V J cC bC hG dE;go_loopw [11] (λii wr=>∃(k:Nat) (gs:Nat->Nat),k<=n/\ii=.int .i64 k/\GM zF k n wr G gs G/\(∀i,i<n->(wr.cell? ⟨G,i,none⟩).isSome=true)/\Below G w wr) (λii _=>n - (intOf ii).toNat)
 case atStart=>exact⟨0,_,Nat.zero_le _,rfl,cT.1,cX.1,cD.1⟩
 case round=>
  obtain⟨k,gs,hk,rfl,V,J,dC⟩:=hrel;obtain⟨wk,rfl⟩:∃wk:World,wk=wr:=⟨_,rfl⟩
  have I:=Kh V;have Y:=Kh J;have cF:=Kh dC;clear V J dC cT cX cD;by_cases hlt:k<n
  ·have hL:(k:Int)<(n:Int):=by omega
   go_wp2_with fail
   refine(Pf n wk hn).mono ?_;rintro e wn ⟨⟨g,rfl,bY,aX⟩,U⟩;obtain⟨uk,cB⟩:=nV (Y.1 k hlt);have hD:wn.cell? ⟨G,k,none⟩=some uk:=cell_next U cB;have hJ:=Ab U (by rw[cB];rfl) (I.1.free k);have gS:G<g:=nT I.1.stk.1 bY;have dY:=I.1.stk.next U
   obtain⟨ws,O⟩:∃ws,wn.setCell ⟨G,k,none⟩ (.slice (some ⟨g,0,none⟩) n n)=ws:=⟨_,rfl⟩
   have bB:I32 wn ws:=O▸I32.putU (dY.imp λ_=>SliceV.notU32) k _;have cA:wn.grownBy ws (some G):=O▸Ad wn G k _;have bE:ws.cell? ⟨G,k,none⟩=some (.slice (some ⟨g,0,none⟩) n n):=by rw[<-O];exact World.cell?_setCell_same' _ _ _ (by rw[hD];rfl)
   have gL:=Kh (show GM zF k n ws G gs G from by
    have h:=I.1.keep U;refine⟨O▸Bd h.stk _ _ ⟨_,_,_,rfl⟩,λi=>O▸Ao (h.free i),h.hB,λi Z=>?_,λi Z=>(h.row i Z).i32 (λ_=>IsQ.solid _) bB cA (h.ne i Z),h.ge,h.ne,h.inj⟩;rw[<-O,World.cell?_setCell_other _ _ _ _ (by simp <;> omega)];exact h.at_ i Z)
   have gN:=Kh (show ∀i,i<n->(ws.cell? ⟨G,i,none⟩).isSome=true from λi Z=>by
    obtain⟨ui,gU⟩:=nV (Y.1 i Z);rw[<-O];exact Ai (by rw[cell_next U gU];rfl))
   have gF:=Kh (gL.1.more (g:=g) (by rw[bE];rfl) (aX.i32 (λ_=>IsQ.solid _) bB cA (by omega)) (Nat.le_of_lt gS) (by omega) (λi Z=>Nat.ne_of_lt (nT (I.1.row i Z).sts.1 bY)) bE);have gA:=Kh (show Below G w ws from O▸((cF.1.trans (U.mono (Nat.le_of_lt I.1.stk.1))).setCell (p:=⟨G,k,none⟩) (nR _) _));clear cB dY bB cA bE aX U bY Y;go_wp2;go_roundw
   case rel=>exact⟨k+1,_,by omega,by go_num,gF.1,gN.1,gA.1⟩
   case measure=>simp[intOf];omega
  ·obtain rfl:n=k:=by omega
   go_wp2;go_ret;exact⟨⟨G,gs,rfl,I.1.base (Nat.le_of_eq cG.1)⟩,cG.1▸cF.1⟩
def uF (k:Nat):Nat->Nat->Rat:=λi q=>if i=q/\i<k then(((1:Int)):Rat)else(((0:Int)):Rat)
theorem iW (k i q:Nat) (_hi:True):uF (k+1) i q=L9 (uF k) k (λq=>if q=k then(((1:Int)):Rat)else(((0:Int)):Rat)) i q:=by
 unfold L9 uF;by_cases h:i=k
 ·subst h
  rw[if_pos rfl];by_cases hq:q=i
  ·rw[if_pos ⟨hq.symm,by omega⟩,if_pos hq]
  ·rw[if_neg (λh=>hq h.1.symm),if_neg hq]
 ·rw[if_neg h]
  by_cases hq:i=q/\i<k
  ·rw[if_pos hq,if_pos ⟨hq.1,by omega⟩]
  ·rw[if_neg hq,if_neg (λI=>hq ⟨I.1,by omega⟩)]
theorem Xq (n:Nat) (w:World) (hn:n<=1000):
  Calls prog 56 #[.int .i64 n] w λe w'=>(∃G gs,e=.returned (.slice (some ⟨G,0,none⟩) n n)/\GM (uF n) n n w' G gs w.heap.size)/\Below w.heap.size w w':=by
 go_enter func56,ntmps56
 go_wp2_with fail
 refine(bT n w hn).mono ?_;rintro e w1 ⟨⟨G,gs,rfl,O⟩,cB⟩;have bE:=Kh (show GM (uF 0) n n w1 G gs w.heap.size from O.congr (λi q _ _=>by unfold uF zF;rw[if_neg (λh=>absurd h.2 (Nat.not_lt_zero _))]));have bC:=Kh cB;clear O cB;go_wp2_with fail
 go_loopw [10] (λii wr=>∃k:Nat,k<=n/\ii=.int .i64 k/\GM (uF k) n n wr G gs w.heap.size/\Below w.heap.size w wr) (λii _=>n - (intOf ii).toNat)
 case atStart=>exact⟨0,Nat.zero_le _,rfl,bE.1,bC.1⟩
 case round=>
  obtain⟨k,hk,rfl,O,cD⟩:=hrel;obtain⟨we,rfl⟩:∃we:World,we=wr:=⟨_,rfl⟩
  have J:=Kh O;have U:=Kh cD;clear O cD bE bC;by_cases hlt:k<n
  ·have hL:(k:Int)<(n:Int):=by omega
   have l0:=J.1.at_ k hlt;have I:=J.1.row k hlt;have Z:=I.free;obtain⟨s0,p0,n0,c0,t0,q0,m0,d0,a0,a1,a2,a3,_⟩:=I.val k hlt;have hG:=Kh I;clear I;go_upto_region 5 with(fail)
   refine J2 (λW=>W.cell? ⟨G,k,none⟩=some (.slice (some ⟨gs k,0,none⟩) n n)/\W.cell? ⟨gs k,k*4,none⟩=some (.bool s0)/\W.frozen? ⟨gs k,k*4,none⟩=false/\W.cell? ⟨gs k,k*4+1,none⟩=some (.slice p0 n0 c0)/\W.frozen? ⟨gs k,k*4+1,none⟩=false/\W.cell? ⟨gs k,k*4+2,none⟩=some (.bool t0)/\W.frozen? ⟨gs k,k*4+2,none⟩=false/\W.cell? ⟨gs k,k*4+3,none⟩=some (.slice q0 m0 d0)/\W.frozen? ⟨gs k,k*4+3,none⟩=false) (λW Y=>⟨Aq Y l0,Aq Y a0,Ab Y (by rw[a0];rfl) (Z (k*4) (by omega)),Aq Y a1,Ab Y (by rw[a1];rfl) (Z (k*4+1) (by omega)),Aq Y a2,Ab Y (by rw[a2];rfl) (Z (k*4+2) (by omega)),Aq Y a3,Ab Y (by rw[a3];rfl) (Z (k*4+3) (by omega))⟩) (λcX hHeld0=>?_);refine Aj 0 ?_;refine Aj 1 ?_;refine Aj 2 ?_;refine Aj 3 ?_;refine Aj 4 ?_;refine G6 5 rfl (λK hK=>?_);focus(go_simp;refine(En 1 we.drew (by omega) (by omega)).mono ?_;rintro e w8 ⟨⟨s6,p6,n6,c6,t6,q6,m6,d6,rfl,cF⟩,cC⟩;have V:=Kh ((Below.refl _ we).drew.trans cC:Below we.heap.size we w8);have aX:=J.1.keep V.1;have bA:=aX.row k hlt;have cG:=bA.sts;have cA:=I32.put4 cG (k*4) (k*4+1) (k*4+2) (k*4+3) (.bool s6) (.slice p6 n6 c6) (.bool t6) (.slice q6 m6 d6) (NotInt.bool _) (NotInt.slice _ _ _) (NotInt.bool _);have bY:=Kh ((aX.put hlt (QRow.set (k':=n) (λ_=>IsQ.solid _) bA k hlt (λq=>IsQ (if q=k then(((1:Int)):Rat)else(((0:Int)):Rat))) (IsQ.solid _) (λi h1 h2=>⟨h1,by rw[if_neg h2];unfold uF;rw[if_neg (λh=>absurd h.2 (Nat.lt_irrefl _))]⟩) (by rw[if_pos rfl];exact cF)) ((((Ad w8 (gs k) (k*4) _).trans (Ad _ (gs k) (k*4+1) _)).trans (Ad _ (gs k) (k*4+2) _)).trans (Ad _ (gs k) (k*4+3) _)) cA).congr (λi q _ _=>iW k i q trivial));have cT:=Kh (Ae (U.1.trans (V.1.mono U.1.size)) ((((Ad w8 (gs k) (k*4) (.bool s6)).trans (Ad _ (gs k) (k*4+1) (.slice p6 n6 c6))).trans (Ad _ (gs k) (k*4+2) (.bool t6))).trans (Ad _ (gs k) (k*4+3) (.slice q6 m6 d6))) (nS U.1.size V.1.size) (J.1.ge k hlt));clear cC cF aX bA cG cA;(first|with_reducible refine hK.out _ _ ?_ (λhHeld1=>?_) |(go_wp2_with fail;with_reducible refine hK.out _ _ ?_ (λhHeld1=>?_))))
   focus((try dsimp only);exact cX.1 _ V.1)
   focus(clear hK K;(try simp only[Act.put,Bo,Bt,Bp]))
   refine Aj 6 ?_;refine Js 7 rfl (λK hK=>?_);go_simp
   refine hK.out _ _ ?_;clear hK K
   (try simp only[Act.put,Bo,Bt,Bp])
   go_wp2;go_roundw
   case rel=>exact⟨k+1,by omega,by go_num,bY.1,cT.1⟩
   case measure=>simp[intOf];omega
  ·obtain rfl:n=k:=by omega
   go_wp2;go_ret;exact⟨⟨G,gs,rfl,J.1⟩,U.1⟩
theorem Ri (n:Nat) (w:World) (h0:0<n) (hn:n<=1000):
  Calls prog 13 #[.int .i64 n] w λe w'=>(∃p c,e=.returned (.tuple #[.agg #[.int .i64 n,.int .i64 n,.slice p (n*n) c],.int .i64 0])/\QL (λj=>IsQ (uF n (j / n) (j % n))) w' (.slice p (n*n) c) (n*n))/\Below w.heap.size w w':=by
 go_enter func13,ntmps13
 go_wp2_with fail
 obtain⟨w0,cX,X0,aX⟩:=bx1 w #[.int .i64 0,.int .i64 0,.slice none 0 0] 32;rw[cX];refine(Gg n w0 (by omega)).mono ?_;rintro e w1 ⟨rfl,bA⟩;have cD:=Kh (X0.below_ bA X0.lt);have bY:=Kh (aX.trans (bA.mono aX.size));clear cX X0 aX bA;go_wp2_with fail
 refine(Xq n w1 hn).mono ?_;rintro e w2 ⟨⟨G,gs,rfl,cG⟩,bB⟩;have Z:=Kh (bk cD bB);have U:=bt bY bB;have gA:=Kh cG;clear cG bB cD bY;go_wp2_with fail
 refine(W9 (uF n) n n n G n gs w1.heap.size w2 gA.1 (nR _) (by omega) h0 (by omega)).mono ?_;rintro e w6 ⟨⟨v6,rfl,J⟩,bC⟩
 obtain⟨p6,c6,rfl⟩:∃p c,v6=.slice p (n*n) c:=by
  obtain⟨_,gP,_⟩:=J;exact Ba gP.1
 obtain⟨gr,cT⟩:∃x,w.heap.size=x:=⟨_,rfl⟩
 have cC:=Kh cT;have I:=bk Z bC;have bE:=Z.1.lt;have V:=U.1.trans (bC.mono U.1.size);rw[cT]at I bE V ⊢;have r0:=I.at_ 0 rfl;have r1:=I.at_ 1 rfl;have r2:=I.at_ 2 rfl;have f0:=I.free_ 0;have f1:=I.free_ 1;have f2:=I.free_ 2;have O:Stk NotU32 w6 gr:=Stk.of I (by intro v hv;simp at hv;rcases hv with rfl|rfl|rfl <;> exact λ_ h=>by cases h);have Y:=Kh (A9 (w:=w6) (R:=gr) (v0:=.int .i64 (n:Int)) (v1:=.int .i64 (n:Int)) (v2:=.slice p6 (n*n) c6) (by rw[r0];rfl) (by rw[r1];rfl) (by rw[r2];rfl));have gF:=Kh (Cc O (v0:=.int .i64 (n:Int)) (v1:=.int .i64 (n:Int)) (v2:=.slice p6 (n*n) c6) (λ_ h=>by cases h) (λ_ h=>by cases h));have cB:=Kh (((Ad w6 gr 0 (.int .i64 (n:Int))).trans (Ad _ gr 1 (.int .i64 (n:Int)))).trans (Ad _ gr 2 (.slice p6 (n*n) c6)));have gL:=Kh J.ql;have dY:=Kh (Lb J);have eP:=Kh bE;have cA:=Kh V;clear I O J bC bE V Z U;go_wp2;have e0:=Y.1.1;have e1:=Y.1.2.1;have e2:=Y.1.2.2;try simp only[Exit.inBlock,Exit.then]
 refine bodyPost_ret (by simp[results,results13,go_sem,e0,e1,e2];try rfl) rfl ?_;exact⟨⟨p6,c6,rfl,gL.1.boxed (λ_=>IsQ.solid _) gF.1 cB.1 (λa ha=>by have:=dY.1 a ha;have:=eP.1;omega)⟩,by rw[cC.1];exact Ae cA.1 cB.1 (by have:=cA.1.size;have:=cC.1;omega) (nR _)⟩
theorem RowsOwn.made (F:Nat->Nat->Rat) (C n:Nat) (w:World) (B:Nat) (hB:B<=w.heap.size) (hn:n<=1000000):RowsOwn F 0 C (w.alloc (.cells (madeCells #[.slice none 0 0] n) 30)) B (.slice (some ⟨w.heap.size,0,none⟩) 0 n):=by
 have O:=Blk.new w 30 (madeCells #[.slice none 0 0] n);refine⟨λ_=>0,⟨⟨rfl,.inr ⟨w.heap.size,n,madeCells #[.slice none 0 0] n,rfl,hB,?_,Nat.zero_le _,by simp only[maxLen];omega,by simp[madeCells],rfl⟩⟩,λg hg=>?_⟩,λ_ U=>absurd U (Nat.not_lt_zero _)⟩
 ·exact O
 ·injection hg with hg
  subst hg;refine Stk.of O (λv V=>?_);have I:v∈(madeCells #[.slice none 0 0] n).toList:=by simpa using V
  simp[madeCells]at I;obtain⟨k,_,J⟩:=I;rw[Nat.mod_one]at J;exact⟨none,0,0,J.symm⟩
theorem Q2 {P:Program} {W:World} {Z:Array Oper} {rest:List Oper} {o:Oper} {a:Act} {Q:Exit->Act->World->Prop} (K:Value->Prop) (bE:o.guard=none) (s x:Operand) (t E:TypeId)
  (ho:o.op=.call { callee:=.builtin .append,args:=#[s,x],argTypes:=#[t,t] }) {z:Value} {V J:Nat} (hU:P.underlying t=some (.slice E))
  (U:(P.info? E).map (λi=>(i.zero,i.size,i.bytes))=some (some z,V,J)) (cA:z.cells.size=V) (bY:0<V) (B n m g c:Nat) (v:Value) (xs I:List Value)
  (hs:a.eval s=v) (Y:OwnK K W B E V v n xs) (hx:a.eval x=.slice (some ⟨g,0,none⟩) m c) (hn:I.length=m*V) (O:∀(j:Nat) (u:Value),I[j]?=some u->W.cell? ⟨g,j,none⟩=some u) (h1:∀u∈I,u.oneCell'=true)
  (hb:(n+m)*J<=140737488355328) (hm:n+m<=9223372036854775807) (hB:B<=W.heap.size) (bB:∀u∈I,K u) (bC:∀u∈z.cells.toList,K u)
  (h:∀v' w',OwnK K w' B E V v' (n+m) (xs++I)->W.grownBy w' v.ownBlock->wpList P Z Q rest (a.put o.dst v') w'):
  wpList P Z Q (o :: rest) a W:=by
 obtain⟨v',w',hr,g1,g2⟩:=Qn (P:=P) K W t o.type E hU U cA bY B n m g c v xs I Y hn O h1 hb hm hB bB bC;refine wpList_plain bE λK' bA=>?_
 unfold Oper.wp execOp;simp only[ho,resolve,invoke,builtin,Sem.run_bind,Sem.run_pure,Result.andThen_ok,List.map_toArray,List.map_cons,List.map_nil,hs,hx,hr];exact bA _ _ (h v' w' g1 g2)
def eV (F:Nat->Nat->Rat) (k C:Nat) (w:World) (v:Value):Prop:=∃p c,v=.slice p k c/\(0<k->∃G,p=some ⟨G,0,none⟩/\G<w.heap.size/\∀i,i<k->∃g,w.cell? ⟨G,i,none⟩=some (.slice (some ⟨g,0,none⟩) C C)/\(0<C->QRow (λq=>IsQ (F i q)) w g C C))
def RowsX (F:Nat->Nat->Rat) (k C:Nat) (w:World) (B:Nat) (v:Value):Prop:=
 ∃gs:Nat->Nat,OwnK SliceV w B 30 1 v k ((List.range k).map λi=>Value.slice (some ⟨gs i,0,none⟩) C C)/\(0<C->∀i,i<k->QRow (λq=>IsQ (F i q)) w (gs i) C C)
theorem RowsX.keep {F:Nat->Nat->Rat} {k C:Nat} {w w':World} {B:Nat} {v:Value} (h:RowsX F k C w B v) (I:Below w.heap.size w w'):RowsX F k C w' B v:=by
 obtain⟨gs,J,O⟩:=h;exact⟨gs,J.keep I,λU i V=>(O U i V).keep (λ_=>IsQ.solid _) I⟩
theorem RowsX.push {F:Nat->Nat->Rat} {k C:Nat} {W w':World} {B:Nat} {v U:Value} {gs:Nat->Nat} {g:Nat} (Z:OwnK SliceV W B 30 1 v k ((List.range k).map λi=>Value.slice (some ⟨gs i,0,none⟩) C C))
  (h2:0<C->∀i,i<k->QRow (λq=>IsQ (F i q)) W (gs i) C C) (hr:QRow (λq=>IsQ (F k q)) W g C C) (J:OwnK SliceV w' B 30 1 U (k+1) (((List.range k).map λi=>Value.slice (some ⟨gs i,0,none⟩) C C)++[.slice (some ⟨g,0,none⟩) C C])) (hg:W.grownBy w' v.ownBlock):RowsX F (k+1) C w' B U:=by
 rcases Nat.eq_zero_or_pos C with rfl|O
 ·refine⟨λi=>if i<k then gs i else g,?_,λh=>absurd h (Nat.lt_irrefl _)⟩
  have e:((List.range (k+1)).map λi=>Value.slice (some ⟨if i<k then gs i else g,0,none⟩) 0 0)=((List.range k).map λi=>Value.slice (some ⟨gs i,0,none⟩) 0 0)++[.slice (some ⟨g,0,none⟩) 0 0]:=by
   rw[List.range_succ,List.map_append,List.map_singleton,if_neg (Nat.lt_irrefl k)];congr 1;exact List.map_congr_left (λi hi=>by rw[if_pos (List.mem_range.1 hi)])
  rw[e];exact J
 ·obtain⟨I,V,Y⟩:=RowsOwn.push (F:=F) O Z (h2 O) hr J hg
  exact⟨I,V,λ_=>Y⟩
theorem RowsX.read {F:Nat->Nat->Rat} {k C:Nat} {w:World} {B:Nat} {v:Value} (h:RowsX F k C w B v):eV F k C w v:=by
 obtain⟨gs,J,V⟩:=h;have Y:=J.1;rcases J.1.2 with⟨I,U⟩ |⟨G,cap,cs,I,hB,hg,hn,aX,bA,_⟩
 ·exact⟨none,0,by rw[I,U],λh=>by omega⟩
 ·subst I
  exact⟨_,_,rfl,λ_=>⟨G,rfl,(Array.getElem?_eq_some_iff.1 hg).1,λi O=>⟨gs i,An Y (by rw[List.getElem?_map,List.getElem?_range O];rfl),λZ=>V Z i O⟩⟩⟩
theorem Nv (R C RC gA oA cA:Nat) (pA:Option Addr) (X:Nat->Rat) (F:Nat->Nat->Rat) (w:World) (oE:0<RC->pA=some ⟨gA,oA,none⟩/\gA<w.heap.size) (hX:∀j,j<RC->QE (IsQ (X j)) w gA (oA+j*4)) (hV:R*C=RC) (hR:R<=1024) (hC:C<=1024) (hs:∀j,j<RC->hq (X j)<=1000000000000)
  (hF:∀i q,q<C->F i q=X (i*C+q)):
  Calls prog 71 #[.agg #[.int .i64 R,.int .i64 C,.slice pA RC cA]] w λe w'=>(∃G gs,e=.returned (.slice (some ⟨G,0,none⟩) R R)/\GM F R C w' G gs w.heap.size)/\Below w.heap.size w w':=by
 have oP:=Kh oE;have HX:=Kh hX;have HS:=Kh hs;have HF:=Kh hF;have oY:=Kh hV;have rF:RC<=1048576:=by rw[<-hV];exact Nat.mul_le_mul hR hC
 clear oE hX hs hF hV;go_enter func71,ntmps71
 have oG:=Y3 R (by omega);have qJ:=Hx C (by omega);go_wp2_with fail
 obtain⟨wb,mA,X0,nX⟩:=bx1 w #[.int .i64 R,.int .i64 C,.slice pA RC cA] 32;rw[mA];obtain⟨bB,J⟩:=GM.made F C wb R (λ_=>0);obtain⟨wG,iL⟩:∃wG,wb.alloc (.cells (madeCells #[.slice none 0 0] R) 30)=wG:=⟨_,rfl⟩
 have hW:Below wb.heap.size wb wG:=iL▸(Below.refl _ _).alloc (nR _) _;rw[iL]at bB J ⊢;have oI:wb.heap.size=w.heap.size+1:=by rw[<-mA];simp
 obtain⟨G,hT⟩:∃G,w.heap.size+1=G:=⟨_,rfl⟩
 have hG:wb.heap.size=G:=oI.trans hT;obtain⟨gb,hY⟩:∃gb,w.heap.size=gb:=⟨_,rfl⟩
 have aX:=Kh hG;have oQ:=Kh hY;rw[hG]at bB J hW;rw[hT];rw[hY]at X0 ⊢;have cF:=Kh X0;have cD:=Kh nX;have mE:=Kh bB;have nA:=Kh J;have mC:=Kh hW;clear mA X0 nX bB J iL hW hG hT oI hY oG;go_loopw [11] (λii wr=>∃(k:Nat) (gs:Nat->Nat),k<=R/\ii=.int .i64 k/\GM F k C wr G gs G/\(∀i,i<R->(wr.cell? ⟨G,i,none⟩).isSome=true)/\Below G wb wr) (λii _=>R - (intOf ii).toNat)
 case atStart=>exact⟨0,_,Nat.zero_le _,rfl,mE.1,nA.1,mC.1⟩
 case round=>
  obtain⟨k,gs,hk,rfl,bB,J,oB⟩:=hrel;obtain⟨wk,rfl⟩:∃wk:World,wk=wr:=⟨_,rfl⟩
  have I:=Kh bB;have dY:=Kh J;have hE:=Kh oB;clear bB J oB mE nA mC;by_cases hlt:k<R
  ·have rC:(k:Int)<(R:Int):=by omega
   have nZ:Below wb.heap.size wb wk:=aX.1▸hE.1;have x1:=(bk cF nZ).at_ 1 rfl;obtain⟨uk,hJ⟩:=nV (dY.1 k hlt);have oD:=I.1.free k;have gL:Below wk.heap.size wk (wk.alloc (.cells (madeCells #[.bool false,.slice none 0 0,.bool false,.slice none 0 0] (C*4)) 86)):=(Below.refl _ _).alloc (nR _) _;have pK:=cell_next gL hJ;have pL:=Ab gL (by rw[hJ];rfl) oD;clear nZ;go_upto_region 6 with(fail)
   clear pK pL gL;obtain⟨wn,gP⟩:∃wn,wk.alloc (.cells (madeCells #[.bool false,.slice none 0 0,.bool false,.slice none 0 0] (C*4)) 86)=wn:=⟨_,rfl⟩
   have cT:Below wk.heap.size wk wn:=gP▸(Below.refl _ _).alloc (nR _) _;have U:QRow (λq=>IsQ (F k q)) wn wk.heap.size C 0:=gP▸QRow.made _ wk C;have oJ:wn.heap.size=wk.heap.size+1:=by rw[<-gP];simp
   try rw[gP]
   obtain⟨g,hg⟩:∃g,wk.heap.size=g:=⟨_,rfl⟩
   have pJ:G<g:=hg▸I.1.stk.1;have oH:=I.1.stk.next cT
   have oK:wn.cell? ⟨G,k,none⟩=some uk:=cell_next cT hJ;obtain⟨ws,Y⟩:∃ws,wn.setCell ⟨G,k,none⟩ (.slice (some ⟨g,0,none⟩) C C)=ws:=⟨_,rfl⟩
   have cG:I32 wn ws:=Y▸I32.putU (oH.imp λ_=>SliceV.notU32) k _;have bC:wn.grownBy ws (some G):=Y▸Ad wn G k _;have oC:ws.cell? ⟨G,k,none⟩=some (.slice (some ⟨g,0,none⟩) C C):=by rw[<-Y];exact World.cell?_setCell_same' _ _ _ (by rw[oK];rfl)
   rw[hg]at U ⊢;rw[Y];have hL:=Kh (show ∀i,i<k->gs i<g from λi hi=>hg▸(I.1.row i hi).sts.1)
   have oR:=Kh (show GM F k C ws G gs G from by
    have h:=I.1.keep cT;refine⟨Y▸Bd h.stk _ _ ⟨_,_,_,rfl⟩,λi=>Y▸Ao (h.free i),h.hB,λi hi=>?_,λi hi=>(h.row i hi).i32 (λ_=>IsQ.solid _) cG bC (h.ne i hi),h.ge,h.ne,h.inj⟩;rw[<-Y,World.cell?_setCell_other _ _ _ _ (by simp <;> omega)];exact h.at_ i hi)
   have nC:=Kh (U.i32 (λ_=>IsQ.solid _) cG bC (by omega))
   have oS:=Kh (show ∀i,i<R->(ws.cell? ⟨G,i,none⟩).isSome=true from λi hi=>by
    rw[<-Y];obtain⟨u,hu⟩:=nV (dY.1 i hi);exact Ai (by rw[cell_next cT hu];rfl))
   have hO:=Kh (show Below G wb ws from Ae (hE.1.trans (cT.mono (by omega))) bC (by omega) (nR _));have hH:=Kh oC;have bA:=Kh pJ;clear gP cT U oJ hg oH oK cG bC Y hJ oD x1 I dY hE;go_wp2_with fail
   have pY:=Kh (show ws.cell? ⟨G,k,none⟩=some (.slice (some ⟨g,0,none⟩) C C)from hH.1);have dE:=Kh (show Below wb.heap.size wb ws from by rw[aX.1];exact hO.1);have mD:=Kh (cD.1.trans (dE.1.mono cD.1.size));try clear oC
   go_loopw [25] (λjj wr=>∃j:Nat,j<=C/\jj=.int .i64 j/\QRow (λq=>IsQ (F k q)) wr g C j/\ws.grownBy wr (some g)/\I32 ws wr) (λjj _=>C - (intOf jj).toNat)
   case atStart=>exact⟨0,Nat.zero_le _,rfl,nC.1,Af g (Below.refl _ _),I32.refl _⟩
   case round=>
    obtain⟨j,hj,rfl,U,bC,cG⟩:=hrel;obtain⟨we,rfl⟩:∃we:World,we=wr:=⟨_,rfl⟩
    have eP:=Kh U;have O:=Kh bC;have hN:=Kh cG;have bY:=Kh (show(some G:Option Nat)≠some g from λe=>by injection e with e;have:=bA.1;omega);clear U bC cG nC;by_cases hlt:j<C
    ·have rB:(j:Int)<(C:Int):=by omega
     obtain⟨KC,hU⟩:∃n,k*C=n:=⟨_,rfl⟩
     have rE:KC+C<=RC:=by
      have h1:=Nat.mul_le_mul_right C (show k+1<=R by omega);have h2:=oY.1;rw[Nat.succ_mul]at h1;omega
     have e1:(k:Int)*(C:Int)=(KC:Nat):=by rw[<-hU];push_cast;rfl
     obtain⟨KJ,nW⟩:∃n,KC+j=n:=⟨_,rfl⟩
     have rG:IntKind.i64.wrap (KC:Int)=(KC:Nat):=IntWalk.i64_in _ (by omega);have rH:IntKind.i64.wrap ((KC:Int)+(j:Int))=(KJ:Nat):=by rw[show(KC:Int)+(j:Int)=(KJ:Nat)by omega];exact IntWalk.i64_in _ (by omega)
     obtain⟨pM,oF⟩:=oP.1 (by omega);subst pM;have oN:=Kh (show F k j=X KJ by rw[HF.1 k j hlt,hU,nW]);have hM:gA≠g:=by have:=oF;have:=bA.1;have:=cD.1.size;have:=aX.1;omega
     obtain⟨s',p',i1,c',t',q',m',d',a0,a1,a2,a3,hx⟩:=(((HX.1 KJ (by omega)).keep (IsQ.solid _) mD.1).butR hN.1 O.1 hM)
     have HP:=Kh (show Qs we s' p' i1 c' t' q' m' d' (X KJ)from hx);have c0:=O.1.cell hH.1 bY.1;have gN:(some gb:Option Nat)≠some g:=λe=>by injection e with e;have h1:=cF.1.lt;have h2:=bA.1;have h3:=aX.1;omega
     have x1:=O.1.cell ((cF.1.below_ dE.1 cF.1.lt).at_ 1 rfl) gN;have x2:=O.1.cell ((cF.1.below_ dE.1 cF.1.lt).at_ 2 rfl) gN;have V:=eP.1;obtain⟨u0,e0⟩:=nV (V.has (j*4) (by omega));obtain⟨u1,hQ⟩:=nV (V.has (j*4+1) (by omega));obtain⟨u2,hS⟩:=nV (V.has (j*4+2) (by omega));obtain⟨u3,e3⟩:=nV (V.has (j*4+3) (by omega));have oX:=Kh (λw1 (Z:Below we.heap.size we w1)=>Xg s' p' i1 c' t' q' m' d' (X KJ) w1 (HP.1.keep Z) (HS.1 _ (by omega)));have rD:KJ<RC:=by omega
     have qI:(KJ:Int)<(RC:Int):=by omega
     have qH:(k:Int)<(R:Int):=by omega
     clear hx hU hM gN nW;go_upto_region 9 with(fail)
     refine J2 (λW=>W.cell? ⟨G,k,none⟩=some (.slice (some ⟨g,0,none⟩) C C)/\W.cell? ⟨gb,2,none⟩=some (.slice (some ⟨gA,oA,none⟩) RC cA)/\W.cell? ⟨gb,1,none⟩=some (.int .i64 (C:Int))/\W.cell? ⟨gA,oA+KJ*4,none⟩=some (.bool s')/\W.cell? ⟨gA,oA+KJ*4+1,none⟩=some (.slice p' i1 c')/\W.cell? ⟨gA,oA+KJ*4+2,none⟩=some (.bool t')/\W.cell? ⟨gA,oA+KJ*4+3,none⟩=some (.slice q' m' d')/\W.cell? ⟨g,j*4,none⟩=some (u0)/\W.frozen? ⟨g,j*4,none⟩=false/\W.cell? ⟨g,j*4+1,none⟩=some (u1)/\W.frozen? ⟨g,j*4+1,none⟩=false/\W.cell? ⟨g,j*4+2,none⟩=some (u2)/\W.frozen? ⟨g,j*4+2,none⟩=false/\W.cell? ⟨g,j*4+3,none⟩=some (u3)/\W.frozen? ⟨g,j*4+3,none⟩=false) (λW Z=>⟨Aq Z c0,Aq Z x2,Aq Z x1,Aq Z a0,Aq Z a1,Aq Z a2,Aq Z a3,Aq Z e0,Ab Z (by rw[e0];rfl) (V.free _ (by omega)),Aq Z hQ,Ab Z (by rw[hQ];rfl) (V.free _ (by omega)),Aq Z hS,Ab Z (by rw[hS];rfl) (V.free _ (by omega)),Aq Z e3,Ab Z (by rw[e3];rfl) (V.free _ (by omega))⟩) (λoZ hHeld0=>?_);clear c0 x1 x2 a0 a1 a2 a3 e0 hQ hS e3 V;refine Aj 0 ?_;refine Aj 1 ?_;refine Aj 2 ?_;refine Aj 3 ?_;refine Aj 4 ?_;refine Aj 5 ?_;refine Aj 6 ?_;refine Aj 7 ?_;refine Aj 8 ?_;refine Aj 9 ?_;refine Aj 10 ?_;refine Aj 11 ?_;refine Aj 12 ?_;refine Aj 13 ?_;refine Aj 14 ?_;refine G6 15 rfl (λK hK=>?_);focus(go_simp;refine(oX.1 _ (Below.refl _ we).drew).mono ?_;rintro e w4 ⟨⟨s6,p6,n6,c6,t6,q6,m6,d6,rfl,oL⟩,nY⟩;have hD:=Kh ((Below.refl _ we).drew.trans nY:Below we.heap.size we w4);have hZ:=QRow.keep (λq=>(IsQ.solid _:Bu (IsQ (F k q)))) eP.1 hD.1;have nB:=Kh (QRow.set (k':=j+1) (λ_=>IsQ.solid _) hZ j hlt (λq=>IsQ (F k q)) (IsQ.solid _) (λi h1 h2=>⟨by omega,rfl⟩) (show IsQ (F k j) w4 s6 p6 n6 c6 t6 q6 m6 d6 by rw[oN.1];exact oL));have oO:=Kh (show ∀v0 v1 v2 v3,ws.grownBy ((((w4.setCell ⟨g,j*4,none⟩ v0).setCell ⟨g,j*4+1,none⟩ v1).setCell ⟨g,j*4+2,none⟩ v2).setCell ⟨g,j*4+3,none⟩ v3) (some g)from λ_ _ _ _=>Ej O.1 hD.1);have H4:=Kh ((hN.1.trans (I32.below hD.1)).trans (I32.put4 hZ.sts (j*4) (j*4+1) (j*4+2) (j*4+3) (.bool s6) (.slice p6 n6 c6) (.bool t6) (.slice q6 m6 d6) (NotInt.bool _) (NotInt.slice _ _ _) (NotInt.bool _)));clear oL nY hZ;(first|with_reducible refine hK.out _ _ ?_ (λhHeld1=>?_) |(go_wp2_with fail;with_reducible refine hK.out _ _ ?_ (λhHeld1=>?_))))
     focus((try dsimp only);exact oZ.1 _ hD.1)
     focus(clear hK K;(try simp only[Act.put,Bo,Bt,Bp]))
     refine Aj 16 ?_;refine Js 17 rfl (λK hK=>?_);go_simp
     refine hK.out _ _ ?_;clear hK K
     (try simp only[Act.put,Bo,Bt,Bp])
     all_goals go_wp2
     all_goals go_roundw
     all_goals first
      | exact⟨j+1,by omega,by go_num,nB.1,oO.1 _ _ _ _,H4.1⟩
      |(simp[intOf];omega)
    ·obtain rfl:j=C:=by omega
     have oT:=Kh (oR.1.but hN.1 O.1 (by have:=bA.1;omega) (λi hi=>by have:=hL.1 i hi;omega));have oU:=Kh (oT.1.more (g:=g) (by rw[O.1.cell hH.1 bY.1];rfl) eP.1 (Nat.le_of_lt bA.1) (by have:=bA.1;omega) (λi hi=>by have:=hL.1 i hi;omega) (O.1.cell hH.1 bY.1))
     have oV:=Kh (show ∀i,i<R->(we.cell? ⟨G,i,none⟩).isSome=true from λi hi=>by
      obtain⟨u,hu⟩:=nV (oS.1 i hi);rw[O.1.cell hu bY.1];rfl)
     have oW:=Kh (show Below G wb we from Ae hO.1 O.1 (by have:=hO.1.size;have:=aX.1;omega) (Nat.le_of_lt bA.1));go_wp2;go_roundw
     case rel=>exact⟨k+1,_,by omega,by go_num,oU.1,oV.1,oW.1⟩
     case measure=>simp[intOf];omega
  ·obtain rfl:k=R:=by omega
   go_wp2;go_ret
   exact⟨⟨G,gs,rfl,I.1.base (by have:=cD.1.size;have:=aX.1;have:=oQ.1;omega)⟩,by
    have h:Below wb.heap.size wb wk:=aX.1▸hE.1;exact cD.1.trans (h.mono cD.1.size)⟩
theorem Mk (F:Nat->Nat->Rat) (m C t G cap:Nat) (gs:Nat->Nat) (B0:Nat) (w:World) (h:GM F m C w G gs B0) (ht:t<=m) (hm:m<=1024) (hC:C<=1024):
  Calls prog 55 #[.int .i64 C,.slice (some ⟨G,0,none⟩) t cap] w λe w'=>(∃v,e=.returned (.agg #[.int .i64 t,.int .i64 C,v])/\OwnQ (λp=>IsQ (F (p / C) (p % C))) w' w.heap.size v (t*C))/\Below w.heap.size w w':=by
 have HG:=Kh h;clear h;go_enter func55,ntmps55
 go_wp2_with fail
 obtain⟨w0,hD,X0,gL⟩:=bx1 w #[.int .i64 0,.int .i64 0,.slice none 0 0] 32;rw[hD];obtain⟨wx,cT⟩:∃wx,w0.alloc (.cells #[.int .i64 t,.int .i64 C,.slice none 0 0] 32)=wx:=⟨_,rfl⟩
 have gP:Below w0.heap.size w0 wx:=cT▸(Below.refl _ _).alloc (nR _) _;have Y:Blk wx w0.heap.size 32 #[.int .i64 t,.int .i64 C,.slice none 0 0]:=cT▸Blk.new w0 32 #[.int .i64 t,.int .i64 C,.slice none 0 0];rw[cT];have hO:w0.heap.size=w.heap.size+1:=by rw[<-hD];simp
 obtain⟨ob,bE⟩:∃x,w.heap.size+1=x:=⟨_,rfl⟩
 have gU:w0.heap.size=ob:=hO.trans bE;obtain⟨O,cG⟩:∃x,w.heap.size=x:=⟨_,rfl⟩
 rw[gU]at Y;rw[bE];rw[cG]at X0 ⊢;have J:=Kh (show O<ob by rw[<-gU];exact X0.lt);have bC:=Kh cG;have hT:=Kh (show Below O w wx from cG▸gL.trans (gP.mono gL.size));have aX:=Kh (show Blk wx O 32 #[.int .i64 0,.int .i64 0,.slice none 0 0]from X0.below_ gP X0.lt);obtain⟨BB,cD⟩:∃x,wx.heap.size=x:=⟨_,rfl⟩
 have dE:=Kh cD;obtain⟨V,hV⟩:∃V:Nat->FP,(λp=>IsQ (F (p / C) (p % C)))=V:=⟨_,rfl⟩
 have gA:=Kh (show ∀j,Bu (V j)from λj=>by rw[<-hV];exact IsQ.solid _)
 have mB:=Kh (show ∀k i,i<C->V (k*C+i)=IsQ (F k i)from λk i hi=>by
  rw[<-hV];dsimp only;rw[show(k*C+i) / C=k by rw[Nat.mul_comm,Nat.mul_add_div (by omega),Nat.div_eq_of_lt hi,Nat.add_zero],show(k*C+i) % C=i by rw[Nat.mul_comm,Nat.mul_add_mod,Nat.mod_eq_of_lt hi]])
 have mA:=Kh hV
 have hH:=Kh (show MatAt V wx ob BB t C (0*C)from
  ⟨by rw[<-cD];exact Y.lt,Nat.le_of_eq cD.symm,Y.at_ 0 rfl,Y.at_ 1 rfl,⟨none,0,by rw[Nat.zero_mul];exact Y.at_ 2 rfl,by rw[Nat.zero_mul];exact OwnQ.nil _ _ _⟩,Y.free_ 2,Stk.of Y (by intro v hv;simp at hv;rcases hv with rfl|rfl|rfl <;> exact λ_ h=>by cases h)⟩)
 clear cT gP Y gU bE hO cG cD hV hD X0 gL;go_loopw [14] (λii wr=>∃k:Nat,k<=t/\ii=.int .i64 k/\MatAt V wr ob BB t C (k*C)/\wx.grownBy wr (some ob)) (λii _=>t - (intOf ii).toNat)
 case atStart=>exact⟨0,Nat.zero_le _,rfl,hH.1,Af ob (Below.refl _ _)⟩
 case round=>
  obtain⟨k,hk,rfl,dC,hM⟩:=hrel;obtain⟨we,rfl⟩:∃we:World,we=wr:=⟨_,rfl⟩
  have I:=Kh dC;have Z:=Kh hM;clear dC hM hH;have dY:=Kh (show Below O w we from Ae hT.1 Z.1 (by have:=dE.1;have:=I.1.lt;have:=J.1;omega) (Nat.le_of_lt J.1));by_cases hlt:k<t
  ·have oI:(k:Int)<(t:Int):=by omega
   have gN:=dY.1;rw[<-bC.1]at gN;have gS:=HG.1.keep gN;have r4:=gS.at_ k (by omega);have cC:=Kh (gS.row k (by omega));obtain⟨p,c,g2,xs,hK,gF⟩:=I.1.c2;obtain⟨n,hn⟩:∃x,k*C=x:=⟨_,rfl⟩
   have oJ:n<=1024*1024:=by rw[<-hn];exact Nat.mul_le_mul (by omega:k<=1024) hC
   rw[hn]at g2 hK gF I;have hY:=Kh (show n+C=(k+1)*C by rw[<-hn,Nat.add_mul,Nat.one_mul]);have hG:=Kh (show ∀j,j<C->V (n+j)=IsQ (F k j)from λj hj=>by rw[<-hn];exact mB.1 k j hj);have HK:=Kh hK;have mC:=Kh gF;have hU:=Kh g2;have nC:ob<we.heap.size:=nT I.1.lt I.1.hB;clear gN gS hK gF hn;go_wp2_with (at_builtin;refine Q2 NotInt rfl (.tmp 19) (.tmp 20) _ 86 rfl underlying30 Gt rfl (by decide) BB n C (gs k) C (.slice p n c) xs (Au we (gs k) (C*4)) rfl HK.1 rfl (Bw _ _ _) cC.1.cells cC.1.one (by omega) (by omega) I.1.hB cC.1.ni lB ?_;intro v9 w9 bA bB;obtain⟨p9,c9,rfl⟩:=Ba bA.1;obtain⟨d2,df,hJ⟩:=I.1.more gA.1 hU.1 HK.1.1 (OwnQ.more gA.1 HK.1 mC.1 cC.1 bA bB hG.1) bB;have hZ:=Kh hJ;have hW:=Kh ((Er Z.1 bB dE.1.symm (λb hb=>Cn HK.1.1 hb.symm)).trans (Ad w9 ob 2 (.slice p9 (n+C) c9)));clear hJ bA bB g2)
   go_roundw
   case rel=>exact⟨k+1,by omega,by go_num,by rw[<-hY.1];exact hZ.1,hW.1⟩
   case measure=>simp[intOf];omega
  ·obtain rfl:t=k:=by omega
   obtain⟨p,c,g2,hL⟩:=I.1.c2;have cF:O≠ob:=Nat.ne_of_lt J.1;have U:=Z.1.block O (by rw[dE.1];have:=J.1;have:=I.1.lt;omega) (λe=>by injection e with e;exact cF e);have r0:=Z.1.cell (aX.1.at_ 0 rfl) (λe=>by injection e with e;exact cF e);have r1:=Z.1.cell (aX.1.at_ 1 rfl) (λe=>by injection e with e;exact cF e);have r2:=Z.1.cell (aX.1.at_ 2 rfl) (λe=>by injection e with e;exact cF e);have f0:we.frozen? ⟨O,0,none⟩=false:=(World.frozen?_of_block (a:=⟨O,0,none⟩) U).trans (aX.1.free_ 0);have f1:we.frozen? ⟨O,1,none⟩=false:=(World.frozen?_of_block (a:=⟨O,1,none⟩) U).trans (aX.1.free_ 1);have f2:we.frozen? ⟨O,2,none⟩=false:=(World.frozen?_of_block (a:=⟨O,2,none⟩) U).trans (aX.1.free_ 2);have bY:Stk NotU32 wx O:=Stk.of aX.1 (by intro v hv;simp at hv;rcases hv with rfl|rfl|rfl <;> exact λ_ h=>by cases h);have hN:Stk NotU32 we O:=⟨nT bY.1 Z.1.size,λi u hu=>bY.2 i u ((World.cell?_of_block (a:=⟨O,i,none⟩) U).symm.trans hu)⟩
   have a0:=I.1.c0;have a1:=I.1.c1;have eP:=Kh (A9 (w:=we) (R:=O) (v0:=.int .i64 (t:Int)) (v1:=.int .i64 (C:Int)) (v2:=.slice p (t*C) c) (by rw[r0];rfl) (by rw[r1];rfl) (by rw[r2];rfl));have hX:=Kh (Cc hN (v0:=.int .i64 (t:Int)) (v1:=.int .i64 (C:Int)) (v2:=.slice p (t*C) c) (λ_ h=>by cases h) (λ_ h=>by cases h));have hE:=Kh (((Ad we O 0 (.int .i64 (t:Int))).trans (Ad _ O 1 (.int .i64 (C:Int)))).trans (Ad _ O 2 (.slice p (t*C) c)));have iL:=Kh hL;clear hL U bY hN;go_wp2;have e0:=eP.1.1;have e1:=eP.1.2.1;have e2:=eP.1.2.2;try simp only[Exit.inBlock,Exit.then]
   refine bodyPost_ret (by simp[results,results55,go_sem,e0,e1,e2];try rfl) rfl ?_;refine⟨⟨_,rfl,?_⟩,?_⟩
   ·rw[mA.1]
    obtain⟨xs,h1,h2⟩:=iL.1.box gA.1 hX.1 hE.1 (by have:=J.1;have:=I.1.lt;omega)
    exact⟨xs,⟨⟨h1.1.1,by
     rcases h1.1.2 with h |⟨g',cap,cs,e,oE,hr⟩
     ·exact .inl h
     ·exact .inr ⟨g',cap,cs,e,by have:=bC.1;have:=J.1;have:=I.1.lt;omega,hr⟩⟩,h1.2⟩,h2⟩
   ·exact Ae (bC.1▸dY.1) hE.1 (by have:=dY.1.size;have:=bC.1;omega) (by have:=bC.1;omega)
theorem O2 (F:Nat->Nat->Rat) (R C:Nat) (v:Value) (w:World) (h:eV F R C w v) (qE:R<=1000) (hC:C<=1000) (hs:∀i q,i<R->q<C->hq (F i q)<=1000000000000):
  Calls prog 62 #[.int .i64 C,v] w λe w'=>(∃p c,e=.returned (.tuple #[.agg #[.int .i64 R,.int .i64 C,.slice p (R*C) c],.int .i64 0])/\QL (λj=>IsQ (F (j / C) (j % C))) w' (.slice p (R*C) c) (R*C))/\Below w.heap.size w w':=by
 obtain⟨pR,cG,rfl,hD⟩:=h
 have pE:=Kh (λW (hb:Below w.heap.size w W) i (hi:i<R)=>(show ∃G g,pR=some ⟨G,0,none⟩/\W.cell? ⟨G,i,none⟩=some (.slice (some ⟨g,0,none⟩) C C)/\(0<C->QRow (λq=>IsQ (F i q)) W g C C)by
  obtain⟨G,hp,hG,h1⟩:=hD (by omega);obtain⟨g,e1,h2⟩:=h1 i hi;exact⟨G,g,hp,(hb.cell (p:=⟨G,i,none⟩) hG).trans e1,λhC=>(h2 hC).keep (λ_=>IsQ.solid _) hb⟩))
 have HS:=Kh hs;clear hD hs;go_enter func62,ntmps62
 go_wp2_with fail
 obtain⟨w0,oH,X0,hP⟩:=bx1 w #[.int .i64 0,.int .i64 0,.slice none 0 0] 32;rw[oH];refine(Gg C w0 (by omega)).mono ?_;rintro e w1 ⟨rfl,hQ⟩;have nD:=Kh (X0.below_ hQ X0.lt);have iL:=Kh (hP.trans (hQ.mono hP.size));clear oH X0 hP hQ;go_wp2_with fail
 refine(Gg R w1 (by omega)).mono ?_;rintro e w2 ⟨rfl,hR⟩;have cC:=Kh (bk nD hR);have mA:=bt iL hR;have qC:((C:Int) !=(C:Int))=false:=by simp
 clear hR nD iL;go_wp2_with fail
 obtain⟨wx,gP⟩:∃wx,w2.alloc (.cells #[.int .i64 R,.int .i64 C,.slice none 0 0] 32)=wx:=⟨_,rfl⟩
 have eP:Below w2.heap.size w2 wx:=gP▸(Below.refl _ _).alloc (nR _) _;have Y:Blk wx w2.heap.size 32 #[.int .i64 R,.int .i64 C,.slice none 0 0]:=gP▸Blk.new w2 32 #[.int .i64 R,.int .i64 C,.slice none 0 0];obtain⟨ob,cF⟩:∃x,w2.heap.size=x:=⟨_,rfl⟩
 obtain⟨O,cD⟩:∃x,w.heap.size=x:=⟨_,rfl⟩
 have dE:=Kh cD;have gS:=cC.1.lt;have cB:=mA.1;rw[cD]at cC gS;rw[cF]at Y eP gS;have bE:=Kh gS;have oP:=Kh (show Below O w wx from cD▸cB.trans (eP.mono (cF▸cB.size)));have bB:=Kh (show Blk wx O 32 #[.int .i64 0,.int .i64 0,.slice none 0 0]from cC.1.below_ (cF▸eP) cC.1.lt);obtain⟨BB,dY⟩:∃x,wx.heap.size=x:=⟨_,rfl⟩
 have hI:=Kh dY;obtain⟨V,hV⟩:∃V:Nat->FP,(λp=>IsQ (F (p / C) (p % C)))=V:=⟨_,rfl⟩
 have nC:=Kh (show ∀j,Bu (V j)from λj=>by rw[<-hV];exact IsQ.solid _)
 have pG:=Kh (show ∀k i,i<C->V (k*C+i)=IsQ (F k i)from λk i hi=>by
  rw[<-hV];dsimp only;rw[show(k*C+i) / C=k by rw[Nat.mul_comm,Nat.mul_add_div (by omega),Nat.div_eq_of_lt hi,Nat.add_zero],show(k*C+i) % C=i by rw[Nat.mul_comm,Nat.mul_add_mod,Nat.mod_eq_of_lt hi]])
 have pF:=Kh hV
 have nB:=Kh (show MatAt V wx ob BB R C (0*C)from
  ⟨by rw[<-dY];exact Y.lt,Nat.le_of_eq dY.symm,Y.at_ 0 rfl,Y.at_ 1 rfl,⟨none,0,by rw[Nat.zero_mul];exact Y.at_ 2 rfl,by rw[Nat.zero_mul];exact OwnQ.nil _ _ _⟩,Y.free_ 2,Stk.of Y (by intro v hv;simp at hv;rcases hv with rfl|rfl|rfl <;> exact λ_ h=>by cases h)⟩)
 rw[gP];try rw[cF]
 try rw[cD]
 clear gP cF eP Y cD dY hV cB cC mA gS;go_loopw [25] (λii wr=>∃k:Nat,k<=R/\ii=.int .i64 k/\MatAt V wr ob BB R C (k*C)/\wx.grownBy wr (some ob)) (λii _=>R - (intOf ii).toNat)
 case atStart=>exact⟨0,Nat.zero_le _,rfl,nB.1,Af ob (Below.refl _ _)⟩
 case round=>
  obtain⟨k,hk,rfl,gU,oF⟩:=hrel;obtain⟨we,rfl⟩:∃we:World,we=wr:=⟨_,rfl⟩
  have J:=Kh gU;have bA:=Kh oF;clear gU oF nB;have mC:=Kh (show Below O w we from Ae oP.1 bA.1 (by have:=hI.1;have:=J.1.lt;have:=bE.1;omega) (Nat.le_of_lt bE.1));by_cases hlt:k<R
  ·have qH:(k:Int)<(R:Int):=by omega
   have hS:=mC.1;rw[<-dE.1]at hS;obtain⟨G,g,pN,r4,cT⟩:=pE.1 we hS k hlt;subst pN
   have pB:=Kh (show ∀(j:Nat) (u:Value),(Au we g (C*4))[j]?=some u->we.cell? ⟨g,j,none⟩=some u from λj u hu=>by
    rcases Nat.eq_zero_or_pos C with e|e
    ·rw[e,Nat.zero_mul]at hu;cases hu
    ·exact(cT e).cells j u hu)
   have pA:=Kh (show ∀u∈Au we g (C*4),u.oneCell'=true from λu hu=>by
    rcases Nat.eq_zero_or_pos C with e|e
    ·rw[e,Nat.zero_mul]at hu;cases hu
    ·exact(cT e).one u hu)
   have pC:=Kh (show ∀u∈Au we g (C*4),NotInt u from λu hu=>by
    rcases Nat.eq_zero_or_pos C with e|e
    ·rw[e,Nat.zero_mul]at hu;cases hu
    ·exact(cT e).ni u hu)
   have pD:=Kh cT;obtain⟨p,c,g2,xs,hK,hO⟩:=J.1.c2;obtain⟨n,hn⟩:∃x,k*C=x:=⟨_,rfl⟩
   have qJ:n<=1024*1024:=by rw[<-hn];exact Nat.mul_le_mul (by omega:k<=1024) (by omega)
   rw[hn]at g2 hK hO J;have oV:=Kh (show n+C=(k+1)*C by rw[<-hn,Nat.add_mul,Nat.one_mul]);have nA:=Kh (show ∀j,j<C->V (n+j)=IsQ (F k j)from λj hj=>by rw[<-hn];exact pG.1 k j hj);have HK:=Kh hK;have pH:=Kh hO;have oR:=Kh g2;have pT:ob<we.heap.size:=nT J.1.lt J.1.hB;have oY:=Kh hn;clear hS cT hK hO hn;go_wp2_with (at_builtin;refine Q2 NotInt rfl (.tmp 35) (.tmp 36) _ 86 rfl underlying30 Gt rfl (by decide) BB n C g C (.slice p n c) xs (Au we g (C*4)) rfl HK.1 rfl (Bw _ _ _) pB.1 pA.1 (by omega) (by omega) J.1.hB pC.1 lB ?_;intro v9 w9 U bY;obtain⟨p9,c9,rfl⟩:=Ba U.1;obtain⟨d2,df,oB⟩:=J.1.more nC.1 oR.1 HK.1.1 (by rcases Nat.eq_zero_or_pos C with e|e;(have qI:n=0:=by have:=oY.1;rw[e,Nat.mul_zero]at this;omega);(exact⟨_,U,λj hj=>by omega⟩);(exact OwnQ.more nC.1 HK.1 pH.1 (pD.1 e) U bY nA.1)) bY;have oW:=Kh oB;have oS:=Kh ((Er bA.1 bY hI.1.symm (λb hb=>Cn HK.1.1 hb.symm)).trans (Ad w9 ob 2 (.slice p9 (n+C) c9)));clear oB U bY g2)
   go_roundw
   case rel=>exact⟨k+1,by omega,by go_num,by rw[<-oV.1];exact oW.1,oS.1⟩
   case measure=>simp[intOf];omega
  ·obtain rfl:R=k:=by omega
   obtain⟨p,c,g2,hN⟩:=J.1.c2;have a0:=J.1.c0;have a1:=J.1.c1;obtain⟨n,hn⟩:∃x,R*C=x:=⟨_,rfl⟩
   rw[hn]at g2 hN J
   obtain⟨gA,gN⟩:∃gA,0<n->p=some ⟨gA,0,none⟩/\QRow V we gA n n:=by
    rcases hN.row with⟨h,_⟩ |⟨g,cap,pO,qG,gN⟩
    ·exact⟨0,λh2=>by omega⟩
    ·injection pO with s1 s2 s3
     exact⟨g,λ_=>⟨s1,gN⟩⟩
   have hL:=Kh gN;have HN:=Kh hn;have gF:O≠ob:=Nat.ne_of_lt bE.1;have Z:=bA.1.block O (by rw[hI.1];have:=bE.1;have:=J.1.lt;omega) (λe=>by injection e with e;exact gF e);have r0:=bA.1.cell (bB.1.at_ 0 rfl) (λe=>by injection e with e;exact gF e);have r1:=bA.1.cell (bB.1.at_ 1 rfl) (λe=>by injection e with e;exact gF e);have r2:=bA.1.cell (bB.1.at_ 2 rfl) (λe=>by injection e with e;exact gF e);have f0:we.frozen? ⟨O,0,none⟩=false:=(World.frozen?_of_block (a:=⟨O,0,none⟩) Z).trans (bB.1.free_ 0);have f1:we.frozen? ⟨O,1,none⟩=false:=(World.frozen?_of_block (a:=⟨O,1,none⟩) Z).trans (bB.1.free_ 1);have f2:we.frozen? ⟨O,2,none⟩=false:=(World.frozen?_of_block (a:=⟨O,2,none⟩) Z).trans (bB.1.free_ 2);have cX:Stk NotU32 wx O:=Stk.of bB.1 (by intro v hv;simp at hv;rcases hv with rfl|rfl|rfl <;> exact λ_ h=>by cases h);have bC:Stk NotU32 we O:=⟨nT cX.1 bA.1.size,λi u hu=>cX.2 i u ((World.cell?_of_block (a:=⟨O,i,none⟩) Z).symm.trans hu)⟩
   have hM:=Kh (And.intro r0 (And.intro r1 (And.intro r2 (And.intro f0 (And.intro f1 (And.intro f2 bC))))));clear r0 r1 r2 f0 f1 f2 Z cX bC gN hN hn J;go_wp2_with fail
   refine(Nv R C n gA 0 c p (λj=>F (j / C) (j % C)) F we (λh=>⟨(hL.1 h).1,(hL.1 h).2.sts.1⟩) (λj hj=>by
    have h1:=(hL.1 (by omega)).2.val j hj;rw[<-pF.1]at h1;rw[Nat.zero_add];exact h1) HN.1 (by omega) (by omega) (λj hj=>HS.1 _ _ (Nat.div_lt_of_lt_mul (by rw[Nat.mul_comm,HN.1];exact hj)) (Nat.mod_lt _ (by rcases Nat.eq_zero_or_pos C with e|e;(have h3:=HN.1;rw[e,Nat.mul_zero]at h3;omega);exact e))) (λi q hq=>by
    rw[show(i*C+q) / C=i by rw[Nat.mul_comm,Nat.mul_add_div (by omega),Nat.div_eq_of_lt hq,Nat.add_zero],show(i*C+q) % C=q by rw[Nat.mul_comm,Nat.mul_add_mod,Nat.mod_eq_of_lt hq]])).mono ?_
   rintro e w5 ⟨⟨G5,pK,rfl,oE⟩,oC⟩;have oT:=Kh oE;have hH:=Kh oC;clear oE oC;go_wp2_with fail
   refine(Mk F R C R G5 R pK we.heap.size w5 oT.1 (nR _) (by omega) (by omega)).mono ?_;rintro e w6 ⟨⟨v6,rfl,gL⟩,oD⟩
   obtain⟨p6,c6,rfl⟩:∃p c,v6=.slice p (R*C) c:=by
    obtain⟨_,pM,_⟩:=gL;exact Ba pM.1
   have I:=hH.1.trans (oD.mono hH.1.size);obtain⟨r0,r1,r2,f0,f1,f2,bC⟩:=hM.1;have q0:=cell_next I r0;have q1:=cell_next I r1;have q2:=cell_next I r2;have h0:=Ab I (by rw[r0];rfl) f0;have h1:=Ab I (by rw[r1];rfl) f1;have h2:=Ab I (by rw[r2];rfl) f2;have hE:=bC.next I
   have hJ:=Kh (A9 (w:=w6) (R:=O) (v0:=.int .i64 (R:Int)) (v1:=.int .i64 (C:Int)) (v2:=.slice p6 (R*C) c6) (by rw[q0];rfl) (by rw[q1];rfl) (by rw[q2];rfl));have oU:=Kh (Cc hE (v0:=.int .i64 (R:Int)) (v1:=.int .i64 (C:Int)) (v2:=.slice p6 (R*C) c6) (λ_ h=>by cases h) (λ_ h=>by cases h));have mD:=Kh (((Ad w6 O 0 (.int .i64 (R:Int))).trans (Ad _ O 1 (.int .i64 (C:Int)))).trans (Ad _ O 2 (.slice p6 (R*C) c6)));have oZ:=Kh gL.ql;have oQ:=Kh (Lb gL);have mE:=Kh (show O<w5.heap.size from nT bC.1 hH.1.size);have mB:=Kh (show Below O w w6 from mC.1.trans (I.mono (by have:=bC.1;omega)));clear r0 r1 r2 f0 f1 f2 bC hE I oD gL;go_wp2;have e0:=hJ.1.1;have e1:=hJ.1.2.1;have e2:=hJ.1.2.2;try simp only[Exit.inBlock,Exit.then]
   refine bodyPost_ret (by simp[results,results62,go_sem,e0,e1,e2];try rfl) rfl ?_;exact⟨⟨p6,c6,rfl,oZ.1.boxed (λ_=>IsQ.solid _) oU.1 mD.1 (λa ha=>by have:=oQ.1 a ha;have:=mE.1;omega)⟩,Ae (dE.1▸mB.1) mD.1 (by have:=mB.1.size;have:=dE.1;have:=mE.1;omega) (by have:=dE.1;omega)⟩
end
end Go.Proofs.YtenlbhlllgppmaaGreatDoor
