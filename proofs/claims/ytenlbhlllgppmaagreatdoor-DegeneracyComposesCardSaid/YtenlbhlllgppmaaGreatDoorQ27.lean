/- matrix.load, store and FromRows where a matrix may have no entries. -/
import Derived.Test.YtenlbhlllgppmaaGreatDoorQ26
set_option linter.unusedSimpArgs false
set_option maxRecDepth 100000
set_option maxHeartbeats 8000000
namespace Go.Proofs.YtenlbhlllgppmaaGreatDoor
open Tryz
open Go.RowKit Eli
theorem Pz {P:Program} {W:World} {Y:Array Oper} {rest:List Oper} {o:Oper} {a:Act} {Q:Exit->Act->World->Prop} (K:Value->Prop) (aL:o.guard=none) (s x:Operand) (t E:TypeId)
  (ho:o.op=.call { callee:=.builtin .append,args:=#[s,x],argTypes:=#[t,t] }) {z:Value} {U I:Nat} (hU:P.underlying t=some (.slice E))
  (O:(P.info? E).map (λi=>(i.zero,i.size,i.bytes))=some (some z,U,I)) (aT:z.cells.size=U) (aN:0<U) (B n m g c:Nat) (v:Value) (xs H:List Value)
  (hs:a.eval s=v) (V:OwnK K W B E U v n xs) (hx:a.eval x=.slice (some ⟨g,0,none⟩) m c) (hn:H.length=m*U) (J:∀(j:Nat) (u:Value),H[j]?=some u->W.cell? ⟨g,j,none⟩=some u) (h1:∀u∈H,u.oneCell'=true)
  (hb:(n+m)*I<=140737488355328) (hm:n+m<=9223372036854775807) (hB:B<=W.heap.size) (aJ:∀u∈H,K u) (aK:∀u∈z.cells.toList,K u)
  (h:∀Z w',OwnK K w' B E U Z (n+m) (xs++H)->W.grownBy w' v.ownBlock->wpList P Y Q rest (a.put o.dst Z) w'):
  wpList P Y Q (o :: rest) a W:=by
 obtain⟨Z,w',hr,g1,g2⟩:=Yg (P:=P) K W t o.type E hU O aT aN B n m g c v xs H V hn J h1 hb hm hB aJ aK;refine wpList_plain aL λK' aD=>?_
 unfold Oper.wp execOp;simp only[ho,resolve,invoke,builtin,Sem.run_bind,Sem.run_pure,Result.andThen_ok,List.map_toArray,List.map_cons,List.map_nil,hs,hx,hr];exact aD _ _ (h Z w' g1 g2)
def cM (F:Nat->Nat->Rat) (k C:Nat) (w:World) (v:Value):Prop:=∃p c,v=.slice p k c/\(0<k->∃G,p=some ⟨G,0,none⟩/\G<w.heap.size/\∀i,i<k->∃g,w.cell? ⟨G,i,none⟩=some (.slice (some ⟨g,0,none⟩) C C)/\(0<C->QRow (λq=>IsQ (F i q)) w g C C))
def RowsX (F:Nat->Nat->Rat) (k C:Nat) (w:World) (B:Nat) (v:Value):Prop:=
 ∃gs:Nat->Nat,OwnK SliceV w B 30 1 v k ((List.range k).map λi=>Value.slice (some ⟨gs i,0,none⟩) C C)/\(0<C->∀i,i<k->QRow (λq=>IsQ (F i q)) w (gs i) C C)
theorem RowsX.keep {F:Nat->Nat->Rat} {k C:Nat} {w w':World} {B:Nat} {v:Value} (h:RowsX F k C w B v) (H:Below w.heap.size w w'):RowsX F k C w' B v:=by
 obtain⟨gs,I,J⟩:=h;exact⟨gs,I.keep H,λO i U=>(J O i U).keep (λ_=>IsQ.solid _) H⟩
theorem RowsX.push {F:Nat->Nat->Rat} {k C:Nat} {W w':World} {B:Nat} {v O:Value} {gs:Nat->Nat} {g:Nat} (Y:OwnK SliceV W B 30 1 v k ((List.range k).map λi=>Value.slice (some ⟨gs i,0,none⟩) C C))
  (Z:0<C->∀i,i<k->QRow (λq=>IsQ (F i q)) W (gs i) C C) (hr:QRow (λq=>IsQ (F k q)) W g C C) (I:OwnK SliceV w' B 30 1 O (k+1) (((List.range k).map λi=>Value.slice (some ⟨gs i,0,none⟩) C C)++[.slice (some ⟨g,0,none⟩) C C])) (hg:W.grownBy w' v.ownBlock):RowsX F (k+1) C w' B O:=by
 rcases Nat.eq_zero_or_pos C with rfl|J
 ·refine⟨λi=>if i<k then gs i else g,?_,λh=>absurd h (Nat.lt_irrefl _)⟩
  have e:((List.range (k+1)).map λi=>Value.slice (some ⟨if i<k then gs i else g,0,none⟩) 0 0)=((List.range k).map λi=>Value.slice (some ⟨gs i,0,none⟩) 0 0)++[.slice (some ⟨g,0,none⟩) 0 0]:=by
   rw[List.range_succ,List.map_append,List.map_singleton,if_neg (Nat.lt_irrefl k)];congr 1;exact List.map_congr_left (λi hi=>by rw[if_pos (List.mem_range.1 hi)])
  rw[e];exact I
 ·obtain⟨H,U,V⟩:=RowsOwn.push (F:=F) J Y (Z J) hr I hg
  exact⟨H,U,λ_=>V⟩
theorem RowsX.read {F:Nat->Nat->Rat} {k C:Nat} {w:World} {B:Nat} {v:Value} (h:RowsX F k C w B v):cM F k C w v:=by
 obtain⟨gs,I,U⟩:=h;have V:=I.1;rcases I.1.2 with⟨H,O⟩ |⟨G,cap,cs,H,hB,hg,hn,Z,aD,_⟩
 ·exact⟨none,0,by rw[H,O],λh=>by omega⟩
 ·subst H
  exact⟨_,_,rfl,λ_=>⟨G,rfl,(Array.getElem?_eq_some_iff.1 hg).1,λi J=>⟨gs i,Aq V (by rw[List.getElem?_map,List.getElem?_range J];rfl),λY=>U Y i J⟩⟩⟩
theorem Gx (R C RC gA oA cA:Nat) (pA:Option Addr) (X:Nat->Rat) (F:Nat->Nat->Rat) (w:World) (lH:0<RC->pA=some ⟨gA,oA,none⟩/\gA<w.heap.size) (hX:∀j,j<RC->QE (IsQ (X j)) w gA (oA+j*4)) (hN:R*C=RC) (hR:R<=1024) (hC:C<=1024) (hs:∀j,j<RC->hq (X j)<=1000000000)
  (hF:∀i q,q<C->F i q=X (i*C+q)):
  Calls prog 71 #[.agg #[.int .i64 R,.int .i64 C,.slice pA RC cA]] w λe w'=>(∃G gs,e=.returned (.slice (some ⟨G,0,none⟩) R R)/\GM F R C w' G gs w.heap.size)/\Below w.heap.size w w':=by
 have lS:=Kh lH;have HX:=Kh hX;have HS:=Kh hs;have HF:=Kh hF;have mB:=Kh hN;have oI:RC<=1048576:=by rw[<-hN];exact Nat.mul_le_mul hR hC
 clear lH hX hs hF hN;go_enter func71,ntmps71
 have lJ:=eO R (by omega);have nL:=Ir C (by omega);go_wp2_with fail
 obtain⟨wb,hT,X0,lB⟩:=bx1 w #[.int .i64 R,.int .i64 C,.slice pA RC cA] 32;rw[hT];obtain⟨aJ,I⟩:=GM.made F C wb R (λ_=>0);obtain⟨wG,hS⟩:∃wG,wb.alloc (.cells (madeCells #[.slice none 0 0] R) 30)=wG:=⟨_,rfl⟩
 have hO:Below wb.heap.size wb wG:=hS▸(Below.refl _ _).alloc (kT _) _;rw[hS]at aJ I ⊢;have lL:wb.heap.size=w.heap.size+1:=by rw[<-hT];simp
 obtain⟨G,hL⟩:∃G,w.heap.size+1=G:=⟨_,rfl⟩
 have hG:wb.heap.size=G:=lL.trans hL;obtain⟨gb,hP⟩:∃gb,w.heap.size=gb:=⟨_,rfl⟩
 have Z:=Kh hG;have lT:=Kh hP;rw[hG]at aJ I hO;rw[hL];rw[hP]at X0 ⊢;have bA:=Kh X0;have aX:=Kh lB;have hY:=Kh aJ;have hZ:=Kh I;have hV:=Kh hO;clear hT X0 lB aJ I hS hO hG hL lL hP lJ;go_loopw [11] (λii wr=>∃(k:Nat) (gs:Nat->Nat),k<=R/\ii=.int .i64 k/\GM F k C wr G gs G/\(∀i,i<R->(wr.cell? ⟨G,i,none⟩).isSome=true)/\Below G wb wr) (λii _=>R - (intOf ii).toNat)
 case atStart=>exact⟨0,_,Nat.zero_le _,rfl,hY.1,hZ.1,hV.1⟩
 case round=>
  obtain⟨k,gs,hk,rfl,aJ,I,lE⟩:=hrel;obtain⟨wk,rfl⟩:∃wk:World,wk=wr:=⟨_,rfl⟩
  have H:=Kh aJ;have cC:=Kh I;have eP:=Kh lE;clear aJ I lE hY hZ hV;by_cases hlt:k<R
  ·have oF:(k:Int)<(R:Int):=by omega
   have lD:Below wb.heap.size wb wk:=Z.1▸eP.1;have x1:=(bk bA lD).at_ 1 rfl;obtain⟨uk,gN⟩:=kX (cC.1 k hlt);have lG:=H.1.free k;have cG:Below wk.heap.size wk (wk.alloc (.cells (madeCells #[.bool false,.slice none 0 0,.bool false,.slice none 0 0] (C*4)) 86)):=(Below.refl _ _).alloc (kT _) _;have mM:=Ac cG gN;have mN:=Ab cG (by rw[gN];rfl) lG;clear lD;go_upto_region 6 with(fail)
   clear mM mN cG;obtain⟨wn,cX⟩:∃wn,wk.alloc (.cells (madeCells #[.bool false,.slice none 0 0,.bool false,.slice none 0 0] (C*4)) 86)=wn:=⟨_,rfl⟩
   have bC:Below wk.heap.size wk wn:=cX▸(Below.refl _ _).alloc (kT _) _;have O:QRow (λq=>IsQ (F k q)) wn wk.heap.size C 0:=cX▸QRow.made _ wk C;have lM:wn.heap.size=wk.heap.size+1:=by rw[<-cX];simp
   try rw[cX]
   obtain⟨g,hg⟩:∃g,wk.heap.size=g:=⟨_,rfl⟩
   have mL:G<g:=hg▸H.1.stk.1;have lK:=H.1.stk.next bC
   have lN:wn.cell? ⟨G,k,none⟩=some uk:=Ac bC gN;obtain⟨ws,V⟩:∃ws,wn.setCell ⟨G,k,none⟩ (.slice (some ⟨g,0,none⟩) C C)=ws:=⟨_,rfl⟩
   have bB:I32 wn ws:=V▸I32.putU (lK.imp λ_=>SliceV.notU32) k _;have aK:wn.grownBy ws (some G):=V▸Ai wn G k _;have lF:ws.cell? ⟨G,k,none⟩=some (.slice (some ⟨g,0,none⟩) C C):=by rw[<-V];exact World.cell?_setCell_same' _ _ _ (by rw[lN];rfl)
   rw[hg]at O ⊢;rw[V];have gP:=Kh (show ∀i,i<k->gs i<g from λi hi=>hg▸(H.1.row i hi).sts.1)
   have lU:=Kh (show GM F k C ws G gs G from by
    have h:=H.1.keep bC;refine⟨V▸Bc h.stk _ _ ⟨_,_,_,rfl⟩,λi=>V▸At (h.free i),h.hB,λi hi=>?_,λi hi=>(h.row i hi).i32 (λ_=>IsQ.solid _) bB aK (h.ne i hi),h.ge,h.ne,h.inj⟩;rw[<-V,World.cell?_setCell_other _ _ _ _ (by simp <;> omega)];exact h.at_ i hi)
   have kY:=Kh (O.i32 (λ_=>IsQ.solid _) bB aK (by omega))
   have lV:=Kh (show ∀i,i<R->(ws.cell? ⟨G,i,none⟩).isSome=true from λi hi=>by
    rw[<-V];obtain⟨u,hu⟩:=kX (cC.1 i hi);exact Ah (by rw[Ac bC hu];rfl))
   have hD:=Kh (show Below G wb ws from An (eP.1.trans (bC.mono (by omega))) aK (by omega) (kT _));have gF:=Kh lF;have aD:=Kh mL;clear cX bC O lM hg lK lN bB aK V gN lG x1 H cC eP;go_wp2_with fail
   have nA:=Kh (show ws.cell? ⟨G,k,none⟩=some (.slice (some ⟨g,0,none⟩) C C)from gF.1);have cB:=Kh (show Below wb.heap.size wb ws from by rw[Z.1];exact hD.1);have hW:=Kh (aX.1.trans (cB.1.mono aX.1.size));try clear lF
   go_loopw [25] (λjj wr=>∃j:Nat,j<=C/\jj=.int .i64 j/\QRow (λq=>IsQ (F k q)) wr g C j/\ws.grownBy wr (some g)/\I32 ws wr) (λjj _=>C - (intOf jj).toNat)
   case atStart=>exact⟨0,Nat.zero_le _,rfl,kY.1,Af g (Below.refl _ _),I32.refl _⟩
   case round=>
    obtain⟨j,hj,rfl,O,aK,bB⟩:=hrel;obtain⟨we,rfl⟩:∃we:World,we=wr:=⟨_,rfl⟩
    have cD:=Kh O;have J:=Kh aK;have gU:=Kh bB;have aN:=Kh (show(some G:Option Nat)≠some g from λe=>by injection e with e;have:=aD.1;omega);clear O aK bB kY;by_cases hlt:j<C
    ·have oE:(j:Int)<(C:Int):=by omega
     obtain⟨KC,hM⟩:∃n,k*C=n:=⟨_,rfl⟩
     have oH:KC+C<=RC:=by
      have h1:=Nat.mul_le_mul_right C (show k+1<=R by omega);have h2:=mB.1;rw[Nat.succ_mul]at h1;omega
     have e1:(k:Int)*(C:Int)=(KC:Nat):=by rw[<-hM];push_cast;rfl
     obtain⟨KJ,lA⟩:∃n,KC+j=n:=⟨_,rfl⟩
     have oJ:IntKind.i64.wrap (KC:Int)=(KC:Nat):=IntWalk.i64_in _ (by omega);have oK:IntKind.i64.wrap ((KC:Int)+(j:Int))=(KJ:Nat):=by rw[show(KC:Int)+(j:Int)=(KJ:Nat)by omega];exact IntWalk.i64_in _ (by omega)
     obtain⟨mO,lI⟩:=lS.1 (by omega);subst mO;have lQ:=Kh (show F k j=X KJ by rw[HF.1 k j hlt,hM,lA]);have gS:gA≠g:=by have:=lI;have:=aD.1;have:=aX.1.size;have:=Z.1;omega
     obtain⟨s',p',i1,c',t',q',m',d',a0,a1,a2,a3,hx⟩:=(((HX.1 KJ (by omega)).keep (IsQ.solid _) hW.1).butR gU.1 J.1 gS)
     have HP:=Kh (show Qs we s' p' i1 c' t' q' m' d' (X KJ)from hx);have c0:=J.1.cell gF.1 aN.1;have cT:(some gb:Option Nat)≠some g:=λe=>by injection e with e;have h1:=bA.1.lt;have h2:=aD.1;have h3:=Z.1;omega
     have x1:=J.1.cell ((bA.1.below_ cB.1 bA.1.lt).at_ 1 rfl) cT;have x2:=J.1.cell ((bA.1.below_ cB.1 bA.1.lt).at_ 2 rfl) cT;have U:=cD.1;obtain⟨u0,e0⟩:=kX (U.has (j*4) (by omega));obtain⟨u1,hI⟩:=kX (U.has (j*4+1) (by omega));obtain⟨u2,hJ⟩:=kX (U.has (j*4+2) (by omega));obtain⟨u3,e3⟩:=kX (U.has (j*4+3) (by omega));have mA:=Kh (λw1 (Y:Below we.heap.size we w1)=>Jz s' p' i1 c' t' q' m' d' (X KJ) w1 (HP.1.keep Y) (HS.1 _ (by omega)));have oG:KJ<RC:=by omega
     have nK:(KJ:Int)<(RC:Int):=by omega
     have nJ:(k:Int)<(R:Int):=by omega
     clear hx hM gS cT lA;go_upto_region 9 with(fail)
     refine K6 (λW=>W.cell? ⟨G,k,none⟩=some (.slice (some ⟨g,0,none⟩) C C)/\W.cell? ⟨gb,2,none⟩=some (.slice (some ⟨gA,oA,none⟩) RC cA)/\W.cell? ⟨gb,1,none⟩=some (.int .i64 (C:Int))/\W.cell? ⟨gA,oA+KJ*4,none⟩=some (.bool s')/\W.cell? ⟨gA,oA+KJ*4+1,none⟩=some (.slice p' i1 c')/\W.cell? ⟨gA,oA+KJ*4+2,none⟩=some (.bool t')/\W.cell? ⟨gA,oA+KJ*4+3,none⟩=some (.slice q' m' d')/\W.cell? ⟨g,j*4,none⟩=some (u0)/\W.frozen? ⟨g,j*4,none⟩=false/\W.cell? ⟨g,j*4+1,none⟩=some (u1)/\W.frozen? ⟨g,j*4+1,none⟩=false/\W.cell? ⟨g,j*4+2,none⟩=some (u2)/\W.frozen? ⟨g,j*4+2,none⟩=false/\W.cell? ⟨g,j*4+3,none⟩=some (u3)/\W.frozen? ⟨g,j*4+3,none⟩=false) (λW Y=>⟨Au Y c0,Au Y x2,Au Y x1,Au Y a0,Au Y a1,Au Y a2,Au Y a3,Au Y e0,Ab Y (by rw[e0];rfl) (U.free _ (by omega)),Au Y hI,Ab Y (by rw[hI];rfl) (U.free _ (by omega)),Au Y hJ,Ab Y (by rw[hJ];rfl) (U.free _ (by omega)),Au Y e3,Ab Y (by rw[e3];rfl) (U.free _ (by omega))⟩) (λmC hHeld0=>?_);clear c0 x1 x2 a0 a1 a2 a3 e0 hI hJ e3 U;refine Al 0 ?_;refine Al 1 ?_;refine Al 2 ?_;refine Al 3 ?_;refine Al 4 ?_;refine Al 5 ?_;refine Al 6 ?_;refine Al 7 ?_;refine Al 8 ?_;refine Al 9 ?_;refine Al 10 ?_;refine Al 11 ?_;refine Al 12 ?_;refine Al 13 ?_;refine Al 14 ?_;refine F9 15 rfl (λK hK=>?_);focus(go_simp;refine(mA.1 _ (Below.refl _ we).drew).mono ?_;rintro e w4 ⟨⟨s6,p6,n6,c6,t6,q6,m6,d6,rfl,lO⟩,lC⟩;have dY:=Kh ((Below.refl _ we).drew.trans lC:Below we.heap.size we w4);have hQ:=QRow.keep (λq=>(IsQ.solid _:Bh (IsQ (F k q)))) cD.1 dY.1;have iL:=Kh (QRow.set (k':=j+1) (λ_=>IsQ.solid _) hQ j hlt (λq=>IsQ (F k q)) (IsQ.solid _) (λi h1 h2=>⟨by omega,rfl⟩) (show IsQ (F k j) w4 s6 p6 n6 c6 t6 q6 m6 d6 by rw[lQ.1];exact lO));have lR:=Kh (show ∀v0 v1 v2 v3,ws.grownBy ((((w4.setCell ⟨g,j*4,none⟩ v0).setCell ⟨g,j*4+1,none⟩ v1).setCell ⟨g,j*4+2,none⟩ v2).setCell ⟨g,j*4+3,none⟩ v3) (some g)from λ_ _ _ _=>Fm J.1 dY.1);have H4:=Kh ((gU.1.trans (I32.below dY.1)).trans (I32.put4 hQ.sts (j*4) (j*4+1) (j*4+2) (j*4+3) (.bool s6) (.slice p6 n6 c6) (.bool t6) (.slice q6 m6 d6) (NotInt.bool _) (NotInt.slice _ _ _) (NotInt.bool _)));clear lO lC hQ;(first|with_reducible refine hK.out _ _ ?_ (λhHeld1=>?_) |(go_wp2_with fail;with_reducible refine hK.out _ _ ?_ (λhHeld1=>?_))))
     focus((try dsimp only);exact mC.1 _ dY.1)
     focus(clear hK K;(try simp only[Act.put,Br,Bt,Bs]))
     refine Al 16 ?_;refine K5 17 rfl (λK hK=>?_);go_simp
     refine hK.out _ _ ?_;clear hK K
     (try simp only[Act.put,Br,Bt,Bs])
     all_goals go_wp2
     all_goals go_roundw
     all_goals first
      | exact⟨j+1,by omega,by go_num,iL.1,lR.1 _ _ _ _,H4.1⟩
      |(simp[intOf];omega)
    ·obtain rfl:j=C:=by omega
     have lW:=Kh (lU.1.but gU.1 J.1 (by have:=aD.1;omega) (λi hi=>by have:=gP.1 i hi;omega));have lX:=Kh (lW.1.more (g:=g) (by rw[J.1.cell gF.1 aN.1];rfl) cD.1 (Nat.le_of_lt aD.1) (by have:=aD.1;omega) (λi hi=>by have:=gP.1 i hi;omega) (J.1.cell gF.1 aN.1))
     have lY:=Kh (show ∀i,i<R->(we.cell? ⟨G,i,none⟩).isSome=true from λi hi=>by
      obtain⟨u,hu⟩:=kX (lV.1 i hi);rw[J.1.cell hu aN.1];rfl)
     have lZ:=Kh (show Below G wb we from An hD.1 J.1 (by have:=hD.1.size;have:=Z.1;omega) (Nat.le_of_lt aD.1));go_wp2;go_roundw
     case rel=>exact⟨k+1,_,by omega,by go_num,lX.1,lY.1,lZ.1⟩
     case measure=>simp[intOf];omega
  ·obtain rfl:k=R:=by omega
   go_wp2;go_ret
   exact⟨⟨G,gs,rfl,H.1.base (by have:=aX.1.size;have:=Z.1;have:=lT.1;omega)⟩,by
    have h:Below wb.heap.size wb wk:=Z.1▸eP.1;exact aX.1.trans (h.mono aX.1.size)⟩
theorem Ls (F:Nat->Nat->Rat) (m C t G cap:Nat) (gs:Nat->Nat) (B0:Nat) (w:World) (h:GM F m C w G gs B0) (ht:t<=m) (hm:m<=1024) (hC:C<=1024):
  Calls prog 55 #[.int .i64 C,.slice (some ⟨G,0,none⟩) t cap] w λe w'=>(∃v,e=.returned (.agg #[.int .i64 t,.int .i64 C,v])/\OwnQ (λp=>IsQ (F (p / C) (p % C))) w' w.heap.size v (t*C))/\Below w.heap.size w w':=by
 have HG:=Kh h;clear h;go_enter func55,ntmps55
 go_wp2_with fail
 obtain⟨w0,eP,X0,cT⟩:=bx1 w #[.int .i64 0,.int .i64 0,.slice none 0 0] 32;rw[eP];obtain⟨wx,bE⟩:∃wx,w0.alloc (.cells #[.int .i64 t,.int .i64 C,.slice none 0 0] 32)=wx:=⟨_,rfl⟩
 have dC:Below w0.heap.size w0 wx:=bE▸(Below.refl _ _).alloc (kT _) _;have Y:Blk wx w0.heap.size 32 #[.int .i64 t,.int .i64 C,.slice none 0 0]:=bE▸Blk.new w0 32 #[.int .i64 t,.int .i64 C,.slice none 0 0];rw[bE];have hG:w0.heap.size=w.heap.size+1:=by rw[<-eP];simp
 obtain⟨ob,aL⟩:∃x,w.heap.size+1=x:=⟨_,rfl⟩
 have dY:w0.heap.size=ob:=hG.trans aL;obtain⟨J,bC⟩:∃x,w.heap.size=x:=⟨_,rfl⟩
 rw[dY]at Y;rw[aL];rw[bC]at X0 ⊢;have I:=Kh (show J<ob by rw[<-dY];exact X0.lt);have aK:=Kh bC;have hN:=Kh (show Below J w wx from bC▸cT.trans (dC.mono cT.size));have Z:=Kh (show Blk wx J 32 #[.int .i64 0,.int .i64 0,.slice none 0 0]from X0.below_ dC X0.lt);obtain⟨BB,bA⟩:∃x,wx.heap.size=x:=⟨_,rfl⟩
 have cB:=Kh bA;obtain⟨V,hV⟩:∃V:Nat->FP,(λp=>IsQ (F (p / C) (p % C)))=V:=⟨_,rfl⟩
 have cF:=Kh (show ∀j,Bh (V j)from λj=>by rw[<-hV];exact IsQ.solid _)
 have hW:=Kh (show ∀k i,i<C->V (k*C+i)=IsQ (F k i)from λk i hi=>by
  rw[<-hV];dsimp only;rw[show(k*C+i) / C=k by rw[Nat.mul_comm,Nat.mul_add_div (by omega),Nat.div_eq_of_lt hi,Nat.add_zero],show(k*C+i) % C=i by rw[Nat.mul_comm,Nat.mul_add_mod,Nat.mod_eq_of_lt hi]])
 have hU:=Kh hV
 have gL:=Kh (show MatAt V wx ob BB t C (0*C)from
  ⟨by rw[<-bA];exact Y.lt,Nat.le_of_eq bA.symm,Y.at_ 0 rfl,Y.at_ 1 rfl,⟨none,0,by rw[Nat.zero_mul];exact Y.at_ 2 rfl,by rw[Nat.zero_mul];exact OwnQ.nil _ _ _⟩,Y.free_ 2,Stk.of Y (by intro v hv;simp at hv;rcases hv with rfl|rfl|rfl <;> exact λ_ h=>by cases h)⟩)
 clear bE dC Y dY aL hG bC bA hV eP X0 cT;go_loopw [14] (λii wr=>∃k:Nat,k<=t/\ii=.int .i64 k/\MatAt V wr ob BB t C (k*C)/\wx.grownBy wr (some ob)) (λii _=>t - (intOf ii).toNat)
 case atStart=>exact⟨0,Nat.zero_le _,rfl,gL.1,Af ob (Below.refl _ _)⟩
 case round=>
  obtain⟨k,hk,rfl,cA,gU⟩:=hrel;obtain⟨we,rfl⟩:∃we:World,we=wr:=⟨_,rfl⟩
  have H:=Kh cA;have U:=Kh gU;clear cA gU gL;have cC:=Kh (show Below J w we from An hN.1 U.1 (by have:=cB.1;have:=H.1.lt;have:=I.1;omega) (Nat.le_of_lt I.1));by_cases hlt:k<t
  ·have lM:(k:Int)<(t:Int):=by omega
   have cX:=cC.1;rw[<-aK.1]at cX;have dE:=HG.1.keep cX;have r4:=dE.at_ k (by omega);have aX:=Kh (dE.row k (by omega));obtain⟨p,c,g2,xs,hK,cG⟩:=H.1.c2;obtain⟨n,hn⟩:∃x,k*C=x:=⟨_,rfl⟩
   have lN:n<=1024*1024:=by rw[<-hn];exact Nat.mul_le_mul (by omega:k<=1024) hC
   rw[hn]at g2 hK cG H;have hR:=Kh (show n+C=(k+1)*C by rw[<-hn,Nat.add_mul,Nat.one_mul]);have gF:=Kh (show ∀j,j<C->V (n+j)=IsQ (F k j)from λj hj=>by rw[<-hn];exact hW.1 k j hj);have HK:=Kh hK;have hX:=Kh cG;have hO:=Kh g2;have kZ:ob<we.heap.size:=kV H.1.lt H.1.hB;clear cX dE hK cG hn;go_wp2_with (at_builtin;refine Pz NotInt rfl (.tmp 19) (.tmp 20) _ 86 rfl underlying30 F1 rfl (by decide) BB n C (gs k) C (.slice p n c) xs (Ax we (gs k) (C*4)) rfl HK.1 rfl (Ce _ _ _) aX.1.cells aX.1.one (by omega) (by omega) H.1.hB aX.1.ni iK ?_;intro v9 w9 aD aJ;obtain⟨p9,c9,rfl⟩:=Bf aD.1;obtain⟨d2,df,gP⟩:=H.1.more cF.1 hO.1 HK.1.1 (OwnQ.more cF.1 HK.1 hX.1 aX.1 aD aJ gF.1) aJ;have hS:=Kh gP;have hP:=Kh ((Hz U.1 aJ cB.1.symm (λb hb=>Ch HK.1.1 hb.symm)).trans (Ai w9 ob 2 (.slice p9 (n+C) c9)));clear gP aD aJ g2)
   go_roundw
   case rel=>exact⟨k+1,by omega,by go_num,by rw[<-hR.1];exact hS.1,hP.1⟩
   case measure=>simp[intOf];omega
  ·obtain rfl:t=k:=by omega
   obtain⟨p,c,g2,gS⟩:=H.1.c2;have bB:J≠ob:=Nat.ne_of_lt I.1;have O:=U.1.block J (by rw[cB.1];have:=I.1;have:=H.1.lt;omega) (λe=>by injection e with e;exact bB e);have r0:=U.1.cell (Z.1.at_ 0 rfl) (λe=>by injection e with e;exact bB e);have r1:=U.1.cell (Z.1.at_ 1 rfl) (λe=>by injection e with e;exact bB e);have r2:=U.1.cell (Z.1.at_ 2 rfl) (λe=>by injection e with e;exact bB e);have f0:we.frozen? ⟨J,0,none⟩=false:=(World.frozen?_of_block (a:=⟨J,0,none⟩) O).trans (Z.1.free_ 0);have f1:we.frozen? ⟨J,1,none⟩=false:=(World.frozen?_of_block (a:=⟨J,1,none⟩) O).trans (Z.1.free_ 1);have f2:we.frozen? ⟨J,2,none⟩=false:=(World.frozen?_of_block (a:=⟨J,2,none⟩) O).trans (Z.1.free_ 2);have aN:Stk NotU32 wx J:=Stk.of Z.1 (by intro v hv;simp at hv;rcases hv with rfl|rfl|rfl <;> exact λ_ h=>by cases h);have hE:Stk NotU32 we J:=⟨kV aN.1 U.1.size,λi u hu=>aN.2 i u ((World.cell?_of_block (a:=⟨J,i,none⟩) O).symm.trans hu)⟩
   have a0:=H.1.c0;have a1:=H.1.c1;have cD:=Kh (C1 (w:=we) (R:=J) (v0:=.int .i64 (t:Int)) (v1:=.int .i64 (C:Int)) (v2:=.slice p (t*C) c) (by rw[r0];rfl) (by rw[r1];rfl) (by rw[r2];rfl));have hQ:=Kh (Hi hE (v0:=.int .i64 (t:Int)) (v1:=.int .i64 (C:Int)) (v2:=.slice p (t*C) c) (λ_ h=>by cases h) (λ_ h=>by cases h));have gA:=Kh (((Ai we J 0 (.int .i64 (t:Int))).trans (Ai _ J 1 (.int .i64 (C:Int)))).trans (Ai _ J 2 (.slice p (t*C) c)));have hT:=Kh gS;clear gS O aN hE;go_wp2;have e0:=cD.1.1;have e1:=cD.1.2.1;have e2:=cD.1.2.2;try simp only[Exit.inBlock,Exit.then]
   refine bodyPost_ret (by simp[results,results55,go_sem,e0,e1,e2];try rfl) rfl ?_;refine⟨⟨_,rfl,?_⟩,?_⟩
   ·rw[hU.1]
    obtain⟨xs,h1,h2⟩:=hT.1.box cF.1 hQ.1 gA.1 (by have:=I.1;have:=H.1.lt;omega)
    exact⟨xs,⟨⟨h1.1.1,by
     rcases h1.1.2 with h |⟨g',cap,cs,e,lI,hr⟩
     ·exact .inl h
     ·exact .inr ⟨g',cap,cs,e,by have:=aK.1;have:=I.1;have:=H.1.lt;omega,hr⟩⟩,h1.2⟩,h2⟩
   ·exact An (aK.1▸cC.1) gA.1 (by have:=cC.1.size;have:=aK.1;omega) (by have:=aK.1;omega)
theorem Oe (F:Nat->Nat->Rat) (R C:Nat) (v:Value) (w:World) (h:cM F R C w v) (nI:R<=1000) (hC:C<=1000) (hs:∀i q,i<R->q<C->hq (F i q)<=1000000000):
  Calls prog 62 #[.int .i64 C,v] w λe w'=>(∃p c,e=.returned (.tuple #[.agg #[.int .i64 R,.int .i64 C,.slice p (R*C) c],.int .i64 0])/\QL (λj=>IsQ (F (j / C) (j % C))) w' (.slice p (R*C) c) (R*C))/\Below w.heap.size w w':=by
 obtain⟨pR,cG,rfl,eP⟩:=h
 have mJ:=Kh (λW (hb:Below w.heap.size w W) i (hi:i<R)=>(show ∃G g,pR=some ⟨G,0,none⟩/\W.cell? ⟨G,i,none⟩=some (.slice (some ⟨g,0,none⟩) C C)/\(0<C->QRow (λq=>IsQ (F i q)) W g C C)by
  obtain⟨G,hp,hG,h1⟩:=eP (by omega);obtain⟨g,e1,h2⟩:=h1 i hi;exact⟨G,g,hp,(hb.cell (p:=⟨G,i,none⟩) hG).trans e1,λhC=>(h2 hC).keep (λ_=>IsQ.solid _) hb⟩))
 have HS:=Kh hs;clear eP hs;go_enter func62,ntmps62
 go_wp2_with fail
 obtain⟨w0,lM,X0,hI⟩:=bx1 w #[.int .i64 0,.int .i64 0,.slice none 0 0] 32;rw[lM];refine(I0 C w0 (by omega)).mono ?_;rintro e w1 ⟨rfl,hJ⟩;have lA:=Kh (X0.below_ hJ X0.lt);have hT:=Kh (hI.trans (hJ.mono hI.size));clear lM X0 hI hJ;go_wp2_with fail
 refine(I0 R w1 (by omega)).mono ?_;rintro e w2 ⟨rfl,hL⟩;have aX:=Kh (bk lA hL);have hU:=bt hT hL;have nG:((C:Int) !=(C:Int))=false:=by simp
 clear hL lA hT;go_wp2_with fail
 obtain⟨wx,dC⟩:∃wx,w2.alloc (.cells #[.int .i64 R,.int .i64 C,.slice none 0 0] 32)=wx:=⟨_,rfl⟩
 have cD:Below w2.heap.size w2 wx:=dC▸(Below.refl _ _).alloc (kT _) _;have Y:Blk wx w2.heap.size 32 #[.int .i64 R,.int .i64 C,.slice none 0 0]:=dC▸Blk.new w2 32 #[.int .i64 R,.int .i64 C,.slice none 0 0];obtain⟨ob,bB⟩:∃x,w2.heap.size=x:=⟨_,rfl⟩
 obtain⟨J,bA⟩:∃x,w.heap.size=x:=⟨_,rfl⟩
 have cB:=Kh bA;have dE:=aX.1.lt;have aU:=hU.1;rw[bA]at aX dE;rw[bB]at Y cD dE;have aL:=Kh dE;have lU:=Kh (show Below J w wx from bA▸aU.trans (cD.mono (bB▸aU.size)));have aJ:=Kh (show Blk wx J 32 #[.int .i64 0,.int .i64 0,.slice none 0 0]from aX.1.below_ (bB▸cD) aX.1.lt);obtain⟨BB,cC⟩:∃x,wx.heap.size=x:=⟨_,rfl⟩
 have gN:=Kh cC;obtain⟨V,hV⟩:∃V:Nat->FP,(λp=>IsQ (F (p / C) (p % C)))=V:=⟨_,rfl⟩
 have kZ:=Kh (show ∀j,Bh (V j)from λj=>by rw[<-hV];exact IsQ.solid _)
 have mL:=Kh (show ∀k i,i<C->V (k*C+i)=IsQ (F k i)from λk i hi=>by
  rw[<-hV];dsimp only;rw[show(k*C+i) / C=k by rw[Nat.mul_comm,Nat.mul_add_div (by omega),Nat.div_eq_of_lt hi,Nat.add_zero],show(k*C+i) % C=i by rw[Nat.mul_comm,Nat.mul_add_mod,Nat.mod_eq_of_lt hi]])
 have mK:=Kh hV
 have kY:=Kh (show MatAt V wx ob BB R C (0*C)from
  ⟨by rw[<-cC];exact Y.lt,Nat.le_of_eq cC.symm,Y.at_ 0 rfl,Y.at_ 1 rfl,⟨none,0,by rw[Nat.zero_mul];exact Y.at_ 2 rfl,by rw[Nat.zero_mul];exact OwnQ.nil _ _ _⟩,Y.free_ 2,Stk.of Y (by intro v hv;simp at hv;rcases hv with rfl|rfl|rfl <;> exact λ_ h=>by cases h)⟩)
 rw[dC];try rw[bB]
 try rw[bA]
 clear dC bB cD Y bA cC hV aU aX hU dE;go_loopw [25] (λii wr=>∃k:Nat,k<=R/\ii=.int .i64 k/\MatAt V wr ob BB R C (k*C)/\wx.grownBy wr (some ob)) (λii _=>R - (intOf ii).toNat)
 case atStart=>exact⟨0,Nat.zero_le _,rfl,kY.1,Af ob (Below.refl _ _)⟩
 case round=>
  obtain⟨k,hk,rfl,dY,lK⟩:=hrel;obtain⟨Z,rfl⟩:∃Z:World,Z=wr:=⟨_,rfl⟩
  have I:=Kh dY;have aD:=Kh lK;clear dY lK kY;have hX:=Kh (show Below J w Z from An lU.1 aD.1 (by have:=gN.1;have:=I.1.lt;have:=aL.1;omega) (Nat.le_of_lt aL.1));by_cases hlt:k<R
  ·have nL:(k:Int)<(R:Int):=by omega
   have hM:=hX.1;rw[<-cB.1]at hM;obtain⟨G,g,mS,r4,bC⟩:=mJ.1 Z hM k hlt;subst mS
   have mG:=Kh (show ∀(j:Nat) (u:Value),(Ax Z g (C*4))[j]?=some u->Z.cell? ⟨g,j,none⟩=some u from λj u hu=>by
    rcases Nat.eq_zero_or_pos C with e|e
    ·rw[e,Nat.zero_mul]at hu;cases hu
    ·exact(bC e).cells j u hu)
   have mF:=Kh (show ∀u∈Ax Z g (C*4),u.oneCell'=true from λu hu=>by
    rcases Nat.eq_zero_or_pos C with e|e
    ·rw[e,Nat.zero_mul]at hu;cases hu
    ·exact(bC e).one u hu)
   have mH:=Kh (show ∀u∈Ax Z g (C*4),NotInt u from λu hu=>by
    rcases Nat.eq_zero_or_pos C with e|e
    ·rw[e,Nat.zero_mul]at hu;cases hu
    ·exact(bC e).ni u hu)
   have mI:=Kh bC;obtain⟨p,c,g2,xs,hK,hE⟩:=I.1.c2;obtain⟨n,hn⟩:∃x,k*C=x:=⟨_,rfl⟩
   have nN:n<=1024*1024:=by rw[<-hn];exact Nat.mul_le_mul (by omega:k<=1024) (by omega)
   rw[hn]at g2 hK hE I;have mA:=Kh (show n+C=(k+1)*C by rw[<-hn,Nat.add_mul,Nat.one_mul]);have iL:=Kh (show ∀j,j<C->V (n+j)=IsQ (F k j)from λj hj=>by rw[<-hn];exact mL.1 k j hj);have HK:=Kh hK;have mM:=Kh hE;have lW:=Kh g2;have mX:ob<Z.heap.size:=kV I.1.lt I.1.hB;have mD:=Kh hn;clear hM bC hK hE hn;go_wp2_with (at_builtin;refine Pz NotInt rfl (.tmp 35) (.tmp 36) _ 86 rfl underlying30 F1 rfl (by decide) BB n C g C (.slice p n c) xs (Ax Z g (C*4)) rfl HK.1 rfl (Ce _ _ _) mG.1 mF.1 (by omega) (by omega) I.1.hB mH.1 iK ?_;intro v9 w9 O aN;obtain⟨p9,c9,rfl⟩:=Bf O.1;obtain⟨d2,df,lG⟩:=I.1.more kZ.1 lW.1 HK.1.1 (by rcases Nat.eq_zero_or_pos C with e|e;(have nM:n=0:=by have:=mD.1;rw[e,Nat.mul_zero]at this;omega);(exact⟨_,O,λj hj=>by omega⟩);(exact OwnQ.more kZ.1 HK.1 mM.1 (mI.1 e) O aN iL.1)) aN;have mB:=Kh lG;have lX:=Kh ((Hz aD.1 aN gN.1.symm (λb hb=>Ch HK.1.1 hb.symm)).trans (Ai w9 ob 2 (.slice p9 (n+C) c9)));clear lG O aN g2)
   go_roundw
   case rel=>exact⟨k+1,by omega,by go_num,by rw[<-mA.1];exact mB.1,lX.1⟩
   case measure=>simp[intOf];omega
  ·obtain rfl:R=k:=by omega
   obtain⟨p,c,g2,hD⟩:=I.1.c2;have a0:=I.1.c0;have a1:=I.1.c1;obtain⟨n,hn⟩:∃x,R*C=x:=⟨_,rfl⟩
   rw[hn]at g2 hD I
   obtain⟨gA,cX⟩:∃gA,0<n->p=some ⟨gA,0,none⟩/\QRow V Z gA n n:=by
    rcases hD.row with⟨h,_⟩ |⟨g,cap,mT,nK,cX⟩
    ·exact⟨0,λh2=>by omega⟩
    ·injection mT with s1 s2 s3
     exact⟨g,λ_=>⟨s1,cX⟩⟩
   have gS:=Kh cX;have HN:=Kh hn;have cF:J≠ob:=Nat.ne_of_lt aL.1;have U:=aD.1.block J (by rw[gN.1];have:=aL.1;have:=I.1.lt;omega) (λe=>by injection e with e;exact cF e);have r0:=aD.1.cell (aJ.1.at_ 0 rfl) (λe=>by injection e with e;exact cF e);have r1:=aD.1.cell (aJ.1.at_ 1 rfl) (λe=>by injection e with e;exact cF e);have r2:=aD.1.cell (aJ.1.at_ 2 rfl) (λe=>by injection e with e;exact cF e);have f0:Z.frozen? ⟨J,0,none⟩=false:=(World.frozen?_of_block (a:=⟨J,0,none⟩) U).trans (aJ.1.free_ 0);have f1:Z.frozen? ⟨J,1,none⟩=false:=(World.frozen?_of_block (a:=⟨J,1,none⟩) U).trans (aJ.1.free_ 1);have f2:Z.frozen? ⟨J,2,none⟩=false:=(World.frozen?_of_block (a:=⟨J,2,none⟩) U).trans (aJ.1.free_ 2);have bE:Stk NotU32 wx J:=Stk.of aJ.1 (by intro v hv;simp at hv;rcases hv with rfl|rfl|rfl <;> exact λ_ h=>by cases h);have aK:Stk NotU32 Z J:=⟨kV bE.1 aD.1.size,λi u hu=>bE.2 i u ((World.cell?_of_block (a:=⟨J,i,none⟩) U).symm.trans hu)⟩
   have gU:=Kh (And.intro r0 (And.intro r1 (And.intro r2 (And.intro f0 (And.intro f1 (And.intro f2 aK))))));clear r0 r1 r2 f0 f1 f2 U bE aK cX hD hn I;go_wp2_with fail
   refine(Gx R C n gA 0 c p (λj=>F (j / C) (j % C)) F Z (λh=>⟨(gS.1 h).1,(gS.1 h).2.sts.1⟩) (λj hj=>by
    have h1:=(gS.1 (by omega)).2.val j hj;rw[<-mK.1]at h1;rw[Nat.zero_add];exact h1) HN.1 (by omega) (by omega) (λj hj=>HS.1 _ _ (Nat.div_lt_of_lt_mul (by rw[Nat.mul_comm,HN.1];exact hj)) (Nat.mod_lt _ (by rcases Nat.eq_zero_or_pos C with e|e;(have h3:=HN.1;rw[e,Nat.mul_zero]at h3;omega);exact e))) (λi q hq=>by
    rw[show(i*C+q) / C=i by rw[Nat.mul_comm,Nat.mul_add_div (by omega),Nat.div_eq_of_lt hq,Nat.add_zero],show(i*C+q) % C=q by rw[Nat.mul_comm,Nat.mul_add_mod,Nat.mod_eq_of_lt hq]])).mono ?_
   rintro e w5 ⟨⟨G5,mP,rfl,lJ⟩,lH⟩;have lY:=Kh lJ;have gL:=Kh lH;clear lJ lH;go_wp2_with fail
   refine(Ls F R C R G5 R mP Z.heap.size w5 lY.1 (kT _) (by omega) (by omega)).mono ?_;rintro e w6 ⟨⟨v6,rfl,cT⟩,lI⟩
   obtain⟨p6,c6,rfl⟩:∃p c,v6=.slice p (R*C) c:=by
    obtain⟨_,mR,_⟩:=cT;exact Bf mR.1
   have H:=gL.1.trans (lI.mono gL.1.size);obtain⟨r0,r1,r2,f0,f1,f2,aK⟩:=gU.1;have q0:=Ac H r0;have q1:=Ac H r1;have q2:=Ac H r2;have h0:=Ab H (by rw[r0];rfl) f0;have h1:=Ab H (by rw[r1];rfl) f1;have h2:=Ab H (by rw[r2];rfl) f2;have gF:=aK.next H
   have gP:=Kh (C1 (w:=w6) (R:=J) (v0:=.int .i64 (R:Int)) (v1:=.int .i64 (C:Int)) (v2:=.slice p6 (R*C) c6) (by rw[q0];rfl) (by rw[q1];rfl) (by rw[q2];rfl));have lZ:=Kh (Hi gF (v0:=.int .i64 (R:Int)) (v1:=.int .i64 (C:Int)) (v2:=.slice p6 (R*C) c6) (λ_ h=>by cases h) (λ_ h=>by cases h));have hY:=Kh (((Ai w6 J 0 (.int .i64 (R:Int))).trans (Ai _ J 1 (.int .i64 (C:Int)))).trans (Ai _ J 2 (.slice p6 (R*C) c6)));have mE:=Kh cT.ql;have lV:=Kh (Xp cT);have hZ:=Kh (show J<w5.heap.size from kV aK.1 gL.1.size);have hW:=Kh (show Below J w w6 from hX.1.trans (H.mono (by have:=aK.1;omega)));clear r0 r1 r2 f0 f1 f2 aK gF H lI cT;go_wp2;have e0:=gP.1.1;have e1:=gP.1.2.1;have e2:=gP.1.2.2;try simp only[Exit.inBlock,Exit.then]
   refine bodyPost_ret (by simp[results,results62,go_sem,e0,e1,e2];try rfl) rfl ?_;exact⟨⟨p6,c6,rfl,mE.1.boxed (λ_=>IsQ.solid _) lZ.1 hY.1 (λa ha=>by have:=lV.1 a ha;have:=hZ.1;omega)⟩,An (cB.1▸hW.1) hY.1 (by have:=hW.1.size;have:=cB.1;have:=hZ.1;omega) (by have:=cB.1;omega)⟩
theorem Vv (x:Int) (m:Nat) (w:World) (J:0<m) (V:m<=1000000000):
  Calls prog 126 #[.int .i64 x,.int .i64 m] w λe w'=>e=.returned (.int .i64 (x % (m:Int)))/\w'=w:=by
 have O:-(m:Int)<x.tmod m:=by have:=Int.lt_tmod_of_pos x (show(0:Int)<m by omega);omega
 have U:x.tmod m<m:=Int.tmod_lt_of_pos x (by omega);have H:=Kh (Da x m (by omega));have I:(m:Int)≠0:=by omega
 go_enter func126,ntmps126
 go_wp2;all_goals (go_ret;refine⟨A3 ?_,rfl⟩;rw[<-H.1];first |(rw[if_pos (by omega)];done) |(rw[if_neg (by omega)];done))
structure XgI (a b g r U V:Nat) (s:Int):Prop where
 sum:U*r+V*g=b
 hU:U<=b
 hV:V<=b
 hg:g<=b
 hr:r<=b
 sg:s=1∨s=-1
 du:(b:Int)∣s*U*a - g
 dv:(b:Int)∣-s*V*a - r
 gd:Nat.gcd g r=Nat.gcd a b
theorem XgI.start {a b:Nat} (h:a<b):XgI a b a b 1 0 1:=
 ⟨by omega,by omega,Nat.zero_le _,Nat.le_of_lt h,kT _,.inl rfl,⟨0,by simp⟩,⟨-1,by simp⟩,rfl⟩
theorem XgI.step {a b g r U V:Nat} {s:Int} (h:XgI a b g r U V s) (hr:0<r):XgI a b r (g % r) V (U+g / r*V) (-s):=by
 have O:=Nat.div_add_mod g r;obtain⟨q,hq⟩:∃q,g / r=q:=⟨_,rfl⟩
 obtain⟨t,I⟩:∃t,g % r=t:=⟨_,rfl⟩
 rw[hq,I]at O;rw[hq,I]
 have H:V*t+(U+q*V)*r=b:=by
  rw[<-h.sum,<-O];grind
 have Y:t<r:=by rw[<-I];exact Nat.mod_lt _ hr
 refine⟨H,h.hV,?_,h.hr,Nat.le_of_lt (kV Y h.hr),?_,?_,?_,?_⟩
 ·have J:(U+q*V)*1<=(U+q*V)*r:=Nat.mul_le_mul_left _ hr
  omega
 ·rcases h.sg with J|J <;> rw[J]
  ·exact .inr rfl
  ·exact .inl rfl
 ·exact h.dv
 ·have e:-(-s)*((U+q*V:Nat):Int)*a - (t:Nat)=(s*U*a - g) - q*(-s*V*a - r):=by
   have Z:(g:Int)=r*q+t:=by rw[<-O];push_cast;rfl
   rw[Z]
   push_cast
   grind
  rw[e];exact Int.dvd_sub h.du (Int.dvd_trans h.dv (Int.dvd_mul_left _ _))
 ·rw[<-h.gd,<-I,Nat.gcd_comm r,<-Nat.gcd_rec r g,Nat.gcd_comm]
theorem dV (a b:Nat) (w:World) (h0:a<b) (hb:b<=20000) (hg:Nat.gcd a b=1):
  Calls prog 125 #[.int .i64 a,.int .i64 b] w λe w'=>(∃(u:Nat) (v:Int),e=.returned (.tuple #[.int .i64 1,.int .i64 u,.int .i64 v,.int .i64 0])/\u<b/\(b:Int)∣(u:Int)*a - 1)/\Below w.heap.size w w':=by
 have l1:¬(a:Int) < -2147483647:=by omega
 have l2:¬(2147483647:Int)<(a:Int):=by omega
 have l3:¬(b:Int) < -2147483647:=by omega
 have l4:¬(2147483647:Int)<(b:Int):=by omega
 have l5:((b:Int)==0)=false:=beq_eq_false_iff_ne.2 (by omega);go_enter func125,ntmps125
 go_wp2;clear l1 l2 l3 l4 l5;go_loopw [4,5,8,9] (λv4 v5 v8 v9 wr=>∃(g r U V:Nat) (s:Int),v4=.int .i64 g/\v5=.int .i64 (s*U)/\v8=.int .i64 (-s*V)/\v9=.int .i64 r/\XgI a b g r U V s/\wr=w) (λ_ _ _ v9 _=>(intOf v9).toNat)
 case atStart=>exact⟨a,b,1,0,1,rfl,rfl,rfl,rfl,XgI.start h0,rfl⟩
 case round=>
  obtain⟨g,r,U,V,s,rfl,rfl,rfl,rfl,J,rfl⟩:=hrel;have HX:=Kh J;have gL:=J.hg;have bY:=J.hU;have cA:=J.hV;have Y:=J.sg;obtain⟨x,H⟩:∃x:Int,s*U=x:=⟨_,rfl⟩
  obtain⟨y,I⟩:∃y:Int,-s*V=y:=⟨_,rfl⟩
  have hB:-20000<=x/\x<=20000:=by rcases Y with h|h <;> rw[h]at H <;> omega
  have cX:-20000<=y/\y<=20000:=by rcases Y with h|h <;> rw[h]at I <;> omega
  rw[H,I];have bC:=Kh H;have aK:=Kh I;by_cases hr0:r=0
  ·subst hr0
   obtain rfl:g=1:=by have h:=J.gd;rw[Nat.gcd_zero_right,hg]at h;exact h
   have hM:∀w,(Builtin.max_ #[3,3] 3 #[.int .i64 b,.int .i64 (-(b:Int))]).run prog w=.ok (.int .i64 b) w:=λw=>by
    have e:(if(b:Int) < -(b:Int)then -(b:Int)else(b:Int))=(b:Int):=by split <;> omega
    simp[Builtin.max_,Builtin.max2,e]
   have wn:IntKind.i64.wrap (-(b:Int))=-(b:Int):=IntWalk.i64_in _ (by omega);have wb:IntKind.i64.wrap (b:Int)=(b:Int):=IntWalk.i64_in _ (by omega);have O:=J.du;rw[H]at O;obtain⟨u,hu⟩:∃u:Nat,x % (b:Int)=u:=⟨(x % (b:Int)).toNat,by rw[Int.toNat_of_nonneg (Int.emod_nonneg _ (by omega))]⟩
   have cT:u<b:=by have:=Int.emod_lt_of_pos x (show(0:Int)<b by omega);omega
   have bA:=Kh (show(b:Int)∣(u:Int)*a - 1 from by
    have e:(u:Int)*a - 1=(x*a - ((1:Nat):Int)) - b*(x / b)*a:=by
     rw[<-hu,Int.emod_def]
     push_cast
     grind
    rw[e];exact Int.dvd_sub O ⟨x / b*a,by grind⟩)
   obtain⟨P,hP⟩:∃P:Nat,u*a=P:=⟨_,rfl⟩
   have gF:P<=20000*20000:=by rw[<-hP];exact Nat.mul_le_mul (by omega) (by omega)
   have v1:IntKind.i64.wrap ((u:Int)*(a:Int))=(P:Int):=by rw[show(u:Int)*(a:Int)=(P:Int)by rw[<-hP];push_cast;rfl];exact IntWalk.i64_in _ (by omega)
   obtain⟨z,hz⟩:∃z:Int,1 - (P:Int)=z:=⟨_,rfl⟩
   have v2:IntKind.i64.wrap (1 - (P:Int))=z:=by rw[hz];exact IntWalk.i64_in _ (by omega)
   obtain⟨q,hq⟩:∃q,z.tdiv b=q:=⟨_,rfl⟩
   have cD:q.natAbs<=400000001:=by rw[<-hq,Int.natAbs_tdiv];exact kU (Nat.div_le_self _ _) (by omega)
   have v3:IntKind.i64.wrap q=q:=IntWalk.i64_in _ (by omega);have v4:((b:Int)==0)=false:=beq_eq_false_iff_ne.2 (by omega);have v5:b≠0:=by omega
   have bB:=Kh hu;clear J H I O hP hz hu HX bC aK bY cA Y cX hg;go_wp2_with fail
   refine(Vv x b wr (by omega) (by omega)).mono ?_;rintro e w' ⟨rfl,aN⟩;obtain rfl:wr=w':=aN.symm;rw[bB.1];clear aN;go_upto_region 17 with(fail)
   go_quiet (fail)
   go_wp2;try simp only[Exit.inBlock,Exit.then]
   refine bodyPost_ret (by simp[results,results125,go_sem];try rfl) rfl ?_;exact⟨⟨u,q,rfl,cT,bA.1⟩,Aa (Below.refl _ _) _⟩
  ·have aL:0<r:=by omega
   have gP:((r:Int) != 0)=true:=by rw[bne_iff_ne];omega
   have Z:=J.step aL;have gS:=J.hr;obtain⟨q,hq⟩:∃q,g / r=q:=⟨_,rfl⟩
   obtain⟨t,ht⟩:∃t,g % r=t:=⟨_,rfl⟩
   have hd:=Nat.div_add_mod g r;rw[hq,ht]at hd Z;have cD:q<=20000:=by rw[<-hq];exact kU (Nat.div_le_self _ _) (by omega)
   have gU:t<r:=by rw[<-ht];exact Nat.mod_lt _ aL
   have e1:(g:Int) / (r:Int)=(q:Int):=by rw[<-hq];exact(Int.natCast_ediv _ _).symm
   obtain⟨p,hp⟩:∃p:Nat,q*r=p:=⟨_,rfl⟩
   have gN:p+t=g:=by rw[<-hp,Nat.mul_comm];exact hd
   have v1:IntKind.i64.wrap ((q:Int)*(r:Int))=(p:Int):=by rw[show(q:Int)*(r:Int)=(p:Int)by rw[<-hp];push_cast;rfl];exact IntWalk.i64_in _ (by omega)
   have v2:IntKind.i64.wrap ((g:Int) - (p:Int))=(t:Int):=by rw[show(g:Int) - (p:Int)=(t:Int)by omega];exact IntWalk.i64_in _ (by omega)
   obtain⟨z,hz⟩:∃z:Int,(q:Int)*y=z:=⟨_,rfl⟩
   have hD:z.natAbs<=20000*20000:=by rw[<-hz,Int.natAbs_mul];exact Nat.mul_le_mul (by omega) (by omega)
   have v3:IntKind.i64.wrap ((q:Int)*y)=z:=by rw[hz];exact IntWalk.i64_in _ (by omega)
   obtain⟨x',aD⟩:∃x':Int,x - z=x':=⟨_,rfl⟩
   have v4:IntKind.i64.wrap (x - z)=x':=by rw[aD];exact IntWalk.i64_in _ (by omega)
   have aX:=Kh Z
   have aU:=Kh (show x'=-(-s)*((U+q*V:Nat):Int)by
    rw[<-aD,<-hz,<-H,<-I]
    push_cast
    grind)
   clear J H I hq ht hd hp hz aD Z HX;go_wp2;go_roundw
   case rel=>exact⟨r,t,V,U+q*V,-s,rfl,by rw[aK.1],by rw[aU.1],rfl,aX.1,trivial⟩
   case measure=>simp[intOf];omega
theorem Tx (m:Nat) (w:World) (H:0<m) (O:m<=1000000000):
  Calls prog 124 #[.int .i64 m] w λe w'=>e=.returned (.bool true)/\w'=w:=by
 have I:(1:Int)<=(m:Int):=by omega
 have J:(m:Int)<=2147483647:=by omega
 go_enter func124,ntmps124
 go_wp2;go_ret;exact⟨rfl,rfl⟩
theorem Lo (x:Int) (m:Nat) (w:World) (Z:0<m) (hm:m<=20000) (hg:Int.gcd x m=1):
  Calls prog 74 #[.int .i64 x,.int .i64 m] w λe w'=>(∃u:Nat,e=.returned (.tuple #[.int .i64 u,.int .i64 0])/\u<m/\(m:Int)∣(u:Int)*x - 1)/\Below w.heap.size w w':=by
 obtain⟨a,U⟩:∃a:Nat,x % (m:Int)=a:=⟨(x % (m:Int)).toNat,by rw[Int.toNat_of_nonneg (Int.emod_nonneg _ (by omega))]⟩
 have V:a<m:=by have:=Int.emod_lt_of_pos x (show(0:Int)<m by omega);omega
 have J:Nat.gcd a m=1:=by
  have h:((Nat.gcd a m:Nat):Int)∣x:=by
   have e:x=m*(x / m)+a:=by rw[<-U];exact(Int.mul_ediv_add_emod x m).symm
   rw[e];exact Int.dvd_add (Int.dvd_trans (Int.natCast_dvd_natCast.2 (Nat.gcd_dvd_right ..)) (Int.dvd_mul_right _ _)) (Int.natCast_dvd_natCast.2 (Nat.gcd_dvd_left ..))
  have h2:=Int.dvd_coe_gcd h (Int.natCast_dvd_natCast.2 (Nat.gcd_dvd_right a m));rw[hg]at h2;exact Nat.dvd_one.1 (Int.natCast_dvd_natCast.1 h2)
 have Y:=Kh U;have O:=Kh (λW=>dV a m W V hm J);clear U hg J;go_enter func74,ntmps74
 go_wp2_with fail
 refine(Tx m w Z (by omega)).mono ?_;rintro e w' ⟨rfl,H⟩;obtain rfl:w=w':=H.symm;clear H;go_wp2_with fail
 refine(Vv x m w Z (by omega)).mono ?_;rintro e w' ⟨rfl,H⟩;obtain rfl:w=w':=H.symm;rw[Y.1];clear H;go_wp2_with fail
 refine(O.1 w).mono ?_;rintro e w1 ⟨⟨u,v,rfl,hu,hd⟩,I⟩;have HB:=Kh I
 have HD:=Kh (show(m:Int)∣(u:Int)*x - 1 from by
  have e:(u:Int)*x - 1=((u:Int)*a - 1)+m*(u*(x / m)):=by
   have h:x=m*(x / m)+a:=by rw[<-Y.1];exact(Int.mul_ediv_add_emod x m).symm
   grind
  rw[e];exact Int.dvd_add hd (Int.dvd_mul_right _ _))
 clear hd I;go_wp2;go_ret2
 exact⟨⟨u,rfl,hu,HD.1⟩,HB.1⟩
end Go.Proofs.YtenlbhlllgppmaaGreatDoor
namespace Go.Proofs.YtenlbhlllgppmaaGreatDoor
open Tryz
theorem Km {n l:Nat} {c:Int} {L:List Nat} {f:Nat->Nat×Int} {k:Nat}:∀j,(∀i,i<j->Az n l (L.getD i 0)≠k)->Ez n l c L j f k=f k
 | 0,_=>rfl
 | j+1,h=>by
  rw[Ez,Pv,if_neg (λe=>h j (kW _) e.symm)];exact Km j (λi H=>h i (by omega))
theorem Md {n l:Nat} {c:Int} {L:List Nat} {f:Nat->Nat×Int} {k i:Nat} (I:Az n l (L.getD i 0)=k):∀j,i<j->(∀H,H<j->Az n l (L.getD H 0)=k->H=i)->Ez n l c L j f k=(i,c)
 | 0,hi,_=>absurd hi (Nat.not_lt_zero _)
 | j+1,hi,h=>by
  rw[Ez,Pv];by_cases e:k=Az n l (L.getD j 0)
  ·rw[if_pos e,h j (kW _) e.symm]
  ·rw[if_neg e]
   refine Md I j ?_ (λH U O=>h H (by omega) O);have:i≠j:=λJ=>e (by rw[<-J,I])
   omega
theorem Uo {n:Nat} (H:0<n):(pts n (n*n)).Nodup:=by
 rw[B5 H _ (kT _)];exact List.nodup_range.filter _
theorem Bd {L:List Nat} {i:Nat} (H:i<L.length):L.getD i 0∈L:=by
 rw[List.getD_eq_getElem?_getD,List.getElem?_eq_getElem H];exact List.getElem_mem H
theorem O5 {L:List Nat} (h:L.Nodup) {i j:Nat} (H:i<L.length) (I:j<L.length) (e:L.getD i 0=L.getD j 0):i=j:=by
 rw[List.getD_eq_getElem?_getD,List.getElem?_eq_getElem H,List.getD_eq_getElem?_getD,List.getElem?_eq_getElem I]at e;exact(List.getElem_inj h).1 (by simpa using e)
theorem Hf {n i j s t:Nat} (J:0<n) (U:i<(pts n (n*n)).length) (V:j<(pts n (n*n)).length) (h:pun n s=true) (ht:pun n t=true)
  (e:Az n s ((pts n (n*n)).getD i 0)=Az n t ((pts n (n*n)).getD j 0)):i=j/\s % n=t % n:=by
 have O:=Bd U;have mj:=Bd V;have I:=Gn O;obtain⟨r,_,_,ru,re⟩:=Hh (k:=(pts n (n*n)).getD i 0) I h;have Y:Az n (r*t) ((pts n (n*n)).getD j 0)=(pts n (n*n)).getD i 0:=by rw[<-Fz J,<-e,re]
 have Z:=Q9 mj O (Jd ru ht) Y;have H:=O5 (Uo J) U V Z.symm;subst H;exact⟨rfl,Um J (Ig O).1 e⟩
theorem Ib {n:Nat} {D:Int} {j s k:Nat} (V:0<n) (J:j<(pts n (n*n)).length) (h1:1<=s) (Y:s<=n) (I:pun n s=true) (e:Az n s ((pts n (n*n)).getD j 0)=k):∀m,s<=m->m<=n->Bb n D (pts n (n*n)) m k=(j,Pl.kroP D s)
 | 0,h,_=>by omega
 | m+1,h,hm=>by
  rw[Bb];by_cases hs:s=m+1
  ·subst hs
   rw[if_pos I];exact Md e _ J (λi U O=>(Hf V U J I I (O.trans e.symm)).1)
  ·have H:=Ib V J h1 Y I e m (by omega) (by omega) (D:=D)
   split
   ·rename_i hu2
    rw[Km _ (λi U O=>?_)]
    ·exact H
    ·have Z:=(Hf V U J hu2 I (O.trans e.symm)).2
     rcases Nat.lt_or_ge (m+1) n with h3|h3
     ·rw[Nat.mod_eq_of_lt h3,Nat.mod_eq_of_lt (by omega)]at Z
      omega
     ·obtain rfl:m+1=n:=by omega
      rw[Nat.mod_self,Nat.mod_eq_of_lt (by omega)]at Z;omega
   ·exact H
theorem Ui (u v A C:Int) (n:Nat):(u*(A % n)+v*(C % n)) % n=(u*A+v*C) % n:=by
 rw[Int.add_emod,Int.mul_emod u (A % n),Int.mul_emod v (C % n),Int.emod_emod_of_dvd A (Int.dvd_refl _),Int.emod_emod_of_dvd C (Int.dvd_refl _),<-Int.mul_emod,<-Int.mul_emod,<-Int.add_emod]
namespace Pl
open Tryz
def Pb (l:List Int) (v:Int):Nat:=l.foldr (λx n=>2*n+if x=v then 1 else 0) 0
def cU (d pos neg r s:Nat):Bool:=if Nat.testBit neg r==Nat.testBit neg s then Nat.testBit pos (r*s % d)else Nat.testBit neg (r*s % d)
def Rp (d:Nat):List Nat:=(List.range d).filter λr=>Nat.gcd r d==1
def mulCh (D:Int):Bool:=
 let d:=D.natAbs
 let t:=Dw D
 let pos:=Pb t 1
 let neg:=Pb t (-1)
 let us:=Rp d
 us.all λr=>(Nat.testBit pos r != Nat.testBit neg r)&&us.all λs=>cU d pos neg r s
def Cg (i:Nat):Bool:=(List.range 20).all λj=>let D:Int:=((20*i+j:Nat):Int) - 120;!fund D||mulCh D
theorem jV:Cg 0=true:=by decide +kernel
theorem jW:Cg 1=true:=by decide +kernel
theorem jX:Cg 2=true:=by decide +kernel
theorem jY:Cg 3=true:=by decide +kernel
theorem jZ:Cg 4=true:=by decide +kernel
theorem kA:Cg 5=true:=by decide +kernel
theorem kB:Cg 6=true:=by decide +kernel
theorem kC:Cg 7=true:=by decide +kernel
theorem kD:Cg 8=true:=by decide +kernel
theorem kE:Cg 9=true:=by decide +kernel
theorem iG:Cg 10=true:=by decide +kernel
theorem iH:Cg 11=true:=by decide +kernel
theorem iI:Cg 12=true:=by decide +kernel
theorem Q6:∀i,i<13->Cg i=true
 | 0,_=>jV|1,_=>jW|2,_=>jX|3,_=>jY|4,_=>jZ|5,_=>kA|6,_=>kB|7,_=>kC|8,_=>kD|9,_=>kE|10,_=>iG|11,_=>iH|12,_=>iI
 | n+13,h=>absurd h (by omega)
theorem eR {D:Int} (J:-120<=D) (O:D<=120) (I:fund D=true):mulCh D=true:=by
 have h:=Q6 ((D+120).toNat / 20) (by omega);unfold Cg at h;rw[List.all_eq_true]at h;have H:=h ((D+120).toNat % 20) (List.mem_range.2 (Nat.mod_lt _ (by omega)));rw[Nat.div_add_mod]at H;have e:(((D+120).toNat:Nat):Int) - 120=D:=by omega
 simp only[e,I]at H
 simpa using H
theorem Pc (v:Int):∀(l:List Int) (i:Nat),Nat.testBit (Pb l v) i=decide (l[i]?=some v)
 | [],i=>by simp[Pb]
 | x :: l,0=>by
  show Nat.testBit (2*Pb l v+if x=v then 1 else 0) 0=_;rw[Nat.testBit_zero];by_cases h:x=v
  ·simp[h]
  ·simp[h]
 | x :: l,i+1=>by
  show Nat.testBit (2*Pb l v+if x=v then 1 else 0) (i+1)=_;rw[Nat.testBit_succ,show(2*Pb l v+if x=v then 1 else 0) / 2=Pb l v by split <;> omega,Pc v l i];simp
theorem kro_mul {N:Nat} {D:Int} {a b c:Nat} (hN:0<N) (h0:-120<=D) (h1:D<=120) (hf:fund D=true) (hd:(N:Int) % D=0) (ha:0<a) (aT:a<=128) (hb:0<b) (aX:b<=128) (hc:0<c) (bA:c<=128) (ga:Nat.gcd a N=1) (gb:Nat.gcd b N=1) (gc:Nat.gcd c N=1) (h:a*b % N=c % N):
  kroP D c=kroP D a*kroP D b/\(kroP D a=1∨kroP D a=-1):=by
 have I:D.natAbs∣N:=by
  have:D∣(N:Int):=Int.dvd_of_emod_eq_zero hd;exact Int.natAbs_dvd_natAbs.2 this
 have aJ:0<D.natAbs:=Nat.pos_of_dvd_of_pos I hN;have Y:∀{x:Nat},Nat.gcd x N=1->Nat.gcd x D.natAbs=1:=λhx=>Nat.eq_one_of_dvd_one (hx▸Nat.gcd_dvd_gcd_of_dvd_right _ I)
 have U:=eG h0 h1 hf;have H:=eR h0 h1 hf;unfold chk at U;simp only[Bool.and_eq_true,List.all_eq_true]at U
 have V:∀x:Nat,0<x->x<=128->Nat.gcd x N=1->(Dw D)[x % D.natAbs]?=some (kroP D x):=by
  intro x hx cX hg;have O:=U.2 x (List.mem_range.2 (by omega));simp only[Y hg,Bool.or_eq_true,decide_eq_true_eq,bne_self_eq_false,Bool.false_eq_true,or_false,beq_iff_eq]at O;have hl:x % D.natAbs<(Dw D).length:=by unfold Dw;simpa using Nat.mod_lt x aJ
  rcases O with O|O
  ·omega
  ·rw[List.getD_eq_getElem?_getD,List.getElem?_eq_getElem hl]at O
   rw[List.getElem?_eq_getElem hl,O];rfl
 have J:∀x:Nat,Nat.gcd x N=1->x % D.natAbs∈Rp D.natAbs:=λx hg=>by
  unfold Rp;rw[List.mem_filter,List.mem_range];refine⟨Nat.mod_lt _ aJ,?_⟩;rw[beq_iff_eq,<-Nat.gcd_rec,Nat.gcd_comm];exact Y hg
 unfold mulCh at H;simp only[List.all_eq_true,Bool.and_eq_true]at H
 have aU:a % D.natAbs*(b % D.natAbs) % D.natAbs=c % D.natAbs:=by
  rw[<-Nat.mul_mod,<-Nat.mod_mod_of_dvd (a*b) I,h,Nat.mod_mod_of_dvd _ I]
 have Z:=(H _ (J a ga)).2 _ (J b gb);have u1:=(H _ (J a ga)).1;have u2:=(H _ (J b gb)).1;unfold cU at Z;rw[aU]at Z;simp only[Pc,V a ha aT ga,V b hb aX gb,V c hc bA gc,Option.some.injEq]at Z u1 u2
 have s1:kroP D a=1∨kroP D a=-1:=by
  by_cases e:kroP D a=1
  ·exact .inl e
  ·by_cases O:kroP D a=-1
   ·exact .inr O
   ·simp[e,O]at u1
 have s2:kroP D b=1∨kroP D b=-1:=by
  by_cases e:kroP D b=1
  ·exact .inl e
  ·by_cases O:kroP D b=-1
   ·exact .inr O
   ·simp[e,O]at u2
 refine⟨?_,s1⟩;rcases s1 with s1|s1 <;> rcases s2 with s2|s2 <;>(rw[s1,s2]at Z;simp at Z;rw[s1,s2,Z];rfl)
end Pl
end Go.Proofs.YtenlbhlllgppmaaGreatDoor
namespace Go.Proofs.YtenlbhlllgppmaaGreatDoor
open Tryz
open Eli
def Fh (a b:Int) (p:Nat->Rat):Nat->Rat:=λj=>(if 0<j then(a:Rat)*p (j - 1)else 0)+(b:Rat)*p j
theorem Cx (f:Nat->Nat->Rat) (n m:Nat):sumQ (λi=>sumQ (λl=>f i l) m) n=sumQ (λl=>sumQ (λi=>f i l) n) m:=by
 induction n with
 | zero=>exact(A4 (λ_ _=>rfl)).symm
 | succ n ih=>rw[sumQ,ih,<-Ar];exact Ad (λ_ _=>rfl)
theorem Rm (f:Nat->Rat) (n:Nat):sumQ f (n+1)=f 0+sumQ (λi=>f (i+1)) n:=by
 induction n with
 | zero=>show(0:Rat)+f 0=f 0+0;grind
 | succ n ih=>rw[sumQ,ih,sumQ];grind
theorem W4 (a b c d:Int) (p:Nat->Int):lin c d (lin a b p)=lin a b (lin c d p):=by
 funext j;unfold lin;by_cases h:0<j
 ·simp only[if_pos h]
  by_cases h1:0<j - 1
  ·simp only[if_pos h1];grind
  ·simp only[if_neg h1];grind
 ·simp only[if_neg h];grind
theorem Xf (a b c d:Int):∀k i,k<=i->mv (i+1) a b c d k=mv i a b c d k
 | 0,_,_=>rfl
 | k+1,i,h=>by rw[mv,mv,if_pos (by omega),if_pos (by omega),Xf a b c d k i (by omega)]
theorem cV (a b c d:Int):∀k i,i<=k->mv (i+1) a b c d (k+1)=lin a b (mv i a b c d k)
 | k,i,h=>by
  by_cases e:i=k
  ·subst e
   rw[mv,if_pos (by omega),Xf a b c d i i (kT _)]
  ·obtain⟨l,rfl⟩:∃l,k=l+1:=⟨k - 1,by omega⟩
   rw[mv,if_neg (by omega),cV a b c d l i (by omega),mv,if_neg (by omega),W4]
theorem aS {a b c d:Int} {k i:Nat} (h:i<=k):mv i a b c d (k+1)=lin c d (mv i a b c d k):=by
 rw[mv,if_neg (by omega)]
theorem E9 (a b:Int) (p:Nat->Int) (j:Nat):((lin a b p j:Int):Rat)=Fh a b (λi=>(p i:Rat)) j:=by
 unfold lin Fh;split <;> simp <;> grind
theorem O8 (a b:Int) (p:Nat->Rat) (f:Nat->Nat->Int) (n j:Nat):sumQ (λi=>p i*Fh a b (λl=>(f i l:Rat)) j) n=Fh a b (λl=>sumQ (λi=>p i*(f i l:Rat)) n) j:=by
 unfold Fh;by_cases h:0<j
 ·simp only[if_pos h]
  rw[<-Ap,<-Ap,<-Ar];exact Ad (λi _=>by grind)
 ·simp only[if_neg h]
  rw[<-Ap,Rat.zero_add];exact Ad (λi _=>by grind)
theorem Mh (I H a b c d:Int) (p:Nat->Rat) (k j:Nat) (Y:p (k+1)=0):
  subst (Fh I H p) (k+1) a b c d (k+2) j=Fh (I*a+H*c) (I*b+H*d) (subst p k a b c d (k+1)) j:=by
 have J:sumQ (λi=>(if 0<i then(I:Rat)*p (i - 1)else 0)*(mv i a b c d (k+1) j:Int)) (k+2)=(I:Rat)*Fh a b (subst p k a b c d (k+1)) j:=by
  rw[Rm];simp only[Nat.lt_irrefl,if_false];unfold subst;rw[<-O8 a b p (λi=>mv i a b c d k),<-Ap,Rat.zero_mul,Rat.zero_add];refine Ad (λi V=>?_);rw[if_pos (by omega),cV a b c d k i (by omega),E9,Nat.add_sub_cancel];grind
 have O:sumQ (λi=>(H:Rat)*p i*(mv i a b c d (k+1) j:Int)) (k+2)=(H:Rat)*Fh c d (subst p k a b c d (k+1)) j:=by
  rw[sumQ,Y];unfold subst;rw[<-O8 c d p (λi=>mv i a b c d k),<-Ap];rw[show ∀x:Rat,x+(H:Rat)*0*((mv (k+1) a b c d (k+1) j:Int):Rat)=x from λx=>by grind];refine Ad (λi V=>?_);rw[aS (by omega),E9];grind
 have U:subst (Fh I H p) (k+1) a b c d (k+2) j=(I:Rat)*Fh a b (subst p k a b c d (k+1)) j+(H:Rat)*Fh c d (subst p k a b c d (k+1)) j:=by
  rw[<-J,<-O,<-Ar];unfold subst;refine Ad (λi _=>?_);unfold Fh;grind
 rw[U];unfold Fh;split <;> simp <;> grind
theorem Ys (a b c d H I J O:Int) (i j:Nat):∀k,subst (λl=>(mv i a b c d k l:Rat)) k H I J O (k+1) j=(mv i (a*H+b*J) (a*I+b*O) (c*H+d*J) (c*I+d*O) k j:Rat):=by
 intro k;induction k generalizing j with
 | zero=>
  show(0:Rat)+((if(0:Nat)=0 then 1 else 0:Int):Rat)*((if j=0 then 1 else 0:Int):Rat)=((if j=0 then 1 else 0:Int):Rat)
  split <;> simp <;> grind
 | succ k ih=>
  have Z:(λl=>(mv i a b c d k l:Rat)) (k+1)=0:=by
   show((mv i a b c d k (k+1):Int):Rat)=0;rw[I8 i a b c d k (k+1) (by omega)];rfl
  have Y:∀U V,(λl=>((lin U V (mv i a b c d k) l:Int):Rat))=Fh U V (λl=>(mv i a b c d k l:Rat)):=λU V=>funext (λl=>E9 U V _ l)
  by_cases h:k<i
  ·simp only[mv,if_pos h]
   rw[Y,Mh a b H I J O _ k j Z,E9];unfold Fh;simp only[ih]
  ·simp only[mv,if_neg h]
   rw[Y,Mh c d H I J O _ k j Z,E9];unfold Fh;simp only[ih]
theorem Pr (q:Nat->Rat) (a b c d H I J O:Int) (m j:Nat):
  subst (subst q m a b c d (m+1)) m H I J O (m+1) j=subst q m (a*H+b*J) (a*I+b*O) (c*H+d*J) (c*I+d*O) (m+1) j:=by
 have U:subst (subst q m a b c d (m+1)) m H I J O (m+1) j=sumQ (λl=>sumQ (λi=>q i*(mv i a b c d m l:Int)*(mv l H I J O m j:Int)) (m+1)) (m+1):=by
  unfold subst;refine Ad (λl _=>?_);rw[Rat.mul_comm,<-Ap];exact Ad (λi _=>by grind)
 rw[U,<-Cx];unfold subst;refine Ad (λi _=>?_);rw[<-Ys a b c d H I J O i j m];unfold subst;rw[<-Ap];exact Ad (λl _=>by grind)
theorem Nj {k x y:Int} (I:k≠0) (h:Int.gcd x y=1):low (k*x) (k*y)=if y<0∨(y=0/\x<0)then(-x,-y)else(x,y):=by
 have hg:Int.gcd (k*x) (k*y)=k.natAbs:=by rw[Int.gcd_mul_left,h,Nat.mul_one]
 have V:¬(x=0/\y=0):=by
  rintro⟨rfl,rfl⟩;simp at h
 unfold low;rw[hg];by_cases hp:0<k
 ·have e:((k.natAbs:Nat):Int)=k:=by omega
  rw[e,Int.mul_tdiv_cancel_left x I,Int.mul_tdiv_cancel_left y I];have O:k*y<0↔y<0:=⟨λh=>by rcases Int.lt_or_le y 0 with H|H;exact H;exact absurd (Int.mul_nonneg (Int.le_of_lt hp) H) (by omega),λh=>Int.mul_neg_of_pos_of_neg hp h⟩
  have H:k*x<0↔x<0:=⟨λh=>by rcases Int.lt_or_le x 0 with H|H;exact H;exact absurd (Int.mul_nonneg (Int.le_of_lt hp) H) (by omega),λh=>Int.mul_neg_of_pos_of_neg hp h⟩
  have U:k*y=0↔y=0:=⟨λh=>(Int.mul_eq_zero.1 h).resolve_left I,λh=>by rw[h,Int.mul_zero]⟩
  simp only[O,H,U]
 ·have e:((k.natAbs:Nat):Int)=-k:=by omega
  have Y:(k*x).tdiv (-k)=-x:=by rw[Int.tdiv_neg,Int.mul_tdiv_cancel_left x I]
  have Z:(k*y).tdiv (-k)=-y:=by rw[Int.tdiv_neg,Int.mul_tdiv_cancel_left y I]
  rw[e,Y,Z];have J:k<0:=by omega
  have O:k*y<0↔0<y:=⟨λh=>by rcases Int.lt_or_le 0 y with H|H;exact H;exact absurd (Int.mul_nonneg_of_nonpos_of_nonpos (Int.le_of_lt J) H) (by omega),λh=>Int.mul_neg_of_neg_of_pos J h⟩
  have H:k*x<0↔0<x:=⟨λh=>by rcases Int.lt_or_le 0 x with H|H;exact H;exact absurd (Int.mul_nonneg_of_nonpos_of_nonpos (Int.le_of_lt J) H) (by omega),λh=>Int.mul_neg_of_neg_of_pos J h⟩
  have U:k*y=0↔y=0:=⟨λh=>(Int.mul_eq_zero.1 h).resolve_left I,λh=>by rw[h,Int.mul_zero]⟩
  simp only[O,H,U,Int.neg_neg];split <;> split <;> first|rfl |(exfalso;omega)
theorem Ec {p q:Int} (h:Int.gcd p q≠0):∃k x y:Int,k≠0/\Int.gcd x y=1/\p=k*x/\q=k*y/\low p q=(x,y)/\(0<=y/\(y=0->x=1))/\(x.natAbs<=p.natAbs/\y.natAbs<=q.natAbs):=by
 obtain⟨x,J⟩:((Int.gcd p q:Nat):Int)∣p:=Int.gcd_dvd_left ..;obtain⟨y,O⟩:((Int.gcd p q:Nat):Int)∣q:=Int.gcd_dvd_right ..;obtain⟨g,hg⟩:∃g,Int.gcd p q=g:=⟨_,rfl⟩
 rw[hg]at J O h;have V:(g:Int)≠0:=by omega
 have I:Int.gcd x y=1:=by
  have h2:Int.gcd p q=g*Int.gcd x y:=by rw[J,O,Int.gcd_mul_left];simp
  rw[hg]at h2;exact Nat.eq_of_mul_eq_mul_left (Nat.pos_of_ne_zero h) (by omega)
 have U:=Nj V I;rw[<-J,<-O]at U
 have aJ:¬(x=0/\y=0):=by
  rintro⟨rfl,rfl⟩;simp at I
 have Y:x.natAbs<=p.natAbs:=by rw[J,Int.natAbs_mul];exact Nat.le_mul_of_pos_left _ (by omega)
 have Z:y.natAbs<=q.natAbs:=by rw[O,Int.natAbs_mul];exact Nat.le_mul_of_pos_left _ (by omega)
 have H:y=0->x.natAbs=1:=λh=>by rw[h]at I;simpa using I
 by_cases hs:y<0∨(y=0/\x<0)
 ·rw[if_pos hs]at U
  refine⟨-g,-x,-y,by omega,by rw[Int.gcd_neg,Int.neg_gcd];exact I,by rw[J];grind,by rw[O];grind,U,⟨by omega,λh=>?_⟩,by omega,by omega⟩;have:=H (by omega);omega
 ·rw[if_neg hs]at U
  refine⟨g,x,y,V,I,J,O,U,⟨by omega,λh=>?_⟩,Y,Z⟩;have:=H h;omega
theorem Ue {a b c d p q H I J O:Int} (h:Int.gcd (a*p+b*q) (c*p+d*q)≠0) (U:Int.gcd (H*(low (a*p+b*q) (c*p+d*q)).1+I*(low (a*p+b*q) (c*p+d*q)).2) (J*(low (a*p+b*q) (c*p+d*q)).1+O*(low (a*p+b*q) (c*p+d*q)).2)≠0):
  low (H*(low (a*p+b*q) (c*p+d*q)).1+I*(low (a*p+b*q) (c*p+d*q)).2) (J*(low (a*p+b*q) (c*p+d*q)).1+O*(low (a*p+b*q) (c*p+d*q)).2)=low ((H*a+I*c)*p+(H*b+I*d)*q) ((J*a+O*c)*p+(J*b+O*d)*q):=by
 obtain⟨k,x,y,hk,h1,V,Y,e3,-⟩:=Ec h;rw[e3]at U ⊢;dsimp only at U ⊢;obtain⟨l,u,v,hl,g1,Z,f2,f3,-⟩:=Ec U
 have m1:(H*a+I*c)*p+(H*b+I*d)*q=k*l*u:=by
  have:(H*a+I*c)*p+(H*b+I*d)*q=H*(a*p+b*q)+I*(c*p+d*q):=by grind
  rw[this,V,Y,Int.mul_assoc,<-Z];grind
 have m2:(J*a+O*c)*p+(J*b+O*d)*q=k*l*v:=by
  have:(J*a+O*c)*p+(J*b+O*d)*q=J*(a*p+b*q)+O*(c*p+d*q):=by grind
  rw[this,V,Y,Int.mul_assoc,<-f2];grind
 rw[m1,m2,Nj (Int.mul_ne_zero hk hl) g1,Z,f2,Nj hl g1]
end Go.Proofs.YtenlbhlllgppmaaGreatDoor
