/- matrix.load, store and FromRows where a matrix may have no entries. -/
import Derived.Test.YtenlbhlllgppmaaGreatDoorA26
set_option linter.unusedSimpArgs false
set_option maxRecDepth 100000
set_option maxHeartbeats 8000000
namespace Go.Proofs.YtenlbhlllgppmaaGreatDoor
open Tryz
open Go.RowKit Eli
theorem Pz {P:Program} {W:World} {Y:Array Oper} {rest:List Oper} {o:Oper} {a:Act} {Q:Exit->Act->World->Prop} (K:Value->Prop) (aX:o.guard=none) (s x:Operand) (t E:TypeId)
  (ho:o.op=.call { callee:=.builtin .append,args:=#[s,x],argTypes:=#[t,t] }) {z:Value} {U J:Nat} (hU:P.underlying t=some (.slice E))
  (O:(P.info? E).map (λi=>(i.zero,i.size,i.bytes))=some (some z,U,J)) (bB:z.cells.size=U) (bA:0<U) (B n m g c:Nat) (v:Value) (xs I:List Value)
  (hs:a.eval s=v) (V:OwnK K W B E U v n xs) (hx:a.eval x=.slice (some ⟨g,0,none⟩) m c) (hn:I.length=m*U) (M:∀(j:Nat) (u:Value),I[j]?=some u->W.cell? ⟨g,j,none⟩=some u) (h1:∀u∈I,u.oneCell'=true)
  (hb:(n+m)*J<=140737488355328) (hm:n+m<=9223372036854775807) (hB:B<=W.heap.size) (aK:∀u∈I,K u) (aN:∀u∈z.cells.toList,K u)
  (h:∀Z w',OwnK K w' B E U Z (n+m) (xs++I)->W.grownBy w' v.ownBlock->wpList P Y Q rest (a.put o.dst Z) w'):
  wpList P Y Q (o :: rest) a W:=by
 obtain⟨Z,w',hr,g1,g2⟩:=Yg (P:=P) K W t o.type E hU O bB bA B n m g c v xs I V hn M h1 hb hm hB aK aN;refine wpList_plain aX λK' aD=>?_
 unfold Oper.wp execOp;simp only[ho,resolve,invoke,builtin,Sem.run_bind,Sem.run_pure,Result.andThen_ok,List.map_toArray,List.map_cons,List.map_nil,hs,hx,hr];exact aD _ _ (h Z w' g1 g2)
def cM (F:Nat->Nat->Rat) (k C:Nat) (w:World) (v:Value):Prop:=∃p c,v=.slice p k c/\(0<k->∃G,p=some ⟨G,0,none⟩/\G<w.heap.size/\∀i,i<k->∃g,w.cell? ⟨G,i,none⟩=some (.slice (some ⟨g,0,none⟩) C C)/\(0<C->QRow (λq=>IsQ (F i q)) w g C C))
def RowsX (F:Nat->Nat->Rat) (k C:Nat) (w:World) (B:Nat) (v:Value):Prop:=
 ∃gs:Nat->Nat,OwnK SliceV w B 30 1 v k ((List.range k).map λi=>Value.slice (some ⟨gs i,0,none⟩) C C)/\(0<C->∀i,i<k->QRow (λq=>IsQ (F i q)) w (gs i) C C)
theorem RowsX.keep {F:Nat->Nat->Rat} {k C:Nat} {w w':World} {B:Nat} {v:Value} (h:RowsX F k C w B v) (I:Below w.heap.size w w'):RowsX F k C w' B v:=by
 obtain⟨gs,J,M⟩:=h;exact⟨gs,J.keep I,λO i U=>(M O i U).keep (λ_=>IsQ.solid _) I⟩
theorem RowsX.push {F:Nat->Nat->Rat} {k C:Nat} {W w':World} {B:Nat} {v O:Value} {gs:Nat->Nat} {g:Nat} (Y:OwnK SliceV W B 30 1 v k ((List.range k).map λi=>Value.slice (some ⟨gs i,0,none⟩) C C))
  (Z:0<C->∀i,i<k->QRow (λq=>IsQ (F i q)) W (gs i) C C) (hr:QRow (λq=>IsQ (F k q)) W g C C) (J:OwnK SliceV w' B 30 1 O (k+1) (((List.range k).map λi=>Value.slice (some ⟨gs i,0,none⟩) C C)++[.slice (some ⟨g,0,none⟩) C C])) (hg:W.grownBy w' v.ownBlock):RowsX F (k+1) C w' B O:=by
 rcases Nat.eq_zero_or_pos C with rfl|M
 ·refine⟨λi=>if i<k then gs i else g,?_,λh=>absurd h (Nat.lt_irrefl _)⟩
  have e:((List.range (k+1)).map λi=>Value.slice (some ⟨if i<k then gs i else g,0,none⟩) 0 0)=((List.range k).map λi=>Value.slice (some ⟨gs i,0,none⟩) 0 0)++[.slice (some ⟨g,0,none⟩) 0 0]:=by
   rw[List.range_succ,List.map_append,List.map_singleton,if_neg (Nat.lt_irrefl k)];congr 1;exact List.map_congr_left (λi hi=>by rw[if_pos (List.mem_range.1 hi)])
  rw[e];exact J
 ·obtain⟨I,U,V⟩:=RowsOwn.push (F:=F) M Y (Z M) hr J hg
  exact⟨I,U,λ_=>V⟩
theorem RowsX.read {F:Nat->Nat->Rat} {k C:Nat} {w:World} {B:Nat} {v:Value} (h:RowsX F k C w B v):cM F k C w v:=by
 obtain⟨gs,J,U⟩:=h;have V:=J.1;rcases J.1.2 with⟨I,O⟩ |⟨G,cap,cs,I,hB,hg,hn,Z,aD,_⟩
 ·exact⟨none,0,by rw[I,O],λh=>by omega⟩
 ·subst I
  exact⟨_,_,rfl,λ_=>⟨G,rfl,(Array.getElem?_eq_some_iff.1 hg).1,λi M=>⟨gs i,Aq V (by rw[List.getElem?_map,List.getElem?_range M];rfl),λY=>U Y i M⟩⟩⟩
theorem Gx (R C RC gA oA cA:Nat) (pA:Option Addr) (X:Nat->Rat) (F:Nat->Nat->Rat) (w:World) (mL:0<RC->pA=some ⟨gA,oA,none⟩/\gA<w.heap.size) (hX:∀j,j<RC->QE (IsQ (X j)) w gA (oA+j*4)) (hI:R*C=RC) (hR:R<=1024) (hC:C<=1024) (hs:∀j,j<RC->hq (X j)<=1000000000)
  (hF:∀i q,q<C->F i q=X (i*C+q)):
  Calls prog 71 #[.agg #[.int .i64 R,.int .i64 C,.slice pA RC cA]] w λe w'=>(∃G gs,e=.returned (.slice (some ⟨G,0,none⟩) R R)/\GM F R C w' G gs w.heap.size)/\Below w.heap.size w w':=by
 have mW:=Kh mL;have HX:=Kh hX;have HS:=Kh hs;have HF:=Kh hF;have nF:=Kh hI;have pN:RC<=1048576:=by rw[<-hI];exact Nat.mul_le_mul hR hC
 clear mL hX hs hF hI;go_enter func71,ntmps71
 have mN:=eO R (by omega);have oQ:=Ir C (by omega);go_wp2_with fail
 obtain⟨wb,hO,X0,iL⟩:=bx1 w #[.int .i64 R,.int .i64 C,.slice pA RC cA] 32;rw[hO];obtain⟨aK,J⟩:=GM.made F C wb R (λ_=>0);obtain⟨wG,hN⟩:∃wG,wb.alloc (.cells (madeCells #[.slice none 0 0] R) 30)=wG:=⟨_,rfl⟩
 have hJ:Below wb.heap.size wb wG:=hN▸(Below.refl _ _).alloc (mG _) _;rw[hN]at aK J ⊢;have mP:wb.heap.size=w.heap.size+1:=by rw[<-hO];simp
 obtain⟨G,hD⟩:∃G,w.heap.size+1=G:=⟨_,rfl⟩
 have hG:wb.heap.size=G:=mP.trans hD;obtain⟨gb,hL⟩:∃gb,w.heap.size=gb:=⟨_,rfl⟩
 have Z:=Kh hG;have mX:=Kh hL;rw[hG]at aK J hJ;rw[hD];rw[hL]at X0 ⊢;have bG:=Kh X0;have bE:=Kh iL;have hT:=Kh aK;have hU:=Kh J;have hQ:=Kh hJ;clear hO X0 iL aK J hN hJ hG hD mP hL mN;go_loopw [11] (λii wr=>∃(k:Nat) (gs:Nat->Nat),k<=R/\ii=.int .i64 k/\GM F k C wr G gs G/\(∀i,i<R->(wr.cell? ⟨G,i,none⟩).isSome=true)/\Below G wb wr) (λii _=>R - (intOf ii).toNat)
 case atStart=>exact⟨0,_,Nat.zero_le _,rfl,hT.1,hU.1,hQ.1⟩
 case round=>
  obtain⟨k,gs,hk,rfl,aK,J,mC⟩:=hrel;obtain⟨wk,rfl⟩:∃wk:World,wk=wr:=⟨_,rfl⟩
  have I:=Kh aK;have cF:=Kh J;have dY:=Kh mC;clear aK J mC hT hU hQ;by_cases hlt:k<R
  ·have pK:(k:Int)<(R:Int):=by omega
   have mB:Below wb.heap.size wb wk:=Z.1▸dY.1;have x1:=(bk bG mB).at_ 1 rfl;obtain⟨uk,gF⟩:=mK (cF.1 k hlt);have mE:=I.1.free k;have cV:Below wk.heap.size wk (wk.alloc (.cells (madeCells #[.bool false,.slice none 0 0,.bool false,.slice none 0 0] (C*4)) 86)):=(Below.refl _ _).alloc (mG _) _;have nQ:=cell_next cV gF;have nR:=Ac cV (by rw[gF];rfl) mE;clear mB;go_upto_region 6 with(fail)
   clear nQ nR cV;obtain⟨wn,cY⟩:∃wn,wk.alloc (.cells (madeCells #[.bool false,.slice none 0 0,.bool false,.slice none 0 0] (C*4)) 86)=wn:=⟨_,rfl⟩
   have bY:Below wk.heap.size wk wn:=cY▸(Below.refl _ _).alloc (mG _) _;have O:QRow (λq=>IsQ (F k q)) wn wk.heap.size C 0:=cY▸QRow.made _ wk C;have mQ:wn.heap.size=wk.heap.size+1:=by rw[<-cY];simp
   try rw[cY]
   obtain⟨g,hg⟩:∃g,wk.heap.size=g:=⟨_,rfl⟩
   have nP:G<g:=hg▸I.1.stk.1;have mO:=I.1.stk.next bY
   have mR:wn.cell? ⟨G,k,none⟩=some uk:=cell_next bY gF;obtain⟨ws,V⟩:∃ws,wn.setCell ⟨G,k,none⟩ (.slice (some ⟨g,0,none⟩) C C)=ws:=⟨_,rfl⟩
   have bH:I32 wn ws:=V▸I32.putU (mO.imp λ_=>SliceV.notU32) k _;have aN:wn.grownBy ws (some G):=V▸Ai wn G k _;have mD:ws.cell? ⟨G,k,none⟩=some (.slice (some ⟨g,0,none⟩) C C):=by rw[<-V];exact World.cell?_setCell_same' _ _ _ (by rw[mR];rfl)
   rw[hg]at O ⊢;rw[V];have gL:=Kh (show ∀i,i<k->gs i<g from λi hi=>hg▸(I.1.row i hi).sts.1)
   have mY:=Kh (show GM F k C ws G gs G from by
    have h:=I.1.keep bY;refine⟨V▸Bc h.stk _ _ ⟨_,_,_,rfl⟩,λi=>V▸At (h.free i),h.hB,λi hi=>?_,λi hi=>(h.row i hi).i32 (λ_=>IsQ.solid _) bH aN (h.ne i hi),h.ge,h.ne,h.inj⟩;rw[<-V,World.cell?_setCell_other _ _ _ _ (by simp <;> omega)];exact h.at_ i hi)
   have hW:=Kh (O.i32 (λ_=>IsQ.solid _) bH aN (by omega))
   have mZ:=Kh (show ∀i,i<R->(ws.cell? ⟨G,i,none⟩).isSome=true from λi hi=>by
    rw[<-V];obtain⟨u,hu⟩:=mK (cF.1 i hi);exact Ah (by rw[cell_next bY hu];rfl))
   have gS:=Kh (show Below G wb ws from An (dY.1.trans (bY.mono (by omega))) aN (by omega) (mG _));have eP:=Kh mD;have aD:=Kh nP;clear cY bY O mQ hg mO mR bH aN V gF mE x1 I cF dY;go_wp2_with fail
   have oF:=Kh (show ws.cell? ⟨G,k,none⟩=some (.slice (some ⟨g,0,none⟩) C C)from eP.1);have cD:=Kh (show Below wb.heap.size wb ws from by rw[Z.1];exact gS.1);have hS:=Kh (bE.1.trans (cD.1.mono bE.1.size));try clear mD
   go_loopw [25] (λjj wr=>∃j:Nat,j<=C/\jj=.int .i64 j/\QRow (λq=>IsQ (F k q)) wr g C j/\ws.grownBy wr (some g)/\I32 ws wr) (λjj _=>C - (intOf jj).toNat)
   case atStart=>exact⟨0,Nat.zero_le _,rfl,hW.1,Af g (Below.refl _ _),I32.refl _⟩
   case round=>
    obtain⟨j,hj,rfl,O,aN,bH⟩:=hrel;obtain⟨we,rfl⟩:∃we:World,we=wr:=⟨_,rfl⟩
    have cG:=Kh O;have M:=Kh aN;have gP:=Kh bH;have bA:=Kh (show(some G:Option Nat)≠some g from λe=>by injection e with e;have:=aD.1;omega);clear O aN bH hW;by_cases hlt:j<C
    ·have pJ:(j:Int)<(C:Int):=by omega
     obtain⟨KC,hE⟩:∃n,k*C=n:=⟨_,rfl⟩
     have pM:KC+C<=RC:=by
      have h1:=Nat.mul_le_mul_right C (show k+1<=R by omega);have h2:=nF.1;rw[Nat.succ_mul]at h1;omega
     have e1:(k:Int)*(C:Int)=(KC:Nat):=by rw[<-hE];push_cast;rfl
     obtain⟨KJ,hZ⟩:∃n,KC+j=n:=⟨_,rfl⟩
     have pO:IntKind.i64.wrap (KC:Int)=(KC:Nat):=IntWalk.i64_in _ (by omega);have pP:IntKind.i64.wrap ((KC:Int)+(j:Int))=(KJ:Nat):=by rw[show(KC:Int)+(j:Int)=(KJ:Nat)by omega];exact IntWalk.i64_in _ (by omega)
     obtain⟨nS,mM⟩:=mW.1 (by omega);subst nS;have mU:=Kh (show F k j=X KJ by rw[HF.1 k j hlt,hE,hZ]);have gN:gA≠g:=by have:=mM;have:=aD.1;have:=bE.1.size;have:=Z.1;omega
     obtain⟨s',p',i1,c',t',q',m',d',a0,a1,a2,a3,hx⟩:=(((HX.1 KJ (by omega)).keep (IsQ.solid _) hS.1).butR gP.1 M.1 gN)
     have HP:=Kh (show Qs we s' p' i1 c' t' q' m' d' (X KJ)from hx);have c0:=M.1.cell eP.1 bA.1;have cX:(some gb:Option Nat)≠some g:=λe=>by injection e with e;have h1:=bG.1.lt;have h2:=aD.1;have h3:=Z.1;omega
     have x1:=M.1.cell ((bG.1.below_ cD.1 bG.1.lt).at_ 1 rfl) cX;have x2:=M.1.cell ((bG.1.below_ cD.1 bG.1.lt).at_ 2 rfl) cX;have U:=cG.1;obtain⟨u0,e0⟩:=mK (U.has (j*4) (by omega));obtain⟨u1,gX⟩:=mK (U.has (j*4+1) (by omega));obtain⟨u2,gY⟩:=mK (U.has (j*4+2) (by omega));obtain⟨u3,e3⟩:=mK (U.has (j*4+3) (by omega));have nE:=Kh (λw1 (Y:Below we.heap.size we w1)=>Jz s' p' i1 c' t' q' m' d' (X KJ) w1 (HP.1.keep Y) (HS.1 _ (by omega)));have pL:KJ<RC:=by omega
     have oP:(KJ:Int)<(RC:Int):=by omega
     have oO:(k:Int)<(R:Int):=by omega
     clear hx hE gN cX hZ;go_upto_region 9 with(fail)
     refine K6 (λW=>W.cell? ⟨G,k,none⟩=some (.slice (some ⟨g,0,none⟩) C C)/\W.cell? ⟨gb,2,none⟩=some (.slice (some ⟨gA,oA,none⟩) RC cA)/\W.cell? ⟨gb,1,none⟩=some (.int .i64 (C:Int))/\W.cell? ⟨gA,oA+KJ*4,none⟩=some (.bool s')/\W.cell? ⟨gA,oA+KJ*4+1,none⟩=some (.slice p' i1 c')/\W.cell? ⟨gA,oA+KJ*4+2,none⟩=some (.bool t')/\W.cell? ⟨gA,oA+KJ*4+3,none⟩=some (.slice q' m' d')/\W.cell? ⟨g,j*4,none⟩=some (u0)/\W.frozen? ⟨g,j*4,none⟩=false/\W.cell? ⟨g,j*4+1,none⟩=some (u1)/\W.frozen? ⟨g,j*4+1,none⟩=false/\W.cell? ⟨g,j*4+2,none⟩=some (u2)/\W.frozen? ⟨g,j*4+2,none⟩=false/\W.cell? ⟨g,j*4+3,none⟩=some (u3)/\W.frozen? ⟨g,j*4+3,none⟩=false) (λW Y=>⟨Au Y c0,Au Y x2,Au Y x1,Au Y a0,Au Y a1,Au Y a2,Au Y a3,Au Y e0,Ac Y (by rw[e0];rfl) (U.free _ (by omega)),Au Y gX,Ac Y (by rw[gX];rfl) (U.free _ (by omega)),Au Y gY,Ac Y (by rw[gY];rfl) (U.free _ (by omega)),Au Y e3,Ac Y (by rw[e3];rfl) (U.free _ (by omega))⟩) (λnG hHeld0=>?_);clear c0 x1 x2 a0 a1 a2 a3 e0 gX gY e3 U;refine Al 0 ?_;refine Al 1 ?_;refine Al 2 ?_;refine Al 3 ?_;refine Al 4 ?_;refine Al 5 ?_;refine Al 6 ?_;refine Al 7 ?_;refine Al 8 ?_;refine Al 9 ?_;refine Al 10 ?_;refine Al 11 ?_;refine Al 12 ?_;refine Al 13 ?_;refine Al 14 ?_;refine F9 15 rfl (λK hK=>?_);focus(go_simp;refine(nE.1 _ (Below.refl _ we).drew).mono ?_;rintro e w4 ⟨⟨s6,p6,n6,c6,t6,q6,m6,d6,rfl,mS⟩,mA⟩;have dX:=Kh ((Below.refl _ we).drew.trans mA:Below we.heap.size we w4);have hM:=QRow.keep (λq=>(IsQ.solid _:Bh (IsQ (F k q)))) cG.1 dX.1;have hV:=Kh (QRow.set (k':=j+1) (λ_=>IsQ.solid _) hM j hlt (λq=>IsQ (F k q)) (IsQ.solid _) (λi h1 h2=>⟨by omega,rfl⟩) (show IsQ (F k j) w4 s6 p6 n6 c6 t6 q6 m6 d6 by rw[mU.1];exact mS));have mV:=Kh (show ∀v0 v1 v2 v3,ws.grownBy ((((w4.setCell ⟨g,j*4,none⟩ v0).setCell ⟨g,j*4+1,none⟩ v1).setCell ⟨g,j*4+2,none⟩ v2).setCell ⟨g,j*4+3,none⟩ v3) (some g)from λ_ _ _ _=>Fm M.1 dX.1);have H4:=Kh ((gP.1.trans (I32.below dX.1)).trans (I32.put4 hM.sts (j*4) (j*4+1) (j*4+2) (j*4+3) (.bool s6) (.slice p6 n6 c6) (.bool t6) (.slice q6 m6 d6) (NotInt.bool _) (NotInt.slice _ _ _) (NotInt.bool _)));clear mS mA hM;(first|with_reducible refine hK.out _ _ ?_ (λhHeld1=>?_) |(go_wp2_with fail;with_reducible refine hK.out _ _ ?_ (λhHeld1=>?_))))
     focus((try dsimp only);exact nG.1 _ dX.1)
     focus(clear hK K;(try simp only[Act.put,Br,Bt,Bs]))
     refine Al 16 ?_;refine K5 17 rfl (λK hK=>?_);go_simp
     refine hK.out _ _ ?_;clear hK K
     (try simp only[Act.put,Br,Bt,Bs])
     all_goals go_wp2
     all_goals go_roundw
     all_goals first
      | exact⟨j+1,by omega,by go_num,hV.1,mV.1 _ _ _ _,H4.1⟩
      |(simp[intOf];omega)
    ·obtain rfl:j=C:=by omega
     have nA:=Kh (mY.1.but gP.1 M.1 (by have:=aD.1;omega) (λi hi=>by have:=gL.1 i hi;omega));have nB:=Kh (nA.1.more (g:=g) (by rw[M.1.cell eP.1 bA.1];rfl) cG.1 (Nat.le_of_lt aD.1) (by have:=aD.1;omega) (λi hi=>by have:=gL.1 i hi;omega) (M.1.cell eP.1 bA.1))
     have nC:=Kh (show ∀i,i<R->(we.cell? ⟨G,i,none⟩).isSome=true from λi hi=>by
      obtain⟨u,hu⟩:=mK (mZ.1 i hi);rw[M.1.cell hu bA.1];rfl)
     have nD:=Kh (show Below G wb we from An gS.1 M.1 (by have:=gS.1.size;have:=Z.1;omega) (Nat.le_of_lt aD.1));go_wp2;go_roundw
     case rel=>exact⟨k+1,_,by omega,by go_num,nB.1,nC.1,nD.1⟩
     case measure=>simp[intOf];omega
  ·obtain rfl:k=R:=by omega
   go_wp2;go_ret
   exact⟨⟨G,gs,rfl,I.1.base (by have:=bE.1.size;have:=Z.1;have:=mX.1;omega)⟩,by
    have h:Below wb.heap.size wb wk:=Z.1▸dY.1;exact bE.1.trans (h.mono bE.1.size)⟩
theorem Ls (F:Nat->Nat->Rat) (m C t G cap:Nat) (gs:Nat->Nat) (B0:Nat) (w:World) (h:GM F m C w G gs B0) (ht:t<=m) (hm:m<=1024) (hC:C<=1024):
  Calls prog 55 #[.int .i64 C,.slice (some ⟨G,0,none⟩) t cap] w λe w'=>(∃v,e=.returned (.agg #[.int .i64 t,.int .i64 C,v])/\OwnQ (λp=>IsQ (F (p / C) (p % C))) w' w.heap.size v (t*C))/\Below w.heap.size w w':=by
 have HG:=Kh h;clear h;go_enter func55,ntmps55
 go_wp2_with fail
 obtain⟨w0,dY,X0,cX⟩:=bx1 w #[.int .i64 0,.int .i64 0,.slice none 0 0] 32;rw[dY];obtain⟨wx,cA⟩:∃wx,w0.alloc (.cells #[.int .i64 t,.int .i64 C,.slice none 0 0] 32)=wx:=⟨_,rfl⟩
 have dC:Below w0.heap.size w0 wx:=cA▸(Below.refl _ _).alloc (mG _) _;have Y:Blk wx w0.heap.size 32 #[.int .i64 t,.int .i64 C,.slice none 0 0]:=cA▸Blk.new w0 32 #[.int .i64 t,.int .i64 C,.slice none 0 0];rw[cA];have gU:w0.heap.size=w.heap.size+1:=by rw[<-dY];simp
 obtain⟨ob,aX⟩:∃x,w.heap.size+1=x:=⟨_,rfl⟩
 have dX:w0.heap.size=ob:=gU.trans aX;obtain⟨M,bY⟩:∃x,w.heap.size=x:=⟨_,rfl⟩
 rw[dX]at Y;rw[aX];rw[bY]at X0 ⊢;have J:=Kh (show M<ob by rw[<-dX];exact X0.lt);have aN:=Kh bY;have hG:=Kh (show Below M w wx from bY▸cX.trans (dC.mono cX.size));have Z:=Kh (show Blk wx M 32 #[.int .i64 0,.int .i64 0,.slice none 0 0]from X0.below_ dC X0.lt);obtain⟨BB,bG⟩:∃x,wx.heap.size=x:=⟨_,rfl⟩
 have cD:=Kh bG;obtain⟨V,hV⟩:∃V:Nat->FP,(λp=>IsQ (F (p / C) (p % C)))=V:=⟨_,rfl⟩
 have cT:=Kh (show ∀j,Bh (V j)from λj=>by rw[<-hV];exact IsQ.solid _)
 have hQ:=Kh (show ∀k i,i<C->V (k*C+i)=IsQ (F k i)from λk i hi=>by
  rw[<-hV];dsimp only;rw[show(k*C+i) / C=k by rw[Nat.mul_comm,Nat.mul_add_div (by omega),Nat.div_eq_of_lt hi,Nat.add_zero],show(k*C+i) % C=i by rw[Nat.mul_comm,Nat.mul_add_mod,Nat.mod_eq_of_lt hi]])
 have hP:=Kh hV
 have gA:=Kh (show MatAt V wx ob BB t C (0*C)from
  ⟨by rw[<-bG];exact Y.lt,Nat.le_of_eq bG.symm,Y.at_ 0 rfl,Y.at_ 1 rfl,⟨none,0,by rw[Nat.zero_mul];exact Y.at_ 2 rfl,by rw[Nat.zero_mul];exact OwnQ.nil _ _ _⟩,Y.free_ 2,Stk.of Y (by intro v hv;simp at hv;rcases hv with rfl|rfl|rfl <;> exact λ_ h=>by cases h)⟩)
 clear cA dC Y dX aX gU bY bG hV dY X0 cX;go_loopw [14] (λii wr=>∃k:Nat,k<=t/\ii=.int .i64 k/\MatAt V wr ob BB t C (k*C)/\wx.grownBy wr (some ob)) (λii _=>t - (intOf ii).toNat)
 case atStart=>exact⟨0,Nat.zero_le _,rfl,gA.1,Af ob (Below.refl _ _)⟩
 case round=>
  obtain⟨k,hk,rfl,cC,gP⟩:=hrel;obtain⟨we,rfl⟩:∃we:World,we=wr:=⟨_,rfl⟩
  have I:=Kh cC;have U:=Kh gP;clear cC gP gA;have cF:=Kh (show Below M w we from An hG.1 U.1 (by have:=cD.1;have:=I.1.lt;have:=J.1;omega) (Nat.le_of_lt J.1));by_cases hlt:k<t
  ·have mP:(k:Int)<(t:Int):=by omega
   have cY:=cF.1;rw[<-aN.1]at cY;have dE:=HG.1.keep cY;have r4:=dE.at_ k (by omega);have bE:=Kh (dE.row k (by omega));obtain⟨p,c,g2,xs,hK,cV⟩:=I.1.c2;obtain⟨n,hn⟩:∃x,k*C=x:=⟨_,rfl⟩
   have mQ:n<=1024*1024:=by rw[<-hn];exact Nat.mul_le_mul (by omega:k<=1024) hC
   rw[hn]at g2 hK cV I;have hM:=Kh (show n+C=(k+1)*C by rw[<-hn,Nat.add_mul,Nat.one_mul]);have eV:=Kh (show ∀j,j<C->V (n+j)=IsQ (F k j)from λj hj=>by rw[<-hn];exact hQ.1 k j hj);have HK:=Kh hK;have hR:=Kh cV;have hI:=Kh g2;have hX:ob<we.heap.size:=mI I.1.lt I.1.hB;clear cY dE hK cV hn;go_wp2_with (at_builtin;refine Pz NotInt rfl (.tmp 19) (.tmp 20) _ 86 rfl underlying30 F1 rfl (by decide) BB n C (gs k) C (.slice p n c) xs (Ax we (gs k) (C*4)) rfl HK.1 rfl (Ce _ _ _) bE.1.cells bE.1.one (by omega) (by omega) I.1.hB bE.1.ni iK ?_;intro v9 w9 aD aK;obtain⟨p9,c9,rfl⟩:=Bf aD.1;obtain⟨d2,df,gL⟩:=I.1.more cT.1 hI.1 HK.1.1 (OwnQ.more cT.1 HK.1 hR.1 bE.1 aD aK eV.1) aK;have hN:=Kh gL;have hJ:=Kh ((Hz U.1 aK cD.1.symm (λb hb=>Ch HK.1.1 hb.symm)).trans (Ai w9 ob 2 (.slice p9 (n+C) c9)));clear gL aD aK g2)
   go_roundw
   case rel=>exact⟨k+1,by omega,by go_num,by rw[<-hM.1];exact hN.1,hJ.1⟩
   case measure=>simp[intOf];omega
  ·obtain rfl:t=k:=by omega
   obtain⟨p,c,g2,gN⟩:=I.1.c2;have bH:M≠ob:=Nat.ne_of_lt J.1;have O:=U.1.block M (by rw[cD.1];have:=J.1;have:=I.1.lt;omega) (λe=>by injection e with e;exact bH e);have r0:=U.1.cell (Z.1.at_ 0 rfl) (λe=>by injection e with e;exact bH e);have r1:=U.1.cell (Z.1.at_ 1 rfl) (λe=>by injection e with e;exact bH e);have r2:=U.1.cell (Z.1.at_ 2 rfl) (λe=>by injection e with e;exact bH e);have f0:we.frozen? ⟨M,0,none⟩=false:=(World.frozen?_of_block (a:=⟨M,0,none⟩) O).trans (Z.1.free_ 0);have f1:we.frozen? ⟨M,1,none⟩=false:=(World.frozen?_of_block (a:=⟨M,1,none⟩) O).trans (Z.1.free_ 1);have f2:we.frozen? ⟨M,2,none⟩=false:=(World.frozen?_of_block (a:=⟨M,2,none⟩) O).trans (Z.1.free_ 2);have bA:Stk NotU32 wx M:=Stk.of Z.1 (by intro v hv;simp at hv;rcases hv with rfl|rfl|rfl <;> exact λ_ h=>by cases h);have gS:Stk NotU32 we M:=⟨mI bA.1 U.1.size,λi u hu=>bA.2 i u ((World.cell?_of_block (a:=⟨M,i,none⟩) O).symm.trans hu)⟩
   have a0:=I.1.c0;have a1:=I.1.c1;have cG:=Kh (Hy (w:=we) (R:=M) (v0:=.int .i64 (t:Int)) (v1:=.int .i64 (C:Int)) (v2:=.slice p (t*C) c) (by rw[r0];rfl) (by rw[r1];rfl) (by rw[r2];rfl));have hL:=Kh (Hi gS (v0:=.int .i64 (t:Int)) (v1:=.int .i64 (C:Int)) (v2:=.slice p (t*C) c) (λ_ h=>by cases h) (λ_ h=>by cases h));have eP:=Kh (((Ai we M 0 (.int .i64 (t:Int))).trans (Ai _ M 1 (.int .i64 (C:Int)))).trans (Ai _ M 2 (.slice p (t*C) c)));have hO:=Kh gN;clear gN O bA gS;go_wp2;have e0:=cG.1.1;have e1:=cG.1.2.1;have e2:=cG.1.2.2;try simp only[Exit.inBlock,Exit.then]
   refine bodyPost_ret (by simp[results,results55,go_sem,e0,e1,e2];try rfl) rfl ?_;refine⟨⟨_,rfl,?_⟩,?_⟩
   ·rw[hP.1]
    obtain⟨xs,h1,h2⟩:=hO.1.box cT.1 hL.1 eP.1 (by have:=J.1;have:=I.1.lt;omega)
    exact⟨xs,⟨⟨h1.1.1,by
     rcases h1.1.2 with h |⟨g',cap,cs,e,mL,hr⟩
     ·exact .inl h
     ·exact .inr ⟨g',cap,cs,e,by have:=aN.1;have:=J.1;have:=I.1.lt;omega,hr⟩⟩,h1.2⟩,h2⟩
   ·exact An (aN.1▸cF.1) eP.1 (by have:=cF.1.size;have:=aN.1;omega) (by have:=aN.1;omega)
theorem Oe (F:Nat->Nat->Rat) (R C:Nat) (v:Value) (w:World) (h:cM F R C w v) (oL:R<=1000) (hC:C<=1000) (hs:∀i q,i<R->q<C->hq (F i q)<=1000000000):
  Calls prog 62 #[.int .i64 C,v] w λe w'=>(∃p c,e=.returned (.tuple #[.agg #[.int .i64 R,.int .i64 C,.slice p (R*C) c],.int .i64 0])/\QL (λj=>IsQ (F (j / C) (j % C))) w' (.slice p (R*C) c) (R*C))/\Below w.heap.size w w':=by
 obtain⟨pR,cG,rfl,dX⟩:=h
 have nM:=Kh (λW (hb:Below w.heap.size w W) i (hi:i<R)=>(show ∃G g,pR=some ⟨G,0,none⟩/\W.cell? ⟨G,i,none⟩=some (.slice (some ⟨g,0,none⟩) C C)/\(0<C->QRow (λq=>IsQ (F i q)) W g C C)by
  obtain⟨G,hp,hG,h1⟩:=dX (by omega);obtain⟨g,e1,h2⟩:=h1 i hi;exact⟨G,g,hp,(hb.cell (p:=⟨G,i,none⟩) hG).trans e1,λhC=>(h2 hC).keep (λ_=>IsQ.solid _) hb⟩))
 have HS:=Kh hs;clear dX hs;go_enter func62,ntmps62
 go_wp2_with fail
 obtain⟨w0,mP,X0,gU⟩:=bx1 w #[.int .i64 0,.int .i64 0,.slice none 0 0] 32;rw[mP];refine(I0 C w0 (by omega)).mono ?_;rintro e w1 ⟨rfl,gX⟩;have hY:=Kh (X0.below_ gX X0.lt);have hO:=Kh (gU.trans (gX.mono gU.size));clear mP X0 gU gX;go_wp2_with fail
 refine(I0 R w1 (by omega)).mono ?_;rintro e w2 ⟨rfl,gY⟩;have bE:=Kh (bk hY gY);have hP:=bt hO gY;have oJ:((C:Int) !=(C:Int))=false:=by simp
 clear gY hY hO;go_wp2_with fail
 obtain⟨wx,cY⟩:∃wx,w2.alloc (.cells #[.int .i64 R,.int .i64 C,.slice none 0 0] 32)=wx:=⟨_,rfl⟩
 have cF:Below w2.heap.size w2 wx:=cY▸(Below.refl _ _).alloc (mG _) _;have Y:Blk wx w2.heap.size 32 #[.int .i64 R,.int .i64 C,.slice none 0 0]:=cY▸Blk.new w2 32 #[.int .i64 R,.int .i64 C,.slice none 0 0];obtain⟨ob,bH⟩:∃x,w2.heap.size=x:=⟨_,rfl⟩
 obtain⟨M,bG⟩:∃x,w.heap.size=x:=⟨_,rfl⟩
 have cC:=Kh bG;have dC:=bE.1.lt;have bC:=hP.1;rw[bG]at bE dC;rw[bH]at Y cF dC;have aX:=Kh dC;have mX:=Kh (show Below M w wx from bG▸bC.trans (cF.mono (bH▸bC.size)));have aK:=Kh (show Blk wx M 32 #[.int .i64 0,.int .i64 0,.slice none 0 0]from bE.1.below_ (bH▸cF) bE.1.lt);obtain⟨BB,cD⟩:∃x,wx.heap.size=x:=⟨_,rfl⟩
 have eV:=Kh cD;obtain⟨V,hV⟩:∃V:Nat->FP,(λp=>IsQ (F (p / C) (p % C)))=V:=⟨_,rfl⟩
 have hX:=Kh (show ∀j,Bh (V j)from λj=>by rw[<-hV];exact IsQ.solid _)
 have nO:=Kh (show ∀k i,i<C->V (k*C+i)=IsQ (F k i)from λk i hi=>by
  rw[<-hV];dsimp only;rw[show(k*C+i) / C=k by rw[Nat.mul_comm,Nat.mul_add_div (by omega),Nat.div_eq_of_lt hi,Nat.add_zero],show(k*C+i) % C=i by rw[Nat.mul_comm,Nat.mul_add_mod,Nat.mod_eq_of_lt hi]])
 have nN:=Kh hV
 have hW:=Kh (show MatAt V wx ob BB R C (0*C)from
  ⟨by rw[<-cD];exact Y.lt,Nat.le_of_eq cD.symm,Y.at_ 0 rfl,Y.at_ 1 rfl,⟨none,0,by rw[Nat.zero_mul];exact Y.at_ 2 rfl,by rw[Nat.zero_mul];exact OwnQ.nil _ _ _⟩,Y.free_ 2,Stk.of Y (by intro v hv;simp at hv;rcases hv with rfl|rfl|rfl <;> exact λ_ h=>by cases h)⟩)
 rw[cY];try rw[bH]
 try rw[bG]
 clear cY bH cF Y bG cD hV bC bE hP dC;go_loopw [25] (λii wr=>∃k:Nat,k<=R/\ii=.int .i64 k/\MatAt V wr ob BB R C (k*C)/\wx.grownBy wr (some ob)) (λii _=>R - (intOf ii).toNat)
 case atStart=>exact⟨0,Nat.zero_le _,rfl,hW.1,Af ob (Below.refl _ _)⟩
 case round=>
  obtain⟨k,hk,rfl,dE,mN⟩:=hrel;obtain⟨Z,rfl⟩:∃Z:World,Z=wr:=⟨_,rfl⟩
  have J:=Kh dE;have aD:=Kh mN;clear dE mN hW;have hR:=Kh (show Below M w Z from An mX.1 aD.1 (by have:=eV.1;have:=J.1.lt;have:=aX.1;omega) (Nat.le_of_lt aX.1));by_cases hlt:k<R
  ·have oO:(k:Int)<(R:Int):=by omega
   have hD:=hR.1;rw[<-cC.1]at hD;obtain⟨G,g,nV,r4,bY⟩:=nM.1 Z hD k hlt;subst nV
   have nJ:=Kh (show ∀(j:Nat) (u:Value),(Ax Z g (C*4))[j]?=some u->Z.cell? ⟨g,j,none⟩=some u from λj u hu=>by
    rcases Nat.eq_zero_or_pos C with e|e
    ·rw[e,Nat.zero_mul]at hu;cases hu
    ·exact(bY e).cells j u hu)
   have nI:=Kh (show ∀u∈Ax Z g (C*4),u.oneCell'=true from λu hu=>by
    rcases Nat.eq_zero_or_pos C with e|e
    ·rw[e,Nat.zero_mul]at hu;cases hu
    ·exact(bY e).one u hu)
   have nK:=Kh (show ∀u∈Ax Z g (C*4),NotInt u from λu hu=>by
    rcases Nat.eq_zero_or_pos C with e|e
    ·rw[e,Nat.zero_mul]at hu;cases hu
    ·exact(bY e).ni u hu)
   have nL:=Kh bY;obtain⟨p,c,g2,xs,hK,gS⟩:=J.1.c2;obtain⟨n,hn⟩:∃x,k*C=x:=⟨_,rfl⟩
   have oQ:n<=1024*1024:=by rw[<-hn];exact Nat.mul_le_mul (by omega:k<=1024) (by omega)
   rw[hn]at g2 hK gS J;have nD:=Kh (show n+C=(k+1)*C by rw[<-hn,Nat.add_mul,Nat.one_mul]);have hU:=Kh (show ∀j,j<C->V (n+j)=IsQ (F k j)from λj hj=>by rw[<-hn];exact nO.1 k j hj);have HK:=Kh hK;have nP:=Kh gS;have mZ:=Kh g2;have oA:ob<Z.heap.size:=mI J.1.lt J.1.hB;have nG:=Kh hn;clear hD bY hK gS hn;go_wp2_with (at_builtin;refine Pz NotInt rfl (.tmp 35) (.tmp 36) _ 86 rfl underlying30 F1 rfl (by decide) BB n C g C (.slice p n c) xs (Ax Z g (C*4)) rfl HK.1 rfl (Ce _ _ _) nJ.1 nI.1 (by omega) (by omega) J.1.hB nK.1 iK ?_;intro v9 w9 O bA;obtain⟨p9,c9,rfl⟩:=Bf O.1;obtain⟨d2,df,mD⟩:=J.1.more hX.1 mZ.1 HK.1.1 (by rcases Nat.eq_zero_or_pos C with e|e;(have oP:n=0:=by have:=nG.1;rw[e,Nat.mul_zero]at this;omega);(exact⟨_,O,λj hj=>by omega⟩);(exact OwnQ.more hX.1 HK.1 nP.1 (nL.1 e) O bA hU.1)) bA;have nE:=Kh mD;have nA:=Kh ((Hz aD.1 bA eV.1.symm (λb hb=>Ch HK.1.1 hb.symm)).trans (Ai w9 ob 2 (.slice p9 (n+C) c9)));clear mD O bA g2)
   go_roundw
   case rel=>exact⟨k+1,by omega,by go_num,by rw[<-nD.1];exact nE.1,nA.1⟩
   case measure=>simp[intOf];omega
  ·obtain rfl:R=k:=by omega
   obtain⟨p,c,g2,gP⟩:=J.1.c2;have a0:=J.1.c0;have a1:=J.1.c1;obtain⟨n,hn⟩:∃x,R*C=x:=⟨_,rfl⟩
   rw[hn]at g2 gP J
   obtain⟨gA,cX⟩:∃gA,0<n->p=some ⟨gA,0,none⟩/\QRow V Z gA n n:=by
    rcases gP.row with⟨h,_⟩ |⟨g,cap,nW,oN,cX⟩
    ·exact⟨0,λh2=>by omega⟩
    ·injection nW with s1 s2 s3
     exact⟨g,λ_=>⟨s1,cX⟩⟩
   have gL:=Kh cX;have HN:=Kh hn;have cT:M≠ob:=Nat.ne_of_lt aX.1;have U:=aD.1.block M (by rw[eV.1];have:=aX.1;have:=J.1.lt;omega) (λe=>by injection e with e;exact cT e);have r0:=aD.1.cell (aK.1.at_ 0 rfl) (λe=>by injection e with e;exact cT e);have r1:=aD.1.cell (aK.1.at_ 1 rfl) (λe=>by injection e with e;exact cT e);have r2:=aD.1.cell (aK.1.at_ 2 rfl) (λe=>by injection e with e;exact cT e);have f0:Z.frozen? ⟨M,0,none⟩=false:=(World.frozen?_of_block (a:=⟨M,0,none⟩) U).trans (aK.1.free_ 0);have f1:Z.frozen? ⟨M,1,none⟩=false:=(World.frozen?_of_block (a:=⟨M,1,none⟩) U).trans (aK.1.free_ 1);have f2:Z.frozen? ⟨M,2,none⟩=false:=(World.frozen?_of_block (a:=⟨M,2,none⟩) U).trans (aK.1.free_ 2);have cA:Stk NotU32 wx M:=Stk.of aK.1 (by intro v hv;simp at hv;rcases hv with rfl|rfl|rfl <;> exact λ_ h=>by cases h);have aN:Stk NotU32 Z M:=⟨mI cA.1 aD.1.size,λi u hu=>cA.2 i u ((World.cell?_of_block (a:=⟨M,i,none⟩) U).symm.trans hu)⟩
   have gN:=Kh (And.intro r0 (And.intro r1 (And.intro r2 (And.intro f0 (And.intro f1 (And.intro f2 aN))))));clear r0 r1 r2 f0 f1 f2 U cA aN cX gP hn J;go_wp2_with fail
   refine(Gx R C n gA 0 c p (λj=>F (j / C) (j % C)) F Z (λh=>⟨(gL.1 h).1,(gL.1 h).2.sts.1⟩) (λj hj=>by
    have h1:=(gL.1 (by omega)).2.val j hj;rw[<-nN.1]at h1;rw[Nat.zero_add];exact h1) HN.1 (by omega) (by omega) (λj hj=>HS.1 _ _ (Nat.div_lt_of_lt_mul (by rw[Nat.mul_comm,HN.1];exact hj)) (Nat.mod_lt _ (by rcases Nat.eq_zero_or_pos C with e|e;(have h3:=HN.1;rw[e,Nat.mul_zero]at h3;omega);exact e))) (λi q hq=>by
    rw[show(i*C+q) / C=i by rw[Nat.mul_comm,Nat.mul_add_div (by omega),Nat.div_eq_of_lt hq,Nat.add_zero],show(i*C+q) % C=q by rw[Nat.mul_comm,Nat.mul_add_mod,Nat.mod_eq_of_lt hq]])).mono ?_
   rintro e w5 ⟨⟨G5,nS,rfl,mM⟩,mE⟩;have nB:=Kh mM;have eP:=Kh mE;clear mM mE;go_wp2_with fail
   refine(Ls F R C R G5 R nS Z.heap.size w5 nB.1 (mG _) (by omega) (by omega)).mono ?_;rintro e w6 ⟨⟨v6,rfl,cV⟩,mL⟩
   obtain⟨p6,c6,rfl⟩:∃p c,v6=.slice p (R*C) c:=by
    obtain⟨_,nU,_⟩:=cV;exact Bf nU.1
   have I:=eP.1.trans (mL.mono eP.1.size);obtain⟨r0,r1,r2,f0,f1,f2,aN⟩:=gN.1;have q0:=cell_next I r0;have q1:=cell_next I r1;have q2:=cell_next I r2;have h0:=Ac I (by rw[r0];rfl) f0;have h1:=Ac I (by rw[r1];rfl) f1;have h2:=Ac I (by rw[r2];rfl) f2;have dY:=aN.next I
   have gF:=Kh (Hy (w:=w6) (R:=M) (v0:=.int .i64 (R:Int)) (v1:=.int .i64 (C:Int)) (v2:=.slice p6 (R*C) c6) (by rw[q0];rfl) (by rw[q1];rfl) (by rw[q2];rfl));have nC:=Kh (Hi dY (v0:=.int .i64 (R:Int)) (v1:=.int .i64 (C:Int)) (v2:=.slice p6 (R*C) c6) (λ_ h=>by cases h) (λ_ h=>by cases h));have hS:=Kh (((Ai w6 M 0 (.int .i64 (R:Int))).trans (Ai _ M 1 (.int .i64 (C:Int)))).trans (Ai _ M 2 (.slice p6 (R*C) c6)));have nH:=Kh cV.ql;have mY:=Kh (Xp cV);have hT:=Kh (show M<w5.heap.size from mI aN.1 eP.1.size);have hQ:=Kh (show Below M w w6 from hR.1.trans (I.mono (by have:=aN.1;omega)));clear r0 r1 r2 f0 f1 f2 aN dY I mL cV;go_wp2;have e0:=gF.1.1;have e1:=gF.1.2.1;have e2:=gF.1.2.2;try simp only[Exit.inBlock,Exit.then]
   refine bodyPost_ret (by simp[results,results62,go_sem,e0,e1,e2];try rfl) rfl ?_;exact⟨⟨p6,c6,rfl,nH.1.boxed (λ_=>IsQ.solid _) nC.1 hS.1 (λa ha=>by have:=mY.1 a ha;have:=hT.1;omega)⟩,An (cC.1▸hQ.1) hS.1 (by have:=hQ.1.size;have:=cC.1;have:=hT.1;omega) (by have:=cC.1;omega)⟩
theorem Vv (x:Int) (m:Nat) (w:World) (M:0<m) (V:m<=1000000000):
  Calls prog 126 #[.int .i64 x,.int .i64 m] w λe w'=>e=.returned (.int .i64 (x % (m:Int)))/\w'=w:=by
 have O:-(m:Int)<x.tmod m:=by have:=Int.lt_tmod_of_pos x (show(0:Int)<m by omega);omega
 have U:x.tmod m<m:=Int.tmod_lt_of_pos x (by omega);have I:=Kh (Da x m (by omega));have J:(m:Int)≠0:=by omega
 go_enter func126,ntmps126
 go_wp2;all_goals (go_ret;refine⟨A3 ?_,rfl⟩;rw[<-I.1];first |(rw[if_pos (by omega)];done) |(rw[if_neg (by omega)];done))
structure XgI (a b g r U V:Nat) (s:Int):Prop where
 sum:U*r+V*g=b
 hU:U<=b
 hV:V<=b
 hg:g<=b
 hr:r<=b
 sg:s=1∨s=-1
 du:(b:Int)∣s*U*a - g
 dv:(b:Int)∣-s*V*a - r
 gd:Nat.gcd g r=Nat.gcd a b
theorem XgI.start {a b:Nat} (h:a<b):XgI a b a b 1 0 1:=
 ⟨by omega,by omega,Nat.zero_le _,Nat.le_of_lt h,mG _,.inl rfl,⟨0,by simp⟩,⟨-1,by simp⟩,rfl⟩
theorem XgI.step {a b g r U V:Nat} {s:Int} (h:XgI a b g r U V s) (hr:0<r):XgI a b r (g % r) V (U+g / r*V) (-s):=by
 have O:=Nat.div_add_mod g r;obtain⟨q,hq⟩:∃q,g / r=q:=⟨_,rfl⟩
 obtain⟨t,J⟩:∃t,g % r=t:=⟨_,rfl⟩
 rw[hq,J]at O;rw[hq,J]
 have I:V*t+(U+q*V)*r=b:=by
  rw[<-h.sum,<-O];grind
 have Y:t<r:=by rw[<-J];exact Nat.mod_lt _ hr
 refine⟨I,h.hV,?_,h.hr,Nat.le_of_lt (mI Y h.hr),?_,?_,?_,?_⟩
 ·have M:(U+q*V)*1<=(U+q*V)*r:=Nat.mul_le_mul_left _ hr
  omega
 ·rcases h.sg with M|M <;> rw[M]
  ·exact .inr rfl
  ·exact .inl rfl
 ·exact h.dv
 ·have e:-(-s)*((U+q*V:Nat):Int)*a - (t:Nat)=(s*U*a - g) - q*(-s*V*a - r):=by
   have Z:(g:Int)=r*q+t:=by rw[<-O];push_cast;rfl
   rw[Z]
   push_cast
   grind
  rw[e];exact Int.dvd_sub h.du (Int.dvd_trans h.dv (Int.dvd_mul_left _ _))
 ·rw[<-h.gd,<-J,Nat.gcd_comm r,<-Nat.gcd_rec r g,Nat.gcd_comm]
theorem dV (a b:Nat) (w:World) (h0:a<b) (hb:b<=20000) (hg:Nat.gcd a b=1):
  Calls prog 125 #[.int .i64 a,.int .i64 b] w λe w'=>(∃(u:Nat) (v:Int),e=.returned (.tuple #[.int .i64 1,.int .i64 u,.int .i64 v,.int .i64 0])/\u<b/\(b:Int)∣(u:Int)*a - 1)/\Below w.heap.size w w':=by
 have l1:¬(a:Int) < -2147483647:=by omega
 have l2:¬(2147483647:Int)<(a:Int):=by omega
 have l3:¬(b:Int) < -2147483647:=by omega
 have l4:¬(2147483647:Int)<(b:Int):=by omega
 have l5:((b:Int)==0)=false:=beq_eq_false_iff_ne.2 (by omega);go_enter func125,ntmps125
 go_wp2;clear l1 l2 l3 l4 l5;go_loopw [4,5,8,9] (λv4 v5 v8 v9 wr=>∃(g r U V:Nat) (s:Int),v4=.int .i64 g/\v5=.int .i64 (s*U)/\v8=.int .i64 (-s*V)/\v9=.int .i64 r/\XgI a b g r U V s/\wr=w) (λ_ _ _ v9 _=>(intOf v9).toNat)
 case atStart=>exact⟨a,b,1,0,1,rfl,rfl,rfl,rfl,XgI.start h0,rfl⟩
 case round=>
  obtain⟨g,r,U,V,s,rfl,rfl,rfl,rfl,M,rfl⟩:=hrel;have HX:=Kh M;have gA:=M.hg;have cB:=M.hU;have cC:=M.hV;have Y:=M.sg;obtain⟨x,I⟩:∃x:Int,s*U=x:=⟨_,rfl⟩
  obtain⟨y,J⟩:∃y:Int,-s*V=y:=⟨_,rfl⟩
  have gS:-20000<=x/\x<=20000:=by rcases Y with h|h <;> rw[h]at I <;> omega
  have cY:-20000<=y/\y<=20000:=by rcases Y with h|h <;> rw[h]at J <;> omega
  rw[I,J];have bY:=Kh I;have aN:=Kh J;by_cases hr0:r=0
  ·subst hr0
   obtain rfl:g=1:=by have h:=M.gd;rw[Nat.gcd_zero_right,hg]at h;exact h
   have hM:∀w,(Builtin.max_ #[3,3] 3 #[.int .i64 b,.int .i64 (-(b:Int))]).run prog w=.ok (.int .i64 b) w:=λw=>by
    have e:(if(b:Int) < -(b:Int)then -(b:Int)else(b:Int))=(b:Int):=by split <;> omega
    simp[Builtin.max_,Builtin.max2,e]
   have wn:IntKind.i64.wrap (-(b:Int))=-(b:Int):=IntWalk.i64_in _ (by omega);have wb:IntKind.i64.wrap (b:Int)=(b:Int):=IntWalk.i64_in _ (by omega);have O:=M.du;rw[I]at O;obtain⟨u,hu⟩:∃u:Nat,x % (b:Int)=u:=⟨(x % (b:Int)).toNat,by rw[Int.toNat_of_nonneg (Int.emod_nonneg _ (by omega))]⟩
   have cX:u<b:=by have:=Int.emod_lt_of_pos x (show(0:Int)<b by omega);omega
   have bG:=Kh (show(b:Int)∣(u:Int)*a - 1 from by
    have e:(u:Int)*a - 1=(x*a - ((1:Nat):Int)) - b*(x / b)*a:=by
     rw[<-hu,Int.emod_def]
     push_cast
     grind
    rw[e];exact Int.dvd_sub O ⟨x / b*a,by grind⟩)
   obtain⟨P,hP⟩:∃P:Nat,u*a=P:=⟨_,rfl⟩
   have eV:P<=20000*20000:=by rw[<-hP];exact Nat.mul_le_mul (by omega) (by omega)
   have v1:IntKind.i64.wrap ((u:Int)*(a:Int))=(P:Int):=by rw[show(u:Int)*(a:Int)=(P:Int)by rw[<-hP];push_cast;rfl];exact IntWalk.i64_in _ (by omega)
   obtain⟨z,hz⟩:∃z:Int,1 - (P:Int)=z:=⟨_,rfl⟩
   have v2:IntKind.i64.wrap (1 - (P:Int))=z:=by rw[hz];exact IntWalk.i64_in _ (by omega)
   obtain⟨q,hq⟩:∃q,z.tdiv b=q:=⟨_,rfl⟩
   have cG:q.natAbs<=400000001:=by rw[<-hq,Int.natAbs_tdiv];exact mH (Nat.div_le_self _ _) (by omega)
   have v3:IntKind.i64.wrap q=q:=IntWalk.i64_in _ (by omega);have v4:((b:Int)==0)=false:=beq_eq_false_iff_ne.2 (by omega);have v5:b≠0:=by omega
   have bH:=Kh hu;clear M I J O hP hz hu HX bY aN cB cC Y cY hg;go_wp2_with fail
   refine(Vv x b wr (by omega) (by omega)).mono ?_;rintro e w' ⟨rfl,bA⟩;obtain rfl:wr=w':=bA.symm;rw[bH.1];clear bA;go_upto_region 17 with(fail)
   go_quiet (fail)
   go_wp2;try simp only[Exit.inBlock,Exit.then]
   refine bodyPost_ret (by simp[results,results125,go_sem];try rfl) rfl ?_;exact⟨⟨u,q,rfl,cX,bG.1⟩,Aa (Below.refl _ _) _⟩
  ·have aX:0<r:=by omega
   have gL:((r:Int) != 0)=true:=by rw[bne_iff_ne];omega
   have Z:=M.step aX;have gN:=M.hr;obtain⟨q,hq⟩:∃q,g / r=q:=⟨_,rfl⟩
   obtain⟨t,ht⟩:∃t,g % r=t:=⟨_,rfl⟩
   have hd:=Nat.div_add_mod g r;rw[hq,ht]at hd Z;have cG:q<=20000:=by rw[<-hq];exact mH (Nat.div_le_self _ _) (by omega)
   have gP:t<r:=by rw[<-ht];exact Nat.mod_lt _ aX
   have e1:(g:Int) / (r:Int)=(q:Int):=by rw[<-hq];exact(Int.natCast_ediv _ _).symm
   obtain⟨p,hp⟩:∃p:Nat,q*r=p:=⟨_,rfl⟩
   have gF:p+t=g:=by rw[<-hp,Nat.mul_comm];exact hd
   have v1:IntKind.i64.wrap ((q:Int)*(r:Int))=(p:Int):=by rw[show(q:Int)*(r:Int)=(p:Int)by rw[<-hp];push_cast;rfl];exact IntWalk.i64_in _ (by omega)
   have v2:IntKind.i64.wrap ((g:Int) - (p:Int))=(t:Int):=by rw[show(g:Int) - (p:Int)=(t:Int)by omega];exact IntWalk.i64_in _ (by omega)
   obtain⟨z,hz⟩:∃z:Int,(q:Int)*y=z:=⟨_,rfl⟩
   have gU:z.natAbs<=20000*20000:=by rw[<-hz,Int.natAbs_mul];exact Nat.mul_le_mul (by omega) (by omega)
   have v3:IntKind.i64.wrap ((q:Int)*y)=z:=by rw[hz];exact IntWalk.i64_in _ (by omega)
   obtain⟨x',aD⟩:∃x':Int,x - z=x':=⟨_,rfl⟩
   have v4:IntKind.i64.wrap (x - z)=x':=by rw[aD];exact IntWalk.i64_in _ (by omega)
   have bE:=Kh Z
   have bC:=Kh (show x'=-(-s)*((U+q*V:Nat):Int)by
    rw[<-aD,<-hz,<-I,<-J]
    push_cast
    grind)
   clear M I J hq ht hd hp hz aD Z HX;go_wp2;go_roundw
   case rel=>exact⟨r,t,V,U+q*V,-s,rfl,by rw[aN.1],by rw[bC.1],rfl,bE.1,trivial⟩
   case measure=>simp[intOf];omega
theorem Tx (m:Nat) (w:World) (I:0<m) (O:m<=1000000000):
  Calls prog 124 #[.int .i64 m] w λe w'=>e=.returned (.bool true)/\w'=w:=by
 have J:(1:Int)<=(m:Int):=by omega
 have M:(m:Int)<=2147483647:=by omega
 go_enter func124,ntmps124
 go_wp2;go_ret;exact⟨rfl,rfl⟩
theorem Lo (x:Int) (m:Nat) (w:World) (Z:0<m) (hm:m<=20000) (hg:Int.gcd x m=1):
  Calls prog 74 #[.int .i64 x,.int .i64 m] w λe w'=>(∃u:Nat,e=.returned (.tuple #[.int .i64 u,.int .i64 0])/\u<m/\(m:Int)∣(u:Int)*x - 1)/\Below w.heap.size w w':=by
 obtain⟨a,U⟩:∃a:Nat,x % (m:Int)=a:=⟨(x % (m:Int)).toNat,by rw[Int.toNat_of_nonneg (Int.emod_nonneg _ (by omega))]⟩
 have V:a<m:=by have:=Int.emod_lt_of_pos x (show(0:Int)<m by omega);omega
 have M:Nat.gcd a m=1:=by
  have h:((Nat.gcd a m:Nat):Int)∣x:=by
   have e:x=m*(x / m)+a:=by rw[<-U];exact(Int.mul_ediv_add_emod x m).symm
   rw[e];exact Int.dvd_add (Int.dvd_trans (Int.natCast_dvd_natCast.2 (Nat.gcd_dvd_right ..)) (Int.dvd_mul_right _ _)) (Int.natCast_dvd_natCast.2 (Nat.gcd_dvd_left ..))
  have h2:=Int.dvd_coe_gcd h (Int.natCast_dvd_natCast.2 (Nat.gcd_dvd_right a m));rw[hg]at h2;exact Nat.dvd_one.1 (Int.natCast_dvd_natCast.1 h2)
 have Y:=Kh U;have O:=Kh (λW=>dV a m W V hm M);clear U hg M;go_enter func74,ntmps74
 go_wp2_with fail
 refine(Tx m w Z (by omega)).mono ?_;rintro e w' ⟨rfl,I⟩;obtain rfl:w=w':=I.symm;clear I;go_wp2_with fail
 refine(Vv x m w Z (by omega)).mono ?_;rintro e w' ⟨rfl,I⟩;obtain rfl:w=w':=I.symm;rw[Y.1];clear I;go_wp2_with fail
 refine(O.1 w).mono ?_;rintro e w1 ⟨⟨u,v,rfl,hu,hd⟩,J⟩;have HB:=Kh J
 have HD:=Kh (show(m:Int)∣(u:Int)*x - 1 from by
  have e:(u:Int)*x - 1=((u:Int)*a - 1)+m*(u*(x / m)):=by
   have h:x=m*(x / m)+a:=by rw[<-Y.1];exact(Int.mul_ediv_add_emod x m).symm
   grind
  rw[e];exact Int.dvd_add hd (Int.dvd_mul_right _ _))
 clear hd J;go_wp2;go_ret2
 exact⟨⟨u,rfl,hu,HD.1⟩,HB.1⟩
end Go.Proofs.YtenlbhlllgppmaaGreatDoor
namespace Go.Proofs.YtenlbhlllgppmaaGreatDoor
open Tryz
theorem Km {n l:Nat} {c:Int} {L:List Nat} {f:Nat->Nat×Int} {k:Nat}:∀j,(∀i,i<j->Az n l (L.getD i 0)≠k)->Ez n l c L j f k=f k
 | 0,_=>rfl
 | j+1,h=>by
  rw[Ez,Pv,if_neg (λe=>h j (mJ _) e.symm)];exact Km j (λi I=>h i (by omega))
theorem Md {n l:Nat} {c:Int} {L:List Nat} {f:Nat->Nat×Int} {k i:Nat} (J:Az n l (L.getD i 0)=k):∀j,i<j->(∀I,I<j->Az n l (L.getD I 0)=k->I=i)->Ez n l c L j f k=(i,c)
 | 0,hi,_=>absurd hi (Nat.not_lt_zero _)
 | j+1,hi,h=>by
  rw[Ez,Pv];by_cases e:k=Az n l (L.getD j 0)
  ·rw[if_pos e,h j (mJ _) e.symm]
  ·rw[if_neg e]
   refine Md J j ?_ (λI U O=>h I (by omega) O);have:i≠j:=λM=>e (by rw[<-M,J])
   omega
theorem Uo {n:Nat} (hn:0<n):(pts n (n*n)).Nodup:=by
 rw[B5 hn _ (mG _)];exact List.nodup_range.filter _
theorem Bd {L:List Nat} {i:Nat} (I:i<L.length):L.getD i 0∈L:=by
 rw[List.getD_eq_getElem?_getD,List.getElem?_eq_getElem I];exact List.getElem_mem I
theorem O5 {L:List Nat} (h:L.Nodup) {i j:Nat} (I:i<L.length) (J:j<L.length) (e:L.getD i 0=L.getD j 0):i=j:=by
 rw[List.getD_eq_getElem?_getD,List.getElem?_eq_getElem I,List.getD_eq_getElem?_getD,List.getElem?_eq_getElem J]at e;exact(List.getElem_inj h).1 (by simpa using e)
theorem Hf {n i j s t:Nat} (hn:0<n) (O:i<(pts n (n*n)).length) (U:j<(pts n (n*n)).length) (Z:pun n s=true) (h:pun n t=true)
  (e:Az n s ((pts n (n*n)).getD i 0)=Az n t ((pts n (n*n)).getD j 0)):i=j/\s % n=t % n:=by
 have M:=Bd O;have mj:=Bd U;have J:=Gn M;obtain⟨r,_,_,ru,re⟩:=Hh (k:=(pts n (n*n)).getD i 0) J Z;have V:Az n (r*t) ((pts n (n*n)).getD j 0)=(pts n (n*n)).getD i 0:=by rw[<-Fz hn,<-e,re]
 have Y:=Q9 mj M (Jd ru h) V;have I:=O5 (Uo hn) O U Y.symm;subst I;exact⟨rfl,Um hn (Ig M).1 e⟩
theorem Ib {n:Nat} {D:Int} {j s k:Nat} (hn:0<n) (M:j<(pts n (n*n)).length) (h1:1<=s) (V:s<=n) (J:pun n s=true) (e:Az n s ((pts n (n*n)).getD j 0)=k):∀m,s<=m->m<=n->Bb n D (pts n (n*n)) m k=(j,Pl.kroP D s)
 | 0,h,_=>by omega
 | m+1,h,hm=>by
  rw[Bb];by_cases hs:s=m+1
  ·subst hs
   rw[if_pos J];exact Md e _ M (λi U O=>(Hf hn U M J J (O.trans e.symm)).1)
  ·have I:=Ib hn M h1 V J e m (by omega) (by omega) (D:=D)
   split
   ·rename_i hu2
    rw[Km _ (λi U O=>?_)]
    ·exact I
    ·have Y:=(Hf hn U M hu2 J (O.trans e.symm)).2
     rcases Nat.lt_or_ge (m+1) n with Z|Z
     ·rw[Nat.mod_eq_of_lt Z,Nat.mod_eq_of_lt (by omega)]at Y
      omega
     ·obtain rfl:m+1=n:=by omega
      rw[Nat.mod_self,Nat.mod_eq_of_lt (by omega)]at Y;omega
   ·exact I
theorem Ui (u v A C:Int) (n:Nat):(u*(A % n)+v*(C % n)) % n=(u*A+v*C) % n:=by
 rw[Int.add_emod,Int.mul_emod u (A % n),Int.mul_emod v (C % n),Int.emod_emod_of_dvd A (Int.dvd_refl _),Int.emod_emod_of_dvd C (Int.dvd_refl _),<-Int.mul_emod,<-Int.mul_emod,<-Int.add_emod]
namespace Pl
open Tryz
def Pb (l:List Int) (v:Int):Nat:=l.foldr (λx n=>2*n+if x=v then 1 else 0) 0
def cU (d pos neg r s:Nat):Bool:=if Nat.testBit neg r==Nat.testBit neg s then Nat.testBit pos (r*s % d)else Nat.testBit neg (r*s % d)
def Rp (d:Nat):List Nat:=(List.range d).filter λr=>Nat.gcd r d==1
def mulCh (D:Int):Bool:=
 let d:=D.natAbs
 let t:=Dw D
 let pos:=Pb t 1
 let neg:=Pb t (-1)
 let us:=Rp d
 us.all λr=>(Nat.testBit pos r != Nat.testBit neg r)&&us.all λs=>cU d pos neg r s
def Cg (i:Nat):Bool:=(List.range 20).all λj=>let D:Int:=((20*i+j:Nat):Int) - 120;!fund D||mulCh D
theorem jV:Cg 0=true:=by decide +kernel
theorem jW:Cg 1=true:=by decide +kernel
theorem jX:Cg 2=true:=by decide +kernel
theorem jY:Cg 3=true:=by decide +kernel
theorem jZ:Cg 4=true:=by decide +kernel
theorem kA:Cg 5=true:=by decide +kernel
theorem kB:Cg 6=true:=by decide +kernel
theorem kC:Cg 7=true:=by decide +kernel
theorem kD:Cg 8=true:=by decide +kernel
theorem kE:Cg 9=true:=by decide +kernel
theorem iG:Cg 10=true:=by decide +kernel
theorem iH:Cg 11=true:=by decide +kernel
theorem iI:Cg 12=true:=by decide +kernel
theorem Q6:∀i,i<13->Cg i=true
 | 0,_=>jV|1,_=>jW|2,_=>jX|3,_=>jY|4,_=>jZ|5,_=>kA|6,_=>kB|7,_=>kC|8,_=>kD|9,_=>kE|10,_=>iG|11,_=>iH|12,_=>iI
 | n+13,h=>absurd h (by omega)
theorem eR {D:Int} (M:-120<=D) (O:D<=120) (J:fund D=true):mulCh D=true:=by
 have h:=Q6 ((D+120).toNat / 20) (by omega);unfold Cg at h;rw[List.all_eq_true]at h;have I:=h ((D+120).toNat % 20) (List.mem_range.2 (Nat.mod_lt _ (by omega)));rw[Nat.div_add_mod]at I;have e:(((D+120).toNat:Nat):Int) - 120=D:=by omega
 simp only[e,J]at I
 simpa using I
theorem Pc (v:Int):∀(l:List Int) (i:Nat),Nat.testBit (Pb l v) i=decide (l[i]?=some v)
 | [],i=>by simp[Pb]
 | x :: l,0=>by
  show Nat.testBit (2*Pb l v+if x=v then 1 else 0) 0=_;rw[Nat.testBit_zero];by_cases h:x=v
  ·simp[h]
  ·simp[h]
 | x :: l,i+1=>by
  show Nat.testBit (2*Pb l v+if x=v then 1 else 0) (i+1)=_;rw[Nat.testBit_succ,show(2*Pb l v+if x=v then 1 else 0) / 2=Pb l v by split <;> omega,Pc v l i];simp
theorem kro_mul {N:Nat} {D:Int} {a b c:Nat} (hN:0<N) (h0:-120<=D) (h1:D<=120) (hf:fund D=true) (hd:(N:Int) % D=0) (ha:0<a) (bB:a<=128) (hb:0<b) (bE:b<=128) (hc:0<c) (bG:c<=128) (ga:Nat.gcd a N=1) (gb:Nat.gcd b N=1) (gc:Nat.gcd c N=1) (h:a*b % N=c % N):
  kroP D c=kroP D a*kroP D b/\(kroP D a=1∨kroP D a=-1):=by
 have J:D.natAbs∣N:=by
  have:D∣(N:Int):=Int.dvd_of_emod_eq_zero hd;exact Int.natAbs_dvd_natAbs.2 this
 have aK:0<D.natAbs:=Nat.pos_of_dvd_of_pos J hN;have Y:∀{x:Nat},Nat.gcd x N=1->Nat.gcd x D.natAbs=1:=λhx=>Nat.eq_one_of_dvd_one (hx▸Nat.gcd_dvd_gcd_of_dvd_right _ J)
 have U:=eG h0 h1 hf;have I:=eR h0 h1 hf;unfold chk at U;simp only[Bool.and_eq_true,List.all_eq_true]at U
 have V:∀x:Nat,0<x->x<=128->Nat.gcd x N=1->(Dw D)[x % D.natAbs]?=some (kroP D x):=by
  intro x hx cY hg;have O:=U.2 x (List.mem_range.2 (by omega));simp only[Y hg,Bool.or_eq_true,decide_eq_true_eq,bne_self_eq_false,Bool.false_eq_true,or_false,beq_iff_eq]at O;have hl:x % D.natAbs<(Dw D).length:=by unfold Dw;simpa using Nat.mod_lt x aK
  rcases O with O|O
  ·omega
  ·rw[List.getD_eq_getElem?_getD,List.getElem?_eq_getElem hl]at O
   rw[List.getElem?_eq_getElem hl,O];rfl
 have M:∀x:Nat,Nat.gcd x N=1->x % D.natAbs∈Rp D.natAbs:=λx hg=>by
  unfold Rp;rw[List.mem_filter,List.mem_range];refine⟨Nat.mod_lt _ aK,?_⟩;rw[beq_iff_eq,<-Nat.gcd_rec,Nat.gcd_comm];exact Y hg
 unfold mulCh at I;simp only[List.all_eq_true,Bool.and_eq_true]at I
 have bC:a % D.natAbs*(b % D.natAbs) % D.natAbs=c % D.natAbs:=by
  rw[<-Nat.mul_mod,<-Nat.mod_mod_of_dvd (a*b) J,h,Nat.mod_mod_of_dvd _ J]
 have Z:=(I _ (M a ga)).2 _ (M b gb);have u1:=(I _ (M a ga)).1;have u2:=(I _ (M b gb)).1;unfold cU at Z;rw[bC]at Z;simp only[Pc,V a ha bB ga,V b hb bE gb,V c hc bG gc,Option.some.injEq]at Z u1 u2
 have s1:kroP D a=1∨kroP D a=-1:=by
  by_cases e:kroP D a=1
  ·exact .inl e
  ·by_cases O:kroP D a=-1
   ·exact .inr O
   ·simp[e,O]at u1
 have s2:kroP D b=1∨kroP D b=-1:=by
  by_cases e:kroP D b=1
  ·exact .inl e
  ·by_cases O:kroP D b=-1
   ·exact .inr O
   ·simp[e,O]at u2
 refine⟨?_,s1⟩;rcases s1 with s1|s1 <;> rcases s2 with s2|s2 <;>(rw[s1,s2]at Z;simp at Z;rw[s1,s2,Z];rfl)
end Pl
end Go.Proofs.YtenlbhlllgppmaaGreatDoor
namespace Go.Proofs.YtenlbhlllgppmaaGreatDoor
open Tryz
open Eli
def Fh (a b:Int) (p:Nat->Rat):Nat->Rat:=λj=>(if 0<j then(a:Rat)*p (j - 1)else 0)+(b:Rat)*p j
theorem Cx (f:Nat->Nat->Rat) (n m:Nat):sumQ (λi=>sumQ (λl=>f i l) m) n=sumQ (λl=>sumQ (λi=>f i l) n) m:=by
 induction n with
 | zero=>exact(A4 (λ_ _=>rfl)).symm
 | succ n ih=>rw[sumQ,ih,<-Ar];exact Ad (λ_ _=>rfl)
theorem Rm (f:Nat->Rat) (n:Nat):sumQ f (n+1)=f 0+sumQ (λi=>f (i+1)) n:=by
 induction n with
 | zero=>show(0:Rat)+f 0=f 0+0;grind
 | succ n ih=>rw[sumQ,ih,sumQ];grind
theorem W4 (a b c d:Int) (p:Nat->Int):lin c d (lin a b p)=lin a b (lin c d p):=by
 funext j;unfold lin;by_cases h:0<j
 ·simp only[if_pos h]
  by_cases h1:0<j - 1
  ·simp only[if_pos h1];grind
  ·simp only[if_neg h1];grind
 ·simp only[if_neg h];grind
theorem Xf (a b c d:Int):∀k i,k<=i->mv (i+1) a b c d k=mv i a b c d k
 | 0,_,_=>rfl
 | k+1,i,h=>by rw[mv,mv,if_pos (by omega),if_pos (by omega),Xf a b c d k i (by omega)]
theorem lG (a b c d:Int):∀k i,i<=k->mv (i+1) a b c d (k+1)=lin a b (mv i a b c d k)
 | k,i,h=>by
  by_cases e:i=k
  ·subst e
   rw[mv,if_pos (by omega),Xf a b c d i i (mG _)]
  ·obtain⟨l,rfl⟩:∃l,k=l+1:=⟨k - 1,by omega⟩
   rw[mv,if_neg (by omega),lG a b c d l i (by omega),mv,if_neg (by omega),W4]
theorem aS {a b c d:Int} {k i:Nat} (h:i<=k):mv i a b c d (k+1)=lin c d (mv i a b c d k):=by
 rw[mv,if_neg (by omega)]
theorem E9 (a b:Int) (p:Nat->Int) (j:Nat):((lin a b p j:Int):Rat)=Fh a b (λi=>(p i:Rat)) j:=by
 unfold lin Fh;split <;> simp <;> grind
theorem O8 (a b:Int) (p:Nat->Rat) (f:Nat->Nat->Int) (n j:Nat):sumQ (λi=>p i*Fh a b (λl=>(f i l:Rat)) j) n=Fh a b (λl=>sumQ (λi=>p i*(f i l:Rat)) n) j:=by
 unfold Fh;by_cases h:0<j
 ·simp only[if_pos h]
  rw[<-Ap,<-Ap,<-Ar];exact Ad (λi _=>by grind)
 ·simp only[if_neg h]
  rw[<-Ap,Rat.zero_add];exact Ad (λi _=>by grind)
theorem Mh (J I a b c d:Int) (p:Nat->Rat) (k j:Nat) (Y:p (k+1)=0):
  subst (Fh J I p) (k+1) a b c d (k+2) j=Fh (J*a+I*c) (J*b+I*d) (subst p k a b c d (k+1)) j:=by
 have M:sumQ (λi=>(if 0<i then(J:Rat)*p (i - 1)else 0)*(mv i a b c d (k+1) j:Int)) (k+2)=(J:Rat)*Fh a b (subst p k a b c d (k+1)) j:=by
  rw[Rm];simp only[Nat.lt_irrefl,if_false];unfold subst;rw[<-O8 a b p (λi=>mv i a b c d k),<-Ap,Rat.zero_mul,Rat.zero_add];refine Ad (λi V=>?_);rw[if_pos (by omega),lG a b c d k i (by omega),E9,Nat.add_sub_cancel];grind
 have O:sumQ (λi=>(I:Rat)*p i*(mv i a b c d (k+1) j:Int)) (k+2)=(I:Rat)*Fh c d (subst p k a b c d (k+1)) j:=by
  rw[sumQ,Y];unfold subst;rw[<-O8 c d p (λi=>mv i a b c d k),<-Ap];rw[show ∀x:Rat,x+(I:Rat)*0*((mv (k+1) a b c d (k+1) j:Int):Rat)=x from λx=>by grind];refine Ad (λi V=>?_);rw[aS (by omega),E9];grind
 have U:subst (Fh J I p) (k+1) a b c d (k+2) j=(J:Rat)*Fh a b (subst p k a b c d (k+1)) j+(I:Rat)*Fh c d (subst p k a b c d (k+1)) j:=by
  rw[<-M,<-O,<-Ar];unfold subst;refine Ad (λi _=>?_);unfold Fh;grind
 rw[U];unfold Fh;split <;> simp <;> grind
theorem Ys (a b c d I J M O:Int) (i j:Nat):∀k,subst (λl=>(mv i a b c d k l:Rat)) k I J M O (k+1) j=(mv i (a*I+b*M) (a*J+b*O) (c*I+d*M) (c*J+d*O) k j:Rat):=by
 intro k;induction k generalizing j with
 | zero=>
  show(0:Rat)+((if(0:Nat)=0 then 1 else 0:Int):Rat)*((if j=0 then 1 else 0:Int):Rat)=((if j=0 then 1 else 0:Int):Rat)
  split <;> simp <;> grind
 | succ k ih=>
  have Z:(λl=>(mv i a b c d k l:Rat)) (k+1)=0:=by
   show((mv i a b c d k (k+1):Int):Rat)=0;rw[I8 i a b c d k (k+1) (by omega)];rfl
  have Y:∀U V,(λl=>((lin U V (mv i a b c d k) l:Int):Rat))=Fh U V (λl=>(mv i a b c d k l:Rat)):=λU V=>funext (λl=>E9 U V _ l)
  by_cases h:k<i
  ·simp only[mv,if_pos h]
   rw[Y,Mh a b I J M O _ k j Z,E9];unfold Fh;simp only[ih]
  ·simp only[mv,if_neg h]
   rw[Y,Mh c d I J M O _ k j Z,E9];unfold Fh;simp only[ih]
theorem Pr (q:Nat->Rat) (a b c d I J M O:Int) (m j:Nat):
  subst (subst q m a b c d (m+1)) m I J M O (m+1) j=subst q m (a*I+b*M) (a*J+b*O) (c*I+d*M) (c*J+d*O) (m+1) j:=by
 have U:subst (subst q m a b c d (m+1)) m I J M O (m+1) j=sumQ (λl=>sumQ (λi=>q i*(mv i a b c d m l:Int)*(mv l I J M O m j:Int)) (m+1)) (m+1):=by
  unfold subst;refine Ad (λl _=>?_);rw[Rat.mul_comm,<-Ap];exact Ad (λi _=>by grind)
 rw[U,<-Cx];unfold subst;refine Ad (λi _=>?_);rw[<-Ys a b c d I J M O i j m];unfold subst;rw[<-Ap];exact Ad (λl _=>by grind)
theorem Nj {k x y:Int} (J:k≠0) (h:Int.gcd x y=1):low (k*x) (k*y)=if y<0∨(y=0/\x<0)then(-x,-y)else(x,y):=by
 have hg:Int.gcd (k*x) (k*y)=k.natAbs:=by rw[Int.gcd_mul_left,h,Nat.mul_one]
 have U:¬(x=0/\y=0):=by
  rintro⟨rfl,rfl⟩;simp at h
 unfold low;rw[hg];by_cases hp:0<k
 ·have e:((k.natAbs:Nat):Int)=k:=by omega
  rw[e,Int.mul_tdiv_cancel_left x J,Int.mul_tdiv_cancel_left y J];have M:k*y<0↔y<0:=⟨λh=>by rcases Int.lt_or_le y 0 with I|I;exact I;exact absurd (Int.mul_nonneg (Int.le_of_lt hp) I) (by omega),λh=>Int.mul_neg_of_pos_of_neg hp h⟩
  have I:k*x<0↔x<0:=⟨λh=>by rcases Int.lt_or_le x 0 with I|I;exact I;exact absurd (Int.mul_nonneg (Int.le_of_lt hp) I) (by omega),λh=>Int.mul_neg_of_pos_of_neg hp h⟩
  have O:k*y=0↔y=0:=⟨λh=>(Int.mul_eq_zero.1 h).resolve_left J,λh=>by rw[h,Int.mul_zero]⟩
  simp only[M,I,O]
 ·have e:((k.natAbs:Nat):Int)=-k:=by omega
  have V:(k*x).tdiv (-k)=-x:=by rw[Int.tdiv_neg,Int.mul_tdiv_cancel_left x J]
  have Y:(k*y).tdiv (-k)=-y:=by rw[Int.tdiv_neg,Int.mul_tdiv_cancel_left y J]
  rw[e,V,Y];have hn:k<0:=by omega
  have M:k*y<0↔0<y:=⟨λh=>by rcases Int.lt_or_le 0 y with I|I;exact I;exact absurd (Int.mul_nonneg_of_nonpos_of_nonpos (Int.le_of_lt hn) I) (by omega),λh=>Int.mul_neg_of_neg_of_pos hn h⟩
  have I:k*x<0↔0<x:=⟨λh=>by rcases Int.lt_or_le 0 x with I|I;exact I;exact absurd (Int.mul_nonneg_of_nonpos_of_nonpos (Int.le_of_lt hn) I) (by omega),λh=>Int.mul_neg_of_neg_of_pos hn h⟩
  have O:k*y=0↔y=0:=⟨λh=>(Int.mul_eq_zero.1 h).resolve_left J,λh=>by rw[h,Int.mul_zero]⟩
  simp only[M,I,O,Int.neg_neg];split <;> split <;> first|rfl |(exfalso;omega)
theorem Ec {p q:Int} (h:Int.gcd p q≠0):∃k x y:Int,k≠0/\Int.gcd x y=1/\p=k*x/\q=k*y/\low p q=(x,y)/\(0<=y/\(y=0->x=1))/\(x.natAbs<=p.natAbs/\y.natAbs<=q.natAbs):=by
 obtain⟨x,M⟩:((Int.gcd p q:Nat):Int)∣p:=Int.gcd_dvd_left ..;obtain⟨y,O⟩:((Int.gcd p q:Nat):Int)∣q:=Int.gcd_dvd_right ..;obtain⟨g,hg⟩:∃g,Int.gcd p q=g:=⟨_,rfl⟩
 rw[hg]at M O h;have V:(g:Int)≠0:=by omega
 have J:Int.gcd x y=1:=by
  have h2:Int.gcd p q=g*Int.gcd x y:=by rw[M,O,Int.gcd_mul_left];simp
  rw[hg]at h2;exact Nat.eq_of_mul_eq_mul_left (Nat.pos_of_ne_zero h) (by omega)
 have U:=Nj V J;rw[<-M,<-O]at U
 have aK:¬(x=0/\y=0):=by
  rintro⟨rfl,rfl⟩;simp at J
 have Y:x.natAbs<=p.natAbs:=by rw[M,Int.natAbs_mul];exact Nat.le_mul_of_pos_left _ (by omega)
 have Z:y.natAbs<=q.natAbs:=by rw[O,Int.natAbs_mul];exact Nat.le_mul_of_pos_left _ (by omega)
 have I:y=0->x.natAbs=1:=λh=>by rw[h]at J;simpa using J
 by_cases hs:y<0∨(y=0/\x<0)
 ·rw[if_pos hs]at U
  refine⟨-g,-x,-y,by omega,by rw[Int.gcd_neg,Int.neg_gcd];exact J,by rw[M];grind,by rw[O];grind,U,⟨by omega,λh=>?_⟩,by omega,by omega⟩;have:=I (by omega);omega
 ·rw[if_neg hs]at U
  refine⟨g,x,y,V,J,M,O,U,⟨by omega,λh=>?_⟩,Y,Z⟩;have:=I h;omega
theorem Ue {a b c d p q I J M O:Int} (h:Int.gcd (a*p+b*q) (c*p+d*q)≠0) (U:Int.gcd (I*(low (a*p+b*q) (c*p+d*q)).1+J*(low (a*p+b*q) (c*p+d*q)).2) (M*(low (a*p+b*q) (c*p+d*q)).1+O*(low (a*p+b*q) (c*p+d*q)).2)≠0):
  low (I*(low (a*p+b*q) (c*p+d*q)).1+J*(low (a*p+b*q) (c*p+d*q)).2) (M*(low (a*p+b*q) (c*p+d*q)).1+O*(low (a*p+b*q) (c*p+d*q)).2)=low ((I*a+J*c)*p+(I*b+J*d)*q) ((M*a+O*c)*p+(M*b+O*d)*q):=by
 obtain⟨k,x,y,hk,h1,V,Y,e3,-⟩:=Ec h;rw[e3]at U ⊢;dsimp only at U ⊢;obtain⟨l,u,v,hl,g1,Z,f2,f3,-⟩:=Ec U
 have m1:(I*a+J*c)*p+(I*b+J*d)*q=k*l*u:=by
  have:(I*a+J*c)*p+(I*b+J*d)*q=I*(a*p+b*q)+J*(c*p+d*q):=by grind
  rw[this,V,Y,Int.mul_assoc,<-Z];grind
 have m2:(M*a+O*c)*p+(M*b+O*d)*q=k*l*v:=by
  have:(M*a+O*c)*p+(M*b+O*d)*q=M*(a*p+b*q)+O*(c*p+d*q):=by grind
  rw[this,V,Y,Int.mul_assoc,<-f2];grind
 rw[m1,m2,Nj (Int.mul_ne_zero hk hl) g1,Z,f2,Nj hl g1]
end Go.Proofs.YtenlbhlllgppmaaGreatDoor
