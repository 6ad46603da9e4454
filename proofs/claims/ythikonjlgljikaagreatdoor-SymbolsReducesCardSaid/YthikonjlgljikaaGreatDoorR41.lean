/- Contract of Matrix: the coordinates of all symbols, row by row. -/
import Derived.Test.YthikonjlgljikaaGreatDoorR12
import Derived.Test.YthikonjlgljikaaGreatDoorR34
import Derived.Test.YthikonjlgljikaaGreatDoorR40
import Derived.Test.YthikonjlgljikaaGreatDoorR24
set_option linter.unusedSimpArgs false
set_option maxRecDepth 100000
set_option maxHeartbeats 8000000
namespace Go.Proofs.YthikonjlgljikaaGreatDoor
open Go.RowKit Eli
theorem run_appN {P:Program} (K:Value→Prop) (W:World) (t ty E:TypeId) {z:Value} {sz bytes:Nat} (hU:P.underlying t=some (.slice E))
  (hinfo:(P.info? E).map (fun i=>(i.zero,i.size,i.bytes))=some (some z,sz,bytes)) (hzs:z.cells.size=sz) (hsz:0<sz) (B n m g c:Nat) (v:Value) (xs news:List Value)
  (hown:OwnK K W B E sz v n xs) (hn:news.length=m*sz) (hcell:∀ (j:Nat) (u:Value),news[j]?=some u→W.cell? ⟨g,j,none⟩=some u) (h1:∀ u∈news,u.oneCell'=true)
  (hb:(n+m)*bytes≤140737488355328) (hm:n+m≤9223372036854775807) (hB:B≤W.heap.size) (hKn:∀ u∈news,K u) (hKz:∀ u∈z.cells.toList,K u):
  ∃ v' w',(Builtin.append_ #[t,t] ty #[v,.slice (some ⟨g,0,none⟩) m c]).run P W=.ok v' w'∧OwnK K w' B E sz v' (n+m) (xs++news)∧W.grownBy w' v.ownBlock:=by
 obtain⟨i0,hi,hz0,hz1,hz2⟩:=info_parts hinfo
 rcases Nat.eq_zero_or_pos m with rfl|hm0
 ·obtain rfl:news=[]:=List.eq_nil_of_length_eq_zero (by rw[hn,Nat.zero_mul])
  have hsrc:Src P i0.size t (.slice (some ⟨g,0,none⟩) 0 c) 0 [] W:=Src.ofSlice W hU _ 0 c [] (by simp) (fun j u h=>by simp at h) (fun u h=>by cases h)
  obtain⟨a,k,hv,hle⟩:∃ a k,v=.slice a n k∧n≤k:=by
   rcases own_shape hown.1 with⟨rfl,rfl,_⟩ |⟨g',cap,rfl,_,_,hc⟩
   ·exact⟨none,0,rfl,Nat.le_refl _⟩
   ·exact⟨_,cap,rfl,hc⟩
  have hr:=run_append_nothing (P:=P) W t t ty E i0 hU hi a n k hle (.slice (some ⟨g,0,none⟩) 0 c) hsrc
  rw[← hv]at hr
  exact⟨v,W,hr,by rw[List.append_nil,Nat.add_zero];exact hown,⟨rfl,rfl,rfl,Nat.le_refl _,fun _ _ _=>rfl⟩⟩
 ·have hcell2:∀ (j:Nat) (u:Value),news[j]?=some u→W.cell? ((⟨g,0,none⟩:Addr).add j)=some u:=by
   intro j u hu
   have e:(⟨g,0,none⟩:Addr).add j=⟨g,j,none⟩:=by
    unfold Addr.add;split
    ·rename_i h0;rw[h0]
    ·simp
   rw[e]
   exact hcell j u hu
  obtain⟨v',w',hr,g1,g2,_,_⟩:=run_append_own_at (P:=P) W B t ty E i0 z sz bytes hU hi hz0 hz1 hz2 hzs hsz v n xs hown.1 ⟨g,0,none⟩ m c news hn hcell2 h1 hm hb hB
  have g4:=append_stk K W B t ty E i0 z sz bytes hU hi hz0 hz1 hz2 hzs hsz v n xs hown.1 ⟨g,0,none⟩ m c news hn hcell2 h1 hm hb hm0 hown.2 hKn hKz hr
  exact⟨v',w',hr,⟨g1,g4⟩,g2⟩
theorem step_appN {P:Program} {W:World} {ops:Array Oper} {o:Oper} {a:Act} {K':Act→World→Prop} {Q:Exit→Act→World→Prop} {E':Prop} (K:Value→Prop) (hgd:o.guard=none) (s x:Operand) (t E:TypeId)
  (ho:o.op=.call { callee:=.builtin .append,args:=#[s,x],argTypes:=#[t,t] }) {z:Value} {sz bytes:Nat} (hU:P.underlying t=some (.slice E))
  (hinfo:(P.info? E).map (fun i=>(i.zero,i.size,i.bytes))=some (some z,sz,bytes)) (hzs:z.cells.size=sz) (hsz:0<sz) (B n m g c:Nat) (v:Value) (xs news:List Value)
  (hs:a.eval s=v) (hown:OwnK K W B E sz v n xs) (hx:a.eval x=.slice (some ⟨g,0,none⟩) m c) (hn:news.length=m*sz) (hcell:∀ (j:Nat) (u:Value),news[j]?=some u→W.cell? ⟨g,j,none⟩=some u) (h1:∀ u∈news,u.oneCell'=true)
  (hb:(n+m)*bytes≤140737488355328) (hm:n+m≤9223372036854775807) (hB:B≤W.heap.size) (hKn:∀ u∈news,K u) (hKz:∀ u∈z.cells.toList,K u)
  (h:∀ v' w',OwnK K w' B E sz v' (n+m) (xs++news)→W.grownBy w' v.ownBlock→K' (a.put o.dst v') w'):
  if Region.wanted o (yielded ops a.tmps)=true then Oper.wp P o a W K' Q else E':=by
 have hw:Region.wanted o (yielded ops a.tmps)=true:=by simp[Region.wanted,hgd]
 rw[if_pos hw]
 obtain⟨v',w',hr,g1,g2⟩:=run_appN (P:=P) K W t o.type E hU hinfo hzs hsz B n m g c v xs news hown hn hcell h1 hb hm hB hKn hKz
 unfold Oper.wp execOp
 simp only[ho,resolve,invoke,builtin,Sem.run_bind,Sem.run_pure,Result.andThen_ok,List.map_toArray,List.map_cons,List.map_nil,hs,hx,hr]
 exact h v' w' g1 g2
theorem QRow.cellOf {F:Nat→FP} {w:World} {g N:Nat} (h:QRow F w g N N) {i:Nat} (hi:i<N*4):w.cell? ⟨g,i,none⟩=some (cellOf w ⟨g,i,none⟩):=by
 obtain⟨u,hu⟩:=Option.isSome_iff_exists.1 (h.has i hi)
 rw[hu,cellOf_eq hu]
theorem QRow.shape {F:Nat→FP} {w:World} {g N:Nat} (h:QRow F w g N N) {u:Value} (hu:u∈rowCells w g (N*4)):(∃ s,u=.bool s)∨∃ p n c,u=.slice p n c:=by
 obtain⟨i,hj⟩:=List.getElem?_of_mem hu
 have hi:=rowCells_lt hj
 rw[rowCells_get hi]at hj
 injection hj with hj
 subst hj
 obtain⟨s,p,n,c,t,q,m,d,e0,e1,e2,e3,_⟩:=h.val (i / 4) (by omega)
 rcases(by omega:i % 4=0∨i % 4=1∨i % 4=2∨i % 4=3)with h4|h4|h4|h4
 ·rw[show i / 4*4=i by omega]at e0
  exact .inl ⟨s,cellOf_eq e0⟩
 ·rw[show i / 4*4+1=i by omega]at e1
  exact .inr ⟨p,n,c,cellOf_eq e1⟩
 ·rw[show i / 4*4+2=i by omega]at e2
  exact .inl ⟨t,cellOf_eq e2⟩
 ·rw[show i / 4*4+3=i by omega]at e3
  exact .inr ⟨q,m,d,cellOf_eq e3⟩
theorem QRow.one {F:Nat→FP} {w:World} {g N:Nat} (h:QRow F w g N N):∀ u∈rowCells w g (N*4),u.oneCell'=true:=by
 intro u hu
 rcases h.shape hu with⟨s,rfl⟩ |⟨p,n,c,rfl⟩ <;> rfl
theorem QRow.ni {F:Nat→FP} {w:World} {g N:Nat} (h:QRow F w g N N):∀ u∈rowCells w g (N*4),NotInt u:=by
 intro u hu
 rcases h.shape hu with⟨s,rfl⟩ |⟨p,n,c,rfl⟩
 ·exact NotInt.bool _
 ·exact NotInt.slice _ _ _
theorem QRow.cells {F:Nat→FP} {w:World} {g N:Nat} (h:QRow F w g N N):∀ (j:Nat) (u:Value),(rowCells w g (N*4))[j]?=some u→w.cell? ⟨g,j,none⟩=some u:=by
 intro j u hj
 have hl:=rowCells_lt hj
 rw[rowCells_get hl]at hj
 rw[h.cellOf hl,hj]
theorem OwnQ.more {F R:Nat→FP} (hF:∀ j,Solid (F j)) {W w':World} {B n m g:Nat} {v v':Value} {xs:List Value} (h1:OwnK NotInt W B 35 4 v n xs) (h2:∀ j,j<n→QX (F j) W xs (j*4))
  (hr:QRow R W g m m) (h3:OwnK NotInt w' B 35 4 v' (n+m) (xs++rowCells W g (m*4))) (hg:W.grownBy w' v.ownBlock) (e2:∀ j,j<m→F (n+j)=R j):OwnQ F w' B v' (n+m):=by
 have h32:=I32.grown (K:=NotInt) (fun x=>not_int32 x) h1.2 hg
 refine⟨_,h3,fun j hj=>?_⟩
 by_cases hjn:j<n
 ·exact((h2 j hjn).i32 (hF j) h32).app
 ·obtain⟨k,rfl⟩:∃ k,j=n+k:=⟨j - n,by omega⟩
  have hk:k<m:=by omega
  have hl:xs.length=n*4:=h1.1.1
  obtain⟨s,p,c,d,t,q,e,f,c0,c1,c2,c3,hz⟩:=hr.val k hk
  rw[← e2 k hk]at hz
  refine⟨s,p,c,d,t,q,e,f,?_,?_,?_,?_,hF _ _ _ _ _ _ _ _ _ _ _ h32 hz⟩
  ·rw[List.getElem?_append_right (by omega),hl,show(n+k)*4 - n*4=k*4 by omega,rowCells_get (by omega),cellOf_eq c0]
  ·rw[List.getElem?_append_right (by omega),hl,show(n+k)*4+1 - n*4=k*4+1 by omega,rowCells_get (by omega),cellOf_eq c1]
  ·rw[List.getElem?_append_right (by omega),hl,show(n+k)*4+2 - n*4=k*4+2 by omega,rowCells_get (by omega),cellOf_eq c2]
  ·rw[List.getElem?_append_right (by omega),hl,show(n+k)*4+3 - n*4=k*4+3 by omega,rowCells_get (by omega),cellOf_eq c3]
structure MatAt (F:Nat→FP) (w:World) (go B R C m:Nat):Prop where
 lt:go<B
 hB:B≤w.heap.size
 c0:w.cell? ⟨go,0,none⟩=some (.int .i64 (R:Int))
 c1:w.cell? ⟨go,1,none⟩=some (.int .i64 (C:Int))
 c2:∃ p c,w.cell? ⟨go,2,none⟩=some (.slice p m c)∧OwnQ F w B (.slice p m c) m
 fr:w.frozen? ⟨go,2,none⟩=false
 stk:Stk NotU32 w go
theorem MatAt.keep {F:Nat→FP} (hF:∀ j,Solid (F j)) {w w':World} {go B R C m:Nat} (h:MatAt F w go B R C m) (hb:Below w.heap.size w w'):MatAt F w' go B R C m:=by
 obtain⟨p,c,e2,h2⟩:=h.c2
 exact⟨h.lt,Nat.le_trans h.hB hb.size,cell_next hb h.c0,cell_next hb h.c1,⟨p,c,cell_next hb e2,h2.keep hF hb⟩,frozen_keep hb (by rw[e2];rfl) h.fr,h.stk.next hb⟩
theorem OwnQ.box {F:Nat→FP} (hF:∀ j,Solid (F j)) {w w':World} {B n G:Nat} {v:Value} (h:OwnQ F w B v n) (h32:I32 w w') (hg:w.grownBy w' (some G)) (hG:G<B):OwnQ F w' B v n:=by
 obtain⟨xs,h1,h2⟩:=h
 have hne:∀ g,v.ownBlock=some g→some g≠some G:=fun g e e2=>by
  have:=own_ge h1.1 e.symm
  injection e2 with e2;omega
 refine⟨xs,⟨h1.1.kept hg ?_,fun g e=>?_⟩,fun j hj=>(h2 j hj).i32 (hF j) h32⟩
 ·cases hv:v.ownBlock with
  | none=>exact .inl rfl
  | some g=>exact .inr (hne g hv)
 ·have hs:=h1.2 g e
  have hb:=hg.block g hs.1 (hne g e)
  exact⟨Nat.lt_of_lt_of_le hs.1 hg.size,fun i u hu=>hs.2 i u ((World.cell?_of_block (a:=⟨g,i,none⟩) hb).symm.trans hu)⟩
theorem MatAt.more {F:Nat→FP} (hF:∀ j,Solid (F j)) {W w':World} {go B R C m n:Nat} {xs:List Value} {p:Option Addr} {c:Nat} {p':Option Addr} {c':Nat} (h:MatAt F W go B R C m) (hv:W.cell? ⟨go,2,none⟩=some (.slice p m c)) (h1:W.ownsRow B 35 4 (.slice p m c) m xs) (hO:OwnQ F w' B (.slice p' n c') n) (hg:W.grownBy w' (Value.slice p m c).ownBlock):
  w'.cell? ⟨go,2,none⟩=some (.slice p m c)∧w'.frozen? ⟨go,2,none⟩=false∧MatAt F (w'.setCell ⟨go,2,none⟩ (.slice p' n c')) go B R C n:=by
 have hne:some go≠(Value.slice p m c).ownBlock:=fun e=>by
  have:=own_ge h1 e
  have:=h.lt
  omega
 have hgo:go<W.heap.size:=Nat.lt_of_lt_of_le h.lt h.hB
 have hblk:=hg.block go hgo (fun e=>hne e)
 have d2:w'.cell? ⟨go,2,none⟩=some (.slice p m c):=(World.cell?_of_block (a:=⟨go,2,none⟩) hblk).trans hv
 have df:w'.frozen? ⟨go,2,none⟩=false:=(World.frozen?_of_block (a:=⟨go,2,none⟩) hblk).trans h.fr
 have hst:Stk NotU32 w' go:=⟨Nat.lt_of_lt_of_le hgo hg.size,fun i u hu=>h.stk.2 i u ((World.cell?_of_block (a:=⟨go,i,none⟩) hblk).symm.trans hu)⟩
 refine⟨d2,df,h.lt,by simpa using Nat.le_trans h.hB hg.size,?_,?_,⟨p',c',World.cell?_setCell_same' _ _ _ (by rw[d2];rfl),hO.box hF (I32.putU hst 2 _) (but_put w' go 2 _) h.lt⟩,frozen_set df,stk_put hst _ _ (fun _ h=>by cases h)⟩
 ·rw[World.cell?_setCell_other _ _ _ _ (by simp)];exact(World.cell?_of_block (a:=⟨go,0,none⟩) hblk).trans h.c0
 ·rw[World.cell?_setCell_other _ _ _ _ (by simp)];exact(World.cell?_of_block (a:=⟨go,1,none⟩) hblk).trans h.c1
theorem c_Matrix (M B:Nat) (N kk D:Int) (F:List Nat) (C:Nat) (X:Nat→Nat→Rat) (w:World) (h:ModAt w M B N kk D F C X) (hB:B≤w.heap.size) (hC:C≤100) (hFl:F.length≤100)
  (hX:∀ j f,j<C→f∈F→hq (X j f)≤10000):
  Calls Tryz.prog 29 #[.pointer (some ⟨M,0,none⟩)] w fun e w'=>(∃ v,e=.returned (.agg #[.int .i64 C,.int .i64 F.length,v])∧OwnQ (fun p=>IsQ (X (p / F.length) (F.getD (p % F.length) 0))) w' w.heap.size v (C*F.length))∧Below w.heap.size w w':=by
 obtain⟨vf,c3,h3⟩:=h.c3
 obtain⟨pf,cf,rfl⟩:=h3.val
 obtain⟨GR,c4,hGR,h4⟩:=h.c4
 have hML:M<w.heap.size:=Nat.lt_of_lt_of_le h.lt hB
 have hGRL:GR<w.heap.size:=Nat.lt_of_lt_of_le hGR hB
 have HR4:=Kh (show ∀ j,j<C→∃ g,w.cell? ⟨GR,j,none⟩=some (.slice (some ⟨g,0,none⟩) F.length F.length)∧∀ i,i<F.length→QE (IsQ (X j (F.getD i 0))) w g (i*4)from fun j hj=>by
  obtain⟨g,e,hg,hq⟩:=h4 j hj
  exact⟨g,e,fun i hi=>hq i _ (by rw[List.getD_eq_getElem?_getD,List.getElem?_eq_getElem hi];rfl)⟩)
 have HX:=Kh (show ∀ j i,j<C→i<F.length→hq (X j (F.getD i 0))≤1000000000 from fun j i hj hi=>Nat.le_trans (hX j _ hj (by rw[List.getD_eq_getElem?_getD,List.getElem?_eq_getElem hi];exact List.getElem_mem hi)) (by omega))
 have HC3:=Kh c3
 have HC4:=Kh c4
 clear hX h4 h3 h hGR
 go_enter Tryz.func29,Tryz.ntmps29
 go_upto_region 3 with(fail)
 obtain⟨w0,hw0,X0,hb0⟩:=bx1 w #[.int .i64 0,.int .i64 0,.slice none 0 0] 51
 rw[hw0]
 have HX0:=Kh X0
 have HB0:=Kh hb0
 have m3:=cell_next hb0 c3
 have m4:=cell_next hb0 c4
 clear hw0 X0 hb0 c3 c4
 have HS1:=Kh (show ∀ W,Below w0.heap.size w0 W→(W.cell? ⟨M,4,none⟩=some (.slice (some ⟨GR,0,none⟩) C C)∧W.cell? ⟨M,3,none⟩=some (.slice pf F.length cf))from fun W hb=>⟨cell_next hb m4,cell_next hb m3⟩)
 have hS0:=HS1.out _ (Below.refl _ w0).drew
 go_region_held3 (fun W=>W.cell? ⟨M,4,none⟩=some (.slice (some ⟨GR,0,none⟩) C C)∧W.cell? ⟨M,3,none⟩=some (.slice pf F.length cf))
  (first|with_reducible exact hS0|exact HS1.out _ ((Below.refl _ w0).drew.alloc (Nat.le_refl _) _)|exact HS1.out _ (((Below.refl _ w0).alloc (Nat.le_refl _) _).drew) |(exfalso;assumption))
  (fail)
 all_goals go_wp2
 obtain⟨wx,hwx⟩:∃ wx,(w0.alloc (.cells #[.int .i64 C,.int .i64 F.length,.slice none 0 0] 51)).drew=wx:=⟨_,rfl⟩
 have hbx:Below w0.heap.size w0 wx:=hwx▸((Below.refl _ _).alloc (Nat.le_refl _) _).drew
 have Y:Blk wx w0.heap.size 51 #[.int .i64 C,.int .i64 F.length,.slice none 0 0]:=by
  have h:=Blk.new w0 51 #[.int .i64 C,.int .i64 F.length,.slice none 0 0]
  exact hwx▸h.below_ (Below.refl _ _).drew h.lt
 rw[hwx]
 obtain⟨ob,hob⟩:∃ x,w0.heap.size=x:=⟨_,rfl⟩
 obtain⟨gr,hgr⟩:∃ x,w.heap.size=x:=⟨_,rfl⟩
 rw[hob]at Y ⊢
 rw[hgr]at HX0 hML hGRL ⊢
 have HGRO:=Kh (show gr<ob by rw[← hob];exact HX0.out.lt)
 have HGE:=Kh hgr
 have HBX:=Kh (show Below gr w wx from hgr▸HB0.out.trans (hbx.mono HB0.out.size))
 have HXR:=Kh (show Blk wx gr 51 #[.int .i64 0,.int .i64 0,.slice none 0 0]from bk HX0 hbx)
 obtain⟨BB,hBB⟩:∃ x,wx.heap.size=x:=⟨_,rfl⟩
 have HBB:=Kh hBB
 obtain⟨G,hG⟩:∃ G:Nat→FP,(fun p=>IsQ (X (p / F.length) (F.getD (p % F.length) 0)))=G:=⟨_,rfl⟩
 have HGS:=Kh (show ∀ j,Solid (G j)from fun j=>by rw[← hG];exact IsQ.solid _)
 have HGV:=Kh (show ∀ k i,i<F.length→G (k*F.length+i)=IsQ (X k (F.getD i 0))from fun k i hi=>by
  rw[← hG]
  dsimp only
  rw[show(k*F.length+i) / F.length=k by rw[Nat.mul_comm,Nat.mul_add_div (by omega),Nat.div_eq_of_lt hi,Nat.add_zero],show(k*F.length+i) % F.length=i by rw[Nat.mul_comm,Nat.mul_add_mod,Nat.mod_eq_of_lt hi]])
 have HGE2:=Kh hG
 have HM0:=Kh (show MatAt G wx ob BB C F.length (0*F.length)from
  ⟨by rw[← hBB];exact Y.lt,Nat.le_of_eq hBB.symm,Y.at_ 0 rfl,Y.at_ 1 rfl,⟨none,0,by rw[Nat.zero_mul];exact Y.at_ 2 rfl,by rw[Nat.zero_mul];exact OwnQ.nil _ _ _⟩,Y.free_ 2,Stk.of Y (by intro v hv;simp at hv;rcases hv with rfl|rfl|rfl <;> exact fun _ h=>by cases h)⟩)
 clear hwx hbx Y hob hgr hBB hG m3 m4 HS1 hS0 HX0 HB0
 go_loopw [25] (fun ii wr=>∃ k:Nat,k≤C∧ii=.int .i64 k∧MatAt G wr ob BB C F.length (k*F.length)∧wx.grownBy wr (some ob)) (fun ii _=>C - (intOf ii).toNat)
 case atStart=>exact⟨0,Nat.zero_le _,rfl,HM0.out,but_below ob (Below.refl _ _)⟩
 case round=>
  obtain⟨k,hk,rfl,hmat,hgw⟩:=hrel
  obtain⟨we,rfl⟩:∃ we:World,we=wr:=⟨_,rfl⟩
  have HMT:=Kh hmat
  have HGW:=Kh hgw
  clear hmat hgw HM0
  have HBW:=Kh (show Below gr w we from below_but HBX.out HGW.out (by have:=HBB.out;have:=HMT.out.lt;have:=HGRO.out;omega) (Nat.le_of_lt HGRO.out))
  by_cases hlt:k<C
  ·have hki:(k:Int)<(C:Int):=by omega
   obtain⟨g,rr,hq⟩:=HR4.out k hlt
   have hbw:=HBW.out
   rw[← HGE.out]at hbw
   have r4:=(HBW.out.cell (p:=⟨GR,k,none⟩) hGRL).trans rr
   have HFR:=Kh (c_fresh g F.length (fun i=>X k (F.getD i 0)) we.drew (fun i hi=>(hq i hi).keep (IsQ.solid _) hbw.drew) (by omega) (fun i hi=>HX.out k i hlt hi))
   obtain⟨p,c,g2,xs,hK,hXX⟩:=HMT.out.c2
   obtain⟨m,hm⟩:∃ x,k*F.length=x:=⟨_,rfl⟩
   have hml:m≤10000:=by rw[← hm];exact Nat.mul_le_mul (by omega:k≤100) hFl
   rw[hm]at g2 hK hXX HMT
   have HKC:=Kh (show m+F.length=(k+1)*F.length by rw[← hm,Nat.add_mul,Nat.one_mul])
   have HGV2:=Kh (show ∀ j,j<F.length→G (m+j)=IsQ (X k (F.getD j 0))from fun j hj=>by rw[← hm];exact HGV.out k j hj)
   have HKK:=Kh (show ∀ W,Below we.heap.size we W→OwnK NotInt W BB 35 4 (.slice p m c) m xs from fun W hb=>hK.keep hb)
   have HXK:=Kh (show ∀ W,Below we.heap.size we W→∀ j,j<m→QX (G j) W xs (j*4)from fun W hb j hj=>(hXX j hj).i32 (HGS.out j) (I32.below hb))
   have HCL:=Kh (show ∀ W,Below we.heap.size we W→W.cell? ⟨ob,2,none⟩=some (.slice p m c)from fun W hb=>cell_next hb g2)
   have hobl:ob<we.heap.size:=Nat.lt_of_lt_of_le HMT.out.lt HMT.out.hB
   clear rr hq hbw hK hXX hm
   go_upto_region 7 with(fail)
   refine rgB (fun W=>W.cell? ⟨ob,2,none⟩=some (.slice p m c)∧W.frozen? ⟨ob,2,none⟩=false) (fun W hb=>⟨cnx hb g2,frozen_keep hb (by rw[g2];rfl) (HMT.out.fr)⟩) (fun HSE hHeld0=>?_)
   refine tkE 0 ?_;refine tkE 1 ?_;refine tkE 2 ?_
   refine stE 3 rfl (fun K hK=>?_)
   focus(go_simp;(with_reducible refine HFR.out.mono ?_);rintro e w5 ⟨⟨g5,rfl,hg5,hrow5⟩,hb5⟩;have HB5:=Kh ((Below.refl _ we).drew.trans hb5:Below we.heap.size we w5);have HRW:=Kh hrow5;clear hg5 hrow5 hb5;(first|with_reducible refine hK.out _ _ ?_ (fun hHeld1=>?_) |(go_wp2_with fail;with_reducible refine hK.out _ _ ?_ (fun hHeld1=>?_))))
   focus((try dsimp only);exact HSE.out _ HB5.out)
   focus(clear hK K;(try simp only[Act.put,lsa,lsz,lss]))
   refine stE 4 rfl (fun K hK=>?_)
   focus(refine step_appN (W:=w5) NotInt rfl (.tmp 30) (.tmp 32) _ 35 rfl Tryz.underlying24 ratInfo rfl (by decide) BB m F.length g5 F.length (.slice p m c) xs (rowCells w5 g5 (F.length*4)) (by rfl) (HKK.out _ HB5.out) (by rfl) (rowCells_length _ _ _) HRW.out.cells HRW.out.one (by omega) (by omega) (Nat.le_trans HMT.out.hB HB5.out.size) HRW.out.ni niz ?_;intro v9 w9 hown9 hgr9;obtain⟨p9,c9,rfl⟩:=own_slice hown9.1;have HO9:=Kh (OwnQ.more HGS.out (HKK.out _ HB5.out) (HXK.out _ HB5.out) HRW.out hown9 hgr9 HGV2.out);obtain⟨d2,df,hm9⟩:=MatAt.more HGS.out (HMT.out.keep HGS.out HB5.out) (HCL.out _ HB5.out) (HKK.out _ HB5.out).1 HO9.out hgr9;have HM9:=Kh hm9;have HSP:=Kh (And.intro d2 df);have HG9:=Kh ((grown_own (HGW.out.trans (but_below ob HB5.out)) hgr9 HBB.out.symm (fun b hb=>own_ge (HKK.out _ HB5.out).1 hb.symm)).trans (but_put w9 ob 2 (.slice p9 (m+F.length) c9)));clear hm9 hown9 hgr9 d2 df;(first|with_reducible refine hK.out _ _ ?_ (fun hHeld2=>?_) |(go_wp2_with fail;with_reducible refine hK.out _ _ ?_ (fun hHeld2=>?_))))
   focus((try dsimp only);exact HSP.out)
   focus(clear hK K;(try simp only[Act.put,lsa,lsz,lss]))
   refine tkE 5 ?_
   refine laE 6 rfl (fun K hK=>?_)
   go_simp
   refine hK.out _ _ ?_
   clear hK K
   (try simp only[Act.put,lsa,lsz,lss])
   all_goals go_wp2
   all_goals go_roundw
   all_goals first
    | exact⟨k+1,by omega,by go_num,by rw[← HKC.out];exact HM9.out,HG9.out⟩
    |(simp[intOf];omega)
  ·obtain rfl:C=k:=by omega
   obtain⟨p,c,g2,hOQ⟩:=HMT.out.c2
   have hgo:gr≠ob:=Nat.ne_of_lt HGRO.out
   have hblk:=HGW.out.block gr (by rw[HBB.out];have:=HGRO.out;have:=HMT.out.lt;omega) (fun e=>by injection e with e;exact hgo e)
   have r0:=HGW.out.cell (HXR.out.at_ 0 rfl) (fun e=>by injection e with e;exact hgo e)
   have r1:=HGW.out.cell (HXR.out.at_ 1 rfl) (fun e=>by injection e with e;exact hgo e)
   have r2:=HGW.out.cell (HXR.out.at_ 2 rfl) (fun e=>by injection e with e;exact hgo e)
   have f0:we.frozen? ⟨gr,0,none⟩=false:=(World.frozen?_of_block (a:=⟨gr,0,none⟩) hblk).trans (HXR.out.free_ 0)
   have f1:we.frozen? ⟨gr,1,none⟩=false:=(World.frozen?_of_block (a:=⟨gr,1,none⟩) hblk).trans (HXR.out.free_ 1)
   have f2:we.frozen? ⟨gr,2,none⟩=false:=(World.frozen?_of_block (a:=⟨gr,2,none⟩) hblk).trans (HXR.out.free_ 2)
   have hstB:Stk NotU32 wx gr:=Stk.of HXR.out (by intro v hv;simp at hv;rcases hv with rfl|rfl|rfl <;> exact fun _ h=>by cases h)
   have hst:Stk NotU32 we gr:=⟨Nat.lt_of_lt_of_le hstB.1 HGW.out.size,fun i u hu=>hstB.2 i u ((World.cell?_of_block (a:=⟨gr,i,none⟩) hblk).symm.trans hu)⟩
   have a0:=HMT.out.c0
   have a1:=HMT.out.c1
   have HE3:=Kh (put3_at (w:=we) (R:=gr) (v0:=.int .i64 (C:Int)) (v1:=.int .i64 (F.length:Int)) (v2:=.slice p (C*F.length) c) (by rw[r0];rfl) (by rw[r1];rfl) (by rw[r2];rfl))
   have HI3:=Kh (put3_32 hst (v0:=.int .i64 (C:Int)) (v1:=.int .i64 (F.length:Int)) (v2:=.slice p (C*F.length) c) (fun _ h=>by cases h) (fun _ h=>by cases h))
   have HG3:=Kh (((but_put we gr 0 (.int .i64 (C:Int))).trans (but_put _ gr 1 (.int .i64 (F.length:Int)))).trans (but_put _ gr 2 (.slice p (C*F.length) c)))
   have HOQ:=Kh hOQ
   clear hOQ hblk hstB hst
   go_wp2
   have e0:=HE3.out.1
   have e1:=HE3.out.2.1
   have e2:=HE3.out.2.2
   try simp only[Exit.inBlock,Exit.then]
   refine bodyPost_ret (by simp[results,Tryz.results29,go_sem,e0,e1,e2];try rfl) rfl ?_
   refine⟨⟨_,rfl,?_⟩,?_⟩
   ·rw[HGE2.out]
    obtain⟨xs,h1,h2⟩:=HOQ.out.box HGS.out HI3.out HG3.out (by have:=HGRO.out;have:=HMT.out.lt;omega)
    exact⟨xs,⟨⟨h1.1.1,by
     rcases h1.1.2 with h |⟨g',cap,cs,e,hB',hr⟩
     ·exact .inl h
     ·exact .inr ⟨g',cap,cs,e,by have:=HGE.out;have:=HGRO.out;have:=HMT.out.lt;omega,hr⟩⟩,h1.2⟩,h2⟩
   ·exact below_but (HGE.out▸HBW.out) HG3.out (by have:=HBW.out.size;have:=HGE.out;omega) (by have:=HGE.out;omega)
end Go.Proofs.YthikonjlgljikaaGreatDoor
namespace Go.Proofs.YthikonjlgljikaaGreatDoor
open Go.RowKit
def IsS (x y:Int):FP:=fun w s p n c t q m d=>Zs w s p n c x∧Zs w t q m d y∧n≤1000∧m≤1000
theorem IsS.solid (x y:Int):Solid (IsS x y):=fun _ _ _ _ _ _ _ _ _ _ h hq=>⟨hq.1.i32 h,hq.2.1.i32 h,hq.2.2⟩
theorem c_CopyIntS (s:Bool) (p:Option Addr) (n c:Nat) (z:Int) (w:World) (h:Zs w s p n c z) (hn:n≤1000):
  Calls Tryz.prog 89 #[.agg #[.bool s,.slice p n c]] w fun e w'=>(∃ p' c',e=.returned (.agg #[.bool s,.slice p' n c'])∧Zs w' s p' n c' z)∧Below w.heap.size w w':=by
 obtain⟨hz,hz1,hd⟩:=h
 have HZ1:=Kh hz1
 have hd:Dg w p c n (dg z.natAbs):=hz1▸(show Dg w p c (nd z.natAbs) (dg z.natAbs)from hd)
 clear hz1
 have HZ:=Kh hz
 have HD:=Kh hd
 clear hd hz
 go_enter Tryz.func89,Tryz.ntmps89
 go_upto_region 1 with(fail)
 obtain⟨w0,hw0,X0,X1,hb0⟩:=bx2 w #[.bool s,.slice p n c] 33 #[.bool false,.slice none 0 0] 33
 rw[hw0]
 have hs0:w.heap.size≤w0.heap.size:=hb0.size
 clear hw0
 have HB:=Kh hb0
 have HX1:=Kh X1
 have T1:=Sts.of X1 (by intro v hv;simp at hv;rcases hv with rfl|rfl <;> first|exact NotInt.bool _|exact NotInt.slice _ _ _)
 have hS1:w0.cell? ⟨w.heap.size,0,none⟩=some (.bool s)∧w0.cell? ⟨w.heap.size,1,none⟩=some (.slice p n c)∧w0.cell? ⟨w.heap.size+1,0,none⟩=some (cellOf w0 ⟨w.heap.size+1,0,none⟩)∧w0.frozen? ⟨w.heap.size+1,0,none⟩=false∧Sts w0 (w.heap.size+1)∧w0.cell? ⟨w.heap.size+1,1,none⟩=some (cellOf w0 ⟨w.heap.size+1,1,none⟩)∧w0.frozen? ⟨w.heap.size+1,1,none⟩=false∧Sts w0 (w.heap.size+1)∧Below w.heap.size w w0∧w.heap.size≤w0.heap.size:=⟨X0.at_ 0 rfl,X0.at_ 1 rfl,cellOf_some (by rw[X1.at_ 0 rfl];rfl),X1.free_ 0,T1,cellOf_some (by rw[X1.at_ 1 rfl];rfl),X1.free_ 1,T1,hb0,hs0⟩
 have hS0:w0.drew.cell? ⟨w.heap.size,0,none⟩=some (.bool s)∧w0.drew.cell? ⟨w.heap.size,1,none⟩=some (.slice p n c)∧w0.drew.cell? ⟨w.heap.size+1,0,none⟩=some (cellOf w0.drew ⟨w.heap.size+1,0,none⟩)∧w0.drew.frozen? ⟨w.heap.size+1,0,none⟩=false∧Sts w0.drew (w.heap.size+1)∧w0.drew.cell? ⟨w.heap.size+1,1,none⟩=some (cellOf w0.drew ⟨w.heap.size+1,1,none⟩)∧w0.drew.frozen? ⟨w.heap.size+1,1,none⟩=false∧Sts w0.drew (w.heap.size+1)∧Below w.heap.size w w0.drew∧w.heap.size≤w0.drew.heap.size:=S2_2_next (Below.refl _ w0).drew hS1
 have hS2:(w0.alloc (.cells #[] 187)).drew.cell? ⟨w.heap.size,0,none⟩=some (.bool s)∧(w0.alloc (.cells #[] 187)).drew.cell? ⟨w.heap.size,1,none⟩=some (.slice p n c)∧(w0.alloc (.cells #[] 187)).drew.cell? ⟨w.heap.size+1,0,none⟩=some (cellOf (w0.alloc (.cells #[] 187)).drew ⟨w.heap.size+1,0,none⟩)∧(w0.alloc (.cells #[] 187)).drew.frozen? ⟨w.heap.size+1,0,none⟩=false∧Sts (w0.alloc (.cells #[] 187)).drew (w.heap.size+1)∧(w0.alloc (.cells #[] 187)).drew.cell? ⟨w.heap.size+1,1,none⟩=some (cellOf (w0.alloc (.cells #[] 187)).drew ⟨w.heap.size+1,1,none⟩)∧(w0.alloc (.cells #[] 187)).drew.frozen? ⟨w.heap.size+1,1,none⟩=false∧Sts (w0.alloc (.cells #[] 187)).drew (w.heap.size+1)∧Below w.heap.size w (w0.alloc (.cells #[] 187)).drew∧w.heap.size≤(w0.alloc (.cells #[] 187)).drew.heap.size:=S2_2_next ((Below.refl _ w0).alloc (Nat.le_refl _) _).drew hS1
 clear X0 X1
 go_region_held3 (fun w1=>w1.cell? ⟨w.heap.size,0,none⟩=some (.bool s)∧w1.cell? ⟨w.heap.size,1,none⟩=some (.slice p n c)∧w1.cell? ⟨w.heap.size+1,0,none⟩=some (cellOf w1 ⟨w.heap.size+1,0,none⟩)∧w1.frozen? ⟨w.heap.size+1,0,none⟩=false∧Sts w1 (w.heap.size+1)∧w1.cell? ⟨w.heap.size+1,1,none⟩=some (cellOf w1 ⟨w.heap.size+1,1,none⟩)∧w1.frozen? ⟨w.heap.size+1,1,none⟩=false∧Sts w1 (w.heap.size+1)∧Below w.heap.size w w1∧w.heap.size≤w1.heap.size)
  (first|with_reducible exact hS0|with_reducible exact hS2|with_reducible exact S2_2_next hbw hS1 |(refine S2_2_next (by with_reducible assumption) ?_;assumption) |(refine S2_2_put ?_ ?_ ?_ ?_ ?_ ?_ ?_ ?_ ?_ <;> first|assumption|exact NotInt.bool _|exact NotInt.slice _ _ _ |(dsimp only;omega) |(simp;done)))
  (first
   |(refine step_clone (by rfl) _ _ (by rfl) u32U u32Info w0.heap.size (by rfl) (World.ownsRow_made w0.drew #[] 0 (Nat.le_refl _) (Nat.zero_le _) rfl) (by rfl) (HD.out.keep (by go_grown)) hn (by simp) ?_;intro p' c' w' hd' hgr;have hbw:Below w0.heap.size w0 w':=(((Below.refl _ w0).drew.alloc (Nat.le_refl _) (.cells #[] 187)).grown hgr (by simp) (by intro k hk;injection hk with hk;subst hk;exact Nat.le_refl _));have HZ2:=Kh (show Zs _ s p' n c' z from Zs.i32 (I32.put2 (T1.next hbw) 0 1 (.bool s) (.slice p' n c') (NotInt.bool _)) ⟨HZ.out,HZ1.out,(show Dg _ p' c' (nd z.natAbs) (dg z.natAbs)from HZ1.out.symm▸hd')⟩);have r0:w'.cell? ⟨w.heap.size+1,0,none⟩=some (.bool false):=(bk HX1 hbw).at_ 0 rfl;have r1:w'.cell? ⟨w.heap.size+1,1,none⟩=some (.slice none 0 0):=(bk HX1 hbw).at_ 1 rfl;clear hd' hgr))
 go_wp2
 try simp only[Exit.inBlock,Exit.then]
 refine bodyPost_ret (by simp[results,Tryz.results89,go_sem,r0,r1];try rfl) rfl ?_
 exact⟨⟨p',c',rfl,HZ2.out⟩,S2_2_below (by assumption)⟩
theorem c_CopyRatS (s:Bool) (p:Option Addr) (n c:Nat) (x:Int) (t:Bool) (q:Option Addr) (m d:Nat) (y:Int) (w:World) (h:IsS x y w s p n c t q m d):
  Calls Tryz.prog 47 #[.agg #[.bool s,.slice p n c,.bool t,.slice q m d]] w fun e w'=>(∃ p' c' q' d',e=.returned (.agg #[.bool s,.slice p' n c',.bool t,.slice q' m d'])∧IsS x y w' s p' n c' t q' m d')∧Below w.heap.size w w':=by
 obtain⟨h1,h2,h3,h4⟩:=h
 have H1:=Kh (fun w1 (hb:Below w.heap.size w w1)=>c_CopyIntS s p n c x w1 (h1.keep hb) (by omega))
 have H2:=Kh (fun w1 (hb:Below w.heap.size w w1)=>c_CopyIntS t q m d y w1 (h2.keep hb) (by omega))
 clear h1 h2
 go_enter Tryz.func47,Tryz.ntmps47
 go_upto_region 1 with(fail)
 obtain⟨w0,hw0,X0,X1,hb0⟩:=bx2 w #[.bool s,.slice p n c,.bool t,.slice q m d] 35 #[.bool false,.slice none 0 0,.bool false,.slice none 0 0] 35
 rw[hw0]
 have hs0:w.heap.size≤w0.heap.size:=hb0.size
 clear hw0
 have M1:True:=trivial
 have T1:=Sts.of X1 (by intro v hv;simp at hv;rcases hv with rfl|rfl|rfl|rfl <;> first|exact NotInt.bool _|exact NotInt.slice _ _ _)
 have hS0:=S4_4_next (Below.refl _ w0).drew ⟨X0.c0,X0.c1,X0.c2,X0.c3,X1.so 0,X1.free_ 0,T1,X1.so 1,X1.free_ 1,T1,X1.so 2,X1.free_ 2,T1,X1.so 3,X1.free_ 3,T1,hb0,hs0⟩
 clear X0 X1
 go_region_held3 (fun w1=>w1.cell? ⟨w.heap.size,0,none⟩=some (.bool s)∧w1.cell? ⟨w.heap.size,1,none⟩=some (.slice p n c)∧w1.cell? ⟨w.heap.size,2,none⟩=some (.bool t)∧w1.cell? ⟨w.heap.size,3,none⟩=some (.slice q m d)∧w1.cell? ⟨w.heap.size+1,0,none⟩=some (cellOf w1 ⟨w.heap.size+1,0,none⟩)∧w1.frozen? ⟨w.heap.size+1,0,none⟩=false∧Sts w1 (w.heap.size+1)∧w1.cell? ⟨w.heap.size+1,1,none⟩=some (cellOf w1 ⟨w.heap.size+1,1,none⟩)∧w1.frozen? ⟨w.heap.size+1,1,none⟩=false∧Sts w1 (w.heap.size+1)∧w1.cell? ⟨w.heap.size+1,2,none⟩=some (cellOf w1 ⟨w.heap.size+1,2,none⟩)∧w1.frozen? ⟨w.heap.size+1,2,none⟩=false∧Sts w1 (w.heap.size+1)∧w1.cell? ⟨w.heap.size+1,3,none⟩=some (cellOf w1 ⟨w.heap.size+1,3,none⟩)∧w1.frozen? ⟨w.heap.size+1,3,none⟩=false∧Sts w1 (w.heap.size+1)∧Below w.heap.size w w1∧w.heap.size≤w1.heap.size)
  (first|with_reducible exact hS0 |(refine S4_4_next (by with_reducible assumption) ?_;assumption) |(refine S4_4_put ?_ ?_ ?_ ?_ ?_ ?_ ?_ ?_ ?_ ?_ ?_ ?_ ?_ ?_ ?_ ?_ ?_ ?_ ?_ ?_ ?_ ?_ ?_ ?_ ?_ <;> first|assumption|exact NotInt.bool _|exact NotInt.slice _ _ _ |(dsimp only;omega) |(simp;done)))
  (first
   |(go_at_call 89;clear M1;refine(H1.out _ (S4_4_below (by with_reducible assumption))).mono ?_;rintro e w2 ⟨⟨p2,c2,rfl,hz2⟩,hb2⟩;have HA2:=Kh hz2;clear hz2)
   |(go_at_call 89;refine(H2.out _ (S4_4_below (by with_reducible assumption))).mono ?_;rintro e w3 ⟨⟨p3,c3,rfl,hz3⟩,hb3⟩;obtain⟨⟨hR0,hT⟩,⟨hR1,_⟩,⟨hR2,_⟩,⟨hR3,_⟩⟩:=S4_4_end hb3 (by with_reducible assumption);have HA3:=Kh (show IsS x y _ s p2 n c2 t p3 m c3 from IsS.solid x y w3 _ s p2 n c2 t p3 m c3 (I32.put4 hT 0 1 2 3 (.bool s) (.slice p2 n c2) (.bool t) (.slice p3 m c3) (NotInt.bool _) (NotInt.slice _ _ _) (NotInt.bool _)) ⟨HA2.out.keep hb3,hz3,h3,h4⟩);clear hz3 hb2 hT HA2))
 go_wp2
 try simp only[Exit.inBlock,Exit.then]
 refine bodyPost_ret (by simp[results,Tryz.results47,go_sem,hR0,hR1,hR2,hR3];try rfl) rfl ?_
 exact⟨⟨p2,c2,p3,c3,rfl,HA3.out⟩,S4_4_below (by assumption)⟩
theorem c_CopyRatsS (v:Value) (n:Nat) (x y:Nat→Int) (w:World) (h:QL (fun j=>IsS (x j) (y j)) w v n) (hn:n≤1000000):
  Calls Tryz.prog 13 #[v] w fun e w'=>(∃ v',e=.returned v'∧OwnQ (fun j=>IsS (x j) (y j)) w' w.heap.size v' n)∧Below w.heap.size w w':=by
 have HN:=Kh (OwnQ.nil (fun j=>IsS (x j) (y j)) w w.heap.size)
 rcases Nat.eq_zero_or_pos n with rfl|hpos
 ·have e1:∃ a c,v=.slice a 0 c:=by
   rcases h with⟨_,h⟩ |⟨_,_,_,e,_⟩
   ·exact h
   ·exact⟨_,_,e⟩
  obtain⟨a1,c1,rfl⟩:=e1
  clear h
  go_enter Tryz.func13,Tryz.ntmps13
  go_wp2
  go_loopw [3,4] (fun v i wr=>v=.slice none 0 0∧i=.int .i64 0∧wr=w) (fun _ _ _=>0)
  case atStart=>exact⟨rfl,rfl,rfl⟩
  case round=>
   obtain⟨rfl,rfl,rfl⟩:=hrel
   go_wp2
   go_ret
   exact⟨⟨_,rfl,HN.out⟩,Below.refl _ _⟩
 ·obtain⟨g1,o1,l1,rfl,hg1,r1⟩:=h.resolve_left (fun h=>by omega)
  have R1:=Kh r1
  clear h r1
  go_enter Tryz.func13,Tryz.ntmps13
  go_wp2
  go_loopw [3,4] (fun v i wr=>∃ k:Nat,k≤n∧i=.int .i64 k∧OwnQ (fun j=>IsS (x j) (y j)) wr w.heap.size v k∧Below w.heap.size w wr) (fun _ i _=>n - (intOf i).toNat)
  case atStart=>exact⟨0,Nat.zero_le _,rfl,HN.out,Below.refl _ _⟩
  case round=>
   obtain⟨k,hk,rfl,ho,hb⟩:=hrel
   have HO:=Kh ho
   have HB:=Kh hb
   clear ho HN
   by_cases hlt:k<n
   ·obtain⟨s,p,i1,c,t,q,m,d,a0,a1,a2,a3,hx⟩:=(R1.out k hlt).keep (IsS.solid _ _) hb
    have HC:=Kh (c_CopyRatS s p i1 c (x k) t q m d (y k) wr hx)
    clear hx hb
    go_wp2_with fail
    refine HC.out.mono ?_
    rintro e w2 ⟨⟨p1,c1,q1,d1,rfl,hq⟩,hb2⟩
    obtain⟨xs,hK,hX⟩:=HO.out.keep (fun _=>IsS.solid _ _) hb2
    have HK:=Kh hK
    have HX:=Kh hX
    have HQ:=Kh hq
    have HB1:=bt HB hb2
    clear hK hX hq hb2 HO HB a0 a1 a2 a3 HC
    go_wp2_with (at_builtin;refine wpl_app2 NotInt rfl (.tmp 11) (.tmp 17) _ 35 rfl Tryz.underlying24 ratInfo rfl (by decide) w.heap.size k u3 xs [.bool s,.slice p1 i1 c1,.bool t,.slice q1 m d1] rfl HK.out rfl rfl (one4 _ _ _ _ _ _ _ _) (by omega) (by omega) HB1.out.size (ni4 _ _ _ _ _ _ _ _) niz ?_;intro v' w' hown' hgr hat;have HO2:=Kh (OwnQ.push (W:=_) (fun _=>IsS.solid _ _) HK.out HX.out HQ.out hown' hgr);have HB2:=Kh (own_below HB1.out HK.out.1 hgr (Nat.le_refl _) HB1.out.size);clear hown' hgr hat)
    go_roundw
    case rel=>exact⟨k+1,by omega,by go_num,HO2.out,HB2.out⟩
    case measure=>simp[intOf];omega
   ·obtain rfl:k=n:=by omega
    clear hb
    go_wp2
    go_ret
    exact⟨⟨_,rfl,HO.out⟩,HB.out⟩
end Go.Proofs.YthikonjlgljikaaGreatDoor
