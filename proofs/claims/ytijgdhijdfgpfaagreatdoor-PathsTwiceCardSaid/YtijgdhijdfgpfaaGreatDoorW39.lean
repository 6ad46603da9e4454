/- The statement PathsTwice: for every path and every two matrices the law's function returns true; its arguments read as they read before. Condition: the library's table of bit positions holds what the program's text lays (the card ties it). -/
import Derived.Test.YtijgdhijdfgpfaaGreatDoorW22
import Derived.Test.YtijgdhijdfgpfaaGreatDoorW38
import Derived.Test.YtijgdhijdfgpfaaGreatDoorCards
import Derived.Test.YtijgdhijdfgpfaaGreatDoorTie
import Derived.ProofKit
import Derived.OpenShut
import Derived.Deep.DeepHandedRow
import Derived.Lib.LaidTab
import Derived.Lib.SmallJoins
import Derived.ReadAgain
set_option linter.unusedSimpArgs false
set_option maxRecDepth 100000
namespace Go.Proofs.YtijgdhijdfgpfaaGreatDoor.lawTwice
open Go.ChangeShapes Go.WideShapes Go.ChangeAt Go.RowKit Go.Joins
section
variable {H:Type} {enc:TypeId×Value→H} {P:Program}
theorem post_of_below {f:Func} {s:ChangeSpec} {apart fresh handsOn again:Bool} {W W':World} {args:Array Value} {v:Value} {ds gs:List (DataW H)} {before pa pv:List MemPlace}
  (hW:DataW.Whole enc P f.params.toList s.vars apart W args.toList ds gs before)
  (hres:∀ (b:Nat) (sp:Nat→Bool) (hd:Bool),DataW.TrodAll enc P W' b sp hd f.resultTypes.toList (v.resultList f.resultTypes.size) (s.fn H (ds++gs)).results [])
  (hargs:∀ sp:Nat→Bool,(∀ p∈before,sp p.block=true)→DataW.TrodAll enc P W' 0 sp true f.params.toList args.toList (s.fn H (ds++gs)).args pa)
  (hvars:∀ sp:Nat→Bool,(∀ p∈before,sp p.block=true)→DataW.TrodVars enc P W' sp s.vars (s.fn H (ds++gs)).vars pv)
  (hps:before=pa++pv) (hb:Below W.heap.size W W')
  (hok:∀ (j:Nat) (t:TypeId) (r:Value),f.resultTypes[j]?=some t→(v.resultList f.resultTypes.size)[j]?=some r→Value.okWide P W' .any 0 t r):
  s.post enc P f apart fresh handsOn again W args v W':=by
 have hlt:∀ p∈before,p.block<W.heap.size:=fun p hp=>hW.lt p hp
 have hold:∀ p∈before,(fun b=>decide (b<W.heap.size)) p.block=true:=fun p hp=>by simpa using hlt p hp
 refine⟨ds,gs,before,[],pa,pv,hW,hres _ _ _,hargs _ hold,hvars _ hold,World.keptBut_mono (fun p hp=>⟨hp,?_⟩) (hb.frame (·∈before)),fun _=>?_⟩
 ·rw[hps,List.mem_append]at hp
  exact Or.inr hp
 ·obtain⟨_,_,_,_,_,hz,hn⟩:=hW
  refine⟨hok,_,_,([]++pa)++pv,⟨[]++pa,pv,trodAll_append (hargs _ (fun _ _=>rfl)) (hres _ _ _),hvars _ (fun _ _=>rfl),rfl,?_,?_⟩,?_⟩
  ·intro b off hp
   have hin:MemPlace.cell b off∈before:=by rw[hps];simpa using hp
   rw[hb.frozen (hlt _ hin)]
   exact hz b off hin
  ·intro ha
   have:=hn ha
   rw[hps]at this
   simpa using this
  ·intro p hp _
   rw[hps]
   simpa using hp
end
theorem own:ownKnob Tryz.prog.godebug=none:=by kernel_rfl
theorem gTab:Tryz.prog.globalNamed "math/bits.deBruijn64tab"=some 0:=by kernel_rfl
theorem gTabType:(Tryz.prog.globals[0]?).map (·.type)=some 200:=by kernel_rfl
theorem cellsTab:Tryz.prog.cellsOf 200=64:=by kernel_rfl
theorem cellsU8:Tryz.prog.cellsOf 5=1:=by kernel_rfl
theorem cellsMat:Tryz.prog.cellsOf 28=4:=by kernel_rfl
theorem array8 {α:Type} {cs:Array α} (h:cs.size=8):∃ c0 c1 c2 c3 c4 c5 c6 c7,cs=#[c0,c1,c2,c3,c4,c5,c6,c7]:=by
 obtain⟨l⟩:=cs
 match l,h with
 | [c0,c1,c2,c3,c4,c5,c6,c7],_=>exact⟨c0,c1,c2,c3,c4,c5,c6,c7,rfl⟩
theorem cellsMats:Tryz.prog.cellsOf 58=8:=by kernel_rfl
theorem cellsInt:Tryz.prog.cellsOf 3=1:=by kernel_rfl
section
variable {H:Type} {enc:TypeId×Value→H} {w:World} {base:Nat} {sp:Nat→Bool} {hd:Bool}
theorem mat_ints {n:Nat} {c0 c1 c2 c3:Value} {y:DataW H×List MemPlace} (h:DataW.trod enc Tryz.prog w base sp hd n 28 [c0,c1,c2,c3]=some y):∃ a b c d:Int,c0=.int .i64 a∧c1=.int .i64 b∧c2=.int .i64 c∧c3=.int .i64 d:=by
 obtain⟨y0,y1,y2,y3,m,_,_,h0,h1,h2,h3⟩:=trod_struct4 Tryz.underlying28 h
 dsimp only at h0 h1 h2 h3
 rw[cellsInt]at h0 h1 h2 h3
 obtain⟨a,e0,_,_⟩:=DataW.trod_int Tryz.underlying3 h0
 obtain⟨b,e1,_,_⟩:=DataW.trod_int Tryz.underlying3 h1
 obtain⟨c,e2,_,_⟩:=DataW.trod_int Tryz.underlying3 h2
 obtain⟨d,e3,_,_⟩:=DataW.trod_int Tryz.underlying3 h3
 simp at e0 e1 e2 e3
 exact⟨a,b,c,d,e0,e1,e2,e3⟩
theorem open_mats {v:Value} {d:DataW H} {ps:List MemPlace} (h:DataW.Trod enc Tryz.prog w base sp hd 58 v d ps):
  ∃ a b c d a' b' c' d':Int,v=.agg #[.int .i64 a,.int .i64 b,.int .i64 c,.int .i64 d,.int .i64 a',.int .i64 b',.int .i64 c',.int .i64 d']:=by
 obtain⟨fuel,hf⟩:=h
 obtain⟨xs,m,_,_,hl,hlen,hx⟩:=DataW.trod_array Tryz.underlying58 hf
 rw[cellsMats]at hl
 have hv:∃ cs:Array Value,v=.agg cs∧cs.size=8:=by
  cases v <;> first|exact⟨_,rfl,by simpa [Value.cells] using hl⟩ |(simp[Value.cells]at hl)
 obtain⟨cs,rfl,hsz⟩:=hv
 obtain⟨c0,c1,c2,c3,c4,c5,c6,c7,rfl⟩:=array8 hsz
 have h0:=hx 0 (by omega)
 have h1:=hx 1 (by omega)
 rw[cellsMat,List.getElem?_eq_getElem (by omega)]at h0 h1
 obtain⟨a,b,c,e,rfl,rfl,rfl,rfl⟩:=mat_ints h0
 obtain⟨a',b',c',e',rfl,rfl,rfl,rfl⟩:=mat_ints h1
 exact⟨a,b,c,e,a',b',c',e',rfl⟩
end
def tabInts:List Int:=Lib.deBruijn64tab.map fun(n:Nat)=>(n:Int)
theorem table {W:World} (h:laidMetH Tryz.prog Rows.pathsTwiceRow.laid W):Lib.TabIs Tryz.prog W "math/bits.deBruijn64tab" .u8 tabInts:=
 Lib.tabIs_of_head (rest:=[]) gTab gTabType Tryz.underlying200 Tryz.underlying5 cellsU8 cellsTab h
theorem tab_num:∀ j,j<64→tabInts.getD j 0=((Lib.deBruijn64tab.getD j 0:Nat):Int):=by decide +kernel
theorem tab_of {W:World} (h:laidMetH Tryz.prog Rows.pathsTwiceRow.laid W):Tab W:=by
 intro j hj
 have h1:=(table h).cell gTab j (Nat.lt_of_lt_of_eq hj (by decide))
 rw[h1,tab_num j hj]
theorem contract (H:Type) (enc:TypeId×Value→H) (W:World) (base:Nat) (args:Array Value) (ds gs:List (DataW H)) (before:List MemPlace)
  (hval:∀ (j:Nat) t v,Tryz.f5.params[j]?=some t→args[j]?=some v→Value.okWide Tryz.prog W .any base t v)
  (hW:DataW.Whole enc Tryz.prog Tryz.f5.params.toList Rows.pathsTwiceSpec.vars false W args.toList ds gs before) (hL:laidMetH Tryz.prog Rows.pathsTwiceRow.laid W):
  Calls Tryz.prog 5 args W fun e W'=>∃ v,e=.returned v∧Rows.pathsTwiceSpec.post enc Tryz.prog Tryz.f5 false true false false W args v W':=by
 have hW':=hW
 obtain⟨p,q,hA0,hV,rfl,hfz,hnd⟩:=hW
 have hA:DataW.TrodAll enc Tryz.prog W 0 (fun _=>true) true Tryz.f5.params.toList args.toList ds p:=hA0
 rw[Tryz.params5]at hA hval
 obtain⟨v0,vs0,d0,ds0,p0,q0,hargs,rfl,rfl,h0,r0⟩:=trodAll_cons hA
 obtain⟨v1,vs1,d1,ds1,p1,q1,rfl,rfl,rfl,h1,r1⟩:=trodAll_cons r0
 obtain⟨rfl,rfl,rfl⟩:=trodAll_nil r1
 obtain rfl:args=#[v0,v1]:=by cases args;simp_all
 obtain⟨rfl,rfl⟩:=trodVars_none hV
 obtain⟨pv,pp,pq,pp',pq',len,x,z,rfl,hql,b1,b2,b3,b4,b5⟩:=open_path (hval 0 26 v0 rfl rfl) h0
 obtain⟨a,b',c,d,a2,b2',c2,d2,rfl⟩:=open_mats h1
 refine(c_lawTw pv len x z pp pq pp' pq' a b' c d a2 b2' c2 d2 W (tab_of hL) hql b5 b2.1 b4.1).mono fun e W' ⟨he,hg⟩=>?_
 subst he
 have hlt:=hW'.lt
 exact⟨_,rfl,post_of_below (pv:=[]) hW' (fun _ _ _=>trodAll_cons_mk (shut_bool Tryz.underlying4 _) trodAll_mk0) (fun sp hsp=>trodAll_carry (DataW.TrodAll.respare kidsAll fullAll (by rw[Tryz.params5];exact of_decide_eq_true (by kernel_rfl)) hA0 (fun x hx=>hsp x (List.mem_append_left _ hx))) (fun x hx=>hg.same (hlt x (List.mem_append_left _ hx)))) (fun _ _=>rfl) rfl
  hg (ok_one (by kernel_rfl) rfl (okWide_bool_mk Tryz.underlying4 _))⟩
noncomputable def laidWorld (os:Os):World:=
 { World.holding Tryz.prog os ⟨#[],#[],[]⟩with heap:=(World.holding Tryz.prog os ⟨#[],#[],[]⟩).heap.modify 0 fun
  |.cells _ t frozen=>.cells (tabInts.map (Value.int .u8)).toArray t frozen
  | o=>o }
theorem laid_met (os:Os):laidMet Tryz.prog Rows.pathsTwiceRow.laid ((laidWorld os).forCall (fun _ _=>0) ⟨#[],#[.agg #[.slice none 0 0,.int .i64 0,.int .i64 0,.int .i64 0,.int .i64 0],.agg #[.int .i64 0,.int .i64 0,.int .i64 0,.int .i64 0,.int .i64 0,.int .i64 0,.int .i64 0,.int .i64 0]],[]⟩).memory:=
 laidMet_of_run' 8 (by kernel_rfl) (by kernel_rfl)
theorem reads (os:Os) {H:Type} (enc:TypeId×Value→H):∃ places,DataW.whole enc Tryz.prog ((laidWorld os).forCall (fun _ _=>0) ⟨#[],#[.agg #[.slice none 0 0,.int .i64 0,.int .i64 0,.int .i64 0,.int .i64 0],.agg #[.int .i64 0,.int .i64 0,.int .i64 0,.int .i64 0,.int .i64 0,.int .i64 0,.int .i64 0,.int .i64 0]],[]⟩).memory Tryz.f5.params.toList Rows.pathsTwiceSpec.vars false #[Value.agg #[.slice none 0 0,.int .i64 0,.int .i64 0,.int .i64 0,.int .i64 0],Value.agg #[.int .i64 0,.int .i64 0,.int .i64 0,.int .i64 0,.int .i64 0,.int .i64 0,.int .i64 0,.int .i64 0]].toList 8=some ([.agg [.nil,.agg [.lit (.int .i64 0),.lit (.int .i64 0)],.agg [.lit (.int .i64 0),.lit (.int .i64 0)]],.agg [.agg [.lit (.int .i64 0),.lit (.int .i64 0),.lit (.int .i64 0),.lit (.int .i64 0)],.agg [.lit (.int .i64 0),.lit (.int .i64 0),.lit (.int .i64 0),.lit (.int .i64 0)]]],[],places):=
 ⟨[],by kernel_rfl⟩
theorem lifted (os:Os) (started:os.Started) (H:Type) (enc:TypeId×Value→H) (F:Stop.Interp):
  ReturnsInHanded {} Tryz.checked os 5 .any ((OpenSpec.ofChange Rows.pathsTwiceSpec).preRow enc Tryz.prog Tryz.f5 Rows.pathsTwiceRow.domain false Rows.pathsTwiceRow.laid) (((OpenSpec.ofChange Rows.pathsTwiceSpec).at F).post enc Tryz.prog Tryz.f5 false true false false):=by
 obtain⟨places,hx⟩:=reads os enc
 refine returnsInHanded_of_row (C:=Tryz.checked) (s:=OpenSpec.ofChange Rows.pathsTwiceSpec) own started (by kernel_rfl) Tryz.func5
  (witness_row_at (enc:=enc) (C:=Tryz.checked) false (laidWorld os) #[.agg #[.slice none 0 0,.int .i64 0,.int .i64 0,.int .i64 0,.int .i64 0],.agg #[.int .i64 0,.int .i64 0,.int .i64 0,.int .i64 0,.int .i64 0,.int .i64 0,.int .i64 0,.int .i64 0]] rfl (by kernel_rfl) (by kernel_rfl) (by kernel_rfl)
   (OpenSpec.preRow_of_cond 8 hx (by kernel_rfl) (fun k hk=>by cases hk) (by kernel_rfl) (laid_met os))) ?_
 intro W base args ds gs before hval hW _ _ _ hL _ _
 exact contract H enc W base args ds gs before hval hW hL
theorem said:Rows.PathsTwiceSaid:=
 OpenClaim.holds_of_cond 5 Tryz.f5 rfl rfl rfl rfl rfl rfl rfl ⟨rfl,rfl,rfl,rfl,rfl⟩ rfl rfl rfl rfl rfl (by kernel_rfl) Tryz.func5 (by kernel_rfl)
  (of_decide_eq_true (by kernel_rfl)) (by unfold Func.isWrapper;first |(rw[if_pos (by decide +kernel)];kernel_rfl) |(rw[if_neg (by decide +kernel)];exact⟨rfl,rfl⟩))
  (fun os started H enc _ F=>by rw[OpenClaim.pre_eq_preRow];exact lifted os started H enc F)
theorem plain (f:FuncId) (fn:Func) (hf:Tryz.pinned.checked.prog.funcNamed "halfplane/halfplanelaw42.PathsTwice"=some f) (hfn:Tryz.pinned.checked.prog.funcs[f]?=some fn):
  false=Tryz.pinned.checked.prog.looks []∧∀ (j:Nat) t,fn.params[j]?=some t→Tryz.pinned.checked.prog.wantsStandIn t=false:=by
 obtain rfl:f=5:=Option.some.inj ((show Tryz.prog.funcNamed "halfplane/halfplanelaw42.PathsTwice"=some 5 by kernel_rfl).symm.trans hf) |>.symm
 obtain rfl:fn=Tryz.f5:=(Option.some.inj (Tryz.func5.symm.trans hfn)).symm
 refine⟨by kernel_rfl,fun j t ht=>?_⟩
 rw[Tryz.params5]at ht
 have h3:t=26∨t=58:=by simpa using Array.mem_of_getElem? ht
 rcases h3 with rfl|rfl
 ·exact(show Tryz.prog.wantsStandIn 26=false by kernel_rfl)
 ·exact(show Tryz.prog.wantsStandIn 58=false by kernel_rfl)
theorem card:Rows.PathsTwiceCardSaid:=
 Claim7.holds_tied_plain_at .later [] _ _ _ _ said (fun _ h=>by cases h) (by kernel_rfl) (fun _ h=>by cases h) pathsTwice_row_tie rfl ⟨rfl,rfl⟩ (by kernel_rfl) rfl plain (by kernel_rfl)
#print axioms card
end Go.Proofs.YtijgdhijdfgpfaaGreatDoor.lawTwice
