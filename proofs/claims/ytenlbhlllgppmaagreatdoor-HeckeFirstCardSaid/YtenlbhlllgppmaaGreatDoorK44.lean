/- The statement HeckeFirst: for every Spec and every n the law's function returns true; its arguments read as they read before. Condition: the library's table of bit positions holds what the program's text lays (the card ties it). -/
import Derived.Test.YtenlbhlllgppmaaGreatDoorK21
import Derived.ChangeSlices
import Derived.Deep.Slices
import Derived.Deep.Strs
import Derived.ReadAgain
import Derived.Lib.SmallJoins
import Derived.Test.YtenlbhlllgppmaaGreatDoorK43
import Derived.Test.YtenlbhlllgppmaaGreatDoorCards
import Derived.Test.YtenlbhlllgppmaaGreatDoorTie
import Derived.ProofKit
import Derived.OpenShut
import Derived.Deep.DeepHandedRow
import Derived.Lib.LaidTab
set_option linter.unusedSimpArgs false
set_option maxRecDepth 100000
namespace Go.Proofs.YtenlbhlllgppmaaGreatDoor.lawFirst
open Go.ChangeShapes Go.WideShapes Go.ChangeAt Go.RowKit Go.Joins
section
variable {H:Type} {enc:TypeId×Value→H} {P:Program}
theorem post_of_below {f:Func} {s:ChangeSpec} {apart fresh handsOn again:Bool} {W W':World} {args:Array Value} {v:Value} {ds gs:List (DataW H)} {before pa pv:List MemPlace}
  (hW:DataW.Whole enc P f.params.toList s.vars apart W args.toList ds gs before)
  (hres:∀ (b:Nat) (sp:Nat→Bool) (hd:Bool),DataW.TrodAll enc P W' b sp hd f.resultTypes.toList (v.resultList f.resultTypes.size) (s.fn H (ds++gs)).results [])
  (hargs:∀ sp:Nat→Bool,(∀ p∈before,sp p.block=true)→DataW.TrodAll enc P W' 0 sp true f.params.toList args.toList (s.fn H (ds++gs)).args pa)
  (hvars:∀ sp:Nat→Bool,(∀ p∈before,sp p.block=true)→DataW.TrodVars enc P W' sp s.vars (s.fn H (ds++gs)).vars pv)
  (hps:before=pa++pv) (hb:Below W.heap.size W W')
  (hok:∀ (j:Nat) (t:TypeId) (r:Value),f.resultTypes[j]?=some t→(v.resultList f.resultTypes.size)[j]?=some r→Value.okWide P W' .any 0 t r):
  s.post enc P f apart fresh handsOn again W args v W':=by
 have hlt:∀ p∈before,p.block<W.heap.size:=fun p hp=>hW.lt p hp
 have hold:∀ p∈before,(fun b=>decide (b<W.heap.size)) p.block=true:=fun p hp=>by simpa using hlt p hp
 refine⟨ds,gs,before,[],pa,pv,hW,hres _ _ _,hargs _ hold,hvars _ hold,World.keptBut_mono (fun p hp=>⟨hp,?_⟩) (hb.frame (·∈before)),fun _=>?_⟩
 ·rw[hps,List.mem_append]at hp
  exact Or.inr hp
 ·obtain⟨_,_,_,_,_,hz,hn⟩:=hW
  refine⟨hok,_,_,([]++pa)++pv,⟨[]++pa,pv,trodAll_append (hargs _ (fun _ _=>rfl)) (hres _ _ _),hvars _ (fun _ _=>rfl),rfl,?_,?_⟩,?_⟩
  ·intro b off hp
   have hin:MemPlace.cell b off∈before:=by rw[hps];simpa using hp
   rw[hb.frozen (hlt _ hin)]
   exact hz b off hin
  ·intro ha
   have:=hn ha
   rw[hps]at this
   simpa using this
  ·intro p hp _
   rw[hps]
   simpa using hp
end
theorem own:ownKnob Tryz.prog.godebug=none:=by kernel_rfl
theorem gTab:Tryz.prog.globalNamed "math/bits.deBruijn64tab"=some 0:=by kernel_rfl
theorem gTabType:(Tryz.prog.globals[0]?).map (·.type)=some 252:=by kernel_rfl
theorem cellsTab:Tryz.prog.cellsOf 252=64:=by kernel_rfl
theorem cellsU8:Tryz.prog.cellsOf 5=1:=by kernel_rfl
theorem cellsSpec:Tryz.prog.cellsOf 23=3:=by kernel_rfl
def tabInts:List Int:=Lib.deBruijn64tab.map fun(n:Nat)=>(n:Int)
theorem table {W:World} (h:laidMetH Tryz.prog Rows.heckeFirstRow.laid W):Lib.TabIs Tryz.prog W "math/bits.deBruijn64tab" .u8 tabInts:=
 Lib.tabIs_of_head (rest:=[]) gTab gTabType Tryz.underlying252 Tryz.underlying5 cellsU8 cellsTab h
theorem tab_num:∀ j,j<64→tabInts.getD j 0=((Lib.deBruijn64tab.getD j 0:Nat):Int):=by decide +kernel
theorem tab_of {W:World} (h:laidMetH Tryz.prog Rows.heckeFirstRow.laid W):Tab W:=by
 intro j hj
 have h1:=(table h).cell gTab j (Nat.lt_of_lt_of_eq hj (by decide))
 rw[h1,tab_num j hj]
theorem contract (H:Type) (enc:TypeId×Value→H) (W:World) (base:Nat) (args:Array Value) (ds gs:List (DataW H)) (before:List MemPlace)
  (hval:∀ (j:Nat) t v,Tryz.f3.params[j]?=some t→args[j]?=some v→Value.okWide Tryz.prog W .any base t v)
  (hW:DataW.Whole enc Tryz.prog Tryz.f3.params.toList Rows.heckeFirstSpec.vars false W args.toList ds gs before) (hL:laidMetH Tryz.prog Rows.heckeFirstRow.laid W):
  Calls Tryz.prog 3 args W fun e W'=>∃ v,e=.returned v∧Rows.heckeFirstSpec.post enc Tryz.prog Tryz.f3 false true false false W args v W':=by
 have hW':=hW
 obtain⟨p,q,hA0,hV,rfl,hfz,hnd⟩:=hW
 have hA:DataW.TrodAll enc Tryz.prog W 0 (fun _=>true) true Tryz.f3.params.toList args.toList ds p:=hA0
 rw[Tryz.params3]at hA hval
 obtain⟨v0,vs0,d0,ds0,p0,q0,hargs,rfl,rfl,h0,r0⟩:=trodAll_cons hA
 obtain⟨v1,vs1,d1,ds1,p1,q1,rfl,rfl,rfl,h1,r1⟩:=trodAll_cons r0
 obtain⟨rfl,rfl,rfl⟩:=trodAll_nil r1
 obtain rfl:args=#[v0,v1]:=by cases args;simp_all
 obtain⟨rfl,rfl⟩:=trodVars_none hV
 obtain⟨c0,c1,c2,y0,y1,y2,m,rfl,rfl,rfl,hy0,hy1,hy2⟩:=open_agg3 Tryz.underlying23 (by kernel_rfl) cellsSpec (hval 0 23 v0 rfl rfl) h0
 obtain⟨a,e0,rfl,wa⟩:=DataW.trod_int Tryz.underlying3 hy0
 obtain⟨b',e1,rfl,wb⟩:=DataW.trod_int Tryz.underlying3 hy1
 obtain⟨c,e2,rfl,wc⟩:=DataW.trod_int Tryz.underlying3 hy2
 simp at e0 e1 e2
 subst e0 e1 e2
 obtain⟨n,rfl,rfl,rfl,wn⟩:=open_int Tryz.underlying3 (hval 1 3 v1 rfl rfl) h1
 clear hA0
 simp only[List.append_nil]at hW'
 refine(c_lawHf a b' c n W (tab_of hL)).mono fun e W' ⟨he,hg⟩=>?_
 subst he
 have sp:∀ (w:World) (b:Nat) (sp:Nat→Bool) (hd:Bool),DataW.Trod enc Tryz.prog w b sp hd 23 (spec a b' c) (.agg [.lit (.int .i64 a),.lit (.int .i64 b'),.lit (.int .i64 c)]) []:=fun w b sp hd=>
  shut_agg3 (y0:=(.lit (.int .i64 a),[])) (y1:=(.lit (.int .i64 b'),[])) (y2:=(.lit (.int .i64 c),[])) Tryz.underlying23 (by kernel_rfl) cellsSpec ⟨1,by simp[DataW.trod,Tryz.underlying3,wa]⟩ ⟨1,by simp[DataW.trod,Tryz.underlying3,wb]⟩ ⟨1,by simp[DataW.trod,Tryz.underlying3,wc]⟩
 exact⟨_,rfl,post_of_below (pa:=[]) (pv:=[]) hW' (fun _ _ _=>trodAll_cons_mk (shut_bool Tryz.underlying4 _) trodAll_mk0) (fun _ _=>trodAll_cons_mk (p:=[]) (p':=[]) (sp _ _ _ _) (trodAll_cons_mk (p:=[]) (p':=[]) (shut_int Tryz.underlying3 wn) trodAll_mk0)) (fun _ _=>rfl) rfl
  hg (ok_one (by kernel_rfl) rfl (okWide_bool_mk Tryz.underlying4 _))⟩
noncomputable def laidWorld (os:Os):World:=
 { World.holding Tryz.prog os ⟨#[],#[],[]⟩with heap:=(World.holding Tryz.prog os ⟨#[],#[],[]⟩).heap.modify 0 fun
  |.cells _ t frozen=>.cells (tabInts.map (Value.int .u8)).toArray t frozen
  | o=>o }
theorem laid_met (os:Os):laidMet Tryz.prog Rows.heckeFirstRow.laid ((laidWorld os).forCall (fun _ _=>0) ⟨#[],#[spec 0 0 0,.int .i64 0],[]⟩).memory:=
 laidMet_of_run' 8 (by kernel_rfl) (by kernel_rfl)
theorem reads (os:Os) {H:Type} (enc:TypeId×Value→H):∃ places,DataW.whole enc Tryz.prog ((laidWorld os).forCall (fun _ _=>0) ⟨#[],#[spec 0 0 0,.int .i64 0],[]⟩).memory Tryz.f3.params.toList Rows.heckeFirstSpec.vars false #[spec 0 0 0,Value.int .i64 0].toList 8=some ([.agg [.lit (.int .i64 0),.lit (.int .i64 0),.lit (.int .i64 0)],.lit (.int .i64 0)],[],places):=
 ⟨[],by kernel_rfl⟩
theorem lifted (os:Os) (started:os.Started) (H:Type) (enc:TypeId×Value→H) (F:Stop.Interp):
  ReturnsInHanded {} Tryz.checked os 3 .any ((OpenSpec.ofChange Rows.heckeFirstSpec).preRow enc Tryz.prog Tryz.f3 Rows.heckeFirstRow.domain false Rows.heckeFirstRow.laid) (((OpenSpec.ofChange Rows.heckeFirstSpec).at F).post enc Tryz.prog Tryz.f3 false true false false):=by
 obtain⟨places,hx⟩:=reads os enc
 refine returnsInHanded_of_row (C:=Tryz.checked) (s:=OpenSpec.ofChange Rows.heckeFirstSpec) own started (by kernel_rfl) Tryz.func3
  (witness_row_at (enc:=enc) (C:=Tryz.checked) false (laidWorld os) #[spec 0 0 0,.int .i64 0] rfl (by kernel_rfl) (by kernel_rfl) (by kernel_rfl)
   (OpenSpec.preRow_of_cond 8 hx (by kernel_rfl) (fun k hk=>by cases hk) (by kernel_rfl) (laid_met os))) ?_
 intro W base args ds gs before hval hW _ _ _ hL _ _
 exact contract H enc W base args ds gs before hval hW hL
theorem said:Rows.HeckeFirstSaid:=
 OpenClaim.holds_of_cond 3 Tryz.f3 rfl rfl rfl rfl rfl rfl rfl ⟨rfl,rfl,rfl,rfl,rfl⟩ rfl rfl rfl rfl rfl (by kernel_rfl) Tryz.func3 (by kernel_rfl)
  (of_decide_eq_true (by kernel_rfl)) (by unfold Func.isWrapper;first |(rw[if_pos (by decide +kernel)];kernel_rfl) |(rw[if_neg (by decide +kernel)];exact⟨rfl,rfl⟩))
  (fun os started H enc _ F=>by rw[OpenClaim.pre_eq_preRow];exact lifted os started H enc F)
theorem plain (f:FuncId) (fn:Func) (hf:Tryz.pinned.checked.prog.funcNamed "halfplane/halfplanelaw45.HeckeFirst"=some f) (hfn:Tryz.pinned.checked.prog.funcs[f]?=some fn):
  false=Tryz.pinned.checked.prog.looks []∧∀ (j:Nat) t,fn.params[j]?=some t→Tryz.pinned.checked.prog.wantsStandIn t=false:=by
 obtain rfl:f=3:=Option.some.inj ((show Tryz.prog.funcNamed "halfplane/halfplanelaw45.HeckeFirst"=some 3 by kernel_rfl).symm.trans hf) |>.symm
 obtain rfl:fn=Tryz.f3:=(Option.some.inj (Tryz.func3.symm.trans hfn)).symm
 refine⟨by kernel_rfl,fun j t ht=>?_⟩
 rw[Tryz.params3]at ht
 have h3:t=23∨t=3:=by simpa using Array.mem_of_getElem? ht
 rcases h3 with rfl|rfl
 ·exact(show Tryz.prog.wantsStandIn 23=false by kernel_rfl)
 ·exact(show Tryz.prog.wantsStandIn 3=false by kernel_rfl)
theorem card:Rows.HeckeFirstCardSaid:=
 Claim7.holds_tied_plain_at .later [] _ _ _ _ said (fun _ h=>by cases h) (by kernel_rfl) (fun _ h=>by cases h) heckeFirst_row_tie rfl ⟨rfl,rfl⟩ (by kernel_rfl) rfl plain (by kernel_rfl)
#print axioms card
end Go.Proofs.YtenlbhlllgppmaaGreatDoor.lawFirst
