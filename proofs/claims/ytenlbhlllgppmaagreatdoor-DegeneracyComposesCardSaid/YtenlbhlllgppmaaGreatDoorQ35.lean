/- The statement DegeneracyComposes: for every Pair, level and number the law's function returns true; its arguments read as they read before. Condition: the library's table of bit positions holds what the program's text lays (the card ties it). -/
import Derived.Test.YtenlbhlllgppmaaGreatDoorQ34
import Derived.Test.YtenlbhlllgppmaaGreatDoorCards
import Derived.Test.YtenlbhlllgppmaaGreatDoorTie
import Derived.Deep.DeepHandedRow
set_option linter.unusedSimpArgs false
set_option maxRecDepth 100000
namespace Go.Proofs.YtenlbhlllgppmaaGreatDoor
namespace lawComposes
open Go.ChangeShapes Go.WideShapes Go.ChangeAt Go.RowKit Go.Joins
section
variable {H:Type} {enc:TypeId×Value->H} {P:Program}
theorem D0 {f:Func} {s:ChangeSpec} {J aK O aJ:Bool} {W W':World} {args:Array Value} {v:Value} {ds gs:List (DataW H)} {I pa pv:List MemPlace}
  (hW:DataW.Whole enc P f.params.toList s.vars J W args.toList ds gs I)
  (aD:∀(b:Nat) (sp:Nat->Bool) (hd:Bool),DataW.TrodAll enc P W' b sp hd f.resultTypes.toList (v.resultList f.resultTypes.size) (s.fn H (ds++gs)).results [])
  (U:∀sp:Nat->Bool,(∀p∈I,sp p.block=true)->DataW.TrodAll enc P W' 0 sp true f.params.toList args.toList (s.fn H (ds++gs)).args pa)
  (Y:∀sp:Nat->Bool,(∀p∈I,sp p.block=true)->DataW.TrodVars enc P W' sp s.vars (s.fn H (ds++gs)).vars pv)
  (Z:I=pa++pv) (hb:Below W.heap.size W W')
  (bB:∀(j:Nat) (t:TypeId) (r:Value),f.resultTypes[j]?=some t->(v.resultList f.resultTypes.size)[j]?=some r->Value.okWide P W' .any 0 t r):
  s.post enc P f J aK O aJ W args v W':=by
 have hlt:∀p∈I,p.block<W.heap.size:=λp V=>hW.lt p V
 have h:∀p∈I,(λb=>decide (b<W.heap.size)) p.block=true:=λp V=>by simpa using hlt p V
 refine⟨ds,gs,I,[],pa,pv,hW,aD _ _ _,U _ h,Y _ h,World.keptBut_mono (λp V=>⟨V,?_⟩) (hb.frame (·∈I)),λ_=>?_⟩
 ·rw[Z,List.mem_append]at V
  exact Or.inr V
 ·obtain⟨_,_,_,_,_,hz,hn⟩:=hW
  refine⟨bB,_,_,([]++pa)++pv,⟨[]++pa,pv,trodAll_append (U _ (λ_ _=>rfl)) (aD _ _ _),Y _ (λ_ _=>rfl),rfl,?_,?_⟩,?_⟩
  ·intro b aU V
   have aT:MemPlace.cell b aU∈I:=by rw[Z];simpa using V
   rw[hb.frozen (hlt _ aT)];exact hz b aU aT
  ·intro ha
   have:=hn ha;rw[Z]at this
   simpa using this
  ·intro p V _
   rw[Z]
   simpa using V
end
theorem cY:ownKnob Tryz.prog.godebug=none:=by kernel_rfl
theorem Ws:Tryz.prog.globalNamed "math/bits.deBruijn64tab"=some 0:=by kernel_rfl
theorem Ke:(Tryz.prog.globals[0]?).map (·.type)=some 252:=by kernel_rfl
theorem J2:Tryz.prog.cellsOf 252=64:=by kernel_rfl
theorem Mz:Tryz.prog.cellsOf 5=1:=by kernel_rfl
def Ew:List Int:=Lib.deBruijn64tab.map λ(n:Nat)=>(n:Int)
theorem Dw {W:World} (h:laidMetH Tryz.prog Rows.degeneracyComposesRow.laid W):Lib.TabIs Tryz.prog W "math/bits.deBruijn64tab" .u8 Ew:=
 Lib.tabIs_of_head (rest:=[]) Ws Ke Tryz.underlying252 Tryz.underlying5 Mz J2 h
theorem Nx:∀j,j<64->Ew.getD j 0=((Lib.deBruijn64tab.getD j 0:Nat):Int):=by decide +kernel
theorem Rn {W:World} (h:laidMetH Tryz.prog Rows.degeneracyComposesRow.laid W):Tab W:=by
 intro j I;have J:=(Dw h).cell Ws j (Nat.lt_of_lt_of_eq I (by decide));rw[J,Nx j I]
theorem Gy (H:Type) (enc:TypeId×Value->H) (W:World) (O:Nat) (args:Array Value) (ds gs:List (DataW H)) (J:List MemPlace)
  (I:∀(j:Nat) t v,Tryz.f5.params[j]?=some t->args[j]?=some v->Value.okWide Tryz.prog W .any O t v)
  (hW:DataW.Whole enc Tryz.prog Tryz.f5.params.toList Rows.degeneracyComposesSpec.vars false W args.toList ds gs J) (hL:laidMetH Tryz.prog Rows.degeneracyComposesRow.laid W):
  Calls Tryz.prog 5 args W λe W'=>∃v,e=.returned v/\Rows.degeneracyComposesSpec.post enc Tryz.prog Tryz.f5 false true false false W args v W':=by
 have U:=hW;obtain⟨p,q,hA0,hV,rfl,gF,gL⟩:=hW;have hA:DataW.TrodAll enc Tryz.prog W 0 (λ_=>true) true Tryz.f5.params.toList args.toList ds p:=hA0;rw[Tryz.params5]at hA I;obtain⟨v0,gU,d0,cG,p0,q0,Z,rfl,rfl,h0,r0⟩:=trodAll_cons hA;obtain⟨v1,hB,d1,cT,p1,q1,rfl,rfl,rfl,h1,r1⟩:=trodAll_cons r0;obtain⟨v2,hD,d2,cX,p2,q2,rfl,rfl,rfl,h2,r2⟩:=trodAll_cons r1;obtain⟨rfl,rfl,rfl⟩:=trodAll_nil r2;obtain rfl:args=#[v0,v1,v2]:=by cases args;simp_all
 obtain⟨rfl,rfl⟩:=trodVars_none hV;obtain⟨aN,aK,aD,aL,aT,rfl,V,Y⟩:=Ma (I 0 44 v0 rfl rfl) h0;obtain⟨aJ,rfl,rfl,rfl,hJ⟩:=open_int Tryz.underlying3 (I 1 3 v1 rfl rfl) h1;obtain⟨aU,rfl,rfl,rfl,hU⟩:=open_int Tryz.underlying3 (I 2 3 v2 rfl rfl) h2;have hU:=Ml hU;refine(Zy aN aK aD aL aT aJ aU W (Rn hL) V Y hU.1 hU.2).mono λe W' ⟨he,hg⟩=>?_
 subst he;have hlt:=U.lt
 exact⟨_,rfl,D0 (pv:=[]) U (λ_ _ _=>trodAll_cons_mk (shut_bool Tryz.underlying4 _) trodAll_mk0) (λsp h=>D1 (DataW.TrodAll.respare Sd Sb (by rw[Tryz.params5];exact of_decide_eq_true (by kernel_rfl)) hA0 (λx hx=>h x (List.mem_append_left _ hx))) (λx hx=>hg.same (hlt x (List.mem_append_left _ hx)))) (λ_ _=>rfl) rfl
  hg (ok_one (by kernel_rfl) rfl (okWide_bool_mk Tryz.underlying4 _))⟩
noncomputable def laidWorld (os:Os):World:=
 { World.holding Tryz.prog os ⟨#[],#[],[]⟩with heap:=(World.holding Tryz.prog os ⟨#[],#[],[]⟩).heap.modify 0 λ
  |.cells _ t frozen=>.cells (Ew.map (Value.int .u8)).toArray t frozen
  | o=>o }
theorem Kg (os:Os):laidMet Tryz.prog Rows.degeneracyComposesRow.laid ((laidWorld os).forCall (λ_ _=>0) ⟨#[],#[.agg #[.int .i64 0,.int .i64 0,.int .i64 0,.int .i64 0,.int .i64 0],.int .i64 0,.int .i64 0],[]⟩).memory:=
 laidMet_of_run' 8 (by kernel_rfl) (by kernel_rfl)
theorem Yd (os:Os) {H:Type} (enc:TypeId×Value->H):∃I,DataW.whole enc Tryz.prog ((laidWorld os).forCall (λ_ _=>0) ⟨#[],#[.agg #[.int .i64 0,.int .i64 0,.int .i64 0,.int .i64 0,.int .i64 0],.int .i64 0,.int .i64 0],[]⟩).memory Tryz.f5.params.toList Rows.degeneracyComposesSpec.vars false #[Value.agg #[.int .i64 0,.int .i64 0,.int .i64 0,.int .i64 0,.int .i64 0],Value.int .i64 0,Value.int .i64 0].toList 8=some ([.agg [.agg [.lit (.int .i64 0),.lit (.int .i64 0),.lit (.int .i64 0)],.lit (.int .i64 0),.lit (.int .i64 0)],.lit (.int .i64 0),.lit (.int .i64 0)],[],I):=
 ⟨[],by kernel_rfl⟩
theorem Q1 (os:Os) (I:os.Started) (H:Type) (enc:TypeId×Value->H) (F:Stop.Interp):
  ReturnsInHanded {} Tryz.checked os 5 .any ((OpenSpec.ofChange Rows.degeneracyComposesSpec).preRow enc Tryz.prog Tryz.f5 Rows.degeneracyComposesRow.domain false Rows.degeneracyComposesRow.laid) (((OpenSpec.ofChange Rows.degeneracyComposesSpec).at F).post enc Tryz.prog Tryz.f5 false true false false):=by
 obtain⟨V,hx⟩:=Yd os enc
 refine returnsInHanded_of_row (C:=Tryz.checked) (s:=OpenSpec.ofChange Rows.degeneracyComposesSpec) cY I (by kernel_rfl) Tryz.func5
  (witness_row_at (enc:=enc) (C:=Tryz.checked) false (laidWorld os) #[.agg #[.int .i64 0,.int .i64 0,.int .i64 0,.int .i64 0,.int .i64 0],.int .i64 0,.int .i64 0] rfl (by kernel_rfl) (by kernel_rfl) (by kernel_rfl)
   (OpenSpec.preRow_of_cond 8 hx (by kernel_rfl) (λk hk=>by cases hk) (by kernel_rfl) (Kg os))) ?_
 intro W O args Y gs J U h _ _ _ Z _ _;exact Gy H enc W O args Y gs J U h Z
theorem Rf:Rows.DegeneracyComposesSaid:=
 OpenClaim.holds_of_cond 5 Tryz.f5 rfl rfl rfl rfl rfl rfl rfl ⟨rfl,rfl,rfl,rfl,rfl⟩ rfl rfl rfl rfl rfl (by kernel_rfl) Tryz.func5 (by kernel_rfl)
  (of_decide_eq_true (by kernel_rfl)) (by unfold Func.isWrapper;first |(rw[if_pos (by decide +kernel)];kernel_rfl) |(rw[if_neg (by decide +kernel)];exact⟨rfl,rfl⟩))
  (λos I H enc _ F=>by rw[OpenClaim.pre_eq_preRow];exact Q1 os I H enc F)
theorem plain (f:FuncId) (I:Func) (V:Tryz.pinned.checked.prog.funcNamed "halfplane/halfplanelaw47.DegeneracyComposes"=some f) (J:Tryz.pinned.checked.prog.funcs[f]?=some I):
  false=Tryz.pinned.checked.prog.looks []/\∀(j:Nat) t,I.params[j]?=some t->Tryz.pinned.checked.prog.wantsStandIn t=false:=by
 obtain rfl:f=5:=Option.some.inj ((show Tryz.prog.funcNamed "halfplane/halfplanelaw47.DegeneracyComposes"=some 5 by kernel_rfl).symm.trans V) |>.symm
 obtain rfl:I=Tryz.f5:=(Option.some.inj (Tryz.func5.symm.trans J)).symm;refine⟨by kernel_rfl,λj t O=>?_⟩;rw[Tryz.params5]at O;have U:t=44∨t=3∨t=3:=by simpa using Array.mem_of_getElem? O
 rcases U with rfl|rfl|rfl
 ·exact(show Tryz.prog.wantsStandIn 44=false by kernel_rfl)
 ·exact(show Tryz.prog.wantsStandIn 3=false by kernel_rfl)
 ·exact(show Tryz.prog.wantsStandIn 3=false by kernel_rfl)
theorem card:Rows.DegeneracyComposesCardSaid:=
 Claim7.holds_tied_plain_at .later [] _ _ _ _ Rf (λ_ h=>by cases h) (by kernel_rfl) (λ_ h=>by cases h) degeneracyComposes_row_tie rfl ⟨rfl,rfl⟩ (by kernel_rfl) rfl plain (by kernel_rfl)
#print axioms card
end lawComposes
end Go.Proofs.YtenlbhlllgppmaaGreatDoor
