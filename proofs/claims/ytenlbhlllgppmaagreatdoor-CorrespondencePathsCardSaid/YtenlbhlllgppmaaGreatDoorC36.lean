/- The statement CorrespondencePaths: for every Spec, number and all Corners the law's function returns true; its arguments read as they read before. Condition: the library's table of bit positions holds what the program's text lays (the card ties it). -/
import Derived.Test.YtenlbhlllgppmaaGreatDoorC35
import Derived.Test.YtenlbhlllgppmaaGreatDoorCards
import Derived.Test.YtenlbhlllgppmaaGreatDoorTie
import Derived.Deep.DeepHandedRow
set_option linter.unusedSimpArgs false
set_option maxRecDepth 100000
namespace Go.Proofs.YtenlbhlllgppmaaGreatDoor
namespace lawCp
open Go.ChangeShapes Go.WideShapes Go.ChangeAt Go.RowKit Go.Joins
section
variable {H:Type} {enc:TypeId×Value->H} {P:Program}
theorem Lf {f:Func} {s:ChangeSpec} {I aK J aD:Bool} {W W':World} {args:Array Value} {v:Value} {ds gs:List (DataW H)} {E pa pv:List MemPlace}
  (hW:DataW.Whole enc P f.params.toList s.vars I W args.toList ds gs E)
  (h:∀(b:Nat) (sp:Nat->Bool) (hd:Bool),DataW.TrodAll enc P W' b sp hd f.resultTypes.toList (v.resultList f.resultTypes.size) (s.fn H (ds++gs)).results [])
  (M:∀sp:Nat->Bool,(∀p∈E,sp p.block=true)->DataW.TrodAll enc P W' 0 sp true f.params.toList args.toList (s.fn H (ds++gs)).args pa)
  (U:∀sp:Nat->Bool,(∀p∈E,sp p.block=true)->DataW.TrodVars enc P W' sp s.vars (s.fn H (ds++gs)).vars pv)
  (V:E=pa++pv) (hb:Below W.heap.size W W')
  (bY:∀(j:Nat) (t:TypeId) (r:Value),f.resultTypes[j]?=some t->(v.resultList f.resultTypes.size)[j]?=some r->Value.okWide P W' .any 0 t r):
  s.post enc P f I aK J aD W args v W':=by
 have hlt:∀p∈E,p.block<W.heap.size:=λp O=>hW.lt p O
 have Z:∀p∈E,(λb=>decide (b<W.heap.size)) p.block=true:=λp O=>by simpa using hlt p O
 refine⟨ds,gs,E,[],pa,pv,hW,h _ _ _,M _ Z,U _ Z,World.keptBut_mono (λp O=>⟨O,?_⟩) (hb.frame (·∈E)),λ_=>?_⟩
 ·rw[V,List.mem_append]at O
  exact Or.inr O
 ·obtain⟨_,_,_,_,_,hz,hn⟩:=hW
  refine⟨bY,_,_,([]++pa)++pv,⟨[]++pa,pv,trodAll_append (M _ (λ_ _=>rfl)) (h _ _ _),U _ (λ_ _=>rfl),rfl,?_,?_⟩,?_⟩
  ·intro b bB O
   have bA:MemPlace.cell b bB∈E:=by rw[V];simpa using O
   rw[hb.frozen (hlt _ bA)];exact hz b bB bA
  ·intro ha
   have:=hn ha;rw[V]at this
   simpa using this
  ·intro p O _
   rw[V]
   simpa using O
end
theorem jB:ownKnob Tryz.prog.godebug=none:=by kernel_rfl
theorem kC:Tryz.prog.globalNamed "math/bits.deBruijn64tab"=some 0:=by kernel_rfl
theorem Xo:(Tryz.prog.globals[0]?).map (·.type)=some 252:=by kernel_rfl
theorem W6:Tryz.prog.cellsOf 252=64:=by kernel_rfl
theorem bV:Tryz.prog.cellsOf 5=1:=by kernel_rfl
theorem Un:Tryz.prog.cellsOf 23=3:=by kernel_rfl
def Nw:List Int:=Lib.deBruijn64tab.map λ(n:Nat)=>(n:Int)
theorem Fk {W:World} (h:laidMetH Tryz.prog Rows.correspondencePathsRow.laid W):Lib.TabIs Tryz.prog W "math/bits.deBruijn64tab" .u8 Nw:=
 Lib.tabIs_of_head (rest:=[]) kC Xo Tryz.underlying252 Tryz.underlying5 bV W6 h
theorem dV:∀j,j<64->Nw.getD j 0=((Lib.deBruijn64tab.getD j 0:Nat):Int):=by decide +kernel
theorem iU {W:World} (h:laidMetH Tryz.prog Rows.correspondencePathsRow.laid W):Tab W:=by
 intro j E;have I:=(Fk h).cell kC j (Nat.lt_of_lt_of_eq E (by decide));rw[I,dV j E]
theorem O0 (H:Type) (enc:TypeId×Value->H) (W:World) (O:Nat) (args:Array Value) (ds gs:List (DataW H)) (I:List MemPlace)
  (E:∀(j:Nat) t v,Tryz.f7.params[j]?=some t->args[j]?=some v->Value.okWide Tryz.prog W .any O t v)
  (hW:DataW.Whole enc Tryz.prog Tryz.f7.params.toList Rows.correspondencePathsSpec.vars false W args.toList ds gs I) (hL:laidMetH Tryz.prog Rows.correspondencePathsRow.laid W):
  Calls Tryz.prog 7 args W λe W'=>∃v,e=.returned v/\Rows.correspondencePathsSpec.post enc Tryz.prog Tryz.f7 false true false false W args v W':=by
 have U:=hW;obtain⟨p,q,hA0,hV,rfl,gL,gN⟩:=hW;have hA:DataW.TrodAll enc Tryz.prog W 0 (λ_=>true) true Tryz.f7.params.toList args.toList ds p:=hA0;rw[Tryz.params7]at hA E;obtain⟨v0,hH,d0,eG,p0,q0,h,rfl,rfl,h0,r0⟩:=trodAll_cons hA;obtain⟨v1,hI,d1,eP,p1,q1,rfl,rfl,rfl,h1,r1⟩:=trodAll_cons r0;obtain⟨v2,hJ,d2,eT,p2,q2,rfl,rfl,rfl,h2,r2⟩:=trodAll_cons r1;obtain⟨rfl,rfl,rfl⟩:=trodAll_nil r2;obtain rfl:args=#[v0,v1,v2]:=by cases args;simp_all
 obtain⟨rfl,rfl⟩:=trodVars_none hV;obtain⟨c0,c1,c2,y0,y1,y2,m,rfl,rfl,rfl,bE,bY,cA⟩:=open_agg3 Tryz.underlying23 (by kernel_rfl) Un (E 0 23 v0 rfl rfl) h0;obtain⟨aN,e0,rfl,wa⟩:=DataW.trod_int Tryz.underlying3 bE;obtain⟨aK,e1,rfl,wb⟩:=DataW.trod_int Tryz.underlying3 bY;obtain⟨aD,e2,rfl,wc⟩:=DataW.trod_int Tryz.underlying3 cA;simp at e0 e1 e2;subst e0 e1 e2;obtain⟨aq,rfl,rfl,rfl,gP⟩:=open_int Tryz.underlying3 (E 1 3 v1 rfl rfl) h1;obtain⟨pa,la,ca,xa,x1,x2,y1,y2,z1,z2,a,b',c,d,rfl,⟨aX,bC⟩,⟨V,Z⟩,⟨J,M⟩,⟨gS,gU⟩,ha,hb,hc,hd⟩:=Nn (E 2 50 v2 rfl rfl) h2;refine(bJ aN aK aD aq pa la ca xa x1 x2 y1 y2 z1 z2 a b' c d W (iU hL) aX bC V.1 V.2 Z.1 Z.2 J.1 J.2 M.1 M.2).mono λe W' ⟨he,hg⟩=>?_
 subst he;have hlt:=U.lt
 exact⟨_,rfl,Lf (pv:=[]) U (λ_ _ _=>trodAll_cons_mk (shut_bool Tryz.underlying4 _) trodAll_mk0) (λsp bA=>Gb (DataW.TrodAll.respare cO cL (by rw[Tryz.params7];exact of_decide_eq_true (by kernel_rfl)) hA0 (λx hx=>bA x (List.mem_append_left _ hx))) (λx hx=>hg.same (hlt x (List.mem_append_left _ hx)))) (λ_ _=>rfl) rfl
  hg (ok_one (by kernel_rfl) rfl (okWide_bool_mk Tryz.underlying4 _))⟩
noncomputable def laidWorld (os:Os):World:=
 { World.holding Tryz.prog os ⟨#[],#[],[]⟩with heap:=(World.holding Tryz.prog os ⟨#[],#[],[]⟩).heap.modify 0 λ
  |.cells _ t frozen=>.cells (Nw.map (Value.int .u8)).toArray t frozen
  | o=>o }
theorem Ya (os:Os):laidMet Tryz.prog Rows.correspondencePathsRow.laid ((laidWorld os).forCall (λ_ _=>0) ⟨#[],#[.agg #[.int .i64 0,.int .i64 0,.int .i64 0],.int .i64 0,.agg #[.slice none 0 0,.int .i64 0,.int .i64 0,.int .i64 0,.int .i64 0,.int .i64 0,.int .i64 0,.int .i8 0,.int .i8 0,.int .i8 0,.int .i8 0]],[]⟩).memory:=
 laidMet_of_run' 8 (by kernel_rfl) (by kernel_rfl)
theorem kW (os:Os) {H:Type} (enc:TypeId×Value->H):∃E,DataW.whole enc Tryz.prog ((laidWorld os).forCall (λ_ _=>0) ⟨#[],#[.agg #[.int .i64 0,.int .i64 0,.int .i64 0],.int .i64 0,.agg #[.slice none 0 0,.int .i64 0,.int .i64 0,.int .i64 0,.int .i64 0,.int .i64 0,.int .i64 0,.int .i8 0,.int .i8 0,.int .i8 0,.int .i8 0]],[]⟩).memory Tryz.f7.params.toList Rows.correspondencePathsSpec.vars false #[Value.agg #[.int .i64 0,.int .i64 0,.int .i64 0],Value.int .i64 0,Value.agg #[.slice none 0 0,.int .i64 0,.int .i64 0,.int .i64 0,.int .i64 0,.int .i64 0,.int .i64 0,.int .i8 0,.int .i8 0,.int .i8 0,.int .i8 0]].toList 8=some ([.agg [.lit (.int .i64 0),.lit (.int .i64 0),.lit (.int .i64 0)],.lit (.int .i64 0),.agg [.nil,.agg [.lit (.int .i64 0),.lit (.int .i64 0)],.agg [.lit (.int .i64 0),.lit (.int .i64 0)],.agg [.lit (.int .i64 0),.lit (.int .i64 0)],.lit (.int .i8 0),.lit (.int .i8 0),.lit (.int .i8 0),.lit (.int .i8 0)]],[],E):=
 ⟨[],by kernel_rfl⟩
theorem gW (os:Os) (E:os.Started) (H:Type) (enc:TypeId×Value->H) (F:Stop.Interp):
  ReturnsInHanded {} Tryz.checked os 7 .any ((OpenSpec.ofChange Rows.correspondencePathsSpec).preRow enc Tryz.prog Tryz.f7 Rows.correspondencePathsRow.domain false Rows.correspondencePathsRow.laid) (((OpenSpec.ofChange Rows.correspondencePathsSpec).at F).post enc Tryz.prog Tryz.f7 false true false false):=by
 obtain⟨O,hx⟩:=kW os enc
 refine returnsInHanded_of_row (C:=Tryz.checked) (s:=OpenSpec.ofChange Rows.correspondencePathsSpec) jB E (by kernel_rfl) Tryz.func7
  (witness_row_at (enc:=enc) (C:=Tryz.checked) false (laidWorld os) #[.agg #[.int .i64 0,.int .i64 0,.int .i64 0],.int .i64 0,.agg #[.slice none 0 0,.int .i64 0,.int .i64 0,.int .i64 0,.int .i64 0,.int .i64 0,.int .i64 0,.int .i8 0,.int .i8 0,.int .i8 0,.int .i8 0]] rfl (by kernel_rfl) (by kernel_rfl) (by kernel_rfl)
   (OpenSpec.preRow_of_cond 8 hx (by kernel_rfl) (λk h=>by cases h) (by kernel_rfl) (Ya os))) ?_
 intro W J args U gs I M Z _ _ _ V _ _;exact O0 H enc W J args U gs I M Z V
theorem Zm:Rows.CorrespondencePathsSaid:=
 OpenClaim.holds_of_cond 7 Tryz.f7 rfl rfl rfl rfl rfl rfl rfl ⟨rfl,rfl,rfl,rfl,rfl⟩ rfl rfl rfl rfl rfl (by kernel_rfl) Tryz.func7 (by kernel_rfl)
  (of_decide_eq_true (by kernel_rfl)) (by unfold Func.isWrapper;first |(rw[if_pos (by decide +kernel)];kernel_rfl) |(rw[if_neg (by decide +kernel)];exact⟨rfl,rfl⟩))
  (λos E H enc _ F=>by rw[OpenClaim.pre_eq_preRow];exact gW os E H enc F)
theorem plain (f:FuncId) (E:Func) (O:Tryz.pinned.checked.prog.funcNamed "halfplane/halfplanelaw46.CorrespondencePaths"=some f) (I:Tryz.pinned.checked.prog.funcs[f]?=some E):
  false=Tryz.pinned.checked.prog.looks []/\∀(j:Nat) t,E.params[j]?=some t->Tryz.pinned.checked.prog.wantsStandIn t=false:=by
 obtain rfl:f=7:=Option.some.inj ((show Tryz.prog.funcNamed "halfplane/halfplanelaw46.CorrespondencePaths"=some 7 by kernel_rfl).symm.trans O) |>.symm
 obtain rfl:E=Tryz.f7:=(Option.some.inj (Tryz.func7.symm.trans I)).symm;refine⟨by kernel_rfl,λj t J=>?_⟩;rw[Tryz.params7]at J;have M:t=23∨t=3∨t=50:=by simpa using Array.mem_of_getElem? J
 rcases M with rfl|rfl|rfl
 ·exact(show Tryz.prog.wantsStandIn 23=false by kernel_rfl)
 ·exact(show Tryz.prog.wantsStandIn 3=false by kernel_rfl)
 ·exact(show Tryz.prog.wantsStandIn 50=false by kernel_rfl)
theorem card:Rows.CorrespondencePathsCardSaid:=
 Claim7.holds_tied_plain_at .later [] _ _ _ _ Zm (λ_ h=>by cases h) (by kernel_rfl) (λ_ h=>by cases h) correspondencePaths_row_tie rfl ⟨rfl,rfl⟩ (by kernel_rfl) rfl plain (by kernel_rfl)
#print axioms card
end lawCp
end Go.Proofs.YtenlbhlllgppmaaGreatDoor
