/- The statement AtkinlehnerAny: for every Spec, number and all Corners the law's function returns true; its arguments read as they read before. Condition: the library's table of bit positions holds what the program's text lays (the card ties it). -/
import Derived.Test.YtenlbhlllgppmaaGreatDoorA34
import Derived.Test.YtenlbhlllgppmaaGreatDoorCards
import Derived.Test.YtenlbhlllgppmaaGreatDoorTie
import Derived.Deep.DeepHandedRow
set_option linter.unusedSimpArgs false
set_option maxRecDepth 100000
namespace Go.Proofs.YtenlbhlllgppmaaGreatDoor
namespace lawAny
open Go.ChangeShapes Go.WideShapes Go.ChangeAt Go.RowKit Go.Joins
section
variable {H:Type} {enc:TypeId×Value->H} {P:Program}
theorem D0 {f:Func} {s:ChangeSpec} {J aK M aD:Bool} {W W':World} {args:Array Value} {v:Value} {ds gs:List (DataW H)} {I pa pv:List MemPlace}
  (hW:DataW.Whole enc P f.params.toList s.vars J W args.toList ds gs I)
  (h:∀(b:Nat) (sp:Nat->Bool) (hd:Bool),DataW.TrodAll enc P W' b sp hd f.resultTypes.toList (v.resultList f.resultTypes.size) (s.fn H (ds++gs)).results [])
  (O:∀sp:Nat->Bool,(∀p∈I,sp p.block=true)->DataW.TrodAll enc P W' 0 sp true f.params.toList args.toList (s.fn H (ds++gs)).args pa)
  (V:∀sp:Nat->Bool,(∀p∈I,sp p.block=true)->DataW.TrodVars enc P W' sp s.vars (s.fn H (ds++gs)).vars pv)
  (Y:I=pa++pv) (hb:Below W.heap.size W W')
  (bG:∀(j:Nat) (t:TypeId) (r:Value),f.resultTypes[j]?=some t->(v.resultList f.resultTypes.size)[j]?=some r->Value.okWide P W' .any 0 t r):
  s.post enc P f J aK M aD W args v W':=by
 have hlt:∀p∈I,p.block<W.heap.size:=λp U=>hW.lt p U
 have Z:∀p∈I,(λb=>decide (b<W.heap.size)) p.block=true:=λp U=>by simpa using hlt p U
 refine⟨ds,gs,I,[],pa,pv,hW,h _ _ _,O _ Z,V _ Z,World.keptBut_mono (λp U=>⟨U,?_⟩) (hb.frame (·∈I)),λ_=>?_⟩
 ·rw[Y,List.mem_append]at U
  exact Or.inr U
 ·obtain⟨_,_,_,_,_,hz,hn⟩:=hW
  refine⟨bG,_,_,([]++pa)++pv,⟨[]++pa,pv,trodAll_append (O _ (λ_ _=>rfl)) (h _ _ _),V _ (λ_ _=>rfl),rfl,?_,?_⟩,?_⟩
  ·intro b bB U
   have bA:MemPlace.cell b bB∈I:=by rw[Y];simpa using U
   rw[hb.frozen (hlt _ bA)];exact hz b bB bA
  ·intro ha
   have:=hn ha;rw[Y]at this
   simpa using this
  ·intro p U _
   rw[Y]
   simpa using U
end
theorem lP:ownKnob Tryz.prog.godebug=none:=by kernel_rfl
theorem Ws:Tryz.prog.globalNamed "math/bits.deBruijn64tab"=some 0:=by kernel_rfl
theorem Ke:(Tryz.prog.globals[0]?).map (·.type)=some 252:=by kernel_rfl
theorem J2:Tryz.prog.cellsOf 252=64:=by kernel_rfl
theorem Mz:Tryz.prog.cellsOf 5=1:=by kernel_rfl
theorem fW:Tryz.prog.cellsOf 23=3:=by kernel_rfl
def Ew:List Int:=Lib.deBruijn64tab.map λ(n:Nat)=>(n:Int)
theorem Dw {W:World} (h:laidMetH Tryz.prog Rows.atkinlehnerAnyRow.laid W):Lib.TabIs Tryz.prog W "math/bits.deBruijn64tab" .u8 Ew:=
 Lib.tabIs_of_head (rest:=[]) Ws Ke Tryz.underlying252 Tryz.underlying5 Mz J2 h
theorem Nx:∀j,j<64->Ew.getD j 0=((Lib.deBruijn64tab.getD j 0:Nat):Int):=by decide +kernel
theorem Rn {W:World} (h:laidMetH Tryz.prog Rows.atkinlehnerAnyRow.laid W):Tab W:=by
 intro j I;have J:=(Dw h).cell Ws j (Nat.lt_of_lt_of_eq I (by decide));rw[J,Nx j I]
theorem Gy (H:Type) (enc:TypeId×Value->H) (W:World) (V:Nat) (args:Array Value) (ds gs:List (DataW H)) (J:List MemPlace)
  (I:∀(j:Nat) t v,Tryz.f6.params[j]?=some t->args[j]?=some v->Value.okWide Tryz.prog W .any V t v)
  (hW:DataW.Whole enc Tryz.prog Tryz.f6.params.toList Rows.atkinlehnerAnySpec.vars false W args.toList ds gs J) (hL:laidMetH Tryz.prog Rows.atkinlehnerAnyRow.laid W):
  Calls Tryz.prog 6 args W λe W'=>∃v,e=.returned v/\Rows.atkinlehnerAnySpec.post enc Tryz.prog Tryz.f6 false true false false W args v W':=by
 have Y:=hW;obtain⟨p,q,hA0,hV,rfl,hD,hE⟩:=hW;have hA:DataW.TrodAll enc Tryz.prog W 0 (λ_=>true) true Tryz.f6.params.toList args.toList ds p:=hA0;rw[Tryz.params6]at hA I;obtain⟨v0,hP,d0,gL,p0,q0,aX,rfl,rfl,h0,r0⟩:=trodAll_cons hA;obtain⟨v1,hQ,d1,gN,p1,q1,rfl,rfl,rfl,h1,r1⟩:=trodAll_cons r0;obtain⟨v2,hR,d2,gP,p2,q2,rfl,rfl,rfl,h2,r2⟩:=trodAll_cons r1;obtain⟨rfl,rfl,rfl⟩:=trodAll_nil r2;obtain rfl:args=#[v0,v1,v2]:=by cases args;simp_all
 obtain⟨rfl,rfl⟩:=trodVars_none hV;obtain⟨c0,c1,c2,y0,y1,y2,m,rfl,rfl,rfl,bG,bH,bY⟩:=open_agg3 Tryz.underlying23 (by kernel_rfl) fW (I 0 23 v0 rfl rfl) h0;obtain⟨aN,e0,rfl,wa⟩:=DataW.trod_int Tryz.underlying3 bG;obtain⟨aK,e1,rfl,wb⟩:=DataW.trod_int Tryz.underlying3 bH;obtain⟨aD,e2,rfl,wc⟩:=DataW.trod_int Tryz.underlying3 bY;simp at e0 e1 e2;subst e0 e1 e2;obtain⟨aq,rfl,rfl,rfl,M⟩:=open_int Tryz.underlying3 (I 1 3 v1 rfl rfl) h1;have M:=Ml M;obtain⟨pa,la,ca,xa,x1,x2,y1,y2,z1,z2,a,b',c,d,rfl,⟨bA,bE⟩,⟨Z,h⟩,⟨O,U⟩,⟨hG,hI⟩,ha,hb,hc,hd⟩:=Np (I 2 50 v2 rfl rfl) h2;refine(lD aN aK aD aq pa la ca xa x1 x2 y1 y2 z1 z2 a b' c d W (Rn hL) bA bE M.1 M.2 Z.1 Z.2 h.1 h.2 O.1 O.2 U.1 U.2 ha.1 ha.2 hb.1 hb.2 hc.1 hc.2 hd.1 hd.2).mono λe W' ⟨he,hg⟩=>?_
 subst he;have hlt:=Y.lt
 exact⟨_,rfl,D0 (pv:=[]) Y (λ_ _ _=>trodAll_cons_mk (shut_bool Tryz.underlying4 _) trodAll_mk0) (λsp bB=>D1 (DataW.TrodAll.respare Sd Sb (by rw[Tryz.params6];exact of_decide_eq_true (by kernel_rfl)) hA0 (λx hx=>bB x (List.mem_append_left _ hx))) (λx hx=>hg.same (hlt x (List.mem_append_left _ hx)))) (λ_ _=>rfl) rfl
  hg (ok_one (by kernel_rfl) rfl (okWide_bool_mk Tryz.underlying4 _))⟩
noncomputable def laidWorld (os:Os):World:=
 { World.holding Tryz.prog os ⟨#[],#[],[]⟩with heap:=(World.holding Tryz.prog os ⟨#[],#[],[]⟩).heap.modify 0 λ
  |.cells _ t frozen=>.cells (Ew.map (Value.int .u8)).toArray t frozen
  | o=>o }
theorem Kg (os:Os):laidMet Tryz.prog Rows.atkinlehnerAnyRow.laid ((laidWorld os).forCall (λ_ _=>0) ⟨#[],#[.agg #[.int .i64 0,.int .i64 0,.int .i64 0],.int .i64 0,.agg #[.slice none 0 0,.int .i64 0,.int .i64 0,.int .i64 0,.int .i64 0,.int .i64 0,.int .i64 0,.int .i8 0,.int .i8 0,.int .i8 0,.int .i8 0]],[]⟩).memory:=
 laidMet_of_run' 8 (by kernel_rfl) (by kernel_rfl)
theorem Yd (os:Os) {H:Type} (enc:TypeId×Value->H):∃I,DataW.whole enc Tryz.prog ((laidWorld os).forCall (λ_ _=>0) ⟨#[],#[.agg #[.int .i64 0,.int .i64 0,.int .i64 0],.int .i64 0,.agg #[.slice none 0 0,.int .i64 0,.int .i64 0,.int .i64 0,.int .i64 0,.int .i64 0,.int .i64 0,.int .i8 0,.int .i8 0,.int .i8 0,.int .i8 0]],[]⟩).memory Tryz.f6.params.toList Rows.atkinlehnerAnySpec.vars false #[Value.agg #[.int .i64 0,.int .i64 0,.int .i64 0],Value.int .i64 0,Value.agg #[.slice none 0 0,.int .i64 0,.int .i64 0,.int .i64 0,.int .i64 0,.int .i64 0,.int .i64 0,.int .i8 0,.int .i8 0,.int .i8 0,.int .i8 0]].toList 8=some ([.agg [.lit (.int .i64 0),.lit (.int .i64 0),.lit (.int .i64 0)],.lit (.int .i64 0),.agg [.nil,.agg [.lit (.int .i64 0),.lit (.int .i64 0)],.agg [.lit (.int .i64 0),.lit (.int .i64 0)],.agg [.lit (.int .i64 0),.lit (.int .i64 0)],.lit (.int .i8 0),.lit (.int .i8 0),.lit (.int .i8 0),.lit (.int .i8 0)]],[],I):=
 ⟨[],by kernel_rfl⟩
theorem lN (os:Os) (I:os.Started) (H:Type) (enc:TypeId×Value->H) (F:Stop.Interp):
  ReturnsInHanded {} Tryz.checked os 6 .any ((OpenSpec.ofChange Rows.atkinlehnerAnySpec).preRow enc Tryz.prog Tryz.f6 Rows.atkinlehnerAnyRow.domain false Rows.atkinlehnerAnyRow.laid) (((OpenSpec.ofChange Rows.atkinlehnerAnySpec).at F).post enc Tryz.prog Tryz.f6 false true false false):=by
 obtain⟨U,hx⟩:=Yd os enc
 refine returnsInHanded_of_row (C:=Tryz.checked) (s:=OpenSpec.ofChange Rows.atkinlehnerAnySpec) lP I (by kernel_rfl) Tryz.func6
  (witness_row_at (enc:=enc) (C:=Tryz.checked) false (laidWorld os) #[.agg #[.int .i64 0,.int .i64 0,.int .i64 0],.int .i64 0,.agg #[.slice none 0 0,.int .i64 0,.int .i64 0,.int .i64 0,.int .i64 0,.int .i64 0,.int .i64 0,.int .i8 0,.int .i8 0,.int .i8 0,.int .i8 0]] rfl (by kernel_rfl) (by kernel_rfl) (by kernel_rfl)
   (OpenSpec.preRow_of_cond 8 hx (by kernel_rfl) (λk h=>by cases h) (by kernel_rfl) (Kg os))) ?_
 intro W M args V gs J O Z _ _ _ Y _ _;exact Gy H enc W M args V gs J O Z Y
theorem Rf:Rows.AtkinlehnerAnySaid:=
 OpenClaim.holds_of_cond 6 Tryz.f6 rfl rfl rfl rfl rfl rfl rfl ⟨rfl,rfl,rfl,rfl,rfl⟩ rfl rfl rfl rfl rfl (by kernel_rfl) Tryz.func6 (by kernel_rfl)
  (of_decide_eq_true (by kernel_rfl)) (by unfold Func.isWrapper;first |(rw[if_pos (by decide +kernel)];kernel_rfl) |(rw[if_neg (by decide +kernel)];exact⟨rfl,rfl⟩))
  (λos I H enc _ F=>by rw[OpenClaim.pre_eq_preRow];exact lN os I H enc F)
theorem plain (f:FuncId) (I:Func) (U:Tryz.pinned.checked.prog.funcNamed "halfplane/halfplanelaw48.AtkinlehnerAny"=some f) (J:Tryz.pinned.checked.prog.funcs[f]?=some I):
  false=Tryz.pinned.checked.prog.looks []/\∀(j:Nat) t,I.params[j]?=some t->Tryz.pinned.checked.prog.wantsStandIn t=false:=by
 obtain rfl:f=6:=Option.some.inj ((show Tryz.prog.funcNamed "halfplane/halfplanelaw48.AtkinlehnerAny"=some 6 by kernel_rfl).symm.trans U) |>.symm
 obtain rfl:I=Tryz.f6:=(Option.some.inj (Tryz.func6.symm.trans J)).symm;refine⟨by kernel_rfl,λj t M=>?_⟩;rw[Tryz.params6]at M;have O:t=23∨t=3∨t=50:=by simpa using Array.mem_of_getElem? M
 rcases O with rfl|rfl|rfl
 ·exact(show Tryz.prog.wantsStandIn 23=false by kernel_rfl)
 ·exact(show Tryz.prog.wantsStandIn 3=false by kernel_rfl)
 ·exact(show Tryz.prog.wantsStandIn 50=false by kernel_rfl)
theorem card:Rows.AtkinlehnerAnyCardSaid:=
 Claim7.holds_tied_plain_at .later [] _ _ _ _ Rf (λ_ h=>by cases h) (by kernel_rfl) (λ_ h=>by cases h) atkinlehnerAny_row_tie rfl ⟨rfl,rfl⟩ (by kernel_rfl) rfl plain (by kernel_rfl)
#print axioms card
end lawAny
end Go.Proofs.YtenlbhlllgppmaaGreatDoor
