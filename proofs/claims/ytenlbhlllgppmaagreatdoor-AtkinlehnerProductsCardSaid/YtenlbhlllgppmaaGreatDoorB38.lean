/- The statement AtkinlehnerProducts: for every Spec and all q and r the law's function returns true; its arguments read as they read before. Condition: the library's table of bit positions holds what the program's text lays (the card ties it). -/
import Derived.Test.YtenlbhlllgppmaaGreatDoorB37
import Derived.Test.YtenlbhlllgppmaaGreatDoorCards
import Derived.Test.YtenlbhlllgppmaaGreatDoorTie
import Derived.Deep.DeepHandedRow
set_option linter.unusedSimpArgs false
set_option maxRecDepth 100000
namespace Go.Proofs.YtenlbhlllgppmaaGreatDoor
namespace lawProducts
open Go.ChangeShapes Go.WideShapes Go.ChangeAt Go.RowKit Go.Joins
section
variable {H:Type} {enc:TypeId×Value->H} {P:Program}
theorem L8 {f:Func} {s:ChangeSpec} {J bB O bA:Bool} {W W':World} {args:Array Value} {v:Value} {ds gs:List (DataW H)} {I pa pv:List MemPlace}
  (hW:DataW.Whole enc P f.params.toList s.vars J W args.toList ds gs I)
  (aX:∀(b:Nat) (sp:Nat->Bool) (hd:Bool),DataW.TrodAll enc P W' b sp hd f.resultTypes.toList (v.resultList f.resultTypes.size) (s.fn H (ds++gs)).results [])
  (U:∀sp:Nat->Bool,(∀p∈I,sp p.block=true)->DataW.TrodAll enc P W' 0 sp true f.params.toList args.toList (s.fn H (ds++gs)).args pa)
  (Y:∀sp:Nat->Bool,(∀p∈I,sp p.block=true)->DataW.TrodVars enc P W' sp s.vars (s.fn H (ds++gs)).vars pv)
  (Z:I=pa++pv) (hb:Below W.heap.size W W')
  (cC:∀(j:Nat) (t:TypeId) (r:Value),f.resultTypes[j]?=some t->(v.resultList f.resultTypes.size)[j]?=some r->Value.okWide P W' .any 0 t r):
  s.post enc P f J bB O bA W args v W':=by
 have hlt:∀p∈I,p.block<W.heap.size:=λp V=>hW.lt p V
 have h:∀p∈I,(λb=>decide (b<W.heap.size)) p.block=true:=λp V=>by simpa using hlt p V
 refine⟨ds,gs,I,[],pa,pv,hW,aX _ _ _,U _ h,Y _ h,World.keptBut_mono (λp V=>⟨V,?_⟩) (hb.frame (·∈I)),λ_=>?_⟩
 ·rw[Z,List.mem_append]at V
  exact Or.inr V
 ·obtain⟨_,_,_,_,_,hz,hn⟩:=hW
  refine⟨cC,_,_,([]++pa)++pv,⟨[]++pa,pv,trodAll_append (U _ (λ_ _=>rfl)) (aX _ _ _),Y _ (λ_ _=>rfl),rfl,?_,?_⟩,?_⟩
  ·intro b cA V
   have bY:MemPlace.cell b cA∈I:=by rw[Z];simpa using V
   rw[hb.frozen (hlt _ bY)];exact hz b cA bY
  ·intro ha
   have:=hn ha;rw[Z]at this
   simpa using this
  ·intro p V _
   rw[Z]
   simpa using V
end
theorem jB:ownKnob Tryz.prog.godebug=none:=by kernel_rfl
theorem kL:Tryz.prog.globalNamed "math/bits.deBruijn64tab"=some 0:=by kernel_rfl
theorem Yi:(Tryz.prog.globals[0]?).map (·.type)=some 252:=by kernel_rfl
theorem Xs:Tryz.prog.cellsOf 252=64:=by kernel_rfl
theorem cV:Tryz.prog.cellsOf 5=1:=by kernel_rfl
theorem Mn:Tryz.prog.cellsOf 23=3:=by kernel_rfl
def Ol:List Int:=Lib.deBruijn64tab.map λ(n:Nat)=>(n:Int)
theorem Gc {W:World} (h:laidMetH Tryz.prog Rows.atkinlehnerProductsRow.laid W):Lib.TabIs Tryz.prog W "math/bits.deBruijn64tab" .u8 Ol:=
 Lib.tabIs_of_head (rest:=[]) kL Yi Tryz.underlying252 Tryz.underlying5 cV Xs h
theorem eG:∀j,j<64->Ol.getD j 0=((Lib.deBruijn64tab.getD j 0:Nat):Int):=by decide +kernel
theorem iU {W:World} (h:laidMetH Tryz.prog Rows.atkinlehnerProductsRow.laid W):Tab W:=by
 intro j I;have J:=(Gc h).cell kL j (Nat.lt_of_lt_of_eq I (by decide));rw[J,eG j I]
theorem Pp (H:Type) (enc:TypeId×Value->H) (W:World) (U:Nat) (args:Array Value) (ds gs:List (DataW H)) (J:List MemPlace)
  (I:∀(j:Nat) t v,Tryz.f8.params[j]?=some t->args[j]?=some v->Value.okWide Tryz.prog W .any U t v)
  (hW:DataW.Whole enc Tryz.prog Tryz.f8.params.toList Rows.atkinlehnerProductsSpec.vars false W args.toList ds gs J) (hL:laidMetH Tryz.prog Rows.atkinlehnerProductsRow.laid W):
  Calls Tryz.prog 8 args W λe W'=>∃v,e=.returned v/\Rows.atkinlehnerProductsSpec.post enc Tryz.prog Tryz.f8 false true false false W args v W':=by
 have V:=hW;obtain⟨p,q,hA0,hV,rfl,gA,gF⟩:=hW;have hA:DataW.TrodAll enc Tryz.prog W 0 (λ_=>true) true Tryz.f8.params.toList args.toList ds p:=hA0;rw[Tryz.params8]at hA I;obtain⟨v0,gU,d0,cF,p0,q0,Z,rfl,rfl,h0,r0⟩:=trodAll_cons hA;obtain⟨v1,hB,d1,cG,p1,q1,rfl,rfl,rfl,h1,r1⟩:=trodAll_cons r0;obtain⟨v2,hD,d2,cT,p2,q2,rfl,rfl,rfl,h2,r2⟩:=trodAll_cons r1;obtain⟨rfl,rfl,rfl⟩:=trodAll_nil r2;obtain rfl:args=#[v0,v1,v2]:=by cases args;simp_all
 obtain⟨rfl,rfl⟩:=trodVars_none hV;obtain⟨c0,c1,c2,y0,y1,y2,m,rfl,rfl,rfl,h,aX,bA⟩:=open_agg3 Tryz.underlying23 (by kernel_rfl) Mn (I 0 23 v0 rfl rfl) h0;obtain⟨a,e0,rfl,wa⟩:=DataW.trod_int Tryz.underlying3 h;obtain⟨Y,e1,rfl,wb⟩:=DataW.trod_int Tryz.underlying3 aX;obtain⟨c,e2,rfl,wc⟩:=DataW.trod_int Tryz.underlying3 bA;simp at e0 e1 e2;subst e0 e1 e2;obtain⟨n,rfl,rfl,rfl,wn⟩:=open_int Tryz.underlying3 (I 1 3 v1 rfl rfl) h1;obtain⟨n',rfl,rfl,rfl,O⟩:=open_int Tryz.underlying3 (I 2 3 v2 rfl rfl) h2;clear hA0;simp only[List.append_nil]at V;refine(bX a Y c n n' W (iU hL) (Ua wn).1 (Ua wn).2 (Ua O).1 (Ua O).2).mono λe W' ⟨he,hg⟩=>?_
 subst he
 have sp:∀(w:World) (b:Nat) (sp:Nat->Bool) (hd:Bool),DataW.Trod enc Tryz.prog w b sp hd 23 (Ll a Y c) (.agg [.lit (.int .i64 a),.lit (.int .i64 Y),.lit (.int .i64 c)]) []:=λw b sp hd=>
  shut_agg3 (y0:=(.lit (.int .i64 a),[])) (y1:=(.lit (.int .i64 Y),[])) (y2:=(.lit (.int .i64 c),[])) Tryz.underlying23 (by kernel_rfl) Mn ⟨1,by simp[DataW.trod,Tryz.underlying3,wa]⟩ ⟨1,by simp[DataW.trod,Tryz.underlying3,wb]⟩ ⟨1,by simp[DataW.trod,Tryz.underlying3,wc]⟩
 exact⟨_,rfl,L8 (pa:=[]) (pv:=[]) V (λ_ _ _=>trodAll_cons_mk (shut_bool Tryz.underlying4 _) trodAll_mk0) (λ_ _=>trodAll_cons_mk (p:=[]) (p':=[]) (sp _ _ _ _) (trodAll_cons_mk (p:=[]) (p':=[]) (shut_int Tryz.underlying3 wn) (trodAll_cons_mk (p:=[]) (p':=[]) (shut_int Tryz.underlying3 O) trodAll_mk0))) (λ_ _=>rfl) rfl
  hg (ok_one (by kernel_rfl) rfl (okWide_bool_mk Tryz.underlying4 _))⟩
noncomputable def laidWorld (os:Os):World:=
 { World.holding Tryz.prog os ⟨#[],#[],[]⟩with heap:=(World.holding Tryz.prog os ⟨#[],#[],[]⟩).heap.modify 0 λ
  |.cells _ t frozen=>.cells (Ol.map (Value.int .u8)).toArray t frozen
  | o=>o }
theorem Yt (os:Os):laidMet Tryz.prog Rows.atkinlehnerProductsRow.laid ((laidWorld os).forCall (λ_ _=>0) ⟨#[],#[Ll 0 0 0,.int .i64 0,.int .i64 0],[]⟩).memory:=
 laidMet_of_run' 8 (by kernel_rfl) (by kernel_rfl)
theorem lD (os:Os) {H:Type} (enc:TypeId×Value->H):∃I,DataW.whole enc Tryz.prog ((laidWorld os).forCall (λ_ _=>0) ⟨#[],#[Ll 0 0 0,.int .i64 0,.int .i64 0],[]⟩).memory Tryz.f8.params.toList Rows.atkinlehnerProductsSpec.vars false #[Ll 0 0 0,Value.int .i64 0,Value.int .i64 0].toList 8=some ([.agg [.lit (.int .i64 0),.lit (.int .i64 0),.lit (.int .i64 0)],.lit (.int .i64 0),.lit (.int .i64 0)],[],I):=
 ⟨[],by kernel_rfl⟩
theorem iA (os:Os) (I:os.Started) (H:Type) (enc:TypeId×Value->H) (F:Stop.Interp):
  ReturnsInHanded {} Tryz.checked os 8 .any ((OpenSpec.ofChange Rows.atkinlehnerProductsSpec).preRow enc Tryz.prog Tryz.f8 Rows.atkinlehnerProductsRow.domain false Rows.atkinlehnerProductsRow.laid) (((OpenSpec.ofChange Rows.atkinlehnerProductsSpec).at F).post enc Tryz.prog Tryz.f8 false true false false):=by
 obtain⟨V,hx⟩:=lD os enc
 refine returnsInHanded_of_row (C:=Tryz.checked) (s:=OpenSpec.ofChange Rows.atkinlehnerProductsSpec) jB I (by kernel_rfl) Tryz.func8
  (witness_row_at (enc:=enc) (C:=Tryz.checked) false (laidWorld os) #[Ll 0 0 0,.int .i64 0,.int .i64 0] rfl (by kernel_rfl) (by kernel_rfl) (by kernel_rfl)
   (OpenSpec.preRow_of_cond 8 hx (by kernel_rfl) (λk hk=>by cases hk) (by kernel_rfl) (Yt os))) ?_
 intro W O args Y gs J U h _ _ _ Z _ _;exact Pp H enc W O args Y gs J U h Z
theorem Z2:Rows.AtkinlehnerProductsSaid:=
 OpenClaim.holds_of_cond 8 Tryz.f8 rfl rfl rfl rfl rfl rfl rfl ⟨rfl,rfl,rfl,rfl,rfl⟩ rfl rfl rfl rfl rfl (by kernel_rfl) Tryz.func8 (by kernel_rfl)
  (of_decide_eq_true (by kernel_rfl)) (by unfold Func.isWrapper;first |(rw[if_pos (by decide +kernel)];kernel_rfl) |(rw[if_neg (by decide +kernel)];exact⟨rfl,rfl⟩))
  (λos I H enc _ F=>by rw[OpenClaim.pre_eq_preRow];exact iA os I H enc F)
theorem plain (f:FuncId) (I:Func) (V:Tryz.pinned.checked.prog.funcNamed "halfplane/halfplanelaw48.AtkinlehnerProducts"=some f) (J:Tryz.pinned.checked.prog.funcs[f]?=some I):
  false=Tryz.pinned.checked.prog.looks []/\∀(j:Nat) t,I.params[j]?=some t->Tryz.pinned.checked.prog.wantsStandIn t=false:=by
 obtain rfl:f=8:=Option.some.inj ((show Tryz.prog.funcNamed "halfplane/halfplanelaw48.AtkinlehnerProducts"=some 8 by kernel_rfl).symm.trans V) |>.symm
 obtain rfl:I=Tryz.f8:=(Option.some.inj (Tryz.func8.symm.trans J)).symm;refine⟨by kernel_rfl,λj t O=>?_⟩;rw[Tryz.params8]at O;have U:t=23∨t=3:=by simpa using Array.mem_of_getElem? O
 rcases U with rfl|rfl
 ·exact(show Tryz.prog.wantsStandIn 23=false by kernel_rfl)
 ·exact(show Tryz.prog.wantsStandIn 3=false by kernel_rfl)
theorem card:Rows.AtkinlehnerProductsCardSaid:=
 Claim7.holds_tied_plain_at .later [] _ _ _ _ Z2 (λ_ h=>by cases h) (by kernel_rfl) (λ_ h=>by cases h) atkinlehnerProducts_row_tie rfl ⟨rfl,rfl⟩ (by kernel_rfl) rfl plain (by kernel_rfl)
#print axioms card
end lawProducts
end Go.Proofs.YtenlbhlllgppmaaGreatDoor
