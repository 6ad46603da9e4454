/- The law wpE once more, with operations X that read no memory and for which nobody waits: S need not hold once all others have come up. -/
import Derived.Test.YtijgdhijdfgpfaaGreatDoorZ13
namespace Go.Proofs.YtijgdhijdfgpfaaGreatDoor
open Go.RowKit
section
variable {P:Program} {md:Region.Mode} {ops:Array Oper} {Q:Exit→Act→World→Prop} {S:World→Prop} {X:List Nat}
def fullX (ops:Array Oper) (X:List Nat) (listed:Array Bool):Bool:=(List.range ops.size).all fun k=>listed.getD k true||X.contains k
theorem fullX_idle {listed:Array Bool} {i:Nat} (hX:X.contains i=true):fullX ops X (listed.setIfInBounds i true)=fullX ops X listed:=by
 unfold fullX
 congr 1
 funext k
 by_cases e:k=i
 ·subst e;rw[hX,Bool.or_true,Bool.or_true]
 ·rw[getD_set_ne true (fun h=>e h.symm)]
theorem not_fullX {listed:Array Bool} {k:Nat} (hk:k<ops.size) (hX:X.contains k=false) (h:listed.getD k true=false):fullX ops X listed=false:=by
 cases e:fullX ops X listed with
 | false=>rfl
 | true=>
  rw[fullX,List.all_eq_true]at e
  have h1:=e k (List.mem_range.2 hk)
  rw[h,hX]at h1
  cases h1
def waitX (md:Region.Mode) (ops:Array Oper) (X:List Nat) (listed:Array Bool) (i:Nat):Bool:=
 (List.range ops.size).any fun k=>k != i && !(listed.getD k true) && !X.contains k&&match ops[k]? with
  | some o=>o.after.any fun e=>Region.binds md e&&e.on==i
  | none=>false
def wpX (P:Program) (md:Region.Mode) (ops:Array Oper) (Q:Exit→Act→World→Prop) (S:World→Prop) (X:List Nat):Nat→Array Bool→Act→World→Prop
 | 0,listed,a,w=>Region.ready md ops listed=[]∧Q .normal a w
 | n+1,listed,a,w=>(Region.ready md ops listed=[]→Q .normal a w) ∧
  ∀ i∈Region.ready md ops listed,wpOp P ops Q i (fun a' w'=>(fullX ops X (listed.setIfInBounds i true)=false→S w')∧wpX P md ops Q S X n (listed.setIfInBounds i true) a' w') a w
theorem wpX.any:∀ (n:Nat) (listed:Array Bool) (a:Act) (w:World),wpX P md ops Q S X n listed a w→wpAny P md ops Q n listed a w
 | 0,_,_,_,h=>h
 | n+1,_,_,_,h=>⟨h.1,fun i hi=>wpOp_mono (fun a' w' h'=>wpX.any n _ a' w' h'.2) (h.2 i hi)⟩
theorem wpX.first {T:World→Prop} {i:Nat} {oi:Oper} {v:Value} (hi:ops[i]?=some oi)
  (hsel:∀ (j:Nat) (o:Oper) cs b,ops[j]?=some o→o.op≠.select cs b) (hQ:∀ c a w,Q (.panic c) (a.put oi.dst v) w→Q (.panic c) a w) (I:Array Bool→Prop)
  (hI:∀ l j,I l→j≠i→j∈Region.ready md ops l→I (l.setIfInBounds j true)) (hF:∀ l,I l→(fullX ops X (l.setIfInBounds i true)=false→∀ w,S w→T w)∧(fullX ops X l=false→fullX ops X (l.setIfInBounds i true)=false)∧(fullX ops X l=true→∀ w,T w)):
  ∀ (n:Nat) (listed:Array Bool) (a:Act) (w:World),I listed →
   (∀ j oj,ops[j]?=some oj→j≠i→listed.getD j true=false→(∀ e∈oj.after,Region.binds md e=true→e.on≠i)→oi.apart ops oj=true) →
   i∈Region.ready md ops listed→YieldsIf P ops T oi v a→(fullX ops X listed=false→S w) →
   wpX P md ops Q S X n (listed.setIfInBounds i true) (a.put oi.dst v) w→wpX P md ops Q S X (n+1) listed a w:=by
 have hTS:∀ l w,I l→(fullX ops X l=false→S w)→T w:=fun l w hl h=>by
  cases e:fullX ops X l with
  | true=>exact(hF l hl).2.2 e w
  | false=>exact(hF l hl).1 ((hF l hl).2.1 e) w (h e)
 have hSS:∀ l w,I l→(fullX ops X l=false→S w)→fullX ops X (l.setIfInBounds i true)=false→S w:=fun l w hl h h2=>by
  cases e:fullX ops X l with
  | false=>exact h e
  | true=>
   rw[fullX,List.all_eq_true]at e
   unfold fullX at h2
   rw[List.all_eq_false]at h2
   obtain⟨k,hk,h3⟩:=h2
   have h4:=e k hk
   exfalso
   apply h3
   by_cases hki:k=i
   ·subst hki
    rcases Nat.lt_or_ge k l.size with h5|h5
    ·simp[h5]
    ·simp[h5]
   ·rw[getD_set_ne true (fun h=>hki h.symm)];exact h4
 intro n
 induction n with
 | zero=>
  intro listed a w hIl _ hr hy hS H
  refine⟨(fun h=>by rw[h]at hr;cases hr),fun j hj=>?_⟩
  by_cases hji:j=i
  ·subst hji;exact hy.wpOp hi (hTS _ _ hIl hS) ⟨hSS _ _ hIl hS,H⟩
  ·have h1:=ready_mono hj hji
   rw[H.1]at h1
   cases h1
 | succ n ih=>
  intro listed a w hIl hfree hr hy hS H
  refine⟨(fun h=>by rw[h]at hr;cases hr),fun j hj=>?_⟩
  by_cases hji:j=i
  ·subst hji;exact hy.wpOp hi (hTS _ _ hIl hS) ⟨hSS _ _ hIl hS,H⟩
  have h1:=H.2 j (ready_mono hj hji)
  obtain⟨hjl,oj,hoj,hall⟩:=mem_ready.1 hj
  have hin:listed.getD i false=false:=by
   have h0:=(mem_ready.1 hr).1
   rcases Nat.lt_or_ge i listed.size with h2|h2
   ·simp[h2]at h0 ⊢;exact h0
   ·simp[Array.getElem?_eq_none h2]
  have hno:∀ e∈oj.after,Region.binds md e=true→e.on≠i:=fun e he hb h2=>by
   have h3:=hall e he hb
   rw[h2,hin]at h3
   cases h3
  have h2:=wpOp_putIf hoj (hfree j oj hoj hji hjl hno) (fun cs b=>hsel i oi cs b hi) (fun cs b=>hsel j oj cs b hoj) hQ hy h1
  refine wpOp_mono (fun a' w' h3=>?_) h2
  have hIj:=hI listed j hIl hji hj
  have hS':fullX ops X (listed.setIfInBounds j true)=false→S w':=fun e=>h3.2.1 (by rw[Array.setIfInBounds_comm _ _ (Ne.symm hji)];exact(hF _ hIj).2.1 e)
  refine⟨hS',ih _ a' w' hIj (fun q oq hq hqi hql hqn=>hfree q oq hq hqi ?_ hqn) (ready_mono hr (Ne.symm hji)) h3.1 hS' ?_⟩
  ·by_cases hjq:j=q
   ·subst hjq;exact hjl
   ·rw[getD_set_ne true hjq]at hql;exact hql
  ·rw[Array.setIfInBounds_comm _ _ hji]
   exact h3.2.2
theorem waitX_spec {listed:Array Bool} {i:Nat} (h:waitX md ops X listed i=true):∃ k ok,ops[k]?=some ok∧k≠i∧listed.getD k true=false∧X.contains k=false∧∃ e∈ok.after,Region.binds md e=true∧e.on=i:=by
 rw[waitX,List.any_eq_true]at h
 obtain⟨k,_,h⟩:=h
 cases hk:ops[k]? with
 | none=>rw[hk]at h;simp at h
 | some o=>
  rw[hk]at h
  simp only[Bool.and_eq_true,bne_iff_ne,ne_eq,Bool.not_eq_true',beq_iff_eq,Array.any_eq_true']at h
  obtain⟨⟨⟨h1,h2⟩,h0⟩,e,h3,h4,h5⟩:=h
  exact⟨k,o,hk,h1,h2,h0,e,h3,h4,h5⟩
theorem rgX (X:List Nat) {id:Nat} {a:Act} {w:World} (S:World→Prop) (hS:∀ W,Below w.heap.size w W→S W) (h:Hid (∀ W,Below w.heap.size w W→S W)→S w.drew→wpX P .any ops Q S X ops.size (Array.replicate ops.size false) a w.drew) (hm:P.follows .mixedOrders=true:=by kernel_rfl):(Code.region id ops true).wp P Q a w:=
 wp_region_any hm (wpX.any _ _ _ _ (h (Kh hS) (hS _ (Below.refl _ w).drew)))
theorem tkX (i:Nat) {oi:Oper} {v:Value} {n d:Nat} {listed:Array Bool} {a a':Act} {w:World} (h:wpX P md ops Q S X n (listed.setIfInBounds i true) a' w)
  (hi:ops[i]?=some oi:=by rfl) (hS:S w:=by assumption) (hw:Region.wanted oi (yielded ops a.tmps)=true:=by rfl)
  (hy:∀ w,S w→(execOp a.eval oi).run P w=.ok (.value v) w:=by intro w hSw;(try dsimp only at hSw);go_simp;(try with_reducible rfl))
  (hd:oi.dst=some d:=by rfl) (ha:a.put (some d) v=a':=by(try simp only[Act.put,List.setIfInBounds_toArray,List.set_cons_zero,List.set_cons_succ]);rfl)
  (hs:Region.noSelect ops=true:=by kernel_rfl) (hf:Region.free md ops listed i=true:=by kernel_rfl) (hr:(Region.ready md ops listed).contains i=true:=by kernel_rfl) (hk:waitX md ops X listed i=true:=by kernel_rfl)
  (hQ:∀ c a w,Q (.panic c) (a.put oi.dst v) w→Q (.panic c) a w:=by exact fun _ _ _ h=>h):wpX P md ops Q S X (n+1) listed a w:=by
 subst ha
 rw[← hd]at h
 obtain⟨k,ok,h1,h2,h3,h0,e0,he0,hb0,ho0⟩:=waitX_spec hk
 have hkx:k<ops.size:=(Array.getElem?_eq_some_iff.1 h1).1
 refine wpX.first (T:=S) hi (Region.noSelect_spec hs) hQ (fun l=>l.getD k true=false∧l.getD i false=false) (fun l j hl hji hj=>?_) (fun l hl=>?_) n listed a w ⟨h3,?_⟩ (Region.free_spec hi hf) (by simpa using hr) (.inl ⟨hw,hy⟩) (fun _=>hS) h
 ·obtain⟨_,oj,hoj,hall⟩:=mem_ready.1 hj
  refine⟨?_,?_⟩
  ·have hjk:j≠k:=fun h5=>by
    subst h5
    rw[hoj]at h1
    cases h1
    have h6:=hall e0 he0 hb0
    rw[ho0,hl.2]at h6
    cases h6
   rw[getD_set_ne true hjk];exact hl.1
  ·rw[getD_set_ne false hji];exact hl.2
 ·have hn:fullX ops X l=false:=not_fullX hkx h0 hl.1
  exact⟨fun _ w h=>h,fun _=>not_fullX hkx h0 (by rw[getD_set_ne true h2.symm];exact hl.1),fun h=>by rw[hn]at h;cases h⟩
 ·have hr2:i∈Region.ready md ops listed:=by simpa using hr
  have h5:=(mem_ready.1 hr2).1
  rcases Nat.lt_or_ge i listed.size with h6|h6
  ·simp[h6]at h5 ⊢;exact h5
  ·simp[Array.getElem?_eq_none h6]
theorem tkI (i:Nat) {oi:Oper} {v:Value} {n d:Nat} {listed:Array Bool} {a a':Act} {w:World} (h:wpX P md ops Q S X n (listed.setIfInBounds i true) a' w)
  (hi:ops[i]?=some oi:=by rfl) (hS:S w:=by assumption) (hw:Region.wanted oi (yielded ops a.tmps)=true:=by rfl)
  (hy:∀ w,(execOp a.eval oi).run P w=.ok (.value v) w:=by intro w;go_simp;(try with_reducible rfl))
  (hd:oi.dst=some d:=by rfl) (ha:a.put (some d) v=a':=by(try simp only[Act.put,List.setIfInBounds_toArray,List.set_cons_zero,List.set_cons_succ]);rfl)
  (hs:Region.noSelect ops=true:=by kernel_rfl) (hf:Region.free md ops listed i=true:=by kernel_rfl) (hr:(Region.ready md ops listed).contains i=true:=by kernel_rfl) (hX:X.contains i=true:=by kernel_rfl)
  (hQ:∀ c a w,Q (.panic c) (a.put oi.dst v) w→Q (.panic c) a w:=by exact fun _ _ _ h=>h):wpX P md ops Q S X (n+1) listed a w:=by
 subst ha
 rw[← hd]at h
 exact wpX.first (T:=fun _=>True) hi (Region.noSelect_spec hs) hQ (fun _=>True) (fun _ _ _ _ _=>trivial) (fun l _=>⟨fun _ _ _=>trivial,fun h=>by rw[fullX_idle hX];exact h,fun _ _=>trivial⟩) n listed a w trivial (Region.free_spec hi hf) (by simpa using hr) (.inl ⟨hw,fun w _=>hy w⟩) (fun _=>hS) h
theorem stX (i:Nat) {o:Oper} {n:Nat} {listed:Array Bool} {a:Act} {w:World}
  (ho:ops[i]?=some o) (h:∀ K':Act→World→Prop,Shut (∀ a w,S w→(S w→wpX P md ops Q S X n (listed.setIfInBounds i true) a w)→K' a w)→if Region.wanted o (yielded ops a.tmps)=true then Oper.wp P o a w K' Q else K' (a.put o.dst undef) w)
  (hr:Region.ready md ops listed=[i]:=by kernel_rfl):wpX P md ops Q S X (n+1) listed a w:=by
 refine⟨(fun e=>by rw[hr]at e;cases e),fun j hj=>?_⟩
 rw[hr,List.mem_singleton]at hj
 subst hj
 refine wpOp_step ho fun K' hK=>?_
 exact h K' fun a w hS hW=>hK a w ⟨fun _=>hS,hW hS⟩
theorem rd2X (i j:Nat) {oi oj:Oper} {n:Nat} {listed:Array Bool} {a:Act} {w:World} (hoi:ops[i]?=some oi) (hoj:ops[j]?=some oj)
  (hi:∀ K':Act→World→Prop,Shut (∀ a w,S w→(S w→wpX P md ops Q S X n (listed.setIfInBounds i true) a w)→K' a w)→if Region.wanted oi (yielded ops a.tmps)=true then Oper.wp P oi a w K' Q else K' (a.put oi.dst undef) w)
  (hj:∀ K':Act→World→Prop,Shut (∀ a w,S w→(S w→wpX P md ops Q S X n (listed.setIfInBounds j true) a w)→K' a w)→if Region.wanted oj (yielded ops a.tmps)=true then Oper.wp P oj a w K' Q else K' (a.put oj.dst undef) w)
  (hr:Region.ready md ops listed=[i,j]:=by kernel_rfl):wpX P md ops Q S X (n+1) listed a w:=by
 refine⟨(fun e=>by rw[hr]at e;cases e),fun k hk=>?_⟩
 rw[hr]at hk
 have hk:k=i∨k=j:=by simpa using hk
 rcases hk with rfl|rfl
 ·refine wpOp_step hoi fun K' hK=>?_
  exact hi K' fun a w hS hW=>hK a w ⟨fun _=>hS,hW hS⟩
 ·refine wpOp_step hoj fun K' hK=>?_
  exact hj K' fun a w hS hW=>hK a w ⟨fun _=>hS,hW hS⟩
theorem laX (i:Nat) {o:Oper} {n:Nat} {listed:Array Bool} {a:Act} {w:World}
  (ho:ops[i]?=some o) (h:∀ K':Act→World→Prop,Shut (∀ a w,Q .normal a w→K' a w)→if Region.wanted o (yielded ops a.tmps)=true then Oper.wp P o a w K' Q else K' (a.put o.dst undef) w)
  (hr:Region.ready md ops listed=[i]:=by kernel_rfl)
  (hn:Region.ready md ops (listed.setIfInBounds i true)=[]:=by kernel_rfl) (hl:fullX ops X (listed.setIfInBounds i true)=true:=by kernel_rfl):wpX P md ops Q S X (n+1) listed a w:=by
 refine⟨(fun e=>by rw[hr]at e;cases e),fun j hj=>?_⟩
 rw[hr,List.mem_singleton]at hj
 subst hj
 refine wpOp_step ho fun K' hK=>?_
 refine h K' fun a w hq=>hK a w ⟨(fun e=>by rw[hl]at e;cases e),?_⟩
 cases n with
 | zero=>exact⟨hn,hq⟩
 | succ n=>exact⟨fun _=>hq,fun j hj=>by rw[hn]at hj;cases hj⟩
theorem tkJ (i:Nat) {oi:Oper} {v:Value} {n d:Nat} {listed:Array Bool} {a a':Act} {w:World} (h:wpX P md ops Q S X n (listed.setIfInBounds i true) a' w)
  (hi:ops[i]?=some oi:=by rfl) (hl:fullX ops X listed=true:=by kernel_rfl) (hw:Region.wanted oi (yielded ops a.tmps)=true:=by rfl)
  (hy:∀ w,(execOp a.eval oi).run P w=.ok (.value v) w:=by intro w;go_simp;(try with_reducible rfl))
  (hd:oi.dst=some d:=by rfl) (ha:a.put (some d) v=a':=by(try simp only[Act.put,List.setIfInBounds_toArray,List.set_cons_zero,List.set_cons_succ]);rfl)
  (hs:Region.noSelect ops=true:=by kernel_rfl) (hf:Region.free md ops listed i=true:=by kernel_rfl) (hr:(Region.ready md ops listed).contains i=true:=by kernel_rfl) (hX:X.contains i=true:=by kernel_rfl)
  (hQ:∀ c a w,Q (.panic c) (a.put oi.dst v) w→Q (.panic c) a w:=by exact fun _ _ _ h=>h):wpX P md ops Q S X (n+1) listed a w:=by
 subst ha
 rw[← hd]at h
 exact wpX.first (T:=fun _=>True) hi (Region.noSelect_spec hs) hQ (fun _=>True) (fun _ _ _ _ _=>trivial) (fun l _=>⟨fun _ _ _=>trivial,fun h=>by rw[fullX_idle hX];exact h,fun _ _=>trivial⟩) n listed a w trivial (Region.free_spec hi hf) (by simpa using hr) (.inl ⟨hw,fun w _=>hy w⟩) (fun e=>by rw[hl]at e;cases e) h
theorem snX (i:Nat) {o:Oper} {n:Nat} {listed:Array Bool} {a:Act} {w:World}
  (ho:ops[i]?=some o) (h:∀ K':Act→World→Prop,Shut (∀ a w,wpX P md ops Q S X n (listed.setIfInBounds i true) a w→K' a w)→if Region.wanted o (yielded ops a.tmps)=true then Oper.wp P o a w K' Q else K' (a.put o.dst undef) w)
  (hr:Region.ready md ops listed=[i]:=by kernel_rfl) (hl:fullX ops X (listed.setIfInBounds i true)=true:=by kernel_rfl):wpX P md ops Q S X (n+1) listed a w:=by
 refine⟨(fun e=>by rw[hr]at e;cases e),fun j hj=>?_⟩
 rw[hr,List.mem_singleton]at hj
 subst hj
 refine wpOp_step ho fun K' hK=>?_
 exact h K' fun a w hW=>hK a w ⟨(fun e=>by rw[hl]at e;cases e),hW⟩
theorem dnX {n:Nat} {listed:Array Bool} {a:Act} {w:World} (h:Q .normal a w) (hr:Region.ready md ops listed=[]:=by kernel_rfl):wpX P md ops Q S X n listed a w:=by
 cases n with
 | zero=>exact⟨hr,h⟩
 | succ n=>exact⟨fun _=>h,fun j hj=>by rw[hr]at hj;cases hj⟩
end
end Go.Proofs.YtijgdhijdfgpfaaGreatDoor
