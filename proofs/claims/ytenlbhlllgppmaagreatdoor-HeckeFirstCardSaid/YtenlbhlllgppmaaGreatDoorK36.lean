/- The law wpE once more, with operations X that read no memory and for which nobody waits: S need not hold once all others have come up. -/
import Derived.Test.YtenlbhlllgppmaaGreatDoorK13
import Derived.Test.YtenlbhlllgppmaaGreatDoorK26
import Derived.Test.YtenlbhlllgppmaaGreatDoorK35
import Derived.Test.YtenlbhlllgppmaaGreatDoorK34
set_option linter.unusedSimpArgs false
set_option maxRecDepth 100000
set_option maxHeartbeats 8000000
namespace Go.Proofs.YtenlbhlllgppmaaGreatDoor
open Go.RowKit
section
variable {P:Program} {md:Region.Mode} {ops:Array Oper} {Q:Exit→Act→World→Prop} {S:World→Prop} {X:List Nat}
def fullX (ops:Array Oper) (X:List Nat) (listed:Array Bool):Bool:=(List.range ops.size).all fun k=>listed.getD k true||X.contains k
theorem fullX_idle {listed:Array Bool} {i:Nat} (hX:X.contains i=true):fullX ops X (listed.setIfInBounds i true)=fullX ops X listed:=by
 unfold fullX
 congr 1
 funext k
 by_cases e:k=i
 ·subst e;rw[hX,Bool.or_true,Bool.or_true]
 ·rw[getD_set_ne true (fun h=>e h.symm)]
theorem not_fullX {listed:Array Bool} {k:Nat} (hk:k<ops.size) (hX:X.contains k=false) (h:listed.getD k true=false):fullX ops X listed=false:=by
 cases e:fullX ops X listed with
 | false=>rfl
 | true=>
  rw[fullX,List.all_eq_true]at e
  have h1:=e k (List.mem_range.2 hk)
  rw[h,hX]at h1
  cases h1
def waitX (md:Region.Mode) (ops:Array Oper) (X:List Nat) (listed:Array Bool) (i:Nat):Bool:=
 (List.range ops.size).any fun k=>k != i && !(listed.getD k true) && !X.contains k&&match ops[k]? with
  | some o=>o.after.any fun e=>Region.binds md e&&e.on==i
  | none=>false
def wpX (P:Program) (md:Region.Mode) (ops:Array Oper) (Q:Exit→Act→World→Prop) (S:World→Prop) (X:List Nat):Nat→Array Bool→Act→World→Prop
 | 0,listed,a,w=>Region.ready md ops listed=[]∧Q .normal a w
 | n+1,listed,a,w=>(Region.ready md ops listed=[]→Q .normal a w) ∧
  ∀ i∈Region.ready md ops listed,wpOp P ops Q i (fun a' w'=>(fullX ops X (listed.setIfInBounds i true)=false→S w')∧wpX P md ops Q S X n (listed.setIfInBounds i true) a' w') a w
theorem wpX.any:∀ (n:Nat) (listed:Array Bool) (a:Act) (w:World),wpX P md ops Q S X n listed a w→wpAny P md ops Q n listed a w
 | 0,_,_,_,h=>h
 | n+1,_,_,_,h=>⟨h.1,fun i hi=>wpOp_mono (fun a' w' h'=>wpX.any n _ a' w' h'.2) (h.2 i hi)⟩
theorem wpX.first {T:World→Prop} {i:Nat} {oi:Oper} {v:Value} (hi:ops[i]?=some oi)
  (hsel:∀ (j:Nat) (o:Oper) cs b,ops[j]?=some o→o.op≠.select cs b) (hQ:∀ c a w,Q (.panic c) (a.put oi.dst v) w→Q (.panic c) a w) (I:Array Bool→Prop)
  (hI:∀ l j,I l→j≠i→j∈Region.ready md ops l→I (l.setIfInBounds j true)) (hF:∀ l,I l→(fullX ops X (l.setIfInBounds i true)=false→∀ w,S w→T w)∧(fullX ops X l=false→fullX ops X (l.setIfInBounds i true)=false)∧(fullX ops X l=true→∀ w,T w)):
  ∀ (n:Nat) (listed:Array Bool) (a:Act) (w:World),I listed →
   (∀ j oj,ops[j]?=some oj→j≠i→listed.getD j true=false→(∀ e∈oj.after,Region.binds md e=true→e.on≠i)→oi.apart ops oj=true) →
   i∈Region.ready md ops listed→YieldsIf P ops T oi v a→(fullX ops X listed=false→S w) →
   wpX P md ops Q S X n (listed.setIfInBounds i true) (a.put oi.dst v) w→wpX P md ops Q S X (n+1) listed a w:=by
 have hTS:∀ l w,I l→(fullX ops X l=false→S w)→T w:=fun l w hl h=>by
  cases e:fullX ops X l with
  | true=>exact(hF l hl).2.2 e w
  | false=>exact(hF l hl).1 ((hF l hl).2.1 e) w (h e)
 have hSS:∀ l w,I l→(fullX ops X l=false→S w)→fullX ops X (l.setIfInBounds i true)=false→S w:=fun l w hl h h2=>by
  cases e:fullX ops X l with
  | false=>exact h e
  | true=>
   rw[fullX,List.all_eq_true]at e
   unfold fullX at h2
   rw[List.all_eq_false]at h2
   obtain⟨k,hk,h3⟩:=h2
   have h4:=e k hk
   exfalso
   apply h3
   by_cases hki:k=i
   ·subst hki
    rcases Nat.lt_or_ge k l.size with h5|h5
    ·simp[h5]
    ·simp[h5]
   ·rw[getD_set_ne true (fun h=>hki h.symm)];exact h4
 intro n
 induction n with
 | zero=>
  intro listed a w hIl _ hr hy hS H
  refine⟨(fun h=>by rw[h]at hr;cases hr),fun j hj=>?_⟩
  by_cases hji:j=i
  ·subst hji;exact hy.wpOp hi (hTS _ _ hIl hS) ⟨hSS _ _ hIl hS,H⟩
  ·have h1:=ready_mono hj hji
   rw[H.1]at h1
   cases h1
 | succ n ih=>
  intro listed a w hIl hfree hr hy hS H
  refine⟨(fun h=>by rw[h]at hr;cases hr),fun j hj=>?_⟩
  by_cases hji:j=i
  ·subst hji;exact hy.wpOp hi (hTS _ _ hIl hS) ⟨hSS _ _ hIl hS,H⟩
  have h1:=H.2 j (ready_mono hj hji)
  obtain⟨hjl,oj,hoj,hall⟩:=mem_ready.1 hj
  have hin:listed.getD i false=false:=by
   have h0:=(mem_ready.1 hr).1
   rcases Nat.lt_or_ge i listed.size with h2|h2
   ·simp[h2]at h0 ⊢;exact h0
   ·simp[Array.getElem?_eq_none h2]
  have hno:∀ e∈oj.after,Region.binds md e=true→e.on≠i:=fun e he hb h2=>by
   have h3:=hall e he hb
   rw[h2,hin]at h3
   cases h3
  have h2:=wpOp_putIf hoj (hfree j oj hoj hji hjl hno) (fun cs b=>hsel i oi cs b hi) (fun cs b=>hsel j oj cs b hoj) hQ hy h1
  refine wpOp_mono (fun a' w' h3=>?_) h2
  have hIj:=hI listed j hIl hji hj
  have hS':fullX ops X (listed.setIfInBounds j true)=false→S w':=fun e=>h3.2.1 (by rw[Array.setIfInBounds_comm _ _ (Ne.symm hji)];exact(hF _ hIj).2.1 e)
  refine⟨hS',ih _ a' w' hIj (fun q oq hq hqi hql hqn=>hfree q oq hq hqi ?_ hqn) (ready_mono hr (Ne.symm hji)) h3.1 hS' ?_⟩
  ·by_cases hjq:j=q
   ·subst hjq;exact hjl
   ·rw[getD_set_ne true hjq]at hql;exact hql
  ·rw[Array.setIfInBounds_comm _ _ hji]
   exact h3.2.2
theorem waitX_spec {listed:Array Bool} {i:Nat} (h:waitX md ops X listed i=true):∃ k ok,ops[k]?=some ok∧k≠i∧listed.getD k true=false∧X.contains k=false∧∃ e∈ok.after,Region.binds md e=true∧e.on=i:=by
 rw[waitX,List.any_eq_true]at h
 obtain⟨k,_,h⟩:=h
 cases hk:ops[k]? with
 | none=>rw[hk]at h;simp at h
 | some o=>
  rw[hk]at h
  simp only[Bool.and_eq_true,bne_iff_ne,ne_eq,Bool.not_eq_true',beq_iff_eq,Array.any_eq_true']at h
  obtain⟨⟨⟨h1,h2⟩,h0⟩,e,h3,h4,h5⟩:=h
  exact⟨k,o,hk,h1,h2,h0,e,h3,h4,h5⟩
theorem rgX (X:List Nat) {id:Nat} {a:Act} {w:World} (S:World→Prop) (hS:∀ W,Below w.heap.size w W→S W) (h:Hid (∀ W,Below w.heap.size w W→S W)→S w.drew→wpX P .any ops Q S X ops.size (Array.replicate ops.size false) a w.drew) (hm:P.follows .mixedOrders=true:=by kernel_rfl):(Code.region id ops true).wp P Q a w:=
 wp_region_any hm (wpX.any _ _ _ _ (h (Kh hS) (hS _ (Below.refl _ w).drew)))
theorem tkX (i:Nat) {oi:Oper} {v:Value} {n d:Nat} {listed:Array Bool} {a a':Act} {w:World} (h:wpX P md ops Q S X n (listed.setIfInBounds i true) a' w)
  (hi:ops[i]?=some oi:=by rfl) (hS:S w:=by assumption) (hw:Region.wanted oi (yielded ops a.tmps)=true:=by rfl)
  (hy:∀ w,S w→(execOp a.eval oi).run P w=.ok (.value v) w:=by intro w hSw;(try dsimp only at hSw);go_simp;(try with_reducible rfl))
  (hd:oi.dst=some d:=by rfl) (ha:a.put (some d) v=a':=by(try simp only[Act.put,List.setIfInBounds_toArray,List.set_cons_zero,List.set_cons_succ]);rfl)
  (hs:Region.noSelect ops=true:=by kernel_rfl) (hf:Region.free md ops listed i=true:=by kernel_rfl) (hr:(Region.ready md ops listed).contains i=true:=by kernel_rfl) (hk:waitX md ops X listed i=true:=by kernel_rfl)
  (hQ:∀ c a w,Q (.panic c) (a.put oi.dst v) w→Q (.panic c) a w:=by exact fun _ _ _ h=>h):wpX P md ops Q S X (n+1) listed a w:=by
 subst ha
 rw[← hd]at h
 obtain⟨k,ok,h1,h2,h3,h0,e0,he0,hb0,ho0⟩:=waitX_spec hk
 have hkx:k<ops.size:=(Array.getElem?_eq_some_iff.1 h1).1
 refine wpX.first (T:=S) hi (Region.noSelect_spec hs) hQ (fun l=>l.getD k true=false∧l.getD i false=false) (fun l j hl hji hj=>?_) (fun l hl=>?_) n listed a w ⟨h3,?_⟩ (Region.free_spec hi hf) (by simpa using hr) (.inl ⟨hw,hy⟩) (fun _=>hS) h
 ·obtain⟨_,oj,hoj,hall⟩:=mem_ready.1 hj
  refine⟨?_,?_⟩
  ·have hjk:j≠k:=fun h5=>by
    subst h5
    rw[hoj]at h1
    cases h1
    have h6:=hall e0 he0 hb0
    rw[ho0,hl.2]at h6
    cases h6
   rw[getD_set_ne true hjk];exact hl.1
  ·rw[getD_set_ne false hji];exact hl.2
 ·have hn:fullX ops X l=false:=not_fullX hkx h0 hl.1
  exact⟨fun _ w h=>h,fun _=>not_fullX hkx h0 (by rw[getD_set_ne true h2.symm];exact hl.1),fun h=>by rw[hn]at h;cases h⟩
 ·have hr2:i∈Region.ready md ops listed:=by simpa using hr
  have h5:=(mem_ready.1 hr2).1
  rcases Nat.lt_or_ge i listed.size with h6|h6
  ·simp[h6]at h5 ⊢;exact h5
  ·simp[Array.getElem?_eq_none h6]
theorem stX (i:Nat) {o:Oper} {n:Nat} {listed:Array Bool} {a:Act} {w:World}
  (ho:ops[i]?=some o) (h:∀ K':Act→World→Prop,Shut (∀ a w,S w→(S w→wpX P md ops Q S X n (listed.setIfInBounds i true) a w)→K' a w)→if Region.wanted o (yielded ops a.tmps)=true then Oper.wp P o a w K' Q else K' (a.put o.dst undef) w)
  (hr:Region.ready md ops listed=[i]:=by kernel_rfl):wpX P md ops Q S X (n+1) listed a w:=by
 refine⟨(fun e=>by rw[hr]at e;cases e),fun j hj=>?_⟩
 rw[hr,List.mem_singleton]at hj
 subst hj
 refine wpOp_step ho fun K' hK=>?_
 exact h K' fun a w hS hW=>hK a w ⟨fun _=>hS,hW hS⟩
theorem tkJ (i:Nat) {oi:Oper} {v:Value} {n d:Nat} {listed:Array Bool} {a a':Act} {w:World} (h:wpX P md ops Q S X n (listed.setIfInBounds i true) a' w)
  (hi:ops[i]?=some oi:=by rfl) (hl:fullX ops X listed=true:=by kernel_rfl) (hw:Region.wanted oi (yielded ops a.tmps)=true:=by rfl)
  (hy:∀ w,(execOp a.eval oi).run P w=.ok (.value v) w:=by intro w;go_simp;(try with_reducible rfl))
  (hd:oi.dst=some d:=by rfl) (ha:a.put (some d) v=a':=by(try simp only[Act.put,List.setIfInBounds_toArray,List.set_cons_zero,List.set_cons_succ]);rfl)
  (hs:Region.noSelect ops=true:=by kernel_rfl) (hf:Region.free md ops listed i=true:=by kernel_rfl) (hr:(Region.ready md ops listed).contains i=true:=by kernel_rfl) (hX:X.contains i=true:=by kernel_rfl)
  (hQ:∀ c a w,Q (.panic c) (a.put oi.dst v) w→Q (.panic c) a w:=by exact fun _ _ _ h=>h):wpX P md ops Q S X (n+1) listed a w:=by
 subst ha
 rw[← hd]at h
 exact wpX.first (T:=fun _=>True) hi (Region.noSelect_spec hs) hQ (fun _=>True) (fun _ _ _ _ _=>trivial) (fun l _=>⟨fun _ _ _=>trivial,fun h=>by rw[fullX_idle hX];exact h,fun _ _=>trivial⟩) n listed a w trivial (Region.free_spec hi hf) (by simpa using hr) (.inl ⟨hw,fun w _=>hy w⟩) (fun e=>by rw[hl]at e;cases e) h
theorem snX (i:Nat) {o:Oper} {n:Nat} {listed:Array Bool} {a:Act} {w:World}
  (ho:ops[i]?=some o) (h:∀ K':Act→World→Prop,Shut (∀ a w,wpX P md ops Q S X n (listed.setIfInBounds i true) a w→K' a w)→if Region.wanted o (yielded ops a.tmps)=true then Oper.wp P o a w K' Q else K' (a.put o.dst undef) w)
  (hr:Region.ready md ops listed=[i]:=by kernel_rfl) (hl:fullX ops X (listed.setIfInBounds i true)=true:=by kernel_rfl):wpX P md ops Q S X (n+1) listed a w:=by
 refine⟨(fun e=>by rw[hr]at e;cases e),fun j hj=>?_⟩
 rw[hr,List.mem_singleton]at hj
 subst hj
 refine wpOp_step ho fun K' hK=>?_
 exact h K' fun a w hW=>hK a w ⟨(fun e=>by rw[hl]at e;cases e),hW⟩
theorem dnX {n:Nat} {listed:Array Bool} {a:Act} {w:World} (h:Q .normal a w) (hr:Region.ready md ops listed=[]:=by kernel_rfl):wpX P md ops Q S X n listed a w:=by
 cases n with
 | zero=>exact⟨hr,h⟩
 | succ n=>exact⟨fun _=>h,fun j hj=>by rw[hr]at hj;cases hj⟩
end
end Go.Proofs.YtenlbhlllgppmaaGreatDoor
namespace Go.Proofs.YtenlbhlllgppmaaGreatDoor
open Go.RowKit Eli
def divQ (F:Nat→Rat) (x:Rat) (k:Nat):Nat→FP:=fun j=>IsQ (if j<k then 1 / x*F j else F j)
theorem divQ.done {F:Nat→Rat} {x:Rat} {k:Nat} {w:World} {g N:Nat} (h:QRow (divQ F x k) w g N N) (h0:F k=0):QRow (divQ F x (k+1)) w g N N:=
 QRow.congr h (fun j _=>by
  unfold divQ
  by_cases hj:j<k
  ·rw[if_pos hj,if_pos (by omega)]
  ·rw[if_neg hj]
   by_cases hj2:j=k
   ·rw[if_pos (by omega),hj2,h0,Rat.mul_zero]
   ·rw[if_neg (by omega)])
theorem divQ.put {F:Nat→Rat} {x:Rat} {k:Nat} {w:World} {g N:Nat} (h:QRow (divQ F x k) w g N N) (hk:k<N) {s:Bool} {p:Option Addr} {n c:Nat} {t:Bool} {q:Option Addr} {m d:Nat} (hq:Qs w s p n c t q m d (F k / x)):
  QRow (divQ F x (k+1)) ((((w.setCell ⟨g,k*4,none⟩ (.bool s)).setCell ⟨g,k*4+1,none⟩ (.slice p n c)).setCell ⟨g,k*4+2,none⟩ (.bool t)).setCell ⟨g,k*4+3,none⟩ (.slice q m d)) g N N:=
 QRow.set (fun _=>IsQ.solid _) h k hk _ (IsQ.solid _) (fun i hi hne=>⟨hi,by
  unfold divQ
  by_cases hj:i<k
  ·rw[if_pos hj,if_pos (by omega)]
  ·rw[if_neg hj,if_neg (by omega)]⟩) (show IsQ (if k<k+1 then 1 / x*F k else F k) w s p n c t q m d by rw[if_pos (Nat.lt_succ_self k),show 1 / x*F k=F k / x by grind];exact hq)
theorem divQ.elem {F:Nat→Rat} {x:Rat} {k:Nat} {w:World} {g N:Nat} (h:QRow (divQ F x k) w g N N) (hk:k<N):QE (IsQ (F k)) w g (k*4):=by
 have h1:=QRow.val h k hk
 unfold divQ at h1
 rw[if_neg (Nat.lt_irrefl k)]at h1
 exact h1
theorem GM.base {F:Nat→Nat→Rat} {m C:Nat} {w:World} {G:Nat} {gs:Nat→Nat} {B B':Nat} (h:GM F m C w G gs B) (hB:B'≤B):GM F m C w G gs B':=
 ⟨h.stk,h.free,Nat.le_trans hB h.hB,h.at_,h.row,fun i hi=>Nat.le_trans hB (h.ge i hi),h.ne,h.inj⟩
theorem GM.made (F:Nat→Nat→Rat) (C:Nat) (w:World) (R:Nat) (gs:Nat→Nat):GM F 0 C (w.alloc (.cells (madeCells #[.slice none 0 0] R) 30)) w.heap.size gs w.heap.size∧∀ i,i<R→((w.alloc (.cells (madeCells #[.slice none 0 0] R) 30)).cell? ⟨w.heap.size,i,none⟩).isSome=true:=by
 have h:=RowTab.made F C w R
 exact⟨⟨h.stk,fun i=>(Blk.new w 30 (madeCells #[.slice none 0 0] R)).free_ i,Nat.le_refl _,fun i hi=>absurd hi (Nat.not_lt_zero _),fun i hi=>absurd hi (Nat.not_lt_zero _),fun i hi=>absurd hi (Nat.not_lt_zero _),fun i hi=>absurd hi (Nat.not_lt_zero _),fun i j hi=>absurd hi (Nat.not_lt_zero _)⟩,h.has⟩
theorem makeGr (n:Nat) (h:n≤1000000) (w:World):
  (Instr.makeSlice 118 (.int .i64 (n:Int)) (.int .i64 (n:Int))).run Tryz.prog w=.ok (.slice (some ⟨w.heap.size,0,none⟩) n n) (w.alloc (.cells (madeCells #[.slice none 0 0] n) 30)):=by
 obtain⟨i,hi,hz0,hz1,hz2⟩:=info_parts rowQInfo
 have hr:=run_make (P:=Tryz.prog) w 118 30 i _ Tryz.underlying118 hi hz0 .i64 .i64 n n (by omega) (Int.le_refl _) (by rw[hz2];omega) (by omega)
 rw[Int.toNat_natCast,hz1,Nat.mul_one]at hr
 exact hr
theorem c_mfits (n:Nat) (w:World) (hn:n≤1024):Calls Tryz.prog 54 #[.int .i64 n] w fun e w'=>e=.returned (.bool true)∧Below w.heap.size w w':=by
 have h1:(0:Int)≤(n:Int):=by omega
 have h2:(n:Int)≤1024:=by omega
 go_enter Tryz.func54,Tryz.ntmps54
 go_wp2
 go_ret
 exact⟨rfl,Below.refl _ _⟩
theorem c_load (R C RC gA oA cA:Nat) (X:Nat→Rat) (F:Nat→Nat→Rat) (w:World) (hgA:gA<w.heap.size) (hX:∀ j,j<RC→QE (IsQ (X j)) w gA (oA+j*4)) (hRC:R*C=RC) (hR:R≤1024) (hC:C≤1024) (hs:∀ j,j<RC→hq (X j)≤1000000000)
  (hF:∀ i q,q<C→F i q=X (i*C+q)):
  Calls Tryz.prog 71 #[.agg #[.int .i64 R,.int .i64 C,.slice (some ⟨gA,oA,none⟩) RC cA]] w fun e w'=>(∃ G gs,e=.returned (.slice (some ⟨G,0,none⟩) R R)∧GM F R C w' G gs w.heap.size)∧Below w.heap.size w w':=by
 have HGA:=Kh hgA
 have HX:=Kh hX
 have HS:=Kh hs
 have HF:=Kh hF
 have HRC:=Kh hRC
 have hm2:RC≤1048576:=by rw[← hRC];exact Nat.mul_le_mul hR hC
 clear hgA hX hs hF hRC
 go_enter Tryz.func71,Tryz.ntmps71
 have hmkG:=makeGr R (by omega)
 have hmkQ:=makeQ C (by omega)
 go_wp2_with fail
 obtain⟨wb,hwb,X0,hb0⟩:=bx1 w #[.int .i64 R,.int .i64 C,.slice (some ⟨gA,oA,none⟩) RC cA] 32
 rw[hwb]
 obtain⟨hgm,hhas⟩:=GM.made F C wb R (fun _=>0)
 obtain⟨wG,hwG⟩:∃ wG,wb.alloc (.cells (madeCells #[.slice none 0 0] R) 30)=wG:=⟨_,rfl⟩
 have hbG:Below wb.heap.size wb wG:=hwG▸(Below.refl _ _).alloc (Nat.le_refl _) _
 rw[hwG]at hgm hhas ⊢
 have hsz:wb.heap.size=w.heap.size+1:=by rw[← hwb];simp
 obtain⟨G,hG0⟩:∃ G,w.heap.size+1=G:=⟨_,rfl⟩
 have hG:wb.heap.size=G:=hsz.trans hG0
 obtain⟨gb,hgb⟩:∃ gb,w.heap.size=gb:=⟨_,rfl⟩
 have HGG:=Kh hG
 have HGB:=Kh hgb
 rw[hG]at hgm hhas hbG
 rw[hG0]
 rw[hgb]at X0 ⊢
 have HX0:=Kh X0
 have HB0:=Kh hb0
 have HGM:=Kh hgm
 have HHS:=Kh hhas
 have HBG:=Kh hbG
 clear hwb X0 hb0 hgm hhas hwG hbG hG hG0 hsz hgb hmkG
 go_loopw [11] (fun ii wr=>∃ (k:Nat) (gs:Nat→Nat),k≤R∧ii=.int .i64 k∧GM F k C wr G gs G∧(∀ i,i<R→(wr.cell? ⟨G,i,none⟩).isSome=true)∧Below G wb wr) (fun ii _=>R - (intOf ii).toNat)
 case atStart=>exact⟨0,_,Nat.zero_le _,rfl,HGM.out,HHS.out,HBG.out⟩
 case round=>
  obtain⟨k,gs,hk,rfl,hgm,hhas,hbr⟩:=hrel
  obtain⟨wk,rfl⟩:∃ wk:World,wk=wr:=⟨_,rfl⟩
  have HGM1:=Kh hgm
  have HHS1:=Kh hhas
  have HBR:=Kh hbr
  clear hgm hhas hbr HGM HHS HBG
  by_cases hlt:k<R
  ·have hki:(k:Int)<(R:Int):=by omega
   have hbb:Below wb.heap.size wb wk:=HGG.out▸HBR.out
   have x1:=(bk HX0 hbb).at_ 1 rfl
   obtain⟨uk,huk⟩:=Option.isSome_iff_exists.1 (HHS1.out k hlt)
   have hfz:=HGM1.out.free k
   have hbn0:Below wk.heap.size wk (wk.alloc (.cells (madeCells #[.bool false,.slice none 0 0,.bool false,.slice none 0 0] (C*4)) 86)):=(Below.refl _ _).alloc (Nat.le_refl _) _
   have hca:=cell_next hbn0 huk
   have hfa:=frozen_keep hbn0 (by rw[huk];rfl) hfz
   clear hbb
   go_upto_region 6 with(fail)
   clear hca hfa hbn0
   obtain⟨wn,hwn⟩:∃ wn,wk.alloc (.cells (madeCells #[.bool false,.slice none 0 0,.bool false,.slice none 0 0] (C*4)) 86)=wn:=⟨_,rfl⟩
   have hbn:Below wk.heap.size wk wn:=hwn▸(Below.refl _ _).alloc (Nat.le_refl _) _
   have hrow:QRow (fun q=>IsQ (F k q)) wn wk.heap.size C 0:=hwn▸QRow.made _ wk C
   have hszn:wn.heap.size=wk.heap.size+1:=by rw[← hwn];simp
   try rw[hwn]
   obtain⟨g,hg⟩:∃ g,wk.heap.size=g:=⟨_,rfl⟩
   have hGg:G<g:=hg▸HGM1.out.stk.1
   have hsn:=HGM1.out.stk.next hbn
   have hun:wn.cell? ⟨G,k,none⟩=some uk:=cell_next hbn huk
   obtain⟨ws,hws⟩:∃ ws,wn.setCell ⟨G,k,none⟩ (.slice (some ⟨g,0,none⟩) C C)=ws:=⟨_,rfl⟩
   have h32:I32 wn ws:=hws▸I32.putU (hsn.imp fun _=>SliceV.notU32) k _
   have hgr:wn.grownBy ws (some G):=hws▸but_put wn G k _
   have hck:ws.cell? ⟨G,k,none⟩=some (.slice (some ⟨g,0,none⟩) C C):=by rw[← hws];exact World.cell?_setCell_same' _ _ _ (by rw[hun];rfl)
   rw[hg]at hrow ⊢
   rw[hws]
   have HGSL:=Kh (show ∀ i,i<k→gs i<g from fun i hi=>hg▸(HGM1.out.row i hi).sts.1)
   have HGS:=Kh (show GM F k C ws G gs G from by
    have h:=HGM1.out.keep hbn
    refine⟨hws▸stk_put h.stk _ _ ⟨_,_,_,rfl⟩,fun i=>hws▸frozen_set (h.free i),h.hB,fun i hi=>?_,fun i hi=>(h.row i hi).i32 (fun _=>IsQ.solid _) h32 hgr (h.ne i hi),h.ge,h.ne,h.inj⟩
    rw[← hws,World.cell?_setCell_other _ _ _ _ (by simp <;> omega)]
    exact h.at_ i hi)
   have HRS:=Kh (hrow.i32 (fun _=>IsQ.solid _) h32 hgr (by omega))
   have HHN:=Kh (show ∀ i,i<R→(ws.cell? ⟨G,i,none⟩).isSome=true from fun i hi=>by
    rw[← hws]
    obtain⟨u,hu⟩:=Option.isSome_iff_exists.1 (HHS1.out i hi)
    exact some_put (by rw[cell_next hbn hu];rfl))
   have HBS:=Kh (show Below G wb ws from below_but (HBR.out.trans (hbn.mono (by omega))) hgr (by omega) (Nat.le_refl _))
   have HCK:=Kh hck
   have HGg:=Kh hGg
   clear hwn hbn hrow hszn hg hsn hun h32 hgr hws huk hfz x1 HGM1 HHS1 HBR
   go_wp2_with fail
   have HCK2:=Kh (show ws.cell? ⟨G,k,none⟩=some (.slice (some ⟨g,0,none⟩) C C)from HCK.out)
   have HBBS:=Kh (show Below wb.heap.size wb ws from by rw[HGG.out];exact HBS.out)
   have HBWS:=Kh (HB0.out.trans (HBBS.out.mono HB0.out.size))
   try clear hck
   go_loopw [25] (fun jj wr=>∃ j:Nat,j≤C∧jj=.int .i64 j∧QRow (fun q=>IsQ (F k q)) wr g C j∧ws.grownBy wr (some g)∧I32 ws wr) (fun jj _=>C - (intOf jj).toNat)
   case atStart=>exact⟨0,Nat.zero_le _,rfl,HRS.out,but_below g (Below.refl _ _),I32.refl _⟩
   case round=>
    obtain⟨j,hj,rfl,hrow,hgr,h32⟩:=hrel
    obtain⟨we,rfl⟩:∃ we:World,we=wr:=⟨_,rfl⟩
    have HROW:=Kh hrow
    have HGR:=Kh hgr
    have H32:=Kh h32
    have HGGN:=Kh (show(some G:Option Nat)≠some g from fun e=>by injection e with e;have:=HGg.out;omega)
    clear hrow hgr h32 HRS
    by_cases hlt:j<C
    ·have hji:(j:Int)<(C:Int):=by omega
     obtain⟨KC,hKC⟩:∃ n,k*C=n:=⟨_,rfl⟩
     have hkr:KC+C≤RC:=by
      have h1:=Nat.mul_le_mul_right C (show k+1≤R by omega)
      have h2:=HRC.out
      rw[Nat.succ_mul]at h1
      omega
     have e1:(k:Int)*(C:Int)=(KC:Nat):=by rw[← hKC];push_cast;rfl
     obtain⟨KJ,hKJ⟩:∃ n,KC+j=n:=⟨_,rfl⟩
     have hw1:IntKind.i64.wrap (KC:Int)=(KC:Nat):=IntWalk.i64_in _ (by omega)
     have hw2:IntKind.i64.wrap ((KC:Int)+(j:Int))=(KJ:Nat):=by rw[show(KC:Int)+(j:Int)=(KJ:Nat)by omega];exact IntWalk.i64_in _ (by omega)
     have HFK:=Kh (show F k j=X KJ by rw[HF.out k j hlt,hKC,hKJ])
     have hgag:gA≠g:=by have:=HGA.out;have:=HGg.out;have:=HB0.out.size;have:=HGG.out;omega
     obtain⟨s',p',i1,c',t',q',m',d',a0,a1,a2,a3,hx⟩:=(((HX.out KJ (by omega)).keep (IsQ.solid _) HBWS.out).butR H32.out HGR.out hgag)
     have HP:=Kh (show Qs we s' p' i1 c' t' q' m' d' (X KJ)from hx)
     have c0:=HGR.out.cell HCK.out HGGN.out
     have hgbg:(some gb:Option Nat)≠some g:=fun e=>by injection e with e;have h1:=HX0.out.lt;have h2:=HGg.out;have h3:=HGG.out;omega
     have x1:=HGR.out.cell ((HX0.out.below_ HBBS.out HX0.out.lt).at_ 1 rfl) hgbg
     have x2:=HGR.out.cell ((HX0.out.below_ HBBS.out HX0.out.lt).at_ 2 rfl) hgbg
     have hra:=HROW.out
     obtain⟨u0,e0⟩:=Option.isSome_iff_exists.1 (hra.has (j*4) (by omega))
     obtain⟨u1,e1'⟩:=Option.isSome_iff_exists.1 (hra.has (j*4+1) (by omega))
     obtain⟨u2,e2'⟩:=Option.isSome_iff_exists.1 (hra.has (j*4+2) (by omega))
     obtain⟨u3,e3⟩:=Option.isSome_iff_exists.1 (hra.has (j*4+3) (by omega))
     have HNM:=Kh (fun w1 (hb:Below we.heap.size we w1)=>c_qNormalQ s' p' i1 c' t' q' m' d' (X KJ) w1 (HP.out.keep hb) (HS.out _ (by omega)))
     have hkn:KJ<RC:=by omega
     have hkni:(KJ:Int)<(RC:Int):=by omega
     have hki2:(k:Int)<(R:Int):=by omega
     clear hx hKC hgag hgbg hKJ
     go_upto_region 9 with(fail)
     refine rgB (fun W=>W.cell? ⟨G,k,none⟩=some (.slice (some ⟨g,0,none⟩) C C)∧W.cell? ⟨gb,2,none⟩=some (.slice (some ⟨gA,oA,none⟩) RC cA)∧W.cell? ⟨gb,1,none⟩=some (.int .i64 (C:Int))∧W.cell? ⟨gA,oA+KJ*4,none⟩=some (.bool s')∧W.cell? ⟨gA,oA+KJ*4+1,none⟩=some (.slice p' i1 c')∧W.cell? ⟨gA,oA+KJ*4+2,none⟩=some (.bool t')∧W.cell? ⟨gA,oA+KJ*4+3,none⟩=some (.slice q' m' d')∧W.cell? ⟨g,j*4,none⟩=some (u0)∧W.frozen? ⟨g,j*4,none⟩=false∧W.cell? ⟨g,j*4+1,none⟩=some (u1)∧W.frozen? ⟨g,j*4+1,none⟩=false∧W.cell? ⟨g,j*4+2,none⟩=some (u2)∧W.frozen? ⟨g,j*4+2,none⟩=false∧W.cell? ⟨g,j*4+3,none⟩=some (u3)∧W.frozen? ⟨g,j*4+3,none⟩=false) (fun W hb=>⟨cnx hb c0,cnx hb x2,cnx hb x1,cnx hb a0,cnx hb a1,cnx hb a2,cnx hb a3,cnx hb e0,frozen_keep hb (by rw[e0];rfl) (hra.free _ (by omega)),cnx hb e1',frozen_keep hb (by rw[e1'];rfl) (hra.free _ (by omega)),cnx hb e2',frozen_keep hb (by rw[e2'];rfl) (hra.free _ (by omega)),cnx hb e3,frozen_keep hb (by rw[e3];rfl) (hra.free _ (by omega))⟩) (fun HSE hHeld0=>?_)
     clear c0 x1 x2 a0 a1 a2 a3 e0 e1' e2' e3 hra
     refine tkE 0 ?_;refine tkE 1 ?_;refine tkE 2 ?_;refine tkE 3 ?_;refine tkE 4 ?_;refine tkE 5 ?_;refine tkE 6 ?_;refine tkE 7 ?_;refine tkE 8 ?_;refine tkE 9 ?_;refine tkE 10 ?_;refine tkE 11 ?_;refine tkE 12 ?_;refine tkE 13 ?_;refine tkE 14 ?_
     refine stE 15 rfl (fun K hK=>?_)
     focus(go_simp;refine(HNM.out _ (Below.refl _ we).drew).mono ?_;rintro e w4 ⟨⟨s6,p6,n6,c6,t6,q6,m6,d6,rfl,hz6⟩,hb6⟩;have HBF:=Kh ((Below.refl _ we).drew.trans hb6:Below we.heap.size we w4);have hrr:=QRow.keep (fun q=>(IsQ.solid _:Solid (IsQ (F k q)))) HROW.out HBF.out;have HPUT:=Kh (QRow.set (k':=j+1) (fun _=>IsQ.solid _) hrr j hlt (fun q=>IsQ (F k q)) (IsQ.solid _) (fun i h1 h2=>⟨by omega,rfl⟩) (show IsQ (F k j) w4 s6 p6 n6 c6 t6 q6 m6 d6 by rw[HFK.out];exact hz6));have HG4:=Kh (show ∀ v0 v1 v2 v3,ws.grownBy ((((w4.setCell ⟨g,j*4,none⟩ v0).setCell ⟨g,j*4+1,none⟩ v1).setCell ⟨g,j*4+2,none⟩ v2).setCell ⟨g,j*4+3,none⟩ v3) (some g)from fun _ _ _ _=>add_grown HGR.out HBF.out);have H4:=Kh ((H32.out.trans (I32.below HBF.out)).trans (I32.put4 hrr.sts (j*4) (j*4+1) (j*4+2) (j*4+3) (.bool s6) (.slice p6 n6 c6) (.bool t6) (.slice q6 m6 d6) (NotInt.bool _) (NotInt.slice _ _ _) (NotInt.bool _)));clear hz6 hb6 hrr;(first|with_reducible refine hK.out _ _ ?_ (fun hHeld1=>?_) |(go_wp2_with fail;with_reducible refine hK.out _ _ ?_ (fun hHeld1=>?_))))
     focus((try dsimp only);exact HSE.out _ HBF.out)
     focus(clear hK K;(try simp only[Act.put,lsa,lsz,lss]))
     refine tkE 16 ?_
     refine laE 17 rfl (fun K hK=>?_)
     go_simp
     refine hK.out _ _ ?_
     clear hK K
     (try simp only[Act.put,lsa,lsz,lss])
     all_goals go_wp2
     all_goals go_roundw
     all_goals first
      | exact⟨j+1,by omega,by go_num,HPUT.out,HG4.out _ _ _ _,H4.out⟩
      |(simp[intOf];omega)
    ·obtain rfl:j=C:=by omega
     have HN1:=Kh (HGS.out.but H32.out HGR.out (by have:=HGg.out;omega) (fun i hi=>by have:=HGSL.out i hi;omega))
     have HN2:=Kh (HN1.out.more (g:=g) (by rw[HGR.out.cell HCK.out HGGN.out];rfl) HROW.out (Nat.le_of_lt HGg.out) (by have:=HGg.out;omega) (fun i hi=>by have:=HGSL.out i hi;omega) (HGR.out.cell HCK.out HGGN.out))
     have HN3:=Kh (show ∀ i,i<R→(we.cell? ⟨G,i,none⟩).isSome=true from fun i hi=>by
      obtain⟨u,hu⟩:=Option.isSome_iff_exists.1 (HHN.out i hi)
      rw[HGR.out.cell hu HGGN.out];rfl)
     have HN4:=Kh (show Below G wb we from below_but HBS.out HGR.out (by have:=HBS.out.size;have:=HGG.out;omega) (Nat.le_of_lt HGg.out))
     go_wp2
     go_roundw
     case rel=>exact⟨k+1,_,by omega,by go_num,HN2.out,HN3.out,HN4.out⟩
     case measure=>simp[intOf];omega
  ·obtain rfl:k=R:=by omega
   go_wp2
   go_ret
   exact⟨⟨G,gs,rfl,HGM1.out.base (by have:=HB0.out.size;have:=HGG.out;have:=HGB.out;omega)⟩,by
    have h:Below wb.heap.size wb wk:=HGG.out▸HBR.out
    exact HB0.out.trans (h.mono HB0.out.size)⟩
theorem c_mstore (F:Nat→Nat→Rat) (m C t G cap:Nat) (gs:Nat→Nat) (B0:Nat) (w:World) (h:GM F m C w G gs B0) (ht:t≤m) (hm:m≤1024) (hC0:0<C) (hC:C≤1024):
  Calls Tryz.prog 55 #[.int .i64 C,.slice (some ⟨G,0,none⟩) t cap] w fun e w'=>(∃ v,e=.returned (.agg #[.int .i64 t,.int .i64 C,v])∧OwnQ (fun p=>IsQ (F (p / C) (p % C))) w' w.heap.size v (t*C))∧Below w.heap.size w w':=by
 have HG:=Kh h
 clear h
 go_enter Tryz.func55,Tryz.ntmps55
 go_wp2_with fail
 obtain⟨w0,hw0,X0,hb0⟩:=bx1 w #[.int .i64 0,.int .i64 0,.slice none 0 0] 32
 rw[hw0]
 obtain⟨wx,hwx⟩:∃ wx,w0.alloc (.cells #[.int .i64 t,.int .i64 C,.slice none 0 0] 32)=wx:=⟨_,rfl⟩
 have hbx:Below w0.heap.size w0 wx:=hwx▸(Below.refl _ _).alloc (Nat.le_refl _) _
 have Y:Blk wx w0.heap.size 32 #[.int .i64 t,.int .i64 C,.slice none 0 0]:=hwx▸Blk.new w0 32 #[.int .i64 t,.int .i64 C,.slice none 0 0]
 rw[hwx]
 have hsz:w0.heap.size=w.heap.size+1:=by rw[← hw0];simp
 obtain⟨ob,hob0⟩:∃ x,w.heap.size+1=x:=⟨_,rfl⟩
 have hob:w0.heap.size=ob:=hsz.trans hob0
 obtain⟨gr,hgr⟩:∃ x,w.heap.size=x:=⟨_,rfl⟩
 rw[hob]at Y
 rw[hob0]
 rw[hgr]at X0 ⊢
 have HGRO:=Kh (show gr<ob by rw[← hob];exact X0.lt)
 have HGE:=Kh hgr
 have HBX:=Kh (show Below gr w wx from hgr▸hb0.trans (hbx.mono hb0.size))
 have HXR:=Kh (show Blk wx gr 32 #[.int .i64 0,.int .i64 0,.slice none 0 0]from X0.below_ hbx X0.lt)
 obtain⟨BB,hBB⟩:∃ x,wx.heap.size=x:=⟨_,rfl⟩
 have HBB:=Kh hBB
 obtain⟨V,hV⟩:∃ V:Nat→FP,(fun p=>IsQ (F (p / C) (p % C)))=V:=⟨_,rfl⟩
 have HVS:=Kh (show ∀ j,Solid (V j)from fun j=>by rw[← hV];exact IsQ.solid _)
 have HVV:=Kh (show ∀ k i,i<C→V (k*C+i)=IsQ (F k i)from fun k i hi=>by
  rw[← hV]
  dsimp only
  rw[show(k*C+i) / C=k by rw[Nat.mul_comm,Nat.mul_add_div (by omega),Nat.div_eq_of_lt hi,Nat.add_zero],show(k*C+i) % C=i by rw[Nat.mul_comm,Nat.mul_add_mod,Nat.mod_eq_of_lt hi]])
 have HVE:=Kh hV
 have HM0:=Kh (show MatAt V wx ob BB t C (0*C)from
  ⟨by rw[← hBB];exact Y.lt,Nat.le_of_eq hBB.symm,Y.at_ 0 rfl,Y.at_ 1 rfl,⟨none,0,by rw[Nat.zero_mul];exact Y.at_ 2 rfl,by rw[Nat.zero_mul];exact OwnQ.nil _ _ _⟩,Y.free_ 2,Stk.of Y (by intro v hv;simp at hv;rcases hv with rfl|rfl|rfl <;> exact fun _ h=>by cases h)⟩)
 clear hwx hbx Y hob hob0 hsz hgr hBB hV hw0 X0 hb0
 go_loopw [14] (fun ii wr=>∃ k:Nat,k≤t∧ii=.int .i64 k∧MatAt V wr ob BB t C (k*C)∧wx.grownBy wr (some ob)) (fun ii _=>t - (intOf ii).toNat)
 case atStart=>exact⟨0,Nat.zero_le _,rfl,HM0.out,but_below ob (Below.refl _ _)⟩
 case round=>
  obtain⟨k,hk,rfl,hmat,hgw⟩:=hrel
  obtain⟨we,rfl⟩:∃ we:World,we=wr:=⟨_,rfl⟩
  have HMT:=Kh hmat
  have HGW:=Kh hgw
  clear hmat hgw HM0
  have HBW:=Kh (show Below gr w we from below_but HBX.out HGW.out (by have:=HBB.out;have:=HMT.out.lt;have:=HGRO.out;omega) (Nat.le_of_lt HGRO.out))
  by_cases hlt:k<t
  ·have hki:(k:Int)<(t:Int):=by omega
   have hbw:=HBW.out
   rw[← HGE.out]at hbw
   have hgm:=HG.out.keep hbw
   have r4:=hgm.at_ k (by omega)
   have HRW:=Kh (hgm.row k (by omega))
   obtain⟨p,c,g2,xs,hK,hXX⟩:=HMT.out.c2
   obtain⟨n,hn⟩:∃ x,k*C=x:=⟨_,rfl⟩
   have hnl:n≤1024*1024:=by rw[← hn];exact Nat.mul_le_mul (by omega:k≤1024) hC
   rw[hn]at g2 hK hXX HMT
   have HKC:=Kh (show n+C=(k+1)*C by rw[← hn,Nat.add_mul,Nat.one_mul])
   have HGV2:=Kh (show ∀ j,j<C→V (n+j)=IsQ (F k j)from fun j hj=>by rw[← hn];exact HVV.out k j hj)
   have HK:=Kh hK
   have HXX:=Kh hXX
   have HG2:=Kh g2
   have hobl:ob<we.heap.size:=Nat.lt_of_lt_of_le HMT.out.lt HMT.out.hB
   clear hbw hgm hK hXX hn
   go_wp2_with (at_builtin;refine wpl_appN NotInt rfl (.tmp 19) (.tmp 20) _ 86 rfl Tryz.underlying30 ratInfo rfl (by decide) BB n C (gs k) C (.slice p n c) xs (rowCells we (gs k) (C*4)) rfl HK.out rfl (rowCells_length _ _ _) HRW.out.cells HRW.out.one (by omega) (by omega) hC0 HMT.out.hB HRW.out.ni niz ?_;intro v9 w9 hown9 hgr9 hat9;obtain⟨p9,c9,rfl⟩:=own_slice hown9.1;obtain⟨d2,df,hM9⟩:=HMT.out.more HVS.out HG2.out HK.out.1 (OwnQ.more HVS.out HK.out HXX.out HRW.out hown9 hgr9 HGV2.out) hgr9;have HM9:=Kh hM9;have HG9:=Kh ((grown_own HGW.out hgr9 HBB.out.symm (fun b hb=>own_ge HK.out.1 hb.symm)).trans (but_put w9 ob 2 (.slice p9 (n+C) c9)));clear hM9 hown9 hgr9 hat9 g2)
   go_roundw
   case rel=>exact⟨k+1,by omega,by go_num,by rw[← HKC.out];exact HM9.out,HG9.out⟩
   case measure=>simp[intOf];omega
  ·obtain rfl:t=k:=by omega
   obtain⟨p,c,g2,hOQ⟩:=HMT.out.c2
   have hgo:gr≠ob:=Nat.ne_of_lt HGRO.out
   have hblk:=HGW.out.block gr (by rw[HBB.out];have:=HGRO.out;have:=HMT.out.lt;omega) (fun e=>by injection e with e;exact hgo e)
   have r0:=HGW.out.cell (HXR.out.at_ 0 rfl) (fun e=>by injection e with e;exact hgo e)
   have r1:=HGW.out.cell (HXR.out.at_ 1 rfl) (fun e=>by injection e with e;exact hgo e)
   have r2:=HGW.out.cell (HXR.out.at_ 2 rfl) (fun e=>by injection e with e;exact hgo e)
   have f0:we.frozen? ⟨gr,0,none⟩=false:=(World.frozen?_of_block (a:=⟨gr,0,none⟩) hblk).trans (HXR.out.free_ 0)
   have f1:we.frozen? ⟨gr,1,none⟩=false:=(World.frozen?_of_block (a:=⟨gr,1,none⟩) hblk).trans (HXR.out.free_ 1)
   have f2:we.frozen? ⟨gr,2,none⟩=false:=(World.frozen?_of_block (a:=⟨gr,2,none⟩) hblk).trans (HXR.out.free_ 2)
   have hstB:Stk NotU32 wx gr:=Stk.of HXR.out (by intro v hv;simp at hv;rcases hv with rfl|rfl|rfl <;> exact fun _ h=>by cases h)
   have hst:Stk NotU32 we gr:=⟨Nat.lt_of_lt_of_le hstB.1 HGW.out.size,fun i u hu=>hstB.2 i u ((World.cell?_of_block (a:=⟨gr,i,none⟩) hblk).symm.trans hu)⟩
   have a0:=HMT.out.c0
   have a1:=HMT.out.c1
   have HE3:=Kh (put3_at (w:=we) (R:=gr) (v0:=.int .i64 (t:Int)) (v1:=.int .i64 (C:Int)) (v2:=.slice p (t*C) c) (by rw[r0];rfl) (by rw[r1];rfl) (by rw[r2];rfl))
   have HI3:=Kh (put3_32 hst (v0:=.int .i64 (t:Int)) (v1:=.int .i64 (C:Int)) (v2:=.slice p (t*C) c) (fun _ h=>by cases h) (fun _ h=>by cases h))
   have HG3:=Kh (((but_put we gr 0 (.int .i64 (t:Int))).trans (but_put _ gr 1 (.int .i64 (C:Int)))).trans (but_put _ gr 2 (.slice p (t*C) c)))
   have HOQ:=Kh hOQ
   clear hOQ hblk hstB hst
   go_wp2
   have e0:=HE3.out.1
   have e1:=HE3.out.2.1
   have e2:=HE3.out.2.2
   try simp only[Exit.inBlock,Exit.then]
   refine bodyPost_ret (by simp[results,Tryz.results55,go_sem,e0,e1,e2];try rfl) rfl ?_
   refine⟨⟨_,rfl,?_⟩,?_⟩
   ·rw[HVE.out]
    obtain⟨xs,h1,h2⟩:=HOQ.out.box HVS.out HI3.out HG3.out (by have:=HGRO.out;have:=HMT.out.lt;omega)
    exact⟨xs,⟨⟨h1.1.1,by
     rcases h1.1.2 with h |⟨g',cap,cs,e,hB',hr⟩
     ·exact .inl h
     ·exact .inr ⟨g',cap,cs,e,by have:=HGE.out;have:=HGRO.out;have:=HMT.out.lt;omega,hr⟩⟩,h1.2⟩,h2⟩
   ·exact below_but (HGE.out▸HBW.out) HG3.out (by have:=HBW.out.size;have:=HGE.out;omega) (by have:=HGE.out;omega)
end Go.Proofs.YtenlbhlllgppmaaGreatDoor
