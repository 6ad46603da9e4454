/- The document's example: the space of level 1, weight 4. -/
import Derived.Test.YtijgdhijdfgpfaaGreatDoorW28
import Derived.Test.YtijgdhijdfgpfaaGreatDoorW29
import Derived.Test.YtijgdhijdfgpfaaGreatDoorW33
import Derived.Test.YtijgdhijdfgpfaaGreatDoorW17
import Derived.Test.YtijgdhijdfgpfaaGreatDoorW21
import Derived.Test.YtijgdhijdfgpfaaGreatDoorW12
set_option linter.unusedSimpArgs false
set_option maxRecDepth 100000
set_option maxHeartbeats 8000000
namespace Go.Proofs.YtijgdhijdfgpfaaGreatDoor
open Go.RowKit Eli
theorem kro3 (D:Int) (l:Nat):Pl.kroP D l=0∨Pl.kroP D l=1∨Pl.kroP D l=-1:=by
 have h:-1≤Pl.kroP D l∧Pl.kroP D l≤1:=by
  unfold Pl.kroP
  dsimp only
  split
  ·omega
  ·have h:=jac_pm (l / 2 ^ Lib.ctz 64 l+1) (D % (l / 2 ^ Lib.ctz 64 l:Nat)).toNat (l / 2 ^ Lib.ctz 64 l) 1 (.inl rfl)
   split <;> omega
 omega
def relF (n wt:Nat) (D:Int) (p:Nat):Int:=relOf n wt D (p / ((wt+1)*(pts n (n*n)).length)) (p % ((wt+1)*(pts n (n*n)).length))
def cntF (n wt:Nat):Nat:=(wt+1)*(pts n (n*n)).length
def elF (n wt:Nat) (D:Int):Nat→List (Nat×Rat):=elim (cntF n wt) (rowF (cntF n wt) (relF n wt D)) (2*cntF n wt)
theorem relF_small {n wt:Nat} {D:Int} (hw:wt≤22) (p:Nat):(relF n wt D p).natAbs≤16777216:=relE_small (plAll_ok (kro3 D) n) hw _ _
theorem elF_good {n wt:Nat} {D:Int} (hw:wt≤22):Eli.Good (cntF n wt) 16777216 (elF n wt D):=Eli.Good.elim (by omega) (rowF_small (relF_small hw)) (rowF_zero _ _) _
theorem pts_zero {n:Nat} (hn:0<n):0<(pts n (n*n)).length:=by
 have key:∀ a,a<n*n→pok n a=true→plst n a=true→0<(pts n (n*n)).length:=by
  intro a h1 h2 h3
  refine List.length_pos_of_mem (a:=a) ?_
  rw[pts_filter hn _ (Nat.le_refl _),List.mem_filter]
  exact⟨List.mem_range.2 h1,by rw[h2,h3];rfl⟩
 rcases Nat.eq_or_lt_of_le (show 1≤n from hn)with rfl|h
 ·exact key 0 (by omega) (by decide) (by decide)
 ·have h1:1<n*n:=Nat.lt_of_lt_of_le h (Nat.le_mul_of_pos_left n hn)
  have hd:1 / n=0:=Nat.div_eq_of_lt h
  have hm:1 % n=1:=Nat.mod_eq_of_lt h
  refine key 1 h1 ?_ ?_
  ·unfold pok;rw[hd,hm];simp
  ·rw[plst_iff]
   intro s h2 h3 h4
   have h5:s≠n:=fun e=>by
    subst e
    unfold pun at h4
    simp only[beq_iff_eq,Nat.gcd_self]at h4
    omega
   unfold pmul
   rw[hd,hm,Nat.mul_zero,Nat.zero_mod,Nat.zero_mul,Nat.zero_add,Nat.mul_one,Nat.mod_eq_of_lt (by omega)]
   exact h2
theorem cntF_pos {n wt:Nat} (hn:0<n):0<cntF n wt:=Nat.mul_pos (by omega) (pts_zero hn)
theorem c_New (n wt:Nat) (D:Int) (w:World) (hT:Tab w) (hck:Pl.check n ((wt:Int)+2) D=0) (hC:cntF n wt≤72):
  Calls Tryz.prog 16 #[.agg #[.int .i64 n,.int .i64 ((wt:Int)+2),.int .i64 D]] w fun e w'=>(∃ M,e=.returned (.tuple #[.pointer (some ⟨M,0,none⟩),.int .i64 0])∧w.heap.size≤M∧ModAt w' M w'.heap.size n ((wt:Int)+2) D (frs (elF n wt D) (cntF n wt)) (cntF n wt) (crd (elF n wt D) (cntF n wt) (cntF n wt)))∧Below w.heap.size w w':=by
 obtain⟨h1,h2,h3,h4,h5,h6⟩:=check_zero hck
 exact c_New_ok n ((wt:Int)+2) D (2*cntF n wt) (cntF n wt) (relF n wt D) w (fun w1 hb=>c_Relations_ok n wt D (pts n (n*n)) (cntF n wt) w1 (hT.below hb) (by omega) (by omega) (by omega) (by omega) (by omega) hck (kro3 D) rfl rfl (cntF_pos (by omega)) hC) (by omega) (cntF_pos (by omega)) hC (relF_small (by omega))
theorem coord_size {n wt:Nat} {D:Int} (hw:wt≤22) (hC:cntF n wt≤72) {j f:Nat} (hj:j<cntF n wt) (hf:f∈frs (elF n wt D) (cntF n wt)):hq (crd (elF n wt D) (cntF n wt) (cntF n wt) j f)≤80:=by
 obtain⟨h1,h2⟩:=frs_mem.1 hf
 exact Nat.le_trans (crd_size (by omega) (elF_good hw) (by omega) (Nat.le_refl _) hj h1 h2) (top_72 hC (Nat.le_refl _))
theorem aw_frs:frs (elF 1 2 1) (cntF 1 2)=[2]:=by decide +kernel
theorem aw_cnt:cntF 1 2=3:=by decide +kernel
theorem aw_check:Pl.check ((1:Nat):Int) (((2:Nat):Int)+2) 1=0:=by decide +kernel
end Go.Proofs.YtijgdhijdfgpfaaGreatDoor
namespace Go.Proofs.YtijgdhijdfgpfaaGreatDoor
open Go.RowKit
theorem c_Number (n wt:Nat) (D:Int) (i:Nat) (u v:Int) (w:World) (hT:Tab w) (hck:Pl.check n ((wt:Int)+2) D=0) (hi:i≤wt) (hs:(plcOf n D u v).2≠0):
  Calls Tryz.prog 86 #[.agg #[.int .i64 n,.int .i64 ((wt:Int)+2),.int .i64 D],.agg #[.int .i64 i,.int .i64 u,.int .i64 v]] w fun e w'=>e=.returned (.tuple #[.int .i64 ((i*(pts n (n*n)).length+(plcOf n D u v).1:Nat):Int),.int .i64 (plcOf n D u v).2,.int .i64 0])∧Below w.heap.size w w':=by
 obtain⟨h1,h2,h3,h4,h5,h6⟩:=check_zero hck
 have hpl:(pts n (n*n)).length≤14400:=Nat.le_trans (pts_length n (n*n)) (by have:n*n≤120*120:=Nat.mul_le_mul (by omega) (by omega);omega)
 have HEN:=Kh (fun W (hb:Below w.heap.size w W)=>c_enter_ok n wt D W (hT.below hb) (by omega) (by omega) (by omega) (by omega) (by omega) hck)
 have HAT:=Kh (fun T B W h hB=>c_atW T B n wt (pts n (n*n)) (plAll n D (pts n (n*n)) n) u v W h hB (by omega) (by omega))
 have HPB:=Kh (show(plcOf n D u v).1<(pts n (n*n)).length from by
  rcases plAll_ok (kro3 D) n ((u % n).toNat*n+(v % n).toNat)with h|h
  ·exact absurd (by unfold plcOf;rw[h]) hs
  ·exact h.1)
 obtain⟨pc,hpc⟩:∃ p,plcOf n D u v=p:=⟨_,rfl⟩
 have hpc2:plAll n D (pts n (n*n)) n ((u % n).toNat*n+(v % n).toNat)=pc:=hpc
 rw[hpc2]at HAT
 rw[hpc]at hs HPB ⊢
 obtain⟨L,hL⟩:∃ L,pts n (n*n)=L:=⟨_,rfl⟩
 rw[hL]at HEN HAT HPB hpl ⊢
 obtain⟨f,hf⟩:∃ f,plAll n D L n=f:=⟨_,rfl⟩
 rw[hf]at HEN HAT
 have hwt:wt≤22:=by omega
 have hse:(pc.2==0)=false:=by rw[beq_eq_false_iff_ne];exact hs
 obtain⟨iL,hiL⟩:∃ x,i*L.length=x:=⟨_,rfl⟩
 have e1:(i:Int)*(L.length:Int)=(iL:Nat):=by rw[← hiL];push_cast;rfl
 have hb1:iL≤22*14400:=by rw[← hiL];exact Nat.mul_le_mul (by omega) hpl
 have hp1:pc.1<14400:=by have:=HPB.out;omega
 rw[hiL]
 have HS:=Kh hs
 clear hT hck h1 h2 h3 h4 h5 h6 hs hpc hpc2 hL hf hiL
 have hi0:¬ ((i:Int)<0):=by omega
 have hd0:decide ((i:Int)<0)=false:=decide_eq_false hi0
 have hi1:¬ ((wt:Int)<(i:Int)):=by omega
 have hd1:decide ((wt:Int)<(i:Int))=false:=decide_eq_false hi1
 go_enter Tryz.func86,Tryz.ntmps86
 go_wp2_with fail
 obtain⟨w0,hw0,_,XB,hb0⟩:=bx2 w #[.int .i64 n,.int .i64 ((wt:Int)+2),.int .i64 D] 40 #[.int .i64 i,.int .i64 u,.int .i64 v] 145
 rw[hw0]
 refine(HEN.out w0 hb0).mono ?_
 rintro e w1 ⟨⟨T,rfl,hwa⟩,hb1⟩
 have XB1:=XB.below_ hb1 XB.lt
 have x0:=XB1.at_ 0 rfl
 have x1:=XB1.at_ 1 rfl
 have x2:=XB1.at_ 2 rfl
 have t1:=hwa.c1
 have HWA:=Kh hwa
 have HX1:=Kh XB1
 have HB1:=Kh (hb0.trans (hb1.mono hb0.size))
 clear hw0 XB hb0 hb1 hwa XB1 HEN
 go_upto_region 4 with(fail)
 go_quiet (fail)
 have hb2:Below w1.heap.size w1 (w1.drewN nq):=below_drewN' (Below.refl _ _) nq
 generalize w1.drewN nq=w2 at hb2 ⊢
 have HW2:=Kh (HWA.out.keep (Nat.le_refl _) hb2)
 have HX2:=Kh (bk HX1 hb2)
 have HB2:=bt HB1 hb2
 have HS2:=Kh hb2.size
 clear x0 x1 x2 t1 hb2 HX1 HB1 HWA
 have x0:=HX2.out.at_ 0 rfl
 have x1:=HX2.out.at_ 1 rfl
 have x2:=HX2.out.at_ 2 rfl
 go_wp2_with fail
 refine(HAT.out T w1.heap.size w2 HW2.out HS2.out).mono ?_
 rintro e w3 ⟨rfl,hb3⟩
 have HW3:=Kh (HW2.out.keep HS2.out hb3)
 have HX3:=Kh (bk HX2 hb3)
 have HB3:=bt HB2 hb3
 clear x0 x1 x2 hb3 HX2 HB2 HW2
 go_upto_region 7 with(fail)
 obtain⟨w4,hw4,X4,hb4⟩:=bx1 w3 #[.int .i64 (pc.1:Int),.int .i64 pc.2] 172
 rw[hw4]
 have y0:=X4.at_ 0 rfl
 have y1:=X4.at_ 1 rfl
 have x0:=(bk HX3 hb4).at_ 0 rfl
 obtain⟨pl,cl,t2,_⟩:=HW3.out.c2
 have t2:=cell_next hb4 t2
 have HB4:=bt HB3 hb4
 clear hw4 X4 hb4 HX3 HB3 HW3
 go_upto_region 9 with(fail)
 go_quiet (fail)
 have HB5:=Kh (show Below w.heap.size w (w4.drewN nq)from below_drewN' HB4.out nq)
 go_wp2
 go_ret3
 exact⟨by push_cast;rfl,HB5.out⟩
def stpM (x y:Int×Int):(Int×Int)×(Int×Int):=if y.1*x.2 - x.1*y.2=1 then((y.1,x.1),(y.2,x.2))else((y.1,-x.1),(y.2,-x.2))
theorem c_step (a b c d:Int) (w:World) (ha:-1073741824≤a) (ha':a≤1073741824) (hb:-1073741824≤b) (hb':b≤1073741824) (hc:-1073741824≤c) (hc':c≤1073741824) (hd:-1073741824≤d) (hd':d≤1073741824)
  (hdet:c*b - a*d=1∨c*b - a*d=-1):
  Calls Tryz.prog 85 #[.agg #[.int .i64 a,.int .i64 b],.agg #[.int .i64 c,.int .i64 d]] w fun e w'=>e=.returned (.tuple #[.agg #[.int .i64 (stpM (a,b) (c,d)).1.1,.int .i64 (stpM (a,b) (c,d)).1.2,.int .i64 (stpM (a,b) (c,d)).2.1,.int .i64 (stpM (a,b) (c,d)).2.2],.bool true])∧Below w.heap.size w w':=by
 have hm1:=mul_b hc hc' hb hb'
 have hm2:=mul_b ha ha' hd hd'
 obtain⟨cb,hcb⟩:∃ x,c*b=x:=⟨_,rfl⟩
 obtain⟨ad,had⟩:∃ x,a*d=x:=⟨_,rfl⟩
 rcases hdet with h|h
 ·rw[show stpM (a,b) (c,d)=((c,a),(d,b))by unfold stpM;rw[if_pos h]]
  rw[hcb]at h hm1
  rw[had]at h hm2
  go_enter Tryz.func85,Tryz.ntmps85
  go_wp2
  try simp only[Exit.inBlock,Exit.then]
  refine bodyPost_ret (by simp[results,Tryz.results85,go_sem];try rfl) rfl ?_
  exact⟨rfl,((((Below.refl _ w).alloc (Nat.le_refl _) _).alloc (by simp) _).alloc (by simp;omega) _).alloc (by simp;omega) _⟩
 ·rw[show stpM (a,b) (c,d)=((c,-a),(d,-b))by unfold stpM;rw[if_neg (by show ¬ (c*b - a*d=1);omega)]]
  rw[hcb]at h hm1
  rw[had]at h hm2
  go_enter Tryz.func85,Tryz.ntmps85
  go_wp2
  try simp only[Exit.inBlock,Exit.then]
  refine bodyPost_ret (by simp[results,Tryz.results85,go_sem];try rfl) rfl ?_
  exact⟨rfl,((((Below.refl _ w).alloc (Nat.le_refl _) _).alloc (by simp) _).alloc (by simp;omega) _).alloc (by simp;omega) _⟩
section
variable {P:Program} {md:Region.Mode} {ops:Array Oper} {Q:Exit→Act→World→Prop} {S:World→Prop} {X:List Nat}
def fullX (ops:Array Oper) (X:List Nat) (listed:Array Bool):Bool:=(List.range ops.size).all fun k=>listed.getD k true||X.contains k
theorem fullX_idle {listed:Array Bool} {i:Nat} (hX:X.contains i=true):fullX ops X (listed.setIfInBounds i true)=fullX ops X listed:=by
 unfold fullX
 congr 1
 funext k
 by_cases e:k=i
 ·subst e;rw[hX,Bool.or_true,Bool.or_true]
 ·rw[getD_set_ne true (fun h=>e h.symm)]
theorem not_fullX {listed:Array Bool} {k:Nat} (hk:k<ops.size) (hX:X.contains k=false) (h:listed.getD k true=false):fullX ops X listed=false:=by
 cases e:fullX ops X listed with
 | false=>rfl
 | true=>
  rw[fullX,List.all_eq_true]at e
  have h1:=e k (List.mem_range.2 hk)
  rw[h,hX]at h1
  cases h1
def waitX (md:Region.Mode) (ops:Array Oper) (X:List Nat) (listed:Array Bool) (i:Nat):Bool:=
 (List.range ops.size).any fun k=>k != i && !(listed.getD k true) && !X.contains k&&match ops[k]? with
  | some o=>o.after.any fun e=>Region.binds md e&&e.on==i
  | none=>false
def wpX (P:Program) (md:Region.Mode) (ops:Array Oper) (Q:Exit→Act→World→Prop) (S:World→Prop) (X:List Nat):Nat→Array Bool→Act→World→Prop
 | 0,listed,a,w=>Region.ready md ops listed=[]∧Q .normal a w
 | n+1,listed,a,w=>(Region.ready md ops listed=[]→Q .normal a w) ∧
  ∀ i∈Region.ready md ops listed,wpOp P ops Q i (fun a' w'=>(fullX ops X (listed.setIfInBounds i true)=false→S w')∧wpX P md ops Q S X n (listed.setIfInBounds i true) a' w') a w
theorem wpX.any:∀ (n:Nat) (listed:Array Bool) (a:Act) (w:World),wpX P md ops Q S X n listed a w→wpAny P md ops Q n listed a w
 | 0,_,_,_,h=>h
 | n+1,_,_,_,h=>⟨h.1,fun i hi=>wpOp_mono (fun a' w' h'=>wpX.any n _ a' w' h'.2) (h.2 i hi)⟩
theorem wpX.first {T:World→Prop} {i:Nat} {oi:Oper} {v:Value} (hi:ops[i]?=some oi)
  (hsel:∀ (j:Nat) (o:Oper) cs b,ops[j]?=some o→o.op≠.select cs b) (hQ:∀ c a w,Q (.panic c) (a.put oi.dst v) w→Q (.panic c) a w) (I:Array Bool→Prop)
  (hI:∀ l j,I l→j≠i→j∈Region.ready md ops l→I (l.setIfInBounds j true)) (hF:∀ l,I l→(fullX ops X (l.setIfInBounds i true)=false→∀ w,S w→T w)∧(fullX ops X l=false→fullX ops X (l.setIfInBounds i true)=false)∧(fullX ops X l=true→∀ w,T w)):
  ∀ (n:Nat) (listed:Array Bool) (a:Act) (w:World),I listed →
   (∀ j oj,ops[j]?=some oj→j≠i→listed.getD j true=false→(∀ e∈oj.after,Region.binds md e=true→e.on≠i)→oi.apart ops oj=true) →
   i∈Region.ready md ops listed→YieldsIf P ops T oi v a→(fullX ops X listed=false→S w) →
   wpX P md ops Q S X n (listed.setIfInBounds i true) (a.put oi.dst v) w→wpX P md ops Q S X (n+1) listed a w:=by
 have hTS:∀ l w,I l→(fullX ops X l=false→S w)→T w:=fun l w hl h=>by
  cases e:fullX ops X l with
  | true=>exact(hF l hl).2.2 e w
  | false=>exact(hF l hl).1 ((hF l hl).2.1 e) w (h e)
 have hSS:∀ l w,I l→(fullX ops X l=false→S w)→fullX ops X (l.setIfInBounds i true)=false→S w:=fun l w hl h h2=>by
  cases e:fullX ops X l with
  | false=>exact h e
  | true=>
   rw[fullX,List.all_eq_true]at e
   unfold fullX at h2
   rw[List.all_eq_false]at h2
   obtain⟨k,hk,h3⟩:=h2
   have h4:=e k hk
   exfalso
   apply h3
   by_cases hki:k=i
   ·subst hki
    rcases Nat.lt_or_ge k l.size with h5|h5
    ·simp[h5]
    ·simp[h5]
   ·rw[getD_set_ne true (fun h=>hki h.symm)];exact h4
 intro n
 induction n with
 | zero=>
  intro listed a w hIl _ hr hy hS H
  refine⟨(fun h=>by rw[h]at hr;cases hr),fun j hj=>?_⟩
  by_cases hji:j=i
  ·subst hji;exact hy.wpOp hi (hTS _ _ hIl hS) ⟨hSS _ _ hIl hS,H⟩
  ·have h1:=ready_mono hj hji
   rw[H.1]at h1
   cases h1
 | succ n ih=>
  intro listed a w hIl hfree hr hy hS H
  refine⟨(fun h=>by rw[h]at hr;cases hr),fun j hj=>?_⟩
  by_cases hji:j=i
  ·subst hji;exact hy.wpOp hi (hTS _ _ hIl hS) ⟨hSS _ _ hIl hS,H⟩
  have h1:=H.2 j (ready_mono hj hji)
  obtain⟨hjl,oj,hoj,hall⟩:=mem_ready.1 hj
  have hin:listed.getD i false=false:=by
   have h0:=(mem_ready.1 hr).1
   rcases Nat.lt_or_ge i listed.size with h2|h2
   ·simp[h2]at h0 ⊢;exact h0
   ·simp[Array.getElem?_eq_none h2]
  have hno:∀ e∈oj.after,Region.binds md e=true→e.on≠i:=fun e he hb h2=>by
   have h3:=hall e he hb
   rw[h2,hin]at h3
   cases h3
  have h2:=wpOp_putIf hoj (hfree j oj hoj hji hjl hno) (fun cs b=>hsel i oi cs b hi) (fun cs b=>hsel j oj cs b hoj) hQ hy h1
  refine wpOp_mono (fun a' w' h3=>?_) h2
  have hIj:=hI listed j hIl hji hj
  have hS':fullX ops X (listed.setIfInBounds j true)=false→S w':=fun e=>h3.2.1 (by rw[Array.setIfInBounds_comm _ _ (Ne.symm hji)];exact(hF _ hIj).2.1 e)
  refine⟨hS',ih _ a' w' hIj (fun q oq hq hqi hql hqn=>hfree q oq hq hqi ?_ hqn) (ready_mono hr (Ne.symm hji)) h3.1 hS' ?_⟩
  ·by_cases hjq:j=q
   ·subst hjq;exact hjl
   ·rw[getD_set_ne true hjq]at hql;exact hql
  ·rw[Array.setIfInBounds_comm _ _ hji]
   exact h3.2.2
theorem waitX_spec {listed:Array Bool} {i:Nat} (h:waitX md ops X listed i=true):∃ k ok,ops[k]?=some ok∧k≠i∧listed.getD k true=false∧X.contains k=false∧∃ e∈ok.after,Region.binds md e=true∧e.on=i:=by
 rw[waitX,List.any_eq_true]at h
 obtain⟨k,_,h⟩:=h
 cases hk:ops[k]? with
 | none=>rw[hk]at h;simp at h
 | some o=>
  rw[hk]at h
  simp only[Bool.and_eq_true,bne_iff_ne,ne_eq,Bool.not_eq_true',beq_iff_eq,Array.any_eq_true']at h
  obtain⟨⟨⟨h1,h2⟩,h0⟩,e,h3,h4,h5⟩:=h
  exact⟨k,o,hk,h1,h2,h0,e,h3,h4,h5⟩
theorem rgX (X:List Nat) {id:Nat} {a:Act} {w:World} (S:World→Prop) (hS:∀ W,Below w.heap.size w W→S W) (h:Hid (∀ W,Below w.heap.size w W→S W)→S w.drew→wpX P .any ops Q S X ops.size (Array.replicate ops.size false) a w.drew) (hm:P.follows .mixedOrders=true:=by kernel_rfl):(Code.region id ops true).wp P Q a w:=
 wp_region_any hm (wpX.any _ _ _ _ (h (Kh hS) (hS _ (Below.refl _ w).drew)))
theorem tkX (i:Nat) {oi:Oper} {v:Value} {n d:Nat} {listed:Array Bool} {a a':Act} {w:World} (h:wpX P md ops Q S X n (listed.setIfInBounds i true) a' w)
  (hi:ops[i]?=some oi:=by rfl) (hS:S w:=by assumption) (hw:Region.wanted oi (yielded ops a.tmps)=true:=by rfl)
  (hy:∀ w,S w→(execOp a.eval oi).run P w=.ok (.value v) w:=by intro w hSw;(try dsimp only at hSw);go_simp;(try with_reducible rfl))
  (hd:oi.dst=some d:=by rfl) (ha:a.put (some d) v=a':=by(try simp only[Act.put,List.setIfInBounds_toArray,List.set_cons_zero,List.set_cons_succ]);rfl)
  (hs:Region.noSelect ops=true:=by kernel_rfl) (hf:Region.free md ops listed i=true:=by kernel_rfl) (hr:(Region.ready md ops listed).contains i=true:=by kernel_rfl) (hk:waitX md ops X listed i=true:=by kernel_rfl)
  (hQ:∀ c a w,Q (.panic c) (a.put oi.dst v) w→Q (.panic c) a w:=by exact fun _ _ _ h=>h):wpX P md ops Q S X (n+1) listed a w:=by
 subst ha
 rw[← hd]at h
 obtain⟨k,ok,h1,h2,h3,h0,e0,he0,hb0,ho0⟩:=waitX_spec hk
 have hkx:k<ops.size:=(Array.getElem?_eq_some_iff.1 h1).1
 refine wpX.first (T:=S) hi (Region.noSelect_spec hs) hQ (fun l=>l.getD k true=false∧l.getD i false=false) (fun l j hl hji hj=>?_) (fun l hl=>?_) n listed a w ⟨h3,?_⟩ (Region.free_spec hi hf) (by simpa using hr) (.inl ⟨hw,hy⟩) (fun _=>hS) h
 ·obtain⟨_,oj,hoj,hall⟩:=mem_ready.1 hj
  refine⟨?_,?_⟩
  ·have hjk:j≠k:=fun h5=>by
    subst h5
    rw[hoj]at h1
    cases h1
    have h6:=hall e0 he0 hb0
    rw[ho0,hl.2]at h6
    cases h6
   rw[getD_set_ne true hjk];exact hl.1
  ·rw[getD_set_ne false hji];exact hl.2
 ·have hn:fullX ops X l=false:=not_fullX hkx h0 hl.1
  exact⟨fun _ w h=>h,fun _=>not_fullX hkx h0 (by rw[getD_set_ne true h2.symm];exact hl.1),fun h=>by rw[hn]at h;cases h⟩
 ·have hr2:i∈Region.ready md ops listed:=by simpa using hr
  have h5:=(mem_ready.1 hr2).1
  rcases Nat.lt_or_ge i listed.size with h6|h6
  ·simp[h6]at h5 ⊢;exact h5
  ·simp[Array.getElem?_eq_none h6]
theorem tkI (i:Nat) {oi:Oper} {v:Value} {n d:Nat} {listed:Array Bool} {a a':Act} {w:World} (h:wpX P md ops Q S X n (listed.setIfInBounds i true) a' w)
  (hi:ops[i]?=some oi:=by rfl) (hS:S w:=by assumption) (hw:Region.wanted oi (yielded ops a.tmps)=true:=by rfl)
  (hy:∀ w,(execOp a.eval oi).run P w=.ok (.value v) w:=by intro w;go_simp;(try with_reducible rfl))
  (hd:oi.dst=some d:=by rfl) (ha:a.put (some d) v=a':=by(try simp only[Act.put,List.setIfInBounds_toArray,List.set_cons_zero,List.set_cons_succ]);rfl)
  (hs:Region.noSelect ops=true:=by kernel_rfl) (hf:Region.free md ops listed i=true:=by kernel_rfl) (hr:(Region.ready md ops listed).contains i=true:=by kernel_rfl) (hX:X.contains i=true:=by kernel_rfl)
  (hQ:∀ c a w,Q (.panic c) (a.put oi.dst v) w→Q (.panic c) a w:=by exact fun _ _ _ h=>h):wpX P md ops Q S X (n+1) listed a w:=by
 subst ha
 rw[← hd]at h
 exact wpX.first (T:=fun _=>True) hi (Region.noSelect_spec hs) hQ (fun _=>True) (fun _ _ _ _ _=>trivial) (fun l _=>⟨fun _ _ _=>trivial,fun h=>by rw[fullX_idle hX];exact h,fun _ _=>trivial⟩) n listed a w trivial (Region.free_spec hi hf) (by simpa using hr) (.inl ⟨hw,fun w _=>hy w⟩) (fun _=>hS) h
theorem stX (i:Nat) {o:Oper} {n:Nat} {listed:Array Bool} {a:Act} {w:World}
  (ho:ops[i]?=some o) (h:∀ K':Act→World→Prop,Shut (∀ a w,S w→(S w→wpX P md ops Q S X n (listed.setIfInBounds i true) a w)→K' a w)→if Region.wanted o (yielded ops a.tmps)=true then Oper.wp P o a w K' Q else K' (a.put o.dst undef) w)
  (hr:Region.ready md ops listed=[i]:=by kernel_rfl):wpX P md ops Q S X (n+1) listed a w:=by
 refine⟨(fun e=>by rw[hr]at e;cases e),fun j hj=>?_⟩
 rw[hr,List.mem_singleton]at hj
 subst hj
 refine wpOp_step ho fun K' hK=>?_
 exact h K' fun a w hS hW=>hK a w ⟨fun _=>hS,hW hS⟩
theorem rd2X (i j:Nat) {oi oj:Oper} {n:Nat} {listed:Array Bool} {a:Act} {w:World} (hoi:ops[i]?=some oi) (hoj:ops[j]?=some oj)
  (hi:∀ K':Act→World→Prop,Shut (∀ a w,S w→(S w→wpX P md ops Q S X n (listed.setIfInBounds i true) a w)→K' a w)→if Region.wanted oi (yielded ops a.tmps)=true then Oper.wp P oi a w K' Q else K' (a.put oi.dst undef) w)
  (hj:∀ K':Act→World→Prop,Shut (∀ a w,S w→(S w→wpX P md ops Q S X n (listed.setIfInBounds j true) a w)→K' a w)→if Region.wanted oj (yielded ops a.tmps)=true then Oper.wp P oj a w K' Q else K' (a.put oj.dst undef) w)
  (hr:Region.ready md ops listed=[i,j]:=by kernel_rfl):wpX P md ops Q S X (n+1) listed a w:=by
 refine⟨(fun e=>by rw[hr]at e;cases e),fun k hk=>?_⟩
 rw[hr]at hk
 have hk:k=i∨k=j:=by simpa using hk
 rcases hk with rfl|rfl
 ·refine wpOp_step hoi fun K' hK=>?_
  exact hi K' fun a w hS hW=>hK a w ⟨fun _=>hS,hW hS⟩
 ·refine wpOp_step hoj fun K' hK=>?_
  exact hj K' fun a w hS hW=>hK a w ⟨fun _=>hS,hW hS⟩
theorem tkJ (i:Nat) {oi:Oper} {v:Value} {n d:Nat} {listed:Array Bool} {a a':Act} {w:World} (h:wpX P md ops Q S X n (listed.setIfInBounds i true) a' w)
  (hi:ops[i]?=some oi:=by rfl) (hl:fullX ops X listed=true:=by kernel_rfl) (hw:Region.wanted oi (yielded ops a.tmps)=true:=by rfl)
  (hy:∀ w,(execOp a.eval oi).run P w=.ok (.value v) w:=by intro w;go_simp;(try with_reducible rfl))
  (hd:oi.dst=some d:=by rfl) (ha:a.put (some d) v=a':=by(try simp only[Act.put,List.setIfInBounds_toArray,List.set_cons_zero,List.set_cons_succ]);rfl)
  (hs:Region.noSelect ops=true:=by kernel_rfl) (hf:Region.free md ops listed i=true:=by kernel_rfl) (hr:(Region.ready md ops listed).contains i=true:=by kernel_rfl) (hX:X.contains i=true:=by kernel_rfl)
  (hQ:∀ c a w,Q (.panic c) (a.put oi.dst v) w→Q (.panic c) a w:=by exact fun _ _ _ h=>h):wpX P md ops Q S X (n+1) listed a w:=by
 subst ha
 rw[← hd]at h
 exact wpX.first (T:=fun _=>True) hi (Region.noSelect_spec hs) hQ (fun _=>True) (fun _ _ _ _ _=>trivial) (fun l _=>⟨fun _ _ _=>trivial,fun h=>by rw[fullX_idle hX];exact h,fun _ _=>trivial⟩) n listed a w trivial (Region.free_spec hi hf) (by simpa using hr) (.inl ⟨hw,fun w _=>hy w⟩) (fun e=>by rw[hl]at e;cases e) h
theorem snX (i:Nat) {o:Oper} {n:Nat} {listed:Array Bool} {a:Act} {w:World}
  (ho:ops[i]?=some o) (h:∀ K':Act→World→Prop,Shut (∀ a w,wpX P md ops Q S X n (listed.setIfInBounds i true) a w→K' a w)→if Region.wanted o (yielded ops a.tmps)=true then Oper.wp P o a w K' Q else K' (a.put o.dst undef) w)
  (hr:Region.ready md ops listed=[i]:=by kernel_rfl) (hl:fullX ops X (listed.setIfInBounds i true)=true:=by kernel_rfl):wpX P md ops Q S X (n+1) listed a w:=by
 refine⟨(fun e=>by rw[hr]at e;cases e),fun j hj=>?_⟩
 rw[hr,List.mem_singleton]at hj
 subst hj
 refine wpOp_step ho fun K' hK=>?_
 exact h K' fun a w hW=>hK a w ⟨(fun e=>by rw[hl]at e;cases e),hW⟩
theorem dnX {n:Nat} {listed:Array Bool} {a:Act} {w:World} (h:Q .normal a w) (hr:Region.ready md ops listed=[]:=by kernel_rfl):wpX P md ops Q S X n listed a w:=by
 cases n with
 | zero=>exact⟨hr,h⟩
 | succ n=>exact⟨fun _=>h,fun j hj=>by rw[hr]at hj;cases hj⟩
end
end Go.Proofs.YtijgdhijdfgpfaaGreatDoor
