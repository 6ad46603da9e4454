/- Points, flags and places in memory, for projline.List and manin.enter. -/
import Derived.Test.YtijgdhijdfgpfaaGreatDoorY30
import Derived.Test.YtijgdhijdfgpfaaGreatDoorY14
import Derived.Test.YtijgdhijdfgpfaaGreatDoorY02
set_option maxRecDepth 100000
set_option maxHeartbeats 8000000
namespace Go.Proofs.YtijgdhijdfgpfaaGreatDoor
open Go.RowKit
/-! The units -/
def uns (n:Nat):Nat→List Nat
 | 0=>[]
 | m+1=>if pun n (m+1)then uns n m++[m+1]else uns n m
theorem uns_succ (n m:Nat):uns n (m+1)=if pun n (m+1)then uns n m++[m+1]else uns n m:=rfl
theorem uns_mem {n m s:Nat}:s∈uns n m↔1≤s∧s≤m∧pun n s=true:=by
 induction m with
 | zero=>constructor
         ·intro h;simp[uns]at h
         ·rintro⟨h1,h2,_⟩;omega
 | succ m ih=>
  rw[uns_succ]
  split
  ·rename_i hu
   rw[List.mem_append,ih,List.mem_singleton]
   constructor
   ·rintro(⟨h1,h2,h3⟩|rfl)
    ·exact⟨h1,by omega,h3⟩
    ·exact⟨by omega,Nat.le_refl _,hu⟩
   ·rintro⟨h1,h2,h3⟩
    rcases Nat.lt_or_ge s (m+1)with h|h
    ·exact .inl ⟨h1,by omega,h3⟩
    ·exact .inr (by omega)
  ·rename_i hu
   rw[ih]
   constructor
   ·rintro⟨h1,h2,h3⟩;exact⟨h1,by omega,h3⟩
   ·rintro⟨h1,h2,h3⟩
    refine⟨h1,?_,h3⟩
    rcases Nat.lt_or_ge s (m+1)with h|h
    ·omega
    ·have:s=m+1:=by omega
     subst this
     exact absurd h3 hu
theorem uns_length (n m:Nat):(uns n m).length≤m:=by
 induction m with
 | zero=>exact Nat.le_refl _
 | succ m ih=>
  rw[uns_succ]
  split
  ·rw[List.length_append];simp;exact ih
  ·omega
def flg (n:Nat) (l:List Nat) (a t i:Nat):Bool:=pseen n l i||((uns n n).take t).any fun s=>pmul n s a==i
theorem flg_zero (n:Nat) (l:List Nat) (a i:Nat):flg n l a 0 i=pseen n l i:=by simp[flg]
theorem flg_succ {n:Nat} {l:List Nat} {a t s:Nat} (h:(uns n n)[t]?=some s) (i:Nat):flg n l a (t+1) i=if i=pmul n s a then true else flg n l a t i:=by
 unfold flg
 rw[List.take_add_one,h,Option.toList_some,List.any_append]
 simp only[List.any_cons,List.any_nil,Bool.or_false]
 by_cases e:i=pmul n s a
 ·rw[if_pos e,e];simp
 ·rw[if_neg e]
  have:(pmul n s a==i)=false:=by simpa using fun h=>e h.symm
  rw[this,Bool.or_false]
theorem flg_all {n:Nat} {l:List Nat} {a:Nat} (i:Nat):flg n l a (uns n n).length i=pseen n (l++[a]) i:=by
 unfold flg
 rw[List.take_length]
 unfold pseen
 rw[List.any_append]
 congr 1
 simp only[List.any_cons,List.any_nil,Bool.or_false]
 rw[Bool.eq_iff_iff]
 simp only[List.any_eq_true,List.mem_range,Bool.and_eq_true,uns_mem]
 constructor
 ·rintro⟨s,⟨h1,h2,h3⟩,e⟩
  exact⟨s - 1,by omega,by rw[show s - 1+1=s by omega];exact⟨h3,e⟩⟩
 ·rintro⟨j,hj,h3,e⟩
  exact⟨j+1,⟨by omega,by omega,h3⟩,e⟩
/-! A row of cells of one kind,written in place: cell i holds f i -/
structure CRow (f:Nat→Value) (w:World) (g m:Nat):Prop where
 stk:Stk NotU32 w g
 free:∀ i,i<m→w.frozen? ⟨g,i,none⟩=false
 val:∀ i,i<m→w.cell? ⟨g,i,none⟩=some (f i)
theorem CRow.keep {f:Nat→Value} {w w':World} {g m:Nat} (h:CRow f w g m) (hb:Below w.heap.size w w'):CRow f w' g m:=
 ⟨h.stk.next hb,fun i hi=>frozen_keep hb (by rw[h.val i hi];rfl) (h.free i hi),fun i hi=>(hb.cell (p:=⟨g,i,none⟩) h.stk.1).trans (h.val i hi)⟩
theorem CRow.grown {f:Nat→Value} {w w':World} {g m:Nat} {o:Option Nat} (h:CRow f w g m) (hg:w.grownBy w' o) (hne:∀ b,o=some b→g≠b):CRow f w' g m:=by
 have hb:w'.heap[g]?=w.heap[g]?:=hg.block g h.stk.1 (fun e=>hne _ e.symm rfl)
 refine⟨⟨Nat.lt_of_lt_of_le h.stk.1 hg.size,fun i v hv=>h.stk.2 i v ((World.cell?_of_block (a:=⟨g,i,none⟩) hb).symm.trans hv)⟩,fun i hi=>(World.frozen?_of_block (a:=⟨g,i,none⟩) hb).trans (h.free i hi),fun i hi=>(World.cell?_of_block (a:=⟨g,i,none⟩) hb).trans (h.val i hi)⟩
theorem CRow.set {f:Nat→Value} {w:World} {g m:Nat} (h:CRow f w g m) (k:Nat) (u:Value) (hu:NotU32 u) (f':Nat→Value) (hf:∀ i,i<m→f' i=if i=k then u else f i):CRow f' (w.setCell ⟨g,k,none⟩ u) g m:=by
 refine⟨stk_put h.stk _ _ hu,fun i hi=>frozen_set (h.free i hi),fun i hi=>?_⟩
 rw[hf i hi]
 by_cases e:i=k
 ·subst e
  rw[if_pos rfl]
  exact World.cell?_setCell_same' _ _ _ (by rw[h.val i hi];rfl)
 ·rw[if_neg e,World.cell?_setCell_other _ _ _ _ (by simp <;> omega)]
  exact h.val i hi
theorem CRow.congr {f f':Nat→Value} {w:World} {g m:Nat} (h:CRow f w g m) (e:∀ i,i<m→f' i=f i):CRow f' w g m:=⟨h.stk,h.free,fun i hi=>by rw[e i hi];exact h.val i hi⟩
theorem CRow.i32 {f:Nat→Value} {w:World} {g m k:Nat} (h:CRow f w g m) (u:Value):I32 w (w.setCell ⟨g,k,none⟩ u):=I32.putU h.stk k u
theorem boolInfo:(Tryz.prog.info? 4).map (fun i=>(i.zero,i.size,i.bytes))=some (some (.bool false),1,1):=by kernel_rfl
theorem makeB (n:Nat) (h:n≤1000000) (w:World):
  (Instr.makeSlice 187 (.int .i64 (n:Int)) (.int .i64 (n:Int))).run Tryz.prog w=.ok (.slice (some ⟨w.heap.size,0,none⟩) n n) (w.alloc (.cells (madeCells #[.bool false] n) 4)):=by
 obtain⟨i,hi,hz0,hz1,hz2⟩:=info_parts boolInfo
 have hr:=run_make (P:=Tryz.prog) w 187 4 i _ Tryz.underlying187 hi hz0 .i64 .i64 n n (by omega) (Int.le_refl _) (by rw[hz2];omega) (by omega)
 rw[Int.toNat_natCast,hz1,Nat.mul_one]at hr
 exact hr
theorem made1 {z:Value} {n i:Nat} {v:Value} (h:(madeCells #[z] n)[i]?=some v):v=z:=by
 unfold madeCells at h
 simp only[Array.getElem?_map,Array.getElem?_range]at h
 split at h
 ·simp only[Option.map_some]at h
  injection h with h
  rw[← h]
  have h3:i % 1=0:=Nat.mod_one i
  show(#[z]:Array Value)[i % 1]! = _
  rw[h3];rfl
 ·cases h
theorem CRow.made {z:Value} (hz:NotU32 z) (w:World) (n:Nat) (t:TypeId):CRow (fun _=>z) (w.alloc (.cells (madeCells #[z] n) t)) w.heap.size n:=by
 have hb:=Blk.new w t (madeCells #[z] n)
 refine⟨Stk.of hb ?_,fun i _=>hb.free_ i,fun i hi=>?_⟩
 ·intro v hv
  obtain⟨i,hi⟩:=Array.getElem?_of_mem (Array.mem_toList_iff.1 hv)
  rw[made1 hi]
  exact hz
 ·rw[hb.cell_ i,Array.getElem?_eq_getElem (by rw[size_madeCells];exact hi)]
  congr 1
  exact made1 (Array.getElem?_eq_getElem (by rw[size_madeCells];exact hi))
/-! Points -/
def ptc (n a:Nat):List Value:=[.int .i64 ((a / n:Nat):Int),.int .i64 ((a % n:Nat):Int),.int .i64 1]
def OwnPt (n:Nat) (l:List Nat) (w:World) (B:Nat) (v:Value):Prop:=OwnK NotU32 w B 170 3 v l.length (l.flatMap (ptc n))
theorem OwnPt.nil (n:Nat) (w:World) (B:Nat):OwnPt n [] w B (.slice none 0 0):=OwnK.nil _ _ _ _ _
theorem OwnPt.keep {n:Nat} {l:List Nat} {w w':World} {B:Nat} {v:Value} (h:OwnPt n l w B v) (hb:Below w.heap.size w w'):OwnPt n l w' B v:=OwnK.keep h hb
theorem OwnPt.push {n:Nat} {l:List Nat} {w':World} {B:Nat} {v':Value} {a:Nat} (h:OwnK NotU32 w' B 170 3 v' (l.length+1) (l.flatMap (ptc n)++ptc n a)):OwnPt n (l++[a]) w' B v':=by
 unfold OwnPt
 rw[List.flatMap_append,List.length_append]
 simpa using h
theorem OwnK.other {K:Value→Prop} {w:World} {B E sz n:Nat} {v:Value} {xs:List Value} (h:OwnK K w B E sz v n xs) {a:Addr} (ha:a.block<B) {u:Value} (hu:K u):OwnK K (w.setCell a u) B E sz v n xs:=
 ⟨ownsRow_setCell_below h.1 ha u,fun g hg=>stk_put (h.2 g hg) _ _ hu⟩
theorem ptInfo:(Tryz.prog.info? 170).map (fun i=>(i.zero,i.size,i.bytes))=some (some (.agg #[.int .i64 0,.int .i64 0,.int .i64 0]),3,24):=by kernel_rfl
def PtL (n:Nat) (l:List Nat) (w:World) (B:Nat) (v:Value):Prop:=(l=[]∧∃ a c,v=.slice a 0 c)∨∃ g cap,v=.slice (some ⟨g,0,none⟩) l.length cap∧g<B∧∀ (j a:Nat),l[j]?=some a→w.cell? ⟨g,j*3,none⟩=some (.int .i64 ((a / n:Nat):Int))∧w.cell? ⟨g,j*3+1,none⟩=some (.int .i64 ((a % n:Nat):Int))∧w.cell? ⟨g,j*3+2,none⟩=some (.int .i64 1)
theorem flat_get {n:Nat}:∀ {l:List Nat} {j a i:Nat},l[j]?=some a→i<3→(l.flatMap (ptc n))[j*3+i]?=(ptc n a)[i]?
 | [],j,a,i,h,_=>by simp at h
 | x :: l,0,a,i,h,hi=>by
  simp at h
  subst h
  rw[List.flatMap_cons,List.getElem?_append_left (by simp[ptc];omega),Nat.zero_mul,Nat.zero_add]
 | x :: l,j+1,a,i,h,hi=>by
  rw[List.getElem?_cons_succ]at h
  rw[List.flatMap_cons,List.getElem?_append_right (by simp[ptc];omega)]
  have e:(j+1)*3+i - (ptc n x).length=j*3+i:=by simp[ptc];omega
  rw[e]
  exact flat_get h hi
theorem OwnPt.ptl {n:Nat} {l:List Nat} {w:World} {B:Nat} {v:Value} (h:OwnPt n l w B v):PtL n l w w.heap.size v:=by
 rcases h.1.2 with⟨e1,e2⟩ |⟨g,cap,cs,e1,hB,hg,hn,hcm,hcs,_⟩
 ·exact .inl ⟨List.eq_nil_of_length_eq_zero e2,_,_,e1⟩
 ·have hs:=h.2 g (by rw[e1];rfl)
  have h1:=h.1
  subst e1
  refine .inr ⟨g,cap,rfl,hs.1,fun j a ha=>⟨?_,?_,?_⟩⟩
  ·exact own_read h1 ((flat_get (i:=0) ha (by omega)).trans rfl)
  ·exact own_read h1 ((flat_get (i:=1) ha (by omega)).trans rfl)
  ·exact own_read h1 ((flat_get (i:=2) ha (by omega)).trans rfl)
theorem PtL.next {n:Nat} {l:List Nat} {w w':World} {B:Nat} {v:Value} (h:PtL n l w B v) (hb:Below B w w'):PtL n l w' B v:=by
 rcases h with h |⟨g,cap,e,hg,hx⟩
 ·exact .inl h
 ·exact .inr ⟨g,cap,e,hg,fun j a ha=>by
   obtain⟨h0,h1,h2⟩:=hx j a ha
   exact⟨(hb.cell (p:=⟨g,_,none⟩) hg).trans h0,(hb.cell (p:=⟨g,_,none⟩) hg).trans h1,(hb.cell (p:=⟨g,_,none⟩) hg).trans h2⟩⟩
theorem PtL.up {n:Nat} {l:List Nat} {w:World} {B B':Nat} {v:Value} (h:PtL n l w B v) (hB:B≤B'):PtL n l w B' v:=by
 rcases h with h |⟨g,cap,e,hg,hx⟩
 ·exact .inl h
 ·exact .inr ⟨g,cap,e,Nat.lt_of_lt_of_le hg hB,hx⟩
theorem c_level (n:Int) (w:World) (h0:0<n) (hn:n≤120):Calls Tryz.prog 146 #[.int .i64 n] w fun e w'=>e=.returned (.int .i64 0)∧w'=w:=by
 go_enter Tryz.func146,Tryz.ntmps146
 go_wp2
 go_ret
 exact⟨rfl,rfl⟩
theorem c_PList (n:Nat) (w:World) (h0:0<n) (hn:n≤120):
  Calls Tryz.prog 113 #[.int .i64 n] w fun e w'=>(∃ v,e=.returned (.tuple #[v,.int .i64 0])∧OwnPt n (pts n (n*n)) w' w.heap.size v)∧Below w.heap.size w w':=by
 obtain⟨NN,hNN⟩:∃ m,n*n=m:=⟨_,rfl⟩
 have hNl:NN≤14400:=by rw[← hNN];exact Nat.mul_le_mul hn hn
 have hnn:(n:Int)*(n:Int)=(NN:Nat):=by rw[← hNN];push_cast;rfl
 have hmk:=makeB NN (by omega)
 have HNN:=Kh hNN
 rw[hNN]
 clear hNN
 go_enter Tryz.func113,Tryz.ntmps113
 go_wp2_with fail
 refine(c_level n w (by omega) (by omega)).mono ?_
 rintro e w1 ⟨rfl,rfl⟩
 go_wp2_with fail
 go_loopw [5,6] (fun v s wr=>∃ m:Nat,m≤n∧s=.int .i64 ((m:Int)+1)∧OwnN (uns n m) wr w1.heap.size v∧Below w1.heap.size w1 wr) (fun _ s _=>n+1 - (intOf s).toNat)
 case atStart=>exact⟨0,Nat.zero_le _,rfl,OwnN.nil _ _,Below.refl _ _⟩
 case round=>
  obtain⟨m,hm,rfl,hown,hb⟩:=hrel
  obtain⟨w2,rfl⟩:∃ w2:World,w2=wr:=⟨_,rfl⟩
  have HOWN:=Kh hown
  have HB:=Kh hb
  clear hown hb
  by_cases hlt:m<n
  ·have hle:(m:Int)+1≤(n:Int):=by omega
   go_wp2_with fail
   refine(c_gcd ((m:Int)+1) n w2 (by omega) (by omega) (by omega) (by omega)).mono ?_
   rintro e w3 ⟨rfl,k,rfl⟩
   have hgc:Int.gcd ((m:Int)+1) (n:Int)=Nat.gcd (m+1) n:=by
    have:((m:Int)+1)=((m+1:Nat):Int):=by push_cast;rfl
    rw[this];rfl
   rw[hgc]
   have HBD:=Kh (below_drewN' HB.out k)
   have HOD:=Kh (HOWN.out.keep (below_drewN' (Below.refl _ w2) k))
   clear hgc
   by_cases hu:pun n (m+1)=true
   ·have hu2:(((Nat.gcd (m+1) n:Nat):Int)==1)=true:=by unfold pun at hu;simp only[beq_iff_eq]at hu;rw[hu];rfl
    have HU:=Kh hu
    have HLN:=Kh (uns_length n m)
    have HKO:=Kh (show OwnK NotU32 (w2.drewN k) w1.heap.size 3 1 u5 (uns n m).length ((uns n m).map fun n:Nat=>Value.int .i64 (n:Int))from HOD.out)
    clear hu
    go_wp2_with (at_builtin;refine wpl_app2 NotU32 rfl (.tmp 28) (.tmp 30) _ 3 rfl Tryz.underlying94 intInfo rfl (by decide) w1.heap.size (uns n m).length u5 ((uns n m).map fun n:Nat=>Value.int .i64 (n:Int)) [.int .i64 ((m:Int)+1)] rfl HKO.out rfl rfl (by intro u hu;simp at hu;subst hu;rfl) (by have:=HLN.out;omega) (by have:=HLN.out;omega) HBD.out.size (by intro u hu;simp at hu;subst hu;exact fun _ h=>by cases h) (by intro u hu;simp[Value.cells]at hu;subst hu;exact fun _ h=>by cases h) ?_;intro v9 w9 hown9 hgr9 hat9;have HO9:=Kh (show OwnN (uns n m++[m+1]) w9 w1.heap.size v9 from OwnN.push (by rw[show(((m+1:Nat):Int))=(m:Int)+1 by push_cast;rfl];exact hown9));have HB9:=Kh (HBD.out.trans (own_below (Below.refl _ _) HKO.out.1 hgr9 (Nat.le_refl _) HBD.out.size));clear hown9 hgr9 hat9)
    go_roundw
    case rel=>exact⟨m+1,by omega,by go_num,by rw[uns_succ,if_pos HU.out];exact HO9.out,HB9.out⟩
    case measure=>simp[intOf];omega
   ·have hu2:(((Nat.gcd (m+1) n:Nat):Int)==1)=false:=by
     unfold pun at hu
     simp only[beq_iff_eq]at hu
     simp;omega
    have HU:=Kh hu
    clear hu
    go_wp2
    go_roundw
    case rel=>exact⟨m+1,by omega,by go_num,by rw[uns_succ,if_neg HU.out];exact HOD.out,HBD.out⟩
    case measure=>simp[intOf];omega
  ·obtain rfl:n=m:=by omega
   go_wp2_with fail
   obtain⟨gS,hgS⟩:∃ g,w2.heap.size=g:=⟨_,rfl⟩
   have hcr:=CRow.made (z:=.bool false) (fun _ h=>by cases h) w2 NN 4
   obtain⟨wS,hwS⟩:∃ wS,w2.alloc (.cells (madeCells #[.bool false] NN) 4)=wS:=⟨_,rfl⟩
   have hbS:Below w2.heap.size w2 wS:=hwS▸(Below.refl _ _).alloc (Nat.le_refl _) _
   rw[hwS]at hcr ⊢
   obtain⟨pu,cu,hu5⟩:=own_slice (show OwnK NotU32 w2 w1.heap.size 3 1 u5 (uns n n).length _ from HOWN.out).1
   subst hu5
   have hnl:=OwnN.nl HOWN.out
   have HBW:=Kh HB.out.size
   rw[hgS]at hcr hbS hnl HBW ⊢
   have HNL:=Kh hnl
   have HBS:=Kh hbS
   have HCR:=Kh (show CRow (fun i=>.bool (pseen n (pts n 0) i)) wS gS NN from hcr.congr (fun i _=>rfl))
   have HUL:=Kh (uns_length n n)
   clear hcr hbS hnl hwS HOWN hmk
   go_loopw [7,38] (fun v ii wr=>∃ k:Nat,k≤NN∧ii=.int .i64 k∧OwnPt n (pts n k) wr (gS+1) v∧CRow (fun i=>.bool (pseen n (pts n k) i)) wr gS NN∧Below gS wS wr) (fun _ ii _=>NN - (intOf ii).toNat)
   case atStart=>exact⟨0,Nat.zero_le _,rfl,OwnPt.nil _ _ _,HCR.out,Below.refl _ _⟩
   case round=>
    obtain⟨k,hk,rfl,hpt,hcr,hbr⟩:=hrel
    obtain⟨w3,rfl⟩:∃ w3:World,w3=wr:=⟨_,rfl⟩
    have HPT:=Kh hpt
    have HC3:=Kh hcr
    have HB3:=Kh hbr
    clear hpt hbr HCR
    by_cases hkN:k<NN
    ·have hki:(k:Int)<(NN:Int):=by omega
     have hq:(k:Int).tdiv (n:Int)=((k / n:Nat):Int):=by rw[Int.tdiv_eq_ediv_of_nonneg (by omega)];rfl
     have hr:(k:Int).tmod (n:Int)=((k % n:Nat):Int):=by rw[Int.tmod_eq_emod_of_nonneg (by omega)];rfl
     have hdu:k / n<n:=Nat.div_lt_of_lt_mul (by rw[HNN.out];exact hkN)
     have hdv:k % n<n:=Nat.mod_lt _ h0
     obtain⟨u,hu⟩:∃ u,k / n=u:=⟨_,rfl⟩
     obtain⟨v,hv⟩:∃ v,k % n=v:=⟨_,rfl⟩
     rw[hu]at hq hdu
     rw[hv]at hr hdv
     have HU:=Kh hu
     have HV:=Kh hv
     have hni:(n:Int)≠0:=by omega
     have s0:=hcr.val k hkN
     clear hu hv hcr
     go_wp2_with fail
     go_quiet (fail)
     generalize hw4:w3.drewN nq=w4
     have hb4:Below w3.heap.size w3 w4:=hw4▸below_drewN' (Below.refl _ _) nq
     have s4:=cell_next hb4 s0
     have HB4:=Kh (HB3.out.trans (hb4.mono (Nat.le_of_lt HC3.out.stk.1)))
     have HPT4:=Kh (HPT.out.keep hb4)
     have HC4:=Kh (HC3.out.keep hb4)
     clear hw4 hb4 s0 HPT HC3 HB3 hq hr
     cases hs:pseen n (pts n k) k with
     | true=>
      rw[hs]at s4
      have HP:=Kh (show pts n (k+1)=pts n k by rw[pts_succ,hs];simp)
      clear hs
      go_wp2
      go_roundw
      case rel=>exact⟨k+1,by omega,by go_num,by rw[HP.out];exact HPT4.out,by rw[HP.out];exact HC4.out,HB4.out⟩
      case measure=>simp[intOf];omega
     | false=>
      rw[hs]at s4
      have HS:=Kh hs
      clear hs
      go_wp2_with fail
      refine(c_gcd u v w4 (by omega) (by omega) (by omega) (by omega)).mono ?_
      rintro e w5 ⟨rfl,m1,rfl⟩
      have hg1:Int.gcd (u:Int) (v:Int)=Nat.gcd u v:=rfl
      rw[hg1]
      have hgl:Nat.gcd u v≤n+n:=by
       rcases Nat.eq_zero_or_pos u with h|h
       ·subst h;rw[Nat.gcd_zero_left];omega
       ·have:=Nat.gcd_le_left v h;omega
      go_wp2_with fail
      refine(c_gcd ((Nat.gcd u v:Nat):Int) n _ (by omega) (by omega) (by omega) (by omega)).mono ?_
      rintro e w6 ⟨rfl,m2,rfl⟩
      have hg2:Int.gcd ((Nat.gcd u v:Nat):Int) (n:Int)=Nat.gcd (Nat.gcd u v) n:=rfl
      rw[hg2]
      generalize hw5:(w4.drewN m1).drewN m2=w5
      have hb5:Below w4.heap.size w4 w5:=hw5▸below_drewN' (below_drewN' (Below.refl _ _) m1) m2
      have HB5:=Kh (HB4.out.trans (hb5.mono (Nat.le_of_lt HC4.out.stk.1)))
      have HPT5:=Kh (HPT4.out.keep hb5)
      have HC5:=Kh (HC4.out.keep hb5)
      have HPO:=Kh (show pok n k=(Nat.gcd (Nat.gcd u v) n==1)by unfold pok;rw[HU.out,HV.out])
      clear hw5 hb5 s4 HPT4 HC4 HB4 hg1 hg2 hgl
      cases ho:(Nat.gcd (Nat.gcd u v) n==1)with
      | false=>
       have ho2:(((Nat.gcd (Nat.gcd u v) n:Nat):Int) != 1)=true:=by
        simp only[beq_eq_false_iff_ne]at ho
        simp;omega
       have HP:=Kh (show pts n (k+1)=pts n k by rw[pts_succ,HPO.out,ho];simp)
       clear ho
       go_wp2
       go_roundw
       case rel=>exact⟨k+1,by omega,by go_num,by rw[HP.out];exact HPT5.out,by rw[HP.out];exact HC5.out,HB5.out⟩
       case measure=>simp[intOf];omega
      | true=>
       have ho2:(((Nat.gcd (Nat.gcd u v) n:Nat):Int) != 1)=false:=by
        simp only[beq_iff_eq]at ho
        rw[ho];rfl
       have HP:=Kh (show pts n (k+1)=pts n k++[k]by rw[pts_succ,HPO.out,ho,HS.out];rfl)
       have HLN:=Kh (show(pts n k).length≤14400 by
        have h1:(pts n k).length≤k:=pts_length n k
        omega)
       clear ho
       go_wp2_with (at_builtin;refine wpl_app2 NotU32 rfl (.tmp 59) (.tmp 63) _ 170 rfl Tryz.underlying129 ptInfo rfl (by decide) (gS+1) (pts n k).length u7 ((pts n k).flatMap (ptc n)) [.int .i64 (u:Int),.int .i64 (v:Int),.int .i64 1] rfl HPT5.out rfl rfl (by intro u hu;simp at hu;rcases hu with rfl|rfl|rfl <;> rfl) (by have:=HLN.out;omega) (by have:=HLN.out;omega) HC5.out.stk.1 (by intro u hu;simp at hu;rcases hu with rfl|rfl|rfl <;> exact fun _ h=>by cases h) (by intro u hu;simp[Value.cells]at hu;rcases hu with rfl|rfl|rfl <;> exact fun _ h=>by cases h) ?_;intro v9 w9 hown9 hgr9 hat9;have HO9:=Kh (show OwnPt n (pts n k++[k]) w9 (gS+1) v9 from OwnPt.push (by rw[show ptc n k=[.int .i64 (u:Int),.int .i64 (v:Int),.int .i64 1]by unfold ptc;rw[HU.out,HV.out]];exact hown9));have HB9:=Kh (HB5.out.trans ((own_below (Below.refl _ _) HPT5.out.1 hgr9 (Nat.le_refl _) HC5.out.stk.1).mono (Nat.le_succ gS)));have HC9:=Kh (show CRow (fun i=>.bool (flg n (pts n k) k 0 i)) w9 gS NN from(HC5.out.grown hgr9 (fun b hb=>by have:=own_ge HPT5.out.1 hb.symm;omega)).congr (fun i _=>by rw[flg_zero]));clear hown9 hgr9 hat9)
       clear HPT5 HC5 HB5
       go_loopw [67] (fun ii w6=>∃ t:Nat,t≤(uns n n).length∧ii=.int .i64 t∧CRow (fun i=>.bool (flg n (pts n k) k t i)) w6 gS NN∧OwnPt n (pts n k++[k]) w6 (gS+1) v9∧Below gS wS w6) (fun ii _=>(uns n n).length - (intOf ii).toNat)
       case atStart=>exact⟨0,Nat.zero_le _,rfl,HC9.out,HO9.out,HB9.out⟩
       case round=>
        obtain⟨t,ht,rfl,hcr6,hpt6,hb6⟩:=hrel
        obtain⟨w6,rfl⟩:∃ w6:World,w6=wr:=⟨_,rfl⟩
        have HC6:=Kh hcr6
        have HPT6:=Kh hpt6
        have HB6:=Kh hb6
        clear hcr6 hpt6 hb6 HC9 HO9 HB9
        by_cases htl:t<(uns n n).length
        ·have hti:(t:Int)<((uns n n).length:Int):=by omega
         obtain⟨s,hs⟩:∃ s,(uns n n)[t]?=some s:=⟨_,List.getElem?_eq_getElem htl⟩
         have hsm:=uns_mem.1 (List.mem_of_getElem? hs)
         have hs1:=hsm.1
         have hs2:=hsm.2.1
         have HSE:=Kh hs
         rcases HNL.out.next (HBS.out.trans HB6.out)with⟨h0',_⟩ |⟨gU,cap',e,_,_,_,hx⟩
         ·rw[h0']at htl;simp at htl
         cases e
         have c0:=hx t s hs
         obtain⟨SU,hSU⟩:∃ x,s*u=x:=⟨_,rfl⟩
         obtain⟨SW,hSW⟩:∃ x,s*v=x:=⟨_,rfl⟩
         obtain⟨P1,hP1⟩:∃ x,SU % n=x:=⟨_,rfl⟩
         obtain⟨P2,hP2⟩:∃ x,SW % n=x:=⟨_,rfl⟩
         obtain⟨PN,hPN⟩:∃ x,P1*n=x:=⟨_,rfl⟩
         have b1:SU≤14400:=by rw[← hSU];exact Nat.mul_le_mul (by omega:s≤120) (by omega:u≤120)
         have b2:SW≤14400:=by rw[← hSW];exact Nat.mul_le_mul (by omega:s≤120) (by omega:v≤120)
         have b3:P1<n:=hP1▸Nat.mod_lt _ h0
         have b4:P2<n:=hP2▸Nat.mod_lt _ h0
         have b5:PN≤14400:=by rw[← hPN];exact Nat.mul_le_mul (by omega:P1≤120) (by omega:n≤120)
         have e1:(s:Int)*(u:Int)=(SU:Nat):=by rw[← hSU];push_cast;rfl
         have e2:(s:Int)*(v:Int)=(SW:Nat):=by rw[← hSW];push_cast;rfl
         have e3:(SU:Int).tmod (n:Int)=(P1:Nat):=by rw[Int.tmod_eq_emod_of_nonneg (by omega),← hP1];rfl
         have e4:(SW:Int).tmod (n:Int)=(P2:Nat):=by rw[Int.tmod_eq_emod_of_nonneg (by omega),← hP2];rfl
         have e5:(P1:Int)*(n:Int)=(PN:Nat):=by rw[← hPN];push_cast;rfl
         have hpm:PN+P2=pmul n s k:=by unfold pmul;rw[HU.out,HV.out,hSU,hSW,hP1,hP2,hPN]
         obtain⟨IX,hIX⟩:∃ x,PN+P2=x:=⟨_,rfl⟩
         have e6:(PN:Int)+(P2:Int)=(IX:Nat):=by omega
         have hIN:IX<NN:=by rw[← hIX,hpm,← HNN.out];exact pmul_lt h0 s k
         have hINi:(IX:Int)<(NN:Int):=by omega
         have HIX:=Kh (show IX=pmul n s k by rw[← hIX,hpm])
         have d0:=HC6.out.val IX hIN
         have d1:=HC6.out.free IX hIN
         have i0:(0:Int)≤(IX:Int):=by omega
         have v1:IntKind.i64.wrap (SU:Int)=(SU:Nat):=IntWalk.i64_in _ (by omega)
         have v2:IntKind.i64.wrap (SW:Int)=(SW:Nat):=IntWalk.i64_in _ (by omega)
         have v3:IntKind.i64.wrap (PN:Int)=(PN:Nat):=IntWalk.i64_in _ (by omega)
         have v5:IntKind.i64.wrap (P1:Int)=(P1:Nat):=IntWalk.i64_in _ (by omega)
         have v6:IntKind.i64.wrap (P2:Int)=(P2:Nat):=IntWalk.i64_in _ (by omega)
         have z1:((n:Int)==0)=false:=by simpa using hni
         have z2:n≠0:=by omega
         have v4:IntKind.i64.wrap (IX:Int)=(IX:Nat):=IntWalk.i64_in _ (by omega)
         have HCN:=Kh (show CRow (fun i=>.bool (flg n (pts n k) k (t+1) i)) (w6.setCell ⟨gS,IX,none⟩ (.bool true)).drew gS NN from(HC6.out.set IX (.bool true) (fun _ h=>by cases h) (fun i=>.bool (flg n (pts n k) k (t+1) i)) (fun i _=>by rw[flg_succ HSE.out i,← HIX.out];split <;> rfl)).keep (Below.refl _ _).drew)
         have HPN:=Kh (show OwnPt n (pts n k++[k]) (w6.setCell ⟨gS,IX,none⟩ (.bool true)).drew (gS+1) v9 from OwnPt.keep (OwnK.other HPT6.out (a:=⟨gS,IX,none⟩) (Nat.lt_succ_self gS) (fun _ h=>by cases h)) (Below.refl _ _).drew)
         have HBN:=Kh (show Below gS wS (w6.setCell ⟨gS,IX,none⟩ (.bool true)).drew from(HB6.out.setCell (p:=⟨gS,IX,none⟩) (Nat.le_refl _) _).drew)
         clear hSU hSW hP1 hP2 hPN hpm hIX hs hsm hx
         go_upto_region 21 with(fail)
         go_region_held3 (fun _=>True) (trivial) (fail)
         all_goals go_wp2
         all_goals go_roundw
         all_goals first
          | exact⟨t+1,by omega,by go_num,HCN.out,HPN.out,HBN.out⟩
          |(simp[intOf];omega)
        ·obtain rfl:(uns n n).length=t:=by omega
         have HCE:=Kh (show CRow (fun i=>.bool (pseen n (pts n k++[k]) i)) w6 gS NN from HC6.out.congr (fun i _=>by rw[flg_all]))
         go_wp2
         go_roundw
         case rel=>exact⟨k+1,by omega,by go_num,by rw[HP.out];exact HPT6.out,by rw[HP.out];exact HCE.out,HB6.out⟩
         case measure=>simp[intOf];omega
    ·obtain rfl:NN=k:=by omega
     have HFP:=Kh (show OwnPt n (pts n NN) w3 w1.heap.size u7 from by
      obtain⟨⟨e0,h1⟩,h2⟩:=HPT.out
      refine⟨⟨e0,?_⟩,h2⟩
      rcases h1 with h1 |⟨g,cap,cs,e1,hg,rest⟩
      ·exact .inl h1
      ·exact .inr ⟨g,cap,cs,e1,by have:=HBW.out;omega,rest⟩)
     have HFB:=Kh (HB.out.trans ((HBS.out.trans HB3.out).mono HBW.out))
     clear hcr
     go_wp2
     (first|go_ret2|go_ret)
     exact⟨⟨_,rfl,HFP.out⟩,HFB.out⟩
end Go.Proofs.YtijgdhijdfgpfaaGreatDoor
