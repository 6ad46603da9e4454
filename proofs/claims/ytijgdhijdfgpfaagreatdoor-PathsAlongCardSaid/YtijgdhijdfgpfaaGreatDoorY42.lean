/- The law's first test: the document's example. -/
import Derived.Test.YtijgdhijdfgpfaaGreatDoorY13
import Derived.Test.YtijgdhijdfgpfaaGreatDoorY41
import Derived.Test.YtijgdhijdfgpfaaGreatDoorY32
import Derived.Test.YtijgdhijdfgpfaaGreatDoorY18
import Derived.Test.YtijgdhijdfgpfaaGreatDoorY31
import Derived.Deep.Upon
set_option linter.unusedSimpArgs false
set_option maxRecDepth 100000
set_option maxHeartbeats 8000000
namespace Go.Proofs.YtijgdhijdfgpfaaGreatDoor
open Go.RowKit Eli
theorem aw_crd2:crd (elF 1 2 1) (cntF 1 2) (cntF 1 2) 2 2=1:=by decide +kernel
theorem aw_cusp:(appV 1 1 0 1 0 1).1=(1,1)∧(appV 1 1 0 1 1 0).1=(1,0)∧trE 1 1 0 1 0 1 1 0=0:=by decide +kernel
theorem c_Qs_new (l:List Int) (hl:∀ a,a∈l→-2147483648≤a∧a≤2147483648) (h0:0<l.length∧l.length≤1000) (W:World):
  Calls Tryz.prog 30 #[.slice (some ⟨W.heap.size,0,none⟩) l.length l.length] (W.alloc (.cells (l.map (Value.int .i64)).toArray 3)) fun e w'=>(∃ g c,e=.returned (.slice (some ⟨g,0,none⟩) l.length c)∧QL (fun j=>IsQ ((l.getD j 0:Int):Rat)) w' (.slice (some ⟨g,0,none⟩) l.length c) l.length)∧Below W.heap.size W w':=by
 have hb:Below W.heap.size W (W.alloc (.cells (l.map (Value.int .i64)).toArray 3)):=(Below.refl _ _).alloc (Nat.le_refl _) _
 have X:=Blk.new W 3 (l.map (Value.int .i64)).toArray
 refine(c_Qs W.heap.size l.length l.length (fun j=>l.getD j 0) _ X.lt (fun j hj=>?_) (fun j hj=>?_) (by omega)).mono ?_
 ·rw[X.cell_ j]
  simp[List.getElem?_map,List.getD_eq_getElem?_getD,List.getElem?_eq_getElem hj]
 ·refine hl _ ?_
  rw[List.getD_eq_getElem?_getD,List.getElem?_eq_getElem hj]
  exact List.getElem_mem hj
 ·rintro e w' ⟨⟨v,rfl,hq⟩,hb2⟩
  obtain⟨g,c,rfl⟩:∃ g c,v=.slice (some ⟨g,0,none⟩) l.length c:=by
   rcases hq.row with⟨h,_⟩ |⟨g,cap,e,_⟩
   ·omega
   ·exact⟨_,_,e⟩
  exact⟨⟨g,c,rfl,hq.ql⟩,hb.trans (hb2.mono hb.size)⟩
theorem QL.chg {F G:Nat→FP} {w:World} {v:Value} {n:Nat} (h:QL F w v n) (e:∀ j,j<n→∀ s p k c t q m d,F j w s p k c t q m d→G j w s p k c t q m d):QL G w v n:=by
 rcases h with h |⟨g,o,cap,ev,hg,hq⟩
 ·exact .inl h
 ·refine .inr ⟨g,o,cap,ev,hg,fun j hj=>?_⟩
  obtain⟨s,p,n,c,t,q,m,d,e0,e1,e2,e3,h⟩:=hq j hj
  exact⟨s,p,n,c,t,q,m,d,e0,e1,e2,e3,e j hj _ _ _ _ _ _ _ _ h⟩
theorem IsQ.isR {r:Int} {w:World} {s:Bool} {p:Option Addr} {n c:Nat} {t:Bool} {q:Option Addr} {m d:Nat} (h:IsQ (r:Rat) w s p n c t q m d) (hr:nd r.natAbs≤4):IsR r 1 w s p n c t q m d:=by
 obtain⟨h1,h2⟩:=h
 rw[Rat.num_intCast]at h1
 rw[Rat.den_intCast]at h2
 exact⟨h1.raw,h2.raw,by rw[← h1.2.1];exact hr,by rw[← h2.2.1];decide⟩
def exQ (j:Nat):Int:=if j=2 then 1 else 0
theorem ex_mv2:∀ j,j<3→mv 2 1 (-1) (-0) 1 2 j=[1,-2,1].getD j 0:=by decide +kernel
theorem ex_sub2 (j:Nat) (hj:j<3):subst (fun i=>Rat.divInt (exQ i) 1) (3 - 1) 1 (-1) (-0) 1 3 j=((([1,-2,1]:List Int).getD j 0:Int):Rat):=by
 unfold subst
 rw[sumQ_single (show 2<3 by omega) (fun k hk hne=>by
  have:exQ k=0:=if_neg hne
  dsimp only
  rw[this,show Rat.divInt 0 1=0 by decide +kernel];exact Rat.zero_mul _),ex_mv2 j hj]
 have:exQ 2=1:=rfl
 dsimp only
 rw[this,show Rat.divInt 1 1=1 by decide +kernel]
 exact Rat.one_mul _
theorem c_awake42 (w:World) (hT:Tab w):
  Calls Tryz.prog 8 #[] w fun e w'=>e=.returned (.bool true)∧Below w.heap.size w w':=by
 have HNW:=Kh (show ∀ W,Below w.heap.size w W→Calls Tryz.prog 16 #[.agg #[.int .i64 1,.int .i64 4,.int .i64 1]] W fun e w'=>(∃ M,e=.returned (.tuple #[.pointer (some ⟨M,0,none⟩),.int .i64 0])∧W.heap.size≤M∧ModAt w' M w'.heap.size 1 4 1 [2] 3 (crd (elF 1 2 1) 3 3))∧Below W.heap.size W w' from fun W hb=>by
  have h:=c_New 1 2 1 W (hT.below hb) aw_check (by rw[aw_cnt];omega)
  rw[aw_frs,aw_cnt]at h
  exact h)
 have HXS:=Kh (show ∀ j f,j<3→f∈[2]→hq (crd (elF 1 2 1) 3 3 j f)≤10000 from fun j f hj hf=>by
  have h:=coord_size (n:=1) (wt:=2) (D:=1) (by omega) (by rw[aw_cnt];omega) (j:=j) (f:=f) (by rw[aw_cnt];exact hj) (by rw[aw_frs];exact hf)
  rw[aw_cnt]at h
  omega)
 obtain⟨X,hX⟩:∃ X,crd (elF 1 2 1) 3 3=X:=⟨_,rfl⟩
 have HX:=Kh (show X 2 2=1 by have h:=aw_crd2;rw[aw_cnt,hX]at h;exact h)
 rw[hX]at HNW HXS
 have HT:=Kh hT
 have HQN:=Kh c_Qs_new
 clear hT hX
 go_enter Tryz.func8,Tryz.ntmps8
 go_wp2_with fail
 refine(HNW.out w (Below.refl _ w)).mono ?_
 rintro e w1 ⟨⟨M,rfl,hM,hmod⟩,hb1⟩
 have HM1:=Kh hmod
 have HB1:=Kh hb1
 clear hM hmod hb1 HNW
 go_wp2_with fail
 refine(HQN.out [0,0,1] (by intro a ha;simp at ha;omega) (by decide) w1).mono ?_
 rintro e w2 ⟨⟨gv,cv,rfl,hq2⟩,hb2⟩
 have HQ2:=Kh (show QL (fun j=>IsR (exQ j) 1) w2 (.slice (some ⟨gv,0,none⟩) 3 cv) 3 from QL.chg hq2 (fun j hj s p k c t q m d h=>by
  have e:([0,0,1]:List Int).getD j 0=exQ j:=by
   rcases(show j=0∨j=1∨j=2 by have:j<3:=hj;omega)with rfl|rfl|rfl <;> rfl
  rw[e]at h
  exact h.isR (by unfold exQ;split <;> decide)))
 have HM2:=Kh (HM1.out.keep (Nat.le_refl _) hb2)
 have HB2:=bt HB1 hb2
 have HS2:=Kh hb2.size
 clear hq2 hb2 HM1 HB1
 go_wp2_with fail
 obtain⟨w3,hw3,X3,hb3⟩:=bx1 w2 #[.slice (some ⟨gv,0,none⟩) 3 cv,.int .i64 0,.int .i64 1,.int .i64 1,.int .i64 0] 26
 rw[hw3]
 have HQ3:=Kh (HQ2.out.keep (fun _=>IsR.solid _ _) hb3)
 have HM3:=Kh (HM2.out.keep HS2.out hb3)
 have HB3:=bt HB2 hb3
 have HS3:=Kh (Nat.le_trans HS2.out hb3.size)
 obtain⟨g3,hg3⟩:∃ x,w2.heap.size=x:=⟨_,rfl⟩
 rw[hg3]at X3 ⊢
 have HX3:=Kh X3
 clear hw3 X3 hb3 hg3 HQ2 HM2 HB2 HS2
 refine(c_Coord01 M w1.heap.size X gv cv exQ (fun _=>1) w3 (HT.out.below HB3.out) HM3.out HS3.out HXS.out HQ3.out (by decide +kernel) (by decide +kernel) (by decide +kernel) HX.out).mono ?_
 rintro e w4 ⟨⟨gr,rfl,hrow⟩,hb4⟩
 have HR4:=Kh hrow
 have HQ4:=Kh (HQ3.out.keep (fun _=>IsR.solid _ _) hb4)
 have HB4:=bt HB3 hb4
 have HX4:=Kh (bk HX3 hb4)
 clear hrow hb4 HQ3 HM3 HB3 HS3 HX3 HX HXS HT
 have x0:=HX4.out.at_ 0 rfl
 have x1:=HX4.out.at_ 1 rfl
 have x2:=HX4.out.at_ 2 rfl
 have x3:=HX4.out.at_ 3 rfl
 have x4:=HX4.out.at_ 4 rfl
 go_wp2_with fail
 refine(c_Translate (.slice (some ⟨gv,0,none⟩) 3 cv) 3 exQ (fun _=>1) 0 1 1 0 1 1 0 1 w4 HQ4.out (by omega) (by omega) (by omega) (by omega) (by omega) (by omega) (by omega) (by omega) (by omega) (by omega) (by decide) (by omega) (by omega) (by omega) (by omega) (by omega) (by omega) (by omega) (by omega)).mono ?_
 rintro e w5 ⟨hret,hb5⟩
 rcases hret with⟨h,_⟩ |⟨_,gt,ct,rfl,_,hrt⟩
 ·exact absurd aw_cusp.2.2 h
 rw[aw_cusp.1,aw_cusp.2.1]
 have HR5:=Kh (HR4.out.keep (fun _=>IsQ.solid _) hb5)
 have HT5:=Kh (show QRow (fun j=>IsQ ((([1,-2,1]:List Int).getD j 0:Int):Rat)) w5 gt 3 3 from QRow.congr hrt (fun j hj=>by rw[ex_sub2 j hj]))
 have HB5:=bt HB4 hb5
 clear hrt hb5 x0 x1 x2 x3 x4 HR4 HQ4 HB4 HX4
 go_upto_region 7 with(fail)
 obtain⟨w6,hw6,X6,hb6⟩:=bx1 w5 #[.slice (some ⟨gt,0,none⟩) 3 ct,.int .i64 1,.int .i64 1,.int .i64 1,.int .i64 0] 26
 rw[hw6]
 obtain⟨g6,hg6⟩:∃ x,w5.heap.size=x:=⟨_,rfl⟩
 rw[hg6]at X6 ⊢
 have x0:=X6.at_ 0 rfl
 have x1:=X6.at_ 1 rfl
 have x2:=X6.at_ 2 rfl
 have x3:=X6.at_ 3 rfl
 have x4:=X6.at_ 4 rfl
 have HB6:=bt HB5 hb6
 have HR6:=Kh (HR5.out.keep (fun _=>IsQ.solid _) hb6)
 have HT6:=Kh (HT5.out.keep (fun _=>IsQ.solid _) hb6)
 have HS1:=Kh (fun W p c (hb:Below w6.heap.size w6 W) (hq:QL (fun j=>IsQ ((([1]:List Int).getD j 0:Int):Rat)) W (.slice p 1 c) 1)=>c_SameRats_eq (.slice (some ⟨gr,0,none⟩) 1 1) (.slice p 1 c) 1 (fun _=>1) W ((HR6.out.keep (fun _=>IsQ.solid _) hb).ql 1) (hq.chg (fun j hj s p k c t q m d h=>by
  obtain rfl:j=0:=by omega
  exact h)) (by omega) (fun _ _=>by rw[hq_one];omega))
 have HS2:=Kh (fun W p c (hb:Below w6.heap.size w6 W) (hq:QL (fun j=>IsQ ((([1,-2,1]:List Int).getD j 0:Int):Rat)) W (.slice p 3 c) 3)=>c_SameRats_eq (.slice (some ⟨gt,0,none⟩) 3 ct) (.slice p 3 c) 3 (fun j=>((([1,-2,1]:List Int).getD j 0:Int):Rat)) W ((HT6.out.keep (fun _=>IsQ.solid _) hb).ql ct) hq (by omega) (fun j hj=>by
  rw[hq_int]
  rcases(show j=0∨j=1∨j=2 by omega)with rfl|rfl|rfl <;> decide))
 clear hw6 X6 hb6 hg6 HR5 HT5 HB5
 refine rgB (fun W=>W.cell? ⟨g6,0,none⟩=some (.slice (some ⟨gt,0,none⟩) 3 ct)∧W.cell? ⟨g6,1,none⟩=some (.int .i64 1)∧W.cell? ⟨g6,2,none⟩=some (.int .i64 1)∧W.cell? ⟨g6,3,none⟩=some (.int .i64 1)∧W.cell? ⟨g6,4,none⟩=some (.int .i64 0)) (fun W hb=>⟨cnx hb x0,cnx hb x1,cnx hb x2,cnx hb x3,cnx hb x4⟩) (fun HSE hHeld0=>?_)
 refine tkE 0 ?_;refine tkE 1 ?_;refine tkE 2 ?_;refine tkE 3 ?_;refine tkE 4 ?_;refine tkE 5 ?_;refine tkE 6 ?_;refine tkE 7 ?_
 refine stE 8 rfl (fun K hK=>?_)
 focus(go_simp;refine hK.out _ _ ?_ (fun hHeld1=>?_))
 focus((try dsimp only);exact HSE.out _ ((Below.refl _ w6).drew.alloc (Nat.le_refl _) _))
 focus(clear hK K;(try simp only[Act.put,lsa,lsz,lss]))
 refine stE 9 rfl (fun K hK=>?_)
 focus(go_simp;refine(HQN.out [1] (by intro a ha;simp at ha;omega) (by decide) w6.drew).mono ?_;rintro e w7 ⟨⟨p7,c7,rfl,hq7⟩,hb7⟩;have HB7:=Kh ((Below.refl _ w6).drew.trans hb7:Below w6.heap.size w6 w7);have HQ7:=Kh hq7;clear hq7 hb7;(first|with_reducible refine hK.out _ _ ?_ (fun hHeld2=>?_) |(go_wp2_with fail;with_reducible refine hK.out _ _ ?_ (fun hHeld2=>?_))))
 focus((try dsimp only);exact HSE.out _ HB7.out)
 focus(clear hK K;(try simp only[Act.put,lsa,lsz,lss]))
 refine stE 10 rfl (fun K hK=>?_)
 focus(go_simp;refine(HS1.out _ _ _ HB7.out HQ7.out).mono ?_;rintro e w8 ⟨rfl,hb8⟩;have HB8:=bt HB7 hb8;clear hb8;(first|with_reducible refine hK.out _ _ ?_ (fun hHeld3=>?_) |(go_wp2_with fail;with_reducible refine hK.out _ _ ?_ (fun hHeld3=>?_))))
 focus((try dsimp only);exact HSE.out _ HB8.out)
 focus(clear hK K;(try simp only[Act.put,lsa,lsz,lss]))
 refine tkE 11 ?_;refine tkE 12 ?_;refine tkE 13 ?_;refine tkE 14 ?_
 refine stE 15 rfl (fun K hK=>?_)
 focus(go_simp;refine hK.out _ _ ?_ (fun hHeld4=>?_))
 focus((try dsimp only);exact HSE.out _ (HB8.out.alloc HB8.out.size _))
 focus(clear hK K;(try simp only[Act.put,lsa,lsz,lss]))
 refine stE 16 rfl (fun K hK=>?_)
 focus(go_simp;refine(HQN.out [1,-2,1] (by intro a ha;simp at ha;omega) (by decide) _).mono ?_;rintro e w9 ⟨⟨p9,c9,rfl,hq9⟩,hb9⟩;have HB9:=bt HB8 hb9;have HQ9:=Kh hq9;clear hq9 hb9;(first|with_reducible refine hK.out _ _ ?_ (fun hHeld5=>?_) |(go_wp2_with fail;with_reducible refine hK.out _ _ ?_ (fun hHeld5=>?_))))
 focus((try dsimp only);exact HSE.out _ HB9.out)
 focus(clear hK K;(try simp only[Act.put,lsa,lsz,lss]))
 refine stE 17 rfl (fun K hK=>?_)
 focus(go_simp;refine(HS2.out _ _ _ HB9.out HQ9.out).mono ?_;rintro e wf ⟨rfl,hbf⟩;have HBF:=bt HB9 hbf;clear hbf;(first|with_reducible refine hK.out _ _ ?_ (fun hHeld6=>?_) |(go_wp2_with fail;with_reducible refine hK.out _ _ ?_ (fun hHeld6=>?_))))
 focus((try dsimp only);exact HSE.out _ HBF.out)
 focus(clear hK K;(try simp only[Act.put,lsa,lsz,lss]))
 refine tkE 18 ?_;refine tkE 19 ?_;refine tkE 20 ?_;refine tkE 21 ?_;refine tkE 22 ?_;refine tkE 23 ?_;refine tkE 24 ?_;refine tkE 25 ?_;refine tkE 26 ?_;refine tkE 27 ?_;refine tkE 28 ?_;refine tkE 29 ?_;refine tkE 30 ?_
 refine laE 31 rfl (fun K hK=>?_)
 go_simp
 refine hK.out _ _ ?_
 clear hK K
 (try simp only[Act.put,lsa,lsz,lss])
 have HB9:=Kh (HB6.out.trans (HBF.out.mono HB6.out.size))
 go_wp2
 go_ret
 exact⟨rfl,HB9.out⟩
end Go.Proofs.YtijgdhijdfgpfaaGreatDoor
namespace Go.Proofs.YtijgdhijdfgpfaaGreatDoor
open Go.RowKit
def OwnI (l:List Int) (w:World) (B:Nat) (v:Value):Prop:=OwnK NotU32 w B 3 1 v l.length (l.map (Value.int .i64))
def cusps (l:List (Int×Int)):List Value:=l.flatMap fun c=>[.int .i64 c.1,.int .i64 c.2]
def OwnC (l:List (Int×Int)) (w:World) (B:Nat) (v:Value):Prop:=OwnK NotU32 w B 24 2 v l.length (cusps l)
theorem OwnI.push {l:List Int} {w':World} {B:Nat} {v':Value} {a:Int} (h:OwnK NotU32 w' B 3 1 v' (l.length+1) (l.map (Value.int .i64)++[.int .i64 a])):OwnI (l++[a]) w' B v':=by
 unfold OwnI
 rw[List.length_append,List.map_append]
 exact h
theorem OwnC.push {l:List (Int×Int)} {w':World} {B:Nat} {v':Value} {a:Int×Int} (h:OwnK NotU32 w' B 24 2 v' (l.length+1) (cusps l++[.int .i64 a.1,.int .i64 a.2])):OwnC (l++[a]) w' B v':=by
 unfold OwnC cusps at *
 rw[List.length_append,List.flatMap_append]
 exact h
theorem cusps_get:∀ (l:List (Int×Int)) (j:Nat) (c:Int×Int),l[j]?=some c→(cusps l)[j*2]?=some (.int .i64 c.1)∧(cusps l)[j*2+1]?=some (.int .i64 c.2)
 | [],j,c,h=>by simp at h
 | x :: l,0,c,h=>by simp at h;subst h;exact⟨rfl,rfl⟩
 | x :: l,j+1,c,h=>by
  have h1:=cusps_get l j c (by simpa using h)
  have e1:(j+1)*2=j*2+1+1:=by omega
  unfold cusps at *
  rw[List.flatMap_cons,e1]
  exact h1
theorem cusps_length:∀ l:List (Int×Int),(cusps l).length=l.length*2
 | []=>rfl
 | x :: l=>by
  have h1:=cusps_length l
  unfold cusps at *
  rw[List.flatMap_cons,List.length_append,h1,List.length_cons]
  show 2+l.length*2=(l.length+1)*2
  omega
theorem c_Expand (p q:Int) (w:World) (h:cuspE p q=0) (hq0:q≠0):
  Calls Tryz.prog 122 #[.agg #[.int .i64 p,.int .i64 q]] w fun e w'=>(∃ v,e=.returned (.tuple #[v,.int .i64 0])∧OwnI (cfW p q) w' w.heap.size v)∧Below w.heap.size w w':=by
 obtain⟨⟨p1,p2⟩,⟨q1,q2⟩,_,_⟩:=cusp_ok (x:=(p,q)) h
 dsimp only at p1 p2 q1 q2
 have HCC:=Kh (fun w1=>c_CheckCusp p q w1 (by omega) (by omega) (by omega) (by omega))
 rw[h]at HCC
 obtain⟨L,hL⟩:∃ L,cfW p q=L:=⟨_,rfl⟩
 have HL:=Kh hL
 have HLN:=Kh (show L.length≤61 from hL▸(cf_ok (x:=(p,q)) h hq0).1.1)
 rw[hL]
 have HPQ:=Kh (show(-1073741824≤p∧p≤1073741824)∧0<q∧q≤1073741824 by omega)
 have HN:=Kh (OwnK.nil NotU32 w w.heap.size 3 1)
 clear h hL p1 p2 q1 q2
 have hqb:(q==0)=false:=by rw[beq_eq_false_iff_ne];exact hq0
 go_enter Tryz.func122,Tryz.ntmps122
 go_wp2_with fail
 obtain⟨w0,hw0,X0,hb0⟩:=bx1 w #[.int .i64 p,.int .i64 q] 24
 rw[hw0]
 refine(HCC.out w0).mono ?_
 rintro e w1 ⟨rfl,hb1⟩
 have X1:=X0.below_ hb1 X0.lt
 have x0:=X1.at_ 0 rfl
 have x1:=X1.at_ 1 rfl
 have HB1:=Kh (hb0.trans (hb1.mono hb0.size))
 clear hw0 X0 hb0 hb1 X1
 go_upto_region 7 with(fail)
 go_quiet (fail)
 have HB2:=Kh (show Below w.heap.size w (w1.drewN nq)from below_drewN' HB1.out nq)
 generalize w1.drewN nq=w2 at HB2 ⊢
 have HN2:=Kh (show OwnI [] w2 w.heap.size (.slice none 0 0)from OwnK.nil NotU32 w2 w.heap.size 3 1)
 clear x0 x1 HB1 HN hq0 hqb
 go_wp2_with fail
 go_loopw [5,6,7] (fun vl vp vq wr=>∃ (xs:List Int) (P Q:Int),vp=.int .i64 P∧vq=.int .i64 Q∧OwnI xs wr w.heap.size vl∧Below w.heap.size w wr∧Hid (xs++cfW P Q=L∧(-1073741824≤P∧P≤1073741824)∧0≤Q∧Q≤1073741824)) (fun _ _ q _=>(intOf q).toNat)
 case atStart=>exact⟨[],p,q,rfl,rfl,HN2.out,HB2.out,Kh ⟨HL.out,HPQ.out.1,by have:=HPQ.out;omega⟩⟩
 case round=>
  obtain⟨xs,P,Q,rfl,rfl,hown,hbw,HI⟩:=hrel
  obtain⟨wi,rfl⟩:∃ wi:World,wi=wr:=⟨_,rfl⟩
  have HO:=Kh hown
  have HB:=Kh hbw
  have hsz:=HB.out.size
  clear hown hbw HN2 HB2
  by_cases hQ:Q=0
  ·have HF:=Kh (show OwnI L wi w.heap.size u5 by
    have h1:=HI.out.1
    rw[hQ,cfW_zero,List.append_nil]at h1
    rw[← h1];exact HO.out)
   subst hQ
   clear HI hsz HO
   go_wp2
   (first|go_ret2|go_ret)
   exact⟨⟨_,rfl,HF.out⟩,HB.out⟩
  ·have hQp:0<Q:=by have:=HI.out;omega
   have hL1:=HI.out.1
   rw[cfW_pos hQp]at hL1
   have hd1:=Int.emod_nonneg P hQ
   have hd2:=Int.emod_lt_of_pos P hQp
   have hdm:=Int.mul_ediv_add_emod P Q
   obtain⟨R,hR⟩:∃ R,P % Q=R:=⟨_,rfl⟩
   obtain⟨N,hN⟩:∃ N,P / Q=N:=⟨_,rfl⟩
   rw[hR]at hd1 hd2 hdm hL1
   rw[hN]at hdm hL1
   have HL2:=Kh (show(xs++[N])++cfW Q R=L by rw[← hL1];simp)
   have hxl:xs.length+1≤61:=by
    have h1:=HLN.out
    rw[← hL1]at h1
    simp at h1
    omega
   have HXL:=Kh hxl
   have HRQ:=Kh (show 0≤R∧R<Q from⟨hd1,hd2⟩)
   obtain⟨T,hT⟩:∃ T,P.tmod Q=T:=⟨_,rfl⟩
   have hTR:(if T<0 then T+Q else T)=R:=by
    rw[← hT,← hR]
    have h1:=Int.tmod_eq_emod (a:=P) (b:=Q)
    have h4:=Int.emod_lt_of_pos P hQp
    have h5:=Int.emod_nonneg P hQ
    split at h1 <;> split <;> omega
   have hT1:-1073741824≤T∧T≤1073741824:=by have:=HI.out;split at hTR <;> omega
   have hq2:(P - R).tdiv Q=N:=by
    rw[← hdm,Int.add_sub_cancel]
    exact Int.mul_tdiv_cancel_left N hQ
   have hPR:-2147483648≤P - R∧P - R≤2147483648:=by have:=HI.out;omega
   have hNb:-2147483648≤N∧N≤2147483648:=by
    have h1:=HI.out
    constructor
    ·rcases Int.lt_or_le N (-2147483648)with h|h
     ·have:=Int.mul_le_mul_of_nonneg_left (show N≤-2147483649 by omega) (show 0≤Q by omega)
      omega
     ·exact h
    ·rcases Int.lt_or_le 2147483648 N with h|h
     ·have:=Int.mul_le_mul_of_nonneg_left (show 2147483649≤N by omega) (show 0≤Q by omega)
      omega
     ·exact h
   have wr1:IntKind.i64.wrap R=R:=IntWalk.i64_in _ (by have:=HI.out;omega)
   have wr2:IntKind.i64.wrap (P - R)=P - R:=IntWalk.i64_in _ (by omega)
   have wr3:IntKind.i64.wrap N=N:=IntWalk.i64_in _ (by omega)
   clear hd1 hd2 hdm hL1 hxl hN hR hQp
   by_cases hT0:T<0
   ·rw[if_pos hT0]at hTR
    go_wp2_with (at_builtin;refine wpl_app2 NotU32 rfl (.tmp 31) (.tmp 37) _ 3 rfl Tryz.underlying94 intInfo rfl (by decide) w.heap.size xs.length u5 (xs.map (Value.int .i64)) [.int .i64 N] rfl HO.out rfl rfl (one_one N) (by have:=HXL.out;omega) (by have:=HXL.out;omega) hsz (one_i64 N) nz_int ?_;intro v3 w3 hown3 hgr3 hat3;have HO3:=Kh (OwnI.push hown3);have HB3:=Kh (own_below HB.out HO.out.1 hgr3 (Nat.le_refl _) hsz);clear hown3 hgr3 hat3)
    go_roundw
    case rel=>exact⟨xs++[N],Q,R,rfl,rfl,HO3.out,HB3.out,Kh ⟨HL2.out,by have:=HI.out;omega,by have:=HI.out;have:=HRQ.out;omega⟩⟩
    case measure=>have:=HRQ.out;simp[intOf];omega
   ·rw[if_neg hT0]at hTR
    obtain rfl:R=T:=hTR.symm
    go_wp2_with (at_builtin;refine wpl_app2 NotU32 rfl (.tmp 31) (.tmp 37) _ 3 rfl Tryz.underlying94 intInfo rfl (by decide) w.heap.size xs.length u5 (xs.map (Value.int .i64)) [.int .i64 N] rfl HO.out rfl rfl (one_one N) (by have:=HXL.out;omega) (by have:=HXL.out;omega) hsz (one_i64 N) nz_int ?_;intro v3 w3 hown3 hgr3 hat3;have HO3:=Kh (OwnI.push hown3);have HB3:=Kh (own_below HB.out HO.out.1 hgr3 (Nat.le_refl _) hsz);clear hown3 hgr3 hat3)
    go_roundw
    case rel=>exact⟨xs++[N],Q,R,rfl,rfl,HO3.out,HB3.out,Kh ⟨HL2.out,by have:=HI.out;omega,by have:=HI.out;have:=HRQ.out;omega⟩⟩
    case measure=>have:=HRQ.out;simp[intOf];omega
theorem OwnC.low {l:List (Int×Int)} {w:World} {B B':Nat} {v:Value} (h:OwnC l w B v) (hB:B'≤B):OwnC l w B' v:=⟨h.1.mono hB,h.2⟩
theorem c_Convergents (ns:List Int) (g cap:Nat) (w:World) (h0:0<ns.length) (h64:ns.length≤64) (hg:g<w.heap.size) (hc:∀ (i:Nat) (n:Int),ns[i]?=some n→w.cell? ⟨g,i,none⟩=some (.int .i64 n))
  (hr:∀ (i:Nat) (n:Int),ns[i]?=some n→-1073741824≤n∧n≤1073741824∧(0<i→1≤n)) (hcv:∀ c∈cvL (0,1) (1,0) ns,InC c):
  Calls Tryz.prog 123 #[.slice (some ⟨g,0,none⟩) ns.length cap] w fun e w'=>(∃ v,e=.returned (.tuple #[v,.int .i64 0])∧OwnC (cvL (0,1) (1,0) ns) w' w.heap.size v)∧Below w.heap.size w w':=by
 obtain⟨N,hN⟩:∃ N,ns.length=N:=⟨_,rfl⟩
 have HNL:=Kh hN
 have HC:=Kh (fun W (hb:Below w.heap.size w W) (i:Nat) (n:Int) (hi:ns[i]?=some n)=>(show W.cell? ⟨g,i,none⟩=some (.int .i64 n)from(hb.cell (p:=⟨g,i,none⟩) hg).trans (hc i n hi)))
 have HR:=Kh hr
 have HCV:=Kh hcv
 have HAT:=Kh (show ∀ i,i<N→∃ n,ns[i]?=some n from fun i hi=>⟨_,List.getElem?_eq_getElem (by omega)⟩)
 rw[hN]at h0 h64 ⊢
 have hN1:¬ (N:Int)=0:=by omega
 have hN2:¬ (64:Int)<(N:Int):=by omega
 have HN64:=Kh h64
 clear hc hr hcv hg h64 hN
 go_enter Tryz.func123,Tryz.ntmps123
 go_wp2_with fail
 go_loopw [19] (fun ii wr=>∃ i:Nat,i≤N∧ii=.int .i64 i∧wr=w) (fun ii _=>N - (intOf ii).toNat)
 case atStart=>exact⟨0,Nat.zero_le _,rfl,rfl⟩
 case round=>
  obtain⟨i,hi,rfl,hwr⟩:=hrel
  obtain rfl:w=wr:=hwr.symm
  clear hwr
  by_cases hlt:i<N
  ·obtain⟨n,hn⟩:=HAT.out i hlt
   have hcl:=HC.out w (Below.refl _ w) i n hn
   have hrn:=HR.out i n hn
   have hin:inE n=true:=inE_iff.2 ⟨hrn.1,hrn.2.1⟩
   have hii:(i:Int)<(N:Int):=by omega
   have HPN:=Kh (show 0<i→1≤n from hrn.2.2)
   clear hn hrn
   go_wp2_with fail
   refine(c_inC n w).mono ?_
   rintro e w' ⟨rfl,hw'⟩
   obtain rfl:w=w':=hw'.symm
   rw[hin]
   by_cases hi0:i=0
   ·subst hi0
    go_wp2
    go_roundw
    case rel=>exact⟨0+1,by omega,by go_num,by first|rfl|trivial⟩
    case measure=>simp[intOf];omega
   ·have hi1:(0:Int)<(i:Int):=by omega
    have hi2:0<i:=by omega
    have hn1:¬ n<1:=by have:=HPN.out (by omega);omega
    go_wp2
    go_roundw
    case rel=>exact⟨i+1,by omega,by go_num,by first|rfl|trivial⟩
    case measure=>simp[intOf];omega
  ·obtain rfl:N=i:=by omega
   go_wp2_with fail
   obtain⟨w2,hw2,XA,XB,hb2⟩:=bx2 w #[.int .i64 0,.int .i64 1] 24 #[.int .i64 1,.int .i64 0] 24
   rw[hw2]
   obtain⟨ga,hga⟩:∃ x,w.heap.size=x:=⟨_,rfl⟩
   obtain⟨gb,hgb⟩:∃ x,w.heap.size+1=x:=⟨_,rfl⟩
   have HGA:=Kh hga
   have HGB:=Kh hgb
   rw[hgb]at XB ⊢
   rw[hga]at XA ⊢
   have HA:=Kh XA
   have HBB:=Kh XB
   have HB2:=Kh hb2
   obtain⟨B2,hB2⟩:∃ x,w2.heap.size=x:=⟨_,rfl⟩
   have HBS:=Kh (show ga<B2∧gb<B2∧w.heap.size≤B2 by have h1:=XA.lt;have h2:=XB.lt;have h3:=hb2.size;omega)
   have HS2:=Kh hB2
   clear hw2 XA XB hb2 hga hgb hlt hB2
   go_loopw [6,40] (fun vl ii wr=>∃ (i:Nat) (b l:Int×Int) (out:List (Int×Int)),i≤N∧ii=.int .i64 i∧OwnC out wr B2 vl∧B2≤wr.heap.size∧Blk wr ga 24 #[.int .i64 b.1,.int .i64 b.2]∧Blk wr gb 24 #[.int .i64 l.1,.int .i64 l.2]∧Below w.heap.size w wr∧Hid (out++cvL b l (ns.drop i)=cvL (0,1) (1,0) ns∧out.length=i∧(-1073741824≤b.1∧b.1≤1073741824∧-1073741824≤b.2∧b.2≤1073741824)∧(-1073741824≤l.1∧l.1≤1073741824∧-1073741824≤l.2∧l.2≤1073741824))) (fun _ ii _=>N - (intOf ii).toNat)
   case atStart=>exact⟨0,(0,1),(1,0),[],Nat.zero_le _,rfl,OwnK.nil NotU32 w2 B2 24 2,Nat.le_of_eq HS2.out.symm,HA.out,HBB.out,HB2.out,Kh ⟨rfl,rfl,by decide,by decide⟩⟩
   case round=>
    obtain⟨i,⟨b1,b2⟩,⟨l1,l2⟩,out,hi,rfl,hown,hsz,hA,hBB,hbw,HI⟩:=hrel
    dsimp only at hA hBB HI
    obtain⟨wi,rfl⟩:∃ wi:World,wi=wr:=⟨_,rfl⟩
    have HO:=Kh hown
    have HXA:=Kh hA
    have HXB:=Kh hBB
    have HB:=Kh hbw
    have HSZ:=Kh hsz
    clear hown hA hBB hbw HA HBB HB2 HS2 hsz
    by_cases hlt:i<N
    ·obtain⟨n,hn⟩:=HAT.out i hlt
     have hcl:=HC.out wi HB.out i n hn
     have hrn:=HR.out i n hn
     have hii:(i:Int)<(N:Int):=by omega
     obtain⟨e1,e2,e3,e4⟩:=HI.out
     have hdr:ns.drop i=n :: ns.drop (i+1):=by
      obtain⟨hlt2,e⟩:=List.getElem?_eq_some_iff.1 hn
      rw[List.drop_eq_getElem_cons hlt2,e]
     rw[hdr,cvL]at e1
     dsimp only at e1
     have hmem:InC (n*l1+b1,n*l2+b2):=HCV.out _ (by rw[← e1];exact List.mem_append_right _ (List.mem_cons_self ..))
     obtain⟨m1,m2,m3,m4⟩:=hmem
     dsimp only at m1 m2 m3 m4
     have hp1:-1073741824 - 1073741824≤n*l1∧n*l1≤1073741824+1073741824:=by omega
     have hp2:-1073741824 - 1073741824≤n*l2∧n*l2≤1073741824+1073741824:=by omega
     have wr1:IntKind.i64.wrap (n*l1)=n*l1:=IntWalk.i64_in _ (by omega)
     have wr2:IntKind.i64.wrap (n*l2)=n*l2:=IntWalk.i64_in _ (by omega)
     have wr3:IntKind.i64.wrap (n*l1+b1)=n*l1+b1:=IntWalk.i64_in _ (by omega)
     have wr4:IntKind.i64.wrap (n*l2+b2)=n*l2+b2:=IntWalk.i64_in _ (by omega)
     have HE:=Kh (show(out++[(n*l1+b1,n*l2+b2)])++cvL (l1,l2) (n*l1+b1,n*l2+b2) (ns.drop (i+1))=cvL (0,1) (1,0) ns by rw[← e1];simp)
     have HBD:=Kh (show(out++[(n*l1+b1,n*l2+b2)]).length=i+1∧(-1073741824≤l1∧l1≤1073741824∧-1073741824≤l2∧l2≤1073741824)∧(-1073741824≤n*l1+b1∧n*l1+b1≤1073741824∧-1073741824≤n*l2+b2∧n*l2+b2≤1073741824)from⟨by simp[e2],e4,m1,m2,by omega,m4⟩)
     have HOL:=Kh e2
     have hin1:inE (n*l1+b1)=true:=inE_iff.2 ⟨m1,m2⟩
     have hin2:inE (n*l2+b2)=true:=inE_iff.2 ⟨by omega,m4⟩
     clear e1 e2 e3 e4 hdr m1 m2 m3 m4 hp1 hp2 hrn hn HI
     have a0:=HXA.out.at_ 0 rfl
     have a1:=HXA.out.at_ 1 rfl
     have b0:=HXB.out.at_ 0 rfl
     have b1':=HXB.out.at_ 1 rfl
     have fa0:=HXA.out.free_ 0
     have fa1:=HXA.out.free_ 1
     have fb0:=HXB.out.free_ 0
     have fb1:=HXB.out.free_ 1
     have hab:ga≠gb:=by have:=HGA.out;have:=HGB.out;omega
     go_upto_region 16 with(fail)
     go_region
     have XA:=(HXA.out.set_ 0 (.int .i64 l1)).set_ 1 (.int .i64 l2)
     have hgaw:w.heap.size≤ga:=Nat.le_of_eq HGA.out
     have hgbw:w.heap.size≤gb:=by have:=HGB.out;omega
     have XA2:=((XA.far_ (p:=⟨gb,0,none⟩) hab (.int .i64 (n*l1+b1))).far_ (p:=⟨gb,1,none⟩) hab (.int .i64 (n*l2+b2))).drew_
     have XB2:=((((HXB.out.far_ (p:=⟨ga,0,none⟩) (fun e=>hab e.symm) (.int .i64 l1)).far_ (p:=⟨ga,1,none⟩) (fun e=>hab e.symm) (.int .i64 l2)).set_ 0 (.int .i64 (n*l1+b1))).set_ 1 (.int .i64 (n*l2+b2))).drew_
     obtain⟨ws,hws⟩:∃ ws,((((wi.setCell ⟨ga,0,none⟩ (.int .i64 l1)).setCell ⟨ga,1,none⟩ (.int .i64 l2)).setCell ⟨gb,0,none⟩ (.int .i64 (n*l1+b1))).setCell ⟨gb,1,none⟩ (.int .i64 (n*l2+b2))).drew=ws:=⟨_,rfl⟩
     rw[hws]at XA2 XB2 ⊢
     have HBW:=Kh (show Below w.heap.size w ws from hws▸((((HB.out.setCell (p:=⟨ga,0,none⟩) hgaw _).setCell (p:=⟨ga,1,none⟩) hgaw _).setCell (p:=⟨gb,0,none⟩) hgbw _).setCell (p:=⟨gb,1,none⟩) hgbw _).drew)
     have HOS:=Kh (show OwnC out ws B2 u6 by
      obtain⟨q1,q2,q3⟩:=HBS.out
      rw[← hws]
      have h1:=(((OwnK.other (a:=⟨ga,0,none⟩) HO.out q1 (int_i64 l1)).other (a:=⟨ga,1,none⟩) q1 (int_i64 l2)).other (a:=⟨gb,0,none⟩) q2 (int_i64 (n*l1+b1))).other (a:=⟨gb,1,none⟩) q2 (int_i64 (n*l2+b2))
      exact h1.keep (Below.refl _ _).drew)
     have hsz:B2≤ws.heap.size:=by rw[← hws];simpa using HSZ.out
     have HA2:=Kh XA2
     have HB2:=Kh XB2
     have c0:=XB2.at_ 0 rfl
     have c1:=XB2.at_ 1 rfl
     clear XA XA2 XB2 hws a0 a1 b0 b1' fa0 fa1 fb0 fb1 hab hcl HXA HXB HO HB HSZ wr1 wr2 wr3 wr4 hgaw hgbw
     go_wp2_with fail
     refine(c_inC (n*l1+b1) ws).mono ?_
     rintro e w' ⟨rfl,hw'⟩
     obtain rfl:ws=w':=hw'.symm
     rw[hin1]
     clear hw'
     go_wp2_with fail
     refine(c_inC (n*l2+b2) ws).mono ?_
     rintro e w' ⟨rfl,hw'⟩
     obtain rfl:ws=w':=hw'.symm
     rw[hin2]
     clear hw'
     go_wp2_with (at_builtin;refine wpl_app2 NotU32 rfl (.tmp 70) (.tmp 72) _ 24 rfl Tryz.underlying72 cuspInfo rfl (by decide) B2 out.length u6 (cusps out) [.int .i64 (n*l1+b1),.int .i64 (n*l2+b2)] rfl HOS.out rfl rfl (two_one _ _) (by have:=HOL.out;have:=HN64.out;omega) (by have:=HOL.out;have:=HN64.out;omega) hsz (two_i64 _ _) nz_cusp ?_;intro v3 w3 hown3 hgr3 hat3;have HO3:=Kh (OwnC.push (a:=(n*l1+b1,n*l2+b2)) hown3);have HB3:=Kh (own_below HBW.out HOS.out.1 hgr3 HBS.out.2.2 (Nat.le_trans HBS.out.2.2 hsz));have HA3:=Kh (HA2.out.grown_ hgr3 (fun e=>by have:=own_ge HOS.out.1 e;have:=HBS.out.1;omega));have HXB3:=Kh (HB2.out.grown_ hgr3 (fun e=>by have:=own_ge HOS.out.1 e;have:=HBS.out.2.1;omega));have HS3:=Kh (Nat.le_trans hsz hgr3.size);clear hown3 hgr3 hat3)
     go_roundw
     case rel=>exact⟨i+1,(l1,l2),(n*l1+b1,n*l2+b2),_,by omega,by go_num,HO3.out,HS3.out,HA3.out,HXB3.out,HB3.out,Kh ⟨HE.out,HBD.out⟩⟩
     case measure=>simp[intOf];omega
    ·obtain rfl:N=i:=by omega
     have HF:=Kh (show OwnC (cvL (0,1) (1,0) ns) wi w.heap.size u6 by
      have h1:=HI.out.1
      rw[List.drop_eq_nil_of_le (by have:=HNL.out;omega),cvL,List.append_nil]at h1
      rw[← h1]
      exact HO.out.low HBS.out.2.2)
     clear HI HO hlt HSZ HXA HXB
     go_wp2
     (first|go_ret2|go_ret)
     exact⟨⟨_,rfl,HF.out⟩,HB.out⟩
end Go.Proofs.YtijgdhijdfgpfaaGreatDoor
