/- The law's first test: the document's example. -/
import Derived.Test.YtijgdhijdfgpfaaGreatDoorZ13
import Derived.Test.YtijgdhijdfgpfaaGreatDoorZ38
import Derived.Test.YtijgdhijdfgpfaaGreatDoorZ30
import Derived.Test.YtijgdhijdfgpfaaGreatDoorZ28
import Derived.Test.YtijgdhijdfgpfaaGreatDoorZ07
import Derived.Test.YtijgdhijdfgpfaaGreatDoorZ06
import Derived.Test.YtijgdhijdfgpfaaGreatDoorZ19
import Derived.Test.YtijgdhijdfgpfaaGreatDoorZ22
import Derived.Test.YtijgdhijdfgpfaaGreatDoorZ24
set_option linter.unusedSimpArgs false
set_option maxRecDepth 100000
set_option maxHeartbeats 8000000
namespace Go.Proofs.YtijgdhijdfgpfaaGreatDoor
open Go.RowKit Eli
theorem aw_crd2:crd (elF 1 2 1) (cntF 1 2) (cntF 1 2) 2 2=1:=by decide +kernel
theorem aw_cusp:(appV 1 1 0 1 0 1).1=(1,1)∧(appV 1 1 0 1 1 0).1=(1,0)∧trE 1 1 0 1 0 1 1 0=0:=by decide +kernel
theorem c_Qs_new (l:List Int) (hl:∀ a,a∈l→-2147483648≤a∧a≤2147483648) (h0:0<l.length∧l.length≤1000) (W:World):
  Calls Tryz.prog 30 #[.slice (some ⟨W.heap.size,0,none⟩) l.length l.length] (W.alloc (.cells (l.map (Value.int .i64)).toArray 3)) fun e w'=>(∃ g c,e=.returned (.slice (some ⟨g,0,none⟩) l.length c)∧QL (fun j=>IsQ ((l.getD j 0:Int):Rat)) w' (.slice (some ⟨g,0,none⟩) l.length c) l.length)∧Below W.heap.size W w':=by
 have hb:Below W.heap.size W (W.alloc (.cells (l.map (Value.int .i64)).toArray 3)):=(Below.refl _ _).alloc (Nat.le_refl _) _
 have X:=Blk.new W 3 (l.map (Value.int .i64)).toArray
 refine(c_Qs W.heap.size l.length l.length (fun j=>l.getD j 0) _ X.lt (fun j hj=>?_) (fun j hj=>?_) (by omega)).mono ?_
 ·rw[X.cell_ j]
  simp[List.getElem?_map,List.getD_eq_getElem?_getD,List.getElem?_eq_getElem hj]
 ·refine hl _ ?_
  rw[List.getD_eq_getElem?_getD,List.getElem?_eq_getElem hj]
  exact List.getElem_mem hj
 ·rintro e w' ⟨⟨v,rfl,hq⟩,hb2⟩
  obtain⟨g,c,rfl⟩:∃ g c,v=.slice (some ⟨g,0,none⟩) l.length c:=by
   rcases hq.row with⟨h,_⟩ |⟨g,cap,e,_⟩
   ·omega
   ·exact⟨_,_,e⟩
  exact⟨⟨g,c,rfl,hq.ql⟩,hb.trans (hb2.mono hb.size)⟩
theorem QL.chg {F G:Nat→FP} {w:World} {v:Value} {n:Nat} (h:QL F w v n) (e:∀ j,j<n→∀ s p k c t q m d,F j w s p k c t q m d→G j w s p k c t q m d):QL G w v n:=by
 rcases h with h |⟨g,o,cap,ev,hg,hq⟩
 ·exact .inl h
 ·refine .inr ⟨g,o,cap,ev,hg,fun j hj=>?_⟩
  obtain⟨s,p,n,c,t,q,m,d,e0,e1,e2,e3,h⟩:=hq j hj
  exact⟨s,p,n,c,t,q,m,d,e0,e1,e2,e3,e j hj _ _ _ _ _ _ _ _ h⟩
theorem IsQ.isR {r:Int} {w:World} {s:Bool} {p:Option Addr} {n c:Nat} {t:Bool} {q:Option Addr} {m d:Nat} (h:IsQ (r:Rat) w s p n c t q m d) (hr:nd r.natAbs≤4):IsR r 1 w s p n c t q m d:=by
 obtain⟨h1,h2⟩:=h
 rw[Rat.num_intCast]at h1
 rw[Rat.den_intCast]at h2
 exact⟨h1.raw,h2.raw,by rw[← h1.2.1];exact hr,by rw[← h2.2.1];decide⟩
def exQ (j:Nat):Int:=if j=2 then 1 else 0
theorem ex_mv2:∀ j,j<3→mv 2 1 (-1) (-0) 1 2 j=[1,-2,1].getD j 0:=by decide +kernel
theorem ex_sub2 (j:Nat) (hj:j<3):subst (fun i=>Rat.divInt (exQ i) 1) (3 - 1) 1 (-1) (-0) 1 3 j=((([1,-2,1]:List Int).getD j 0:Int):Rat):=by
 unfold subst
 rw[sumQ_single (show 2<3 by omega) (fun k hk hne=>by
  have:exQ k=0:=if_neg hne
  dsimp only
  rw[this,show Rat.divInt 0 1=0 by decide +kernel];exact Rat.zero_mul _),ex_mv2 j hj]
 have:exQ 2=1:=rfl
 dsimp only
 rw[this,show Rat.divInt 1 1=1 by decide +kernel]
 exact Rat.one_mul _
theorem c_awake42 (w:World) (hT:Tab w):
  Calls Tryz.prog 8 #[] w fun e w'=>e=.returned (.bool true)∧Below w.heap.size w w':=by
 have HNW:=Kh (show ∀ W,Below w.heap.size w W→Calls Tryz.prog 16 #[.agg #[.int .i64 1,.int .i64 4,.int .i64 1]] W fun e w'=>(∃ M,e=.returned (.tuple #[.pointer (some ⟨M,0,none⟩),.int .i64 0])∧W.heap.size≤M∧ModAt w' M w'.heap.size 1 4 1 [2] 3 (crd (elF 1 2 1) 3 3))∧Below W.heap.size W w' from fun W hb=>by
  have h:=c_New 1 2 1 W (hT.below hb) aw_check (by rw[aw_cnt];omega)
  rw[aw_frs,aw_cnt]at h
  exact h)
 have HXS:=Kh (show ∀ j f,j<3→f∈[2]→hq (crd (elF 1 2 1) 3 3 j f)≤10000 from fun j f hj hf=>by
  have h:=coord_size (n:=1) (wt:=2) (D:=1) (by omega) (by rw[aw_cnt];omega) (j:=j) (f:=f) (by rw[aw_cnt];exact hj) (by rw[aw_frs];exact hf)
  rw[aw_cnt]at h
  omega)
 obtain⟨X,hX⟩:∃ X,crd (elF 1 2 1) 3 3=X:=⟨_,rfl⟩
 have HX:=Kh (show X 2 2=1 by have h:=aw_crd2;rw[aw_cnt,hX]at h;exact h)
 rw[hX]at HNW HXS
 have HT:=Kh hT
 have HQN:=Kh c_Qs_new
 clear hT hX
 go_enter Tryz.func8,Tryz.ntmps8
 go_wp2_with fail
 refine(HNW.out w (Below.refl _ w)).mono ?_
 rintro e w1 ⟨⟨M,rfl,hM,hmod⟩,hb1⟩
 have HM1:=Kh hmod
 have HB1:=Kh hb1
 clear hM hmod hb1 HNW
 go_wp2_with fail
 refine(HQN.out [0,0,1] (by intro a ha;simp at ha;omega) (by decide) w1).mono ?_
 rintro e w2 ⟨⟨gv,cv,rfl,hq2⟩,hb2⟩
 have HQ2:=Kh (show QL (fun j=>IsR (exQ j) 1) w2 (.slice (some ⟨gv,0,none⟩) 3 cv) 3 from QL.chg hq2 (fun j hj s p k c t q m d h=>by
  have e:([0,0,1]:List Int).getD j 0=exQ j:=by
   rcases(show j=0∨j=1∨j=2 by have:j<3:=hj;omega)with rfl|rfl|rfl <;> rfl
  rw[e]at h
  exact h.isR (by unfold exQ;split <;> decide)))
 have HM2:=Kh (HM1.out.keep (Nat.le_refl _) hb2)
 have HB2:=bt HB1 hb2
 have HS2:=Kh hb2.size
 clear hq2 hb2 HM1 HB1
 go_wp2_with fail
 obtain⟨w3,hw3,X3,hb3⟩:=bx1 w2 #[.slice (some ⟨gv,0,none⟩) 3 cv,.int .i64 0,.int .i64 1,.int .i64 1,.int .i64 0] 26
 rw[hw3]
 have HQ3:=Kh (HQ2.out.keep (fun _=>IsR.solid _ _) hb3)
 have HM3:=Kh (HM2.out.keep HS2.out hb3)
 have HB3:=bt HB2 hb3
 have HS3:=Kh (Nat.le_trans HS2.out hb3.size)
 obtain⟨g3,hg3⟩:∃ x,w2.heap.size=x:=⟨_,rfl⟩
 rw[hg3]at X3 ⊢
 have HX3:=Kh X3
 clear hw3 X3 hb3 hg3 HQ2 HM2 HB2 HS2
 refine(c_Coord01 M w1.heap.size X gv cv exQ (fun _=>1) w3 (HT.out.below HB3.out) HM3.out HS3.out HXS.out HQ3.out (by decide +kernel) (by decide +kernel) (by decide +kernel) HX.out).mono ?_
 rintro e w4 ⟨⟨gr,rfl,hrow⟩,hb4⟩
 have HR4:=Kh hrow
 have HQ4:=Kh (HQ3.out.keep (fun _=>IsR.solid _ _) hb4)
 have HB4:=bt HB3 hb4
 have HX4:=Kh (bk HX3 hb4)
 clear hrow hb4 HQ3 HM3 HB3 HS3 HX3 HX HXS HT
 have x0:=HX4.out.at_ 0 rfl
 have x1:=HX4.out.at_ 1 rfl
 have x2:=HX4.out.at_ 2 rfl
 have x3:=HX4.out.at_ 3 rfl
 have x4:=HX4.out.at_ 4 rfl
 go_wp2_with fail
 refine(c_Translate (.slice (some ⟨gv,0,none⟩) 3 cv) 3 exQ (fun _=>1) 0 1 1 0 1 1 0 1 w4 HQ4.out (by omega) (by omega) (by omega) (by omega) (by omega) (by omega) (by omega) (by omega) (by omega) (by omega) (by decide) (by omega) (by omega) (by omega) (by omega) (by omega) (by omega) (by omega) (by omega)).mono ?_
 rintro e w5 ⟨hret,hb5⟩
 rcases hret with⟨h,_⟩ |⟨_,gt,ct,rfl,_,hrt⟩
 ·exact absurd aw_cusp.2.2 h
 rw[aw_cusp.1,aw_cusp.2.1]
 have HR5:=Kh (HR4.out.keep (fun _=>IsQ.solid _) hb5)
 have HT5:=Kh (show QRow (fun j=>IsQ ((([1,-2,1]:List Int).getD j 0:Int):Rat)) w5 gt 3 3 from QRow.congr hrt (fun j hj=>by rw[ex_sub2 j hj]))
 have HB5:=bt HB4 hb5
 clear hrt hb5 x0 x1 x2 x3 x4 HR4 HQ4 HB4 HX4
 go_upto_region 7 with(fail)
 obtain⟨w6,hw6,X6,hb6⟩:=bx1 w5 #[.slice (some ⟨gt,0,none⟩) 3 ct,.int .i64 1,.int .i64 1,.int .i64 1,.int .i64 0] 26
 rw[hw6]
 obtain⟨g6,hg6⟩:∃ x,w5.heap.size=x:=⟨_,rfl⟩
 rw[hg6]at X6 ⊢
 have x0:=X6.at_ 0 rfl
 have x1:=X6.at_ 1 rfl
 have x2:=X6.at_ 2 rfl
 have x3:=X6.at_ 3 rfl
 have x4:=X6.at_ 4 rfl
 have HB6:=bt HB5 hb6
 have HR6:=Kh (HR5.out.keep (fun _=>IsQ.solid _) hb6)
 have HT6:=Kh (HT5.out.keep (fun _=>IsQ.solid _) hb6)
 have HS1:=Kh (fun W p c (hb:Below w6.heap.size w6 W) (hq:QL (fun j=>IsQ ((([1]:List Int).getD j 0:Int):Rat)) W (.slice p 1 c) 1)=>c_SameRats_eq (.slice (some ⟨gr,0,none⟩) 1 1) (.slice p 1 c) 1 (fun _=>1) W ((HR6.out.keep (fun _=>IsQ.solid _) hb).ql 1) (hq.chg (fun j hj s p k c t q m d h=>by
  obtain rfl:j=0:=by omega
  exact h)) (by omega) (fun _ _=>by rw[hq_one];omega))
 have HS2:=Kh (fun W p c (hb:Below w6.heap.size w6 W) (hq:QL (fun j=>IsQ ((([1,-2,1]:List Int).getD j 0:Int):Rat)) W (.slice p 3 c) 3)=>c_SameRats_eq (.slice (some ⟨gt,0,none⟩) 3 ct) (.slice p 3 c) 3 (fun j=>((([1,-2,1]:List Int).getD j 0:Int):Rat)) W ((HT6.out.keep (fun _=>IsQ.solid _) hb).ql ct) hq (by omega) (fun j hj=>by
  rw[hq_int]
  rcases(show j=0∨j=1∨j=2 by omega)with rfl|rfl|rfl <;> decide))
 clear hw6 X6 hb6 hg6 HR5 HT5 HB5
 refine rgB (fun W=>W.cell? ⟨g6,0,none⟩=some (.slice (some ⟨gt,0,none⟩) 3 ct)∧W.cell? ⟨g6,1,none⟩=some (.int .i64 1)∧W.cell? ⟨g6,2,none⟩=some (.int .i64 1)∧W.cell? ⟨g6,3,none⟩=some (.int .i64 1)∧W.cell? ⟨g6,4,none⟩=some (.int .i64 0)) (fun W hb=>⟨cnx hb x0,cnx hb x1,cnx hb x2,cnx hb x3,cnx hb x4⟩) (fun HSE hHeld0=>?_)
 refine tkE 0 ?_;refine tkE 1 ?_;refine tkE 2 ?_;refine tkE 3 ?_;refine tkE 4 ?_;refine tkE 5 ?_;refine tkE 6 ?_;refine tkE 7 ?_
 refine stE 8 rfl (fun K hK=>?_)
 focus(go_simp;refine hK.out _ _ ?_ (fun hHeld1=>?_))
 focus((try dsimp only);exact HSE.out _ ((Below.refl _ w6).drew.alloc (Nat.le_refl _) _))
 focus(clear hK K;(try simp only[Act.put,lsa,lsz,lss]))
 refine stE 9 rfl (fun K hK=>?_)
 focus(go_simp;refine(HQN.out [1] (by intro a ha;simp at ha;omega) (by decide) w6.drew).mono ?_;rintro e w7 ⟨⟨p7,c7,rfl,hq7⟩,hb7⟩;have HB7:=Kh ((Below.refl _ w6).drew.trans hb7:Below w6.heap.size w6 w7);have HQ7:=Kh hq7;clear hq7 hb7;(first|with_reducible refine hK.out _ _ ?_ (fun hHeld2=>?_) |(go_wp2_with fail;with_reducible refine hK.out _ _ ?_ (fun hHeld2=>?_))))
 focus((try dsimp only);exact HSE.out _ HB7.out)
 focus(clear hK K;(try simp only[Act.put,lsa,lsz,lss]))
 refine stE 10 rfl (fun K hK=>?_)
 focus(go_simp;refine(HS1.out _ _ _ HB7.out HQ7.out).mono ?_;rintro e w8 ⟨rfl,hb8⟩;have HB8:=bt HB7 hb8;clear hb8;(first|with_reducible refine hK.out _ _ ?_ (fun hHeld3=>?_) |(go_wp2_with fail;with_reducible refine hK.out _ _ ?_ (fun hHeld3=>?_))))
 focus((try dsimp only);exact HSE.out _ HB8.out)
 focus(clear hK K;(try simp only[Act.put,lsa,lsz,lss]))
 refine tkE 11 ?_;refine tkE 12 ?_;refine tkE 13 ?_;refine tkE 14 ?_
 refine stE 15 rfl (fun K hK=>?_)
 focus(go_simp;refine hK.out _ _ ?_ (fun hHeld4=>?_))
 focus((try dsimp only);exact HSE.out _ (HB8.out.alloc HB8.out.size _))
 focus(clear hK K;(try simp only[Act.put,lsa,lsz,lss]))
 refine stE 16 rfl (fun K hK=>?_)
 focus(go_simp;refine(HQN.out [1,-2,1] (by intro a ha;simp at ha;omega) (by decide) _).mono ?_;rintro e w9 ⟨⟨p9,c9,rfl,hq9⟩,hb9⟩;have HB9:=bt HB8 hb9;have HQ9:=Kh hq9;clear hq9 hb9;(first|with_reducible refine hK.out _ _ ?_ (fun hHeld5=>?_) |(go_wp2_with fail;with_reducible refine hK.out _ _ ?_ (fun hHeld5=>?_))))
 focus((try dsimp only);exact HSE.out _ HB9.out)
 focus(clear hK K;(try simp only[Act.put,lsa,lsz,lss]))
 refine stE 17 rfl (fun K hK=>?_)
 focus(go_simp;refine(HS2.out _ _ _ HB9.out HQ9.out).mono ?_;rintro e wf ⟨rfl,hbf⟩;have HBF:=bt HB9 hbf;clear hbf;(first|with_reducible refine hK.out _ _ ?_ (fun hHeld6=>?_) |(go_wp2_with fail;with_reducible refine hK.out _ _ ?_ (fun hHeld6=>?_))))
 focus((try dsimp only);exact HSE.out _ HBF.out)
 focus(clear hK K;(try simp only[Act.put,lsa,lsz,lss]))
 refine tkE 18 ?_;refine tkE 19 ?_;refine tkE 20 ?_;refine tkE 21 ?_;refine tkE 22 ?_;refine tkE 23 ?_;refine tkE 24 ?_;refine tkE 25 ?_;refine tkE 26 ?_;refine tkE 27 ?_;refine tkE 28 ?_;refine tkE 29 ?_;refine tkE 30 ?_
 refine laE 31 rfl (fun K hK=>?_)
 go_simp
 refine hK.out _ _ ?_
 clear hK K
 (try simp only[Act.put,lsa,lsz,lss])
 have HB9:=Kh (HB6.out.trans (HBF.out.mono HB6.out.size))
 go_wp2
 go_ret
 exact⟨rfl,HB9.out⟩
end Go.Proofs.YtijgdhijdfgpfaaGreatDoor
namespace Go.Proofs.YtijgdhijdfgpfaaGreatDoor
theorem plRow_miss {n l:Nat} {c:Int} {L:List Nat} {f:Nat→Nat×Int} {k:Nat}:∀ j,(∀ i,i<j→pmul n l (L.getD i 0)≠k)→plRow n l c L j f k=f k
 | 0,_=>rfl
 | j+1,h=>by
  rw[plRow,tset,if_neg (fun e=>h j (Nat.lt_succ_self _) e.symm)]
  exact plRow_miss j (fun i hi=>h i (by omega))
theorem plRow_hit {n l:Nat} {c:Int} {L:List Nat} {f:Nat→Nat×Int} {k i:Nat} (hk:pmul n l (L.getD i 0)=k):∀ j,i<j→(∀ i',i'<j→pmul n l (L.getD i' 0)=k→i'=i)→plRow n l c L j f k=(i,c)
 | 0,hi,_=>absurd hi (Nat.not_lt_zero _)
 | j+1,hi,h=>by
  rw[plRow,tset]
  by_cases e:k=pmul n l (L.getD j 0)
  ·rw[if_pos e,h j (Nat.lt_succ_self _) e.symm]
  ·rw[if_neg e]
   refine plRow_hit hk j ?_ (fun i' h1 h2=>h i' (by omega) h2)
   have:i≠j:=fun e2=>e (by rw[← e2,hk])
   omega
theorem pts_nodup {n:Nat} (hn:0<n):(pts n (n*n)).Nodup:=by
 rw[pts_filter hn _ (Nat.le_refl _)]
 exact List.nodup_range.filter _
theorem getD_mem {L:List Nat} {i:Nat} (hi:i<L.length):L.getD i 0∈L:=by
 rw[List.getD_eq_getElem?_getD,List.getElem?_eq_getElem hi]
 exact List.getElem_mem hi
theorem getD_inj {L:List Nat} (h:L.Nodup) {i j:Nat} (hi:i<L.length) (hj:j<L.length) (e:L.getD i 0=L.getD j 0):i=j:=by
 rw[List.getD_eq_getElem?_getD,List.getElem?_eq_getElem hi,List.getD_eq_getElem?_getD,List.getElem?_eq_getElem hj]at e
 exact(List.getElem_inj h).1 (by simpa using e)
theorem place_unique {n i j s t:Nat} (hn:0<n) (hi:i<(pts n (n*n)).length) (hj:j<(pts n (n*n)).length) (hs:pun n s=true) (ht:pun n t=true)
  (e:pmul n s ((pts n (n*n)).getD i 0)=pmul n t ((pts n (n*n)).getD j 0)):i=j∧s % n=t % n:=by
 have mi:=getD_mem hi
 have mj:=getD_mem hj
 have hik:=pts_lt mi
 obtain⟨r,_,_,ru,re⟩:=pmul_inv (k:=(pts n (n*n)).getD i 0) hik hs
 have h1:pmul n (r*t) ((pts n (n*n)).getD j 0)=(pts n (n*n)).getD i 0:=by rw[← pmul_comp hn,← e,re]
 have h2:=pts_unique mj mi (pun_mul ru ht) h1
 have hij:=getD_inj (pts_nodup hn) hi hj h2.symm
 subst hij
 exact⟨rfl,pmul_free hn (pts_ok mi).1 e⟩
theorem plAll_hit {n:Nat} {D:Int} {j s k:Nat} (hn:0<n) (hj:j<(pts n (n*n)).length) (h1:1≤s) (hsn:s≤n) (hu:pun n s=true) (e:pmul n s ((pts n (n*n)).getD j 0)=k):∀ m,s≤m→m≤n→plAll n D (pts n (n*n)) m k=(j,Pl.kroP D s)
 | 0,h,_=>by omega
 | m+1,h,hm=>by
  rw[plAll]
  by_cases hs:s=m+1
  ·subst hs
   rw[if_pos hu]
   exact plRow_hit e _ hj (fun i hi he=>(place_unique hn hi hj hu hu (he.trans e.symm)).1)
  ·have hrec:=plAll_hit hn hj h1 hsn hu e m (by omega) (by omega) (D:=D)
   split
   ·rename_i hu2
    rw[plRow_miss _ (fun i hi he=>?_)]
    ·exact hrec
    ·have h2:=(place_unique hn hi hj hu2 hu (he.trans e.symm)).2
     rcases Nat.lt_or_ge (m+1) n with h3|h3
     ·rw[Nat.mod_eq_of_lt h3,Nat.mod_eq_of_lt (by omega)]at h2
      omega
     ·obtain rfl:m+1=n:=by omega
      rw[Nat.mod_self,Nat.mod_eq_of_lt (by omega)]at h2
      omega
   ·exact hrec
theorem mvd_index (u v A C:Int) (n:Nat):(u*(A % n)+v*(C % n)) % n=(u*A+v*C) % n:=by
 rw[Int.add_emod,Int.mul_emod u (A % n),Int.mul_emod v (C % n),Int.emod_emod_of_dvd A (Int.dvd_refl _),Int.emod_emod_of_dvd C (Int.dvd_refl _),← Int.mul_emod,← Int.mul_emod,← Int.add_emod]
namespace Pl
def mask (l:List Int) (v:Int):Nat:=l.foldr (fun x n=>2*n+if x=v then 1 else 0) 0
def mulAt (d pos neg r s:Nat):Bool:=if Nat.testBit neg r==Nat.testBit neg s then Nat.testBit pos (r*s % d)else Nat.testBit neg (r*s % d)
def unitsL (d:Nat):List Nat:=(List.range d).filter fun r=>Nat.gcd r d==1
def mulCh (D:Int):Bool:=
 let d:=D.natAbs
 let t:=table D
 let pos:=mask t 1
 let neg:=mask t (-1)
 let us:=unitsL d
 us.all fun r=>(Nat.testBit pos r != Nat.testBit neg r)&&us.all fun s=>mulAt d pos neg r s
def mulRow (i:Nat):Bool:=(List.range 20).all fun j=>let D:Int:=((20*i+j:Nat):Int) - 120;!fund D||mulCh D
theorem mul0:mulRow 0=true:=by decide +kernel
theorem mul1:mulRow 1=true:=by decide +kernel
theorem mul2:mulRow 2=true:=by decide +kernel
theorem mul3:mulRow 3=true:=by decide +kernel
theorem mul4:mulRow 4=true:=by decide +kernel
theorem mul5:mulRow 5=true:=by decide +kernel
theorem mul6:mulRow 6=true:=by decide +kernel
theorem mul7:mulRow 7=true:=by decide +kernel
theorem mul8:mulRow 8=true:=by decide +kernel
theorem mul9:mulRow 9=true:=by decide +kernel
theorem mul10:mulRow 10=true:=by decide +kernel
theorem mul11:mulRow 11=true:=by decide +kernel
theorem mul12:mulRow 12=true:=by decide +kernel
theorem mulRow_all:∀ i,i<13→mulRow i=true
 | 0,_=>mul0|1,_=>mul1|2,_=>mul2|3,_=>mul3|4,_=>mul4|5,_=>mul5|6,_=>mul6|7,_=>mul7|8,_=>mul8|9,_=>mul9|10,_=>mul10|11,_=>mul11|12,_=>mul12
 | n+13,h=>absurd h (by omega)
theorem mul_at {D:Int} (h0:-120≤D) (h1:D≤120) (hf:fund D=true):mulCh D=true:=by
 have h:=mulRow_all ((D+120).toNat / 20) (by omega)
 unfold mulRow at h
 rw[List.all_eq_true]at h
 have h2:=h ((D+120).toNat % 20) (List.mem_range.2 (Nat.mod_lt _ (by omega)))
 rw[Nat.div_add_mod]at h2
 have e:(((D+120).toNat:Nat):Int) - 120=D:=by omega
 simp only[e,hf]at h2
 simpa using h2
theorem mask_bit (v:Int):∀ (l:List Int) (i:Nat),Nat.testBit (mask l v) i=decide (l[i]?=some v)
 | [],i=>by simp[mask]
 | x :: l,0=>by
  show Nat.testBit (2*mask l v+if x=v then 1 else 0) 0=_
  rw[Nat.testBit_zero]
  by_cases h:x=v
  ·simp[h]
  ·simp[h]
 | x :: l,i+1=>by
  show Nat.testBit (2*mask l v+if x=v then 1 else 0) (i+1)=_
  rw[Nat.testBit_succ,show(2*mask l v+if x=v then 1 else 0) / 2=mask l v by split <;> omega,mask_bit v l i]
  simp
theorem kro_mul {N:Nat} {D:Int} {a b c:Nat} (hN:0<N) (h0:-120≤D) (h1:D≤120) (hf:fund D=true) (hd:(N:Int) % D=0) (ha:0<a) (ha':a≤128) (hb:0<b) (hb':b≤128) (hc:0<c) (hc':c≤128) (ga:Nat.gcd a N=1) (gb:Nat.gcd b N=1) (gc:Nat.gcd c N=1) (h:a*b % N=c % N):
  kroP D c=kroP D a*kroP D b∧(kroP D a=1∨kroP D a=-1):=by
 have hdvd:D.natAbs∣N:=by
  have:D∣(N:Int):=Int.dvd_of_emod_eq_zero hd
  exact Int.natAbs_dvd_natAbs.2 this
 have hdp:0<D.natAbs:=Nat.pos_of_dvd_of_pos hdvd hN
 have hcop:∀ {x:Nat},Nat.gcd x N=1→Nat.gcd x D.natAbs=1:=fun hx=>Nat.eq_one_of_dvd_one (hx▸Nat.gcd_dvd_gcd_of_dvd_right _ hdvd)
 have hchk:=chk_at h0 h1 hf
 have hmul:=mul_at h0 h1 hf
 unfold chk at hchk
 simp only[Bool.and_eq_true,List.all_eq_true]at hchk
 have hval:∀ x:Nat,0<x→x≤128→Nat.gcd x N=1→(table D)[x % D.natAbs]?=some (kroP D x):=by
  intro x hx hx' hg
  have e2:=hchk.2 x (List.mem_range.2 (by omega))
  simp only[hcop hg,Bool.or_eq_true,decide_eq_true_eq,bne_self_eq_false,Bool.false_eq_true,or_false,beq_iff_eq]at e2
  have hl:x % D.natAbs<(table D).length:=by unfold table;simpa using Nat.mod_lt x hdp
  rcases e2 with e2|e2
  ·omega
  ·rw[List.getD_eq_getElem?_getD,List.getElem?_eq_getElem hl]at e2
   rw[List.getElem?_eq_getElem hl,e2];rfl
 have hmem:∀ x:Nat,Nat.gcd x N=1→x % D.natAbs∈unitsL D.natAbs:=fun x hg=>by
  unfold unitsL
  rw[List.mem_filter,List.mem_range]
  refine⟨Nat.mod_lt _ hdp,?_⟩
  rw[beq_iff_eq,← Nat.gcd_rec,Nat.gcd_comm];exact hcop hg
 unfold mulCh at hmul
 simp only[List.all_eq_true,Bool.and_eq_true]at hmul
 have hab:a % D.natAbs*(b % D.natAbs) % D.natAbs=c % D.natAbs:=by
  rw[← Nat.mul_mod,← Nat.mod_mod_of_dvd (a*b) hdvd,h,Nat.mod_mod_of_dvd _ hdvd]
 have m1:=(hmul _ (hmem a ga)).2 _ (hmem b gb)
 have u1:=(hmul _ (hmem a ga)).1
 have u2:=(hmul _ (hmem b gb)).1
 unfold mulAt at m1
 rw[hab]at m1
 simp only[mask_bit,hval a ha ha' ga,hval b hb hb' gb,hval c hc hc' gc,Option.some.injEq]at m1 u1 u2
 have s1:kroP D a=1∨kroP D a=-1:=by
  by_cases e:kroP D a=1
  ·exact .inl e
  ·by_cases e2:kroP D a=-1
   ·exact .inr e2
   ·simp[e,e2]at u1
 have s2:kroP D b=1∨kroP D b=-1:=by
  by_cases e:kroP D b=1
  ·exact .inl e
  ·by_cases e2:kroP D b=-1
   ·exact .inr e2
   ·simp[e,e2]at u2
 refine⟨?_,s1⟩
 rcases s1 with s1|s1 <;> rcases s2 with s2|s2 <;>(rw[s1,s2]at m1;simp at m1;rw[s1,s2,m1];rfl)
end Pl
end Go.Proofs.YtijgdhijdfgpfaaGreatDoor
namespace Go.Proofs.YtijgdhijdfgpfaaGreatDoor
open Eli
def linR (a b:Int) (p:Nat→Rat):Nat→Rat:=fun j=>(if 0<j then(a:Rat)*p (j - 1)else 0)+(b:Rat)*p j
theorem sumQ_swap (f:Nat→Nat→Rat) (n m:Nat):sumQ (fun i=>sumQ (fun l=>f i l) m) n=sumQ (fun l=>sumQ (fun i=>f i l) n) m:=by
 induction n with
 | zero=>exact(sumQ_zero (fun _ _=>rfl)).symm
 | succ n ih=>rw[sumQ,ih,← sumQ_add];exact sumQ_congr (fun _ _=>rfl)
theorem sumQ_front (f:Nat→Rat) (n:Nat):sumQ f (n+1)=f 0+sumQ (fun i=>f (i+1)) n:=by
 induction n with
 | zero=>show(0:Rat)+f 0=f 0+0;grind
 | succ n ih=>rw[sumQ,ih,sumQ];grind
theorem lin_comm (a b c d:Int) (p:Nat→Int):lin c d (lin a b p)=lin a b (lin c d p):=by
 funext j
 unfold lin
 by_cases h:0<j
 ·simp only[if_pos h]
  by_cases h1:0<j - 1
  ·simp only[if_pos h1];grind
  ·simp only[if_neg h1];grind
 ·simp only[if_neg h];grind
theorem mv_sat (a b c d:Int):∀ k i,k≤i→mv (i+1) a b c d k=mv i a b c d k
 | 0,_,_=>rfl
 | k+1,i,h=>by rw[mv,mv,if_pos (by omega),if_pos (by omega),mv_sat a b c d k i (by omega)]
theorem mv_up (a b c d:Int):∀ k i,i≤k→mv (i+1) a b c d (k+1)=lin a b (mv i a b c d k)
 | k,i,h=>by
  by_cases e:i=k
  ·subst e
   rw[mv,if_pos (by omega),mv_sat a b c d i i (Nat.le_refl _)]
  ·obtain⟨l,rfl⟩:∃ l,k=l+1:=⟨k - 1,by omega⟩
   rw[mv,if_neg (by omega),mv_up a b c d l i (by omega),mv,if_neg (by omega),lin_comm]
theorem mv_down {a b c d:Int} {k i:Nat} (h:i≤k):mv i a b c d (k+1)=lin c d (mv i a b c d k):=by
 rw[mv,if_neg (by omega)]
theorem cast_lin (a b:Int) (p:Nat→Int) (j:Nat):((lin a b p j:Int):Rat)=linR a b (fun i=>(p i:Rat)) j:=by
 unfold lin linR
 split <;> simp <;> grind
theorem linR_sum (a b:Int) (p:Nat→Rat) (f:Nat→Nat→Int) (n j:Nat):sumQ (fun i=>p i*linR a b (fun l=>(f i l:Rat)) j) n=linR a b (fun l=>sumQ (fun i=>p i*(f i l:Rat)) n) j:=by
 unfold linR
 by_cases h:0<j
 ·simp only[if_pos h]
  rw[← sumQ_mul,← sumQ_mul,← sumQ_add]
  exact sumQ_congr (fun i _=>by grind)
 ·simp only[if_neg h]
  rw[← sumQ_mul,Rat.zero_add]
  exact sumQ_congr (fun i _=>by grind)
theorem subst_lin (al be a b c d:Int) (p:Nat→Rat) (k j:Nat) (hp:p (k+1)=0):
  subst (linR al be p) (k+1) a b c d (k+2) j=linR (al*a+be*c) (al*b+be*d) (subst p k a b c d (k+1)) j:=by
 have e1:sumQ (fun i=>(if 0<i then(al:Rat)*p (i - 1)else 0)*(mv i a b c d (k+1) j:Int)) (k+2)=(al:Rat)*linR a b (subst p k a b c d (k+1)) j:=by
  rw[sumQ_front]
  simp only[Nat.lt_irrefl,if_false]
  unfold subst
  rw[← linR_sum a b p (fun i=>mv i a b c d k),← sumQ_mul,Rat.zero_mul,Rat.zero_add]
  refine sumQ_congr (fun i hi=>?_)
  rw[if_pos (by omega),mv_up a b c d k i (by omega),cast_lin,Nat.add_sub_cancel]
  grind
 have e2:sumQ (fun i=>(be:Rat)*p i*(mv i a b c d (k+1) j:Int)) (k+2)=(be:Rat)*linR c d (subst p k a b c d (k+1)) j:=by
  rw[sumQ,hp]
  unfold subst
  rw[← linR_sum c d p (fun i=>mv i a b c d k),← sumQ_mul]
  rw[show ∀ x:Rat,x+(be:Rat)*0*((mv (k+1) a b c d (k+1) j:Int):Rat)=x from fun x=>by grind]
  refine sumQ_congr (fun i hi=>?_)
  rw[mv_down (by omega),cast_lin]
  grind
 have e3:subst (linR al be p) (k+1) a b c d (k+2) j=(al:Rat)*linR a b (subst p k a b c d (k+1)) j+(be:Rat)*linR c d (subst p k a b c d (k+1)) j:=by
  rw[← e1,← e2,← sumQ_add]
  unfold subst
  refine sumQ_congr (fun i _=>?_)
  unfold linR
  grind
 rw[e3]
 unfold linR
 split <;> simp <;> grind
theorem subst_mv (a b c d a' b' c' d':Int) (i j:Nat):∀ k,subst (fun l=>(mv i a b c d k l:Rat)) k a' b' c' d' (k+1) j=(mv i (a*a'+b*c') (a*b'+b*d') (c*a'+d*c') (c*b'+d*d') k j:Rat):=by
 intro k
 induction k generalizing j with
 | zero=>
  show(0:Rat)+((if(0:Nat)=0 then 1 else 0:Int):Rat)*((if j=0 then 1 else 0:Int):Rat)=((if j=0 then 1 else 0:Int):Rat)
  split <;> simp <;> grind
 | succ k ih=>
  have hz:(fun l=>(mv i a b c d k l:Rat)) (k+1)=0:=by
   show((mv i a b c d k (k+1):Int):Rat)=0
   rw[mv_zero i a b c d k (k+1) (by omega)];rfl
  have hf:∀ al be,(fun l=>((lin al be (mv i a b c d k) l:Int):Rat))=linR al be (fun l=>(mv i a b c d k l:Rat)):=fun al be=>funext (fun l=>cast_lin al be _ l)
  by_cases h:k<i
  ·simp only[mv,if_pos h]
   rw[hf,subst_lin a b a' b' c' d' _ k j hz,cast_lin]
   unfold linR
   simp only[ih]
  ·simp only[mv,if_neg h]
   rw[hf,subst_lin c d a' b' c' d' _ k j hz,cast_lin]
   unfold linR
   simp only[ih]
theorem subst_subst (q:Nat→Rat) (a b c d a' b' c' d':Int) (m j:Nat):
  subst (subst q m a b c d (m+1)) m a' b' c' d' (m+1) j=subst q m (a*a'+b*c') (a*b'+b*d') (c*a'+d*c') (c*b'+d*d') (m+1) j:=by
 have h1:subst (subst q m a b c d (m+1)) m a' b' c' d' (m+1) j=sumQ (fun l=>sumQ (fun i=>q i*(mv i a b c d m l:Int)*(mv l a' b' c' d' m j:Int)) (m+1)) (m+1):=by
  unfold subst
  refine sumQ_congr (fun l _=>?_)
  rw[Rat.mul_comm,← sumQ_mul]
  exact sumQ_congr (fun i _=>by grind)
 rw[h1,← sumQ_swap]
 unfold subst
 refine sumQ_congr (fun i _=>?_)
 rw[← subst_mv a b c d a' b' c' d' i j m]
 unfold subst
 rw[← sumQ_mul]
 exact sumQ_congr (fun l _=>by grind)
theorem low_of {k x y:Int} (hk:k≠0) (h:Int.gcd x y=1):low (k*x) (k*y)=if y<0∨(y=0∧x<0)then(-x,-y)else(x,y):=by
 have hg:Int.gcd (k*x) (k*y)=k.natAbs:=by rw[Int.gcd_mul_left,h,Nat.mul_one]
 have hxy:¬ (x=0∧y=0):=by
  rintro⟨rfl,rfl⟩
  simp at h
 unfold low
 rw[hg]
 by_cases hp:0<k
 ·have e:((k.natAbs:Nat):Int)=k:=by omega
  rw[e,Int.mul_tdiv_cancel_left x hk,Int.mul_tdiv_cancel_left y hk]
  have h1:k*y<0↔y<0:=⟨fun h=>by rcases Int.lt_or_le y 0 with h2|h2;exact h2;exact absurd (Int.mul_nonneg (Int.le_of_lt hp) h2) (by omega),fun h=>Int.mul_neg_of_pos_of_neg hp h⟩
  have h2:k*x<0↔x<0:=⟨fun h=>by rcases Int.lt_or_le x 0 with h2|h2;exact h2;exact absurd (Int.mul_nonneg (Int.le_of_lt hp) h2) (by omega),fun h=>Int.mul_neg_of_pos_of_neg hp h⟩
  have h3:k*y=0↔y=0:=⟨fun h=>(Int.mul_eq_zero.1 h).resolve_left hk,fun h=>by rw[h,Int.mul_zero]⟩
  simp only[h1,h2,h3]
 ·have e:((k.natAbs:Nat):Int)=-k:=by omega
  have tx:(k*x).tdiv (-k)=-x:=by rw[Int.tdiv_neg,Int.mul_tdiv_cancel_left x hk]
  have ty:(k*y).tdiv (-k)=-y:=by rw[Int.tdiv_neg,Int.mul_tdiv_cancel_left y hk]
  rw[e,tx,ty]
  have hn:k<0:=by omega
  have h1:k*y<0↔0<y:=⟨fun h=>by rcases Int.lt_or_le 0 y with h2|h2;exact h2;exact absurd (Int.mul_nonneg_of_nonpos_of_nonpos (Int.le_of_lt hn) h2) (by omega),fun h=>Int.mul_neg_of_neg_of_pos hn h⟩
  have h2:k*x<0↔0<x:=⟨fun h=>by rcases Int.lt_or_le 0 x with h2|h2;exact h2;exact absurd (Int.mul_nonneg_of_nonpos_of_nonpos (Int.le_of_lt hn) h2) (by omega),fun h=>Int.mul_neg_of_neg_of_pos hn h⟩
  have h3:k*y=0↔y=0:=⟨fun h=>(Int.mul_eq_zero.1 h).resolve_left hk,fun h=>by rw[h,Int.mul_zero]⟩
  simp only[h1,h2,h3,Int.neg_neg]
  split <;> split <;> first|rfl |(exfalso;omega)
theorem low_spec {p q:Int} (h:Int.gcd p q≠0):∃ k x y:Int,k≠0∧Int.gcd x y=1∧p=k*x∧q=k*y∧low p q=(x,y)∧(0≤y∧(y=0→x=1))∧(x.natAbs≤p.natAbs∧y.natAbs≤q.natAbs):=by
 obtain⟨x,hx⟩:((Int.gcd p q:Nat):Int)∣p:=Int.gcd_dvd_left ..
 obtain⟨y,hy⟩:((Int.gcd p q:Nat):Int)∣q:=Int.gcd_dvd_right ..
 obtain⟨g,hg⟩:∃ g,Int.gcd p q=g:=⟨_,rfl⟩
 rw[hg]at hx hy h
 have hg0:(g:Int)≠0:=by omega
 have h1:Int.gcd x y=1:=by
  have h2:Int.gcd p q=g*Int.gcd x y:=by rw[hx,hy,Int.gcd_mul_left];simp
  rw[hg]at h2
  exact Nat.eq_of_mul_eq_mul_left (Nat.pos_of_ne_zero h) (by omega)
 have hL:=low_of hg0 h1
 rw[← hx,← hy]at hL
 have hxy:¬ (x=0∧y=0):=by
  rintro⟨rfl,rfl⟩
  simp at h1
 have b1:x.natAbs≤p.natAbs:=by rw[hx,Int.natAbs_mul];exact Nat.le_mul_of_pos_left _ (by omega)
 have b2:y.natAbs≤q.natAbs:=by rw[hy,Int.natAbs_mul];exact Nat.le_mul_of_pos_left _ (by omega)
 have hone:y=0→x.natAbs=1:=fun h=>by rw[h]at h1;simpa using h1
 by_cases hs:y<0∨(y=0∧x<0)
 ·rw[if_pos hs]at hL
  refine⟨-g,-x,-y,by omega,by rw[Int.gcd_neg,Int.neg_gcd];exact h1,by rw[hx];grind,by rw[hy];grind,hL,⟨by omega,fun h=>?_⟩,by omega,by omega⟩
  have:=hone (by omega)
  omega
 ·rw[if_neg hs]at hL
  refine⟨g,x,y,hg0,h1,hx,hy,hL,⟨by omega,fun h=>?_⟩,b1,b2⟩
  have:=hone h
  omega
theorem abs_mul_le {x y:Int} {A B:Nat} (h:x.natAbs≤A) (h2:y.natAbs≤B):(x*y).natAbs≤A*B:=by
 rw[Int.natAbs_mul];exact Nat.mul_le_mul h h2
end Go.Proofs.YtijgdhijdfgpfaaGreatDoor
