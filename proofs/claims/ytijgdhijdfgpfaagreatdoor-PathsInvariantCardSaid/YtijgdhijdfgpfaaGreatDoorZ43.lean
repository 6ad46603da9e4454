/- paths.Coordinates in general: the difference of a potential at the ends of the path, or why there is none. -/
import Derived.Test.YtijgdhijdfgpfaaGreatDoorZ13
import Derived.Test.YtijgdhijdfgpfaaGreatDoorZ37
import Derived.Test.YtijgdhijdfgpfaaGreatDoorZ42
import Derived.Test.YtijgdhijdfgpfaaGreatDoorZ40
import Derived.Test.YtijgdhijdfgpfaaGreatDoorZ25
import Derived.Test.YtijgdhijdfgpfaaGreatDoorZ35
set_option linter.unusedSimpArgs false
set_option maxRecDepth 100000
set_option maxHeartbeats 8000000
namespace Go.Proofs.YtijgdhijdfgpfaaGreatDoor
open Go.RowKit Eli
theorem stS_step (Q:Nat→Rat) (n wt:Nat) (D:Int) (X:Nat→Nat→Rat) (a b:Int×Int) (f:Nat):stS Q n wt D X a b f (wt+1)=stepQ n wt D (fun j=>X j f) Q a b:=by
 unfold stepQ stS stT stpM
 split <;> rfl
theorem stC_chain {n wt:Nat} {D:Int} {X:Nat→Nat→Rat} {f:Nat} {a b:Int×Int} {ch:List (Int×Int)} (hck:Pl.check n ((wt:Int)+2) D=0) (hR:RelZ n wt D (fun j=>X j f)) (h:ChainOk a b ch) (Q:Nat→Rat):
  stC Q n wt D X ch f (ch.length - 1)=Pot (stepQ n wt D (fun j=>X j f) Q) b - Pot (stepQ n wt D (fun j=>X j f) Q) a:=by
 have hs:=stepQ_ok (Q:=Q) hck hR
 have hget:∀ j,j<ch.length→ch[j]?=some (ch.getD j (0,0)):=fun j hj=>by rw[List.getD_eq_getElem?_getD,List.getElem?_eq_getElem hj];rfl
 have h1:=hs.chain (fun j=>ch.getD j (0,0)) (ch.length - 1) (fun j hj=>(h.good _ (List.mem_of_getElem? (hget j (by have:=h.pos;omega)))).2) (fun j hj=>h.nb j _ _ (hget j (by omega)) (hget (j+1) (by omega)))
 have e0:ch.getD 0 (0,0)=a:=by rw[List.getD_eq_getElem?_getD,h.first];rfl
 have e1:ch.getD (ch.length - 1) (0,0)=b:=by rw[List.getD_eq_getElem?_getD,h.last];rfl
 rw[e0,e1]at h1
 rw[← h1]
 unfold stC
 exact sumQ_congr (fun j _=>stS_step ..)
theorem stp_det {a b:Int×Int} (h:Nb a b):(stpM a b).1.1*(stpM a b).2.2 - (stpM a b).1.2*(stpM a b).2.1=1:=by
 unfold stpM
 split
 ·rename_i h1;dsimp only;grind
 ·rename_i h1
  have h2:b.1*a.2 - a.1*b.2=-1:=h.resolve_left h1
  dsimp only
  grind
theorem stC_size {n wt C:Nat} {D:Int} {X:Nat→Nat→Rat} {F:List Nat} {f:Nat} {a b:Int×Int} {ch:List (Int×Int)} {Q:Nat→Rat} (hck:Pl.check n ((wt:Int)+2) D=0) (hCn:cntF n wt=C) (hQ:∀ i,i<wt+1→hq (Q i)≤4000)
  (hX:∀ j f,j<C→f∈F→hq (X j f)≤10000) (hf:f∈F) (h:ChainOk a b ch):hq (stC Q n wt D X ch f (ch.length - 1))≤430000000:=by
 obtain⟨h1,h2,h3,h4,h5,h6⟩:=check_zero hck
 have hwt:wt≤22:=by omega
 have hget:∀ j,j<ch.length→ch[j]?=some (ch.getD j (0,0)):=fun j hj=>by rw[List.getD_eq_getElem?_getD,List.getElem?_eq_getElem hj];rfl
 have hT:∀ k i,k+1<ch.length→i<wt+1→hq (stT Q n wt D X (ch.getD k (0,0)) (ch.getD (k+1) (0,0)) f i)≤140000:=by
  intro k i hk hi
  obtain⟨x,hx⟩:∃ x,ch.getD k (0,0)=x:=⟨_,rfl⟩
  obtain⟨y,hy⟩:∃ y,ch.getD (k+1) (0,0)=y:=⟨_,rfl⟩
  have gx:=hget k (by omega)
  have gy:=hget (k+1) hk
  rw[hx]at gx ⊢
  rw[hy]at gy ⊢
  have hnb:=h.nb k x y gx gy
  obtain⟨a1,a2,a3,a4⟩:=(h.good x (List.mem_of_getElem? gx)).1
  obtain⟨b1,b2,b3,b4⟩:=(h.good y (List.mem_of_getElem? gy)).1
  have hp:=plc_ne hck (det_prim (n:=n) (by omega) (stp_det hnb))
  have hidx:i*(pts n (n*n)).length+(plcOf n D (stpM x y).2.1 (stpM x y).2.2).1<C:=by
   rw[← hCn]
   have h7:=Nat.mul_le_mul_right (pts n (n*n)).length (show i+1≤wt+1 by omega)
   rw[Nat.succ_mul]at h7
   unfold cntF
   have:=hp.2
   omega
  have hs1:hq (subst Q wt (stpM x y).1.1 (stpM x y).1.2 (stpM x y).2.1 (stpM x y).2.2 (wt+1) i)≤123880:=by
   refine hq_substK (K:=4000) hQ (nd64 ?_ ?_) (nd64 ?_ ?_) (nd64 ?_ ?_) (nd64 ?_ ?_) (by omega) (by omega) <;>(unfold stpM;split <;>(dsimp only;omega))
  have hs2:hq (((plcOf n D (stpM x y).2.1 (stpM x y).2.2).2:Int):Rat)≤1:=by
   rw[hq_int]
   have h8:(plcOf n D (stpM x y).2.1 (stpM x y).2.2).2.natAbs≤1:=by
    rcases plAll_ok (kro3 D) n (((stpM x y).2.1 % n).toNat*n+((stpM x y).2.2 % n).toNat)with h|h
    ·unfold plcOf;rw[h];decide
    ·unfold plcOf;omega
   have:nd ((plcOf n D (stpM x y).2.1 (stpM x y).2.2).2).natAbs≤1:=nd_le.2 (by omega)
   omega
  have hs3:=hX _ f hidx hf
  have h7:=hq_mul (subst Q wt (stpM x y).1.1 (stpM x y).1.2 (stpM x y).2.1 (stpM x y).2.2 (wt+1) i*((plcOf n D (stpM x y).2.1 (stpM x y).2.2).2:Rat)) (X (i*(pts n (n*n)).length+(plcOf n D (stpM x y).2.1 (stpM x y).2.2).1) f)
  have h8:=hq_mul (subst Q wt (stpM x y).1.1 (stpM x y).1.2 (stpM x y).2.1 (stpM x y).2.2 (wt+1) i) ((plcOf n D (stpM x y).2.1 (stpM x y).2.2).2:Rat)
  unfold stT
  omega
 have hS:∀ k,k+1<ch.length→hq (stS Q n wt D X (ch.getD k (0,0)) (ch.getD (k+1) (0,0)) f (wt+1))≤3300000:=by
  intro k hk
  have h7:=sumQ_size (stT Q n wt D X (ch.getD k (0,0)) (ch.getD (k+1) (0,0)) f) 140000 (wt+1) (fun q hq=>hT k q hk hq)
  have h8:(wt+1)*(140000+1)≤23*140001:=Nat.mul_le_mul (by omega) (Nat.le_refl _)
  unfold stS
  omega
 have h7:=sumQ_size (fun j=>stS Q n wt D X (ch.getD j (0,0)) (ch.getD (j+1) (0,0)) f (wt+1)) 3300000 (ch.length - 1) (fun q hq=>hS q (by omega))
 have h8:(ch.length - 1)*(3300000+1)≤130*3300001:=Nat.mul_le_mul (by have:=h.len;omega) (Nat.le_refl _)
 unfold stC
 omega
def CoRet (w:World) (w':World) (e:Ending) (p q p' q':Int) (n wt:Nat) (D:Int) (F:List Nat) (X:Nat→Nat→Rat) (Q:Nat→Rat):Prop:=
 ((cuspE p q≠0∨cuspE p' q'≠0)∧∃ er,er≠0∧e=.returned (.tuple #[.slice none 0 0,.int .i64 er])) ∨
 ((cuspE p q=0∧cuspE p' q'=0)∧∃ g,e=.returned (.tuple #[.slice (some ⟨g,0,none⟩) F.length F.length,.int .i64 0])∧w.heap.size≤g∧QRow (fun j=>IsQ (Pot (stepQ n wt D (fun i=>X i (F.getD j 0)) Q) (p',q') - Pot (stepQ n wt D (fun i=>X i (F.getD j 0)) Q) (p,q))) w' g F.length F.length∧∀ j,j<F.length→hq (Pot (stepQ n wt D (fun i=>X i (F.getD j 0)) Q) (p',q') - Pot (stepQ n wt D (fun i=>X i (F.getD j 0)) Q) (p,q))≤430000000)
theorem c_Coord (M B n wt:Nat) (D:Int) (F:List Nat) (C:Nat) (X:Nat→Nat→Rat) (v:Value) (x y:Nat→Int) (p q p' q':Int) (w:World) (hT:Tab w) (hck:Pl.check n ((wt:Int)+2) D=0) (hCn:cntF n wt=C) (hF:F.length≤72)
  (hmod:ModAt w M B n ((wt:Int)+2) D F C X) (hB:B≤w.heap.size) (hX:∀ j f,j<C→f∈F→hq (X j f)≤10000) (hR:∀ f,f∈F→RelZ n wt D (fun j=>X j f)) (hp:QL (fun j=>IsB 4000 (x j) (y j)) w v (wt+1))
  (hp1:-9223372036854775808≤p) (hp2:p≤9223372036854775807) (hq1:-9223372036854775808≤q) (hq2:q≤9223372036854775807) (hr1:-9223372036854775808≤p') (hr2:p'≤9223372036854775807) (hs1:-9223372036854775808≤q') (hs2:q'≤9223372036854775807):
  Calls Tryz.prog 18 #[.pointer (some ⟨M,0,none⟩),.agg #[v,.int .i64 p,.int .i64 q,.int .i64 p',.int .i64 q']] w fun e w'=>CoRet w w' e p q p' q' n wt D F X (fun i=>Rat.divInt (x i) (y i))∧Below w.heap.size w w':=by
 obtain⟨pv,cv,rfl⟩:∃ p c,v=.slice p (wt+1) c:=by
  obtain⟨_,_,_,e',_⟩:=hp.resolve_left (fun h=>by omega)
  exact⟨_,_,e'⟩
 have hwt:wt≤22:=by have:=check_zero hck;omega
 have hn0:0<n:=by have:=check_zero hck;omega
 obtain⟨kk,hkk⟩:∃ kk,(wt:Int)+2=kk:=⟨_,rfl⟩
 obtain⟨L,hL⟩:∃ L,wt+1=L:=⟨_,rfl⟩
 have HCC:=Kh (fun W=>c_CheckCusp p q W hp1 hp2 hq1 hq2)
 have HCC':=Kh (fun W=>c_CheckCusp p' q' W hr1 hr2 hs1 hs2)
 have HCH:=Kh (fun W ha hb=>c_Chain p q p' q' W ha hb)
 have HSP:=Kh (fun W (hb:Below w.heap.size w W)=>c_Spec M B n kk D F C X W (hkk▸hmod.keep hB hb) (Nat.le_trans hB hb.size))
 have HCO:=Kh (fun W gc oc cc ch (hb:Below w.heap.size w W) (hg:gc<W.heap.size) (hc:CAt W gc oc ch) (ho:ChainOk (p,q) (p',q') ch)=>c_collect M B n wt D F C X ch gc oc cc (.slice pv (wt+1) cv) x y W (hT.below hb) hck hCn hF (hmod.keep hB hb) (Nat.le_trans hB hb.size) hX (hp.keep (fun _=>IsB.solid _ _ _) hb) hg (Nat.le_trans ho.len (by decide))
  (fun k c hk=>⟨(hc k c hk).1,(hc k c hk).2,by have h:=(ho.good c (List.mem_of_getElem? hk)).1;unfold InC at h;omega⟩)
  (fun k a b ha hb=>by
   have h:=ho.nb k a b ha hb
   exact⟨h,(plc_ne hck (det_prim (a:=(stpM a b).1.1) (b:=(stpM a b).1.2) hn0 (stp_det h))).1⟩))
 have HV:=Kh (fun ch (ho:ChainOk (p,q) (p',q') ch) f (hf:f∈F)=>stC_chain hck (hR f hf) ho (fun i=>Rat.divInt (x i) (y i)))
 have HSZ:=Kh (fun ch (ho:ChainOk (p,q) (p',q') ch) f (hf:f∈F)=>stC_size hck hCn (fun i hi=>by
  obtain⟨_,_,_,_,hr⟩:=hp.resolve_left (fun h=>by omega)
  obtain⟨_,_,_,_,_,_,_,_,_,_,_,_,h5,h6,h7,h8⟩:=hr.2 i hi
  exact hq_fracK (by decide) (Nat.le_trans h5.size h7) (Nat.le_trans h6.size h8)) hX hf ho (Q:=fun i=>Rat.divInt (x i) (y i)))
 rw[hL]at HCO ⊢
 have hk1:kk - 1=(L:Int):=by omega
 have hw1:IntKind.i64.wrap (L:Int)=(L:Int):=IntWalk.i64_in _ (by omega)
 clear hT hmod hB hX hp hck hCn hF hR hwt hn0 hkk hL hp1 hp2 hq1 hq2 hr1 hr2 hs1 hs2
 go_enter Tryz.func18,Tryz.ntmps18
 go_upto_region 3 with(fail)
 obtain⟨w0,hw0,X0,hb0⟩:=bx1 w #[.slice pv L cv,.int .i64 p,.int .i64 q,.int .i64 p',.int .i64 q'] 26
 rw[hw0]
 obtain⟨gp,hgp⟩:∃ x,w.heap.size=x:=⟨_,rfl⟩
 have HGP:=Kh hgp
 rw[hgp]at X0 ⊢
 have HX0:=Kh X0
 have HB0:=Kh hb0
 have x0:=X0.at_ 0 rfl
 have hfd:∀ W:World,(Instr.field 40 (.agg #[.int .i64 n,.int .i64 kk,.int .i64 D]) 1).run Tryz.prog W=.ok (.int .i64 kk) W:=fun W=>by kernel_rfl
 clear hw0 X0 hb0 hgp
 refine rgB (fun W=>W.cell? ⟨gp,0,none⟩=some (.slice pv L cv)) (fun W hb=>cnx hb x0) (fun HSE hHeld0=>?_)
 refine tkE 0 ?_;refine tkE 1 ?_;refine tkE 2 ?_;refine tkE 3 ?_
 refine stE 4 rfl (fun K hK=>?_)
 focus(go_simp;refine(HSP.out _ HB0.out.drew).mono ?_;rintro e w1 ⟨rfl,hb1⟩;have HB1:=Kh ((Below.refl _ w0).drew.trans hb1:Below w0.heap.size w0 w1);clear hb1;(first|with_reducible refine hK.out _ _ ?_ (fun hHeld1=>?_) |(go_wp2_with fail;with_reducible refine hK.out _ _ ?_ (fun hHeld1=>?_))))
 focus((try dsimp only);exact HSE.out _ HB1.out)
 focus(clear hK K;(try simp only[Act.put,lsa,lsz,lss]))
 refine tkE 5 ?_;refine tkE 6 ?_
 refine laE 7 rfl (fun K hK=>?_)
 go_simp
 refine hK.out _ _ ?_
 clear hK K
 (try simp only[Act.put,lsa,lsz,lss])
 have HX1:=Kh (HX0.out.below_ HB1.out HX0.out.lt)
 have HW1:=Kh (HB0.out.trans (HB1.out.mono HB0.out.size))
 clear x0 HSE HB1 hHeld0 hHeld1 HSP HX0 HB0 hfd
 have x0:=HX1.out.at_ 0 rfl
 have x1:=HX1.out.at_ 1 rfl
 have x2:=HX1.out.at_ 2 rfl
 have x3:=HX1.out.at_ 3 rfl
 have x4:=HX1.out.at_ 4 rfl
 obtain⟨e1,he1⟩:∃ e1,cuspE p q=e1:=⟨_,rfl⟩
 obtain⟨e2,he2⟩:∃ e2,cuspE p' q'=e2:=⟨_,rfl⟩
 have HE1:=Kh he1
 have HE2:=Kh he2
 rw[he1]at HCC
 rw[he2]at HCC'
 clear he1 he2
 go_wp2_with fail
 refine(HCC.out w1).mono ?_
 rintro e w2 ⟨rfl,hb2⟩
 have HX2:=Kh (bk HX1 hb2)
 have HW2:=bt HW1 hb2
 clear x0 x1 x2 x3 x4 hb2 HX1 HW1
 by_cases h1:e1=0
 ·have x0:=HX2.out.at_ 0 rfl
  have x1:=HX2.out.at_ 1 rfl
  have x2:=HX2.out.at_ 2 rfl
  have x3:=HX2.out.at_ 3 rfl
  have x4:=HX2.out.at_ 4 rfl
  have h1n:(e1 != 0)=false:=by rw[h1];rfl
  go_wp2_with fail
  refine(HCC'.out w2).mono ?_
  rintro e w3 ⟨rfl,hb3⟩
  have HX3:=Kh (bk HX2 hb3)
  have HW3:=bt HW2 hb3
  clear x0 x1 x2 x3 x4 hb3 HX2 HW2
  by_cases h2:e2=0
  ·have x0:=HX3.out.at_ 0 rfl
   have x1:=HX3.out.at_ 1 rfl
   have x2:=HX3.out.at_ 2 rfl
   have x3:=HX3.out.at_ 3 rfl
   have x4:=HX3.out.at_ 4 rfl
   have h2n:(e2 != 0)=false:=by rw[h2];rfl
   go_wp2_with fail
   refine(HCH.out w3 (HE1.out.trans h1) (HE2.out.trans h2)).mono ?_
   rintro e w4 ⟨⟨ch,gc,oc,cc,rfl,hg,hcat,hok⟩,hb4⟩
   have HX4:=Kh (bk HX3 hb4)
   have HW4:=bt HW3 hb4
   have HC4:=Kh (HCO.out w4 gc oc cc ch HW4.out hg hcat hok)
   have HOK:=Kh hok
   clear x0 x1 x2 x3 x4 hb4 HX3 HW3 hcat hg hok HCO HCH HCC HCC'
   have x0:=HX4.out.at_ 0 rfl
   go_wp2_with fail
   refine HC4.out.mono ?_
   rintro e w5 ⟨⟨g,rfl,hge,hrow⟩,hb5⟩
   have HR:=Kh (QRow.congr hrow (fun j hj=>by
    have hj':j<F.length:=hj
    have hf:F.getD j 0∈F:=getD_mem hj'
    show IsQ (stC (fun i=>Rat.divInt (x i) (y i)) n wt D X ch (F.getD j 0) (ch.length - 1))=_
    rw[HV.out ch HOK.out _ hf]))
   have HSS:=Kh (show ∀ j,j<F.length→hq (Pot (stepQ n wt D (fun i=>X i (F.getD j 0)) (fun i=>Rat.divInt (x i) (y i))) (p',q') - Pot (stepQ n wt D (fun i=>X i (F.getD j 0)) (fun i=>Rat.divInt (x i) (y i))) (p,q))≤430000000 from fun j hj=>by
    have hf:F.getD j 0∈F:=getD_mem hj
    rw[← HV.out ch HOK.out _ hf]
    exact HSZ.out ch HOK.out _ hf)
   have HB5:=bt HW4 hb5
   have HGE:=Kh (Nat.le_trans HW4.out.size hge)
   clear hrow hb5 x0 hge
   go_wp2
   (first|go_ret2|go_ret)
   exact⟨.inr ⟨⟨HE1.out.trans h1,HE2.out.trans h2⟩,g,rfl,HGE.out,HR.out,HSS.out⟩,HB5.out⟩
  ·have h2n:(e2 != 0)=true:=by rw[bne_iff_ne];exact h2
   clear HCO HCH HCC HCC'
   go_wp2
   (first|go_ret2|go_ret)
   exact⟨.inl ⟨.inr (by rw[HE2.out];exact h2),e2,h2,rfl⟩,HW3.out⟩
 ·have h1n:(e1 != 0)=true:=by rw[bne_iff_ne];exact h1
  clear HCO HCH HCC HCC'
  go_wp2
  (first|go_ret2|go_ret)
  exact⟨.inl ⟨.inl (by rw[HE1.out];exact h1),e1,h1,rfl⟩,HW2.out⟩
theorem CoRet.uni {w w':World} {e:Ending} {p q p' q':Int} {n wt:Nat} {D:Int} {F:List Nat} {X:Nat→Nat→Rat} {Q:Nat→Rat} (h:CoRet w w' e p q p' q' n wt D F X Q):
  ∃ pU nU cU er,e=.returned (.tuple #[.slice pU nU cU,.int .i64 er])∧(er=0↔cuspE p q=0∧cuspE p' q'=0)∧(er=0→∃ g,pU=some ⟨g,0,none⟩∧nU=F.length∧cU=F.length∧w.heap.size≤g∧QRow (fun j=>IsQ (Pot (stepQ n wt D (fun i=>X i (F.getD j 0)) Q) (p',q') - Pot (stepQ n wt D (fun i=>X i (F.getD j 0)) Q) (p,q))) w' g F.length F.length∧∀ j,j<F.length→hq (Pot (stepQ n wt D (fun i=>X i (F.getD j 0)) Q) (p',q') - Pot (stepQ n wt D (fun i=>X i (F.getD j 0)) Q) (p,q))≤430000000):=by
 rcases h with⟨h1,er,h0,he⟩ |⟨h1,g,he,h2,h3,h4⟩
 ·exact⟨none,0,0,er,he,⟨fun h=>absurd h h0,fun h=>by rcases h1 with h1|h1;exact absurd h.1 h1;exact absurd h.2 h1⟩,fun h=>absurd h h0⟩
 ·exact⟨some ⟨g,0,none⟩,F.length,F.length,0,he,⟨fun _=>h1,fun _=>rfl⟩,fun _=>⟨g,rfl,rfl,rfl,h2,h3,h4⟩⟩
end Go.Proofs.YtijgdhijdfgpfaaGreatDoor
namespace Go.Proofs.YtijgdhijdfgpfaaGreatDoor
namespace Eli
open Sie
def RSp (rows:Nat→Nat→Int) (k:Nat) (u:Nat→Rat):Prop:=∃ z:Nat→Rat,∀ q,u q=sumQ (fun i=>z i*(rows i q:Rat)) k
theorem RSp.nil (rows:Nat→Nat→Int) (k:Nat):RSp rows k (fun _=>0):=⟨fun _=>0,fun q=>(sumQ_zero (fun i _=>by grind)).symm⟩
theorem RSp.combine {rows:Nat→Nat→Int} {k:Nat} {u v:Nat→Rat} (hu:RSp rows k u) (c:Rat) (hv:RSp rows k v):RSp rows k (fun q=>u q+c*v q):=by
 obtain⟨y,ey⟩:=hu
 obtain⟨z,ez⟩:=hv
 refine⟨fun j=>y j+c*z j,fun q=>?_⟩
 dsimp only
 rw[ey,ez,← sumQ_mul,← sumQ_add]
 exact sumQ_congr fun i _=>by grind
theorem RSp.congr {rows:Nat→Nat→Int} {k:Nat} {u v:Nat→Rat} (hu:RSp rows k u) (h:∀ q,v q=u q):RSp rows k v:=by
 obtain⟨y,ey⟩:=hu
 exact⟨y,fun q=>by rw[h,ey]⟩
theorem RSp.mono {rows:Nat→Nat→Int} {k k':Nat} {u:Nat→Rat} (hu:RSp rows k u) (h:k≤k'):RSp rows k' u:=by
 obtain⟨y,ey⟩:=hu
 refine⟨fun j=>if j<k then y j else 0,fun q=>?_⟩
 rw[ey,sumQ_tail h (fun i h1 _=>by simp only[if_neg (Nat.not_lt.2 h1)];grind)]
 exact sumQ_congr fun i hi=>by simp only[if_pos hi]
theorem RSp.row {rows:Nat→Nat→Int} {k i:Nat} (hi:i<k):RSp rows k (fun q=>(rows i q:Rat)):=by
 refine⟨fun j=>if j=i then 1 else 0,fun q=>?_⟩
 rw[sumQ_single hi (fun j _ hne=>by simp only[if_neg hne];grind)]
 simp
theorem RSp.sum {rows:Nat→Nat→Int} {k:Nat} {L:Nat→Nat→Rat} {z:Nat→Rat}:∀ t,(∀ j,j<t→z j=0∨RSp rows k (L j))→RSp rows k (fun q=>sumQ (fun j=>z j*L j q) t)
 | 0,_=>(RSp.nil rows k).congr (fun _=>rfl)
 | t+1,h=>by
  have h1:=RSp.sum t (fun j hj=>h j (by omega)) (rows:=rows) (k:=k) (L:=L) (z:=z)
  rcases h t (Nat.lt_succ_self _)with h2|h2
  ·exact h1.congr (fun q=>by rw[sumQ,h2];grind)
  ·exact(h1.combine (z t) h2).congr (fun q=>by rw[sumQ])
theorem RSp.of_sp {rows:Nat→Nat→Int} {k t:Nat} {ld:Nat→Bool} {L:Nat→Nat→Rat} {u:Nat→Rat} (hu:Sp ld L t u) (h:∀ j,j<t→ld j=true→RSp rows k (L j)):RSp rows k u:=by
 obtain⟨z,hz,ez⟩:=hu
 refine(RSp.sum (L:=L) (z:=z) t (fun j hj=>?_)).congr ez
 cases hl:ld j with
 | false=>exact .inl (hz j hj hl)
 | true=>exact .inr (h j hj hl)
theorem Sp.sum {ld:Nat→Bool} {L:Nat→Nat→Rat} {t:Nat} {R:Nat→Nat→Rat} {z:Nat→Rat}:∀ k,(∀ j,j<k→z j=0∨Sp ld L t (R j))→Sp ld L t (fun q=>sumQ (fun j=>z j*R j q) k)
 | 0,_=>(Sp.nil ld L t).congr (fun _=>rfl)
 | k+1,h=>by
  have h1:=Sp.sum k (fun j hj=>h j (by omega)) (ld:=ld) (L:=L) (t:=t) (R:=R) (z:=z)
  rcases h k (Nat.lt_succ_self _)with h2|h2
  ·exact h1.congr (fun q=>by rw[sumQ,h2];grind)
  ·exact(h1.combine (z k) h2).congr (fun q=>by rw[sumQ])
theorem RSp.sp {rows:Nat→Nat→Int} {k t:Nat} {ld:Nat→Bool} {L:Nat→Nat→Rat} {u:Nat→Rat} (hu:RSp rows k u) (h:∀ i,i<k→Sp ld L t (fun q=>(rows i q:Rat))):Sp ld L t u:=by
 obtain⟨z,ez⟩:=hu
 exact(Sp.sum (R:=fun i q=>(rows i q:Rat)) (z:=z) k (fun j hj=>.inr (h j hj))).congr ez
theorem Sp.trim {ld:Nat→Bool} {L:Nat→Nat→Rat} {t n:Nat} {u:Nat→Rat} (hu:Sp ld L t u) (h:∀ j,n≤j→ld j=false):Sp ld L n u:=by
 by_cases ht:t≤n
 ·exact hu.mono ht
 ·obtain⟨z,hz,ez⟩:=hu
  refine⟨z,fun j hj hl=>hz j (by omega) hl,fun q=>?_⟩
  rw[ez]
  exact sumQ_tail (by omega) (fun i h1 h2=>by rw[hz i h2 (h i h1)];grind)
theorem Good.high {n B:Nat} {leads:Nat→List (Nat×Rat)} (h:Good n B leads) (j:Nat) (hj:n≤j):ldOf leads j=false:=ldOf_false ((h.ord j).top hj)
theorem put_facts {leads:Nat→List (Nat×Rat)} {x:Nat×Rat} {r:List (Nat×Rat)} (hno:leads x.1=[]):
  ldOf (Eli.put leads (x :: r)) x.1=true∧(∀ q,rowOf (Eli.put leads (x :: r)) x.1 q=1 / x.2*val (x :: r) q) ∧
  (∀ j,j≠x.1→ldOf (Eli.put leads (x :: r)) j=ldOf leads j∧rowOf (Eli.put leads (x :: r)) j=rowOf leads j) ∧
  ∀ t u,Sp (ldOf leads) (rowOf leads) t u→Sp (ldOf (Eli.put leads (x :: r))) (rowOf (Eli.put leads (x :: r))) t u:=by
 obtain⟨L',hL'⟩:∃ L',Eli.put leads (x :: r)=L':=⟨_,rfl⟩
 have e1:L' x.1=scl (x :: r):=by rw[← hL'];exact if_pos rfl
 have e2:∀ j,j≠x.1→L' j=leads j:=fun j hj=>by rw[← hL'];exact if_neg hj
 have e3:scl (x :: r)≠[]:=by rw[scl,List.map_cons];exact List.cons_ne_nil _ _
 have hld:ldOf L' x.1=true:=ldOf_true (by rw[e1];exact e3)
 have hld2:∀ j,j≠x.1→ldOf L' j=ldOf leads j:=fun j hj=>by rw[ldOf,e2 j hj];rfl
 have hro:∀ j,j≠x.1→rowOf L' j=rowOf leads j:=fun j hj=>by funext q;rw[rowOf,rowOf,hld2 j hj,e2 j hj]
 have hrx:∀ q,rowOf L' x.1 q=1 / x.2*val (x :: r) q:=fun q=>by rw[rowOf,hld,if_pos rfl,e1,val_scl]
 rw[hL']
 refine⟨hld,hrx,fun j hj=>⟨hld2 j hj,hro j hj⟩,fun t u hu=>hu.turn fun j _ hl=>?_⟩
 have hne:j≠x.1:=fun e=>by rw[e,ldOf_false hno]at hl;cases hl
 exact⟨by rw[hld2 j hne];exact hl,hro j hne⟩
theorem put_new {n B:Nat} {leads:Nat→List (Nat×Rat)} {v:Nat→Int} {t:Nat} {x:Nat×Rat} {r:List (Nat×Rat)} (h:Good n B leads) (hr:RowOk n leads v t (x :: r)) (hs:red leads (x :: r)=x :: r):leads x.1=[]:=by
 refine Classical.byContradiction fun hl=>?_
 obtain⟨⟨ho,_⟩,_⟩:=hr.step h hl
 rw[hs]at ho
 have:=ho.1
 omega
theorem elim_span {n B:Nat} {rows:Nat→Nat→Int} (hB:1≤B) (hb:∀ i q,(rows i q).natAbs≤B) (h0:∀ i q,n≤q→rows i q=0) (k:Nat):
  (∀ i,i<k→Sp (ldOf (elim n rows k)) (rowOf (elim n rows k)) n (fun q=>(rows i q:Rat)))∧∀ j,ldOf (elim n rows k) j=true→RSp rows k (rowOf (elim n rows k) j):=by
 induction k with
 | zero=>exact⟨fun i hi=>absurd hi (Nat.not_lt_zero _),fun j hj=>by cases hj⟩
 | succ k ih=>
  obtain⟨ih1,ih2⟩:=ih
  have hg:=Good.elim hB hb h0 k
  have hr:=RowOk.first n (Eli.elim n rows k) (rows k) (h0 k)
  obtain⟨t,h1,_⟩:=hr.steps hg n
  have hs:=hr.end_still hg
  rw[show elim n rows (k+1)=Eli.put (elim n rows k) (redN (elim n rows k) n (spr (rows k) n))from rfl]
  generalize redN (elim n rows k) n (spr (rows k) n)=r at h1 hs ⊢
  generalize elim n rows k=leads at ih1 ih2 hg h1 hs ⊢
  obtain⟨ho,u,hu,he⟩:=h1
  have hun:=hu.trim hg.high
  have hur:RSp rows k u:=RSp.of_sp hu (fun j _ hj=>ih2 j hj)
  cases r with
  | nil=>
   refine⟨fun i hi=>?_,fun j hj=>(ih2 j hj).mono (Nat.le_succ _)⟩
   by_cases e:i=k
   ·subst e
    exact hun.congr (fun q=>by rw[he,val_nil];grind)
   ·exact ih1 i (by omega)
  | cons x r=>
   have hno:=put_new hg ⟨ho,u,hu,he⟩ hs
   obtain⟨f1,f2,f3,f4⟩:=put_facts (r:=r) hno
   have hx:=ho.2.2.1
   have hxn:=ho.2.1
   refine⟨fun i hi=>?_,fun j hj=>?_⟩
   ·by_cases e:i=k
    ·subst e
     refine((f4 _ _ hun).combine x.2 (Sp.lead hxn f1)).congr (fun q=>?_)
     rw[he,f2]
     grind
    ·exact f4 _ _ (ih1 i (by omega))
   ·by_cases e:j=x.1
    ·subst e
     have h2:RSp rows (k+1) (fun q=>(rows k q:Rat)+(-1)*u q):=(RSp.row (Nat.lt_succ_self _)).combine (-1) (hur.mono (Nat.le_succ _))
     refine((RSp.nil rows (k+1)).combine (1 / x.2) h2).congr (fun q=>?_)
     rw[f2,he]
     grind
    ·obtain⟨g1,g2⟩:=f3 j e
     rw[g1]at hj
     rw[g2]
     exact(ih2 j hj).mono (Nat.le_succ _)
theorem Inv.unique {B:Nat} {ld:Nat→Bool} {L:Nat→Nat→Rat} {R:Nat→Nat→Int} (h:Inv B ld L R) {n:Nat} {x y u v:Nat→Rat} (hu:Sp ld L n u) (hv:Sp ld L n v)
  (he:∀ q,q<n→sumQ (fun f=>(if ld f then 0 else x f)*L f q) n+u q=sumQ (fun f=>(if ld f then 0 else y f)*L f q) n+v q):∀ f,f<n→ld f=false→x f=y f:=by
 obtain⟨a,ha,ea⟩:=hu
 obtain⟨b,hb,eb⟩:=hv
 have h1:=h.tri (t:=n) (z:=fun j=>((if ld j then 0 else x j)+a j)+(-1)*((if ld j then 0 else y j)+b j)) (fun q hq=>by
  have e:=he q hq
  rw[ea,eb]at e
  have e2:sumQ (fun j=>(((if ld j then 0 else x j)+a j)+(-1)*((if ld j then 0 else y j)+b j))*L j q) n
    =(sumQ (fun f=>(if ld f then 0 else x f)*L f q) n+sumQ (fun j=>a j*L j q) n)+(-1)*(sumQ (fun f=>(if ld f then 0 else y f)*L f q) n+sumQ (fun j=>b j*L j q) n):=by
   rw[← sumQ_add,← sumQ_add,← sumQ_mul,← sumQ_add]
   exact sumQ_congr fun i _=>by grind
  rw[e2,e]
  grind)
 intro f hf hl
 have h2:=h1 f hf
 rw[ha f hf hl,hb f hf hl,hl]at h2
 simp only[Bool.false_eq_true,if_false]at h2
 grind
theorem class_of {n B:Nat} {leads:Nat→List (Nat×Rat)} (h:Good n B leads) (V:Nat→Rat):∀ m,m≤n →
  ∃ u,Sp (ldOf leads) (rowOf leads) n u∧∀ q,(if q<m then V q else 0)=sumQ (fun f=>(if ldOf leads f then 0 else sumQ (fun j=>V j*crd leads n n j f) m)*rowOf leads f q) n+u q
 | 0,_=>⟨fun _=>0,Sp.nil _ _ _,fun q=>by
   rw[if_neg (Nat.not_lt_zero _),sumQ_zero (fun i _=>?_)]
   ·grind
   ·rw[sumQ];split <;> grind⟩
 | m+1,hm=>by
  obtain⟨u,hu,eu⟩:=class_of h V m (by omega)
  obtain⟨w,hw,ew⟩:=said h n m (by omega) (by omega) n (by omega) (Nat.le_refl _)
  refine⟨_,hu.combine (V m) hw,fun q=>?_⟩
  have e1:(if q<m+1 then V q else 0)=(if q<m then V q else 0)+V m*(if q=m then(1:Rat)else 0):=by
   by_cases h1:q=m
   ·rw[h1,if_pos (by omega),if_neg (by omega),if_pos rfl];grind
   ·rw[if_neg h1]
    by_cases h2:q<m
    ·rw[if_pos (by omega),if_pos h2];grind
    ·rw[if_neg (by omega),if_neg h2];grind
  have e2:sumQ (fun f=>(if ldOf leads f then 0 else sumQ (fun j=>V j*crd leads n n j f) (m+1))*rowOf leads f q) n=sumQ (fun f=>(if ldOf leads f then 0 else sumQ (fun j=>V j*crd leads n n j f) m)*rowOf leads f q) n+V m*sumQ (fun f=>(if ldOf leads f then 0 else crd leads n n m f)*rowOf leads f q) n:=by
   rw[← sumQ_mul,← sumQ_add]
   refine sumQ_congr fun f _=>?_
   rw[sumQ]
   split <;> grind
  rw[e1,eu,ew,e2]
  grind
theorem class_zero {n B:Nat} {leads:Nat→List (Nat×Rat)} (h:Good n B leads) {V:Nat→Rat} (hV:Sp (ldOf leads) (rowOf leads) n V) {f:Nat} (hf:f<n) (hl:leads f=[]):sumQ (fun j=>V j*crd leads n n j f) n=0:=by
 obtain⟨u,hu,eu⟩:=class_of h V n (Nat.le_refl _)
 obtain⟨R,hi⟩:=h.inv
 exact hi.unique (x:=fun f=>sumQ (fun j=>V j*crd leads n n j f) n) (y:=fun _=>0) hu hV (fun q hq=>by
  rw[← eu,if_pos hq,sumQ_zero (fun i _=>?_)]
  ·grind
  ·split <;> grind) f hf (ldOf_false hl)
end Eli
end Go.Proofs.YtijgdhijdfgpfaaGreatDoor
namespace Go.Proofs.YtijgdhijdfgpfaaGreatDoor
open Eli
theorem relZ_of {n wt:Nat} {D:Int} (hw:wt≤22) {f:Nat} (hf:f∈frs (elF n wt D) (cntF n wt)):RelZ n wt D (fun j=>crd (elF n wt D) (cntF n wt) (cntF n wt) j f):=by
 intro r hr
 obtain⟨h1,h2⟩:=frs_mem.1 hf
 have h:=class_zero (elF_good hw) ((elim_span (by omega) (rowF_small (relF_small hw)) (rowF_zero _ _) _).1 r hr) h1 h2
 rw[← h]
 refine sumQ_congr (fun k hk=>?_)
 have hk':k<cntF n wt:=hk
 have e:rowF (cntF n wt) (relF n wt D) r k=relOf n wt D r k:=by
  unfold rowF relF
  rw[if_pos hk']
  have e1:(r*cntF n wt+k) / ((wt+1)*(pts n (n*n)).length)=r:=by
   show(r*cntF n wt+k) / cntF n wt=r
   rw[Nat.mul_comm,Nat.mul_add_div (by omega),Nat.div_eq_of_lt hk',Nat.add_zero]
  have e2:(r*cntF n wt+k) % ((wt+1)*(pts n (n*n)).length)=k:=by
   show(r*cntF n wt+k) % cntF n wt=k
   rw[Nat.mul_comm,Nat.mul_add_mod,Nat.mod_eq_of_lt hk']
  rw[e1,e2]
 rw[e]
end Go.Proofs.YtijgdhijdfgpfaaGreatDoor
namespace Go.Proofs.YtijgdhijdfgpfaaGreatDoor
open Go.RowKit Eli
abbrev C0_4 (B:Nat) (w0 w:World) (b0 b1 b2 b3:Addr):Prop:=w.cell? b0=some (cellOf w b0)∧w.frozen? b0=false∧Sts w b0.block∧w.cell? b1=some (cellOf w b1)∧w.frozen? b1=false∧Sts w b1.block∧w.cell? b2=some (cellOf w b2)∧w.frozen? b2=false∧Sts w b2.block∧w.cell? b3=some (cellOf w b3)∧w.frozen? b3=false∧Sts w b3.block∧Below B w0 w∧B≤w.heap.size
theorem S0_4_next {B:Nat} {w0 w w':World} {b0 b1 b2 b3:Addr} (hb:Below w.heap.size w w') (h:C0_4 B w0 w b0 b1 b2 b3):C0_4 B w0 w' b0 b1 b2 b3:=SS.next (B:=B) (w0:=w0) (l:=([]:List (Addr×Value))) (m:=[b0,b1,b2,b3]) hb h
theorem S0_4_put {B:Nat} {w0 w:World} {b0 b1 b2 b3:Addr} (h:C0_4 B w0 w b0 b1 b2 b3) {p0 p1 p2 p3:Addr} {u0 u1 u2 u3:Value} (hi0:NotInt u0) (hp0:B≤p0.block) (hi1:NotInt u1) (hp1:B≤p1.block) (hi2:NotInt u2) (hp2:B≤p2.block) (hi3:NotInt u3) (hp3:B≤p3.block):C0_4 B w0 ((((w.setCell p0 u0).setCell p1 u1).setCell p2 u2).setCell p3 u3) b0 b1 b2 b3:=(SS.put (B:=B) (w0:=w0) (l:=([]:List (Addr×Value))) (m:=[b0,b1,b2,b3]) (SS.put (B:=B) (w0:=w0) (l:=([]:List (Addr×Value))) (m:=[b0,b1,b2,b3]) (SS.put (B:=B) (w0:=w0) (l:=([]:List (Addr×Value))) (m:=[b0,b1,b2,b3]) (SS.put (B:=B) (w0:=w0) (l:=([]:List (Addr×Value))) (m:=[b0,b1,b2,b3]) h p0 u0 hi0 hp0 (by simp[*])) p1 u1 hi1 hp1 (by simp[*])) p2 u2 hi2 hp2 (by simp[*])) p3 u3 hi3 hp3 (by simp[*]))
theorem frac_val {n:Int} {d g:Nat} (hd:0<d) (hg:Nat.gcd n.natAbs d=g):(Rat.divInt n d).num=Int.tdiv n g∧((Rat.divInt n d).den:Int)=Int.tdiv (d:Int) g:=by
 have h0:(0:Int)<(d:Int):=by omega
 have hgd:Int.gcd n (d:Int)=g:=hg
 have hgp:0<g:=by rw[← hg];exact Nat.gcd_pos_of_pos_right _ hd
 have h1:=over_num (n:=n) h0
 have h2:=over_den (n:=n) h0
 rw[hgd]at h1 h2
 have hdv:((g:Nat):Int)∣n:=by rw[← hgd];exact Int.gcd_dvd_left ..
 rw[h1,h2]
 refine⟨?_,?_⟩
 ·rw[Int.tdiv_eq_ediv]
  by_cases hn:0≤n
  ·rw[if_pos (.inl hn),Int.add_zero]
  ·rw[if_pos (.inr hdv),Int.add_zero]
 ·rw[Int.tdiv_eq_ediv_of_nonneg (by omega)]
theorem c_Frac (n:Int) (d:Nat) (w:World) (hn:-1000000≤n) (hn':n≤1000000) (hd:0<d) (hd':d≤1000000):
  Calls Tryz.prog 43 #[.int .i64 n,.int .i64 d] w fun e w'=>RetQ w' e (Rat.divInt n d)∧Below w.heap.size w w':=by
 obtain⟨g,hg⟩:∃ g,Nat.gcd n.natAbs d=g:=⟨_,rfl⟩
 have hgp:0<g:=by rw[← hg];exact Nat.gcd_pos_of_pos_right _ hd
 have hgd:g≤d:=by rw[← hg];exact Nat.gcd_le_right _ hd
 obtain⟨e1,e2⟩:=frac_val (n:=n) hd hg
 obtain⟨P,hP⟩:∃ P,Int.tdiv n (g:Int)=P:=⟨_,rfl⟩
 obtain⟨Q,hQ⟩:∃ Q,Int.tdiv (d:Int) (g:Int)=Q:=⟨_,rfl⟩
 have hPl:-1000000≤P∧P≤1000000:=by
  have h:(Int.tdiv n (g:Int)).natAbs≤n.natAbs:=by rw[Int.natAbs_tdiv];exact Nat.div_le_self _ _
  rw[hP]at h;omega
 have hQl:-1000000≤Q∧Q≤1000000:=by
  have h:(Int.tdiv (d:Int) (g:Int)).natAbs≤(d:Int).natAbs:=by rw[Int.natAbs_tdiv];exact Nat.div_le_self _ _
  rw[hQ]at h;omega
 obtain⟨hP1,hP2⟩:=hPl
 obtain⟨hQ1,hQ2⟩:=hQl
 rw[hP]at e1
 rw[hQ]at e2
 have HE:=Kh (And.intro e1 e2)
 have HZ1:=Kh (fun w1=>c_Z P w1 (by omega) (by omega))
 have HZ2:=Kh (fun w1=>c_Z Q w1 (by omega) (by omega))
 have HG:=Kh hg
 have hmx:(if n < -n then -n else n)=(n.natAbs:Int):=by split <;> omega
 have hdi:¬ ((d:Int)<0):=by omega
 clear e1 e2 hg
 go_enter Tryz.func43,Tryz.ntmps43
 go_wp2_with fail
 obtain⟨w0,hw0,X0,hb0⟩:=bx1 w #[.bool false,.slice none 0 0,.bool false,.slice none 0 0] 67
 rw[hw0]
 have HX0:=Kh X0
 have HB0:=Kh hb0
 have hmx2:max n (-n)=(n.natAbs:Int):=by omega
 rw[hmx2]
 have HNA:=Kh (show n.natAbs≤1000000 by omega)
 clear hw0 X0 hb0 hmx hmx2
 go_loopw [5,6] (fun x y wr=>∃ a b:Nat,x=.int .i64 a∧y=.int .i64 b∧Nat.gcd a b=g∧a≤1000000∧b≤1000000∧∃ m,wr=w0.drewN m) (fun _ y _=>(intOf y).toNat)
 case atStart=>exact⟨n.natAbs,d,rfl,rfl,HG.out,HNA.out,hd',0,rfl⟩
 case round=>
  obtain⟨a,b,rfl,rfl,hab,ha,hb,m,rfl⟩:=hrel
  rcases Nat.eq_zero_or_pos b with rfl|hbp
  ·rw[Nat.gcd_zero_right]at hab
   subst hab
   have hb1:Below w0.heap.size w0 (w0.drewN m):=below_drewN' (Below.refl _ _) m
   generalize w0.drewN m=wq at hb1 ⊢
   have hx1:=bk HX0 hb1
   have HX1:=Kh hx1
   have HB1:=bt HB0 hb1
   obtain⟨gr,hgr⟩:∃ x,w.heap.size=x:=⟨_,rfl⟩
   rw[hgr]at hx1 HX1 ⊢
   have HGR:=Kh hgr
   have T0:=Sts.of hx1 (by intro v hv;simp at hv;rcases hv with rfl|rfl|rfl|rfl <;> first|exact NotInt.bool _|exact NotInt.slice _ _ _)
   have HT0:=Kh T0
   have hgl:gr<wq.heap.size:=hx1.lt
   have v1:IntKind.i64.wrap P=P:=IntWalk.i64_in _ (by omega)
   have v2:IntKind.i64.wrap Q=Q:=IntWalk.i64_in _ (by omega)
   have e5:((a:Int)==0)=false:=beq_eq_false_iff_ne.2 (by omega)
   have e6:a≠0:=by omega
   clear hb1 hgr HB0 HX0
   go_upto_region 6 with(fail)
   have HK1:=Kh (show ∀ wb,Below wq.drew.heap.size wq.drew wb→Below wq.heap.size wq wb from fun wb hb=>(Below.refl _ wq).drew.trans hb)
   have HK2:=Kh (show ∀ wa wb,Below wq.heap.size wq wa→Below wa.heap.size wa wb→Below wq.heap.size wq wb from fun wa wb h1 h2=>h1.trans (h2.mono h1.size))
   have hS0:wq.drew.cell? ⟨gr,0,none⟩=some (cellOf wq.drew ⟨gr,0,none⟩)∧wq.drew.frozen? ⟨gr,0,none⟩=false∧Sts wq.drew (gr)∧wq.drew.cell? ⟨gr,1,none⟩=some (cellOf wq.drew ⟨gr,1,none⟩)∧wq.drew.frozen? ⟨gr,1,none⟩=false∧Sts wq.drew (gr)∧wq.drew.cell? ⟨gr,2,none⟩=some (cellOf wq.drew ⟨gr,2,none⟩)∧wq.drew.frozen? ⟨gr,2,none⟩=false∧Sts wq.drew (gr)∧wq.drew.cell? ⟨gr,3,none⟩=some (cellOf wq.drew ⟨gr,3,none⟩)∧wq.drew.frozen? ⟨gr,3,none⟩=false∧Sts wq.drew (gr)∧Below 0 wq wq.drew∧0≤wq.drew.heap.size:=S0_4_next (Below.refl _ wq).drew ⟨cellOf_some (by rw[hx1.at_ 0 rfl];rfl),hx1.free_ 0,T0,cellOf_some (by rw[hx1.at_ 1 rfl];rfl),hx1.free_ 1,T0,cellOf_some (by rw[hx1.at_ 2 rfl];rfl),hx1.free_ 2,T0,cellOf_some (by rw[hx1.at_ 3 rfl];rfl),hx1.free_ 3,T0,(Below.refl 0 wq),Nat.le_trans (Nat.zero_le _) (Below.size (Below.refl 0 wq))⟩
   clear hx1 T0
   have M1:True:=trivial
   go_region_held3 (fun w1=>w1.cell? ⟨gr,0,none⟩=some (cellOf w1 ⟨gr,0,none⟩)∧w1.frozen? ⟨gr,0,none⟩=false∧Sts w1 (gr)∧w1.cell? ⟨gr,1,none⟩=some (cellOf w1 ⟨gr,1,none⟩)∧w1.frozen? ⟨gr,1,none⟩=false∧Sts w1 (gr)∧w1.cell? ⟨gr,2,none⟩=some (cellOf w1 ⟨gr,2,none⟩)∧w1.frozen? ⟨gr,2,none⟩=false∧Sts w1 (gr)∧w1.cell? ⟨gr,3,none⟩=some (cellOf w1 ⟨gr,3,none⟩)∧w1.frozen? ⟨gr,3,none⟩=false∧Sts w1 (gr)∧Below 0 wq w1∧0≤w1.heap.size)
    (first|with_reducible exact hS0|with_reducible assumption |(refine S0_4_next (by with_reducible assumption) ?_;assumption) |(refine S0_4_put ?_ ?_ ?_ ?_ ?_ ?_ ?_ ?_ ?_ <;> first|assumption|exact NotInt.bool _|exact NotInt.slice _ _ _ |(dsimp only;omega) |(simp;done)))
    (first
     |(go_at_call 50;(with_reducible refine(HZ1.out _).mono ?_);rintro e w2 ⟨⟨s2,p2,n2,c2,rfl,hz2⟩,hb2⟩;have HBA:=Kh (show Below wq.heap.size wq w2 from by first|exact HK2.out _ _ HBA.out hb2|exact HK1.out _ hb2))
     |(go_at_call 50;(with_reducible refine(HZ2.out _).mono ?_);rintro e w3 ⟨⟨s3,p3,n3,c3,rfl,hz3⟩,hb3⟩;have HBA:=Kh (show Below wq.heap.size wq w3 from by first|exact HK2.out _ _ HBA.out hb3|exact HK1.out _ hb3)))
   all_goals go_wp2
   all_goals first
    |(have hqf:Qs w3 s2 p2 n2 c2 s3 p3 n3 c3 (Rat.divInt n d):=⟨by rw[HE.out.1];exact hz2.keep hb3,by rw[HE.out.2];exact hz3⟩
      have X3:=HX1.out.below_ HBA.out HX1.out.lt
      obtain⟨w9,hw9⟩:∃ w9,(((w3.setCell ⟨gr,0,none⟩ (.bool s2)).setCell ⟨gr,1,none⟩ (.slice p2 n2 c2)).setCell ⟨gr,2,none⟩ (.bool s3)).setCell ⟨gr,3,none⟩ (.slice p3 n3 c3)=w9:=⟨_,rfl⟩
      obtain⟨E0,E1,E2,E3,hq9⟩:=rat_put X3 hqf hw9
      have hb9:Below w.heap.size w w9:=by rw[← hw9];exact below_putR (HB1.out.trans (HBA.out.mono HB1.out.size)) (Nat.le_of_eq HGR.out) _ _ _ _
      rw[hw9]
      try simp only[Exit.inBlock,Exit.then]
      refine bodyPost_ret (by simp[results,Tryz.results43,go_sem,E0,E1,E2,E3];try rfl) rfl ?_
      exact⟨⟨s2,p2,n2,c2,s3,p3,n3,c3,rfl,hq9⟩,hb9⟩)
    |(have hqf:Qs w2 s2 p2 n2 c2 s3 p3 n3 c3 (Rat.divInt n d):=⟨by rw[HE.out.1];exact hz2,by rw[HE.out.2];exact hz3.keep hb2⟩
      have X3:=HX1.out.below_ HBA.out HX1.out.lt
      obtain⟨w9,hw9⟩:∃ w9,(((w2.setCell ⟨gr,0,none⟩ (.bool s2)).setCell ⟨gr,1,none⟩ (.slice p2 n2 c2)).setCell ⟨gr,2,none⟩ (.bool s3)).setCell ⟨gr,3,none⟩ (.slice p3 n3 c3)=w9:=⟨_,rfl⟩
      obtain⟨E0,E1,E2,E3,hq9⟩:=rat_put X3 hqf hw9
      have hb9:Below w.heap.size w w9:=by rw[← hw9];exact below_putR (HB1.out.trans (HBA.out.mono HB1.out.size)) (Nat.le_of_eq HGR.out) _ _ _ _
      rw[hw9]
      try simp only[Exit.inBlock,Exit.then]
      refine bodyPost_ret (by simp[results,Tryz.results43,go_sem,E0,E1,E2,E3];try rfl) rfl ?_
      exact⟨⟨s2,p2,n2,c2,s3,p3,n3,c3,rfl,hq9⟩,hb9⟩)
  ·have hbi:(0:Int)<(b:Int):=by omega
   have e1:Int.tmod (a:Int) (b:Int)=((a % b:Nat):Int):=by rw[Int.tmod_eq_emod_of_nonneg (by omega)];rfl
   have e2:((b:Int)==0)=false:=beq_eq_false_iff_ne.2 (by omega)
   have e3:b≠0:=by omega
   obtain⟨r,hr⟩:∃ r,a % b=r:=⟨_,rfl⟩
   have hrb:r<b:=by rw[← hr];exact Nat.mod_lt _ hbp
   have HGN:=Kh (show Nat.gcd b r=g by rw[← hr,Nat.gcd_comm b,← Nat.gcd_rec,Nat.gcd_comm];exact hab)
   rw[hr]at e1
   have v1:IntKind.i64.wrap (r:Int)=(r:Nat):=IntWalk.i64_in _ (by omega)
   clear hr hab
   go_wp2_with fail
   go_quiet (fail)
   go_wp2
   go_roundw
   case rel=>exact⟨b,r,rfl,rfl,HGN.out,hb,by omega,_,dr2 _ _ _⟩
   case measure=>simp[intOf];omega
end Go.Proofs.YtijgdhijdfgpfaaGreatDoor
