/- Contract of paths.substitute. -/
import Derived.Test.YtijgdhijdfgpfaaGreatDoorZ13
import Derived.Test.YtijgdhijdfgpfaaGreatDoorZ19
set_option linter.unusedSimpArgs false
set_option maxRecDepth 100000
set_option maxHeartbeats 8000000
namespace Go.Proofs.YtijgdhijdfgpfaaGreatDoor
open Go.RowKit
/-! Everything but one block stays -/
theorem but_below {w w':World} (g:Nat) (h:Below w.heap.size w w'):w.grownBy w' (some g):=⟨h.os,h.tape,h.output,h.size,fun k hk _=>h.block k hk⟩
theorem but_put (w:World) (g i:Nat) (v:Value):w.grownBy (w.setCell ⟨g,i,none⟩ v) (some g):=
 ⟨rfl,rfl,rfl,by simp,fun k hk hne=>Below.heap_setCell w ⟨g,i,none⟩ v k (fun e=>hne (by rw[e]))⟩
theorem but_put4 (w:World) (g i j k l:Nat) (v0 v1 v2 v3:Value):w.grownBy ((((w.setCell ⟨g,i,none⟩ v0).setCell ⟨g,j,none⟩ v1).setCell ⟨g,k,none⟩ v2).setCell ⟨g,l,none⟩ v3) (some g):=
 (((but_put w g i v0).trans (but_put _ g j v1)).trans (but_put _ g k v2)).trans (but_put _ g l v3)
theorem I32.but {w w':World} {g:Nat} (hs:Sts w g) (h:w.grownBy w' (some g)):I32 w w':=
 ⟨h.size,fun g' i n e=>h.cell e (fun e2=>by
  injection e2 with e2
  exact hs.2 i _ (by rw[← e2];exact e) _ _ rfl)⟩
theorem QE.but {P:FP} (hP:Solid P) {w w':World} {g g' i:Nat} (hs:Sts w g) (h:w.grownBy w' (some g)) (hne:g'≠g) (hq:QE P w g' i):QE P w' g' i:=by
 obtain⟨s,p,n,c,t,q,m,d,h0,h1,h2,h3,h4⟩:=hq
 have hk:∀ j v,w.cell? ⟨g',j,none⟩=some v→w'.cell? ⟨g',j,none⟩=some v:=fun j v e=>h.cell e (fun e2=>by injection e2 with e2;exact hne e2)
 exact⟨s,p,n,c,t,q,m,d,hk _ _ h0,hk _ _ h1,hk _ _ h2,hk _ _ h3,hP _ _ _ _ _ _ _ _ _ _ (I32.but hs h) h4⟩
def PL (g:Nat) (f:Nat→Rat) (w:World) (v:Value) (n:Nat):Prop:=∃ g' cap,v=.slice (some ⟨g',0,none⟩) n cap∧g<g'∧g'<w.heap.size∧∀ j,j<n→QE (IsQ (f j)) w g' (j*4)
theorem PL.keep {g:Nat} {f:Nat→Rat} {w w':World} {v:Value} {n:Nat} (h:PL g f w v n) (hb:Below w.heap.size w w'):PL g f w' v n:=by
 obtain⟨g',cap,e,h1,h2,h3⟩:=h
 exact⟨g',cap,e,h1,Nat.lt_of_lt_of_le h2 hb.size,fun j hj=>(h3 j hj).keep (IsQ.solid _) hb⟩
theorem PL.but {g:Nat} {f:Nat→Rat} {w w':World} {v:Value} {n:Nat} (h:PL g f w v n) (hs:Sts w g) (hb:w.grownBy w' (some g)):PL g f w' v n:=by
 obtain⟨g',cap,e,h1,h2,h3⟩:=h
 exact⟨g',cap,e,h1,Nat.lt_of_lt_of_le h2 hb.size,fun j hj=>(h3 j hj).but (IsQ.solid _) hs hb (by omega)⟩
theorem PL.ql {g:Nat} {f:Nat→Rat} {w:World} {v:Value} {n:Nat} (h:PL g f w v n):QL (fun j=>IsQ (f j)) w v n:=by
 obtain⟨g',cap,e,h1,h2,h3⟩:=h
 exact .inr ⟨g',0,cap,e,h2,fun j hj=>by rw[Nat.zero_add];exact h3 j hj⟩
theorem PL.congr {g:Nat} {f f':Nat→Rat} {w:World} {v:Value} {n:Nat} (h:PL g f w v n) (e:∀ j,j<n→f j=f' j):PL g f' w v n:=by
 obtain⟨g',cap,e',h1,h2,h3⟩:=h
 exact⟨g',cap,e',h1,h2,fun j hj=>by rw[← e j hj];exact h3 j hj⟩
def mixQ (f f':Nat→Rat) (k j:Nat):Rat:=if j<k then f' j else f j
theorem mixQ_zero (f f':Nat→Rat) (j:Nat):mixQ f f' 0 j=f j:=if_neg (Nat.not_lt_zero _)
theorem mixQ_all {f f':Nat→Rat} {n j:Nat} (h:j<n):mixQ f f' n j=f' j:=if_pos h
theorem mixQ_at (f f':Nat→Rat) (k:Nat):mixQ f f' k k=f k:=if_neg (Nat.lt_irrefl _)
theorem mixQ_far {f f':Nat→Rat} {k j:Nat} (hne:j≠k):mixQ f f' k j=mixQ f f' (k+1) j:=by
 unfold mixQ
 by_cases h1:j<k
 ·rw[if_pos h1,if_pos (by omega)]
 ·rw[if_neg h1,if_neg (by omega)]
theorem mixQ_put {f f':Nat→Rat} {w:World} {g n k:Nat} (h:QRow (fun j=>IsQ (mixQ f f' k j)) w g n n) (hk:k<n) {s t:Bool} {p q:Option Addr} {i c m d:Nat} (hq:Qs w s p i c t q m d (f' k)):
  QRow (fun j=>IsQ (mixQ f f' (k+1) j)) ((((w.setCell ⟨g,k*4,none⟩ (.bool s)).setCell ⟨g,k*4+1,none⟩ (.slice p i c)).setCell ⟨g,k*4+2,none⟩ (.bool t)).setCell ⟨g,k*4+3,none⟩ (.slice q m d)) g n n:=
 QRow.set (k':=n) (fun _=>IsQ.solid _) h k hk (fun j=>IsQ (mixQ f f' (k+1) j)) (IsQ.solid _) (fun j hj hne=>And.intro hj (congrArg IsQ (mixQ_far hne))) (show IsQ (mixQ f f' (k+1) k) w s p i c t q m d by unfold mixQ;rw[if_pos (Nat.lt_succ_self k)];exact hq)
theorem below_but {B:Nat} {b w w':World} {g:Nat} (h:Below B b w) (hg:w.grownBy w' (some g)) (h1:B≤w.heap.size) (h2:B≤g):Below B b w':=h.grown hg h1 (fun k hk=>by injection hk with hk;omega)
/-! The values -/
theorem linQ_step (q:Rat) (i:Nat) (a b c d:Int) (k j:Nat) (hj:j≤k+1):
  linQ (if k<i then a else c) (if k<i then b else d) (fun j=>q*(mv i a b c d k j:Int)) (k+1) j=q*(mv i a b c d (k+1) j:Int):=by
 have key:∀ a b:Int,linQ a b (fun j=>q*(mv i a b c d k j:Int)) (k+1) j=linQ a b (fun j=>q*(mv i a b c d k j:Int)) (k+1) j:=fun _ _=>rfl
 have h0:∀ e f:Int,linQ e f (fun j=>q*(mv i a b c d k j:Int)) (k+1) j=q*(lin e f (mv i a b c d k) j:Int):=by
  intro e f
  rw[lin_scaled]
  unfold linQ
  by_cases hjk:j<k+1
  ·rw[if_pos hjk]
  ·obtain rfl:j=k+1:=by omega
   rw[if_neg hjk,mv_zero i a b c d k (k+1) (Nat.lt_succ_self k)]
   simp
 rw[h0,mv]
 by_cases hk:k<i
 ·simp only[if_pos hk]
 ·simp only[if_neg hk]
theorem nd64 {a:Int} (h:-1073741824≤a) (h':a≤1073741824):nd a.natAbs≤2:=nd_le.2 (show a.natAbs<4294967296 ^ 2 by omega)
theorem hq_fracK {x y:Int} {K:Nat} (hK:1≤K) (hx:nd x.natAbs≤K) (hy:nd y.natAbs≤K):hq (Rat.divInt x y)≤K:=by
 by_cases h:y=0
 ·subst h
  simp[hq,nd_zero,nd_one']
  omega
 ·exact hq_over h hx hy
theorem hq_termK {q:Rat} {K i k j:Nat} {a b c d:Int} (hqq:hq q≤K) (ha:nd a.natAbs≤2) (hb:nd b.natAbs≤2) (hc:nd c.natAbs≤2) (hd:nd d.natAbs≤2) (hk:k≤30):hq (q*(mv i a b c d k j:Int))≤K+96:=by
 have h1:=hq_mul q ((mv i a b c d k j:Int):Rat)
 have h2:=mv_size i a b c d ha hb hc hd k j
 rw[hq_int]at h1
 omega
theorem hq_substK {q:Nat→Rat} {K w n j:Nat} {a b c d:Int} (hqq:∀ i,i<n→hq (q i)≤K) (ha:nd a.natAbs≤2) (hb:nd b.natAbs≤2) (hc:nd c.natAbs≤2) (hd:nd d.natAbs≤2) (hw:w≤30) (hn:n≤30):hq (subst q w a b c d n j)≤30*K+3880:=by
 have h1:=sumQ_size (fun i=>q i*(mv i a b c d w j:Int)) (K+96) n (fun i hi=>hq_termK (hqq i hi) ha hb hc hd hw)
 have h2:n*(K+96+1)≤30*(K+96+1):=Nat.mul_le_mul hn (Nat.le_refl _)
 unfold subst
 omega
theorem hq_subst {q:Nat→Rat} {w n j:Nat} {a b c d:Int} (hqq:∀ i,i<n→hq (q i)≤4) (ha:nd a.natAbs≤2) (hb:nd b.natAbs≤2) (hc:nd c.natAbs≤2) (hd:nd d.natAbs≤2) (hw:w≤30) (hn:n≤30):hq (subst q w a b c d n j)≤4000:=hq_substK hqq ha hb hc hd hw hn
def IsB (K:Nat) (x y:Int):FP:=fun w s p n c t q m d=>Zr w s p n c x∧Zr w t q m d y∧n≤K∧m≤K
theorem IsB.solid (K:Nat) (x y:Int):Solid (IsB K x y):=fun _ _ _ _ _ _ _ _ _ _ h hq=>⟨hq.1.i32 h,hq.2.1.i32 h,hq.2.2⟩
theorem c_substK (K:Nat) (hK1:1≤K) (hK:K≤1000000) (v:Value) (n:Nat) (x y:Nat→Int) (a b c d:Int) (w:World) (h:QL (fun j=>IsB K (x j) (y j)) w v n) (h0:0<n) (hn:n≤30) (ha:-1073741824≤a) (ha':a≤1073741824) (hb:-1073741824≤b) (hb':b≤1073741824) (hc:-1073741824≤c) (hc':c≤1073741824) (hd:-1073741824≤d) (hd':d≤1073741824):
  Calls Tryz.prog 32 #[v,.agg #[.int .i64 a,.int .i64 b,.int .i64 c,.int .i64 d]] w fun e w'=>(∃ g,e=.returned (.slice (some ⟨g,0,none⟩) n n)∧w.heap.size≤g∧QRow (fun j=>IsQ (subst (fun i=>Rat.divInt (x i) (y i)) (n - 1) a b c d n j)) w' g n n)∧Below w.heap.size w w':=by
 obtain⟨g1,o1,l1,rfl,hg1,r1⟩:=h.resolve_left (fun h=>by omega)
 obtain⟨m,hm⟩:∃ m,n=m+1:=⟨n - 1,by omega⟩
 have hmi:(n:Int) - 1=(m:Nat):=by omega
 have hmw:IntKind.i64.wrap (m:Int)=(m:Nat):=IntWalk.i64_in _ (by omega)
 have hni:(m:Int)+1=(n:Nat):=by omega
 have hmk:=makeQ n (by omega)
 have HRR:=Kh r1
 have HQS:=Kh (fun i (hi:i<n)=>show hq (Rat.divInt (x i) (y i))≤K by
  obtain⟨_,_,_,_,_,_,_,_,_,_,_,_,h5,h6,h7,h8⟩:=r1 i hi
  exact hq_fracK hK1 (Nat.le_trans h5.size h7) (Nat.le_trans h6.size h8))
 obtain⟨Q,hQ⟩:∃ Q:Nat→Rat,(fun i=>Rat.divInt (x i) (y i))=Q:=⟨_,rfl⟩
 have HQI:=Kh (fun i=>(congrFun hQ i:Rat.divInt (x i) (y i)=Q i))
 rw[hQ]
 simp only[HQI.out]at HQS
 have HPS:=Kh (fun i (hi:i<n) k (hk:k≤m) j=>hq_termK (q:=Q i) (i:=i) (k:=k) (j:=j) (HQS.out i hi) (nd64 ha ha') (nd64 hb hb') (nd64 hc hc') (nd64 hd hd') (by omega))
 have HSS:=Kh (fun i (hi:i≤n) j=>hq_substK (q:=Q) (w:=m) (n:=i) (j:=j) (fun k hk=>HQS.out k (by omega)) (nd64 ha ha') (nd64 hb hb') (nd64 hc hc') (nd64 hd hd') (by omega) (by omega))
 obtain⟨SB,hSB⟩:∃ SB:Nat→Nat→Rat,(fun i j=>subst Q m a b c d i j)=SB:=⟨_,rfl⟩
 obtain⟨PV,hPV⟩:∃ PV:Nat→Nat→Nat→Rat,(fun i k j=>Q i*(mv i a b c d k j:Int))=PV:=⟨_,rfl⟩
 have eSB:∀ i j,subst Q m a b c d i j=SB i j:=fun i j=>congrFun (congrFun hSB i) j
 have ePV:∀ i k j,Q i*(mv i a b c d k j:Int)=PV i k j:=fun i k j=>congrFun (congrFun (congrFun hPV i) k) j
 have HS0:=Kh (fun j=>(show SB 0 j=0 by rw[← eSB];rfl))
 have HS1:=Kh (fun i j=>(show SB (i+1) j=SB i j+PV i m j by rw[← eSB,← eSB,← ePV];rfl))
 have HP0:=Kh (fun i=>(show PV i 0 0=Q i by rw[← ePV];simp[mv]))
 have HP1:=Kh (fun i k j (hj:j≤k+1)=>(show linQ (if k<i then a else c) (if k<i then b else d) (PV i k) (k+1) j=PV i (k+1) j by
  have h1:=linQ_step (Q i) i a b c d k j hj
  rw[show(fun j=>Q i*(mv i a b c d k j:Int))=PV i k from funext (ePV i k),ePV]at h1
  exact h1))
 have HPZ:=Kh (fun i j (h:Q i=0)=>(show PV i m j=0 by rw[← ePV,h,Rat.zero_mul]))
 rw[show n - 1=m by omega]
 simp only[eSB]at HSS ⊢
 simp only[ePV]at HPS
 have HAB:=Kh (And.intro (And.intro ha ha') (And.intro (And.intro hb hb') (And.intro (And.intro hc hc') (And.intro hd hd'))))
 have HM:=Kh hm
 clear h r1 ha ha' hb hb' hc hc' hd hd' eSB ePV hSB hPV hQ hm
 go_enter Tryz.func32,Tryz.ntmps32
 go_upto_region 3 with(fail)
 obtain⟨wm,hwm⟩:∃ wm,w.alloc (.cells #[.int .i64 a,.int .i64 b,.int .i64 c,.int .i64 d] 28)=wm:=⟨_,rfl⟩
 obtain⟨X0,hbm⟩:=box1 w #[.int .i64 a,.int .i64 b,.int .i64 c,.int .i64 d] 28
 rw[hwm]at X0 hbm
 have hsm:wm.heap.size=w.heap.size+1:=by rw[← hwm];simp
 have HRM:=Kh (QRow.made (fun _=>IsQ 0) wm n)
 obtain⟨wn,hwn⟩:∃ wn,wm.alloc (.cells (madeCells #[.bool false,.slice none 0 0,.bool false,.slice none 0 0] (n*4)) 67)=wn:=⟨_,rfl⟩
 have HBN:=Kh (show Below wm.heap.size wm wn from hwn▸(Below.refl _ _).alloc (Nat.le_refl _) _)
 rw[hwn]at HRM
 rw[hwm,hwn]
 have HW:=Kh hbm
 have HR:=Kh (fun j (hj:j<n)=>QE.keep (IsB.solid _ _ _) (HRR.out j hj) hbm)
 obtain⟨g,hg⟩:∃ g,w.heap.size+1=g:=⟨_,rfl⟩
 rw[hg]at hsm ⊢
 rw[hsm]at HBN HRM
 obtain⟨gm,hgm⟩:∃ gm,w.heap.size=gm:=⟨_,rfl⟩
 rw[hgm]at X0
 have HX0:=Kh X0
 have hgl:w.heap.size≤g:=by omega
 have hml:gm<g:=by omega
 have hg1l:g1<g:=by omega
 simp only[hgm]
 clear X0 hbm hwm hwn hg hmk HRR
 go_wp2
 go_loopw [21] (fun i wr=>∃ k:Nat,k≤n∧i=.int .i64 k∧QRow (fun _=>IsQ 0) wr g n k∧Below g wm wr) (fun i _=>n - (intOf i).toNat)
 case atStart=>exact⟨0,Nat.zero_le _,rfl,HRM.out,HBN.out⟩
 case round=>
  obtain⟨k,hk,rfl,hrow,hbr⟩:=hrel
  have HROW:=Kh hrow
  have HBR:=Kh hbr
  clear hrow hbr HBN HRM
  by_cases hlt:k<n
  ·go_wp2_with fail
   refine(c_qOf 0 wr (by omega) (by omega)).mono ?_
   rintro e w3 ⟨⟨s3,p3,n3,c3,t3,q3,m3,d3,rfl,hq3⟩,hb3⟩
   have hr3:=QRow.keep (fun _=>IsQ.solid _) HROW.out hb3
   have HQA:=Kh (QAt.done (QAt.set (L:=fun _=>0) hr3 hlt hq3) rfl)
   have HB3:=Kh (HBR.out.trans (hb3.mono (Nat.le_trans (Nat.le_of_eq hsm.symm) HBR.out.size)))
   obtain⟨u0,hu0⟩:=Option.isSome_iff_exists.1 (hr3.has (k*4) (by omega))
   obtain⟨u1,hu1⟩:=Option.isSome_iff_exists.1 (hr3.has (k*4+1) (by omega))
   obtain⟨u2,hu2⟩:=Option.isSome_iff_exists.1 (hr3.has (k*4+2) (by omega))
   obtain⟨u3,hu3⟩:=Option.isSome_iff_exists.1 (hr3.has (k*4+3) (by omega))
   have f0:=hr3.free (k*4) (by omega)
   have f1:=hr3.free (k*4+1) (by omega)
   have f2:=hr3.free (k*4+2) (by omega)
   have f3:=hr3.free (k*4+3) (by omega)
   clear hq3 hb3 hr3 HROW HBR
   go_wp2
   go_roundw
   case rel=>exact⟨k+1,by omega,by go_num,HQA.out,below_put4g HB3.out⟩
   case measure=>simp[intOf];omega
  ·obtain rfl:n=k:=by omega
   have HRS:=Kh (HROW.out.congr (G:=fun j=>IsQ (SB 0 j)) (fun j _=>by rw[HS0.out]))
   clear HROW hlt hk HS0
   go_wp2
   go_loopw [31] (fun ii wx=>∃ i:Nat,i≤n∧ii=.int .i64 i∧QRow (fun j=>IsQ (SB i j)) wx g n n∧Below g wm wx) (fun ii _=>n - (intOf ii).toNat)
   case atStart=>exact⟨0,Nat.zero_le _,rfl,HRS.out,HBR.out⟩
   case round=>
    obtain⟨i,hi,rfl,hrow,hbr⟩:=hrel
    obtain⟨wx,rfl⟩:∃ wx:World,wx=wr:=⟨_,rfl⟩
    clear HRS HBR
    have HROW:=Kh hrow
    have HBR:=Kh hbr
    clear hrow hbr
    by_cases hlt:i<n
    ·have hb0:=HBR.out
     have hbm:=Below.mono2 hsm hb0
     obtain⟨s',p',i1,c',t',q',m',d',a0,a1,a2,a3,hx⟩:=(HR.out i hlt).keep (IsB.solid _ _ _) hbm
     have HXE:=Kh hx
     have HSG:=Kh (fun w1 (hb:Below wx.heap.size wx w1)=>c_qSign s' p' i1 c' (x i) t' q' m' d' (y i) w1 (HXE.out.1.keep hb) (HXE.out.2.1.keep hb) (by have:=HXE.out.2.2.1;omega) (by have:=HXE.out.2.2.2;omega))
     have HNO:=Kh (fun w1 (hb:Below wx.heap.size wx w1)=>c_qNormal s' p' i1 c' (x i) t' q' m' d' (y i) w1 (HXE.out.1.keep hb) (HXE.out.2.1.keep hb) (by have:=HXE.out.2.2.1;omega) (by have:=HXE.out.2.2.2;omega))
     simp only[HQI.out]at HSG HNO
     have hii:(i:Int)<(n:Int):=by omega
     clear hx hb0 hbm
     go_wp2_with fail
     refine(HSG.out _ ((Below.refl _ _).alloc (Nat.le_refl _) _)).mono ?_
     rintro e w2 ⟨⟨sg2,rfl,hsg⟩,hb2⟩
     have HBE:=Kh (((Below.refl _ wx).alloc (Nat.le_refl _) (.cells #[.bool s',.slice p' i1 c',.bool t',.slice q' m' d'] 67)).trans (hb2.mono (by simp)))
     have hxb:=(Blk.new wx 67 #[.bool s',.slice p' i1 c',.bool t',.slice q' m' d']).below_ hb2 (by simp)
     have y0:w2.cell? ⟨wx.heap.size,0,none⟩=some (.bool s'):=hxb.at_ 0 rfl
     have y1:w2.cell? ⟨wx.heap.size,1,none⟩=some (.slice p' i1 c'):=hxb.at_ 1 rfl
     have y2:w2.cell? ⟨wx.heap.size,2,none⟩=some (.bool t'):=hxb.at_ 2 rfl
     have y3:w2.cell? ⟨wx.heap.size,3,none⟩=some (.slice q' m' d'):=hxb.at_ 3 rfl
     clear hb2 HSG a0 a1 a2 a3 hxb
     by_cases hz:sg2=0
     ·have hq0:=hsg.1 hz
      have HRN:=Kh (QRow.congr (G:=fun j=>IsQ (SB (i+1) j)) (HROW.out.keep (fun _=>IsQ.solid _) HBE.out) (fun j _=>by rw[HS1.out,HPZ.out i j hq0,Rat.add_zero]))
      have HBN2:=Kh (HBR.out.trans (HBE.out.mono (Nat.le_trans (Nat.le_of_eq hsm.symm) HBR.out.size)))
      subst hz
      clear hsg hq0 HNO HROW HBR
      go_wp2
      go_roundw
      case rel=>exact⟨i+1,by omega,by go_num,HRN.out,HBN2.out⟩
      case measure=>simp[intOf];omega
     ·clear hsg
      go_wp2_with fail
      refine(HNO.out _ HBE.out).mono ?_
      rintro e w3 ⟨⟨s3,p3,n3,c3,t3,q3,m3,d3,rfl,hz3⟩,hb3⟩
      have HZ3:=Kh hz3
      have HB3:=bt HBE hb3
      clear hz3 hb3 HNO y0 y1 y2 y3 HBE
      have HWI:=Kh (HBR.out.trans (HB3.out.mono (Nat.le_trans (Nat.le_of_eq hsm.symm) HBR.out.size)))
      have hg3:g<w3.heap.size:=Nat.lt_of_lt_of_le HROW.out.sts.1 HB3.out.size
      obtain⟨wi,hwi⟩:∃ wi,w3.alloc (.cells #[.bool s3,.slice p3 n3 c3,.bool t3,.slice q3 m3 d3] 67)=wi:=⟨_,rfl⟩
      have hba:Below w3.heap.size w3 wi:=hwi▸(Below.refl _ _).alloc (Nat.le_refl _) _
      have hxn:=Blk.new w3 67 #[.bool s3,.slice p3 n3 c3,.bool t3,.slice q3 m3 d3]
      rw[hwi]at hxn
      have HPL0:=Kh (show PL g (PV i 0) wi (.slice (some ⟨w3.heap.size,0,none⟩) 1 1) 1 from⟨_,_,rfl,hg3,hxn.lt,fun j hj=>by
       obtain rfl:j=0:=by omega
       exact⟨_,_,_,_,_,_,_,_,hxn.at_ 0 rfl,hxn.at_ 1 rfl,hxn.at_ 2 rfl,hxn.at_ 3 rfl,show Qs wi s3 p3 n3 c3 t3 q3 m3 d3 (PV i 0 0)by rw[HP0.out];exact HZ3.out.keep hba⟩⟩)
      have HRI:=Kh ((HROW.out.keep (fun _=>IsQ.solid _) HB3.out).keep (fun _=>IsQ.solid _) hba)
      have HBI:=Kh (HWI.out.trans (hba.mono (Nat.le_of_lt hg3)))
      have hgi:g<wi.heap.size:=Nat.lt_of_lt_of_le hg3 hba.size
      clear HZ3 HB3 HWI hba hxn HROW HBR hg3
      go_wp2
      clear hwi
      go_loopw [10,11] (fun v1 kk wy=>∃ k:Nat,k≤m∧kk=.int .i64 k∧PL g (PV i k) wy v1 (k+1)∧Below wi.heap.size wi wy) (fun _ kk _=>m - (intOf kk).toNat)
      case atStart=>exact⟨0,Nat.zero_le _,rfl,HPL0.out,Below.refl _ _⟩
      case round=>
       obtain⟨k,hk,rfl,hpl,hby⟩:=hrel
       obtain⟨wy,rfl⟩:∃ wy:World,wy=wr:=⟨_,rfl⟩
       have HBY:=Kh hby
       have hgy:g<wy.heap.size:=Nat.lt_of_lt_of_le hgi hby.size
       have hbx:=Below.mono2 hsm (HBI.out.trans (hby.mono (Nat.le_of_lt hgi)))
       have x0:=(bk HX0 hbx).at_ 0 rfl
       have x1:=(bk HX0 hbx).at_ 1 rfl
       have x2:=(bk HX0 hbx).at_ 2 rfl
       have x3:=(bk HX0 hbx).at_ 3 rfl
       clear HPL0 hby hbx
       by_cases hkm:k<m
       ·by_cases hki:k<i
        ·have HL:=Kh (c_linear u10 (k+1) (PV i k) a b wy hpl.ql (by omega) (by omega) (by have:=HAB.out;omega) (by have:=HAB.out;omega) (by have:=HAB.out;omega) (by have:=HAB.out;omega) (fun j _=>by have:=HPS.out i hlt k (by omega) j;omega))
         have HV:=Kh (fun j (hj:j<k+1+1)=>(show linQ a b (PV i k) (k+1) j=PV i (k+1) j by have h1:=HP1.out i k j (by omega);simp only[if_pos hki]at h1;exact h1))
         clear hpl
         go_wp2_with fail
         refine HL.out.mono ?_
         rintro e w5 ⟨⟨g5,rfl,hg5,hr5⟩,hb5⟩
         have HPL5:=Kh (show PL g (PV i (k+1)) w5 (.slice (some ⟨g5,0,none⟩) (k+1+1) (k+1+1)) (k+1+1)from⟨g5,_,rfl,by omega,hr5.sts.1,fun j hj=>by have h1:=hr5.val j hj;rw[HV.out j hj]at h1;exact h1⟩)
         have HB5:=bt HBY hb5
         clear hr5 hb5 HL HV HBY
         go_wp2
         go_roundw
         case rel=>exact⟨k+1,by omega,by go_num,HPL5.out,HB5.out⟩
         case measure=>simp[intOf];omega
        ·have HL:=Kh (c_linear u10 (k+1) (PV i k) c d wy hpl.ql (by omega) (by omega) (by have:=HAB.out;omega) (by have:=HAB.out;omega) (by have:=HAB.out;omega) (by have:=HAB.out;omega) (fun j _=>by have:=HPS.out i hlt k (by omega) j;omega))
         have HV:=Kh (fun j (hj:j<k+1+1)=>(show linQ c d (PV i k) (k+1) j=PV i (k+1) j by have h1:=HP1.out i k j (by omega);simp only[if_neg hki]at h1;exact h1))
         clear hpl
         go_wp2_with fail
         refine HL.out.mono ?_
         rintro e w5 ⟨⟨g5,rfl,hg5,hr5⟩,hb5⟩
         have HPL5:=Kh (show PL g (PV i (k+1)) w5 (.slice (some ⟨g5,0,none⟩) (k+1+1) (k+1+1)) (k+1+1)from⟨g5,_,rfl,by omega,hr5.sts.1,fun j hj=>by have h1:=hr5.val j hj;rw[HV.out j hj]at h1;exact h1⟩)
         have HB5:=bt HBY hb5
         clear hr5 hb5 HL HV HBY
         go_wp2
         go_roundw
         case rel=>exact⟨k+1,by omega,by go_num,HPL5.out,HB5.out⟩
         case measure=>simp[intOf];omega
       ·obtain rfl:m=k:=by omega
        have HRW:=Kh ((HRI.out.keep (fun _=>IsQ.solid _) HBY.out).congr (G:=fun j=>IsQ (mixQ (SB i) (SB (i+1)) 0 j)) (fun j _=>by rw[mixQ_zero]))
        have HBW:=Kh (HBI.out.trans (HBY.out.mono (Nat.le_of_lt hgi)))
        rw[← HM.out]at hpl
        obtain⟨g5,cap5,rfl,hg5,hg5s,hel⟩:=hpl
        have HEL:=Kh hel
        clear hel HRI HBI HBY x0 x1 x2 x3 hkm
        go_wp2
        go_loopw [64] (fun kk wz=>∃ k:Nat,k≤n∧kk=.int .i64 k∧QRow (fun j=>IsQ (mixQ (SB i) (SB (i+1)) k j)) wz g n n∧wy.grownBy wz (some g)) (fun kk _=>n - (intOf kk).toNat)
        case atStart=>exact⟨0,Nat.zero_le _,rfl,HRW.out,but_below g (Below.refl _ _)⟩
        case round=>
         obtain⟨k,hk,rfl,hrow,hby⟩:=hrel
         obtain⟨wz,rfl⟩:∃ wz:World,wz=wr:=⟨_,rfl⟩
         have HROW:=Kh hrow
         have HBY:=Kh hby
         have HBZ:=Kh (below_but HBW.out hby (Nat.le_of_lt hgy) (Nat.le_refl _))
         by_cases hkn:k<n
         ·obtain⟨s',p',i1,c',t',q',m',d',a0,a1,a2,a3,hx⟩:=(HEL.out k hkn).but (IsQ.solid _) HRW.out.sts hby (by omega)
          obtain⟨s5,p5,n5,c5,t5,q5,m5,d5,e0,e1,e2,e3,hy⟩:=hrow.val k hkn
          have HEE:=Kh (show Cells4 wz g (k*4) s5 p5 n5 c5 t5 q5 m5 d5 from⟨e0,e1,e2,e3⟩)
          have HEE1:=Kh (show Cells4 wz.drew g (k*4) s5 p5 n5 c5 t5 q5 m5 d5 from⟨e0,e1,e2,e3⟩)
          have hy2:Qs wz s5 p5 n5 c5 t5 q5 m5 d5 (SB i k):=by rw[← mixQ_at (SB i) (SB (i+1)) k];exact hy
          have hx2:Qs wz s' p' i1 c' t' q' m' d' (PV i m k):=hx
          have HAD:=Kh (fun w1 (hb:Below wz.heap.size wz w1)=>c_qAddQ s5 p5 n5 c5 t5 q5 m5 d5 (SB i k) s' p' i1 c' t' q' m' d' (PV i m k) w1 (hy2.keep hb) (hx2.keep hb) (by have:=HSS.out i (by omega) k;omega) (by have:=HPS.out i hlt m (Nat.le_refl _) k;omega))
          simp only[← HS1.out]at HAD
          have hki:(k:Int)<(n:Int):=by omega
          have hra:=hrow
          clear hx hy hy2 hx2 e0 e1 e2 e3 hrow hby
          go_upto_region 22 with(fail)
          have hS0:wz.drew.cell? ⟨g5,k*4,none⟩=some (.bool s')∧wz.drew.cell? ⟨g5,k*4+1,none⟩=some (.slice p' i1 c')∧wz.drew.cell? ⟨g5,k*4+2,none⟩=some (.bool t')∧wz.drew.cell? ⟨g5,k*4+3,none⟩=some (.slice q' m' d')∧wz.drew.cell? ⟨g,k*4,none⟩=some (cellOf wz.drew ⟨g,k*4,none⟩)∧wz.drew.frozen? ⟨g,k*4,none⟩=false∧Sts wz.drew (g)∧wz.drew.cell? ⟨g,k*4+1,none⟩=some (cellOf wz.drew ⟨g,k*4+1,none⟩)∧wz.drew.frozen? ⟨g,k*4+1,none⟩=false∧Sts wz.drew (g)∧wz.drew.cell? ⟨g,k*4+2,none⟩=some (cellOf wz.drew ⟨g,k*4+2,none⟩)∧wz.drew.frozen? ⟨g,k*4+2,none⟩=false∧Sts wz.drew (g)∧wz.drew.cell? ⟨g,k*4+3,none⟩=some (cellOf wz.drew ⟨g,k*4+3,none⟩)∧wz.drew.frozen? ⟨g,k*4+3,none⟩=false∧Sts wz.drew (g)∧Below g wm wz.drew∧g≤wz.drew.heap.size:=S4_4_next (Below.refl _ wz).drew ⟨a0,a1,a2,a3,cellOf_some (hra.has _ (by omega)),hra.free _ (by omega),hra.sts,cellOf_some (hra.has _ (by omega)),hra.free _ (by omega),hra.sts,cellOf_some (hra.has _ (by omega)),hra.free _ (by omega),hra.sts,cellOf_some (hra.has _ (by omega)),hra.free _ (by omega),hra.sts,HBZ.out,Nat.le_trans (Nat.le_of_eq hsm.symm) (Below.size HBZ.out)⟩
          clear a0 a1 a2 a3 hra
          have M1:True:=trivial
          refine wp_region_held_drew (S:=(fun w1=>w1.cell? ⟨g5,k*4,none⟩=some (.bool s')∧w1.cell? ⟨g5,k*4+1,none⟩=some (.slice p' i1 c')∧w1.cell? ⟨g5,k*4+2,none⟩=some (.bool t')∧w1.cell? ⟨g5,k*4+3,none⟩=some (.slice q' m' d')∧w1.cell? ⟨g,k*4,none⟩=some (cellOf w1 ⟨g,k*4,none⟩)∧w1.frozen? ⟨g,k*4,none⟩=false∧Sts w1 (g)∧w1.cell? ⟨g,k*4+1,none⟩=some (cellOf w1 ⟨g,k*4+1,none⟩)∧w1.frozen? ⟨g,k*4+1,none⟩=false∧Sts w1 (g)∧w1.cell? ⟨g,k*4+2,none⟩=some (cellOf w1 ⟨g,k*4+2,none⟩)∧w1.frozen? ⟨g,k*4+2,none⟩=false∧Sts w1 (g)∧w1.cell? ⟨g,k*4+3,none⟩=some (cellOf w1 ⟨g,k*4+3,none⟩)∧w1.frozen? ⟨g,k*4+3,none⟩=false∧Sts w1 (g)∧Below g wm w1∧g≤w1.heap.size)) (by kernel_rfl) ?_ (fun hHeld0=>?_)
          focus((try dsimp only);with_reducible exact hS0)
          refine tkH 0 ?_
          refine tkH 1 ?_
          refine tkH 2 ?_
          refine tkH 3 ?_
          refine tkH 4 ?_
          refine tkH 6 ?_
          refine tkH 7 ?_
          refine tkH 8 ?_
          refine tkH 9 ?_
          refine rdH [5] ?_
          refine AllReadyH.cons rfl (fun K hK=>?_) ?_
          focus(go_simp;refine hK.out _ _ ?_ (fun hHeld1=>?_))
          focus((try dsimp only);(first|with_reducible exact hS0 |(refine S4_4_next (by with_reducible assumption) ?_;assumption)))
          focus(clear hK K hHeld0;(try simp only[Act.put,lsa,lsz,lss]))
          refine rdH [10] ?_
          refine AllReadyH.cons rfl (fun K hK=>?_) ?_
          focus(go_simp;(go_at_call 48;(first|rw[cellOf_eq HEE1.out.1,cellOf_eq HEE1.out.2.1,cellOf_eq HEE1.out.2.2.1,cellOf_eq HEE1.out.2.2.2]|rw[cellOf_eq HEE.out.1,cellOf_eq HEE.out.2.1,cellOf_eq HEE.out.2.2.1,cellOf_eq HEE.out.2.2.2]);refine(HAD.out _ (by first|exact(Below.refl _ _).drew|exact Below.refl _ _)).mono ?_;rintro e w4 ⟨⟨s6,p6,n6,c6,t6,q6,m6,d6,rfl,hz6⟩,hb6⟩;have hbe:Below wz.heap.size wz w4:=(by first|exact(Below.refl _ wz).drew.trans hb6|exact hb6);have HQA3:=Kh (mixQ_put (HROW.out.keep (fun _=>IsQ.solid _) hbe) hkn hz6);have HGR:=Kh (HBY.out.trans (but_below g hbe));clear hz6 hbe);(first|done|with_reducible refine hK.out _ _ ?_ (fun hHeld2=>?_) |(go_wp2_with fail;with_reducible refine hK.out _ _ ?_ (fun hHeld2=>?_))))
          focus((try dsimp only);(refine S4_4_next (by with_reducible assumption) ?_;assumption))
          focus(clear hK K hHeld1;(try simp only[Act.put,lsa,lsz,lss]))
          refine tkH 11 ?_
          refine rdH [12] ?_
          refine AllReadyH.cons rfl (fun K hK=>?_) ?_
          focus(go_simp;refine hK.out _ _ ?_ (fun hHeld3=>?_))
          focus((try dsimp only);(refine S4_4_put ?_ ?_ ?_ ?_ ?_ ?_ ?_ ?_ ?_ ?_ ?_ ?_ ?_ ?_ ?_ ?_ ?_ ?_ ?_ ?_ ?_ ?_ ?_ ?_ ?_ <;> first|assumption|exact NotInt.bool _|exact NotInt.slice _ _ _ |(dsimp only;omega) |(simp;done)))
          focus(clear hK K hHeld2;(try simp only[Act.put,lsa,lsz,lss]))
          focus(refine wpAnyH_done (by kernel_rfl) ?_ _)
          rotate_left
          exact AllReadyH.nil
          exact AllReadyH.nil
          exact AllReadyH.nil
          all_goals go_wp2
          all_goals go_roundw
          all_goals first
           | exact⟨k+1,by omega,by go_num,HQA3.out,HGR.out.trans (but_put4 _ _ _ _ _ _ _ _ _ _)⟩
           |(simp[intOf];omega)
         ·obtain rfl:n=k:=by omega
          have HRN:=Kh (hrow.congr (G:=fun j=>IsQ (SB (i+1) j)) (fun j hj=>by rw[mixQ_all hj]))
          clear hrow hby HROW HRW
          go_wp2
          go_roundw
          case rel=>exact⟨i+1,by omega,by go_num,HRN.out,HBZ.out⟩
          case measure=>simp[intOf];omega
    ·obtain rfl:n=i:=by omega
     go_wp2
     go_ret
     exact⟨⟨g,rfl,hgl,HROW.out⟩,HW.out.trans (HBR.out.mono hgl)⟩
theorem ZE.but {z:Int} {w w':World} {g g' i:Nat} (hs:Sts w g) (h:w.grownBy w' (some g)) (hne:g'≠g) (hq:ZE z w g' i):ZE z w' g' i:=by
 obtain⟨s,p,n,c,h0,h1,h4⟩:=hq
 have hk:∀ j v,w.cell? ⟨g',j,none⟩=some v→w'.cell? ⟨g',j,none⟩=some v:=fun j v e=>h.cell e (fun e2=>by injection e2 with e2;exact hne e2)
 exact⟨s,p,n,c,hk _ _ h0,hk _ _ h1,h4.i32 (I32.but hs h)⟩
def Cells2 (w:World) (g i:Nat) (s:Bool) (p:Option Addr) (n c:Nat):Prop:=w.cell? ⟨g,i,none⟩=some (.bool s)∧w.cell? ⟨g,i+1,none⟩=some (.slice p n c)
theorem Cells2.keep {w w':World} {g i:Nat} {s:Bool} {p:Option Addr} {n c:Nat} (h:Cells2 w g i s p n c) (hb:Below w.heap.size w w'):Cells2 w' g i s p n c:=by
 have hk:∀ j v,w.cell? ⟨g,j,none⟩=some v→w'.cell? ⟨g,j,none⟩=some v:=fun j v e=>(hb.cell (p:=⟨g,j,none⟩) (World.block_lt_of_cell? w ⟨g,j,none⟩ e)).trans e
 exact⟨hk _ _ h.1,hk _ _ h.2⟩
theorem but_put2 (w:World) (g i j:Nat) (v0 v1:Value):w.grownBy ((w.setCell ⟨g,i,none⟩ v0).setCell ⟨g,j,none⟩ v1) (some g):=(but_put w g i v0).trans (but_put _ g j v1)
end Go.Proofs.YtijgdhijdfgpfaaGreatDoor
