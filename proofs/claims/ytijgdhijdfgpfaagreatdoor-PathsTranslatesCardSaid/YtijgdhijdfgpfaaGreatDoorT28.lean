/- Contract of halfplaneref40.Moved. -/
import Derived.Test.YtijgdhijdfgpfaaGreatDoorT27
set_option linter.unusedSimpArgs false
set_option maxRecDepth 100000
set_option maxHeartbeats 8000000
namespace Go.Proofs.YtijgdhijdfgpfaaGreatDoor
open Go.RowKit
theorem c_Moved (m i:Nat) (a b c d:Int) (w:World) (hm:m≤30) (_hi:i≤1000) (ha:-1073741824≤a) (ha':a≤1073741824) (hb:-1073741824≤b) (hb':b≤1073741824) (hc:-1073741824≤c) (hc':c≤1073741824) (hd:-1073741824≤d) (hd':d≤1073741824):
  Calls Tryz.prog 68 #[.int .i64 m,.int .i64 i,.agg #[.int .i64 a,.int .i64 b,.int .i64 c,.int .i64 d]] w fun e w'=>(∃ g cap,e=.returned (.slice (some ⟨g,0,none⟩) ((m+1:Nat)) cap)∧w.heap.size≤g∧ZRow (mv i a b c d m) w' g (m+1) (m+1))∧Below w.heap.size w w':=by
 have HAB:=Kh (And.intro (And.intro ha ha') (And.intro (And.intro hb hb') (And.intro (And.intro hc hc') (And.intro hd hd'))))
 have HN:=Kh (And.intro (nd64 ha ha') (And.intro (nd64 hb hb') (And.intro (nd64 hc hc') (nd64 hd hd'))))
 clear ha ha' hb hb' hc hc' hd hd'
 go_enter Tryz.func68,Tryz.ntmps68
 go_wp2_with fail
 obtain⟨X0,X1,hb0⟩:=box2 w #[.int .i64 a,.int .i64 b,.int .i64 c,.int .i64 d] 28 #[.int .i64 1] 3
 obtain⟨w0,hw0⟩:∃ w0,(w.alloc (.cells #[.int .i64 a,.int .i64 b,.int .i64 c,.int .i64 d] 28)).alloc (.cells #[.int .i64 1] 3)=w0:=⟨_,rfl⟩
 rw[hw0]at X0 X1 hb0 ⊢
 have hcell:∀ j,j<1→w0.cell? ⟨w.heap.size+1,j,none⟩=some (.int .i64 1):=by
  intro j hj
  obtain rfl:j=0:=by omega
  exact X1.at_ 0 rfl
 have HZS:=Kh (c_Zs (w.heap.size+1) 1 1 (fun _=>1) w0 X1.lt hcell (fun _ _=>by omega) (by omega))
 clear hcell
 have HX0:=Kh X0
 have HB0:=Kh hb0
 clear X0 X1 hb0 hw0
 refine HZS.out.mono ?_
 rintro e w2 ⟨⟨v2,rfl,ho⟩,hb2⟩
 obtain⟨g2,cap2,rfl,hgB,hro⟩:=ho.row.resolve_left (fun h=>by omega)
 have HBW2:=bt HB0 hb2
 have HX2:=Kh (bk HX0 hb2)
 have hgw:w.heap.size≤g2:=Nat.le_trans HB0.out.size hgB
 have HRO:=Kh (hro.congr (f':=mv i a b c d 0) (fun j hj=>by
  obtain rfl:j=0:=by omega
  simp[mv]))
 clear hb2 ho HZS HB0 HX0 hgB hro
 go_wp2
 go_loopw [7,8] (fun v n wr=>∃ k:Nat,k≤m∧n=.int .i64 k∧∃ g cap,v=.slice (some ⟨g,0,none⟩) ((k+1:Nat)) cap∧w.heap.size≤g∧ZRow (mv i a b c d k) wr g (k+1) (k+1)∧Below w2.heap.size w2 wr) (fun _ n _=>m - (intOf n).toNat)
 case atStart=>exact⟨0,Nat.zero_le _,rfl,g2,cap2,rfl,hgw,HRO.out,Below.refl _ _⟩
 case round=>
  obtain⟨k,hk,rfl,g,cap,rfl,hgw2,hro,hbr⟩:=hrel
  have HBR:=Kh hbr
  have HB:=bt HBW2 hbr
  have x0:=(bk HX2 hbr).at_ 0 rfl
  have x1:=(bk HX2 hbr).at_ 1 rfl
  have x2:=(bk HX2 hbr).at_ 2 rfl
  have x3:=(bk HX2 hbr).at_ 3 rfl
  clear hbr HRO
  by_cases hlt:k<m
  ·by_cases hki:k<i
   ·have HT:=Kh (c_times40 (.slice (some ⟨g,0,none⟩) (k+1) cap) (k+1) (mv i a b c d k) a b (1+3*k) wr (hro.zl cap) (by omega) (by omega) (by have:=HAB.out;omega) (by have:=HAB.out;omega) (by have:=HAB.out;omega) (by have:=HAB.out;omega) (fun j=>mv_size i a b c d HN.out.1 HN.out.2.1 HN.out.2.2.1 HN.out.2.2.2 k j) (by omega) (mv_zero i a b c d k (k+1) (Nat.lt_succ_self k)))
    have HE:=Kh (show lin a b (mv i a b c d k)=mv i a b c d (k+1)by rw[mv,if_pos hki])
    clear hro
    go_wp2_with fail
    refine HT.out.mono ?_
    rintro e w5 ⟨⟨g5,cap5,rfl,hg5,hr5⟩,hb5⟩
    rw[HE.out]at hr5
    have HR5:=Kh hr5
    have HBR5:=bt HBR hb5
    have hg6:w.heap.size≤g5:=Nat.le_trans HB.out.size hg5
    clear hr5 hb5 HT HE HB
    go_wp2
    go_roundw
    case rel=>exact⟨k+1,by omega,by go_num,g5,cap5,rfl,hg6,HR5.out,HBR5.out⟩
    case measure=>simp[intOf];omega
   ·have HT:=Kh (c_times40 (.slice (some ⟨g,0,none⟩) (k+1) cap) (k+1) (mv i a b c d k) c d (1+3*k) wr (hro.zl cap) (by omega) (by omega) (by have:=HAB.out;omega) (by have:=HAB.out;omega) (by have:=HAB.out;omega) (by have:=HAB.out;omega) (fun j=>mv_size i a b c d HN.out.1 HN.out.2.1 HN.out.2.2.1 HN.out.2.2.2 k j) (by omega) (mv_zero i a b c d k (k+1) (Nat.lt_succ_self k)))
    have HE:=Kh (show lin c d (mv i a b c d k)=mv i a b c d (k+1)by rw[mv,if_neg hki])
    clear hro
    go_wp2_with fail
    refine HT.out.mono ?_
    rintro e w5 ⟨⟨g5,cap5,rfl,hg5,hr5⟩,hb5⟩
    rw[HE.out]at hr5
    have HR5:=Kh hr5
    have HBR5:=bt HBR hb5
    have hg6:w.heap.size≤g5:=Nat.le_trans HB.out.size hg5
    clear hr5 hb5 HT HE HB
    go_wp2
    go_roundw
    case rel=>exact⟨k+1,by omega,by go_num,g5,cap5,rfl,hg6,HR5.out,HBR5.out⟩
    case measure=>simp[intOf];omega
  ·obtain rfl:m=k:=by omega
   have HRR:=Kh hro
   clear hro
   go_wp2
   go_ret
   exact⟨⟨g,cap,rfl,hgw2,HRR.out⟩,HB.out⟩
theorem divInt_int (z:Int):Rat.divInt z 1=(z:Rat):=by
 obtain⟨h1,h2⟩:=over_one z
 exact Rat.ext (by rw[h1,Rat.num_intCast]) (by rw[h2,Rat.den_intCast])
theorem c_Substituted (v:Value) (n:Nat) (x y:Nat→Int) (a b c d:Int) (w:World) (h:QL (fun j=>IsR (x j) (y j)) w v n) (h0:0<n) (hn:n≤30) (ha:-1073741824≤a) (ha':a≤1073741824) (hb:-1073741824≤b) (hb':b≤1073741824) (hc:-1073741824≤c) (hc':c≤1073741824) (hd:-1073741824≤d) (hd':d≤1073741824):
  Calls Tryz.prog 35 #[v,.agg #[.int .i64 a,.int .i64 b,.int .i64 c,.int .i64 d]] w fun e w'=>(∃ g cap,e=.returned (.slice (some ⟨g,0,none⟩) n cap)∧w.heap.size≤g∧QRow (fun j=>IsQ (subst (fun i=>Rat.divInt (x i) (y i)) (n - 1) a b c d n j)) w' g n n)∧Below w.heap.size w w':=by
 obtain⟨g1,o1,l1,rfl,hg1,r1⟩:=h.resolve_left (fun h=>by omega)
 obtain⟨m,hm⟩:∃ m,n=m+1:=⟨n - 1,by omega⟩
 have hmi:(n:Int) - 1=(m:Nat):=by omega
 have hmw:IntKind.i64.wrap (m:Int)=(m:Nat):=IntWalk.i64_in _ (by omega)
 have hni:(m:Int)+1=(n:Nat):=by omega
 have HRR:=Kh r1
 have HQS:=Kh (fun i (hi:i<n)=>show hq (Rat.divInt (x i) (y i))≤4 by
  obtain⟨_,_,_,_,_,_,_,_,_,_,_,_,h5,h6,h7,h8⟩:=r1 i hi
  exact hq_frac (Nat.le_trans h5.size h7) (Nat.le_trans h6.size h8))
 obtain⟨Q,hQ⟩:∃ Q:Nat→Rat,(fun i=>Rat.divInt (x i) (y i))=Q:=⟨_,rfl⟩
 have HQI:=Kh (fun i=>(congrFun hQ i:Rat.divInt (x i) (y i)=Q i))
 rw[hQ]
 simp only[HQI.out]at HQS
 have HPS:=Kh (fun i (hi:i<n) k (hk:k≤m) j=>hq_term (q:=Q i) (i:=i) (k:=k) (j:=j) (HQS.out i hi) (nd64 ha ha') (nd64 hb hb') (nd64 hc hc') (nd64 hd hd') (by omega))
 have HSS:=Kh (fun i (hi:i≤n) j=>hq_subst (q:=Q) (w:=m) (n:=i) (j:=j) (fun k hk=>HQS.out k (by omega)) (nd64 ha ha') (nd64 hb hb') (nd64 hc hc') (nd64 hd hd') (by omega) (by omega))
 obtain⟨SB,hSB⟩:∃ SB:Nat→Nat→Rat,(fun i j=>subst Q m a b c d i j)=SB:=⟨_,rfl⟩
 obtain⟨PV,hPV⟩:∃ PV:Nat→Nat→Nat→Rat,(fun i k j=>Q i*(mv i a b c d k j:Int))=PV:=⟨_,rfl⟩
 have eSB:∀ i j,subst Q m a b c d i j=SB i j:=fun i j=>congrFun (congrFun hSB i) j
 have ePV:∀ i k j,Q i*(mv i a b c d k j:Int)=PV i k j:=fun i k j=>congrFun (congrFun (congrFun hPV i) k) j
 have HS0:=Kh (fun j=>(show SB 0 j=0 by rw[← eSB];rfl))
 have HS1:=Kh (fun i j=>(show SB (i+1) j=SB i j+PV i m j by rw[← eSB,← eSB,← ePV];rfl))
 have HP0:=Kh (fun i=>(show PV i 0 0=Q i by rw[← ePV];simp[mv]))
 have HP1:=Kh (fun i k j (hj:j≤k+1)=>(show linQ (if k<i then a else c) (if k<i then b else d) (PV i k) (k+1) j=PV i (k+1) j by
  have h1:=linQ_step (Q i) i a b c d k j hj
  rw[show(fun j=>Q i*(mv i a b c d k j:Int))=PV i k from funext (ePV i k),ePV]at h1
  exact h1))
 have HPE:=Kh (fun i k j=>(show Q i*(mv i a b c d k j:Int)=PV i k j from ePV i k j))
 have HMS:=Kh (fun i j=>mv_size i a b c d (nd64 ha ha') (nd64 hb hb') (nd64 hc hc') (nd64 hd hd') m j)
 have HPZ:=Kh (fun i j (h:Q i=0)=>(show PV i m j=0 by rw[← ePV,h,Rat.zero_mul]))
 rw[show n - 1=m by omega]
 simp only[eSB]at HSS ⊢
 simp only[ePV]at HPS
 have HAB:=Kh (And.intro (And.intro ha ha') (And.intro (And.intro hb hb') (And.intro (And.intro hc hc') (And.intro hd hd'))))
 have HM:=Kh hm
 have HMV:=Kh (fun i (hi:i≤1000) w1=>c_Moved m i a b c d w1 (by omega) hi ha ha' hb hb' hc hc' hd hd')
 clear h r1 ha ha' hb hb' hc hc' hd hd' eSB ePV hSB hPV hQ hm
 go_enter Tryz.func35,Tryz.ntmps35
 go_wp2_with fail
 obtain⟨X0,hb0⟩:=box1 w #[.int .i64 a,.int .i64 b,.int .i64 c,.int .i64 d] 28
 obtain⟨w0,hw0⟩:∃ w0,w.alloc (.cells #[.int .i64 a,.int .i64 b,.int .i64 c,.int .i64 d] 28)=w0:=⟨_,rfl⟩
 have hs0:w0.heap.size=w.heap.size+1:=by rw[← hw0];simp
 rw[hw0]at X0 hb0 ⊢
 refine(c_Zeros n w0 (by omega)).mono ?_
 rintro e w1 ⟨⟨v2,rfl,ho⟩,hb1⟩
 obtain⟨g,cap,rfl,hgB,hro⟩:=ho.row.resolve_left (fun h=>by omega)
 have HW1:=Kh (hb0.trans (hb1.mono hb0.size))
 have HX1:=Kh (X0.below_ hb1 X0.lt)
 have hgw:w.heap.size≤g:=by omega
 have hgm:w.heap.size<g:=by omega
 have HR1:=Kh (fun j (hj:j<n)=>QE.keep (IsR.solid _ _) (HRR.out j hj) HW1.out)
 have HST:=Kh hro.sts
 have HRO:=Kh (hro.congr (G:=fun j=>IsQ (SB 0 j)) (fun j _=>by rw[HS0.out]))
 have hg1l:g1<g:=by omega
 clear hb1 ho hgB hro X0 hb0 hw0 hs0 HRR
 go_wp2
 go_loopw [6] (fun ii wr=>∃ i:Nat,i≤n∧ii=.int .i64 i∧QRow (fun j=>IsQ (SB i j)) wr g n n∧w1.grownBy wr (some g)) (fun ii _=>n - (intOf ii).toNat)
 case atStart=>exact⟨0,Nat.zero_le _,rfl,HRO.out,but_below g (Below.refl _ _)⟩
 case round=>
  obtain⟨i,hi,rfl,hrow,hbu⟩:=hrel
  obtain⟨wx,rfl⟩:∃ wx:World,wx=wr:=⟨_,rfl⟩
  have HROX:=Kh hrow
  have HBU:=Kh hbu
  by_cases hlt:i<n
  ·have x0:=hbu.cell (HX1.out.at_ 0 rfl) (fun e=>by injection e with e;dsimp only at e;omega)
   have x1:=hbu.cell (HX1.out.at_ 1 rfl) (fun e=>by injection e with e;dsimp only at e;omega)
   have x2:=hbu.cell (HX1.out.at_ 2 rfl) (fun e=>by injection e with e;dsimp only at e;omega)
   have x3:=hbu.cell (HX1.out.at_ 3 rfl) (fun e=>by injection e with e;dsimp only at e;omega)
   have hgx:g<wx.heap.size:=hrow.sts.1
   clear hrow hbu HRO
   go_wp2_with fail
   refine(HMV.out i (by omega) wx).mono ?_
   rintro e w5 ⟨⟨gl,capl,rfl,hgl,hrl⟩,hb5⟩
   rw[← HM.out]at hrl
   have HRL:=Kh hrl
   have HRW:=Kh ((HROX.out.keep (fun _=>IsQ.solid _) hb5).congr (G:=fun j=>IsQ (mixQ (SB i) (SB (i+1)) 0 j)) (fun j _=>by rw[mixQ_zero]))
   have HB5:=Kh (HBU.out.trans (but_below g hb5))
   have hmn:(m:Int)+1=(n:Nat):=hni
   obtain⟨M,hM⟩:∃ M,m+1=M:=⟨_,rfl⟩
   obtain rfl:n=M:=by rw[← hM];exact HM.out
   clear hrl hb5 HROX HBU x0 x1 x2 x3
   go_wp2
   go_loopw [8] (fun jj wr=>∃ j:Nat,j≤n∧jj=.int .i64 j∧QRow (fun k=>IsQ (mixQ (SB i) (SB (i+1)) j k)) wr g n n∧w5.grownBy wr (some g)) (fun jj _=>n - (intOf jj).toNat)
   case atStart=>exact⟨0,Nat.zero_le _,rfl,HRW.out,but_below g (Below.refl _ _)⟩
   case round=>
    obtain⟨j,hj,rfl,hrow,hby⟩:=hrel
    obtain⟨wz,rfl⟩:∃ wz:World,wz=wr:=⟨_,rfl⟩
    have HROW:=Kh hrow
    have HBY:=Kh hby
    have hbt:=HB5.out.trans hby
    by_cases hjn:j<n
    ·have HBZ:=Kh (below_but HW1.out hbt HW1.out.size hgw)
     obtain⟨s',p',i1,c',t',q',m',d',a0,a1,a2,a3,hx⟩:=(HR1.out i hlt).but (IsR.solid _ _) HST.out hbt (by omega)
     obtain⟨s4,p4,n4,c4,b0,b1,hl⟩:=(HRL.out.val j hjn).but HRW.out.sts hby (by omega)
     obtain⟨s5,p5,n5,c5,t5,q5,m5,d5,e0,e1,e2,e3,hy⟩:=hrow.val j hjn
     have HEE:=Kh (show Cells4 wz g (j*4) s5 p5 n5 c5 t5 q5 m5 d5 from⟨e0,e1,e2,e3⟩)
     have HEE1:=Kh (show Cells4 wz.drew g (j*4) s5 p5 n5 c5 t5 q5 m5 d5 from⟨e0,e1,e2,e3⟩)
     have HYE:=Kh (show Qs wz s5 p5 n5 c5 t5 q5 m5 d5 (SB i j)by rw[← mixQ_at (SB i) (SB (i+1)) j];exact hy)
     have hmu:∀ w1,Below wz.heap.size wz w1→∀ s2 p2 n2 c2,Zs w1 s2 p2 n2 c2 1→Calls Tryz.prog 70 #[.agg #[.bool s',.slice p' i1 c',.bool t',.slice q' m' d'],.agg #[.bool s4,.slice p4 n4 c4,.bool s2,.slice p2 n2 c2]] w1 fun e w'=>RetQ w' e (PV i m j)∧Below w1.heap.size w1 w':=by
      intro w1 hb s2 p2 n2 c2 h1
      have hc:=c_sMul s' p' i1 c' (x i) t' q' m' d' (y i) s4 p4 n4 c4 (mv i a b c d m j) s2 p2 n2 c2 1 w1 (hx.1.keep hb) (hx.2.1.keep hb) (hl.keep hb).raw h1.raw (by have:=hx.2.2.1;omega) (by have:=hx.2.2.2;omega) (by rw[← hl.2.1];have:=HMS.out i j;omega) (by rw[← h1.2.1];have:=nd_one';simp only[Int.natAbs_one];omega)
      rw[HQI.out,divInt_int,HPE.out]at hc
      exact hc
     have HMU:=Kh hmu
     have hii:(i:Int)<(n:Int):=by omega
     have hjj:(j:Int)<(n:Int):=by omega
     have hra:=hrow
     have hgl2:gl≠g:=by omega
     clear hmu hx hl hy e0 e1 e2 e3 hrow hby hbt
     go_upto_region 9 with(fail)
     have hS0:wz.drew.cell? ⟨g1,o1+i*4,none⟩=some (.bool s')∧wz.drew.cell? ⟨g1,o1+i*4+1,none⟩=some (.slice p' i1 c')∧wz.drew.cell? ⟨g1,o1+i*4+2,none⟩=some (.bool t')∧wz.drew.cell? ⟨g1,o1+i*4+3,none⟩=some (.slice q' m' d')∧wz.drew.cell? ⟨gl,j*2,none⟩=some (.bool s4)∧wz.drew.cell? ⟨gl,j*2+1,none⟩=some (.slice p4 n4 c4)∧wz.drew.cell? ⟨g,j*4,none⟩=some (cellOf wz.drew ⟨g,j*4,none⟩)∧wz.drew.frozen? ⟨g,j*4,none⟩=false∧Sts wz.drew (g)∧wz.drew.cell? ⟨g,j*4+1,none⟩=some (cellOf wz.drew ⟨g,j*4+1,none⟩)∧wz.drew.frozen? ⟨g,j*4+1,none⟩=false∧Sts wz.drew (g)∧wz.drew.cell? ⟨g,j*4+2,none⟩=some (cellOf wz.drew ⟨g,j*4+2,none⟩)∧wz.drew.frozen? ⟨g,j*4+2,none⟩=false∧Sts wz.drew (g)∧wz.drew.cell? ⟨g,j*4+3,none⟩=some (cellOf wz.drew ⟨g,j*4+3,none⟩)∧wz.drew.frozen? ⟨g,j*4+3,none⟩=false∧Sts wz.drew (g)∧Below w.heap.size w wz.drew∧w.heap.size≤wz.drew.heap.size:=S6_4_next (Below.refl _ wz).drew ⟨a0,a1,a2,a3,b0,b1,cellOf_some (hra.has _ (by omega)),hra.free _ (by omega),hra.sts,cellOf_some (hra.has _ (by omega)),hra.free _ (by omega),hra.sts,cellOf_some (hra.has _ (by omega)),hra.free _ (by omega),hra.sts,cellOf_some (hra.has _ (by omega)),hra.free _ (by omega),hra.sts,HBZ.out,Below.size (show Below w.heap.size w wz from HBZ.out)⟩
     clear a0 a1 a2 a3 b0 b1 hra
     have M1:True:=trivial
     refine wp_region_held_drew (S:=(fun w1=>w1.cell? ⟨g1,o1+i*4,none⟩=some (.bool s')∧w1.cell? ⟨g1,o1+i*4+1,none⟩=some (.slice p' i1 c')∧w1.cell? ⟨g1,o1+i*4+2,none⟩=some (.bool t')∧w1.cell? ⟨g1,o1+i*4+3,none⟩=some (.slice q' m' d')∧w1.cell? ⟨gl,j*2,none⟩=some (.bool s4)∧w1.cell? ⟨gl,j*2+1,none⟩=some (.slice p4 n4 c4)∧w1.cell? ⟨g,j*4,none⟩=some (cellOf w1 ⟨g,j*4,none⟩)∧w1.frozen? ⟨g,j*4,none⟩=false∧Sts w1 (g)∧w1.cell? ⟨g,j*4+1,none⟩=some (cellOf w1 ⟨g,j*4+1,none⟩)∧w1.frozen? ⟨g,j*4+1,none⟩=false∧Sts w1 (g)∧w1.cell? ⟨g,j*4+2,none⟩=some (cellOf w1 ⟨g,j*4+2,none⟩)∧w1.frozen? ⟨g,j*4+2,none⟩=false∧Sts w1 (g)∧w1.cell? ⟨g,j*4+3,none⟩=some (cellOf w1 ⟨g,j*4+3,none⟩)∧w1.frozen? ⟨g,j*4+3,none⟩=false∧Sts w1 (g)∧Below w.heap.size w w1∧w.heap.size≤w1.heap.size)) (by kernel_rfl) ?_ (fun hHeld0=>?_)
     focus((try dsimp only);with_reducible exact hS0)
     refine tkH 0 ?_
     refine tkH 1 ?_
     refine tkH 2 ?_
     refine tkH 3 ?_
     refine tkH 4 ?_
     refine tkH 6 ?_
     refine tkH 7 ?_
     refine tkH 8 ?_
     refine tkH 9 ?_
     refine tkH 10 ?_
     refine tkH 11 ?_
     refine tkH 12 ?_
     refine tkH 13 ?_
     refine rdH [5,14] ?_
     refine AllReadyH.cons rfl (fun K hK=>?_) ?_
     focus(go_simp;refine hK.out _ _ ?_ (fun hHeld1=>?_))
     focus((try dsimp only);(first|with_reducible exact hS0|with_reducible assumption |(refine S6_4_next (by with_reducible assumption) ?_;assumption)))
     focus(clear hK K hHeld0;(try simp only[Act.put,lsa,lsz,lss]))
     refine rdH [14] ?_
     refine AllReadyH.cons rfl (fun K hK=>?_) ?_
     focus(go_simp;(go_at_call 50;refine(c_Z 1 _ (by omega) (by omega)).mono ?_;rintro e w2 ⟨⟨s2,p2,n2,c2,rfl,hz2⟩,hb2⟩;have HB2:=Kh (show Below wz.heap.size wz w2 from(by first|exact(Below.refl _ wz).drew.trans hb2|exact hb2));have HZ2:=Kh hz2;have HEE2:=Kh (HEE.out.keep HB2.out);clear hz2);(first|done|with_reducible refine hK.out _ _ ?_ (fun hHeld2=>?_) |(go_wp2_with fail;with_reducible refine hK.out _ _ ?_ (fun hHeld2=>?_))))
     focus((try dsimp only);(first|with_reducible assumption |(refine S6_4_next (by with_reducible assumption) ?_;assumption)))
     focus(clear hK K hHeld1;(try simp only[Act.put,lsa,lsz,lss]))
     refine tkH 15 ?_
     refine rdH [16] ?_
     refine AllReadyH.cons rfl (fun K hK=>?_) ?_
     focus(go_simp;(go_at_call 70;refine(HMU.out _ HB2.out s2 p2 n2 c2 HZ2.out).mono ?_;rintro e w3 ⟨⟨s3,p3,n3,c3,t3,q3,m3,d3,rfl,hz3⟩,hb3⟩;have HB3:=bt HB2 hb3;have HZ3:=Kh hz3;have HEE3:=Kh (HEE.out.keep HB3.out);clear hz3 hb2);(first|done|with_reducible refine hK.out _ _ ?_ (fun hHeld3=>?_) |(go_wp2_with fail;with_reducible refine hK.out _ _ ?_ (fun hHeld3=>?_))))
     focus((try dsimp only);(first|with_reducible assumption |(refine S6_4_next (by with_reducible assumption) ?_;assumption)))
     focus(clear hK K hHeld2;(try simp only[Act.put,lsa,lsz,lss]))
     refine rdH [17] ?_
     refine AllReadyH.cons rfl (fun K hK=>?_) ?_
     focus(go_simp;(go_at_call 69;(first|rw[cellOf_eq HEE1.out.1,cellOf_eq HEE1.out.2.1,cellOf_eq HEE1.out.2.2.1,cellOf_eq HEE1.out.2.2.2]|rw[cellOf_eq HEE3.out.1,cellOf_eq HEE3.out.2.1,cellOf_eq HEE3.out.2.2.1,cellOf_eq HEE3.out.2.2.2]|rw[cellOf_eq HEE2.out.1,cellOf_eq HEE2.out.2.1,cellOf_eq HEE2.out.2.2.1,cellOf_eq HEE2.out.2.2.2]);refine(c_sAdd s5 p5 n5 c5 t5 q5 m5 d5 (SB i j) s3 p3 n3 c3 t3 q3 m3 d3 (PV i m j) _ (HYE.out.keep HB3.out) HZ3.out (by have:=HSS.out i (by omega) j;omega) (by have:=HPS.out i hlt m (Nat.le_refl _) j;omega)).mono ?_;rw[← HS1.out];rintro e w4 ⟨⟨s6,p6,n6,c6,t6,q6,m6,d6,rfl,hz6⟩,hb6⟩;have hbe:Below wz.heap.size wz w4:=HB3.out.trans (hb6.mono HB3.out.size);have HQA3:=Kh (mixQ_put (HROW.out.keep (fun _=>IsQ.solid _) hbe) hjn hz6);have HGR:=Kh (HBY.out.trans (but_below g hbe));clear hz6 hbe hb3);(first|done|with_reducible refine hK.out _ _ ?_ (fun hHeld4=>?_) |(go_wp2_with fail;with_reducible refine hK.out _ _ ?_ (fun hHeld4=>?_))))
     focus((try dsimp only);(first|with_reducible assumption |(refine S6_4_next (by with_reducible assumption) ?_;assumption)))
     focus(clear hK K hHeld3;(try simp only[Act.put,lsa,lsz,lss]))
     refine tkH 18 ?_
     refine rdH [19] ?_
     refine AllReadyH.cons rfl (fun K hK=>?_) ?_
     focus(go_simp;refine hK.out _ _ ?_ (fun hHeld5=>?_))
     focus((try dsimp only);(refine S6_4_put ?_ ?_ ?_ ?_ ?_ ?_ ?_ ?_ ?_ ?_ ?_ ?_ ?_ ?_ ?_ ?_ ?_ ?_ ?_ ?_ ?_ ?_ ?_ ?_ ?_ ?_ ?_ ?_ ?_ ?_ ?_ ?_ ?_ <;> first|assumption|exact NotInt.bool _|exact NotInt.slice _ _ _ |(dsimp only;omega) |(simp;done)))
     focus(clear hK K hHeld4;(try simp only[Act.put,lsa,lsz,lss]))
     focus(refine wpAnyH_done (by kernel_rfl) ?_ _)
     rotate_left
     exact AllReadyH.nil
     exact AllReadyH.nil
     exact AllReadyH.nil
     exact AllReadyH.nil
     refine AllReadyH.cons rfl (fun K hK=>?_) ?_
     focus(go_simp;(go_at_call 50;refine(c_Z 1 _ (by omega) (by omega)).mono ?_;rintro e w2 ⟨⟨s2,p2,n2,c2,rfl,hz2⟩,hb2⟩;have HB2:=Kh (show Below wz.heap.size wz w2 from(by first|exact(Below.refl _ wz).drew.trans hb2|exact hb2));have HZ2:=Kh hz2;have HEE2:=Kh (HEE.out.keep HB2.out);clear hz2);(first|done|with_reducible refine hK.out _ _ ?_ (fun hHeld1=>?_) |(go_wp2_with fail;with_reducible refine hK.out _ _ ?_ (fun hHeld1=>?_))))
     focus((try dsimp only);(first|with_reducible assumption |(refine S6_4_next (by with_reducible assumption) ?_;assumption)))
     focus(clear hK K hHeld0;(try simp only[Act.put,lsa,lsz,lss]))
     refine tkH 15 ?_
     refine rdH [5,16] ?_
     refine AllReadyH.cons rfl (fun K hK=>?_) ?_
     focus(go_simp;refine hK.out _ _ ?_ (fun hHeld2=>?_))
     focus((try dsimp only);(first|with_reducible exact hS0|with_reducible assumption |(refine S6_4_next (by with_reducible assumption) ?_;assumption)))
     focus(clear hK K hHeld1;(try simp only[Act.put,lsa,lsz,lss]))
     refine rdH [16] ?_
     refine AllReadyH.cons rfl (fun K hK=>?_) ?_
     focus(go_simp;(go_at_call 70;refine(HMU.out _ HB2.out s2 p2 n2 c2 HZ2.out).mono ?_;rintro e w3 ⟨⟨s3,p3,n3,c3,t3,q3,m3,d3,rfl,hz3⟩,hb3⟩;have HB3:=bt HB2 hb3;have HZ3:=Kh hz3;have HEE3:=Kh (HEE.out.keep HB3.out);clear hz3 hb2);(first|done|with_reducible refine hK.out _ _ ?_ (fun hHeld3=>?_) |(go_wp2_with fail;with_reducible refine hK.out _ _ ?_ (fun hHeld3=>?_))))
     focus((try dsimp only);(first|with_reducible assumption |(refine S6_4_next (by with_reducible assumption) ?_;assumption)))
     focus(clear hK K hHeld2;(try simp only[Act.put,lsa,lsz,lss]))
     refine rdH [17] ?_
     refine AllReadyH.cons rfl (fun K hK=>?_) ?_
     focus(go_simp;(go_at_call 69;(first|rw[cellOf_eq HEE1.out.1,cellOf_eq HEE1.out.2.1,cellOf_eq HEE1.out.2.2.1,cellOf_eq HEE1.out.2.2.2]|rw[cellOf_eq HEE3.out.1,cellOf_eq HEE3.out.2.1,cellOf_eq HEE3.out.2.2.1,cellOf_eq HEE3.out.2.2.2]|rw[cellOf_eq HEE2.out.1,cellOf_eq HEE2.out.2.1,cellOf_eq HEE2.out.2.2.1,cellOf_eq HEE2.out.2.2.2]);refine(c_sAdd s5 p5 n5 c5 t5 q5 m5 d5 (SB i j) s3 p3 n3 c3 t3 q3 m3 d3 (PV i m j) _ (HYE.out.keep HB3.out) HZ3.out (by have:=HSS.out i (by omega) j;omega) (by have:=HPS.out i hlt m (Nat.le_refl _) j;omega)).mono ?_;rw[← HS1.out];rintro e w4 ⟨⟨s6,p6,n6,c6,t6,q6,m6,d6,rfl,hz6⟩,hb6⟩;have hbe:Below wz.heap.size wz w4:=HB3.out.trans (hb6.mono HB3.out.size);have HQA3:=Kh (mixQ_put (HROW.out.keep (fun _=>IsQ.solid _) hbe) hjn hz6);have HGR:=Kh (HBY.out.trans (but_below g hbe));clear hz6 hbe hb3);(first|done|with_reducible refine hK.out _ _ ?_ (fun hHeld4=>?_) |(go_wp2_with fail;with_reducible refine hK.out _ _ ?_ (fun hHeld4=>?_))))
     focus((try dsimp only);(first|with_reducible assumption |(refine S6_4_next (by with_reducible assumption) ?_;assumption)))
     focus(clear hK K hHeld3;(try simp only[Act.put,lsa,lsz,lss]))
     refine tkH 18 ?_
     refine rdH [19] ?_
     refine AllReadyH.cons rfl (fun K hK=>?_) ?_
     focus(go_simp;refine hK.out _ _ ?_ (fun hHeld5=>?_))
     focus((try dsimp only);(refine S6_4_put ?_ ?_ ?_ ?_ ?_ ?_ ?_ ?_ ?_ ?_ ?_ ?_ ?_ ?_ ?_ ?_ ?_ ?_ ?_ ?_ ?_ ?_ ?_ ?_ ?_ ?_ ?_ ?_ ?_ ?_ ?_ ?_ ?_ <;> first|assumption|exact NotInt.bool _|exact NotInt.slice _ _ _ |(dsimp only;omega) |(simp;done)))
     focus(clear hK K hHeld4;(try simp only[Act.put,lsa,lsz,lss]))
     focus(refine wpAnyH_done (by kernel_rfl) ?_ _)
     rotate_left
     exact AllReadyH.nil
     exact AllReadyH.nil
     exact AllReadyH.nil
     refine AllReadyH.cons rfl (fun K hK=>?_) ?_
     focus(go_simp;(go_at_call 70;refine(HMU.out _ HB2.out s2 p2 n2 c2 HZ2.out).mono ?_;rintro e w3 ⟨⟨s3,p3,n3,c3,t3,q3,m3,d3,rfl,hz3⟩,hb3⟩;have HB3:=bt HB2 hb3;have HZ3:=Kh hz3;have HEE3:=Kh (HEE.out.keep HB3.out);clear hz3 hb2);(first|done|with_reducible refine hK.out _ _ ?_ (fun hHeld2=>?_) |(go_wp2_with fail;with_reducible refine hK.out _ _ ?_ (fun hHeld2=>?_))))
     focus((try dsimp only);(first|with_reducible assumption |(refine S6_4_next (by with_reducible assumption) ?_;assumption)))
     focus(clear hK K hHeld1;(try simp only[Act.put,lsa,lsz,lss]))
     refine rdH [5] ?_
     refine AllReadyH.cons rfl (fun K hK=>?_) ?_
     focus(go_simp;refine hK.out _ _ ?_ (fun hHeld3=>?_))
     focus((try dsimp only);(first|with_reducible exact hS0|with_reducible assumption |(refine S6_4_next (by with_reducible assumption) ?_;assumption)))
     focus(clear hK K hHeld2;(try simp only[Act.put,lsa,lsz,lss]))
     refine rdH [17] ?_
     refine AllReadyH.cons rfl (fun K hK=>?_) ?_
     focus(go_simp;(go_at_call 69;(first|rw[cellOf_eq HEE1.out.1,cellOf_eq HEE1.out.2.1,cellOf_eq HEE1.out.2.2.1,cellOf_eq HEE1.out.2.2.2]|rw[cellOf_eq HEE3.out.1,cellOf_eq HEE3.out.2.1,cellOf_eq HEE3.out.2.2.1,cellOf_eq HEE3.out.2.2.2]|rw[cellOf_eq HEE2.out.1,cellOf_eq HEE2.out.2.1,cellOf_eq HEE2.out.2.2.1,cellOf_eq HEE2.out.2.2.2]);refine(c_sAdd s5 p5 n5 c5 t5 q5 m5 d5 (SB i j) s3 p3 n3 c3 t3 q3 m3 d3 (PV i m j) _ (HYE.out.keep HB3.out) HZ3.out (by have:=HSS.out i (by omega) j;omega) (by have:=HPS.out i hlt m (Nat.le_refl _) j;omega)).mono ?_;rw[← HS1.out];rintro e w4 ⟨⟨s6,p6,n6,c6,t6,q6,m6,d6,rfl,hz6⟩,hb6⟩;have hbe:Below wz.heap.size wz w4:=HB3.out.trans (hb6.mono HB3.out.size);have HQA3:=Kh (mixQ_put (HROW.out.keep (fun _=>IsQ.solid _) hbe) hjn hz6);have HGR:=Kh (HBY.out.trans (but_below g hbe));clear hz6 hbe hb3);(first|done|with_reducible refine hK.out _ _ ?_ (fun hHeld4=>?_) |(go_wp2_with fail;with_reducible refine hK.out _ _ ?_ (fun hHeld4=>?_))))
     focus((try dsimp only);(first|with_reducible assumption |(refine S6_4_next (by with_reducible assumption) ?_;assumption)))
     focus(clear hK K hHeld3;(try simp only[Act.put,lsa,lsz,lss]))
     refine tkH 18 ?_
     refine rdH [19] ?_
     refine AllReadyH.cons rfl (fun K hK=>?_) ?_
     focus(go_simp;refine hK.out _ _ ?_ (fun hHeld5=>?_))
     focus((try dsimp only);(refine S6_4_put ?_ ?_ ?_ ?_ ?_ ?_ ?_ ?_ ?_ ?_ ?_ ?_ ?_ ?_ ?_ ?_ ?_ ?_ ?_ ?_ ?_ ?_ ?_ ?_ ?_ ?_ ?_ ?_ ?_ ?_ ?_ ?_ ?_ <;> first|assumption|exact NotInt.bool _|exact NotInt.slice _ _ _ |(dsimp only;omega) |(simp;done)))
     focus(clear hK K hHeld4;(try simp only[Act.put,lsa,lsz,lss]))
     focus(refine wpAnyH_done (by kernel_rfl) ?_ _)
     rotate_left
     exact AllReadyH.nil
     exact AllReadyH.nil
     exact AllReadyH.nil
     exact AllReadyH.nil
     exact AllReadyH.nil
     all_goals go_wp2
     all_goals go_roundw
     all_goals first
      | exact⟨j+1,by omega,by go_num,HQA3.out,HGR.out.trans (but_put4 _ _ _ _ _ _ _ _ _ _)⟩
      |(simp[intOf];omega)
    ·obtain rfl:n=j:=by omega
     have HRN:=Kh (hrow.congr (G:=fun j=>IsQ (SB (i+1) j)) (fun j hj=>by rw[mixQ_all hj]))
     have HBT:=Kh hbt
     clear hrow hby HROW HRW hbt
     go_wp2
     go_roundw
     case rel=>exact⟨i+1,by omega,by go_num,HRN.out,HBT.out⟩
     case measure=>simp[intOf];omega
  ·obtain rfl:n=i:=by omega
   clear hrow hbu
   go_wp2
   go_ret
   exact⟨⟨g,cap,rfl,hgw,HROX.out⟩,below_but HW1.out HBU.out HW1.out.size hgw⟩
end Go.Proofs.YtijgdhijdfgpfaaGreatDoor
