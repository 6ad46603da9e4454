/- Contract of halfplaneref40.Moved. -/
import Derived.Test.YthikonjlgljikaaGreatDoorR26
set_option linter.unusedSimpArgs false
set_option maxRecDepth 100000
set_option maxHeartbeats 8000000
namespace Go.Proofs.YthikonjlgljikaaGreatDoor
open Go.RowKit
theorem c_Moved (m i:Nat) (a b c d:Int) (w:World) (hm:m≤30) (_hi:i≤1000) (ha:-1073741824≤a) (ha':a≤1073741824) (hb:-1073741824≤b) (hb':b≤1073741824) (hc:-1073741824≤c) (hc':c≤1073741824) (hd:-1073741824≤d) (hd':d≤1073741824):
  Calls Tryz.prog 158 #[.int .i64 m,.int .i64 i,.agg #[.int .i64 a,.int .i64 b,.int .i64 c,.int .i64 d]] w fun e w'=>(∃ g cap,e=.returned (.slice (some ⟨g,0,none⟩) ((m+1:Nat)) cap)∧w.heap.size≤g∧ZRow (mv i a b c d m) w' g (m+1) (m+1))∧Below w.heap.size w w':=by
 have HAB:=Kh (And.intro (And.intro ha ha') (And.intro (And.intro hb hb') (And.intro (And.intro hc hc') (And.intro hd hd'))))
 have HN:=Kh (And.intro (nd64 ha ha') (And.intro (nd64 hb hb') (And.intro (nd64 hc hc') (nd64 hd hd'))))
 clear ha ha' hb hb' hc hc' hd hd'
 go_enter Tryz.func158,Tryz.ntmps158
 go_wp2_with fail
 obtain⟨X0,X1,hb0⟩:=box2 w #[.int .i64 a,.int .i64 b,.int .i64 c,.int .i64 d] 97 #[.int .i64 1] 3
 obtain⟨w0,hw0⟩:∃ w0,(w.alloc (.cells #[.int .i64 a,.int .i64 b,.int .i64 c,.int .i64 d] 97)).alloc (.cells #[.int .i64 1] 3)=w0:=⟨_,rfl⟩
 rw[hw0]at X0 X1 hb0 ⊢
 have hcell:∀ j,j<1→w0.cell? ⟨w.heap.size+1,j,none⟩=some (.int .i64 1):=by
  intro j hj
  obtain rfl:j=0:=by omega
  exact X1.at_ 0 rfl
 have HZS:=Kh (c_Zs (w.heap.size+1) 1 1 (fun _=>1) w0 X1.lt hcell (fun _ _=>by omega) (by omega))
 clear hcell
 have HX0:=Kh X0
 have HB0:=Kh hb0
 clear X0 X1 hb0 hw0
 refine HZS.out.mono ?_
 rintro e w2 ⟨⟨v2,rfl,ho⟩,hb2⟩
 obtain⟨g2,cap2,rfl,hgB,hro⟩:=ho.row.resolve_left (fun h=>by omega)
 have HBW2:=bt HB0 hb2
 have HX2:=Kh (bk HX0 hb2)
 have hgw:w.heap.size≤g2:=Nat.le_trans HB0.out.size hgB
 have HRO:=Kh (hro.congr (f':=mv i a b c d 0) (fun j hj=>by
  obtain rfl:j=0:=by omega
  simp[mv]))
 clear hb2 ho HZS HB0 HX0 hgB hro
 go_wp2
 go_loopw [7,8] (fun v n wr=>∃ k:Nat,k≤m∧n=.int .i64 k∧∃ g cap,v=.slice (some ⟨g,0,none⟩) ((k+1:Nat)) cap∧w.heap.size≤g∧ZRow (mv i a b c d k) wr g (k+1) (k+1)∧Below w2.heap.size w2 wr) (fun _ n _=>m - (intOf n).toNat)
 case atStart=>exact⟨0,Nat.zero_le _,rfl,g2,cap2,rfl,hgw,HRO.out,Below.refl _ _⟩
 case round=>
  obtain⟨k,hk,rfl,g,cap,rfl,hgw2,hro,hbr⟩:=hrel
  have HBR:=Kh hbr
  have HB:=bt HBW2 hbr
  have x0:=(bk HX2 hbr).at_ 0 rfl
  have x1:=(bk HX2 hbr).at_ 1 rfl
  have x2:=(bk HX2 hbr).at_ 2 rfl
  have x3:=(bk HX2 hbr).at_ 3 rfl
  clear hbr HRO
  by_cases hlt:k<m
  ·by_cases hki:k<i
   ·have HT:=Kh (c_times40 (.slice (some ⟨g,0,none⟩) (k+1) cap) (k+1) (mv i a b c d k) a b (1+3*k) wr (hro.zl cap) (by omega) (by omega) (by have:=HAB.out;omega) (by have:=HAB.out;omega) (by have:=HAB.out;omega) (by have:=HAB.out;omega) (fun j=>mv_size i a b c d HN.out.1 HN.out.2.1 HN.out.2.2.1 HN.out.2.2.2 k j) (by omega) (mv_zero i a b c d k (k+1) (Nat.lt_succ_self k)))
    have HE:=Kh (show lin a b (mv i a b c d k)=mv i a b c d (k+1)by rw[mv,if_pos hki])
    clear hro
    go_wp2_with fail
    refine HT.out.mono ?_
    rintro e w5 ⟨⟨g5,cap5,rfl,hg5,hr5⟩,hb5⟩
    rw[HE.out]at hr5
    have HR5:=Kh hr5
    have HBR5:=bt HBR hb5
    have hg6:w.heap.size≤g5:=Nat.le_trans HB.out.size hg5
    clear hr5 hb5 HT HE HB
    go_wp2
    go_roundw
    case rel=>exact⟨k+1,by omega,by go_num,g5,cap5,rfl,hg6,HR5.out,HBR5.out⟩
    case measure=>simp[intOf];omega
   ·have HT:=Kh (c_times40 (.slice (some ⟨g,0,none⟩) (k+1) cap) (k+1) (mv i a b c d k) c d (1+3*k) wr (hro.zl cap) (by omega) (by omega) (by have:=HAB.out;omega) (by have:=HAB.out;omega) (by have:=HAB.out;omega) (by have:=HAB.out;omega) (fun j=>mv_size i a b c d HN.out.1 HN.out.2.1 HN.out.2.2.1 HN.out.2.2.2 k j) (by omega) (mv_zero i a b c d k (k+1) (Nat.lt_succ_self k)))
    have HE:=Kh (show lin c d (mv i a b c d k)=mv i a b c d (k+1)by rw[mv,if_neg hki])
    clear hro
    go_wp2_with fail
    refine HT.out.mono ?_
    rintro e w5 ⟨⟨g5,cap5,rfl,hg5,hr5⟩,hb5⟩
    rw[HE.out]at hr5
    have HR5:=Kh hr5
    have HBR5:=bt HBR hb5
    have hg6:w.heap.size≤g5:=Nat.le_trans HB.out.size hg5
    clear hr5 hb5 HT HE HB
    go_wp2
    go_roundw
    case rel=>exact⟨k+1,by omega,by go_num,g5,cap5,rfl,hg6,HR5.out,HBR5.out⟩
    case measure=>simp[intOf];omega
  ·obtain rfl:m=k:=by omega
   have HRR:=Kh hro
   clear hro
   go_wp2
   go_ret
   exact⟨⟨g,cap,rfl,hgw2,HRR.out⟩,HB.out⟩
end Go.Proofs.YthikonjlgljikaaGreatDoor
