/- Contracts of manin.Count, halfplanebase.Frac and the law's fractions. -/
import Derived.Test.YthikonjlgljikaaGreatDoorV50
import Derived.Test.YthikonjlgljikaaGreatDoorV01
import Derived.ChangeSlices
import Derived.Deep.Slices
import Derived.Deep.Strs
import Derived.ReadAgain
import Derived.Lib.SmallJoins
set_option linter.unusedSimpArgs false
set_option maxRecDepth 100000
set_option maxHeartbeats 8000000
namespace Go.Proofs.YthikonjlgljikaaGreatDoor
open Go.RowKit Eli
abbrev C0_4 (B:Nat) (w0 w:World) (b0 b1 b2 b3:Addr):Prop:=w.cell? b0=some (cellOf w b0)∧w.frozen? b0=false∧Sts w b0.block∧w.cell? b1=some (cellOf w b1)∧w.frozen? b1=false∧Sts w b1.block∧w.cell? b2=some (cellOf w b2)∧w.frozen? b2=false∧Sts w b2.block∧w.cell? b3=some (cellOf w b3)∧w.frozen? b3=false∧Sts w b3.block∧Below B w0 w∧B≤w.heap.size
theorem S0_4_next {B:Nat} {w0 w w':World} {b0 b1 b2 b3:Addr} (hb:Below w.heap.size w w') (h:C0_4 B w0 w b0 b1 b2 b3):C0_4 B w0 w' b0 b1 b2 b3:=SS.next (B:=B) (w0:=w0) (l:=([]:List (Addr×Value))) (m:=[b0,b1,b2,b3]) hb h
theorem S0_4_put {B:Nat} {w0 w:World} {b0 b1 b2 b3:Addr} (h:C0_4 B w0 w b0 b1 b2 b3) {p0 p1 p2 p3:Addr} {u0 u1 u2 u3:Value} (hi0:NotInt u0) (hp0:B≤p0.block) (hi1:NotInt u1) (hp1:B≤p1.block) (hi2:NotInt u2) (hp2:B≤p2.block) (hi3:NotInt u3) (hp3:B≤p3.block):C0_4 B w0 ((((w.setCell p0 u0).setCell p1 u1).setCell p2 u2).setCell p3 u3) b0 b1 b2 b3:=(SS.put (B:=B) (w0:=w0) (l:=([]:List (Addr×Value))) (m:=[b0,b1,b2,b3]) (SS.put (B:=B) (w0:=w0) (l:=([]:List (Addr×Value))) (m:=[b0,b1,b2,b3]) (SS.put (B:=B) (w0:=w0) (l:=([]:List (Addr×Value))) (m:=[b0,b1,b2,b3]) (SS.put (B:=B) (w0:=w0) (l:=([]:List (Addr×Value))) (m:=[b0,b1,b2,b3]) h p0 u0 hi0 hp0 (by simp[*])) p1 u1 hi1 hp1 (by simp[*])) p2 u2 hi2 hp2 (by simp[*])) p3 u3 hi3 hp3 (by simp[*]))
theorem frac_val {n:Int} {d g:Nat} (hd:0<d) (hg:Nat.gcd n.natAbs d=g):(Rat.divInt n d).num=Int.tdiv n g∧((Rat.divInt n d).den:Int)=Int.tdiv (d:Int) g:=by
 have h0:(0:Int)<(d:Int):=by omega
 have hgd:Int.gcd n (d:Int)=g:=hg
 have hgp:0<g:=by rw[← hg];exact Nat.gcd_pos_of_pos_right _ hd
 have h1:=over_num (n:=n) h0
 have h2:=over_den (n:=n) h0
 rw[hgd]at h1 h2
 have hdv:((g:Nat):Int)∣n:=by rw[← hgd];exact Int.gcd_dvd_left ..
 rw[h1,h2]
 refine⟨?_,?_⟩
 ·rw[Int.tdiv_eq_ediv]
  by_cases hn:0≤n
  ·rw[if_pos (.inl hn),Int.add_zero]
  ·rw[if_pos (.inr hdv),Int.add_zero]
 ·rw[Int.tdiv_eq_ediv_of_nonneg (by omega)]
theorem c_Frac (n:Int) (d:Nat) (w:World) (hn:-1000000≤n) (hn':n≤1000000) (hd:0<d) (hd':d≤1000000):
  Calls Tryz.prog 63 #[.int .i64 n,.int .i64 d] w fun e w'=>RetQ w' e (Rat.divInt n d)∧Below w.heap.size w w':=by
 obtain⟨g,hg⟩:∃ g,Nat.gcd n.natAbs d=g:=⟨_,rfl⟩
 have hgp:0<g:=by rw[← hg];exact Nat.gcd_pos_of_pos_right _ hd
 have hgd:g≤d:=by rw[← hg];exact Nat.gcd_le_right _ hd
 obtain⟨e1,e2⟩:=frac_val (n:=n) hd hg
 obtain⟨P,hP⟩:∃ P,Int.tdiv n (g:Int)=P:=⟨_,rfl⟩
 obtain⟨Q,hQ⟩:∃ Q,Int.tdiv (d:Int) (g:Int)=Q:=⟨_,rfl⟩
 have hPl:-1000000≤P∧P≤1000000:=by
  have h:(Int.tdiv n (g:Int)).natAbs≤n.natAbs:=by rw[Int.natAbs_tdiv];exact Nat.div_le_self _ _
  rw[hP]at h;omega
 have hQl:-1000000≤Q∧Q≤1000000:=by
  have h:(Int.tdiv (d:Int) (g:Int)).natAbs≤(d:Int).natAbs:=by rw[Int.natAbs_tdiv];exact Nat.div_le_self _ _
  rw[hQ]at h;omega
 obtain⟨hP1,hP2⟩:=hPl
 obtain⟨hQ1,hQ2⟩:=hQl
 rw[hP]at e1
 rw[hQ]at e2
 have HE:=Kh (And.intro e1 e2)
 have HZ1:=Kh (fun w1=>c_Z P w1 (by omega) (by omega))
 have HZ2:=Kh (fun w1=>c_Z Q w1 (by omega) (by omega))
 have HG:=Kh hg
 have hmx:(if n < -n then -n else n)=(n.natAbs:Int):=by split <;> omega
 have hdi:¬ ((d:Int)<0):=by omega
 clear e1 e2 hg
 go_enter Tryz.func63,Tryz.ntmps63
 go_wp2_with fail
 obtain⟨w0,hw0,X0,hb0⟩:=bx1 w #[.bool false,.slice none 0 0,.bool false,.slice none 0 0] 35
 rw[hw0]
 have HX0:=Kh X0
 have HB0:=Kh hb0
 have hmx2:max n (-n)=(n.natAbs:Int):=by omega
 rw[hmx2]
 have HNA:=Kh (show n.natAbs≤1000000 by omega)
 clear hw0 X0 hb0 hmx hmx2
 go_loopw [5,6] (fun x y wr=>∃ a b:Nat,x=.int .i64 a∧y=.int .i64 b∧Nat.gcd a b=g∧a≤1000000∧b≤1000000∧∃ m,wr=w0.drewN m) (fun _ y _=>(intOf y).toNat)
 case atStart=>exact⟨n.natAbs,d,rfl,rfl,HG.out,HNA.out,hd',0,rfl⟩
 case round=>
  obtain⟨a,b,rfl,rfl,hab,ha,hb,m,rfl⟩:=hrel
  rcases Nat.eq_zero_or_pos b with rfl|hbp
  ·rw[Nat.gcd_zero_right]at hab
   subst hab
   have hb1:Below w0.heap.size w0 (w0.drewN m):=below_drewN' (Below.refl _ _) m
   generalize w0.drewN m=wq at hb1 ⊢
   have hx1:=bk HX0 hb1
   have HX1:=Kh hx1
   have HB1:=bt HB0 hb1
   obtain⟨gr,hgr⟩:∃ x,w.heap.size=x:=⟨_,rfl⟩
   rw[hgr]at hx1 HX1 ⊢
   have HGR:=Kh hgr
   have T0:=Sts.of hx1 (by intro v hv;simp at hv;rcases hv with rfl|rfl|rfl|rfl <;> first|exact NotInt.bool _|exact NotInt.slice _ _ _)
   have HT0:=Kh T0
   have hgl:gr<wq.heap.size:=hx1.lt
   have v1:IntKind.i64.wrap P=P:=IntWalk.i64_in _ (by omega)
   have v2:IntKind.i64.wrap Q=Q:=IntWalk.i64_in _ (by omega)
   have e5:((a:Int)==0)=false:=beq_eq_false_iff_ne.2 (by omega)
   have e6:a≠0:=by omega
   clear hb1 hgr HB0 HX0
   go_upto_region 6 with(fail)
   have HK1:=Kh (show ∀ wb,Below wq.drew.heap.size wq.drew wb→Below wq.heap.size wq wb from fun wb hb=>(Below.refl _ wq).drew.trans hb)
   have HK2:=Kh (show ∀ wa wb,Below wq.heap.size wq wa→Below wa.heap.size wa wb→Below wq.heap.size wq wb from fun wa wb h1 h2=>h1.trans (h2.mono h1.size))
   have hS0:wq.drew.cell? ⟨gr,0,none⟩=some (cellOf wq.drew ⟨gr,0,none⟩)∧wq.drew.frozen? ⟨gr,0,none⟩=false∧Sts wq.drew (gr)∧wq.drew.cell? ⟨gr,1,none⟩=some (cellOf wq.drew ⟨gr,1,none⟩)∧wq.drew.frozen? ⟨gr,1,none⟩=false∧Sts wq.drew (gr)∧wq.drew.cell? ⟨gr,2,none⟩=some (cellOf wq.drew ⟨gr,2,none⟩)∧wq.drew.frozen? ⟨gr,2,none⟩=false∧Sts wq.drew (gr)∧wq.drew.cell? ⟨gr,3,none⟩=some (cellOf wq.drew ⟨gr,3,none⟩)∧wq.drew.frozen? ⟨gr,3,none⟩=false∧Sts wq.drew (gr)∧Below 0 wq wq.drew∧0≤wq.drew.heap.size:=S0_4_next (Below.refl _ wq).drew ⟨cellOf_some (by rw[hx1.at_ 0 rfl];rfl),hx1.free_ 0,T0,cellOf_some (by rw[hx1.at_ 1 rfl];rfl),hx1.free_ 1,T0,cellOf_some (by rw[hx1.at_ 2 rfl];rfl),hx1.free_ 2,T0,cellOf_some (by rw[hx1.at_ 3 rfl];rfl),hx1.free_ 3,T0,(Below.refl 0 wq),Nat.le_trans (Nat.zero_le _) (Below.size (Below.refl 0 wq))⟩
   clear hx1 T0
   have M1:True:=trivial
   go_region_held3 (fun w1=>w1.cell? ⟨gr,0,none⟩=some (cellOf w1 ⟨gr,0,none⟩)∧w1.frozen? ⟨gr,0,none⟩=false∧Sts w1 (gr)∧w1.cell? ⟨gr,1,none⟩=some (cellOf w1 ⟨gr,1,none⟩)∧w1.frozen? ⟨gr,1,none⟩=false∧Sts w1 (gr)∧w1.cell? ⟨gr,2,none⟩=some (cellOf w1 ⟨gr,2,none⟩)∧w1.frozen? ⟨gr,2,none⟩=false∧Sts w1 (gr)∧w1.cell? ⟨gr,3,none⟩=some (cellOf w1 ⟨gr,3,none⟩)∧w1.frozen? ⟨gr,3,none⟩=false∧Sts w1 (gr)∧Below 0 wq w1∧0≤w1.heap.size)
    (first|with_reducible exact hS0|with_reducible assumption |(refine S0_4_next (by with_reducible assumption) ?_;assumption) |(refine S0_4_put ?_ ?_ ?_ ?_ ?_ ?_ ?_ ?_ ?_ <;> first|assumption|exact NotInt.bool _|exact NotInt.slice _ _ _ |(dsimp only;omega) |(simp;done)))
    (first
     |(go_at_call 74;(with_reducible refine(HZ1.out _).mono ?_);rintro e w2 ⟨⟨s2,p2,n2,c2,rfl,hz2⟩,hb2⟩;have HBA:=Kh (show Below wq.heap.size wq w2 from by first|exact HK2.out _ _ HBA.out hb2|exact HK1.out _ hb2))
     |(go_at_call 74;(with_reducible refine(HZ2.out _).mono ?_);rintro e w3 ⟨⟨s3,p3,n3,c3,rfl,hz3⟩,hb3⟩;have HBA:=Kh (show Below wq.heap.size wq w3 from by first|exact HK2.out _ _ HBA.out hb3|exact HK1.out _ hb3)))
   all_goals go_wp2
   all_goals first
    |(have hqf:Qs w3 s2 p2 n2 c2 s3 p3 n3 c3 (Rat.divInt n d):=⟨by rw[HE.out.1];exact hz2.keep hb3,by rw[HE.out.2];exact hz3⟩
      have X3:=HX1.out.below_ HBA.out HX1.out.lt
      obtain⟨w9,hw9⟩:∃ w9,(((w3.setCell ⟨gr,0,none⟩ (.bool s2)).setCell ⟨gr,1,none⟩ (.slice p2 n2 c2)).setCell ⟨gr,2,none⟩ (.bool s3)).setCell ⟨gr,3,none⟩ (.slice p3 n3 c3)=w9:=⟨_,rfl⟩
      obtain⟨E0,E1,E2,E3,hq9⟩:=rat_put X3 hqf hw9
      have hb9:Below w.heap.size w w9:=by rw[← hw9];exact below_putR (HB1.out.trans (HBA.out.mono HB1.out.size)) (Nat.le_of_eq HGR.out) _ _ _ _
      rw[hw9]
      try simp only[Exit.inBlock,Exit.then]
      refine bodyPost_ret (by simp[results,Tryz.results63,go_sem,E0,E1,E2,E3];try rfl) rfl ?_
      exact⟨⟨s2,p2,n2,c2,s3,p3,n3,c3,rfl,hq9⟩,hb9⟩)
    |(have hqf:Qs w2 s2 p2 n2 c2 s3 p3 n3 c3 (Rat.divInt n d):=⟨by rw[HE.out.1];exact hz2,by rw[HE.out.2];exact hz3.keep hb2⟩
      have X3:=HX1.out.below_ HBA.out HX1.out.lt
      obtain⟨w9,hw9⟩:∃ w9,(((w2.setCell ⟨gr,0,none⟩ (.bool s2)).setCell ⟨gr,1,none⟩ (.slice p2 n2 c2)).setCell ⟨gr,2,none⟩ (.bool s3)).setCell ⟨gr,3,none⟩ (.slice p3 n3 c3)=w9:=⟨_,rfl⟩
      obtain⟨E0,E1,E2,E3,hq9⟩:=rat_put X3 hqf hw9
      have hb9:Below w.heap.size w w9:=by rw[← hw9];exact below_putR (HB1.out.trans (HBA.out.mono HB1.out.size)) (Nat.le_of_eq HGR.out) _ _ _ _
      rw[hw9]
      try simp only[Exit.inBlock,Exit.then]
      refine bodyPost_ret (by simp[results,Tryz.results63,go_sem,E0,E1,E2,E3];try rfl) rfl ?_
      exact⟨⟨s2,p2,n2,c2,s3,p3,n3,c3,rfl,hq9⟩,hb9⟩)
  ·have hbi:(0:Int)<(b:Int):=by omega
   have e1:Int.tmod (a:Int) (b:Int)=((a % b:Nat):Int):=by rw[Int.tmod_eq_emod_of_nonneg (by omega)];rfl
   have e2:((b:Int)==0)=false:=beq_eq_false_iff_ne.2 (by omega)
   have e3:b≠0:=by omega
   obtain⟨r,hr⟩:∃ r,a % b=r:=⟨_,rfl⟩
   have hrb:r<b:=by rw[← hr];exact Nat.mod_lt _ hbp
   have HGN:=Kh (show Nat.gcd b r=g by rw[← hr,Nat.gcd_comm b,← Nat.gcd_rec,Nat.gcd_comm];exact hab)
   rw[hr]at e1
   have v1:IntKind.i64.wrap (r:Int)=(r:Nat):=IntWalk.i64_in _ (by omega)
   clear hr hab
   go_wp2_with fail
   go_quiet (fail)
   go_wp2
   go_roundw
   case rel=>exact⟨b,r,rfl,rfl,HGN.out,hb,by omega,_,dr2 _ _ _⟩
   case measure=>simp[intOf];omega
def frU (x:Nat→Int) (ln k:Nat):Rat:=Rat.divInt (if k<ln then x k else 0) ((1+k % 3:Nat):Int)
theorem frU_size {x:Nat→Int} {ln k:Nat} (hx:∀ k,k<ln→-128≤x k∧x k≤127):hq (frU x ln k)≤1:=by
 refine hq_over (by omega) (nd_le.2 ?_) (nd_le.2 ?_)
 ·split
  ·rename_i h
   have:=hx k h
   omega
  ·decide
 ·omega
theorem c_fractions (p:Option Addr) (ln c:Nat) (x:Nat→Int) (n:Nat) (w:World) (hp:∀ k,k<ln→∃ g o,p=some ⟨g,o,none⟩∧g<w.heap.size∧w.cell? ⟨g,o+k,none⟩=some (.int .i8 (x k))) (hx:∀ k,k<ln→-128≤x k∧x k≤127) (hn:n≤1000):
  Calls Tryz.prog 30 #[.slice p ln c,.int .i64 n] w fun e w'=>(∃ v',e=.returned v'∧OwnQ (fun j=>IsQ (frU x ln j)) w' w.heap.size v' n)∧Below w.heap.size w w':=by
 have HN:=Kh (OwnQ.nil (fun j=>IsQ (frU x ln j)) w w.heap.size)
 have HP:=Kh hp
 have HX:=Kh hx
 clear hp hx
 go_enter Tryz.func30,Tryz.ntmps30
 go_wp2
 go_loopw [5,6] (fun v i wr=>∃ k:Nat,k≤n∧i=.int .i64 k∧OwnQ (fun j=>IsQ (frU x ln j)) wr w.heap.size v k∧Below w.heap.size w wr) (fun _ i _=>n - (intOf i).toNat)
 case atStart=>exact⟨0,Nat.zero_le _,rfl,HN.out,Below.refl _ _⟩
 case round=>
  obtain⟨k,hk,rfl,ho,hb⟩:=hrel
  have HO:=Kh ho
  have HB:=Kh hb
  clear ho HN
  by_cases hlt:k<n
  ·obtain⟨r,hr⟩:∃ r,k % 3=r:=⟨_,rfl⟩
   have hr3:r<3:=by omega
   obtain⟨d,hd⟩:∃ d,1+r=d:=⟨_,rfl⟩
   have e1:Int.tmod (k:Int) 3=(r:Nat):=by rw[Int.tmod_eq_emod_of_nonneg (by omega)];omega
   have v0:IntKind.i64.wrap (r:Int)=(r:Nat):=IntWalk.i64_in _ (by omega)
   have e2:(1:Int)+(r:Int)=(d:Nat):=by omega
   have v1:IntKind.i64.wrap (d:Int)=(d:Nat):=IntWalk.i64_in _ (by omega)
   have HD:=Kh (show 1+k % 3=d by omega)
   have hd1:0<d∧d≤3:=by omega
   have HD1:=Kh hd1
   have hki:(k:Int)<(n:Int):=by omega
   by_cases hkl:k<ln
   ·obtain⟨g,o,rfl,hg,hc⟩:=HP.out k hkl
    obtain⟨z,hz⟩:∃ z,x k=z:=⟨_,rfl⟩
    have hzb:=HX.out k hkl
    rw[hz]at hc hzb
    have HZ:=Kh (show frU x ln k=Rat.divInt z d by rw[frU,if_pos hkl,hz,HD.out])
    have a0:wr.cell? ⟨g,o+k,none⟩=some (.int .i8 z):=(hb.cell (p:=⟨g,o+k,none⟩) hg).trans hc
    have v2:IntKind.i64.wrap z=z:=IntWalk.i64_in _ (by omega)
    have hkli:(k:Int)<(ln:Int):=by omega
    have HC:=Kh (c_Frac z d wr (by omega) (by omega) (by omega) (by omega))
    clear hb hz hc hd hr hd1 hzb
    go_wp2_with fail
    refine HC.out.mono ?_
    rintro e w2 ⟨⟨s,p1,i1,c1,t,q1,m,d1,rfl,hq⟩,hb2⟩
    obtain⟨xs,hK,hX⟩:=HO.out.keep (fun _=>IsQ.solid _) hb2
    have HK:=Kh hK
    have HX2:=Kh hX
    have HQ:=Kh (show IsQ (frU x ln k) w2 s p1 i1 c1 t q1 m d1 by rw[HZ.out];exact hq)
    have HB1:=bt HB hb2
    clear hK hX hq hb2 HO HB a0 HC
    go_wp2_with (at_builtin;refine wpl_app2 NotInt rfl (.tmp 22) (.tmp 28) _ 35 rfl Tryz.underlying24 ratInfo rfl (by decide) w.heap.size k u5 xs [.bool s,.slice p1 i1 c1,.bool t,.slice q1 m d1] rfl HK.out rfl rfl (one4 _ _ _ _ _ _ _ _) (by omega) (by omega) HB1.out.size (ni4 _ _ _ _ _ _ _ _) niz ?_;intro v' w' hown' hgr hat;have HO2:=Kh (OwnQ.push (W:=_) (fun _=>IsQ.solid _) HK.out HX2.out HQ.out hown' hgr);have HB2:=Kh (own_below HB1.out HK.out.1 hgr (Nat.le_refl _) HB1.out.size);clear hown' hgr hat)
    go_roundw
    case rel=>exact⟨k+1,by omega,by go_num,HO2.out,HB2.out⟩
    case measure=>simp[intOf];omega
   ·have HZ:=Kh (show frU x ln k=Rat.divInt 0 d by rw[frU,if_neg hkl,HD.out])
    have hkli:¬ ((k:Int)<(ln:Int)):=by omega
    have HC:=Kh (c_Frac 0 d wr (by omega) (by omega) (by omega) (by omega))
    clear hb hd hr hd1
    go_wp2_with fail
    refine HC.out.mono ?_
    rintro e w2 ⟨⟨s,p1,i1,c1,t,q1,m,d1,rfl,hq⟩,hb2⟩
    obtain⟨xs,hK,hX⟩:=HO.out.keep (fun _=>IsQ.solid _) hb2
    have HK:=Kh hK
    have HX2:=Kh hX
    have HQ:=Kh (show IsQ (frU x ln k) w2 s p1 i1 c1 t q1 m d1 by rw[HZ.out];exact hq)
    have HB1:=bt HB hb2
    clear hK hX hq hb2 HO HB HC
    go_wp2_with (at_builtin;refine wpl_app2 NotInt rfl (.tmp 22) (.tmp 28) _ 35 rfl Tryz.underlying24 ratInfo rfl (by decide) w.heap.size k u5 xs [.bool s,.slice p1 i1 c1,.bool t,.slice q1 m d1] rfl HK.out rfl rfl (one4 _ _ _ _ _ _ _ _) (by omega) (by omega) HB1.out.size (ni4 _ _ _ _ _ _ _ _) niz ?_;intro v' w' hown' hgr hat;have HO2:=Kh (OwnQ.push (W:=_) (fun _=>IsQ.solid _) HK.out HX2.out HQ.out hown' hgr);have HB2:=Kh (own_below HB1.out HK.out.1 hgr (Nat.le_refl _) HB1.out.size);clear hown' hgr hat)
    go_roundw
    case rel=>exact⟨k+1,by omega,by go_num,HO2.out,HB2.out⟩
    case measure=>simp[intOf];omega
  ·obtain rfl:k=n:=by omega
   clear hb
   go_wp2
   go_ret
   exact⟨⟨_,rfl,HO.out⟩,HB.out⟩
theorem IsQ.isS {r:Rat} {w:World} {s:Bool} {p:Option Addr} {n c:Nat} {t:Bool} {q:Option Addr} {m d:Nat} (h:IsQ r w s p n c t q m d) (hr:hq r≤900):IsS r.num r.den w s p n c t q m d:=
 ⟨h.1,h.2,by have:=Qs.sizes h;omega,by have:=Qs.sizes h;omega⟩
theorem IsS.isQ {r:Rat} {w:World} {s:Bool} {p:Option Addr} {n c:Nat} {t:Bool} {q:Option Addr} {m d:Nat} (h:IsS r.num r.den w s p n c t q m d):IsQ r w s p n c t q m d:=⟨h.1,h.2.1⟩
theorem QL.imp {F G:Nat→FP} {w:World} {v:Value} {n:Nat} (h:QL F w v n) (hi:∀ j,j<n→∀ s p k c t q m d,F j w s p k c t q m d→G j w s p k c t q m d):QL G w v n:=by
 rcases h with h |⟨g,o,c,h1,h2,h3⟩
 ·exact .inl h
 ·exact .inr ⟨g,o,c,h1,h2,fun j hj=>by
   obtain⟨s,p,k,c',t,q,m,d,e0,e1,e2,e3,hf⟩:=h3 j hj
   exact⟨s,p,k,c',t,q,m,d,e0,e1,e2,e3,hi j hj _ _ _ _ _ _ _ _ hf⟩⟩
theorem c_lawVec_bad (N k D:Int) (va vb:Value) (w:World) (hT:Tab w) (hck:Pl.check N k D≠0):
  Calls Tryz.prog 6 #[.agg #[.int .i64 N,.int .i64 k,.int .i64 D],va,vb] w fun e w'=>e=.returned (.bool true)∧Below w.heap.size w w':=by
 have HLA:=Kh (fun W=>c_Large_bad N k D W hck)
 have HNE:=Kh (fun W=>c_New_check N k D W hck)
 have HRE:=Kh (fun W=>c_New41_bad N k D W hck)
 obtain⟨er,her⟩:∃ er,Pl.check N k D=er:=⟨_,rfl⟩
 rw[her]at hck HNE HRE
 have hne:(er != 0)=true:=by simpa using hck
 have HT:=Kh hT
 clear her hck hT
 go_enter Tryz.func6,Tryz.ntmps6
 go_wp2_with fail
 obtain⟨w0,hw0,X0,hb0⟩:=bx1 w #[.int .i64 N,.int .i64 k,.int .i64 D] 23
 rw[hw0]
 refine(c_awake w0 (HT.out.below hb0)).mono ?_
 rintro e w1 ⟨rfl,hb1⟩
 have X1:=X0.below_ hb1 X0.lt
 have HB1:=Kh (hb0.trans (hb1.mono hb0.size))
 have x0:=X1.at_ 0 rfl
 have x1:=X1.at_ 1 rfl
 have x2:=X1.at_ 2 rfl
 have HX1:=Kh X1
 clear hw0 X0 hb0 hb1 X1
 go_wp2_with fail
 refine(HLA.out w1).mono ?_
 rintro e w2 ⟨rfl,hb2⟩
 have X2:=bk HX1 hb2
 have HB2:=bt HB1 hb2
 clear x0 x1 x2 hb2
 have x0:=X2.at_ 0 rfl
 have x1:=X2.at_ 1 rfl
 have x2:=X2.at_ 2 rfl
 have HX2:=Kh X2
 clear X2 HX1
 go_wp2_with fail
 refine(HNE.out w2).mono ?_
 rintro e w3 ⟨rfl,hb3⟩
 have HB3:=bt HB2 hb3
 have X3:=bk HX2 hb3
 clear x0 x1 x2 hb3
 have x0:=X3.at_ 0 rfl
 have x1:=X3.at_ 1 rfl
 have x2:=X3.at_ 2 rfl
 clear X3 HX2
 go_wp2_with fail
 refine(HRE.out w3).mono ?_
 rintro e w4 ⟨rfl,hb4⟩
 have HB4:=bt HB3 hb4
 clear x0 x1 x2 hb4
 go_wp2
 go_ret
 exact⟨rfl,HB4.out.alloc HB4.out.size _⟩
theorem c_lawVec_ok (n wt:Nat) (D:Int) (pa:Option Addr) (la ca:Nat) (xa:Nat→Int) (mo:Int) (w:World) (hT:Tab w) (hck:Pl.check n ((wt:Int)+2) D=0)
  (hpa:∀ k,k<la→∃ g o,pa=some ⟨g,o,none⟩∧g<w.heap.size∧w.cell? ⟨g,o+k,none⟩=some (.int .i8 (xa k))) (hxa:∀ k,k<la→-128≤xa k∧xa k≤127) (hmo:-128≤mo∧mo≤127):
  Calls Tryz.prog 6 #[.agg #[.int .i64 n,.int .i64 ((wt:Int)+2),.int .i64 D],.slice pa la ca,.int .i8 mo] w fun e w'=>e=.returned (.bool true)∧Below w.heap.size w w':=by
 obtain⟨h1,h2,h3,h4,h5,h6⟩:=check_zero hck
 have HLA:=Kh (fun W=>c_Large n wt D W hck)
 have HNW:=Kh (fun W (hb:Below w.heap.size w W) (hC:cntF n wt≤72)=>c_New n wt D W (hT.below hb) hck hC)
 have HRE:=Kh (fun W (hC:cntF n wt≤72)=>c_New41_ok n wt D W hck hC)
 have HCP:=Kh (show 0<cntF n wt from cntF_pos (by omega))
 have HCS:=Kh (fun(hC:cntF n wt≤72) j f=>coord_size (n:=n) (wt:=wt) (D:=D) (by omega) hC (j:=j) (f:=f))
 obtain⟨C,hC⟩:∃ C,cntF n wt=C:=⟨_,rfl⟩
 have hC2:(wt+1)*(pts n (n*n)).length=C:=hC
 rw[hC2]at HLA
 rw[hC]at HNW HCS HCP HRE
 obtain⟨L,hL⟩:∃ L,elF n wt D=L:=⟨_,rfl⟩
 rw[hL]at HNW HCS HRE
 have HFA:=Kh (fun W (hb:Below w.heap.size w W) (m:Nat) (hm:m≤1000)=>c_fractions pa la ca xa m W (fun k hk=>by obtain⟨g,o,e,hg,hc⟩:=hpa k hk;exact⟨g,o,e,Nat.lt_of_lt_of_le hg hb.size,(hb.cell (p:=⟨g,o+k,none⟩) hg).trans hc⟩) hxa hm)
 obtain⟨V,hV⟩:∃ V,frU xa la=V:=⟨_,rfl⟩
 have HVS:=Kh (show ∀ j,hq (V j)≤1 from fun j=>hV▸frU_size hxa)
 rw[hV]at HFA
 have HMO1:=Kh hmo
 have HT:=Kh hT
 clear hpa hxa hmo hV hT hck h1 h2 h3 h4 h5 h6 hC hC2 hL
 go_enter Tryz.func6,Tryz.ntmps6
 go_wp2_with fail
 obtain⟨w0,hw0,X0,hb0⟩:=bx1 w #[.int .i64 n,.int .i64 ((wt:Int)+2),.int .i64 D] 23
 rw[hw0]
 refine(c_awake w0 (HT.out.below hb0)).mono ?_
 rintro e w1 ⟨rfl,hb1⟩
 have X1:=X0.below_ hb1 X0.lt
 have HB1:=Kh (hb0.trans (hb1.mono hb0.size))
 have x0:=X1.at_ 0 rfl
 have x1:=X1.at_ 1 rfl
 have x2:=X1.at_ 2 rfl
 have HX1:=Kh X1
 clear hw0 X0 hb0 hb1 X1
 go_wp2_with fail
 refine(HLA.out w1).mono ?_
 rintro e w2 ⟨rfl,hb2⟩
 have X2:=bk HX1 hb2
 have HB2:=bt HB1 hb2
 clear x0 x1 x2 hb2
 have x0:=X2.at_ 0 rfl
 have x1:=X2.at_ 1 rfl
 have x2:=X2.at_ 2 rfl
 have HX2:=Kh X2
 clear X2 HX1
 by_cases hbig:72<C
 ·have hd:decide (72<C)=true:=decide_eq_true hbig
  rw[hd]
  go_wp2
  go_ret
  exact⟨rfl,HB2.out⟩
 have hd:decide (72<C)=false:=decide_eq_false hbig
 rw[hd]
 clear hd
 go_wp2_with fail
 refine(HNW.out w2 HB2.out (by omega)).mono ?_
 rintro e w3 ⟨⟨M,rfl,hM,hmod⟩,hb3⟩
 obtain⟨F,hF⟩:∃ F,frs L C=F:=⟨_,rfl⟩
 have HFL:=Kh (show F.length≤72 from Nat.le_trans (hF▸frs_length L C) (by omega))
 have HME:=Kh (show ∀ x,x∈F→x<C from fun x h=>by rw[← hF]at h;exact(frs_mem.1 h).1)
 rw[hF]at hmod HCS HRE
 obtain⟨X,hX⟩:∃ X,crd L C C=X:=⟨_,rfl⟩
 rw[hX]at hmod HCS HRE
 have HCL:=Kh (show C≤72 by omega)
 have HCS:=Kh (HCS.out (by omega))
 have HXS:=Kh (show ∀ j f,j<C→f∈F→hq (X j f)≤10000 from fun j f hj hf=>Nat.le_trans (HCS.out j f hj hf) (by omega))
 have HB3:=bt HB2 hb3
 have X3:=bk HX2 hb3
 have HMO3:=Kh (fun W (hb:Below w3.heap.size w3 W)=>hmod.keep (Nat.le_refl _) hb)
 clear x0 x1 x2 hM hmod hb3 hF hX HNW HLA HT HX2 hbig
 have x0:=X3.at_ 0 rfl
 have x1:=X3.at_ 1 rfl
 have x2:=X3.at_ 2 rfl
 have HX3:=Kh X3
 clear X3
 go_wp2_with fail
 refine(HRE.out w3 HCL.out).mono ?_
 rintro e w4 ⟨⟨vF,vA,rfl,hoF,hoA⟩,hb4⟩
 obtain⟨pF,cF,rfl⟩:=hoF.val
 obtain⟨pA,cA,rfl⟩:=ql_value hoA.ql
 obtain⟨FL,hFL⟩:∃ y,F.length=y:=⟨_,rfl⟩
 have HFLE:=Kh hFL
 obtain⟨CF,hCF⟩:∃ y,C*FL=y:=⟨_,rfl⟩
 have HCF:=Kh hCF
 rw[hFL]at hoF hoA HFL ⊢
 rw[hCF]at hoA ⊢
 have HOF:=Kh hoF
 have HOA:=Kh hoA
 have HB4:=bt HB3 hb4
 have HK4:=Kh hb4
 have HX4:=Kh (bk HX3 hb4)
 clear x0 x1 x2 hoF hoA hb4 HRE hFL hCF
 go_upto_region 9 with(fail)
 obtain⟨w5,hw5,X5,hb5⟩:=bx1 w4 #[.int .i64 (n:Int),.int .i64 ((wt:Int)+2),.int .i64 D,.int .i64 (C:Int),.slice pF FL cF,.int .i64 (C:Int),.int .i64 (FL:Int),.slice pA CF cA] 53
 rw[hw5]
 obtain⟨gw,hgw⟩:∃ y,w4.heap.size=y:=⟨_,rfl⟩
 rw[hgw]at X5 ⊢
 have HB5:=bt HB4 hb5
 have HK5:=bt HK4 hb5
 have HMO:=Kh (fun W (hb:Below w5.heap.size w5 W)=>HMO3.out W (HK5.out.trans (hb.mono HK5.out.size)))
 have HMS:=Kh (fun W (hb:Below w5.heap.size w5 W)=>Nat.le_trans HK5.out.size hb.size)
 obtain⟨gA,hA1,hA2,hcA,hcA2⟩:=(HOA.out.keep (fun _=>IsQ.solid _) hb5).parts
 have HA:=Kh (show FL=0∨(pA=some ⟨gA,0,none⟩∧gA<w5.heap.size)from hA1.imp (fun h=>by
  have h1:=HCF.out
  rw[h]at h1
  exact(Nat.mul_eq_zero.1 h1).resolve_left (by have:=HCP.out;omega)) id)
 have HA1:=Kh (show FL=0∨pA=some ⟨gA,0,none⟩from HA.out.imp id (fun h=>h.1))
 have HA2:=Kh hA2
 have HCA:=Kh (And.intro hcA hcA2)
 have HX5:=Kh X5
 have HFC:=Kh (show ∀ a b,b<FL→X ((a*FL+b) / FL) (F.getD ((a*FL+b) % FL) 0)=X a (F.getD b 0)from fun a b hb=>by rw[(dm_of a hb).1,(dm_of a hb).2])
 have HME2:=Kh (show ∀ b,b<FL→F.getD b 0∈F from fun b hb=>by
  have h2:b<F.length:=by rw[HFLE.out];exact hb
  rw[List.getD_eq_getElem?_getD,List.getElem?_eq_getElem h2]
  exact List.getElem_mem h2)
 clear hw5 X5 hb5 hgw hA1 hA2 hcA hcA2
 obtain⟨cnt,hcnt⟩:∃ cnt:Nat,max 0 ((C:Int)+mo)=cnt:=⟨(max 0 ((C:Int)+mo)).toNat,by omega⟩
 have hmx:=hcnt
 have hmx2:max ((C:Int)+mo) 0=cnt:=by rw[Int.max_comm];exact hcnt
 have hC72:(C:Int)≤72:=by have:=HCL.out;omega
 obtain⟨hmo1,hmo2⟩:=HMO1.out
 have HCT:=Kh (show cnt≤200 by omega)
 have v1:IntKind.i64.wrap ((C:Int)+mo)=(C:Int)+mo:=IntWalk.i64_in _ (by omega)
 clear hcnt
 have z0:=(HX5.out.below_ (Below.refl _ w5) HX5.out.lt).at_ 0 rfl
 have z1:=(HX5.out.below_ (Below.refl _ w5) HX5.out.lt).at_ 1 rfl
 have z2:=(HX5.out.below_ (Below.refl _ w5) HX5.out.lt).at_ 2 rfl
 have z3:=(HX5.out.below_ (Below.refl _ w5) HX5.out.lt).at_ 3 rfl
 have z4:=(HX5.out.below_ (Below.refl _ w5) HX5.out.lt).at_ 4 rfl
 have z5:=(HX5.out.below_ (Below.refl _ w5) HX5.out.lt).at_ 5 rfl
 have z6:=(HX5.out.below_ (Below.refl _ w5) HX5.out.lt).at_ 6 rfl
 have z7:=(HX5.out.below_ (Below.refl _ w5) HX5.out.lt).at_ 7 rfl
 go_wp2_with fail
 refine(HFA.out w5 HB5.out cnt (by have:=HCT.out;omega)).mono ?_
 rintro e w6 ⟨⟨vx,rfl,hox⟩,hb6⟩
 have HB6:=bt HB5 hb6
 have HK6:=Kh hb6
 have HQX:=Kh hox.ql
 obtain⟨px,cx,rfl⟩:=ql_value hox.ql
 clear hb6 hox z0 z1 z2 z3 z4 z5 z6 z7 hmx hmx2 hmo1 hmo2 v1 hC72
 go_wp2_with fail
 refine(c_CopyRatsS (.slice px cnt cx) cnt (fun j=>(V j).num) (fun j=>(V j).den) w6 (HQX.out.imp (fun j _ _ _ _ _ _ _ _ _ h=>IsQ.isS h (by have:=HVS.out j;omega))) (by have:=HCT.out;omega)).mono ?_
 rintro e w7 ⟨⟨vy,rfl,hoy⟩,hb7⟩
 have HB7:=bt HB6 hb7
 have HK7:=bt HK6 hb7
 have HQX7:=Kh (HQX.out.keep (fun _=>IsQ.solid _) hb7)
 have HQY:=Kh (show QL (fun j=>IsQ (V j)) w7 vy cnt from hoy.ql.imp (fun j _ _ _ _ _ _ _ _ _ h=>IsS.isQ h))
 obtain⟨py,cy,rfl⟩:=ql_value hoy.ql
 clear hb7 hoy
 by_cases hcc:cnt=C
 ·obtain rfl:C=cnt:=hcc.symm
  clear hcc
  go_wp2_with fail
  refine(c_Vector M w3.heap.size n ((wt:Int)+2) D F C X (.slice py C cy) V w7 (HMO.out w7 HK7.out) (HMS.out w7 HK7.out) HQY.out HCP.out (by have:=HCL.out;omega) (by have:=HFLE.out;have:=HFL.out;omega) (fun j _=>by have:=HVS.out j;omega) HXS.out).mono ?_
  rintro e w8 ⟨⟨g8,rfl,_,hq8⟩,hb8⟩
  rw[HFLE.out]at hq8 ⊢
  have HB8:=bt HB7 hb8
  have HK8:=bt HK7 hb8
  have HQX8:=Kh (HQX7.out.keep (fun _=>IsQ.solid _) hb8)
  have HQ8:=Kh (QRow.ql hq8 FL)
  clear hb8 hq8
  have z0:=(HX5.out.below_ HK8.out HX5.out.lt).at_ 0 rfl
  have z1:=(HX5.out.below_ HK8.out HX5.out.lt).at_ 1 rfl
  have z2:=(HX5.out.below_ HK8.out HX5.out.lt).at_ 2 rfl
  have z3:=(HX5.out.below_ HK8.out HX5.out.lt).at_ 3 rfl
  have z4:=(HX5.out.below_ HK8.out HX5.out.lt).at_ 4 rfl
  have z5:=(HX5.out.below_ HK8.out HX5.out.lt).at_ 5 rfl
  have z6:=(HX5.out.below_ HK8.out HX5.out.lt).at_ 6 rfl
  have z7:=(HX5.out.below_ HK8.out HX5.out.lt).at_ 7 rfl
  go_wp2_with fail
  refine(c_RVector n ((wt:Int)+2) D C FL CF pF pA cF cA gA (fun j=>X (j / FL) (F.getD (j % FL) 0)) (.slice px C cx) V w8 HA1.out (HA.out.imp id (fun h=>Nat.lt_of_lt_of_le h.2 HK8.out.size)) (fun j hj=>(HA2.out j hj).keep (IsQ.solid _) HK8.out) HQX8.out HCP.out HCF.out HCA.out.1 HCA.out.2 HCL.out (by have:=HFL.out;omega) (fun j _=>by have:=HVS.out j;omega) (fun j hj=>by
   have hFL0:0<FL:=by
    rcases Nat.eq_zero_or_pos FL with h|h
    ·have h1:=HCF.out
     rw[h,Nat.mul_zero]at h1
     omega
    ·exact h
   exact HXS.out _ _ (by rw[Nat.div_lt_iff_lt_mul hFL0];have h1:=HCF.out;omega) (HME2.out _ (Nat.mod_lt _ hFL0)))).mono ?_
  rintro e w9 ⟨⟨v9,rfl,hq9⟩,hb9⟩
  have HB9:=bt HB8 hb9
  have HQ8':=Kh (HQ8.out.keep (fun _=>IsQ.solid _) hb9)
  have HQ9:=Kh (show QL (fun i=>IsQ (vecS V X C (F.getD i 0))) w9 v9 FL from hq9.congr (fun j hj=>by rw[vecS_congr C (fun a _=>HFC.out a j hj)]))
  obtain⟨p9,c9,rfl⟩:=ql_value hq9
  clear hb9 hq9 z0 z1 z2 z3 z4 z5 z6 z7
  go_wp2_with fail
  refine(c_SameRats_eq _ _ FL (fun i=>vecS V X C (F.getD i 0)) w9 HQ8'.out HQ9.out (by have:=HFL.out;omega) (fun j hj=>by
   have h1:=vecS_size (V:=V) (X:=X) (f:=F.getD j 0) (A:=1) (B:=10000) C (fun i _=>HVS.out i) (fun i hi=>HXS.out i _ hi (HME2.out j hj))
   have h2:=Nat.mul_le_mul_right (1+10000+1) HCL.out
   omega)).mono ?_
  rintro e w10 ⟨rfl,hb10⟩
  have HB10:=bt HB9 hb10
  clear hb10
  go_wp2
  go_ret
  exact⟨rfl,HB10.out⟩
 ·have HNE:=Kh hcc
  clear hcc
  go_wp2_with fail
  refine(c_Vector_shape M w3.heap.size n ((wt:Int)+2) D F C X py cnt cy w7 (HMO.out w7 HK7.out) HNE.out).mono ?_
  rintro e w' ⟨rfl,hw'⟩
  obtain rfl:w7=w':=hw'.symm
  have z0:=(HX5.out.below_ HK7.out HX5.out.lt).at_ 0 rfl
  have z1:=(HX5.out.below_ HK7.out HX5.out.lt).at_ 1 rfl
  have z2:=(HX5.out.below_ HK7.out HX5.out.lt).at_ 2 rfl
  have z3:=(HX5.out.below_ HK7.out HX5.out.lt).at_ 3 rfl
  have z4:=(HX5.out.below_ HK7.out HX5.out.lt).at_ 4 rfl
  have z5:=(HX5.out.below_ HK7.out HX5.out.lt).at_ 5 rfl
  have z6:=(HX5.out.below_ HK7.out HX5.out.lt).at_ 6 rfl
  have z7:=(HX5.out.below_ HK7.out HX5.out.lt).at_ 7 rfl
  go_wp2_with fail
  refine(c_RVector_shape n ((wt:Int)+2) D C FL CF pF pA cF cA px cnt cx w7 HNE.out).mono ?_
  rintro e w8 ⟨rfl,hb8⟩
  have HB8:=bt HB7 hb8
  clear hb8 z0 z1 z2 z3 z4 z5 z6 z7
  go_wp2_with fail
  refine(c_SameRats_eq _ _ 0 (fun _=>0) w8 (.inl ⟨rfl,_,_,rfl⟩) (.inl ⟨rfl,_,_,rfl⟩) (by omega) (fun j hj=>absurd hj (Nat.not_lt_zero j))).mono ?_
  rintro e w9 ⟨rfl,hb9⟩
  have HB9:=bt HB8 hb9
  clear hb9
  go_wp2
  go_ret
  exact⟨rfl,HB9.out⟩
theorem c_lawVec (N k D:Int) (pa:Option Addr) (la ca:Nat) (xa:Nat→Int) (mo:Int) (w:World) (hT:Tab w)
  (hpa:∀ k,k<la→∃ g o,pa=some ⟨g,o,none⟩∧g<w.heap.size∧w.cell? ⟨g,o+k,none⟩=some (.int .i8 (xa k))) (hxa:∀ k,k<la→-128≤xa k∧xa k≤127) (hmo:-128≤mo∧mo≤127):
  Calls Tryz.prog 6 #[.agg #[.int .i64 N,.int .i64 k,.int .i64 D],.slice pa la ca,.int .i8 mo] w fun e w'=>e=.returned (.bool true)∧Below w.heap.size w w':=by
 by_cases hck:Pl.check N k D=0
 ·obtain⟨h1,h2,h3,h4,_,_⟩:=check_zero hck
  obtain⟨n,rfl⟩:∃ n:Nat,N=n:=⟨N.toNat,by omega⟩
  obtain⟨wt,rfl⟩:∃ wt:Nat,k=(wt:Int)+2:=⟨(k - 2).toNat,by omega⟩
  exact c_lawVec_ok n wt D pa la ca xa mo w hT hck hpa hxa hmo
 ·exact c_lawVec_bad N k D _ _ w hT hck
end Go.Proofs.YthikonjlgljikaaGreatDoor
namespace Go.Proofs.YthikonjlgljikaaGreatDoor
open Go.RowKit Go.ChangeShapes Go.WideShapes Go.Deep
theorem spot_of {w:World} {a:Addr} {v:Value} (h:w.cell? a=some v):a.spot=none:=by
 cases hsp:a.spot with
 | none=>rfl
 | some s=>
  simp only[World.cell?]at h
  split at h
  ·simp[hsp]at h
  ·cases h
theorem addr_of {w:World} {a:Addr} {v:Value} (h:w.cell? (a.add 0)=some v):∃ g o,a=⟨g,o,none⟩∧g<w.heap.size:=by
 have e:a.add 0=a:=by unfold Addr.add;rw[if_pos rfl]
 rw[e]at h
 have h1:=spot_of h
 have h2:=World.block_lt_of_cell? w a h
 obtain⟨g,o,s⟩:=a
 dsimp only at h1 h2
 subst h1
 exact⟨g,o,rfl,h2⟩
theorem wf_lo {k:IntKind} {n:Int} (h:(Lit.int k n).wf=true):k.min≤n∧n≤k.max:=by simpa [Lit.wf] using h
theorem cells8:Tryz.prog.cellsOf 69=1:=by kernel_rfl
section
variable {H:Type} {enc:TypeId×Value→H} {w:World} {sp:Nat→Bool} {hd:Bool}
theorem open_i8 {r:Reach} {b0:Nat} {v:Value} {d:DataW H} {ps:List MemPlace} (hv:Value.okWide Tryz.prog w r b0 68 v) (h:DataW.Trod enc Tryz.prog w 0 sp hd 68 v d ps):
  ∃ (p:Option Addr) (ln c:Nat) (x:Nat→Int),v=.slice p ln c∧(∀ k,k<ln→∃ g o,p=some ⟨g,o,none⟩∧g<w.heap.size∧w.cell? ⟨g,o+k,none⟩=some (.int .i8 (x k)))∧∀ k,k<ln→-128≤x k∧x k≤127:=by
 obtain⟨p,ln,c,rfl⟩:=okWide_slice Tryz.underlying68 hv
 obtain⟨fuel,hf⟩:=h
 rcases open_ints Tryz.underlying68 Tryz.underlying69 cells8 hf with⟨h1,_⟩ |⟨a,len,cap,zs,h1,_,h3,_,h5,_,h7,h8⟩
 ·have h2:Value.slice p ln c=.slice none 0 0:=by
   have h0:[Value.slice p ln c]=[.slice none 0 0]:=h1
   injection h0
  injection h2 with e1 e2 e3
  subst e1 e2 e3
  exact⟨none,0,0,fun _=>0,rfl,fun k hk=>absurd hk (Nat.not_lt_zero _),fun k hk=>absurd hk (Nat.not_lt_zero _)⟩
 ·have h2:Value.slice p ln c=.slice (some a) len cap:=by
   have h0:[Value.slice p ln c]=[.slice (some a) len cap]:=h1
   injection h0
  injection h2 with e1 e2 e3
  subst e1 e2 e3
  have hle:ln≤zs.length:=by rw[h5];split <;> omega
  refine⟨some a,ln,c,fun i=>zs.getD i 0,rfl,fun k hk=>?_,fun k hk=>?_⟩
  ·obtain⟨g,o,rfl,hg⟩:=addr_of (h7 0 (by omega))
   have h9:=h7 k (by omega)
   rw[Addr.add_lit]at h9
   exact⟨g,o,rfl,hg,h9⟩
  ·have hk2:k<zs.length:=by omega
   have e:zs.getD k 0=zs[k]:=by rw[List.getD_eq_getElem?_getD,List.getElem?_eq_getElem hk2];rfl
   have h9:=wf_lo (h8 (zs.getD k 0) (by rw[e];exact List.getElem_mem hk2))
   exact h9
theorem trodAll_carry {P:Program} {W W':World}:∀ {ts:List TypeId} {vs:List Value} {ds:List (DataW H)} {ps:List MemPlace},DataW.TrodAll enc P W 0 sp hd ts vs ds ps→(∀ p∈ps,W.sameAt W' p)→DataW.TrodAll enc P W' 0 sp hd ts vs ds ps
 | [],[],[],_,h,_=>h
 | _ :: _,_ :: _,_ :: _,_,⟨p,q,⟨n,h1⟩,h2,e⟩,hs=>⟨p,q,⟨n,DataW.trod_carry n _ _ _ h1 (fun x hx=>hs x (by rw[e];exact List.mem_append_left _ hx))⟩,trodAll_carry h2 (fun x hx=>hs x (by rw[e];exact List.mem_append_right _ hx)),e⟩
end
theorem kidsAll:Kids Tryz.prog (·<Tryz.prog.types.size):=kids_rows (by kernel_rfl) (by kernel_rfl)
theorem fullAll:∀ t e,t<Tryz.prog.types.size→Tryz.prog.underlying t=some (.slice e)→0<Tryz.prog.cellsOf e:=slices_full_of Tryz.prog (by kernel_rfl)
end Go.Proofs.YthikonjlgljikaaGreatDoor
