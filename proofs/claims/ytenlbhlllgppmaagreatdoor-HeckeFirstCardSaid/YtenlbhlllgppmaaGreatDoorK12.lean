/- Contract of bigint's divide. -/
import Derived.Test.YtenlbhlllgppmaaGreatDoorK11
set_option maxRecDepth 100000
set_option maxHeartbeats 8000000
namespace Go.Proofs.YtenlbhlllgppmaaGreatDoor
open Go.RowKit
theorem Dg.nm {w:World} {p:Option Addr} {c k t:Nat} {r:Nat→Nat} (h:Dg w p c k r) (hv:vf r k=t) (hk:nd t=k):Nm w p c t:=by
 unfold Nm
 rw[hk]
 exact h.congr (by rw[← hv];exact dg_vf h.lt)
theorem Nm.drewN {w:World} {p:Option Addr} {c v:Nat} (h:Nm w p c v) (n:Nat):Nm (w.drewN n) p c v:=h.keep (below_drewN' (Below.refl _ _) n)
theorem nn_small {w:World} {p:Option Addr} {c u v:Nat} (h:Nm w p c u) (huv:u<v):RetNN w (.returned (.tuple #[.slice none 0 0,.slice p (nd u) c])) (u / v) (u % v):=by
 rw[Nat.div_eq_of_lt huv,Nat.mod_eq_of_lt huv]
 exact⟨none,0,p,c,rfl,Nm.nil _,h⟩
def RetO (w':World) (e:Ending) (v:Nat):Prop:=∃ p n c,e=.returned (.slice p n c)∧nd v=n∧Nm w' p c v
theorem RetN.op {w':World} {e:Ending} {v:Nat} (h:RetN w' e v):RetO w' e v:=by
 obtain⟨p,c,h1,h2⟩:=h
 exact⟨p,_,c,h1,rfl,h2⟩
theorem nn_of {w:World} {p p':Option Addr} {c c' n n' q r:Nat} (h1:nd q=n) (h2:nd r=n') (h3:Nm w p c q) (h4:Nm w p' c' r):RetNN w (.returned (.tuple #[.slice p n c,.slice p' n' c'])) q r:=by
 subst h1;subst h2
 exact⟨p,c,p',c',rfl,h3,h4⟩
theorem c_div_small (p:Option Addr) (c u:Nat) (q:Option Addr) (d v:Nat) (w:World) (h1:Nm w p c u) (h2:Nm w q d v) (hu:nd u≤35184372088830) (hv:nd v≤35184372088830) (huv:u<v):
  Calls Tryz.prog 205 #[.slice p (nd u) c,.slice q (nd v) d] w fun e w'=>RetNN w' e (u / v) (u % v)∧Below w.heap.size w w':=by
 have HC:=c_compare p c u q d v w h1 h2 (by omega) (by omega)
 rw[cmp_lt huv]at HC
 replace HC:=Kh HC
 have HCL:=Kh (fun k=>c_Clone p c (nd u) (dg u) (w.drewN k) (h1.drewN k) hu)
 have HUV:=Kh huv
 clear h1 h2 huv
 go_enter Tryz.func205,Tryz.ntmps205
 go_wp2_with (go_at_call 167;refine HC.out.mono ?_;rintro e w' ⟨rfl,k,rfl⟩)
 refine(HCL.out k).mono ?_
 rintro e w1 ⟨⟨p1,c1,r1,rfl,hd,hv1⟩,hb⟩
 have hn:RetNN w1 (.returned (.tuple #[.slice none 0 0,.slice p1 (nd u) c1])) (u / v) (u % v):=nn_small (hd.nm (by rw[hv1,vf_nd]) rfl) HUV.out
 have hb2:Below w.heap.size w w1:=(below_drewN' (Below.refl _ _) k).trans hb
 have HN:=Kh hn
 have HB:=Kh hb2
 clear hd hv1 hb hn hb2
 go_wp2
 go_ret2
 exact⟨HN.out,HB.out⟩
theorem cmp_ge {u v:Nat} (h:v≤u):∃ s:Nat,Int.sign ((u:Int) - v)=s:=by
 rcases Nat.lt_or_ge v u with h1|h1
 ·exact⟨1,cmp_gt h1⟩
 ·obtain rfl:u=v:=by omega
  exact⟨0,by simp⟩
theorem c_wordN (p:Option Addr) (c u:Nat) (w:World) (h:Nm w p c u) (hn:nd u≤2):
  Calls Tryz.prog 204 #[.slice p (nd u) c] w fun e w'=>e=.returned (.int .u64 (u:Nat))∧∃ k,w'=w.drewN k:=by
 have:=c_word p c (nd u) (dg u) w h hn
 rw[vf_nd]at this
 exact this
theorem nd_le_two {u:Nat} (h:nd u≤2):u<18446744073709551616:=by
 have:=nd_le.1 h
 omega
theorem c_div_word (p:Option Addr) (c u:Nat) (q:Option Addr) (d v:Nat) (w:World) (h1:Nm w p c u) (h2:Nm w q d v) (hu:nd u≤2) (hv:0<v) (huv:v≤u):
  Calls Tryz.prog 205 #[.slice p (nd u) c,.slice q (nd v) d] w fun e w'=>RetNN w' e (u / v) (u % v)∧Below w.heap.size w w':=by
 have hvn:nd v≤2:=Nat.le_trans (nd_mono huv) hu
 obtain⟨s,hs⟩:=cmp_ge huv
 have hsd:decide ((s:Int)<0)=false:=decide_eq_false (by omega)
 have HC:=c_compare p c u q d v w h1 h2 (by omega) (by omega)
 rw[hs]at HC
 replace HC:=Kh HC
 have H1:=Kh (fun(w1:World) (hb:Below w.heap.size w w1)=>c_wordN p c u w1 (h1.keep hb) hu)
 have H2:=Kh (fun(w1:World) (hb:Below w.heap.size w w1)=>c_wordN q d v w1 (h2.keep hb) hvn)
 have hul:=nd_le_two hu
 have hvl:=nd_le_two hvn
 obtain⟨Q,hQ⟩:∃ Q,u / v=Q:=⟨_,rfl⟩
 obtain⟨R,hR⟩:∃ R,u % v=R:=⟨_,rfl⟩
 have hQl:Q≤u:=by rw[← hQ];exact Nat.div_le_self _ _
 have hRl:R<v:=by rw[← hR];exact Nat.mod_lt _ hv
 have HQ:=Kh (fun w=>(c_wide Q w (by omega)).mono (fun _ _ h=>And.imp_left RetN.op h))
 have HR:=Kh (fun w=>(c_wide R w (by omega)).mono (fun _ _ h=>And.imp_left RetN.op h))
 have hqt:Int.tdiv (u:Int) (v:Int)=(Q:Nat):=by rw[Int.tdiv_eq_ediv_of_nonneg (by omega),← hQ];exact(Int.natCast_ediv _ _).symm
 have hrt:Int.tmod (u:Int) (v:Int)=(R:Nat):=by rw[Int.tmod_eq_emod_of_nonneg (by omega),← hR];exact(Int.natCast_emod _ _).symm
 have hqt2:(u:Int) / (v:Int)=(Q:Nat):=by rw[← hQ];exact(Int.natCast_ediv _ _).symm
 have hrt2:(u:Int) % (v:Int)=(R:Nat):=by rw[← hR];exact(Int.natCast_emod _ _).symm
 have hqw:IntKind.u64.wrap (Q:Int)=Q:=by rw[IntKind.wrap_u64];omega
 have hv0:((v:Int)==0)=false:=beq_eq_false_iff_ne.2 (by omega)
 have hv1:(v:Int)≠0:=by omega
 have hv2:v≠0:=by omega
 rw[hQ,hR]
 have hn2:(nd u:Int)≤2:=by omega
 clear h1 h2 huv hul hvl hs hQ hR hQl hRl hu hvn
 generalize nd u=n at *
 generalize nd v=m at *
 go_enter Tryz.func205,Tryz.ntmps205
 go_wp2_with fail
 refine HC.out.mono ?_
 rintro e w1 ⟨rfl,hq⟩
 have B1:=quiet_below hq
 have HB1:=Kh B1
 clear hq B1
 go_wp2_with fail
 refine(H1.out _ HB1.out).mono ?_
 rintro e w2 ⟨rfl,hq⟩
 have B2:=HB1.out.trans ((quiet_below hq).mono HB1.out.size)
 have HB2:=Kh B2
 clear hq B2
 go_wp2_with fail
 refine(H2.out _ HB2.out).mono ?_
 rintro e w3 ⟨rfl,hq⟩
 have B3:=HB2.out.trans ((quiet_below hq).mono HB2.out.size)
 have HB3:=Kh B3
 clear hq B3
 go_upto_region 5 with(fail)
 have M1:True:=trivial
 go_region_held3 (fun _=>True) (exact trivial) (first |(go_at_call 132;clear M1;refine(HQ.out _).mono ?_;rintro e w4 ⟨⟨p1,n1,c1,rfl,hn1,hm1⟩,hb1⟩;replace hn1:=Kh hn1;replace hm1:=Kh hm1;replace hb1:=Kh hb1) |(go_at_call 132;refine(HR.out _).mono ?_;rintro e w5 ⟨⟨p2,n2,c2,rfl,hn2,hm2⟩,hb2⟩;replace hn2:=Kh hn2;replace hm2:=Kh hm2;replace hb2:=Kh hb2))
 go_wp2
 go_ret2
 exact⟨nn_of hn1.out hn2.out (hm1.out.keep hb2.out) hm2.out,((below_drewN' HB3.out 1).trans (hb1.out.mono HB3.out.size)).trans (hb2.out.mono (Nat.le_trans HB3.out.size hb1.out.size))⟩
theorem nd_eq_one {v:Nat} (h:nd v=1):dg v 0=v∧v<4294967296∧v≠0:=by
 have h1:=(nd_le (v:=v) (k:=1)).1 (by omega)
 have h2:=nd_pos.1 (show 0<nd v by omega)
 have h3:=vf_nd v
 rw[h,vf,vf]at h3
 refine⟨by simpa using h3,by omega,h2⟩
theorem c_div_short (p:Option Addr) (c u:Nat) (q:Option Addr) (d v:Nat) (w:World) (h1:Nm w p c u) (h2:Nm w q d v) (hu:2<nd u) (hul:nd u≤35184372088830) (hv:nd v=1) (huv:v≤u):
  Calls Tryz.prog 205 #[.slice p (nd u) c,.slice q (nd v) d] w fun e w'=>RetNN w' e (u / v) (u % v)∧Below w.heap.size w w':=by
 obtain⟨hv1,hv2,hv0⟩:=nd_eq_one hv
 obtain⟨s,hs⟩:=cmp_ge huv
 have hsd:decide ((s:Int)<0)=false:=decide_eq_false (by omega)
 have HC:=c_compare p c u q d v w h1 h2 (by omega) (by omega)
 rw[hs]at HC
 replace HC:=Kh HC
 have HS:=Kh (fun(w1:World) (hb:Below w.heap.size w w1)=>c_short p c (nd u) (dg u) v w1 (Dg.keep h1 hb) (by omega) (by omega) (by omega))
 rw[vf_nd]at HS
 obtain⟨g,o,rfl,hg,hcell⟩:=h2.head (by omega)
 have hc0:∀ w1,Below w.heap.size w w1→w1.cell? ⟨g,o,none⟩=some (.int .u32 (v:Nat)):=fun w1 hb=>by
  have:=(hb.cell (p:=⟨g,o,none⟩) hg).trans (hcell 0 (by omega))
  rw[hv1]at this
  exact this
 have HC0:=Kh hc0
 obtain⟨Q,hQ⟩:∃ Q,u / v=Q:=⟨_,rfl⟩
 obtain⟨R,hR⟩:∃ R,u % v=R:=⟨_,rfl⟩
 have hRl:R<v:=by rw[← hR];exact Nat.mod_lt _ (by omega)
 have HW:=Kh (fun w=>(c_wide R w (by omega)).mono (fun _ _ h=>And.imp_left RetN.op h))
 rw[hQ,hR]at HS
 rw[hQ,hR,hv]
 rw[hv]at HC
 have hn2:(2:Int)<(nd u:Int):=by omega
 have hn2d:decide ((nd u:Int)≤2)=false:=decide_eq_false (by omega)
 have HUL:=Kh hul
 have HRI:=Kh (show(R:Int)<4294967296 by omega)
 clear h1 h2 huv hs hQ hR hRl hu hcell hc0 hv hv1 hv2 hv0 hul
 generalize nd u=n at *
 go_enter Tryz.func205,Tryz.ntmps205
 go_wp2_with fail
 refine HC.out.mono ?_
 rintro e w1 ⟨rfl,hq⟩
 have B1:=quiet_below hq
 have HB1:=Kh B1
 have c0:=HC0.out _ B1
 clear hq B1 HC HC0
 go_wp2_with fail
 refine(HS.out _ HB1.out).mono ?_
 rintro e w2 ⟨⟨p2,c2,r2,rfl,hd2,hv2⟩,hb2⟩
 have HT:=Kh (c_trimmed p2 c2 n r2 w2 hd2 (by have:=HUL.out;omega))
 rw[hv2]at HT
 have B2:=HB1.out.trans (hb2.mono HB1.out.size)
 have HB2:=Kh B2
 clear hb2 B2 hd2 hv2 HS c0
 go_wp2_with fail
 refine HT.out.mono ?_
 rintro e w3 ⟨⟨rfl,hm⟩,rfl⟩
 obtain⟨k,hk⟩:∃ k,nd Q=k:=⟨_,rfl⟩
 rw[hk]
 have HM:=Kh hm
 have HK:=Kh hk
 have hRi:=HRI.out
 clear HT hm hk
 go_wp2_with fail
 refine(HW.out _).mono ?_
 rintro e w4 ⟨⟨p4,n4,c4,rfl,hn4,hm4⟩,hb4⟩
 have hf:=nn_of HK.out hn4 (HM.out.keep hb4) hm4
 have B4:=HB2.out.trans (hb4.mono HB2.out.size)
 have HF:=Kh hf
 have HB4:=Kh B4
 clear hf B4 hb4 hn4 hm4
 go_wp2
 go_ret2
 exact⟨HF.out,HB4.out⟩
theorem lz_at {v:Nat} (hv:v≠0):∃ t S,dg v (nd v - 1)=t∧t<4294967296∧S<32∧(32 - (Lib.bitLen t:Int))=(S:Nat)∧nd (v*2 ^ S)=nd v∧2147483648≤dg (v*2 ^ S) (nd v - 1)∧v*2 ^ S<4294967296 ^ (nd v)∧4294967296 ^ (nd v - 1)*2147483648≤v*2 ^ S:=by
 obtain⟨m,hm⟩:∃ m,nd v=m+1:=⟨nd v - 1,by have:=nd_pos.2 hv;omega⟩
 have h2:=nd_le.1 (Nat.le_refl (nd v))
 have hd:dg v (nd v - 1)=v / 4294967296 ^ (nd v - 1):=by
  unfold dg
  rw[hm]at h2 ⊢
  simp only[Nat.add_sub_cancel]
  rw[Nat.mod_eq_of_lt]
  rw[Nat.div_lt_iff_lt_mul (Dig.pow_pos m),← pow_succ']
  exact h2
 obtain⟨t,ht⟩:∃ t,v / 4294967296 ^ (nd v - 1)=t:=⟨_,rfl⟩
 have htl:t<4294967296:=by rw[← ht,← hd];exact dg_lt _ _
 have hl:Lib.bitLen t≤32:=Lib.bitLen_le t 32 (by omega) (by omega)
 obtain⟨a1,a2,a3,a4,a5,a6⟩:=lz_facts (s:=32 - Lib.bitLen t) hv ht (by omega)
 exact⟨t,32 - Lib.bitLen t,hd.trans ht,htl,a1,by omega,a3,a4,a5,a6⟩
theorem long_fits {n m M S u v:Nat} {r0:Nat→Nat} (hr:∀ i,i<n+1→r0 i<4294967296) (hv:vf r0 (n+1)=u*2 ^ S) (hu:u<4294967296 ^ n) (hM:M+m=n+1) (hm:0<m) (hS:S<32) (hV:4294967296 ^ (m - 1)*2147483648≤v*2 ^ S):vf (shf r0 M) m<v*2 ^ S:=by
 have h1:=vf_div hr (i:=M) (by omega)
 rw[show n+1 - M=m from by omega,hv]at h1
 rw[← h1]
 have h2:=two_pow_le hS
 refine Nat.lt_of_lt_of_le ?_ hV
 rw[Nat.div_lt_iff_lt_mul (Dig.pow_pos M)]
 have h3:4294967296 ^ (m - 1)*2147483648*4294967296 ^ M=4294967296 ^ n*2147483648:=by
  rw[show n=(m - 1)+M from by omega,Nat.pow_add]
  simp only[Nat.mul_comm,Nat.mul_left_comm]
 rw[h3]
 exact Nat.lt_of_lt_of_le (Nat.mul_lt_mul_of_pos_right hu (Nat.two_pow_pos S)) (Nat.mul_le_mul_left _ h2)
theorem c_div_long (p:Option Addr) (c u:Nat) (q:Option Addr) (d v:Nat) (w:World) (h1:Nm w p c u) (h2:Nm w q d v) (hu:2<nd u) (hul:nd u≤35184372088830) (hv:1<nd v) (huv:v≤u):
  Calls Tryz.prog 205 #[.slice p (nd u) c,.slice q (nd v) d] w fun e w'=>RetNN w' e (u / v) (u % v)∧Below w.heap.size w w':=by
 have hv0:v≠0:=nd_pos.1 (by omega)
 have hvn:=nd_mono huv
 obtain⟨s,hs⟩:=cmp_ge huv
 have hsd:decide ((s:Int)<0)=false:=decide_eq_false (by omega)
 have HC:=c_compare p c u q d v w h1 h2 (by omega) (by omega)
 rw[hs]at HC
 replace HC:=Kh HC
 obtain⟨t,S,ht,htl,hS,hSe,hndV,htop,hVl,hVg⟩:=lz_at hv0
 obtain⟨g,o,rfl,hg,hcell⟩:=h2.head (by omega)
 have hc0:∀ w1,Below w.heap.size w w1→w1.cell? ⟨g,o+(nd v - 1),none⟩=some (.int .u32 (t:Nat)):=fun w1 hb=>by
  have:=(hb.cell (p:=⟨g,o+(nd v - 1),none⟩) hg).trans (hcell (nd v - 1) (by omega))
  rw[ht]at this
  exact this
 have HC0:=Kh hc0
 have HLZ:=Kh (fun w=>c_Lz32 (t:Int) w (by omega) (by omega))
 rw[Int.toNat_natCast,hSe]at HLZ
 have H1:=Kh (fun(w1:World) (hb:Below w.heap.size w w1)=>c_shifted p c (nd u) (dg u) S w1 (Dg.keep h1 hb) (by omega) (by omega))
 have H2:=Kh (fun(w1:World) (hb:Below w.heap.size w w1)=>c_shifted (some ⟨g,o,none⟩) d (nd v) (dg v) S w1 (Dg.keep h2 hb) (by omega) (by omega))
 rw[vf_nd]at H1 H2
 have hun:u<4294967296 ^ nd u:=nd_le.1 (Nat.le_refl _)
 have hSi:(S:Int)<32:=by omega
 have hn2:(2:Int)<(nd u:Int):=by omega
 have hn2d:decide ((nd u:Int)≤2)=false:=decide_eq_false (by omega)
 have hm1:(1:Int)<(nd v:Int):=by omega
 have hm1d:((nd v:Int)==1)=false:=beq_eq_false_iff_ne.2 (by omega)
 have e1:((nd v:Int) - 1).toNat=nd v - 1:=by omega
 obtain⟨V,hV⟩:∃ V,v*2 ^ S=V:=⟨_,rfl⟩
 rw[hV]at H2 hndV htop hVl hVg
 have HVE:=Kh hV
 have HVP:=Kh (show 0<V by rw[← hV];exact Nat.mul_pos (by omega) (Nat.two_pow_pos S))
 obtain⟨M,hM⟩:∃ M,M+nd v=nd u+1:=⟨nd u+1 - nd v,by omega⟩
 have hMi:(nd u:Int)+1 - (nd v:Int)=(M:Nat):=by omega
 have HM:=Kh hM
 have HTOP:=Kh htop
 have HVL:=Kh hVl
 have HVG:=Kh hVg
 have HUN:=Kh hun
 have HND:=Kh hndV
 have HUL:=Kh hul
 have hml:nd v≤35184372088830:=by omega
 have hnl:nd u≤35184372088830:=by omega
 have hMl:M≤35184372088830:=by omega
 have HSS:=Kh hS
 have HV0:=Kh (show 0<v by omega)
 obtain⟨Q,hQ⟩:∃ Q,u / v=Q:=⟨_,rfl⟩
 obtain⟨R,hR⟩:∃ R,u % v=R:=⟨_,rfl⟩
 have HQ:=Kh hQ
 have HR:=Kh hR
 rw[hQ,hR]
 clear hV h1 h2 hu hul hv huv hv0 hvn hs ht hc0 htl hS hSe hndV htop hVl hVg hcell hun hM hQ hR
 generalize nd u=n at *
 generalize nd v=m at *
 go_enter Tryz.func205,Tryz.ntmps205
 go_wp2_with fail
 refine HC.out.mono ?_
 rintro e w1 ⟨rfl,hq⟩
 have B1:=quiet_below hq
 have HB1:=Kh B1
 have c0:=HC0.out _ B1
 clear hq B1 HC HC0
 go_wp2_with fail
 refine(HLZ.out _).mono ?_
 rintro e w2 ⟨rfl,rfl⟩
 clear c0 HLZ
 go_wp2_with fail
 refine(H1.out _ HB1.out).mono ?_
 rintro e w3 ⟨⟨gu,cu,r0,rfl,hcu,hgu,hrow,hval⟩,hb3⟩
 have B3:=HB1.out.trans (hb3.mono HB1.out.size)
 have HB3:=Kh B3
 have HROW:=Kh hrow
 have HVAL:=Kh hval
 have HGU:=Kh (Nat.le_trans HB1.out.size hgu)
 clear H1 HB1 B3 hb3 hrow hval hgu
 go_wp2_with fail
 refine(H2.out _ HB3.out).mono ?_
 rintro e w4 ⟨⟨gv,cv,rv,rfl,hcv,hgv,hrowv,hvalv⟩,hb4⟩
 have B4:=HB3.out.trans (hb4.mono HB3.out.size)
 have HT:=c_trimmed (some ⟨gv,0,none⟩) cv (m+1) rv w4 (hrowv.dg cv hcv) (by have:=HUL.out;have:=HM.out;omega)
 rw[hvalv,HND.out]at HT
 have HT:=Kh HT
 have hne:gv≠gu:=by have:=HROW.out.1.lt;omega
 have HROW4:=Kh (HROW.out.below hb4 HROW.out.1.lt)
 have HB4:=Kh B4
 clear H2 HB3 B4 hb4 hrowv hvalv hgv hcv HROW
 go_wp2_with fail
 refine HT.out.mono ?_
 rintro e w5 ⟨⟨rfl,hmV⟩,rfl⟩
 have hdV:Dg w5 (some ⟨gv,0,none⟩) cv m (dg V):=by
  unfold Nm at hmV
  rw[HND.out]at hmV
  exact hmV
 have hmk:∀ w,(Instr.makeSlice 82 (.int .i64 (M:Int)) (.int .i64 (M:Int))).run Tryz.prog w=.ok (.slice (some ⟨w.heap.size,0,none⟩) M M) (w.alloc (.cells (madeCells #[.int .u32 0] M) 200)):=make32 M (by omega)
 obtain⟨w6,hw6⟩:∃ w6,w5.alloc (.cells (madeCells #[.int .u32 0] M) 200)=w6:=⟨_,rfl⟩
 obtain⟨gq,hgq⟩:∃ gq,w5.heap.size=gq:=⟨_,rfl⟩
 have hb6:Below w5.heap.size w5 w6:=by rw[← hw6];exact(Below.refl _ _).alloc (Nat.le_refl _) _
 have hrq:=Row.made w5 M
 rw[hw6,hgq]at hrq
 have hgvl:gv<w5.heap.size:=by
  obtain⟨g',o',e',hg',_⟩:=hdV.head (by omega)
  injection e' with e';injection e' with e1 e2;omega
 have hne2:gq≠gu:=by have:=HROW4.out.1.lt;omega
 have hne3:gv≠gq:=by omega
 have hgqb:w.heap.size≤gq:=by rw[← hgq];exact HB4.out.size
 have hr0:∀ i,i<n+1→r0 i<4294967296:=HROW4.out.2
 have hst:LongAt w6 gu gq m M M r0 V:=long_start (by rw[HM.out];exact HROW4.out.below hb6 HROW4.out.1.lt) hrq (by rw[← HVE.out];exact long_fits hr0 HVAL.out HUN.out HM.out (by omega) HSS.out (by rw[HVE.out];exact HVG.out))
 have HST:=Kh hst
 have HD6:=Kh (hdV.below hb6 hgvl)
 have HB6:=bt HB4 hb6
 have HR0:=Kh hr0
 clear hst hdV hmV HT hrq hr0 hgvl
 go_wp2
 try rw[hgq,hw6]
 clear hw6 hgq hb6 HROW4 HB4 hmk
 go_loopw [14] (fun v14 wr=>∃ k:Nat,k≤M∧v14=.int .i64 ((k:Int) - 1)∧LongAt wr gu gq m M k r0 V∧Dg wr (some ⟨gv,0,none⟩) cv m (dg V)∧Below w.heap.size w wr) (fun v14 _=>(intOf v14+1).toNat)
 case atStart=>exact⟨M,Nat.le_refl _,by go_num,HST.out,HD6.out,HB6.out⟩
 case round=>
  clear HST HD6 HB6
  obtain⟨k,hk,rfl,hl,hd,hb⟩:=hrel
  have HL:=Kh hl
  have HD:=Kh hd
  have HB:=Kh hb
  clear hl hd hb
  by_cases hk0:k=0
  ·subst hk0
   obtain⟨r,q,hru,hrq,hrv,hqv⟩:=long_end HL.out
   have hU:vf r0 (M+m)=u*2 ^ S:=by rw[HM.out];exact HVAL.out
   rw[hU,← HVE.out,Nat.mul_mod_mul_right]at hrv
   rw[hU,← HVE.out,Nat.mul_div_mul_right _ _ (Nat.two_pow_pos S),HQ.out]at hqv
   rw[HR.out]at hrv
   have HT1:=c_trimmed (some ⟨gq,0,none⟩) M M q wr.drew ((hrq.dg M (Nat.le_refl _)).keep (below_drewN' (Below.refl _ _) 1)) (by omega)
   have HU:=c_unshifted (some ⟨gu,0,none⟩) cu m r S wr.drew (((hru.dg cu (by have:=HM.out;omega)).take (k:=m) (by omega)).keep (below_drewN' (Below.refl _ _) 1)) (by omega) (by omega)
   rw[hqv]at HT1
   rw[hrv,Nat.mul_div_cancel _ (Nat.two_pow_pos S)]at HU
   obtain⟨k1,hk1⟩:∃ k1,nd Q=k1:=⟨_,rfl⟩
   rw[hk1]at HT1
   obtain⟨k2,hk2⟩:∃ k2,nd R=k2:=⟨_,rfl⟩
   replace HT1:=Kh HT1
   replace HU:=Kh HU
   have HK1:=Kh hk1
   have HK2:=Kh hk2
   have hmcu:(m:Int)≤(cu:Int):=by have:=HM.out;omega
   have M1:True:=trivial
   clear hru hrq hrv hqv hU hk1 hk2 HL HD
   go_upto_region 17 with(fail)
   go_region_held3 (fun _=>True) (exact trivial) (first
    |(go_at_call 129;clear M1;refine HT1.out.mono ?_;rintro e w' ⟨⟨rfl,hn1⟩,rfl⟩;replace hn1:=Kh hn1)
    |(go_at_call 218;refine HU.out.mono ?_;rintro e w7 ⟨⟨p2,c2,r2,rfl,hd2,hv2⟩,hb2⟩;have HT2:=c_trimmed p2 c2 m r2 w7 hd2 (by omega);rw[hv2,HK2.out]at HT2;replace HT2:=Kh HT2;replace hb2:=Kh hb2;clear hd2 hv2)
    |(go_at_call 129;refine HT2.out.mono ?_;rintro e w' ⟨⟨rfl,hn2⟩,rfl⟩;replace hn2:=Kh hn2))
   go_wp2
   go_ret2
   exact⟨nn_of HK1.out HK2.out (hn1.out.keep hb2.out) hn2.out,(below_drewN' HB.out 1).trans (hb2.out.mono HB.out.size)⟩
  ·obtain⟨j,rfl⟩:∃ j,k=j+1:=⟨k - 1,by omega⟩
   have e14:(((j+1:Nat):Int) - 1)=(j:Int):=by omega
   rw[e14]
   obtain⟨r,q,hru,hrq,hlow,hval,hqv⟩:=HL.out
   obtain⟨X,hX⟩:∃ X,vf (shf r0 (j+1)) (M+m - (j+1))=X:=⟨_,rfl⟩
   rw[hX]at hval hqv
   obtain⟨hw1,hw2⟩:=long_window hlow hval HVP.out
   have DC:=c_digit gu j (M+m) m (cu - j) gv 0 cv r (dg V) wr hru (by omega) (by omega) HD.out hne HTOP.out (by rw[vf_dg HVL.out];exact hw2 (HR0.out j (by have:=HM.out;omega))) (by omega)
   obtain⟨Qd,hQd⟩:∃ Qd,(r0 j+4294967296*(X % V)) / V=Qd:=⟨_,rfl⟩
   have hQl:Qd<4294967296:=by
    rw[← hQd,← hw1,Nat.div_lt_iff_lt_mul HVP.out,Nat.mul_comm]
    exact hw2 (HR0.out j (by have:=HM.out;omega))
   rw[vf_dg HVL.out,hw1,hQd]at DC
   have hst:∀ w',Only gu wr w'→DigitAt w' gu (M+m) j m r ((r0 j+4294967296*(X % V)) % V)→(∃ y,w'.cell? ⟨gq,j,none⟩=some y)∧w'.frozen? ⟨gq,j,none⟩=false∧LongAt (w'.setCell ⟨gq,j,none⟩ (.int .u32 Qd)) gu gq m M j r0 V∧Dg (w'.setCell ⟨gq,j,none⟩ (.int .u32 Qd)) (some ⟨gv,0,none⟩) cv m (dg V)∧Below w.heap.size w (w'.setCell ⟨gq,j,none⟩ (.int .u32 Qd)):=by
    intro w' hO ⟨r',hru',hkeep',hrem'⟩
    have hrq':=hO.row hrq hne2
    refine⟨⟨_,hrq'.1.cell (by omega)⟩,hrq'.1.frozen _,?_,?_,?_⟩
    ·exact long_step (by omega) hX hlow hru' hkeep' hrem' hrq' hqv HVP.out (Nat.le_of_lt HVL.out) hQd hQl hne2
    ·exact((Only.refl gq w').set j _).dg (hO.dg HD.out hne) hne3
    ·exact(HB.out.trans (hO.below HGU.out HB.out.size)).setCell hgqb _
   have HN:=Kh hst
   replace DC:=Kh DC
   have hj0:decide ((0:Int)≤(j:Int))=true:=decide_eq_true (by omega)
   have hjl:(j:Int)+m+1≤cu:=by have:=HM.out;omega
   have ej:j+m+1 - j=m+1:=by omega
   have hQi:(Qd:Int)<4294967296:=by omega
   have HQI:=Kh hQi
   clear e14 hk0 hru hrq hlow hval hqv hX hw1 hw2 hQd hQl hst HL HD hQi
   go_wp2_with fail
   rw[ej]
   refine DC.out.mono ?_
   rintro e w' ⟨rfl,hO,hDa⟩
   obtain⟨⟨y,hy⟩,hfz,hL,hD2,hB2⟩:=HN.out w' hO hDa
   have HL2:=Kh hL
   have HD2:=Kh hD2
   have HB2:=Kh hB2
   clear hO hDa hL hD2 hB2 DC HN ej
   go_wp2
   go_roundw
   case rel=>exact⟨j,by omega,by go_num,HL2.out,HD2.out,HB2.out⟩
   case measure=>simp[intOf]
theorem c_divide (p:Option Addr) (c u:Nat) (q:Option Addr) (d v:Nat) (w:World) (h1:Nm w p c u) (h2:Nm w q d v) (hu:nd u≤35184372088830) (hv:nd v≤35184372088830) (hv0:v≠0):
  Calls Tryz.prog 205 #[.slice p (nd u) c,.slice q (nd v) d] w fun e w'=>RetNN w' e (u / v) (u % v)∧Below w.heap.size w w':=by
 rcases Nat.lt_or_ge u v with h|h
 ·exact c_div_small p c u q d v w h1 h2 hu hv h
 ·rcases Nat.lt_or_ge 2 (nd u)with h3|h3
  ·have h4:=nd_pos.2 hv0
   rcases Nat.lt_or_ge 1 (nd v)with h5|h5
   ·exact c_div_long p c u q d v w h1 h2 h3 hu h5 h
   ·exact c_div_short p c u q d v w h1 h2 h3 hu (by omega) h
  ·exact c_div_word p c u q d v w h1 h2 h3 (by omega) h
theorem Dg.trim {w:World} {p:Option Addr} {c n:Nat} {a:Nat→Nat} (h:Dg w p c n a):Nm w p c (vf a n):=by
 have hle:nd (vf a n)≤n:=nd_le.2 (vf_lt h.lt)
 exact(h.take hle).congr fun j hj=>dg_vf h.lt j (by omega)
theorem c_signed (neg:Bool) (p:Option Addr) (c n:Nat) (a:Nat→Nat) (w:World) (h:Dg w p c n a) (hn:n≤70368744177664):
  Calls Tryz.prog 131 #[.bool neg,.slice p n c] w fun e w'=>RetZ w' e (sg neg (vf a n))∧Below w.heap.size w w':=by
 have hb:∀ o,Below w.heap.size w (w.alloc o):=fun o=>(Below.refl _ _).alloc (Nat.le_refl _) o
 have HT:=Kh (fun w1 (hb:Below w.heap.size w w1)=>c_trimmed p c n a w1 (h.keep hb) hn)
 have HN:=Kh h.trim
 obtain⟨k,hk⟩:∃ k,nd (vf a n)=k:=⟨_,rfl⟩
 rw[hk]at HT
 have HK:=Kh hk
 have HB:=Kh hb
 clear h hk hb
 go_enter Tryz.func131,Tryz.ntmps131
 go_wp2_with fail
 refine(HT.out _ (HB.out _)).mono ?_
 rintro e w1 ⟨⟨rfl,hm⟩,rfl⟩
 clear HT hm
 cases neg with
 | false=>
  go_wp2
  go_returns
  exact⟨⟨_,p,k,c,rfl,zs_of (HN.out.keep (HB.out _)) HK.out (by simp)⟩,HB.out _⟩
 | true=>
  go_wp2
  go_returns
  exact⟨⟨_,p,k,c,rfl,zs_of (HN.out.keep (HB.out _)) HK.out (by simp)⟩,HB.out _⟩
theorem clone_nm (p:Option Addr) (c u:Nat) (w:World) (h:Nm w p c u) (hn:nd u≤35184372088830):
  Calls Tryz.prog 147 #[.slice p (nd u) c] w fun e w'=>RetN w' e u∧Below w.heap.size w w':=by
 refine(c_Clone p c (nd u) (dg u) w h hn).mono ?_
 rintro e w' ⟨⟨p1,c1,r1,rfl,hd,hv⟩,hb⟩
 exact⟨⟨p1,c1,rfl,hd.nm (by rw[hv,vf_nd]) rfl⟩,hb⟩
theorem c_common (p:Option Addr) (c u:Nat) (q:Option Addr) (d v:Nat) (w:World) (h1:Nm w p c u) (h2:Nm w q d v) (hu:nd u≤35184372088830) (hv:nd v≤35184372088830):
  Calls Tryz.prog 169 #[.slice p (nd u) c,.slice q (nd v) d] w fun e w'=>RetN w' e (Nat.gcd u v)∧Below w.heap.size w w':=by
 obtain⟨G,hG⟩:∃ G,Nat.gcd u v=G:=⟨_,rfl⟩
 obtain⟨n,hn⟩:∃ n,nd u=n:=⟨_,rfl⟩
 obtain⟨m,hm⟩:∃ m,nd v=m:=⟨_,rfl⟩
 have HG:=Kh hG
 have H1:=Kh h1
 have H2:=Kh h2
 have HN:=Kh hn
 have HM:=Kh hm
 rw[hn]at hu
 rw[hm]at hv
 rw[hG,hn,hm]
 clear h1 h2 hn hm hG
 go_enter Tryz.func169,Tryz.ntmps169
 go_wp2
 go_loopg [0,1] v (fun b v0 v1 wr=>∃ (a n m:Nat) (p q:Option Addr) (c d:Nat),v0=.slice p n c∧v1=.slice q m d∧nd a=n∧nd b=m∧n≤35184372088830∧m≤35184372088830∧Nm wr p c a∧Nm wr q d b∧Nat.gcd a b=G∧Below w.heap.size w wr)
 case atStart=>exact⟨u,n,m,p,q,c,d,rfl,rfl,HN.out,HM.out,hu,hv,H1.out,H2.out,HG.out,Below.refl _ _⟩
 case round=>
  clear H1 H2 HG HN HM hu hv n m c d p q u
  obtain⟨a,n,m,p,q,c,d,rfl,rfl,hn,hm,hnl,hml,h1,h2,hG,hb⟩:=hrel
  have HB:=Kh hb
  have HG:=Kh hG
  by_cases hm0:m=0
  ·subst hm0
   obtain rfl:gk=0:=by
    have:=nd_pos (v:=gk);omega
   have hC:=clone_nm p c a wr h1 (by omega)
   rw[hn]at hC
   rw[Nat.gcd_zero_right]at hG
   subst hG
   replace hC:=Kh hC
   clear h1 h2 hb HG hn hm
   go_wp2_with fail
   refine hC.out.mono ?_
   rintro e w1 ⟨hr,hb1⟩
   obtain⟨p1,c1,rfl,hm1⟩:=hr
   obtain⟨k,hk⟩:∃ k,nd a=k:=⟨_,rfl⟩
   rw[hk]
   have HK:=Kh hk
   have HM1:=Kh hm1
   have HB1:=bt HB hb1
   clear hm1 hb1 hk hC
   go_wp2
   go_ret
   exact⟨⟨p1,c1,by rw[HK.out];rfl,HM1.out⟩,HB1.out⟩
  ·have hmd:0<m:=by omega
   by_cases hsm:n≤2∧m≤2
   ·have hx:=nd_le_two (u:=a) (by omega)
    have hy:=nd_le_two (u:=gk) (by omega)
    have hC1:=c_wordN p c a wr h1 (by omega)
    have hC2:=fun w1 (hb1:Below wr.heap.size wr w1)=>c_wordN q d gk w1 (h2.keep hb1) (by omega)
    rw[hn]at hC1
    rw[hm]at hC2
    have hnd:n≤2:=hsm.1
    have hmd2:m≤2:=hsm.2
    have HX:=Kh hx
    have HY:=Kh hy
    replace hC1:=Kh hC1
    replace hC2:=Kh hC2
    clear h1 h2 hb hG hn hm hx hy hsm hnl hml hm0
    go_wp2_with fail
    refine hC1.out.mono ?_
    rintro e w1 ⟨rfl,hq⟩
    have hb1:=quiet_below hq
    have HB1:=Kh hb1
    clear hq hb1 hC1
    go_wp2_with fail
    refine(hC2.out _ HB1.out).mono ?_
    rintro e w2 ⟨rfl,hq⟩
    have HB2:=Kh ((HB.out.trans (HB1.out.mono HB.out.size)).trans ((quiet_below hq).mono (Nat.le_trans HB.out.size HB1.out.size)))
    clear hq hC2 HB1 HB
    go_wp2
    go_loopw [5,6] (fun v5 v6 wi=>∃ x y:Nat,v5=.int .u64 x∧v6=.int .u64 y∧Nat.gcd x y=G∧RowKit.Hid (x<18446744073709551616∧y<18446744073709551616)∧Below w.heap.size w wi) (fun _ v6 _=>(intOf v6).toNat)
    case atStart=>exact⟨a,gk,rfl,rfl,HG.out,Kh ⟨HX.out,HY.out⟩,HB2.out⟩
    case round=>
     clear HG HX HY HB2 hmd hnd hmd2
     obtain⟨x,y,rfl,rfl,hg,HXY,hb⟩:=hrel
     have HB:=Kh hb
     by_cases hy0:y=0
     ·subst hy0
      rw[Nat.gcd_zero_right]at hg
      subst hg
      have HW:=Kh (fun w=>(c_wide x w HXY.out.1).mono (fun _ _ h=>And.imp_left RetN.op h))
      clear hb
      go_wp2_with fail
      refine(HW.out _).mono ?_
      rintro e w4 ⟨⟨p4,n4,c4,rfl,hn4,hm4⟩,hb4⟩
      have HN4:=Kh hn4
      have HM4:=Kh hm4
      have HB4:=bt HB hb4
      clear hn4 hm4 hb4 HW
      go_wp2
      go_ret
      exact⟨⟨p4,c4,by rw[HN4.out];rfl,HM4.out⟩,HB4.out⟩
     ·obtain⟨R,hR⟩:∃ R,x % y=R:=⟨_,rfl⟩
      have hRl:R<y:=by rw[← hR];exact Nat.mod_lt _ (by omega)
      have hrt:Int.tmod (x:Int) (y:Int)=(R:Nat):=by rw[Int.tmod_eq_emod_of_nonneg (by omega),← hR];exact(Int.natCast_emod _ _).symm
      have hrt2:(x:Int) % (y:Int)=(R:Nat):=by rw[← hR];exact(Int.natCast_emod _ _).symm
      have hnew:Nat.gcd y R=G:=by rw[← hg,← hR,Nat.gcd_comm x y,Nat.gcd_rec y x,Nat.gcd_comm]
      have HN:=Kh hnew
      have hyb:((y:Int) != 0)=true:=by rw[bne_iff_ne];omega
      have hy1:(y:Int)≠0:=by omega
      have HRL:=Kh hRl
      clear hb hnew hR hg hRl
      go_wp2
      go_quiet (fail)
      go_wp2
      go_roundw
      case rel=>exact⟨y,R,rfl,rfl,HN.out,Kh ⟨HXY.out.2,by have:=HXY.out.2;have:=HRL.out;omega⟩,below_drewN' HB.out _⟩
      case measure=>simp[intOf];exact HRL.out
   ·have hb0:gk≠0:=nd_pos.1 (by omega)
    have hC:=c_divide p c a q d gk wr h1 h2 (by omega) (by omega) hb0
    rw[hn,hm]at hC
    obtain⟨R,hR⟩:∃ R,a % gk=R:=⟨_,rfl⟩
    have hRl:R<gk:=by rw[← hR];exact Nat.mod_lt _ (by omega)
    have hnew:Nat.gcd gk R=G:=by rw[← hG,← hR,Nat.gcd_comm a gk,Nat.gcd_rec gk a,Nat.gcd_comm]
    rw[hR]at hC
    have HN:=Kh hnew
    have HC:=Kh hC
    have HRL:=Kh hRl
    have H2:=Kh h2
    have HM:=Kh hm
    clear h1 h2 hb hG hn hm hnew hC hRl hm0 hR hb0
    have htail:∀ (w1:World) (p2:Option Addr) (c2:Nat),Below wr.heap.size wr w1→Nm w1 p2 c2 R→∃ k,nd R=k∧RowKit.Hid (nd R=k∧k≤35184372088830∧Nm w1 q d gk∧Nm w1 p2 c2 R∧Below w.heap.size w w1):=by
     intro w1 p2 c2 hb1 hr
     have h1:nd R≤m:=by rw[← HM.out];exact nd_mono (Nat.le_of_lt HRL.out)
     exact⟨_,rfl,rfl,by omega,H2.out.keep hb1,hr,HB.out.trans (hb1.mono HB.out.size)⟩
    have HT:=Kh htail
    clear htail
    by_cases hn2:n≤2
    ·have hmd2:¬ m≤2:=by omega
     clear hsm
     go_wp2_with fail
     refine HC.out.mono ?_
     rintro e w1 ⟨⟨p1,c1,p2,c2,rfl,hq,hr⟩,hb1⟩
     obtain⟨k,hk,HF⟩:=HT.out w1 p2 c2 hb1 hr
     rw[hk]
     obtain⟨k1,hk1⟩:∃ k1,nd (a / gk)=k1:=⟨_,rfl⟩
     rw[hk1]
     clear hk hk1 hq hr hb1 HT HC
     go_wp2
     go_roundg R
     case measure=>exact HRL.out
     case rel=>exact⟨gk,m,k,q,p2,d,c2,rfl,rfl,HM.out,HF.out.1,by omega,HF.out.2.1,HF.out.2.2.1,HF.out.2.2.2.1,HN.out,HF.out.2.2.2.2⟩
    ·clear hsm
     go_wp2_with fail
     refine HC.out.mono ?_
     rintro e w1 ⟨⟨p1,c1,p2,c2,rfl,hq,hr⟩,hb1⟩
     obtain⟨k,hk,HF⟩:=HT.out w1 p2 c2 hb1 hr
     rw[hk]
     obtain⟨k1,hk1⟩:∃ k1,nd (a / gk)=k1:=⟨_,rfl⟩
     rw[hk1]
     clear hk hk1 hq hr hb1 HT HC
     go_wp2
     go_roundg R
     case measure=>exact HRL.out
     case rel=>exact⟨gk,m,k,q,p2,d,c2,rfl,rfl,HM.out,HF.out.1,by omega,HF.out.2.1,HF.out.2.2.1,HF.out.2.2.2.1,HN.out,HF.out.2.2.2.2⟩
end Go.Proofs.YtenlbhlllgppmaaGreatDoor
