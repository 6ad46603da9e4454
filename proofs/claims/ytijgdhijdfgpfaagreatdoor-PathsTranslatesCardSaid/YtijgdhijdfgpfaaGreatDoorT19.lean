/- Contract of halfplaneref01.divided: the long way, and both. -/
import Derived.Test.YtijgdhijdfgpfaaGreatDoorT18
set_option maxRecDepth 100000
set_option maxHeartbeats 8000000
namespace Go.Proofs.YtijgdhijdfgpfaaGreatDoor
open Go.RowKit
def Off (G:Nat) (p:Option Addr) (n:Nat):Prop:=n=0∨∃ g o,p=some ⟨g,o,none⟩∧g≠G
theorem Dg.off {w:World} {G:Nat} {p:Option Addr} {c n:Nat} {a:Nat→Nat} (h:Dg w p c n a) (ho:Off G p n) (i:Nat) (v:Value):Dg (w.setCell ⟨G,i,none⟩ v) p c n a:=
 ⟨h.cap,h.lt,by
  rcases h.at' with h1 |⟨g,o,e,hg,hc⟩
  ·exact .inl h1
  ·rcases ho with h0 |⟨g',o',e',hne⟩
   ·exact .inl h0
   ·rw[e]at e'
    injection e' with e';injection e' with e1 e2
    exact .inr ⟨g,o,e,by simpa using hg,fun j hj=>by
     rw[World.cell?_setCell_far w ⟨G,i,none⟩ ⟨g,o+j,none⟩ v (by show G≠g;rw[e1];exact Ne.symm hne)]
     exact hc j hj⟩⟩
theorem c_rdiv_long (p:Option Addr) (c u:Nat) (q:Option Addr) (d v:Nat) (w:World) (h1:Nm w p c u) (h2:Nm w q d v) (hu:nd u≤4398046511100) (hv:nd v≤4398046511100) (hv0:0<v) (hbig:2<nd u∨2<nd v):
  Calls Tryz.prog 174 #[.slice p (nd u) c,.slice q (nd v) d] w fun e w'=>RetDN w' e (nd u+1) (u / v) (u % v)∧Below w.heap.size w w':=by
 have hB1:=fun w1 (hb:Below w.heap.size w w1)=>c_rBits false p (nd u) c u w1 ⟨dg u,Dg.keep h1 hb,by rw[sg_false,vf_nd]⟩ (by omega)
 have hB2:=fun w1 (hb:Below w.heap.size w w1)=>c_rBits false q (nd v) d v w1 ⟨dg v,Dg.keep h2 hb,by rw[sg_false,vf_nd]⟩ (by omega)
 simp only[Int.natAbs_natCast]at hB1 hB2
 have hsu:=bl_size u
 have hsv:=bl_size v
 obtain⟨n,hn⟩:∃ n,nd u=n:=⟨_,rfl⟩
 obtain⟨m,hm⟩:∃ m,nd v=m:=⟨_,rfl⟩
 obtain⟨bu,hbu⟩:∃ b,bl u=b:=⟨_,rfl⟩
 obtain⟨bv,hbv⟩:∃ b,bl v=b:=⟨_,rfl⟩
 rw[hn,hbu]at hB1 hsu
 rw[hm,hbv]at hB2 hsv
 rw[hn]at hbig hu ⊢
 rw[hm]at hbig hv ⊢
 have HB1:=Kh hB1
 have HB2:=Kh hB2
 have H1:=Kh h1
 have H2:=Kh h2
 have HN:=Kh hn
 have HM:=Kh hm
 have HBU:=Kh hbu
 have HBV:=Kh hbv
 have HV0:=Kh hv0
 clear hB1 hB2 h1 h2 hn hm hbu hbv hv0
 have hcond:((n:Int)≤2→(2:Int)<(m:Int)):=fun h=>by omega
 go_enter Tryz.func174,Tryz.ntmps174
 go_upto_region 1 with(fail)
 go_cut [18]from 11 to 18 (fun v18 wc=>v18=.bool false∧w=wc)
 case first=>
  by_cases hn2:(n:Int)≤2
  ·have hm2:=hcond hn2
   clear hcond hbig
   go_wp2
   go_meet
   case rel=>exact⟨by first|rfl |(congr 1;exact decide_eq_false (by omega)),rfl⟩
  ·have hn3:(2:Int)<(n:Int):=by omega
   clear hcond hbig hn2
   go_wp2
   go_meet
   case rel=>exact⟨by first|rfl |(congr 1;exact decide_eq_false (by omega)),rfl⟩
 case rest=>
  obtain⟨rfl,rfl⟩:=hcut
  clear hcond hbig
  go_wp2_with fail
  refine(HB1.out _ (Below.refl _ _)).mono ?_
  rintro e w1 ⟨rfl,hb1⟩
  have HW1:=Kh hb1
  clear hb1
  go_wp2_with fail
  refine(HB2.out _ HW1.out).mono ?_
  rintro e w2 ⟨rfl,hb2⟩
  have HW2:=bt HW1 hb2
  clear hb2 HW1 HB1 HB2
  by_cases hlt:bu<bv
  ·have hneg:(bu:Int) - (bv:Int)<0:=by omega
   have huv:u<v:=bl_lt (by rw[HBU.out,HBV.out];exact hlt)
   have HF:=Kh (show RetDN w2 (.returned (.tuple #[.slice none 0 0,.slice p n c])) (n+1) (u / v) (u % v)from by
    rw[Nat.div_eq_of_lt huv,Nat.mod_eq_of_lt huv,← HN.out]
    exact⟨none,0,0,fun _=>0,p,c,rfl,⟨Nat.le_refl _,fun j hj=>absurd hj (Nat.not_lt_zero _),.inl rfl⟩,rfl,Nat.zero_le _,H1.out.keep HW2.out⟩)
   clear huv hlt
   go_wp2
   go_ret2
   exact⟨HF.out,HW2.out⟩
  ·obtain⟨s,hs⟩:∃ s,bu - bv=s:=⟨_,rfl⟩
   have hsi:(bu:Int) - (bv:Int)=(s:Nat):=by omega
   have hfit:u<v*2 ^ (s+1):=by
    have:=bl_mono_lt (u:=u) (v:=v) (by have:=HV0.out;omega) (by rw[HBU.out,HBV.out];omega)
    rw[HBU.out,HBV.out,hs]at this
    exact this
   have hsl:s≤32*n:=by omega
   obtain⟨M0,hM0⟩:∃ M,s / 32=M:=⟨_,rfl⟩
   have hq1:Int.tdiv (s:Int) 32=(M0:Nat):=by rw[Int.tdiv_eq_ediv_of_nonneg (by omega)];omega
   have hq2:(s:Int) / 32=(M0:Nat):=by omega
   have hsd:decide ((s:Int)<0)=false:=decide_eq_false (by omega)
   have hmk:∀ w,(Instr.makeSlice 63 (.int .i64 ((M0:Int)+1)) (.int .i64 ((M0:Int)+1))).run Tryz.prog w=.ok (.slice (some ⟨w.heap.size,0,none⟩) (M0+1) (M0+1)) (w.alloc (.cells (madeCells #[.int .u32 0] (M0+1)) 149)):=make32 (M0+1) (by omega)
   have hM0l:M0≤4398046511100:=by omega
   have hM0n:M0≤n:=by omega
   have HS:=Kh (show s / 32=M0 from hM0)
   obtain⟨wb,hwb⟩:∃ wb,w2.alloc (.cells (madeCells #[.int .u32 0] (M0+1)) 149)=wb:=⟨_,rfl⟩
   obtain⟨gq,hgq⟩:∃ g,w2.heap.size=g:=⟨_,rfl⟩
   have hrow:=Row.made w2 (M0+1)
   have hbb:Below w2.heap.size w2 wb:=by rw[← hwb];exact(Below.refl _ _).alloc (Nat.le_refl _) _
   rw[hwb,hgq]at hrow
   have hgqw:w.heap.size≤gq:=by rw[← hgq];exact HW2.out.size
   have HOF:=Kh (show Off gq p n by
    rcases Nat.eq_zero_or_pos n with h0|h0
    ·exact .inl h0
    ·obtain⟨g,o,e,hg,_⟩:=H1.out.head (by rw[HN.out];exact h0)
     exact .inr ⟨g,o,e,by omega⟩)
   have HBIT:=Kh (bit_start (u:=u) (v:=v) hrow hfit)
   have HWB:=bt HW2 hbb
   have HR0:=Kh ((H1.out.keep HW2.out).keep hbb)
   clear hfit hs hM0 hrow hbb hlt HW2 HBU HBV hsu hsv
   go_wp2
   try rw[hwb,hgq]
   clear hmk hwb hgq
   go_loopw [6,9] (fun v6 v9 wr=>∃ (k n6 c6 R:Nat) (p6:Option Addr),k≤s+1∧v6=.slice p6 n6 c6∧v9=.int .i64 ((k:Int) - 1)∧Off gq p6 n6∧nd R=n6∧R≤u∧Nm wr p6 c6 R∧BitAt wr gq (M0+1) k u v R∧Below w.heap.size w wr) (fun _ v9 _=>(intOf v9+1).toNat)
   case atStart=>exact⟨s+1,n,c,u,p,Nat.le_refl _,rfl,by first|rfl|go_num |(congr 1;omega),HOF.out,HN.out,Nat.le_refl _,HR0.out,HBIT.out,HWB.out⟩
   case round=>
    clear HBIT HWB HR0
    obtain⟨k,n6,c6,R,p6,hk,rfl,rfl,hoff,hn6,hRu,hR,hbit,hb⟩:=hrel
    have HO6:=Kh hoff
    clear hoff
    have HN6:=Kh hn6
    have HRU:=Kh hRu
    have HR:=Kh hR
    have HBI:=Kh hbit
    have HB:=Kh hb
    have hn6l:n6≤n:=by rw[← hn6,← HN.out];exact nd_mono hRu
    clear hn6 hRu hR hbit hb
    by_cases hk0:k=0
    ·subst hk0
     obtain⟨rq,hrow,hqv,hrv⟩:=bit_end HBI.out
     have HF:=Kh (show RetDN wr (.returned (.tuple #[.slice (some ⟨gq,0,none⟩) (M0+1) (M0+1),.slice p6 n6 c6])) (n+1) (u / v) (u % v)from by
      rw[← hrv,← HN6.out]
      exact⟨_,_,_,rq,p6,c6,rfl,hrow.dg _ (Nat.le_refl _),hqv,by omega,HR.out⟩)
     clear hrow hqv hrv
     go_wp2
     go_ret2
     exact⟨HF.out,HB.out⟩
    ·obtain⟨j,rfl⟩:∃ j,k=j+1:=⟨k - 1,by omega⟩
     have e14:(((j+1:Nat):Int) - 1)=(j:Int):=by omega
     rw[e14]
     have hj0:decide ((0:Int)≤(j:Int))=true:=decide_eq_true (by omega)
     have hjs:j≤140737488355200:=by omega
     have hS:=c_rshifted q d (nd v) (dg v) j wr (Dg.keep H2.out HB.out) (by have:=HM.out;omega) (by omega)
     rw[vf_nd,HM.out]at hS
     obtain⟨T,hT⟩:∃ T,v*2 ^ j=T:=⟨_,rfl⟩
     rw[hT]at hS
     have HSH:=Kh hS
     have HT:=Kh hT
     obtain⟨l,hl⟩:∃ l,j / 32=l:=⟨_,rfl⟩
     obtain⟨sh,hsh⟩:∃ sh,j % 32=sh:=⟨_,rfl⟩
     have hl1:Int.tdiv (j:Int) 32=(l:Nat):=by rw[Int.tdiv_eq_ediv_of_nonneg (by omega)];omega
     have hl2:(j:Int) / 32=(l:Nat):=by omega
     have hs1:Int.tmod (j:Int) 32=(sh:Nat):=by rw[Int.tmod_eq_emod_of_nonneg (by omega)];omega
     have hs2:(j:Int) % 32=(sh:Nat):=by omega
     have hsh32:sh<32:=by omega
     have hlM:l<M0+1:=by have:=HS.out;omega
     have HLJ:=Kh (And.intro hl hsh)
     clear hS hT e14 hk0 hl hsh
     go_wp2_with fail
     refine HSH.out.mono ?_
     rintro e w3 ⟨⟨pt,ct,rfl,hmT⟩,hb3⟩
     obtain⟨nt,hnt⟩:∃ nt,nd T=nt:=⟨_,rfl⟩
     rw[hnt]
     have hC:=c_below p6 c6 R pt ct T w3 (HR.out.keep hb3) hmT (by rw[HN6.out];omega)
     rw[HN6.out,hnt]at hC
     have HC:=Kh hC
     have HNT:=Kh hnt
     have HMT:=Kh hmT
     have HB3:=Kh hb3
     clear hC hnt hmT hb3 HSH
     go_wp2_with fail
     refine HC.out.mono ?_
     rintro e w4 ⟨rfl,hq⟩
     have hb34:=quiet_below hq
     have HMT4:=Kh (HMT.out.keep hb34)
     have HB4:=bt HB3 hb34
     clear hq hb34 HC HMT HB3
     by_cases hlt:R<T
     ·have hld:decide (R<T)=true:=decide_eq_true hlt
      obtain⟨x,_,_,_,_,hcase⟩:=bit_at (HBI.out.far HB4.out) (by have:=HLJ.out.1;omega)
      have HNX:=Kh (hcase (by rw[HT.out];exact hlt))
      clear hcase hlt
      go_wp2
      go_roundw
      case rel=>exact⟨j,n6,c6,R,p6,by omega,rfl,by first|rfl|go_num,HO6.out,HN6.out,HRU.out,HR.out.keep HB4.out,HNX.out,HB.out.trans (HB4.out.mono HB.out.size)⟩
      case measure=>simp[intOf]
     ·have hld:decide (R<T)=false:=decide_eq_false hlt
      have hTR:T≤R:=by omega
      have hMI:=c_rminus p6 c6 (nd R) (dg R) pt ct (nd T) (dg T) w4 (HR.out.keep HB4.out) HMT4.out (by rw[HN6.out];omega) (nd_mono hTR) (by rw[vf_nd,vf_nd];exact hTR)
      rw[vf_nd,vf_nd,HN6.out,HNT.out]at hMI
      have HMI:=Kh hMI
      have HTR:=Kh hTR
      clear hMI hlt hTR
      go_wp2_with fail
      refine HMI.out.mono ?_
      rintro e w5 ⟨⟨p5,c5,r5,rfl,hd5,hv5⟩,hb5⟩
      have hTT:=c_rtrimF p5 c5 n6 r5 w5 hd5 (by omega)
      rw[hv5]at hTT
      have HTT:=Kh hTT
      have HB5:=bt HB4 hb5
      have HGQ5:=Kh (show gq<w5.heap.size by
       obtain⟨rq,hrow,_⟩:=HBI.out
       exact Nat.lt_of_lt_of_le hrow.1.lt HB5.out.size)
      clear hTT hd5 hv5 hb5 HMI HMT4
      go_wp2_with fail
      refine HTT.out.mono ?_
      rintro e w6 ⟨⟨p6',c6',rfl,hm6,hfr⟩,hb6⟩
      obtain⟨n7,hn7⟩:∃ n7,nd (R - T)=n7:=⟨_,rfl⟩
      rw[hn7]
      rw[hn7]at hfr
      have HO7:=Kh (show Off gq p6' n7 by
       rcases hfr with h0 |⟨g,e,hg⟩
       ·exact .inl h0
       ·have h1:=HGQ5.out
        exact .inr ⟨g,0,e,by omega⟩)
      clear hfr
      have HB6:=bt HB5 hb6
      obtain⟨x,cx,fx,hxs,hcase,_⟩:=bit_at (HBI.out.far HB6.out) (by have:=HLJ.out.1;omega)
      rw[HLJ.out.1]at cx fx hcase
      rw[HLJ.out.2]at hxs hcase
      have EX:=Kh (show((x:Int)+2 ^ sh) % 4294967296=((x+2 ^ sh:Nat):Int)by
       have e1:(x:Int)+2 ^ sh=((x+2 ^ sh:Nat):Int):=by rw[Int.natCast_add,Int.natCast_pow];rfl
       rw[e1]
       have h3:=hxs
       clear e1
       generalize x+2 ^ sh=z at h3 ⊢
       omega)
      have hm7:Dg w6 p6' c6' n7 (dg (R - T)):=by
       unfold Nm at hm6
       rw[hn7]at hm6
       exact hm6
      have HM7:=Kh (show Nm (w6.setCell ⟨gq,l,none⟩ (.int .u32 ((x+2 ^ sh:Nat):Int))) p6' c6' (R - T)by
       have:=hm7.off HO7.out l (.int .u32 ((x+2 ^ sh:Nat):Int))
       unfold Nm
       rw[hn7];exact this)
      have HB7:=Kh ((HB.out.trans (HB6.out.mono HB.out.size)).setCell (show w.heap.size≤(⟨gq,l,none⟩:Addr).block from hgqw) (.int .u32 ((x+2 ^ sh:Nat):Int)))
      have HM6:=Kh hm6
      have HN7:=Kh hn7
      have HCA:=Kh (hcase (by rw[HT.out];exact HTR.out))
      have HXS:=Kh hxs
      clear hm6 hb6 hm7 hn7 hcase hxs HTT HB4 HB5
      go_wp2
      rw[EX.out]
      go_roundw
      case rel=>exact⟨j,n7,c6',R - T,p6',by omega,rfl,by first|rfl|go_num,HO7.out,HN7.out,by have:=HRU.out;omega,HM7.out,by have:=HCA.out;rw[HT.out]at this;exact this,HB7.out⟩
      case measure=>simp[intOf]
theorem c_divided (p:Option Addr) (c u:Nat) (q:Option Addr) (d v:Nat) (w:World) (h1:Nm w p c u) (h2:Nm w q d v) (hu:nd u≤4398046511100) (hv:nd v≤4398046511100) (hv0:0<v):
  Calls Tryz.prog 174 #[.slice p (nd u) c,.slice q (nd v) d] w fun e w'=>RetDN w' e (nd u+1) (u / v) (u % v)∧Below w.heap.size w w':=by
 by_cases h:nd u≤2∧nd v≤2
 ·exact c_rdiv_word p c u q d v w h1 h2 h.1 h.2 hv0
 ·exact c_rdiv_long p c u q d v w h1 h2 hu hv hv0 (by omega)
abbrev ZB (B:Nat) (w:World) (g:Nat):Prop:=B≤g∧w.cell? ⟨g,0,none⟩=some (.bool false)∧w.cell? ⟨g,1,none⟩=some (.slice none 0 0)∧w.frozen? ⟨g,0,none⟩=false∧w.frozen? ⟨g,1,none⟩=false∧Blk w g 65 #[.bool false,.slice none 0 0]
theorem fr_of {w:World} {B g:Nat} (hB:B≤g) (h:Blk w g 65 #[.bool false,.slice none 0 0]):ZB B w g:=⟨hB,h.at_ 0 rfl,h.at_ 1 rfl,h.free_ 0,h.free_ 1,h⟩
theorem fr1 {W w':World} {B g:Nat} (hg:W.heap.size=g) (hB:B≤g) (hb:Below (W.alloc (.cells #[.bool false,.slice none 0 0] 65)).heap.size (W.alloc (.cells #[.bool false,.slice none 0 0] 65)) w'):ZB B w' g:=by
 subst hg
 exact fr_of hB ((Blk.new W 65 #[.bool false,.slice none 0 0]).below_ hb (by simp))
theorem fr2 {W w':World} {B g:Nat} (hg:W.heap.size=g) (hB:B≤g) (hb:Below ((W.alloc (.cells #[.bool false,.slice none 0 0] 65)).alloc (.cells #[.bool false,.slice none 0 0] 65)).heap.size ((W.alloc (.cells #[.bool false,.slice none 0 0] 65)).alloc (.cells #[.bool false,.slice none 0 0] 65)) w'):ZB B w' g:=by
 subst hg
 exact fr_of hB (((Blk.new W 65 #[.bool false,.slice none 0 0]).alloc_ _).below_ hb (by simp;omega))
theorem frn0 {w w':World} {B g:Nat} (h:ZB B w g) (hb:Below w.heap.size w w'):ZB B w' g:=fr_of h.1 (h.2.2.2.2.2.below_ hb h.2.2.2.2.2.lt)
theorem frn1 {w w':World} {o:Obj} {B g:Nat} (h:ZB B w g) (hb:Below (w.alloc o).heap.size (w.alloc o) w'):ZB B w' g:=fr_of h.1 ((h.2.2.2.2.2.alloc_ o).below_ hb (h.2.2.2.2.2.alloc_ o).lt)
theorem fr_al {w:World} {B g:Nat} (h:ZB B w g) (o:Obj):ZB B (w.alloc o) g:=fr_of h.1 (h.2.2.2.2.2.alloc_ _)
theorem fr_new {w:World} {B:Nat} (hB:B≤w.heap.size):(ZB B ((w.alloc (.cells #[.bool false,.slice none 0 0] 65)).alloc (.cells #[.bool false,.slice none 0 0] 65)) w.heap.size)∧(B≤(w.heap.size+1)∧((w.alloc (.cells #[.bool false,.slice none 0 0] 65)).alloc (.cells #[.bool false,.slice none 0 0] 65)).cell? ⟨(w.heap.size+1),0,none⟩=some (.bool false)∧((w.alloc (.cells #[.bool false,.slice none 0 0] 65)).alloc (.cells #[.bool false,.slice none 0 0] 65)).cell? ⟨(w.heap.size+1),1,none⟩=some (.slice none 0 0)∧((w.alloc (.cells #[.bool false,.slice none 0 0] 65)).alloc (.cells #[.bool false,.slice none 0 0] 65)).frozen? ⟨(w.heap.size+1),0,none⟩=false∧((w.alloc (.cells #[.bool false,.slice none 0 0] 65)).alloc (.cells #[.bool false,.slice none 0 0] 65)).frozen? ⟨(w.heap.size+1),1,none⟩=false∧Blk ((w.alloc (.cells #[.bool false,.slice none 0 0] 65)).alloc (.cells #[.bool false,.slice none 0 0] 65)) (w.heap.size+1) 65 #[.bool false,.slice none 0 0]):=by
 have h:=Blk.new (w.alloc (.cells #[.bool false,.slice none 0 0] 65)) 65 #[.bool false,.slice none 0 0]
 rw[World.size_alloc]at h
 exact⟨fr_of hB ((Blk.new w 65 #[.bool false,.slice none 0 0]).alloc_ _),fr_of (by omega) h⟩
theorem two_new12 {w:World} {s t:Bool} {p q:Option Addr} {n c m d:Nat} {x y:Int} (h:Zs w s p n c x∧Zs w t q m d y):TwoZ ((w.alloc (.cells #[.bool s,.slice p n c] 65)).alloc (.cells #[.bool t,.slice q m d] 65)) w.heap.size (w.heap.size+1) x y:=by
 obtain⟨X0,X1,_⟩:=box2 w #[.bool s,.slice p n c] 65 #[.bool t,.slice q m d] 65
 have hb:∀ (w:World) (o:Obj),Below w.heap.size w (w.alloc o):=fun w o=>(Below.refl _ _).alloc (Nat.le_refl _) o
 exact⟨_,_,_,_,_,_,_,_,X0,X1,(h.1.keep (hb _ _)).keep (hb _ _),(h.2.keep (hb _ _)).keep (hb _ _)⟩
theorem two_new21 {w:World} {s t:Bool} {p q:Option Addr} {n c m d:Nat} {x y:Int} (h:Zs w s p n c x∧Zs w t q m d y):TwoZ ((w.alloc (.cells #[.bool t,.slice q m d] 65)).alloc (.cells #[.bool s,.slice p n c] 65)) (w.heap.size+1) w.heap.size x y:=by
 obtain⟨s',p',n',c',t',q',m',d',h1,h2,h3,h4⟩:=two_new12 (And.intro h.2 h.1)
 exact⟨_,_,_,_,_,_,_,_,h2,h1,h4,h3⟩
theorem two_half {w:World} {A:Nat} {s t:Bool} {p q:Option Addr} {n c m d:Nat} {x y:Int} (hA:Blk w A 65 #[.bool false,.slice none 0 0]) (h:Zs w s p n c x∧Zs w t q m d y):
  TwoZ (((((w.alloc (.cells #[.bool false,.slice none 0 0] 65)).setCell ⟨A,0,none⟩ (.bool s)).setCell ⟨A,1,none⟩ (.slice p n c)).setCell ⟨w.heap.size,0,none⟩ (.bool t)).setCell ⟨w.heap.size,1,none⟩ (.slice q m d)) A w.heap.size x y:=by
 have hb:Below w.heap.size w (w.alloc (.cells #[.bool false,.slice none 0 0] 65)):=(Below.refl _ _).alloc (Nat.le_refl _) _
 exact two_put (Nat.ne_of_lt hA.lt) (hA.alloc_ _) (Blk.new w _ _) (h.1.keep hb) (h.2.keep hb)
theorem two_top {w:World} {A:Nat} {s t:Bool} {p q:Option Addr} {n c m d:Nat} {x y:Int} (hA:Blk w A 65 #[.bool false,.slice none 0 0]) (h:Zs w s p n c x∧Zs w t q m d y):
  TwoZ (((w.alloc (.cells #[.bool s,.slice p n c] 65)).setCell ⟨A,0,none⟩ (.bool t)).setCell ⟨A,1,none⟩ (.slice q m d)) w.heap.size A x y:=by
 have hb:Below w.heap.size w (w.alloc (.cells #[.bool s,.slice p n c] 65)):=(Below.refl _ _).alloc (Nat.le_refl _) _
 have hA':=hA.alloc_ (.cells #[.bool s,.slice p n c] 65)
 have hne:=Nat.ne_of_gt hA.lt
 obtain⟨h1,h2⟩:=one_put hA' (h.2.keep hb)
 exact⟨_,_,_,_,_,_,_,_,((Blk.new w _ _).far_ (p:=⟨A,0,none⟩) hne _).far_ (p:=⟨A,1,none⟩) hne _,h1,(h.1.keep hb).put2 (Sts.box hA') 0 1 _ _ (NotInt.bool _),h2⟩
theorem S4_0_size {B:Nat} {w0 w:World} {a0 a1 a2 a3:Addr} {v0 v1 v2 v3:Value} (h:C4_0 B w0 w a0 a1 a2 a3 v0 v1 v2 v3):B≤w.heap.size:=SS.sizeLe (B:=B) (w0:=w0) (l:=[(a0,v0),(a1,v1),(a2,v2),(a3,v3)]) h
theorem c_rAdd (s:Bool) (p:Option Addr) (n c:Nat) (x:Int) (t:Bool) (q:Option Addr) (m d:Nat) (y:Int) (w:World) (h:Zr w s p n c x) (h':Zr w t q m d y) (hn:n≤8796093022200) (hm:m≤8796093022200):
  Calls Tryz.prog 107 #[.agg #[.bool s,.slice p n c],.agg #[.bool t,.slice q m d]] w fun e w'=>RetZ w' e (x+y)∧Below w.heap.size w w':=by
 have HN1:=Kh (fun w1 (hb:Below w.heap.size w w1)=>c_Norm s p n c x w1 (h.keep hb) (by omega))
 have HN2:=Kh (fun w1 (hb:Below w.heap.size w w1)=>c_Norm t q m d y w1 (h'.keep hb) (by omega))
 have HX:=Kh (Nat.le_trans h.size hn)
 have HY:=Kh (Nat.le_trans h'.size hm)
 clear h h'
 go_enter Tryz.func107,Tryz.ntmps107
 go_upto_region 1 with(fail)
 obtain⟨wc,hwc,X0,X1,X2,hb0⟩:=bx3 w #[.bool s,.slice p n c] 65 #[.bool t,.slice q m d] 65 #[.bool false,.slice none 0 0] 65
 rw[hwc]
 have hs0:w.heap.size≤wc.heap.size:=hb0.size
 clear hwc
 have HBC:=Kh hb0
 have HR0:=Kh X2
 have hlt:w.heap.size+1+1<wc.heap.size:=X2.lt
 go_cut [5,6]from 7 to 10 (fun v5 v6 wd=>∃ g5 g6,v5=.pointer (some ⟨g5,0,none⟩)∧v6=.pointer (some ⟨g6,0,none⟩)∧g5≠g6∧wc.heap.size≤g5∧wc.heap.size≤g6∧TwoZ wd g5 g6 x y∧Below wc.heap.size wc wd)
 case first=>
  have hS1:wc.cell? ⟨w.heap.size,0,none⟩=some (.bool s)∧wc.cell? ⟨w.heap.size,1,none⟩=some (.slice p n c)∧wc.cell? ⟨w.heap.size+1,0,none⟩=some (.bool t)∧wc.cell? ⟨w.heap.size+1,1,none⟩=some (.slice q m d)∧Below wc.heap.size wc wc∧wc.heap.size≤wc.heap.size:=⟨X0.at_ 0 rfl,X0.at_ 1 rfl,X1.at_ 0 rfl,X1.at_ 1 rfl,Below.refl _ _,Nat.le_refl _⟩
  have hS0:wc.drew.cell? ⟨w.heap.size,0,none⟩=some (.bool s)∧wc.drew.cell? ⟨w.heap.size,1,none⟩=some (.slice p n c)∧wc.drew.cell? ⟨w.heap.size+1,0,none⟩=some (.bool t)∧wc.drew.cell? ⟨w.heap.size+1,1,none⟩=some (.slice q m d)∧Below wc.heap.size wc wc.drew∧wc.heap.size≤wc.drew.heap.size:=S4_0_next (Below.refl _ wc).drew hS1
  clear X0 X1
  have M1:True:=trivial
  go_region_held3 (fun w1=>w1.cell? ⟨w.heap.size,0,none⟩=some (.bool s)∧w1.cell? ⟨w.heap.size,1,none⟩=some (.slice p n c)∧w1.cell? ⟨w.heap.size+1,0,none⟩=some (.bool t)∧w1.cell? ⟨w.heap.size+1,1,none⟩=some (.slice q m d)∧Below wc.heap.size wc w1∧wc.heap.size≤w1.heap.size)
   (first|with_reducible exact hS0 |(refine S4_0_next (by with_reducible assumption) ?_;assumption)|exact S4_0_next (by go_grown) hS1)
   (first
    |(go_at_call 134;clear M1;refine(HN1.out _ (HBC.out.trans ((S4_0_below (by with_reducible assumption)).mono HBC.out.size))).mono ?_;rintro e w2 ⟨⟨s2,p2,n2,e2,rfl,hz2⟩,hb2⟩;have HA2:=Kh hz2;have hz2s:wc.heap.size≤w2.heap.size:=Nat.le_trans (S4_0_size (by with_reducible assumption)) (Below.size hb2);have hw2:Below wc.heap.size wc w2:=Below.trans (S4_0_below (by with_reducible assumption)) (Below.mono hb2 (S4_0_size (by with_reducible assumption)));(first|have fa:=fr2 (B:=wc.heap.size) (W:=wc.drew) (g:=wc.heap.size) rfl (Nat.le_refl _) hb2|have fa:=fr1 (B:=wc.heap.size) (W:=wc.drew) (g:=wc.heap.size) rfl (Nat.le_refl _) hb2|skip);(try have fb:=fr1 (B:=wc.heap.size) (W:=wc.drew.alloc (.cells #[.bool false,.slice none 0 0] 65)) (g:=wc.heap.size+1) (by simp) (by omega) hb2);clear hz2)
    |(go_at_call 134;refine(HN2.out _ (HBC.out.trans ((S4_0_below (by with_reducible assumption)).mono HBC.out.size))).mono ?_;rintro e w3 ⟨⟨s3,p3,n3,e3,rfl,hz3⟩,hb3⟩;have HA3:=Kh (show Zs w3 s2 p2 n2 e2 x∧Zs w3 s3 p3 n3 e3 y from⟨by first|exact HA2.out.keep hb3|exact(HA2.out.keep ((Below.refl _ _).alloc (Nat.le_refl _) _)).keep hb3|exact((HA2.out.keep ((Below.refl _ _).alloc (Nat.le_refl _) _)).keep ((Below.refl _ _).alloc (Nat.le_refl _) _)).keep hb3,hz3⟩);have hz3s:wc.heap.size≤w3.heap.size:=Nat.le_trans (S4_0_size (by with_reducible assumption)) (Below.size hb3);have hw3:Below wc.heap.size wc w3:=Below.trans (S4_0_below (by with_reducible assumption)) (Below.mono hb3 (S4_0_size (by with_reducible assumption)));(first|have ga:=frn0 fa hb3|have ga:=frn1 fa hb3|skip);(try have gb:=frn0 fb hb3);(first|have gc:=fr2 (B:=wc.heap.size) (W:=w2) (g:=w2.heap.size) rfl hz2s hb3|have gc:=fr1 (B:=wc.heap.size) (W:=w2) (g:=w2.heap.size) rfl hz2s hb3|skip);(try have gd:=fr1 (B:=wc.heap.size) (W:=w2.alloc (.cells #[.bool false,.slice none 0 0] 65)) (g:=w2.heap.size+1) (by simp) (by omega) hb3);(try have ha1:=fun o=>fr_al ga o);(try have hb1:=fun o=>fr_al gb o);(try have hc1:=fun o=>fr_al gc o);(try have hd1:=fun o=>fr_al gd o);have hnn:=fr_new hz3s;(try have qga:=And.intro (Nat.ne_of_lt ga.2.2.2.2.2.lt) (Nat.ne_of_gt ga.2.2.2.2.2.lt));(try have qgb:=And.intro (Nat.ne_of_lt gb.2.2.2.2.2.lt) (Nat.ne_of_gt gb.2.2.2.2.2.lt));(try have qgc:=And.intro (Nat.ne_of_lt gc.2.2.2.2.2.lt) (Nat.ne_of_gt gc.2.2.2.2.2.lt));(try have qgd:=And.intro (Nat.ne_of_lt gd.2.2.2.2.2.lt) (Nat.ne_of_gt gd.2.2.2.2.2.lt));(try have qfa:=And.intro (Nat.ne_of_lt fa.2.2.2.2.2.lt) (Nat.ne_of_gt fa.2.2.2.2.2.lt));(try have qfb:=And.intro (Nat.ne_of_lt fb.2.2.2.2.2.lt) (Nat.ne_of_gt fb.2.2.2.2.2.lt));(try have hb2s:=Below.size hb2);(try have hb3s:=Below.size hb3);clear hz3 HA2))
  all_goals go_wp2
  all_goals go_meet
  all_goals refine⟨_,_,rfl,rfl,?_,?_,?_,?_,?_⟩
  all_goals first
   |(with_reducible exact two_new12 HA3.out)
   |(with_reducible exact two_new21 HA3.out)
   |(with_reducible exact two_half ga.2.2.2.2.2 HA3.out)
   |(with_reducible exact two_half gb.2.2.2.2.2 HA3.out)
   |(with_reducible exact two_half gc.2.2.2.2.2 HA3.out)
   |(with_reducible exact two_half gd.2.2.2.2.2 HA3.out)
   |(with_reducible exact two_top ga.2.2.2.2.2 HA3.out)
   |(with_reducible exact two_top gb.2.2.2.2.2 HA3.out)
   |(with_reducible exact two_top gc.2.2.2.2.2 HA3.out)
   |(with_reducible exact two_top gd.2.2.2.2.2 HA3.out)
   |(with_reducible exact two_put (by omega) ga.2.2.2.2.2 gb.2.2.2.2.2 HA3.out.1 HA3.out.2)
   |(with_reducible exact two_put (by omega) ga.2.2.2.2.2 gc.2.2.2.2.2 HA3.out.1 HA3.out.2)
   |(with_reducible exact two_put (by omega) ga.2.2.2.2.2 gd.2.2.2.2.2 HA3.out.1 HA3.out.2)
   |(with_reducible exact two_put (by omega) gb.2.2.2.2.2 ga.2.2.2.2.2 HA3.out.1 HA3.out.2)
   |(with_reducible exact two_put (by omega) gb.2.2.2.2.2 gc.2.2.2.2.2 HA3.out.1 HA3.out.2)
   |(with_reducible exact two_put (by omega) gb.2.2.2.2.2 gd.2.2.2.2.2 HA3.out.1 HA3.out.2)
   |(with_reducible exact two_put (by omega) gc.2.2.2.2.2 ga.2.2.2.2.2 HA3.out.1 HA3.out.2)
   |(with_reducible exact two_put (by omega) gc.2.2.2.2.2 gb.2.2.2.2.2 HA3.out.1 HA3.out.2)
   |(with_reducible exact two_put (by omega) gc.2.2.2.2.2 gd.2.2.2.2.2 HA3.out.1 HA3.out.2)
   |(with_reducible exact two_put (by omega) gd.2.2.2.2.2 ga.2.2.2.2.2 HA3.out.1 HA3.out.2)
   |(with_reducible exact two_put (by omega) gd.2.2.2.2.2 gb.2.2.2.2.2 HA3.out.1 HA3.out.2)
   |(with_reducible exact two_put (by omega) gd.2.2.2.2.2 gc.2.2.2.2.2 HA3.out.1 HA3.out.2)
   | omega
   | go_grown
 case rest=>
  obtain⟨g5,g6,rfl,rfl,hne,hg5,hg6,⟨s1,p1,n1,c1,t1,q1,m1,d1,XA,XB,zx,zy⟩,hbd⟩:=hcut
  have hlt5:w.heap.size+1+1<g5:=by omega
  have hlt6:w.heap.size+1+1<g6:=by omega
  have XR:=bk HR0 hbd
  have hbw:=HBC.out.trans (hbd.mono HBC.out.size)
  have hsw:w.heap.size≤wc.heap.size:=hbw.size
  have TR:=Sts.of XR (by intro v hv;simp at hv;rcases hv with rfl|rfl <;> first|exact NotInt.bool _|exact NotInt.slice _ _ _)
  obtain⟨u,hu⟩:∃ u,x.natAbs=u:=⟨_,rfl⟩
  obtain⟨v,hv⟩:∃ v,y.natAbs=v:=⟨_,rfl⟩
  have hxs:sg s1 u=x:=by rw[zx.1,← hu];exact sg_self x
  have hys:sg t1 v=y:=by rw[zy.1,← hv];exact sg_self y
  have hnu:nd u=n1:=by rw[← hu];exact zx.2.1
  have hnv:nd v=m1:=by rw[← hv];exact zy.2.1
  have hmu:Nm wc p1 c1 u:=by rw[← hu];exact zx.2.2
  have hmv:Nm wc q1 d1 v:=by rw[← hv];exact zy.2.2
  have hn1l:n1≤8796093022200:=by rw[← hnu,← hu];exact HX.out
  have hm1l:m1≤8796093022200:=by rw[← hnv,← hv];exact HY.out
  have hvu:vf (dg u) n1=u:=by rw[← hnu,vf_nd]
  have hvv:vf (dg v) m1=v:=by rw[← hnv,vf_nd]
  have hdu:Dg wc p1 c1 n1 (dg u):=by unfold Nm at hmu;rw[hnu]at hmu;exact hmu
  have hdv:Dg wc q1 d1 m1 (dg v):=by unfold Nm at hmv;rw[hnv]at hmv;exact hmv
  have HXS:=Kh hxs
  have HYS:=Kh hys
  have HNU:=Kh hnu
  have HNV:=Kh hnv
  have HVU:=Kh hvu
  have HVV:=Kh hvv
  have HDU:=Kh hdu
  have HDV:=Kh hdv
  have HMU:=Kh hmu
  have HMV:=Kh hmv
  have HXA:=Kh XA
  have HXB:=Kh XB
  have HXR:=Kh XR
  have HTR:=Kh TR
  have HBW:=Kh hbw
  have a0:=XA.at_ 0 rfl
  have a1:=XA.at_ 1 rfl
  have b0:=XB.at_ 0 rfl
  have b1:=XB.at_ 1 rfl
  clear zx zy hu hv hxs hys hnu hnv hvu hvv hdu hdv hmu hmv XA XB XR TR hbw HN1 HN2 HX HY X0 X1 X2 hb0 hs0 hbd hg5 hg6 hlt HBC HR0
  by_cases hst:s1=t1
  ·subst hst
   have HV:=Kh (show sg s1 (u+v)=x+y by rw[← HXS.out,← HYS.out,sg_same])
   have HP:=Kh (fun w1 (hb:Below wc.heap.size wc w1)=>c_rplus p1 c1 n1 (dg u) q1 d1 m1 (dg v) w1 (HDU.out.keep hb) (HDV.out.keep hb) (by omega) (by omega))
   rw[HVU.out,HVV.out]at HP
   go_upto_region 3 with(fail)
   have hS0:=S4_2_next (Below.refl _ wc).drew ⟨HXA.out.c0,HXA.out.c1,HXB.out.c0,HXB.out.c1,HXR.out.so 0,HXR.out.free_ 0,HTR.out,HXR.out.so 1,HXR.out.free_ 1,HTR.out,HBW.out,hsw⟩
   go_region_held3 (fun w1=>w1.cell? ⟨g5,0,none⟩=some (.bool s1)∧w1.cell? ⟨g5,1,none⟩=some (.slice p1 n1 c1)∧w1.cell? ⟨g6,0,none⟩=some (.bool s1)∧w1.cell? ⟨g6,1,none⟩=some (.slice q1 m1 d1)∧w1.cell? ⟨w.heap.size+1+1,0,none⟩=some (cellOf w1 ⟨w.heap.size+1+1,0,none⟩)∧w1.frozen? ⟨w.heap.size+1+1,0,none⟩=false∧Sts w1 (w.heap.size+1+1)∧w1.cell? ⟨w.heap.size+1+1,1,none⟩=some (cellOf w1 ⟨w.heap.size+1+1,1,none⟩)∧w1.frozen? ⟨w.heap.size+1+1,1,none⟩=false∧Sts w1 (w.heap.size+1+1)∧Below w.heap.size w w1∧w.heap.size≤w1.heap.size)
    (first|with_reducible exact hS0 |(refine S4_2_next (by with_reducible assumption) ?_;assumption) |(refine S4_2_put ?_ ?_ ?_ ?_ ?_ ?_ ?_ ?_ ?_ ?_ ?_ ?_ ?_ <;> first|with_reducible assumption|exact NotInt.bool _|exact NotInt.slice _ _ _ |(dsimp only;omega)))
    (first
     |(go_at_call 137;refine(HP.out _ (by first|exact Below.refl _ _|exact(Below.refl _ _).drew)).mono ?_;rintro e w5 ⟨⟨p5,c5,r5,rfl,hd5,hv5⟩,hb5⟩;have HSG:=c_rsigned (s1) p5 c5 _ r5 w5 hd5 (by omega);rw[hv5]at HSG;replace HSG:=Kh HSG;clear hd5 hv5)
     |(go_at_call 136;refine HSG.out.mono ?_;rintro e w6 ⟨⟨s2,p2,n2,c2,rfl,hz2⟩,hb6⟩;clear hb5;obtain⟨⟨hR0,hT⟩,⟨hR1,_⟩⟩:=S4_2_end hb6 (by with_reducible assumption);have hz3:=hz2.put2 hT 0 1 (.bool s2) (.slice p2 n2 c2) (NotInt.bool _);replace hz3:=Kh hz3;clear hz2 hT))
   go_wp2
   try simp only[Exit.inBlock,Exit.then]
   refine bodyPost_ret (by simp[results,Tryz.results107,go_sem,hR0,hR1];try rfl) rfl ?_
   exact⟨⟨s2,p2,n2,c2,rfl,HV.out▸hz3.out⟩,S4_2_below (by assumption)⟩
  ·obtain rfl:t1 = !s1:=by cases s1 <;> cases t1 <;> simp_all
   have hsb:(s1 == !s1)=false:=by cases s1 <;> rfl
   have hC:=c_below p1 c1 u q1 d1 v wc HMU.out HMV.out (by rw[HNU.out];omega)
   rw[HNU.out,HNV.out]at hC
   have HC:=Kh hC
   clear hst hC
   go_wp2_with fail
   refine HC.out.mono ?_
   rintro e w4 ⟨rfl,hq⟩
   have hb4:=quiet_below hq
   replace HXA:=Kh (bk HXA hb4)
   replace HXB:=Kh (bk HXB hb4)
   replace HXR:=Kh (bk HXR hb4)
   replace HTR:=Kh (HTR.out.next hb4)
   replace HDU:=Kh (HDU.out.keep hb4)
   replace HDV:=Kh (HDV.out.keep hb4)
   replace HBW:=bt HBW hb4
   replace hsw:w.heap.size≤w4.heap.size:=HBW.out.size
   clear hq hb4 HC a0 a1 b0 b1 HMU HMV
   by_cases huv:u<v
   ·have hld:decide (u<v)=true:=decide_eq_true huv
    have HV:=Kh (show sg (!s1) (v - u)=x+y by rw[← HXS.out,← HYS.out,sg_more _ _ _ (Nat.le_of_lt huv)])
    have HP:=Kh (fun w1 (hb:Below w4.heap.size w4 w1)=>c_rminus q1 d1 m1 (dg v) p1 c1 n1 (dg u) w1 (HDV.out.keep hb) (HDU.out.keep hb) (by omega) (by rw[← HNU.out,← HNV.out];exact nd_mono (Nat.le_of_lt huv)) (by rw[HVU.out,HVV.out];exact Nat.le_of_lt huv))
    rw[HVU.out,HVV.out]at HP
    clear huv
    go_upto_region 5 with(fail)
    have hS0:=S4_2_next (Below.refl _ w4).drew ⟨HXA.out.c0,HXA.out.c1,HXB.out.c0,HXB.out.c1,HXR.out.so 0,HXR.out.free_ 0,HTR.out,HXR.out.so 1,HXR.out.free_ 1,HTR.out,HBW.out,hsw⟩
    go_region_held3 (fun w1=>w1.cell? ⟨g5,0,none⟩=some (.bool s1)∧w1.cell? ⟨g5,1,none⟩=some (.slice p1 n1 c1)∧w1.cell? ⟨g6,0,none⟩=some (.bool (!s1))∧w1.cell? ⟨g6,1,none⟩=some (.slice q1 m1 d1)∧w1.cell? ⟨w.heap.size+1+1,0,none⟩=some (cellOf w1 ⟨w.heap.size+1+1,0,none⟩)∧w1.frozen? ⟨w.heap.size+1+1,0,none⟩=false∧Sts w1 (w.heap.size+1+1)∧w1.cell? ⟨w.heap.size+1+1,1,none⟩=some (cellOf w1 ⟨w.heap.size+1+1,1,none⟩)∧w1.frozen? ⟨w.heap.size+1+1,1,none⟩=false∧Sts w1 (w.heap.size+1+1)∧Below w.heap.size w w1∧w.heap.size≤w1.heap.size)
     (first|with_reducible exact hS0 |(refine S4_2_next (by with_reducible assumption) ?_;assumption) |(refine S4_2_put ?_ ?_ ?_ ?_ ?_ ?_ ?_ ?_ ?_ ?_ ?_ ?_ ?_ <;> first|with_reducible assumption|exact NotInt.bool _|exact NotInt.slice _ _ _ |(dsimp only;omega)))
     (first
      |(go_at_call 139;refine(HP.out _ (by first|exact Below.refl _ _|exact(Below.refl _ _).drew)).mono ?_;rintro e w5 ⟨⟨p5,c5,r5,rfl,hd5,hv5⟩,hb5⟩;have HSG:=c_rsigned (!s1) p5 c5 _ r5 w5 hd5 (by omega);rw[hv5]at HSG;replace HSG:=Kh HSG;clear hd5 hv5)
      |(go_at_call 136;refine HSG.out.mono ?_;rintro e w6 ⟨⟨s2,p2,n2,c2,rfl,hz2⟩,hb6⟩;clear hb5;obtain⟨⟨hR0,hT⟩,⟨hR1,_⟩⟩:=S4_2_end hb6 (by with_reducible assumption);have hz3:=hz2.put2 hT 0 1 (.bool s2) (.slice p2 n2 c2) (NotInt.bool _);replace hz3:=Kh hz3;clear hz2 hT))
    go_wp2
    try simp only[Exit.inBlock,Exit.then]
    refine bodyPost_ret (by simp[results,Tryz.results107,go_sem,hR0,hR1];try rfl) rfl ?_
    exact⟨⟨s2,p2,n2,c2,rfl,HV.out▸hz3.out⟩,S4_2_below (by assumption)⟩
   ·have hld:decide (u<v)=false:=decide_eq_false huv
    have hvu:v≤u:=by omega
    have HV:=Kh (show sg s1 (u - v)=x+y by rw[← HXS.out,← HYS.out,sg_less _ _ _ hvu])
    have HP:=Kh (fun w1 (hb:Below w4.heap.size w4 w1)=>c_rminus p1 c1 n1 (dg u) q1 d1 m1 (dg v) w1 (HDU.out.keep hb) (HDV.out.keep hb) (by omega) (by rw[← HNU.out,← HNV.out];exact nd_mono hvu) (by rw[HVU.out,HVV.out];exact hvu))
    rw[HVU.out,HVV.out]at HP
    clear huv hvu
    go_upto_region 6 with(fail)
    have hS0:=S4_2_next (Below.refl _ w4).drew ⟨HXA.out.c0,HXA.out.c1,HXB.out.c0,HXB.out.c1,HXR.out.so 0,HXR.out.free_ 0,HTR.out,HXR.out.so 1,HXR.out.free_ 1,HTR.out,HBW.out,hsw⟩
    go_region_held3 (fun w1=>w1.cell? ⟨g5,0,none⟩=some (.bool s1)∧w1.cell? ⟨g5,1,none⟩=some (.slice p1 n1 c1)∧w1.cell? ⟨g6,0,none⟩=some (.bool (!s1))∧w1.cell? ⟨g6,1,none⟩=some (.slice q1 m1 d1)∧w1.cell? ⟨w.heap.size+1+1,0,none⟩=some (cellOf w1 ⟨w.heap.size+1+1,0,none⟩)∧w1.frozen? ⟨w.heap.size+1+1,0,none⟩=false∧Sts w1 (w.heap.size+1+1)∧w1.cell? ⟨w.heap.size+1+1,1,none⟩=some (cellOf w1 ⟨w.heap.size+1+1,1,none⟩)∧w1.frozen? ⟨w.heap.size+1+1,1,none⟩=false∧Sts w1 (w.heap.size+1+1)∧Below w.heap.size w w1∧w.heap.size≤w1.heap.size)
     (first|with_reducible exact hS0 |(refine S4_2_next (by with_reducible assumption) ?_;assumption) |(refine S4_2_put ?_ ?_ ?_ ?_ ?_ ?_ ?_ ?_ ?_ ?_ ?_ ?_ ?_ <;> first|with_reducible assumption|exact NotInt.bool _|exact NotInt.slice _ _ _ |(dsimp only;omega)))
     (first
      |(go_at_call 139;refine(HP.out _ (by first|exact Below.refl _ _|exact(Below.refl _ _).drew)).mono ?_;rintro e w5 ⟨⟨p5,c5,r5,rfl,hd5,hv5⟩,hb5⟩;have HSG:=c_rsigned (s1) p5 c5 _ r5 w5 hd5 (by omega);rw[hv5]at HSG;replace HSG:=Kh HSG;clear hd5 hv5)
      |(go_at_call 136;refine HSG.out.mono ?_;rintro e w6 ⟨⟨s2,p2,n2,c2,rfl,hz2⟩,hb6⟩;clear hb5;obtain⟨⟨hR0,hT⟩,⟨hR1,_⟩⟩:=S4_2_end hb6 (by with_reducible assumption);have hz3:=hz2.put2 hT 0 1 (.bool s2) (.slice p2 n2 c2) (NotInt.bool _);replace hz3:=Kh hz3;clear hz2 hT))
    go_wp2
    try simp only[Exit.inBlock,Exit.then]
    refine bodyPost_ret (by simp[results,Tryz.results107,go_sem,hR0,hR1];try rfl) rfl ?_
    exact⟨⟨s2,p2,n2,c2,rfl,HV.out▸hz3.out⟩,S4_2_below (by assumption)⟩
theorem c_rSub (s:Bool) (p:Option Addr) (n c:Nat) (x:Int) (t:Bool) (q:Option Addr) (m d:Nat) (y:Int) (w:World) (h:Zr w s p n c x) (h':Zr w t q m d y) (hn:n≤8796093022200) (hm:m≤8796093022200):
  Calls Tryz.prog 175 #[.agg #[.bool s,.slice p n c],.agg #[.bool t,.slice q m d]] w fun e w'=>RetZ w' e (x - y)∧Below w.heap.size w w':=by
 have HC1:=Kh (fun w1 (hb:Below w.heap.size w w1)=>c_rNeg t q m d y w1 (h'.keep hb) (by omega))
 have HC2:=Kh (fun w1 (hb:Below w.heap.size w w1) s4 p4 n4 e4 (hz:Zr w1 s4 p4 n4 e4 (-y)) (hn4:n4≤8796093022200)=>c_rAdd s p n c x s4 p4 n4 e4 (-y) w1 (h.keep hb) hz hn hn4)
 have HY:=Kh (show nd (-y).natAbs≤8796093022200 by rw[Int.natAbs_neg];exact Nat.le_trans h'.size hm)
 have HV:=Kh (show x+-y=x - y from rfl)
 clear h h'
 go_enter Tryz.func175,Tryz.ntmps175
 go_upto_region 1 with(fail)
 obtain⟨w0,hw0,X0,X1,X2,hb0⟩:=bx3 w #[.bool s,.slice p n c] 65 #[.bool t,.slice q m d] 65 #[.bool false,.slice none 0 0] 65
 rw[hw0]
 have hs0:w.heap.size≤w0.heap.size:=hb0.size
 clear hw0
 have T2:=Sts.of X2 (by intro v hv;simp at hv;rcases hv with rfl|rfl <;> first|exact NotInt.bool _|exact NotInt.slice _ _ _)
 have hS0:=S4_2_next (Below.refl _ w0).drew ⟨X0.c0,X0.c1,X1.c0,X1.c1,X2.so 0,X2.free_ 0,T2,X2.so 1,X2.free_ 1,T2,hb0,hs0⟩
 clear X0 X1 X2
 go_region_held3 (fun w1=>w1.cell? ⟨w.heap.size,0,none⟩=some (.bool s)∧w1.cell? ⟨w.heap.size,1,none⟩=some (.slice p n c)∧w1.cell? ⟨w.heap.size+1,0,none⟩=some (.bool t)∧w1.cell? ⟨w.heap.size+1,1,none⟩=some (.slice q m d)∧w1.cell? ⟨w.heap.size+1+1,0,none⟩=some (cellOf w1 ⟨w.heap.size+1+1,0,none⟩)∧w1.frozen? ⟨w.heap.size+1+1,0,none⟩=false∧Sts w1 (w.heap.size+1+1)∧w1.cell? ⟨w.heap.size+1+1,1,none⟩=some (cellOf w1 ⟨w.heap.size+1+1,1,none⟩)∧w1.frozen? ⟨w.heap.size+1+1,1,none⟩=false∧Sts w1 (w.heap.size+1+1)∧Below w.heap.size w w1∧w.heap.size≤w1.heap.size)
  (first|with_reducible exact hS0 |(refine S4_2_next (by with_reducible assumption) ?_;assumption) |(refine S4_2_put ?_ ?_ ?_ ?_ ?_ ?_ ?_ ?_ ?_ ?_ ?_ ?_ ?_ <;> first|assumption|exact NotInt.bool _|exact NotInt.slice _ _ _ |(dsimp only;omega) |(simp;done)))
  (first
   |(go_at_call 131;refine(HC1.out _ (S4_2_below (by with_reducible assumption))).mono ?_;rintro e w2 ⟨⟨s4,p4,n4,e4,rfl,hz4⟩,hb4⟩;have HZ4:=Kh hz4;clear hz4)
   |(go_at_call 107;refine(HC2.out _ (S4_2_below (by with_reducible assumption)) _ _ _ _ HZ4.out.raw (by rw[← HZ4.out.2.1];exact HY.out)).mono ?_;rintro e w3 ⟨⟨s2,p2,n2,c2,rfl,hz2⟩,hb2⟩;clear hb4;obtain⟨⟨hR0,hT⟩,⟨hR1,_⟩⟩:=S4_2_end hb2 (by with_reducible assumption);have hz3:=hz2.put2 hT 0 1 (.bool s2) (.slice p2 n2 c2) (NotInt.bool _);replace hz3:=Kh hz3;clear hz2 hT))
 go_wp2
 try simp only[Exit.inBlock,Exit.then]
 refine bodyPost_ret (by simp[results,Tryz.results175,go_sem,hR0,hR1];try rfl) rfl ?_
 exact⟨⟨s2,p2,n2,c2,rfl,HV.out▸hz3.out⟩,S4_2_below (by assumption)⟩
end Go.Proofs.YtijgdhijdfgpfaaGreatDoor
