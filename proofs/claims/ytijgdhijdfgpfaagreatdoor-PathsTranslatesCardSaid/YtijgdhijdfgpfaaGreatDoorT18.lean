/- Contracts of halfplaneref01: Neg, Abs, word, split, Same. -/
import Derived.Test.YtijgdhijdfgpfaaGreatDoorT17
set_option maxRecDepth 100000
set_option maxHeartbeats 8000000
namespace Go.Proofs.YtijgdhijdfgpfaaGreatDoor
open Go.RowKit
theorem c_rNeg (s:Bool) (p:Option Addr) (n c:Nat) (z:Int) (w:World) (h:Zr w s p n c z) (hn:n≤35184372088830):
  Calls Tryz.prog 131 #[.agg #[.bool s,.slice p n c]] w fun e w'=>RetZ w' e (-z)∧Below w.heap.size w w':=by
 obtain⟨a,hd,hz⟩:=h
 have HC:=Kh (fun w1 (hb:Below w.heap.size w w1)=>c_rsigned (!s) p c n a w1 (hd.keep hb) hn)
 have HV:=Kh (show sg (!s) (vf a n)=-z by rw[sg_not,hz])
 clear hd hz
 go_enter Tryz.func131,Tryz.ntmps131
 go_wp2_with fail
 obtain⟨w0,hw0,X0,X1,hb0⟩:=bx2 w #[.bool s,.slice p n c] 65 #[.bool false,.slice none 0 0] 65
 rw[hw0]
 have HX1:=Kh X1
 have HB0:=Kh hb0
 clear hw0 X0 X1 hb0
 refine(HC.out _ HB0.out).mono ?_
 rintro e w2 ⟨⟨s2,p2,n2,c2,rfl,hz2⟩,hb2⟩
 have HVR:=Kh (Var2.of (bk HX1 hb2) (NotInt.bool _) (NotInt.slice _ _ _))
 have HB2:=bt HB0 hb2
 clear hb2 HX1 HB0 HC
 obtain⟨⟨u0,hu0⟩,⟨u1,hu1⟩⟩:=HVR.out.cells
 have f0:=HVR.out.free 0
 have f1:=HVR.out.free 1
 have hz3:=hz2.put2 HVR.out.sts 0 1 (.bool s2) (.slice p2 n2 c2) (NotInt.bool _)
 have hb3:Below w.heap.size w ((w2.setCell ⟨w.heap.size+1,0,none⟩ (.bool s2)).setCell ⟨w.heap.size+1,1,none⟩ (.slice p2 n2 c2)):=(HB2.out.setCell (by show w.heap.size≤w.heap.size+1;omega) _).setCell (by show w.heap.size≤w.heap.size+1;omega) _
 have HZ3:=Kh hz3
 have HB3:=Kh hb3
 clear hz2 hz3 hb3
 go_wp2
 try simp only[Exit.inBlock,Exit.then]
 refine bodyPost_ret (by simp[results,Tryz.results131,go_sem,hu0,hu1];try rfl) rfl ?_
 exact⟨⟨s2,p2,n2,c2,rfl,HV.out▸HZ3.out⟩,HB3.out⟩
theorem c_rAbs (s:Bool) (p:Option Addr) (n c:Nat) (z:Int) (w:World) (h:Zr w s p n c z) (hn:n≤35184372088830):
  Calls Tryz.prog 157 #[.agg #[.bool s,.slice p n c]] w fun e w'=>RetZ w' e ((z.natAbs:Int))∧Below w.heap.size w w':=by
 obtain⟨a,hd,hz⟩:=h
 have HC:=Kh (fun w1 (hb:Below w.heap.size w w1)=>c_rsigned (false) p c n a w1 (hd.keep hb) hn)
 have HV:=Kh (show sg (false) (vf a n)=(z.natAbs:Int)by rw[← hz,sg_abs];rfl)
 clear hd hz
 go_enter Tryz.func157,Tryz.ntmps157
 go_wp2_with fail
 obtain⟨w0,hw0,X0,X1,hb0⟩:=bx2 w #[.bool s,.slice p n c] 65 #[.bool false,.slice none 0 0] 65
 rw[hw0]
 have HX1:=Kh X1
 have HB0:=Kh hb0
 clear hw0 X0 X1 hb0
 refine(HC.out _ HB0.out).mono ?_
 rintro e w2 ⟨⟨s2,p2,n2,c2,rfl,hz2⟩,hb2⟩
 have HVR:=Kh (Var2.of (bk HX1 hb2) (NotInt.bool _) (NotInt.slice _ _ _))
 have HB2:=bt HB0 hb2
 clear hb2 HX1 HB0 HC
 obtain⟨⟨u0,hu0⟩,⟨u1,hu1⟩⟩:=HVR.out.cells
 have f0:=HVR.out.free 0
 have f1:=HVR.out.free 1
 have hz3:=hz2.put2 HVR.out.sts 0 1 (.bool s2) (.slice p2 n2 c2) (NotInt.bool _)
 have hb3:Below w.heap.size w ((w2.setCell ⟨w.heap.size+1,0,none⟩ (.bool s2)).setCell ⟨w.heap.size+1,1,none⟩ (.slice p2 n2 c2)):=(HB2.out.setCell (by show w.heap.size≤w.heap.size+1;omega) _).setCell (by show w.heap.size≤w.heap.size+1;omega) _
 have HZ3:=Kh hz3
 have HB3:=Kh hb3
 clear hz2 hz3 hb3
 go_wp2
 try simp only[Exit.inBlock,Exit.then]
 refine bodyPost_ret (by simp[results,Tryz.results157,go_sem,hu0,hu1];try rfl) rfl ?_
 exact⟨⟨s2,p2,n2,c2,rfl,HV.out▸HZ3.out⟩,HB3.out⟩
theorem c_rword (p:Option Addr) (c n:Nat) (a:Nat→Nat) (w:World) (h:Dg w p c n a) (hn:n≤2):
  Calls Tryz.prog 158 #[.slice p n c] w fun e w'=>e=.returned (.int .u64 (vf a n:Nat))∧w'=w:=by
 by_cases h0:n=0
 ·subst h0
  clear h hn
  go_enter Tryz.func158,Tryz.ntmps158
  go_wp2
  refine wp_loop_rounds 1 ?_
  rw[rounds_succ]
  go_wp2
  go_ret
  exact⟨rfl,rfl⟩
 ·obtain⟨g,o,rfl,hg,hc⟩:=h.head (by omega)
  have l0:=h.lt 0 (by omega)
  have c0:=hc 0 (by omega)
  obtain⟨x,hx⟩:∃ x,a 0=x:=⟨_,rfl⟩
  rw[hx]at l0 c0
  rw[Nat.add_zero]at c0
  have hxi:(x:Int)<4294967296:=by omega
  by_cases h1:n=1
  ·subst h1
   have HV:=Kh (show vf a 1=x by simp[vf,hx])
   clear hc h hx l0
   go_enter Tryz.func158,Tryz.ntmps158
   go_wp2
   go_rounds 2
   go_ret
   exact⟨ret_i (by rw[HV.out]),rfl⟩
  ·obtain rfl:n=2:=by omega
   have l1:=h.lt 1 (by omega)
   have c1:=hc 1 (by omega)
   obtain⟨y,hy⟩:∃ y,a 1=y:=⟨_,rfl⟩
   rw[hy]at l1 c1
   have hyi:(y:Int)<4294967296:=by omega
   have HV:=Kh (show vf a 2=x+4294967296*y by simp[vf,hx,hy])
   clear hc h hx hy l0 l1
   go_enter Tryz.func158,Tryz.ntmps158
   go_wp2
   go_rounds 3
   go_ret
   exact⟨ret_i (by rw[HV.out];omega),rfl⟩
theorem c_rsplit (v:Nat) (w:World) (hv:v<18446744073709551616):
  Calls Tryz.prog 159 #[.int .u64 v] w fun e w'=>RetN w' e v∧Below w.heap.size w w':=by
 obtain⟨x,hx⟩:∃ x,v % 4294967296=x:=⟨_,rfl⟩
 obtain⟨y,hy⟩:∃ y,v / 4294967296=y:=⟨_,rfl⟩
 have hxi:(v:Int) % 4294967296=(x:Nat):=by omega
 have hyi:(v:Int) / 4294967296=(y:Nat):=by omega
 have hyl:(y:Int)<4294967296:=by omega
 have hym:(y:Int) % 4294967296=(y:Nat):=by omega
 have hrow:=(Row.alloc w #[.int .u32 x,.int .u32 y] 2 (dg v) rfl (fun i hi=>by
  rcases Nat.lt_or_ge i 1 with h2|h2
  ·obtain rfl:i=0:=by omega
   simp[dg];omega
  ·obtain rfl:i=1:=by omega
   simp[dg];omega) (fun i _=>dg_lt v i)).dg 2 (Nat.le_refl _)
 have HT:=c_rtrim (some ⟨w.heap.size,0,none⟩) 2 2 (dg v) _ hrow (by omega)
 rw[vf_dg (show v<4294967296 ^ 2 by omega)]at HT
 replace HT:=Kh HT
 have HB:=Kh ((Below.refl w.heap.size w).alloc (Nat.le_refl _) (.cells #[.int .u32 x,.int .u32 y] 149))
 clear hrow hx hy hv
 go_enter Tryz.func159,Tryz.ntmps159
 go_wp2_with fail
 refine HT.out.mono ?_
 rintro e w2 ⟨⟨p2,c2,rfl,hm⟩,hb2⟩
 obtain⟨k,hk⟩:∃ k,nd v=k:=⟨_,rfl⟩
 rw[hk]
 have HK:=Kh hk
 have HM:=Kh hm
 have HB2:=bt HB hb2
 clear hk hm hb2 HT HB
 go_wp2
 go_ret
 exact⟨⟨p2,c2,by rw[HK.out];rfl,HM.out⟩,HB2.out⟩
theorem dg_inj {u v n:Nat} (hu:nd u=n) (hv:nd v=n) (h:∀ j,j<n→dg u j=dg v j):u=v:=by
 have h1:=vf_nd u
 have h2:=vf_nd v
 rw[hu]at h1
 rw[hv]at h2
 rw[← h1,← h2]
 exact vf_congr h
theorem c_rSame (s:Bool) (p:Option Addr) (n c:Nat) (x:Int) (t:Bool) (q:Option Addr) (m d:Nat) (y:Int) (w:World) (h:Zs w s p n c x) (h':Zs w t q m d y) (hn:n≤35184372088830):
  Calls Tryz.prog 132 #[.agg #[.bool s,.slice p n c],.agg #[.bool t,.slice q m d]] w fun e w'=>e=.returned (.bool (decide (x=y)))∧Below w.heap.size w w':=by
 obtain⟨r,hr⟩:∃ r,decide (x=y)=r:=⟨_,rfl⟩
 rw[hr]
 obtain⟨hs,hnn,hnm⟩:=h
 obtain⟨ht,hmm,hmn⟩:=h'
 unfold Nm at hnm hmn
 rw[hnn]at hnm
 rw[hmm]at hmn
 have HR:=Kh hr
 have HS:=Kh hs
 have HT:=Kh ht
 have HN:=Kh hnn
 have HM:=Kh hmm
 have HX:=Kh hnm
 have HY:=Kh hmn
 have HB0:=Kh (((Below.refl w.heap.size w).alloc (Nat.le_refl _) (.cells #[.bool s,.slice p n c] 65)).alloc (by simp) (.cells #[.bool t,.slice q m d] 65))
 clear hr hs ht hnn hmm hnm hmn
 by_cases hst:s=t
 ·by_cases hnm:n=m
  ·subst hst hnm
   go_enter Tryz.func132,Tryz.ntmps132
   go_wp2
   obtain⟨w0,hw0⟩:∃ w0,(w.alloc (.cells #[.bool s,.slice p n c] 65)).alloc (.cells #[.bool s,.slice q n d] 65)=w0:=⟨_,rfl⟩
   rw[hw0]
   rw[hw0]at HB0
   obtain⟨X0,X1,_⟩:=box2 w #[.bool s,.slice p n c] 65 #[.bool s,.slice q n d] 65
   rw[hw0]at X0 X1
   have a1:=X0.at_ 1 rfl
   have b1:=X1.at_ 1 rfl
   clear X0 X1 hw0
   go_loopw [5] (fun v5 wr=>∃ i:Nat,i≤n∧v5=.int .i64 i∧(∀ j,j<i→dg x.natAbs j=dg y.natAbs j)∧∃ k,wr=w0.drewN k) (fun v5 _=>n - (intOf v5).toNat)
   case atStart=>exact⟨0,Nat.zero_le _,rfl,fun j hj=>absurd hj (Nat.not_lt_zero _),0,rfl⟩
   case round=>
    obtain⟨i,hi,rfl,heq,mr,rfl⟩:=hrel
    have HE:=Kh heq
    clear heq
    by_cases hin:i<n
    ·obtain⟨g1,o1,rfl,hg1,hc1⟩:=HX.out.head (by omega)
     obtain⟨g2,o2,rfl,hg2,hc2⟩:=HY.out.head (by omega)
     have c1:w0.cell? ⟨g1,o1+i,none⟩=some (.int .u32 (dg x.natAbs i:Nat)):=(HB0.out.cell (p:=⟨g1,o1+i,none⟩) hg1).trans (hc1 i hin)
     have c2:w0.cell? ⟨g2,o2+i,none⟩=some (.int .u32 (dg y.natAbs i:Nat)):=(HB0.out.cell (p:=⟨g2,o2+i,none⟩) hg2).trans (hc2 i hin)
     obtain⟨u,hu⟩:∃ u,dg x.natAbs i=u:=⟨_,rfl⟩
     obtain⟨v,hv⟩:∃ v,dg y.natAbs i=v:=⟨_,rfl⟩
     rw[hu]at c1
     rw[hv]at c2
     have HU:=Kh hu
     have HV:=Kh hv
     clear hc1 hc2 hu hv
     by_cases huv:u=v
     ·subst huv
      go_wp2
      go_quiet (fail)
      go_wp2
      go_roundw
      case rel=>exact⟨i+1,by omega,by go_num,fun j hj=>by
       rcases Nat.lt_or_ge j i with h3|h3
       ·exact HE.out j h3
       ·rw[show j=i from by omega,HU.out,HV.out],_,by first|rfl|rw[dr2]⟩
      case measure=>simp[intOf];omega
     ·have hub:((u:Int) !=(v:Int))=true:=by rw[bne_iff_ne];omega
      have HF:=Kh (show false=r by
       rw[← HR.out]
       refine(decide_eq_false fun h=>huv ?_).symm
       rw[← HU.out,← HV.out,h])
      clear huv
      go_wp2
      go_quiet (fail)
      go_wp2
      go_ret
      exact⟨by rw[← HF.out];rfl,by first|exact below_drewN' (below_drewN' HB0.out _) _|exact below_drewN' HB0.out _⟩
    ·obtain rfl:i=n:=by omega
     have HF:=Kh (show true=r by
      rw[← HR.out]
      refine(decide_eq_true ?_).symm
      have h1:=dg_inj HN.out HM.out HE.out
      have h2:=HS.out
      rw[HT.out,decide_eq_decide]at h2
      omega)
     go_wp2
     go_ret
     exact⟨by rw[← HF.out];rfl,below_drewN' HB0.out _⟩
  ·subst hst
   have hnb:((n:Int) !=(m:Int))=true:=by rw[bne_iff_ne];omega
   have HF:=Kh (show false=r by
    rw[← HR.out]
    exact(decide_eq_false fun h=>hnm (by rw[← HN.out,← HM.out,h])).symm)
   clear hnm
   go_enter Tryz.func132,Tryz.ntmps132
   go_wp2
   go_ret
   exact⟨by rw[← HF.out];rfl,HB0.out⟩
 ·obtain rfl:t = !s:=by cases s <;> cases t <;> simp_all
  have hsb:(s != !s)=true:=by cases s <;> rfl
  have HF:=Kh (show false=r by
   rw[← HR.out]
   refine(decide_eq_false fun h=>?_).symm
   have h1:=HS.out
   have h2:=HT.out
   rw[← h,← h1]at h2
   cases s <;> cases h2)
  clear hst
  go_enter Tryz.func132,Tryz.ntmps132
  go_wp2
  go_ret
  exact⟨by rw[← HF.out];rfl,HB0.out⟩
def bl (v:Nat):Nat:=if v=0 then 0 else 32*(nd v - 1)+Lib.bitLen (dg v (nd v - 1))
theorem dg_top_eq {v:Nat} (hv:v≠0):dg v (nd v - 1)=v / 4294967296 ^ (nd v - 1)∧dg v (nd v - 1)≠0:=by
 obtain⟨m,hm⟩:∃ m,nd v=m+1:=⟨nd v - 1,by have:=nd_pos.2 hv;omega⟩
 have h2:=nd_le.1 (Nat.le_refl (nd v))
 refine⟨?_,dg_top hv⟩
 unfold dg
 rw[hm]at h2 ⊢
 simp only[Nat.add_sub_cancel]
 rw[Nat.mod_eq_of_lt]
 rw[Nat.div_lt_iff_lt_mul (Dig.pow_pos m),← pow_succ']
 exact h2
theorem pow32 (m:Nat):(4294967296:Nat) ^ m=2 ^ (32*m):=by
 rw[show(4294967296:Nat)=2 ^ 32 from by decide,← Nat.pow_mul]
theorem lt_bl (v:Nat):v<2 ^ bl v:=by
 unfold bl
 by_cases hv:v=0
 ·rw[if_pos hv,hv];decide
 ·rw[if_neg hv]
  obtain⟨h1,h2⟩:=dg_top_eq hv
  obtain⟨t,ht⟩:∃ t,dg v (nd v - 1)=t:=⟨_,rfl⟩
  have htl:t<4294967296:=by rw[← ht];exact dg_lt _ _
  rw[ht]at h1 h2 ⊢
  have h3:=lt_bitLen t (by omega)
  generalize nd v - 1=m at *
  have h4:v<4294967296 ^ m*(t+1):=by rw[h1];exact Nat.lt_mul_div_succ _ (Dig.pow_pos m)
  rw[Nat.pow_add,← pow32]
  exact Nat.lt_of_lt_of_le h4 (Nat.mul_le_mul_left _ h3)
theorem bl_le {v:Nat} (hv:v≠0):0<bl v∧2 ^ (bl v - 1)≤v:=by
 unfold bl
 rw[if_neg hv]
 obtain⟨h1,h2⟩:=dg_top_eq hv
 obtain⟨t,ht⟩:∃ t,dg v (nd v - 1)=t:=⟨_,rfl⟩
 rw[ht]at h1 h2 ⊢
 have h3:=bitLen_ge t h2
 have h4:=bitLen_pos t h2
 generalize nd v - 1=m at *
 refine⟨by omega,?_⟩
 rw[show 32*m+Lib.bitLen t - 1=32*m+(Lib.bitLen t - 1)from by omega,Nat.pow_add,← pow32]
 refine Nat.le_trans (Nat.mul_le_mul_left _ h3) ?_
 rw[h1];exact Nat.mul_div_le _ _
theorem c_rBits (s:Bool) (p:Option Addr) (n c:Nat) (z:Int) (w:World) (h:Zr w s p n c z) (hn:n≤35184372088830):
  Calls Tryz.prog 180 #[.agg #[.bool s,.slice p n c]] w fun e w'=>e=.returned (.int .i64 (bl z.natAbs:Nat))∧Below w.heap.size w w':=by
 obtain⟨_,hk,hT⟩:=rtrim_letters h hn
 obtain⟨v,hv⟩:∃ v,z.natAbs=v:=⟨_,rfl⟩
 rw[hv]at hT hk ⊢
 obtain⟨r,hr⟩:∃ r,bl v=r:=⟨_,rfl⟩
 rw[hr]
 have HT:=Kh hT
 have HR:=Kh hr
 have HB0:=Kh ((Below.refl w.heap.size w).alloc (Nat.le_refl _) (.cells #[.bool s,.slice p n c] 65))
 clear h hT hr
 go_enter Tryz.func180,Tryz.ntmps180
 go_wp2_with fail
 refine(HT.out _ HB0.out).mono ?_
 rintro e w2 ⟨⟨p2,c2,rfl,hm⟩,hb2⟩
 obtain⟨k,hkk⟩:∃ k,nd v=k:=⟨_,rfl⟩
 rw[hkk]
 rw[hkk]at hk
 have HB2:=bt HB0 hb2
 by_cases hk0:k=0
 ·obtain rfl:v=0:=by have:=nd_pos (v:=v);omega
  subst hk0
  have HF:=Kh (show 0=r by rw[← HR.out];rfl)
  clear hm hb2 HT HB0 hkk
  go_wp2
  go_ret
  exact⟨ret_i (by rw[← HF.out];rfl),HB2.out⟩
 ·have hv0:v≠0:=nd_pos.1 (by omega)
  have hkb:((k:Int)==0)=false:=beq_eq_false_iff_ne.2 (by omega)
  unfold Nm at hm
  rw[hkk]at hm
  obtain⟨g,o,rfl,hg,hc⟩:=hm.head (by omega)
  have c1:=hc (k - 1) (by omega)
  have e1:((k:Int) - 1).toNat=k - 1:=by omega
  have hk1:(1:Int)≤(k:Int):=by omega
  obtain⟨t,ht⟩:∃ t,dg v (k - 1)=t:=⟨_,rfl⟩
  rw[ht]at c1
  have htl:t<4294967296:=by rw[← ht];exact dg_lt _ _
  have HF:=Kh (show 32*(k - 1)+Lib.bitLen t=r by rw[← HR.out];unfold bl;rw[if_neg hv0,hkk,ht])
  have HTL:=Kh htl
  clear hm hc ht hb2 HT HB0 hkk hv0 htl
  go_wp2
  go_loopw [4,5] (fun v4 v5 wr=>∃ j x:Nat,v4=.int .i64 (((32*(k - 1)+j:Nat)):Int)∧v5=.int .u32 x∧j+Lib.bitLen x=Lib.bitLen t∧x≤t∧wr=w2) (fun _ v5 _=>(intOf v5).toNat)
  case atStart=>exact⟨0,t,by first|rfl |(go_num;omega) |(congr 1;omega),rfl,by omega,Nat.le_refl _,rfl⟩
  case round=>
   obtain⟨j,x,rfl,rfl,hj,hxt,rfl⟩:=hrel
   have HJ:=Kh hj
   have HXT:=Kh hxt
   have hjl:j≤64:=by
    have h1:=Lib.bitLen_le t 32 (by omega) (by have:=HTL.out;omega)
    omega
   clear hj hxt
   by_cases hx0:x=0
   ·subst hx0
    have HG:=Kh (show 32*(k - 1)+j=r by
     rw[← HF.out]
     have h1:=HJ.out
     rw[show Lib.bitLen 0=0 from rfl]at h1
     omega)
    go_wp2
    go_ret
    exact⟨ret_i (by rw[← HG.out]),HB2.out⟩
   ·have hxp:0<x:=by omega
    have hst:(j+1)+Lib.bitLen (x / 2)=Lib.bitLen t:=by
     have h1:=Lib.bitLen_half x hx0 (by have:=HXT.out;have:=HTL.out;omega)
     have h2:=HJ.out
     omega
    obtain⟨x2,hx2⟩:∃ x2,x / 2=x2:=⟨_,rfl⟩
    rw[hx2]at hst
    have hxd:(x:Int) / 2=(x2:Nat):=by omega
    have hxt:Int.tdiv (x:Int) 2=(x2:Nat):=by rw[Int.tdiv_eq_ediv_of_nonneg (by omega)];exact hxd
    have hx2m:(x2:Int) % 4294967296=(x2:Nat):=by have h1:=HXT.out;have h2:=HTL.out;omega
    have HST:=Kh hst
    have HX2:=Kh (show x2<x by omega)
    clear hst hx2
    go_wp2
    go_roundw
    case rel=>exact⟨j+1,x2,by first|rfl|go_num |(congr 1;omega),rfl,HST.out,by have:=HXT.out;have:=HX2.out;omega,by first|rfl|trivial⟩
    case measure=>simp[intOf];exact HX2.out
theorem cells32_zero (q:Nat):(madeCells #[Value.int .u32 0] q).toList=cells32 (fun _=>0) q:=by
 rw[toList_madeCells_one]
 unfold cells32
 rw[List.map_const']
 simp
theorem acc_shift {r a:Nat→Nat} {q i s x last d l2:Nat} (h:vf r (q+i)+4294967296 ^ (q+i)*last=vf a i*2 ^ s*4294967296 ^ q) (hx:a i=x) (hd:x*2 ^ s+last=d+4294967296*l2):
  vf (upd r (q+i) d) (q+i+1)+4294967296 ^ (q+i+1)*l2=vf a (i+1)*2 ^ s*4294967296 ^ q:=by
 rw[vf,vf_upd_ge (Nat.le_refl _),show upd r (q+i) d (q+i)=d from by simp[upd],vf,hx,pow_succ']
 have h2:=congrArg (4294967296 ^ (q+i) * ·) hd
 simp only[Nat.mul_add]at h2
 have h3:4294967296 ^ (q+i)*(x*2 ^ s)=4294967296 ^ i*x*2 ^ s*4294967296 ^ q:=by
  rw[Nat.pow_add]
  generalize 4294967296 ^ q=Q
  generalize 4294967296 ^ i=I
  generalize 2 ^ s=S
  grind
 rw[Nat.add_mul,Nat.add_mul,← h3,← h]
 generalize 4294967296 ^ (q+i)=P at *
 grind
theorem c_rshifted (p:Option Addr) (c n:Nat) (a:Nat→Nat) (e:Nat) (w:World) (h:Dg w p c n a) (hn:n≤8796093022200) (he:e≤281474976710000):
  Calls Tryz.prog 181 #[.slice p n c,.int .i64 (e:Nat)] w fun e' w'=>RetN w' e' (vf a n*2 ^ e)∧Below w.heap.size w w':=by
 obtain⟨q,hq⟩:∃ q,e / 32=q:=⟨_,rfl⟩
 obtain⟨s,hs⟩:∃ s,e % 32=s:=⟨_,rfl⟩
 have hqd:Int.tdiv (e:Int) 32=(q:Nat):=by rw[Int.tdiv_eq_ediv_of_nonneg (by omega)];omega
 have hqd2:(e:Int) / 32=(q:Nat):=by omega
 have hst:Int.tmod (e:Int) 32=(s:Nat):=by rw[Int.tmod_eq_emod_of_nonneg (by omega)];omega
 have hst2:(e:Int) % 32=(s:Nat):=by omega
 have hs32:s<32:=by omega
 have hql:q≤8796093022200:=by omega
 have HE:=Kh (show vf a n*2 ^ s*4294967296 ^ q=vf a n*2 ^ e by
  rw[pow32,Nat.mul_assoc,← Nat.pow_add,show s+32*q=e from by omega])
 have hmk:∀ w,(Instr.makeSlice 63 (.int .i64 (q:Int)) (.int .i64 (q:Int))).run Tryz.prog w=.ok (.slice (some ⟨w.heap.size,0,none⟩) q q) (w.alloc (.cells (madeCells #[.int .u32 0] q) 149)):=make32 q (by omega)
 have hown:=World.ownsRow_lit (e:=149) (base:=w.heap.size) (size:=1) w (madeCells #[.int .u32 0] q) q (Nat.le_refl _) (by unfold maxLen;omega) (by rw[size_madeCells];omega)
 rw[cells32_zero]at hown
 have H1:=Kh h
 clear h hq hs
 obtain⟨wb,hwb⟩:∃ wb,w.alloc (.cells (madeCells #[.int .u32 0] q) 149)=wb:=⟨_,rfl⟩
 have hb0:Below w.heap.size w wb:=by rw[← hwb];exact(Below.refl _ _).alloc (Nat.le_refl _) _
 rw[hwb]at hown
 have HOW0:=Kh hown
 have HB0:=Kh hb0
 clear hown hb0
 go_enter Tryz.func181,Tryz.ntmps181
 go_wp2
 try rw[hwb]
 clear hwb hmk
 go_loopw [5,6,7] (fun v5 v6 v7 wr=>∃ i last:Nat,i≤n∧v6=.int .u64 last∧v7=.int .i64 i∧last<2 ^ s∧AccAt wr w.heap.size v5 (q+i) (fun r=>vf r (q+i)+4294967296 ^ (q+i)*last=vf a i*2 ^ s*4294967296 ^ q)∧Below w.heap.size w wr) (fun _ _ v7 _=>n - (intOf v7).toNat)
 case atStart=>exact⟨0,0,Nat.zero_le _,rfl,rfl,Nat.two_pow_pos s,⟨fun _=>0,HOW0.out,fun _ _=>Nat.zero_lt_succ _,by show vf (fun _=>0) (q+0)+4294967296 ^ (q+0)*0=vf a 0*2 ^ s*4294967296 ^ q;rw[vf_zero (fun _ _=>rfl),vf,Nat.zero_mul,Nat.zero_mul,Nat.mul_zero]⟩,HB0.out⟩
 case round=>
  obtain⟨i,last,hi,rfl,rfl,hlast,⟨r,hown,hlt,hvl⟩,hb⟩:=hrel
  have hl31:=two_pow_le hs32
  have hlasti:(last:Int)<2147483648:=by omega
  have HOW:=Kh hown
  have HLT:=Kh hlt
  have HVL:=Kh hvl
  have HB:=Kh hb
  have HLA:=Kh hlast
  clear hown hlt hvl hb hlast hl31
  by_cases hin:i<n
  ·obtain⟨g1,o1,rfl,hg1,hc1⟩:=H1.out.head (by omega)
   have c1:wr.cell? ⟨g1,o1+i,none⟩=some (.int .u32 (a i:Nat)):=(HB.out.cell (p:=⟨g1,o1+i,none⟩) hg1).trans (hc1 i (by omega))
   obtain⟨x,hx⟩:∃ x,a i=x:=⟨_,rfl⟩
   rw[hx]at c1
   have hxl:x<4294967296:=by have:=H1.out.lt i (by omega);omega
   have hxi:(x:Int)<4294967296:=by omega
   have hwr:=shl_wrap x s hs32 hxl
   have htop:=shl_top x s hxl
   have htl:x*2 ^ s≤4294967295*2147483648:=Nat.mul_le_mul (by omega) (two_pow_le hs32)
   obtain⟨X,hX⟩:∃ X,x*2 ^ s=X:=⟨_,rfl⟩
   rw[hX]at hwr htop htl
   obtain⟨d,hd⟩:∃ d,(X+last) % 4294967296=d:=⟨_,rfl⟩
   obtain⟨l2,hl2⟩:∃ l2,(X+last) / 4294967296=l2:=⟨_,rfl⟩
   have HX:=Kh hX
   have HXX:=Kh hx
   have HD:=Kh hd
   have HL2:=Kh hl2
   have HXI:=Kh (show(X:Int)≤9223372034707292160 by omega)
   have HWR:=Kh hwr
   obtain⟨Y,hY⟩:∃ Y,X+last=Y:=⟨_,rfl⟩
   rw[hY]at hd hl2
   have EX:=Kh (show IntKind.u64.wrap (IntKind.u64.wrap ((x:Int)*2 ^ s)+(last:Int))=(Y:Nat)by
    rw[hwr,IntKind.wrap_u64];omega)
   have EM:=Kh (show(Y:Int) % 4294967296=(d:Nat)by omega)
   have hYl:(Y:Int) / 4294967296=(l2:Nat):=by omega
   have HV2:=Kh (acc_shift (d:=d) (l2:=l2) HVL.out hx (by rw[hX];omega))
   have HLT2:=Kh (upd_lt HLT.out (show d<4294967296 by omega))
   have HL3:=Kh (show l2<2 ^ s by
    have h1:=HLA.out
    have h2:Y<2 ^ s*4294967296:=by
     have h3:x*2 ^ s+2 ^ s≤4294967296*2 ^ s:=by
      have:=Nat.mul_le_mul_right (2 ^ s) (show x+1≤4294967296 by omega)
      rw[Nat.add_mul,Nat.one_mul]at this
      exact this
     rw[hX]at h3
     omega
    rw[← hl2]
    exact(Nat.div_lt_iff_lt_mul (by decide)).2 h2)
   clear hX hx hd hl2 hc1 htop htl hxl hwr hY
   go_wp2_with (at_builtin;rw[EX.out,EM.out];refine wpl_app1 rfl (.tmp 29) (.tmp 32) _ 149 rfl u32U u32Row rfl (by decide) w.heap.size (q+i) _ (cells32 r (q+i)) [.int .u32 (d:Nat)] rfl HOW.out rfl rfl (one32 d) (by omega) (by omega) HB.out.size ?_;intro v' w' hown' hgr hat;have HO2:=Kh (own_push hown');have HB2:=Kh (own_below HB.out HOW.out hgr (Nat.le_refl _) HB.out.size);clear hown' hgr hat)
   go_roundw
   case rel=>exact⟨i+1,l2,by omega,rfl,by go_num,HL3.out,⟨_,HO2.out,HLT2.out,HV2.out⟩,HB2.out⟩
   case measure=>simp[intOf];omega
  ·obtain rfl:i=n:=by omega
   have hlm:(last:Int) % 4294967296=(last:Nat):=by omega
   have HF:=Kh (show vf (upd r (q+i) last) (q+i+1)=vf a i*2 ^ e by
    rw[vf,vf_upd_ge (Nat.le_refl _),show upd r (q+i) last (q+i)=last from by simp[upd],HVL.out,HE.out])
   have HLT2:=Kh (upd_lt HLT.out (show last<4294967296 by omega))
   go_wp2_with (at_builtin;refine wpl_app1 rfl (.tmp 36) (.tmp 39) _ 149 rfl u32U u32Row rfl (by decide) w.heap.size (q+i) _ (cells32 r (q+i)) [.int .u32 (last:Nat)] rfl HOW.out rfl rfl (one32 last) (by omega) (by omega) HB.out.size ?_;intro v' w' hown' hgr hat;obtain⟨p9,c9,rfl,hd9⟩:=Dg.of_own (own_push hown') HLT2.out;have HT:=c_rtrim p9 c9 _ _ w' hd9 (by omega);rw[HF.out]at HT;replace HT:=Kh HT;have HB2:=Kh (own_below HB.out HOW.out hgr (Nat.le_refl _) HB.out.size);clear hown' hgr hat hd9)
   refine HT.out.mono ?_
   rintro e2 w2 ⟨⟨p2,c2,rfl,hm⟩,hb2⟩
   obtain⟨k,hk⟩:∃ k,nd (vf a i*2 ^ e)=k:=⟨_,rfl⟩
   rw[hk]
   have HK:=Kh hk
   have HM:=Kh hm
   have HB3:=bt HB2 hb2
   clear hk hm hb2 HT
   go_wp2
   go_ret
   exact⟨⟨p2,c2,by rw[HK.out];rfl,HM.out⟩,HB3.out⟩
def RetDN (w':World) (e:Ending) (K q r:Nat):Prop:=∃ p k c a p' c',e=.returned (.tuple #[.slice p k c,.slice p' (nd r) c'])∧Dg w' p c k a∧vf a k=q∧k≤K∧Nm w' p' c' r
def BitAt (w:World) (gq M k u v R:Nat):Prop:=∃ rq,Row w gq M rq∧(∀ l,l<M→2 ^ (min 32 (k - 32*l))∣rq l)∧u=v*vf rq M+R∧R<v*2 ^ k
theorem bit_digit {x j:Nat} (h:2 ^ (j+1)∣x) (hx:x<4294967296) (hj:j<32):x+2 ^ j<4294967296∧2 ^ j∣x+2 ^ j:=by
 have e:(4294967296:Nat)=2 ^ (j+1)*2 ^ (31 - j):=by rw[← Nat.pow_add,show j+1+(31 - j)=32 from by omega]
 obtain⟨y,rfl⟩:=h
 have h1:y<2 ^ (31 - j):=by
  rw[e]at hx
  exact Nat.lt_of_mul_lt_mul_left hx
 have h2:=Nat.mul_le_mul_left (2 ^ (j+1)) (show y+1≤2 ^ (31 - j)from h1)
 rw[← e,Nat.mul_add,Nat.mul_one,Nat.pow_succ]at h2
 have h3:=Nat.two_pow_pos j
 refine⟨by rw[Nat.pow_succ];omega,Nat.dvd_add ?_ (Nat.dvd_refl _)⟩
 rw[Nat.pow_succ,Nat.mul_assoc]
 exact Nat.dvd_mul_right _ _
theorem bit_at {w:World} {gq M j u v R:Nat} (h:BitAt w gq M (j+1) u v R) (hj:j / 32<M):∃ x,w.cell? ⟨gq,j / 32,none⟩=some (.int .u32 (x:Nat))∧w.frozen? ⟨gq,j / 32,none⟩=false∧x+2 ^ (j % 32)<4294967296 ∧
  (v*2 ^ j≤R→BitAt (w.setCell ⟨gq,j / 32,none⟩ (.int .u32 ((x+2 ^ (j % 32):Nat):Int))) gq M j u v (R - v*2 ^ j))∧(R<v*2 ^ j→BitAt w gq M j u v R):=by
 obtain⟨rq,hrow,hd,hu,hR⟩:=h
 have h0:=hd (j / 32) hj
 rw[show min 32 (j+1 - 32*(j / 32))=j % 32+1 from by omega]at h0
 obtain⟨h1,h2⟩:=bit_digit h0 (hrow.2 _ hj) (by omega)
 have hlow:∀ l,l<M→2 ^ (min 32 (j - 32*l))∣rq l:=fun l hl=>Nat.dvd_trans (Nat.pow_dvd_pow 2 (by omega)) (hd l hl)
 refine⟨rq (j / 32),hrow.1.cell hj,hrow.1.frozen _,h1,fun hle=>?_,fun hlt=>⟨rq,hrow,hlow,hu,hlt⟩⟩
 refine⟨_,hrow.set (j / 32) _ h1,fun l hl=>?_,?_,?_⟩
 ·unfold upd
  split
  ·rename_i h3
   subst h3
   rw[show min 32 (j - 32*(j / 32))=j % 32 from by omega];exact h2
  ·exact hlow l hl
 ·have h3:=vf_upd (a:=rq) (k:=j / 32) (d:=rq (j / 32)+2 ^ (j % 32)) hj
  have h4:4294967296 ^ (j / 32)*2 ^ (j % 32)=2 ^ j:=by rw[pow32,← Nat.pow_add,show 32*(j / 32)+j % 32=j from by omega]
  rw[Nat.mul_add,h4]at h3
  have h5:vf (upd rq (j / 32) (rq (j / 32)+2 ^ (j % 32))) M=vf rq M+2 ^ j:=by omega
  rw[h5,Nat.mul_add]
  omega
 ·rw[Nat.pow_succ,← Nat.mul_assoc]at hR
  omega
theorem bit_start {w:World} {gq M s u v:Nat} (hrow:Row w gq M (fun _=>0)) (h:u<v*2 ^ (s+1)):BitAt w gq M (s+1) u v u:=
 ⟨_,hrow,fun _ _=>Nat.dvd_zero _,by rw[vf_zero (fun _ _=>rfl)];simp,h⟩
theorem bit_end {w:World} {gq M u v R:Nat} (h:BitAt w gq M 0 u v R):∃ rq,Row w gq M rq∧vf rq M=u / v∧R=u % v:=by
 obtain⟨rq,hrow,_,hu,hR⟩:=h
 rw[Nat.pow_zero,Nat.mul_one]at hR
 refine⟨rq,hrow,?_,?_⟩
 ·rw[hu,Nat.mul_add_div (by omega),Nat.div_eq_of_lt hR];simp
 ·rw[hu,Nat.mul_add_mod,Nat.mod_eq_of_lt hR]
theorem BitAt.far {w w':World} {gq M k u v R:Nat} (h:BitAt w gq M k u v R) (hb:Below w.heap.size w w'):BitAt w' gq M k u v R:=by
 obtain⟨rq,hrow,h2⟩:=h
 exact⟨rq,hrow.below hb hrow.1.lt,h2⟩
theorem bl_mono_lt {u v:Nat} (hv:v≠0) (h:bl v≤bl u):u<v*2 ^ (bl u - bl v+1):=by
 obtain⟨h1,h2⟩:=bl_le hv
 have h3:=lt_bl u
 refine Nat.lt_of_lt_of_le h3 ?_
 rw[show bl u=(bl v - 1)+(bl u - bl v+1)from by omega,Nat.pow_add]
 refine Nat.le_trans (Nat.mul_le_mul_right _ h2) ?_
 rw[show bl v - 1+(bl u - bl v+1) - bl v+1=bl u - bl v+1 from by omega]
 exact Nat.le_refl _
theorem bl_lt {u v:Nat} (h:bl u<bl v):u<v:=by
 by_cases hv:v=0
 ·subst hv;simp[bl]at h
 ·obtain⟨h1,h2⟩:=bl_le hv
  refine Nat.lt_of_lt_of_le (lt_bl u) (Nat.le_trans (Nat.pow_le_pow_right (by decide) ?_) h2)
  omega
theorem bl_size (v:Nat):bl v≤32*nd v:=by
 unfold bl
 split
 ·omega
 ·rename_i hv
  have h1:=nd_pos.2 hv
  have h2:=Lib.bitLen_le (dg v (nd v - 1)) 32 (by omega) (dg_lt _ _)
  omega
theorem c_rdiv_word (p:Option Addr) (c u:Nat) (q:Option Addr) (d v:Nat) (w:World) (h1:Nm w p c u) (h2:Nm w q d v) (hu:nd u≤2) (hv:nd v≤2) (hv0:0<v):
  Calls Tryz.prog 174 #[.slice p (nd u) c,.slice q (nd v) d] w fun e w'=>RetDN w' e (nd u+1) (u / v) (u % v)∧Below w.heap.size w w':=by
 obtain⟨Q,hQ⟩:∃ Q,u / v=Q:=⟨_,rfl⟩
 obtain⟨R,hR⟩:∃ R,u % v=R:=⟨_,rfl⟩
 have hul:=nd_le_two hu
 have hvl:=nd_le_two hv
 have hQu:Q≤u:=by rw[← hQ];exact Nat.div_le_self _ _
 have hRv:R<v:=by rw[← hR];exact Nat.mod_lt _ hv0
 have hW1:=fun w1 (hb:Below w.heap.size w w1)=>c_rword p c (nd u) (dg u) w1 (Dg.keep h1 hb) hu
 have hW2:=fun w1 (hb:Below w.heap.size w w1)=>c_rword q d (nd v) (dg v) w1 (Dg.keep h2 hb) hv
 simp only[vf_nd]at hW1 hW2
 have hS1:=fun w1=>c_rsplit Q w1 (by omega)
 have hS2:=fun w1=>c_rsplit R w1 (by omega)
 have HQK:=Kh (show nd Q≤nd u+1 from Nat.le_trans (nd_mono hQu) (by omega))
 have hqt:Int.tdiv (u:Int) (v:Int)=(Q:Nat):=by rw[Int.tdiv_eq_ediv_of_nonneg (by omega),← hQ];exact(Int.natCast_ediv _ _).symm
 have hrt:Int.tmod (u:Int) (v:Int)=(R:Nat):=by rw[Int.tmod_eq_emod_of_nonneg (by omega),← hR];exact(Int.natCast_emod _ _).symm
 have hqt2:(u:Int) / (v:Int)=(Q:Nat):=by rw[← hQ];exact(Int.natCast_ediv _ _).symm
 have hrt2:(u:Int) % (v:Int)=(R:Nat):=by rw[← hR];exact(Int.natCast_emod _ _).symm
 have hqw:IntKind.u64.wrap (Q:Int)=Q:=by rw[IntKind.wrap_u64];omega
 have hv1:(v:Int)≠0:=by omega
 have hv2:v≠0:=by omega
 have hvb:((v:Int)==0)=false:=beq_eq_false_iff_ne.2 (by omega)
 obtain⟨n,hn⟩:∃ n,nd u=n:=⟨_,rfl⟩
 obtain⟨m,hm⟩:∃ m,nd v=m:=⟨_,rfl⟩
 rw[hn]at hW1 HQK hu
 rw[hm]at hW2 hv
 rw[hQ,hR,hn,hm]
 have HW1:=Kh hW1
 have HW2:=Kh hW2
 have HS1:=Kh hS1
 have HS2:=Kh hS2
 have hui:(n:Int)≤2:=by omega
 have hvi:(m:Int)≤2:=by omega
 clear hW1 hW2 hS1 hS2 h1 h2 hul hvl hQu hRv hn hm hQ hR
 go_enter Tryz.func174,Tryz.ntmps174
 go_wp2_with fail
 refine(HW1.out _ (Below.refl _ _)).mono ?_
 rintro e w1 ⟨rfl,rfl⟩
 go_wp2_with fail
 refine(HW2.out _ (Below.refl _ _)).mono ?_
 rintro e w1 ⟨rfl,rfl⟩
 go_wp2_with fail
 refine(HS1.out _).mono ?_
 rintro e w2 ⟨⟨p2,c2,rfl,hm2⟩,hb2⟩
 obtain⟨k2,hk2⟩:∃ k,nd Q=k:=⟨_,rfl⟩
 rw[hk2]
 rw[hk2]at HQK
 have HK2:=Kh hk2
 have HM2:=Kh hm2
 have HB2:=Kh hb2
 clear hk2 hm2 hb2
 go_wp2_with fail
 refine(HW1.out _ HB2.out).mono ?_
 rintro e w3 ⟨rfl,rfl⟩
 go_wp2_with fail
 refine(HW2.out _ HB2.out).mono ?_
 rintro e w3 ⟨rfl,rfl⟩
 go_wp2_with fail
 refine(HS2.out _).mono ?_
 rintro e w4 ⟨⟨p4,c4,rfl,hm4⟩,hb4⟩
 obtain⟨k4,hk4⟩:∃ k,nd R=k:=⟨_,rfl⟩
 rw[hk4]
 have HF:=Kh (show RetDN w4 (.returned (.tuple #[.slice p2 k2 c2,.slice p4 k4 c4])) (n+1) Q R from by
  have h3:=HM2.out.keep hb4
  unfold Nm at h3
  rw[HK2.out]at h3
  exact⟨p2,k2,c2,dg Q,p4,c4,by rw[hk4],h3,by rw[← HK2.out,vf_nd],HQK.out,hm4⟩)
 have HB4:=bt HB2 hb4
 clear hm4 hb4 hk4
 go_wp2
 go_ret2
 exact⟨HF.out,HB4.out⟩
end Go.Proofs.YtijgdhijdfgpfaaGreatDoor
