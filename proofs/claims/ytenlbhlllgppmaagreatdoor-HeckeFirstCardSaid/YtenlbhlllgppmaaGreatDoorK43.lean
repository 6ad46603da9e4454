/- The law HeckeFirst, walked: it returns true. -/
import Derived.Test.YtenlbhlllgppmaaGreatDoorK42
set_option linter.unusedSimpArgs false
set_option maxRecDepth 100000
set_option maxHeartbeats 8000000
namespace Go.Proofs.YtenlbhlllgppmaaGreatDoor
open Go.RowKit Eli
theorem uF_size (n i k:Nat):hq (uF n i k)≤35184372088830:=by
 unfold uF
 split <;>(rw[hq_int];decide +kernel)
theorem c_lawHf (N k D q:Int) (w:World) (hT:Tab w):
  Calls Tryz.prog 3 #[.agg #[.int .i64 N,.int .i64 k,.int .i64 D],.int .i64 q] w fun e w'=>e=.returned (.bool true)∧Below w.heap.size w w':=by
 obtain⟨lb,hla,hnw⟩:=new_std N k D w hT
 have HLA:=Kh hla
 have HNW:=Kh hnw
 have HT:=Kh hT
 clear hT hla hnw
 go_enter Tryz.func3,Tryz.ntmps3
 go_wp2_with fail
 obtain⟨w0,hw0,XS,hb0⟩:=bx1 w #[.int .i64 N,.int .i64 k,.int .i64 D] 23
 rw[hw0]
 refine(c_awake45 w0 (HT.out.below hb0)).mono ?_
 rintro e wk ⟨rfl,hb1⟩
 have HXS1:=Kh (XS.below_ hb1 XS.lt)
 have HB1:=Kh (hb0.trans (hb1.mono hb0.size))
 clear hw0 XS hb0 hb1
 have s0:=HXS1.out.at_ 0 rfl
 have s1:=HXS1.out.at_ 1 rfl
 have s2:=HXS1.out.at_ 2 rfl
 go_wp2_with fail
 refine(HLA.out wk).mono ?_
 rintro e w2 ⟨rfl,hb2⟩
 have HXS2:=Kh (bk HXS1 hb2)
 have HB2:=bt HB1 hb2
 clear s0 s1 s2 hb2 HXS1 HB1
 cases lb with
 | true=>
  go_wp2
  go_ret
  exact⟨rfl,HB2.out⟩
 | false=>
  by_cases hq:1≤q∧q≤128
  ·obtain⟨h1,h2⟩:=hq
   go_wp2
   go_ret
   exact⟨rfl,HB2.out⟩
  ·have HQB:=Kh (show q<1∨128<q by omega)
   have hcase:¬ 1≤q∨(1≤q∧¬ q≤128):=by omega
   clear hq
   have s0:=HXS2.out.at_ 0 rfl
   have s1:=HXS2.out.at_ 1 rfl
   have s2:=HXS2.out.at_ 2 rfl
   rcases hcase with h1 |⟨h1,h2⟩
   ·go_wp2_with fail
    refine(HNW.out trivial w2 HB2.out).mono ?_
    rintro e w4 ⟨hret,hb4⟩
    have HB_w4:=bt HB2 hb4
    clear s0 s1 s2 hb4 HXS2 HB2
    rcases hret with⟨er,her,rfl⟩ |⟨n,wt,M,F,C,X,rfl,hkk,rfl,hmod,hcrd,hC⟩
    ·have hne:(er != 0)=true:=by rw[bne_iff_ne];exact her
     go_wp2
     go_ret
     exact⟨rfl,HB_w4.out⟩
    have HM_w4:=Kh hmod
    have HFL:=Kh hmod.len
    have hn0:0<n:=by obtain⟨⟨q1,q2⟩,_⟩:=Pl.check_ok hmod.check;omega
    have HO1:=Kh (fun W (hb:Below w.heap.size w W) (hm:ModR W M n wt D F C X)=>show Calls Tryz.prog 12 #[.pointer (some ⟨M,0,none⟩),.int .i64 1] W fun e w'=>OpRet F.length (uF F.length) w' e∧Below W.heap.size W w' from by
     have h:=c_Operator 1 [(1,0,0,1)] W (HT.out.below hb) hm (fun f hf=>by have:=hcrd.low f hf;have:=hm.cnt;omega) hC (by omega) (by omega) mr_1 (by decide) (by decide) (fun t ht=>by
      obtain rfl:t=0:=by have h4:t<1:=ht;omega
      unfold GIn;decide)
     refine Calls.mono h ?_
     rintro e w' ⟨⟨p,c,he,hqq⟩,hb2⟩
     refine⟨⟨p,c,he,QL.eqv hqq (fun j hj=>?_)⟩,hb2⟩
     have hFp:0<F.length:=by
      rcases Nat.eq_zero_or_pos F.length with h0|h0
      ·rw[h0]at hj;exact absurd hj (Nat.not_lt_zero _)
      ·exact h0
     have h5:=hkM_one (X:=X) hn0 hcrd (i:=j / F.length) (k:=j % F.length) (Nat.div_lt_of_lt_mul hj) (Nat.mod_lt _ hFp)
     rw[hm.cnt]at h5
     exact h5)
    clear hmod hcrd hC hn0 hkk
    go_wp2_with fail
    refine(HO1.out w4 HB_w4.out HM_w4.out).mono ?_
    rintro e w5 ⟨⟨pt,ct,rfl,hqt⟩,hb5⟩
    have HB_w5:=bt HB_w4 hb5
    have HM_w5:=Kh (HM_w4.out.keep hb5)
    clear HB_w4 HM_w4 hb5
    have HQT_w5:=Kh (show QL (fun j=>IsQ (uF F.length (j / F.length) (j % F.length))) w5 (.slice pt (F.length*F.length) ct) (F.length*F.length)from hqt)
    clear hqt
    go_wp2_with fail
    obtain⟨w6,hw6⟩:∃ x,w5.alloc (.cells #[.int .i64 F.length,.int .i64 F.length,.slice pt (F.length*F.length) ct] 32)=x:=⟨_,rfl⟩
    obtain⟨Xw6,hbw6⟩:=box1 w5 #[.int .i64 F.length,.int .i64 F.length,.slice pt (F.length*F.length) ct] 32
    rw[hw6]at Xw6 hbw6 ⊢
    obtain⟨g7,hgw6⟩:∃ x,w5.heap.size=x:=⟨_,rfl⟩
    rw[hgw6]at Xw6 ⊢
    have HXg7_w6:=Kh Xw6
    clear hw6 Xw6 hgw6
    have HB_w6:=bt HB_w5 hbw6
    have HM_w6:=Kh (HM_w5.out.keep hbw6)
    have HQT_w6:=Kh (HQT_w5.out.keep (fun _=>IsQ.solid _) hbw6)
    clear HB_w5 HM_w5 HQT_w5 hbw6
    refine(c_Dim M w6.heap.size n ((wt:Int)+2) D F C X w6 HM_w6.out.mod).mono ?_
    rintro e w' ⟨rfl,hw'⟩
    obtain rfl:w6=w':=hw'.symm
    clear hw'
    go_wp2_with fail
    refine(c_IdentityA F.length w6 (by have:=HFL.out;omega)).mono ?_
    rintro e w7 ⟨⟨po,co,rfl,hqo⟩,hb7⟩
    have HXg7_w7:=Kh (bk HXg7_w6 hb7)
    have HB_w7:=bt HB_w6 hb7
    have HM_w7:=Kh (HM_w6.out.keep hb7)
    have HQT_w7:=Kh (HQT_w6.out.keep (fun _=>IsQ.solid _) hb7)
    clear HXg7_w6 HB_w6 HM_w6 HQT_w6 hb7
    have HQO_w7:=Kh (show QL (fun j=>IsQ (uF F.length (j / F.length) (j % F.length))) w7 (.slice po (F.length*F.length) co) (F.length*F.length)from hqo)
    clear hqo
    go_wp2_with fail
    obtain⟨w8,hw8⟩:∃ x,w7.alloc (.cells #[.int .i64 F.length,.int .i64 F.length,.slice po (F.length*F.length) co] 32)=x:=⟨_,rfl⟩
    obtain⟨Xw8,hbw8⟩:=box1 w7 #[.int .i64 F.length,.int .i64 F.length,.slice po (F.length*F.length) co] 32
    rw[hw8]at Xw8 hbw8 ⊢
    obtain⟨g9,hgw8⟩:∃ x,w7.heap.size=x:=⟨_,rfl⟩
    rw[hgw8]at Xw8 ⊢
    have HXg9_w8:=Kh Xw8
    clear hw8 Xw8 hgw8
    have HXg7_w8:=Kh (bk HXg7_w7 hbw8)
    have HB_w8:=bt HB_w7 hbw8
    have HM_w8:=Kh (HM_w7.out.keep hbw8)
    have HQT_w8:=Kh (HQT_w7.out.keep (fun _=>IsQ.solid _) hbw8)
    have HQO_w8:=Kh (HQO_w7.out.keep (fun _=>IsQ.solid _) hbw8)
    clear HXg7_w7 HB_w7 HM_w7 HQT_w7 HQO_w7 hbw8
    refine(c_Operator_bad M q w8 HQB.out).mono ?_
    rintro e w9 ⟨rfl,hb9⟩
    have HXg7_w9:=Kh (bk HXg7_w8 hb9)
    have HXg9_w9:=Kh (bk HXg9_w8 hb9)
    have HB_w9:=bt HB_w8 hb9
    have HM_w9:=Kh (HM_w8.out.keep hb9)
    have HQT_w9:=Kh (HQT_w8.out.keep (fun _=>IsQ.solid _) hb9)
    have HQO_w9:=Kh (HQO_w8.out.keep (fun _=>IsQ.solid _) hb9)
    clear HXg7_w8 HXg9_w8 HB_w8 HM_w8 HQT_w8 HQO_w8 hb9
    go_wp2_with fail
    obtain⟨w10,hw10⟩:∃ x,w9.alloc (.cells #[.int .i64 0,.int .i64 0,.slice none 0 0] 32)=x:=⟨_,rfl⟩
    obtain⟨Xw10,hbw10⟩:=box1 w9 #[.int .i64 0,.int .i64 0,.slice none 0 0] 32
    rw[hw10]at Xw10 hbw10 ⊢
    obtain⟨g11,hgw10⟩:∃ x,w9.heap.size=x:=⟨_,rfl⟩
    rw[hgw10]at Xw10 ⊢
    have HXg11_w10:=Kh Xw10
    clear hw10 Xw10 hgw10
    have HXg7_w10:=Kh (bk HXg7_w9 hbw10)
    have HXg9_w10:=Kh (bk HXg9_w9 hbw10)
    have HB_w10:=bt HB_w9 hbw10
    have HM_w10:=Kh (HM_w9.out.keep hbw10)
    have HQT_w10:=Kh (HQT_w9.out.keep (fun _=>IsQ.solid _) hbw10)
    have HQO_w10:=Kh (HQO_w9.out.keep (fun _=>IsQ.solid _) hbw10)
    clear HXg7_w9 HXg9_w9 HB_w9 HM_w9 HQT_w9 HQO_w9 hbw10
    refine(c_On_err (.pointer (some ⟨M,0,none⟩)) q 2 w10 (by decide) (fun W=>c_Operator_bad M q W HQB.out)).mono ?_
    rintro e w11 ⟨rfl,hb11⟩
    have HXg7_w11:=Kh (bk HXg7_w10 hb11)
    have HXg9_w11:=Kh (bk HXg9_w10 hb11)
    have HXg11_w11:=Kh (bk HXg11_w10 hb11)
    have HB_w11:=bt HB_w10 hb11
    have HM_w11:=Kh (HM_w10.out.keep hb11)
    have HQT_w11:=Kh (HQT_w10.out.keep (fun _=>IsQ.solid _) hb11)
    have HQO_w11:=Kh (HQO_w10.out.keep (fun _=>IsQ.solid _) hb11)
    clear HXg7_w10 HXg9_w10 HXg11_w10 HB_w10 HM_w10 HQT_w10 HQO_w10 hb11
    go_wp2_with fail
    obtain⟨w12,hw12⟩:∃ x,w11.alloc (.cells #[.int .i64 0,.int .i64 0,.slice none 0 0] 32)=x:=⟨_,rfl⟩
    obtain⟨Xw12,hbw12⟩:=box1 w11 #[.int .i64 0,.int .i64 0,.slice none 0 0] 32
    rw[hw12]at Xw12 hbw12 ⊢
    obtain⟨g13,hgw12⟩:∃ x,w11.heap.size=x:=⟨_,rfl⟩
    rw[hgw12]at Xw12 ⊢
    have HXg13_w12:=Kh Xw12
    clear hw12 Xw12 hgw12
    have HXg7_w12:=Kh (bk HXg7_w11 hbw12)
    have HXg9_w12:=Kh (bk HXg9_w11 hbw12)
    have HXg11_w12:=Kh (bk HXg11_w11 hbw12)
    have HB_w12:=bt HB_w11 hbw12
    have HM_w12:=Kh (HM_w11.out.keep hbw12)
    have HQT_w12:=Kh (HQT_w11.out.keep (fun _=>IsQ.solid _) hbw12)
    have HQO_w12:=Kh (HQO_w11.out.keep (fun _=>IsQ.solid _) hbw12)
    clear HXg7_w11 HXg9_w11 HXg11_w11 HB_w11 HM_w11 HQT_w11 HQO_w11 hbw12
    refine(c_Operator_nil 1 w12).mono ?_
    rintro e w13 ⟨rfl,hb13⟩
    have HXg7_w13:=Kh (bk HXg7_w12 hb13)
    have HXg9_w13:=Kh (bk HXg9_w12 hb13)
    have HXg11_w13:=Kh (bk HXg11_w12 hb13)
    have HXg13_w13:=Kh (bk HXg13_w12 hb13)
    have HB_w13:=bt HB_w12 hb13
    have HM_w13:=Kh (HM_w12.out.keep hb13)
    have HQT_w13:=Kh (HQT_w12.out.keep (fun _=>IsQ.solid _) hb13)
    have HQO_w13:=Kh (HQO_w12.out.keep (fun _=>IsQ.solid _) hb13)
    clear HXg7_w12 HXg9_w12 HXg11_w12 HXg13_w12 HB_w12 HM_w12 HQT_w12 HQO_w12 hb13
    go_wp2_with fail
    obtain⟨w14,hw14⟩:∃ x,w13.alloc (.cells #[.int .i64 0,.int .i64 0,.slice none 0 0] 32)=x:=⟨_,rfl⟩
    obtain⟨Xw14,hbw14⟩:=box1 w13 #[.int .i64 0,.int .i64 0,.slice none 0 0] 32
    rw[hw14]at Xw14 hbw14 ⊢
    obtain⟨g15,hgw14⟩:∃ x,w13.heap.size=x:=⟨_,rfl⟩
    rw[hgw14]at Xw14 ⊢
    have HXg15_w14:=Kh Xw14
    clear hw14 Xw14 hgw14
    have HXg7_w14:=Kh (bk HXg7_w13 hbw14)
    have HXg9_w14:=Kh (bk HXg9_w13 hbw14)
    have HXg11_w14:=Kh (bk HXg11_w13 hbw14)
    have HXg13_w14:=Kh (bk HXg13_w13 hbw14)
    have HB_w14:=bt HB_w13 hbw14
    have HM_w14:=Kh (HM_w13.out.keep hbw14)
    have HQT_w14:=Kh (HQT_w13.out.keep (fun _=>IsQ.solid _) hbw14)
    have HQO_w14:=Kh (HQO_w13.out.keep (fun _=>IsQ.solid _) hbw14)
    clear HXg7_w13 HXg9_w13 HXg11_w13 HXg13_w13 HB_w13 HM_w13 HQT_w13 HQO_w13 hbw14
    refine(c_By_nil w14).mono ?_
    rintro e w15 ⟨rfl,hb15⟩
    have HXg7_w15:=Kh (bk HXg7_w14 hb15)
    have HXg9_w15:=Kh (bk HXg9_w14 hb15)
    have HXg11_w15:=Kh (bk HXg11_w14 hb15)
    have HXg13_w15:=Kh (bk HXg13_w14 hb15)
    have HXg15_w15:=Kh (bk HXg15_w14 hb15)
    have HB_w15:=bt HB_w14 hb15
    have HM_w15:=Kh (HM_w14.out.keep hb15)
    have HQT_w15:=Kh (HQT_w14.out.keep (fun _=>IsQ.solid _) hb15)
    have HQO_w15:=Kh (HQO_w14.out.keep (fun _=>IsQ.solid _) hb15)
    clear HXg7_w14 HXg9_w14 HXg11_w14 HXg13_w14 HXg15_w14 HB_w14 HM_w14 HQT_w14 HQO_w14 hb15
    go_wp2_with fail
    obtain⟨w16,hw16⟩:∃ x,w15.alloc (.cells #[.int .i64 0,.int .i64 0,.slice none 0 0] 32)=x:=⟨_,rfl⟩
    obtain⟨Xw16,hbw16⟩:=box1 w15 #[.int .i64 0,.int .i64 0,.slice none 0 0] 32
    rw[hw16]at Xw16 hbw16 ⊢
    obtain⟨g17,hgw16⟩:∃ x,w15.heap.size=x:=⟨_,rfl⟩
    rw[hgw16]at Xw16 ⊢
    have HXg17_w16:=Kh Xw16
    clear hw16 Xw16 hgw16
    have HXg7_w16:=Kh (bk HXg7_w15 hbw16)
    have HXg9_w16:=Kh (bk HXg9_w15 hbw16)
    have HXg11_w16:=Kh (bk HXg11_w15 hbw16)
    have HXg13_w16:=Kh (bk HXg13_w15 hbw16)
    have HXg15_w16:=Kh (bk HXg15_w15 hbw16)
    have HB_w16:=bt HB_w15 hbw16
    have HM_w16:=Kh (HM_w15.out.keep hbw16)
    have HQT_w16:=Kh (HQT_w15.out.keep (fun _=>IsQ.solid _) hbw16)
    have HQO_w16:=Kh (HQO_w15.out.keep (fun _=>IsQ.solid _) hbw16)
    clear HXg7_w15 HXg9_w15 HXg11_w15 HXg13_w15 HXg15_w15 HB_w15 HM_w15 HQT_w15 HQO_w15 hbw16
    refine(c_On_err (.pointer none) 1 1 w16 (by decide) (fun W=>c_Operator_nil 1 W)).mono ?_
    rintro e w17 ⟨rfl,hb17⟩
    have HXg7_w17:=Kh (bk HXg7_w16 hb17)
    have HXg9_w17:=Kh (bk HXg9_w16 hb17)
    have HXg11_w17:=Kh (bk HXg11_w16 hb17)
    have HXg13_w17:=Kh (bk HXg13_w16 hb17)
    have HXg15_w17:=Kh (bk HXg15_w16 hb17)
    have HXg17_w17:=Kh (bk HXg17_w16 hb17)
    have HB_w17:=bt HB_w16 hb17
    have HM_w17:=Kh (HM_w16.out.keep hb17)
    have HQT_w17:=Kh (HQT_w16.out.keep (fun _=>IsQ.solid _) hb17)
    have HQO_w17:=Kh (HQO_w16.out.keep (fun _=>IsQ.solid _) hb17)
    clear HXg7_w16 HXg9_w16 HXg11_w16 HXg13_w16 HXg15_w16 HXg17_w16 HB_w16 HM_w16 HQT_w16 HQO_w16 hb17
    go_upto_region 16 with(fail)
    obtain⟨w18,hw18⟩:∃ x,w17.alloc (.cells #[.int .i64 0,.int .i64 0,.slice none 0 0] 32)=x:=⟨_,rfl⟩
    obtain⟨Xw18,hbw18⟩:=box1 w17 #[.int .i64 0,.int .i64 0,.slice none 0 0] 32
    rw[hw18]at Xw18 hbw18 ⊢
    obtain⟨g19,hgw18⟩:∃ x,w17.heap.size=x:=⟨_,rfl⟩
    have hs_g19:w18.heap.size=g19+1:=by rw[← hw18,← hgw18];simp
    rw[hgw18]at Xw18 ⊢
    have HXg19_w18:=Kh Xw18
    clear hw18 Xw18 hgw18
    have HXg7_w18:=Kh (bk HXg7_w17 hbw18)
    have HXg9_w18:=Kh (bk HXg9_w17 hbw18)
    have HXg11_w18:=Kh (bk HXg11_w17 hbw18)
    have HXg13_w18:=Kh (bk HXg13_w17 hbw18)
    have HXg15_w18:=Kh (bk HXg15_w17 hbw18)
    have HXg17_w18:=Kh (bk HXg17_w17 hbw18)
    have HB_w18:=bt HB_w17 hbw18
    have HM_w18:=Kh (HM_w17.out.keep hbw18)
    have HQT_w18:=Kh (HQT_w17.out.keep (fun _=>IsQ.solid _) hbw18)
    have HQO_w18:=Kh (HQO_w17.out.keep (fun _=>IsQ.solid _) hbw18)
    clear HXg7_w17 HXg9_w17 HXg11_w17 HXg13_w17 HXg15_w17 HXg17_w17 HB_w17 HM_w17 HQT_w17 HQO_w17 hbw18
    obtain⟨w19,hw19⟩:∃ x,w18.alloc (.cells #[.int .i64 0,.int .i64 0,.slice none 0 0] 32)=x:=⟨_,rfl⟩
    obtain⟨Xw19,hbw19⟩:=box1 w18 #[.int .i64 0,.int .i64 0,.slice none 0 0] 32
    rw[hw19]at Xw19 hbw19 ⊢
    obtain⟨g21,hgw19⟩:∃ x,g19+1=x:=⟨_,rfl⟩
    rw[hs_g19,hgw19]at Xw19
    rw[hgw19]
    clear hs_g19
    have HXg21_w19:=Kh Xw19
    clear hw19 Xw19 hgw19
    have HXg7_w19:=Kh (bk HXg7_w18 hbw19)
    have HXg9_w19:=Kh (bk HXg9_w18 hbw19)
    have HXg11_w19:=Kh (bk HXg11_w18 hbw19)
    have HXg13_w19:=Kh (bk HXg13_w18 hbw19)
    have HXg15_w19:=Kh (bk HXg15_w18 hbw19)
    have HXg17_w19:=Kh (bk HXg17_w18 hbw19)
    have HXg19_w19:=Kh (bk HXg19_w18 hbw19)
    have HB_w19:=bt HB_w18 hbw19
    have HM_w19:=Kh (HM_w18.out.keep hbw19)
    have HQT_w19:=Kh (HQT_w18.out.keep (fun _=>IsQ.solid _) hbw19)
    have HQO_w19:=Kh (HQO_w18.out.keep (fun _=>IsQ.solid _) hbw19)
    clear HXg7_w18 HXg9_w18 HXg11_w18 HXg13_w18 HXg15_w18 HXg17_w18 HXg19_w18 HB_w18 HM_w18 HQT_w18 HQO_w18 hbw19
    have g7_0:=HXg7_w19.out.at_ 0 rfl
    have g7_1:=HXg7_w19.out.at_ 1 rfl
    have g7_2:=HXg7_w19.out.at_ 2 rfl
    have g9_0:=HXg9_w19.out.at_ 0 rfl
    have g9_1:=HXg9_w19.out.at_ 1 rfl
    have g9_2:=HXg9_w19.out.at_ 2 rfl
    go_wp2_with fail
    refine(c_SameMx F.length F.length (.slice pt (F.length*F.length) ct) (.slice po (F.length*F.length) co) (F.length*F.length) (fun j=>uF F.length (j / F.length) (j % F.length)) w19 HQT_w19.out HQO_w19.out (by have h1:=HFL.out;have h2:F.length*F.length≤72*72:=Nat.mul_le_mul h1 h1;omega) (fun j _=>uF_size _ _ _)).mono ?_
    rintro e w20 ⟨rfl,hb20⟩
    clear g7_0 g7_1 g7_2 g9_0 g9_1 g9_2
    have HXg7_w20:=Kh (bk HXg7_w19 hb20)
    have HXg9_w20:=Kh (bk HXg9_w19 hb20)
    have HXg11_w20:=Kh (bk HXg11_w19 hb20)
    have HXg13_w20:=Kh (bk HXg13_w19 hb20)
    have HXg15_w20:=Kh (bk HXg15_w19 hb20)
    have HXg17_w20:=Kh (bk HXg17_w19 hb20)
    have HXg19_w20:=Kh (bk HXg19_w19 hb20)
    have HXg21_w20:=Kh (bk HXg21_w19 hb20)
    have HB_w20:=bt HB_w19 hb20
    have HM_w20:=Kh (HM_w19.out.keep hb20)
    have HQT_w20:=Kh (HQT_w19.out.keep (fun _=>IsQ.solid _) hb20)
    have HQO_w20:=Kh (HQO_w19.out.keep (fun _=>IsQ.solid _) hb20)
    clear HXg7_w19 HXg9_w19 HXg11_w19 HXg13_w19 HXg15_w19 HXg17_w19 HXg19_w19 HXg21_w19 HB_w19 HM_w19 HQT_w19 HQO_w19 hb20
    have g11_0:=HXg11_w20.out.at_ 0 rfl
    have g11_1:=HXg11_w20.out.at_ 1 rfl
    have g11_2:=HXg11_w20.out.at_ 2 rfl
    have g21_0:=HXg21_w20.out.at_ 0 rfl
    have g21_1:=HXg21_w20.out.at_ 1 rfl
    have g21_2:=HXg21_w20.out.at_ 2 rfl
    go_wp2_with fail
    refine(c_SameMx 0 0 (.slice none 0 0) (.slice none 0 0) 0 (fun _=>0) w20 (.inl ⟨rfl,none,0,rfl⟩) (.inl ⟨rfl,none,0,rfl⟩) (by decide) (fun j hj=>absurd hj (Nat.not_lt_zero _))).mono ?_
    rintro e w21 ⟨rfl,hb21⟩
    clear g11_0 g11_1 g11_2 g21_0 g21_1 g21_2
    have HXg7_w21:=Kh (bk HXg7_w20 hb21)
    have HXg9_w21:=Kh (bk HXg9_w20 hb21)
    have HXg11_w21:=Kh (bk HXg11_w20 hb21)
    have HXg13_w21:=Kh (bk HXg13_w20 hb21)
    have HXg15_w21:=Kh (bk HXg15_w20 hb21)
    have HXg17_w21:=Kh (bk HXg17_w20 hb21)
    have HXg19_w21:=Kh (bk HXg19_w20 hb21)
    have HXg21_w21:=Kh (bk HXg21_w20 hb21)
    have HB_w21:=bt HB_w20 hb21
    have HM_w21:=Kh (HM_w20.out.keep hb21)
    have HQT_w21:=Kh (HQT_w20.out.keep (fun _=>IsQ.solid _) hb21)
    have HQO_w21:=Kh (HQO_w20.out.keep (fun _=>IsQ.solid _) hb21)
    clear HXg7_w20 HXg9_w20 HXg11_w20 HXg13_w20 HXg15_w20 HXg17_w20 HXg19_w20 HXg21_w20 HB_w20 HM_w20 HQT_w20 HQO_w20 hb21
    have g13_0:=HXg13_w21.out.at_ 0 rfl
    have g13_1:=HXg13_w21.out.at_ 1 rfl
    have g13_2:=HXg13_w21.out.at_ 2 rfl
    have g21_0:=HXg21_w21.out.at_ 0 rfl
    have g21_1:=HXg21_w21.out.at_ 1 rfl
    have g21_2:=HXg21_w21.out.at_ 2 rfl
    go_wp2_with fail
    refine(c_SameMx 0 0 (.slice none 0 0) (.slice none 0 0) 0 (fun _=>0) w21 (.inl ⟨rfl,none,0,rfl⟩) (.inl ⟨rfl,none,0,rfl⟩) (by decide) (fun j hj=>absurd hj (Nat.not_lt_zero _))).mono ?_
    rintro e w22 ⟨rfl,hb22⟩
    clear g13_0 g13_1 g13_2 g21_0 g21_1 g21_2
    have HXg7_w22:=Kh (bk HXg7_w21 hb22)
    have HXg9_w22:=Kh (bk HXg9_w21 hb22)
    have HXg11_w22:=Kh (bk HXg11_w21 hb22)
    have HXg13_w22:=Kh (bk HXg13_w21 hb22)
    have HXg15_w22:=Kh (bk HXg15_w21 hb22)
    have HXg17_w22:=Kh (bk HXg17_w21 hb22)
    have HXg19_w22:=Kh (bk HXg19_w21 hb22)
    have HXg21_w22:=Kh (bk HXg21_w21 hb22)
    have HB_w22:=bt HB_w21 hb22
    have HM_w22:=Kh (HM_w21.out.keep hb22)
    have HQT_w22:=Kh (HQT_w21.out.keep (fun _=>IsQ.solid _) hb22)
    have HQO_w22:=Kh (HQO_w21.out.keep (fun _=>IsQ.solid _) hb22)
    clear HXg7_w21 HXg9_w21 HXg11_w21 HXg13_w21 HXg15_w21 HXg17_w21 HXg19_w21 HXg21_w21 HB_w21 HM_w21 HQT_w21 HQO_w21 hb22
    have g15_0:=HXg15_w22.out.at_ 0 rfl
    have g15_1:=HXg15_w22.out.at_ 1 rfl
    have g15_2:=HXg15_w22.out.at_ 2 rfl
    have g21_0:=HXg21_w22.out.at_ 0 rfl
    have g21_1:=HXg21_w22.out.at_ 1 rfl
    have g21_2:=HXg21_w22.out.at_ 2 rfl
    go_wp2_with fail
    refine(c_SameMx 0 0 (.slice none 0 0) (.slice none 0 0) 0 (fun _=>0) w22 (.inl ⟨rfl,none,0,rfl⟩) (.inl ⟨rfl,none,0,rfl⟩) (by decide) (fun j hj=>absurd hj (Nat.not_lt_zero _))).mono ?_
    rintro e w23 ⟨rfl,hb23⟩
    clear g15_0 g15_1 g15_2 g21_0 g21_1 g21_2
    have HXg7_w23:=Kh (bk HXg7_w22 hb23)
    have HXg9_w23:=Kh (bk HXg9_w22 hb23)
    have HXg11_w23:=Kh (bk HXg11_w22 hb23)
    have HXg13_w23:=Kh (bk HXg13_w22 hb23)
    have HXg15_w23:=Kh (bk HXg15_w22 hb23)
    have HXg17_w23:=Kh (bk HXg17_w22 hb23)
    have HXg19_w23:=Kh (bk HXg19_w22 hb23)
    have HXg21_w23:=Kh (bk HXg21_w22 hb23)
    have HB_w23:=bt HB_w22 hb23
    have HM_w23:=Kh (HM_w22.out.keep hb23)
    have HQT_w23:=Kh (HQT_w22.out.keep (fun _=>IsQ.solid _) hb23)
    have HQO_w23:=Kh (HQO_w22.out.keep (fun _=>IsQ.solid _) hb23)
    clear HXg7_w22 HXg9_w22 HXg11_w22 HXg13_w22 HXg15_w22 HXg17_w22 HXg19_w22 HXg21_w22 HB_w22 HM_w22 HQT_w22 HQO_w22 hb23
    have g17_0:=HXg17_w23.out.at_ 0 rfl
    have g17_1:=HXg17_w23.out.at_ 1 rfl
    have g17_2:=HXg17_w23.out.at_ 2 rfl
    have g21_0:=HXg21_w23.out.at_ 0 rfl
    have g21_1:=HXg21_w23.out.at_ 1 rfl
    have g21_2:=HXg21_w23.out.at_ 2 rfl
    go_wp2_with fail
    refine(c_SameMx 0 0 (.slice none 0 0) (.slice none 0 0) 0 (fun _=>0) w23 (.inl ⟨rfl,none,0,rfl⟩) (.inl ⟨rfl,none,0,rfl⟩) (by decide) (fun j hj=>absurd hj (Nat.not_lt_zero _))).mono ?_
    rintro e w24 ⟨rfl,hb24⟩
    clear g17_0 g17_1 g17_2 g21_0 g21_1 g21_2
    have HXg7_w24:=Kh (bk HXg7_w23 hb24)
    have HXg9_w24:=Kh (bk HXg9_w23 hb24)
    have HXg11_w24:=Kh (bk HXg11_w23 hb24)
    have HXg13_w24:=Kh (bk HXg13_w23 hb24)
    have HXg15_w24:=Kh (bk HXg15_w23 hb24)
    have HXg17_w24:=Kh (bk HXg17_w23 hb24)
    have HXg19_w24:=Kh (bk HXg19_w23 hb24)
    have HXg21_w24:=Kh (bk HXg21_w23 hb24)
    have HB_w24:=bt HB_w23 hb24
    have HM_w24:=Kh (HM_w23.out.keep hb24)
    have HQT_w24:=Kh (HQT_w23.out.keep (fun _=>IsQ.solid _) hb24)
    have HQO_w24:=Kh (HQO_w23.out.keep (fun _=>IsQ.solid _) hb24)
    clear HXg7_w23 HXg9_w23 HXg11_w23 HXg13_w23 HXg15_w23 HXg17_w23 HXg19_w23 HXg21_w23 HB_w23 HM_w23 HQT_w23 HQO_w23 hb24
    have g19_0:=HXg19_w24.out.at_ 0 rfl
    have g19_1:=HXg19_w24.out.at_ 1 rfl
    have g19_2:=HXg19_w24.out.at_ 2 rfl
    have g21_0:=HXg21_w24.out.at_ 0 rfl
    have g21_1:=HXg21_w24.out.at_ 1 rfl
    have g21_2:=HXg21_w24.out.at_ 2 rfl
    go_wp2_with fail
    refine(c_SameMx 0 0 (.slice none 0 0) (.slice none 0 0) 0 (fun _=>0) w24 (.inl ⟨rfl,none,0,rfl⟩) (.inl ⟨rfl,none,0,rfl⟩) (by decide) (fun j hj=>absurd hj (Nat.not_lt_zero _))).mono ?_
    rintro e w25 ⟨rfl,hb25⟩
    clear g19_0 g19_1 g19_2 g21_0 g21_1 g21_2
    have HXg7_w25:=Kh (bk HXg7_w24 hb25)
    have HXg9_w25:=Kh (bk HXg9_w24 hb25)
    have HXg11_w25:=Kh (bk HXg11_w24 hb25)
    have HXg13_w25:=Kh (bk HXg13_w24 hb25)
    have HXg15_w25:=Kh (bk HXg15_w24 hb25)
    have HXg17_w25:=Kh (bk HXg17_w24 hb25)
    have HXg19_w25:=Kh (bk HXg19_w24 hb25)
    have HXg21_w25:=Kh (bk HXg21_w24 hb25)
    have HB_w25:=bt HB_w24 hb25
    have HM_w25:=Kh (HM_w24.out.keep hb25)
    have HQT_w25:=Kh (HQT_w24.out.keep (fun _=>IsQ.solid _) hb25)
    have HQO_w25:=Kh (HQO_w24.out.keep (fun _=>IsQ.solid _) hb25)
    clear HXg7_w24 HXg9_w24 HXg11_w24 HXg13_w24 HXg15_w24 HXg17_w24 HXg19_w24 HXg21_w24 HB_w24 HM_w24 HQT_w24 HQO_w24 hb25
    go_wp2
    go_ret
    exact⟨rfl,HB_w25.out⟩
   ·go_wp2_with fail
    refine(HNW.out trivial w2 HB2.out).mono ?_
    rintro e w4 ⟨hret,hb4⟩
    have HB_w4:=bt HB2 hb4
    clear s0 s1 s2 hb4 HXS2 HB2
    rcases hret with⟨er,her,rfl⟩ |⟨n,wt,M,F,C,X,rfl,hkk,rfl,hmod,hcrd,hC⟩
    ·have hne:(er != 0)=true:=by rw[bne_iff_ne];exact her
     go_wp2
     go_ret
     exact⟨rfl,HB_w4.out⟩
    have HM_w4:=Kh hmod
    have HFL:=Kh hmod.len
    have hn0:0<n:=by obtain⟨⟨q1,q2⟩,_⟩:=Pl.check_ok hmod.check;omega
    have HO1:=Kh (fun W (hb:Below w.heap.size w W) (hm:ModR W M n wt D F C X)=>show Calls Tryz.prog 12 #[.pointer (some ⟨M,0,none⟩),.int .i64 1] W fun e w'=>OpRet F.length (uF F.length) w' e∧Below W.heap.size W w' from by
     have h:=c_Operator 1 [(1,0,0,1)] W (HT.out.below hb) hm (fun f hf=>by have:=hcrd.low f hf;have:=hm.cnt;omega) hC (by omega) (by omega) mr_1 (by decide) (by decide) (fun t ht=>by
      obtain rfl:t=0:=by have h4:t<1:=ht;omega
      unfold GIn;decide)
     refine Calls.mono h ?_
     rintro e w' ⟨⟨p,c,he,hqq⟩,hb2⟩
     refine⟨⟨p,c,he,QL.eqv hqq (fun j hj=>?_)⟩,hb2⟩
     have hFp:0<F.length:=by
      rcases Nat.eq_zero_or_pos F.length with h0|h0
      ·rw[h0]at hj;exact absurd hj (Nat.not_lt_zero _)
      ·exact h0
     have h5:=hkM_one (X:=X) hn0 hcrd (i:=j / F.length) (k:=j % F.length) (Nat.div_lt_of_lt_mul hj) (Nat.mod_lt _ hFp)
     rw[hm.cnt]at h5
     exact h5)
    clear hmod hcrd hC hn0 hkk
    go_wp2_with fail
    refine(HO1.out w4 HB_w4.out HM_w4.out).mono ?_
    rintro e w5 ⟨⟨pt,ct,rfl,hqt⟩,hb5⟩
    have HB_w5:=bt HB_w4 hb5
    have HM_w5:=Kh (HM_w4.out.keep hb5)
    clear HB_w4 HM_w4 hb5
    have HQT_w5:=Kh (show QL (fun j=>IsQ (uF F.length (j / F.length) (j % F.length))) w5 (.slice pt (F.length*F.length) ct) (F.length*F.length)from hqt)
    clear hqt
    go_wp2_with fail
    obtain⟨w6,hw6⟩:∃ x,w5.alloc (.cells #[.int .i64 F.length,.int .i64 F.length,.slice pt (F.length*F.length) ct] 32)=x:=⟨_,rfl⟩
    obtain⟨Xw6,hbw6⟩:=box1 w5 #[.int .i64 F.length,.int .i64 F.length,.slice pt (F.length*F.length) ct] 32
    rw[hw6]at Xw6 hbw6 ⊢
    obtain⟨g7,hgw6⟩:∃ x,w5.heap.size=x:=⟨_,rfl⟩
    rw[hgw6]at Xw6 ⊢
    have HXg7_w6:=Kh Xw6
    clear hw6 Xw6 hgw6
    have HB_w6:=bt HB_w5 hbw6
    have HM_w6:=Kh (HM_w5.out.keep hbw6)
    have HQT_w6:=Kh (HQT_w5.out.keep (fun _=>IsQ.solid _) hbw6)
    clear HB_w5 HM_w5 HQT_w5 hbw6
    refine(c_Dim M w6.heap.size n ((wt:Int)+2) D F C X w6 HM_w6.out.mod).mono ?_
    rintro e w' ⟨rfl,hw'⟩
    obtain rfl:w6=w':=hw'.symm
    clear hw'
    go_wp2_with fail
    refine(c_IdentityA F.length w6 (by have:=HFL.out;omega)).mono ?_
    rintro e w7 ⟨⟨po,co,rfl,hqo⟩,hb7⟩
    have HXg7_w7:=Kh (bk HXg7_w6 hb7)
    have HB_w7:=bt HB_w6 hb7
    have HM_w7:=Kh (HM_w6.out.keep hb7)
    have HQT_w7:=Kh (HQT_w6.out.keep (fun _=>IsQ.solid _) hb7)
    clear HXg7_w6 HB_w6 HM_w6 HQT_w6 hb7
    have HQO_w7:=Kh (show QL (fun j=>IsQ (uF F.length (j / F.length) (j % F.length))) w7 (.slice po (F.length*F.length) co) (F.length*F.length)from hqo)
    clear hqo
    go_wp2_with fail
    obtain⟨w8,hw8⟩:∃ x,w7.alloc (.cells #[.int .i64 F.length,.int .i64 F.length,.slice po (F.length*F.length) co] 32)=x:=⟨_,rfl⟩
    obtain⟨Xw8,hbw8⟩:=box1 w7 #[.int .i64 F.length,.int .i64 F.length,.slice po (F.length*F.length) co] 32
    rw[hw8]at Xw8 hbw8 ⊢
    obtain⟨g9,hgw8⟩:∃ x,w7.heap.size=x:=⟨_,rfl⟩
    rw[hgw8]at Xw8 ⊢
    have HXg9_w8:=Kh Xw8
    clear hw8 Xw8 hgw8
    have HXg7_w8:=Kh (bk HXg7_w7 hbw8)
    have HB_w8:=bt HB_w7 hbw8
    have HM_w8:=Kh (HM_w7.out.keep hbw8)
    have HQT_w8:=Kh (HQT_w7.out.keep (fun _=>IsQ.solid _) hbw8)
    have HQO_w8:=Kh (HQO_w7.out.keep (fun _=>IsQ.solid _) hbw8)
    clear HXg7_w7 HB_w7 HM_w7 HQT_w7 HQO_w7 hbw8
    refine(c_Operator_bad M q w8 HQB.out).mono ?_
    rintro e w9 ⟨rfl,hb9⟩
    have HXg7_w9:=Kh (bk HXg7_w8 hb9)
    have HXg9_w9:=Kh (bk HXg9_w8 hb9)
    have HB_w9:=bt HB_w8 hb9
    have HM_w9:=Kh (HM_w8.out.keep hb9)
    have HQT_w9:=Kh (HQT_w8.out.keep (fun _=>IsQ.solid _) hb9)
    have HQO_w9:=Kh (HQO_w8.out.keep (fun _=>IsQ.solid _) hb9)
    clear HXg7_w8 HXg9_w8 HB_w8 HM_w8 HQT_w8 HQO_w8 hb9
    go_wp2_with fail
    obtain⟨w10,hw10⟩:∃ x,w9.alloc (.cells #[.int .i64 0,.int .i64 0,.slice none 0 0] 32)=x:=⟨_,rfl⟩
    obtain⟨Xw10,hbw10⟩:=box1 w9 #[.int .i64 0,.int .i64 0,.slice none 0 0] 32
    rw[hw10]at Xw10 hbw10 ⊢
    obtain⟨g11,hgw10⟩:∃ x,w9.heap.size=x:=⟨_,rfl⟩
    rw[hgw10]at Xw10 ⊢
    have HXg11_w10:=Kh Xw10
    clear hw10 Xw10 hgw10
    have HXg7_w10:=Kh (bk HXg7_w9 hbw10)
    have HXg9_w10:=Kh (bk HXg9_w9 hbw10)
    have HB_w10:=bt HB_w9 hbw10
    have HM_w10:=Kh (HM_w9.out.keep hbw10)
    have HQT_w10:=Kh (HQT_w9.out.keep (fun _=>IsQ.solid _) hbw10)
    have HQO_w10:=Kh (HQO_w9.out.keep (fun _=>IsQ.solid _) hbw10)
    clear HXg7_w9 HXg9_w9 HB_w9 HM_w9 HQT_w9 HQO_w9 hbw10
    refine(c_On_err (.pointer (some ⟨M,0,none⟩)) q 2 w10 (by decide) (fun W=>c_Operator_bad M q W HQB.out)).mono ?_
    rintro e w11 ⟨rfl,hb11⟩
    have HXg7_w11:=Kh (bk HXg7_w10 hb11)
    have HXg9_w11:=Kh (bk HXg9_w10 hb11)
    have HXg11_w11:=Kh (bk HXg11_w10 hb11)
    have HB_w11:=bt HB_w10 hb11
    have HM_w11:=Kh (HM_w10.out.keep hb11)
    have HQT_w11:=Kh (HQT_w10.out.keep (fun _=>IsQ.solid _) hb11)
    have HQO_w11:=Kh (HQO_w10.out.keep (fun _=>IsQ.solid _) hb11)
    clear HXg7_w10 HXg9_w10 HXg11_w10 HB_w10 HM_w10 HQT_w10 HQO_w10 hb11
    go_wp2_with fail
    obtain⟨w12,hw12⟩:∃ x,w11.alloc (.cells #[.int .i64 0,.int .i64 0,.slice none 0 0] 32)=x:=⟨_,rfl⟩
    obtain⟨Xw12,hbw12⟩:=box1 w11 #[.int .i64 0,.int .i64 0,.slice none 0 0] 32
    rw[hw12]at Xw12 hbw12 ⊢
    obtain⟨g13,hgw12⟩:∃ x,w11.heap.size=x:=⟨_,rfl⟩
    rw[hgw12]at Xw12 ⊢
    have HXg13_w12:=Kh Xw12
    clear hw12 Xw12 hgw12
    have HXg7_w12:=Kh (bk HXg7_w11 hbw12)
    have HXg9_w12:=Kh (bk HXg9_w11 hbw12)
    have HXg11_w12:=Kh (bk HXg11_w11 hbw12)
    have HB_w12:=bt HB_w11 hbw12
    have HM_w12:=Kh (HM_w11.out.keep hbw12)
    have HQT_w12:=Kh (HQT_w11.out.keep (fun _=>IsQ.solid _) hbw12)
    have HQO_w12:=Kh (HQO_w11.out.keep (fun _=>IsQ.solid _) hbw12)
    clear HXg7_w11 HXg9_w11 HXg11_w11 HB_w11 HM_w11 HQT_w11 HQO_w11 hbw12
    refine(c_Operator_nil 1 w12).mono ?_
    rintro e w13 ⟨rfl,hb13⟩
    have HXg7_w13:=Kh (bk HXg7_w12 hb13)
    have HXg9_w13:=Kh (bk HXg9_w12 hb13)
    have HXg11_w13:=Kh (bk HXg11_w12 hb13)
    have HXg13_w13:=Kh (bk HXg13_w12 hb13)
    have HB_w13:=bt HB_w12 hb13
    have HM_w13:=Kh (HM_w12.out.keep hb13)
    have HQT_w13:=Kh (HQT_w12.out.keep (fun _=>IsQ.solid _) hb13)
    have HQO_w13:=Kh (HQO_w12.out.keep (fun _=>IsQ.solid _) hb13)
    clear HXg7_w12 HXg9_w12 HXg11_w12 HXg13_w12 HB_w12 HM_w12 HQT_w12 HQO_w12 hb13
    go_wp2_with fail
    obtain⟨w14,hw14⟩:∃ x,w13.alloc (.cells #[.int .i64 0,.int .i64 0,.slice none 0 0] 32)=x:=⟨_,rfl⟩
    obtain⟨Xw14,hbw14⟩:=box1 w13 #[.int .i64 0,.int .i64 0,.slice none 0 0] 32
    rw[hw14]at Xw14 hbw14 ⊢
    obtain⟨g15,hgw14⟩:∃ x,w13.heap.size=x:=⟨_,rfl⟩
    rw[hgw14]at Xw14 ⊢
    have HXg15_w14:=Kh Xw14
    clear hw14 Xw14 hgw14
    have HXg7_w14:=Kh (bk HXg7_w13 hbw14)
    have HXg9_w14:=Kh (bk HXg9_w13 hbw14)
    have HXg11_w14:=Kh (bk HXg11_w13 hbw14)
    have HXg13_w14:=Kh (bk HXg13_w13 hbw14)
    have HB_w14:=bt HB_w13 hbw14
    have HM_w14:=Kh (HM_w13.out.keep hbw14)
    have HQT_w14:=Kh (HQT_w13.out.keep (fun _=>IsQ.solid _) hbw14)
    have HQO_w14:=Kh (HQO_w13.out.keep (fun _=>IsQ.solid _) hbw14)
    clear HXg7_w13 HXg9_w13 HXg11_w13 HXg13_w13 HB_w13 HM_w13 HQT_w13 HQO_w13 hbw14
    refine(c_By_nil w14).mono ?_
    rintro e w15 ⟨rfl,hb15⟩
    have HXg7_w15:=Kh (bk HXg7_w14 hb15)
    have HXg9_w15:=Kh (bk HXg9_w14 hb15)
    have HXg11_w15:=Kh (bk HXg11_w14 hb15)
    have HXg13_w15:=Kh (bk HXg13_w14 hb15)
    have HXg15_w15:=Kh (bk HXg15_w14 hb15)
    have HB_w15:=bt HB_w14 hb15
    have HM_w15:=Kh (HM_w14.out.keep hb15)
    have HQT_w15:=Kh (HQT_w14.out.keep (fun _=>IsQ.solid _) hb15)
    have HQO_w15:=Kh (HQO_w14.out.keep (fun _=>IsQ.solid _) hb15)
    clear HXg7_w14 HXg9_w14 HXg11_w14 HXg13_w14 HXg15_w14 HB_w14 HM_w14 HQT_w14 HQO_w14 hb15
    go_wp2_with fail
    obtain⟨w16,hw16⟩:∃ x,w15.alloc (.cells #[.int .i64 0,.int .i64 0,.slice none 0 0] 32)=x:=⟨_,rfl⟩
    obtain⟨Xw16,hbw16⟩:=box1 w15 #[.int .i64 0,.int .i64 0,.slice none 0 0] 32
    rw[hw16]at Xw16 hbw16 ⊢
    obtain⟨g17,hgw16⟩:∃ x,w15.heap.size=x:=⟨_,rfl⟩
    rw[hgw16]at Xw16 ⊢
    have HXg17_w16:=Kh Xw16
    clear hw16 Xw16 hgw16
    have HXg7_w16:=Kh (bk HXg7_w15 hbw16)
    have HXg9_w16:=Kh (bk HXg9_w15 hbw16)
    have HXg11_w16:=Kh (bk HXg11_w15 hbw16)
    have HXg13_w16:=Kh (bk HXg13_w15 hbw16)
    have HXg15_w16:=Kh (bk HXg15_w15 hbw16)
    have HB_w16:=bt HB_w15 hbw16
    have HM_w16:=Kh (HM_w15.out.keep hbw16)
    have HQT_w16:=Kh (HQT_w15.out.keep (fun _=>IsQ.solid _) hbw16)
    have HQO_w16:=Kh (HQO_w15.out.keep (fun _=>IsQ.solid _) hbw16)
    clear HXg7_w15 HXg9_w15 HXg11_w15 HXg13_w15 HXg15_w15 HB_w15 HM_w15 HQT_w15 HQO_w15 hbw16
    refine(c_On_err (.pointer none) 1 1 w16 (by decide) (fun W=>c_Operator_nil 1 W)).mono ?_
    rintro e w17 ⟨rfl,hb17⟩
    have HXg7_w17:=Kh (bk HXg7_w16 hb17)
    have HXg9_w17:=Kh (bk HXg9_w16 hb17)
    have HXg11_w17:=Kh (bk HXg11_w16 hb17)
    have HXg13_w17:=Kh (bk HXg13_w16 hb17)
    have HXg15_w17:=Kh (bk HXg15_w16 hb17)
    have HXg17_w17:=Kh (bk HXg17_w16 hb17)
    have HB_w17:=bt HB_w16 hb17
    have HM_w17:=Kh (HM_w16.out.keep hb17)
    have HQT_w17:=Kh (HQT_w16.out.keep (fun _=>IsQ.solid _) hb17)
    have HQO_w17:=Kh (HQO_w16.out.keep (fun _=>IsQ.solid _) hb17)
    clear HXg7_w16 HXg9_w16 HXg11_w16 HXg13_w16 HXg15_w16 HXg17_w16 HB_w16 HM_w16 HQT_w16 HQO_w16 hb17
    go_upto_region 16 with(fail)
    obtain⟨w18,hw18⟩:∃ x,w17.alloc (.cells #[.int .i64 0,.int .i64 0,.slice none 0 0] 32)=x:=⟨_,rfl⟩
    obtain⟨Xw18,hbw18⟩:=box1 w17 #[.int .i64 0,.int .i64 0,.slice none 0 0] 32
    rw[hw18]at Xw18 hbw18 ⊢
    obtain⟨g19,hgw18⟩:∃ x,w17.heap.size=x:=⟨_,rfl⟩
    have hs_g19:w18.heap.size=g19+1:=by rw[← hw18,← hgw18];simp
    rw[hgw18]at Xw18 ⊢
    have HXg19_w18:=Kh Xw18
    clear hw18 Xw18 hgw18
    have HXg7_w18:=Kh (bk HXg7_w17 hbw18)
    have HXg9_w18:=Kh (bk HXg9_w17 hbw18)
    have HXg11_w18:=Kh (bk HXg11_w17 hbw18)
    have HXg13_w18:=Kh (bk HXg13_w17 hbw18)
    have HXg15_w18:=Kh (bk HXg15_w17 hbw18)
    have HXg17_w18:=Kh (bk HXg17_w17 hbw18)
    have HB_w18:=bt HB_w17 hbw18
    have HM_w18:=Kh (HM_w17.out.keep hbw18)
    have HQT_w18:=Kh (HQT_w17.out.keep (fun _=>IsQ.solid _) hbw18)
    have HQO_w18:=Kh (HQO_w17.out.keep (fun _=>IsQ.solid _) hbw18)
    clear HXg7_w17 HXg9_w17 HXg11_w17 HXg13_w17 HXg15_w17 HXg17_w17 HB_w17 HM_w17 HQT_w17 HQO_w17 hbw18
    obtain⟨w19,hw19⟩:∃ x,w18.alloc (.cells #[.int .i64 0,.int .i64 0,.slice none 0 0] 32)=x:=⟨_,rfl⟩
    obtain⟨Xw19,hbw19⟩:=box1 w18 #[.int .i64 0,.int .i64 0,.slice none 0 0] 32
    rw[hw19]at Xw19 hbw19 ⊢
    obtain⟨g21,hgw19⟩:∃ x,g19+1=x:=⟨_,rfl⟩
    rw[hs_g19,hgw19]at Xw19
    rw[hgw19]
    clear hs_g19
    have HXg21_w19:=Kh Xw19
    clear hw19 Xw19 hgw19
    have HXg7_w19:=Kh (bk HXg7_w18 hbw19)
    have HXg9_w19:=Kh (bk HXg9_w18 hbw19)
    have HXg11_w19:=Kh (bk HXg11_w18 hbw19)
    have HXg13_w19:=Kh (bk HXg13_w18 hbw19)
    have HXg15_w19:=Kh (bk HXg15_w18 hbw19)
    have HXg17_w19:=Kh (bk HXg17_w18 hbw19)
    have HXg19_w19:=Kh (bk HXg19_w18 hbw19)
    have HB_w19:=bt HB_w18 hbw19
    have HM_w19:=Kh (HM_w18.out.keep hbw19)
    have HQT_w19:=Kh (HQT_w18.out.keep (fun _=>IsQ.solid _) hbw19)
    have HQO_w19:=Kh (HQO_w18.out.keep (fun _=>IsQ.solid _) hbw19)
    clear HXg7_w18 HXg9_w18 HXg11_w18 HXg13_w18 HXg15_w18 HXg17_w18 HXg19_w18 HB_w18 HM_w18 HQT_w18 HQO_w18 hbw19
    have g7_0:=HXg7_w19.out.at_ 0 rfl
    have g7_1:=HXg7_w19.out.at_ 1 rfl
    have g7_2:=HXg7_w19.out.at_ 2 rfl
    have g9_0:=HXg9_w19.out.at_ 0 rfl
    have g9_1:=HXg9_w19.out.at_ 1 rfl
    have g9_2:=HXg9_w19.out.at_ 2 rfl
    go_wp2_with fail
    refine(c_SameMx F.length F.length (.slice pt (F.length*F.length) ct) (.slice po (F.length*F.length) co) (F.length*F.length) (fun j=>uF F.length (j / F.length) (j % F.length)) w19 HQT_w19.out HQO_w19.out (by have h1:=HFL.out;have h2:F.length*F.length≤72*72:=Nat.mul_le_mul h1 h1;omega) (fun j _=>uF_size _ _ _)).mono ?_
    rintro e w20 ⟨rfl,hb20⟩
    clear g7_0 g7_1 g7_2 g9_0 g9_1 g9_2
    have HXg7_w20:=Kh (bk HXg7_w19 hb20)
    have HXg9_w20:=Kh (bk HXg9_w19 hb20)
    have HXg11_w20:=Kh (bk HXg11_w19 hb20)
    have HXg13_w20:=Kh (bk HXg13_w19 hb20)
    have HXg15_w20:=Kh (bk HXg15_w19 hb20)
    have HXg17_w20:=Kh (bk HXg17_w19 hb20)
    have HXg19_w20:=Kh (bk HXg19_w19 hb20)
    have HXg21_w20:=Kh (bk HXg21_w19 hb20)
    have HB_w20:=bt HB_w19 hb20
    have HM_w20:=Kh (HM_w19.out.keep hb20)
    have HQT_w20:=Kh (HQT_w19.out.keep (fun _=>IsQ.solid _) hb20)
    have HQO_w20:=Kh (HQO_w19.out.keep (fun _=>IsQ.solid _) hb20)
    clear HXg7_w19 HXg9_w19 HXg11_w19 HXg13_w19 HXg15_w19 HXg17_w19 HXg19_w19 HXg21_w19 HB_w19 HM_w19 HQT_w19 HQO_w19 hb20
    have g11_0:=HXg11_w20.out.at_ 0 rfl
    have g11_1:=HXg11_w20.out.at_ 1 rfl
    have g11_2:=HXg11_w20.out.at_ 2 rfl
    have g21_0:=HXg21_w20.out.at_ 0 rfl
    have g21_1:=HXg21_w20.out.at_ 1 rfl
    have g21_2:=HXg21_w20.out.at_ 2 rfl
    go_wp2_with fail
    refine(c_SameMx 0 0 (.slice none 0 0) (.slice none 0 0) 0 (fun _=>0) w20 (.inl ⟨rfl,none,0,rfl⟩) (.inl ⟨rfl,none,0,rfl⟩) (by decide) (fun j hj=>absurd hj (Nat.not_lt_zero _))).mono ?_
    rintro e w21 ⟨rfl,hb21⟩
    clear g11_0 g11_1 g11_2 g21_0 g21_1 g21_2
    have HXg7_w21:=Kh (bk HXg7_w20 hb21)
    have HXg9_w21:=Kh (bk HXg9_w20 hb21)
    have HXg11_w21:=Kh (bk HXg11_w20 hb21)
    have HXg13_w21:=Kh (bk HXg13_w20 hb21)
    have HXg15_w21:=Kh (bk HXg15_w20 hb21)
    have HXg17_w21:=Kh (bk HXg17_w20 hb21)
    have HXg19_w21:=Kh (bk HXg19_w20 hb21)
    have HXg21_w21:=Kh (bk HXg21_w20 hb21)
    have HB_w21:=bt HB_w20 hb21
    have HM_w21:=Kh (HM_w20.out.keep hb21)
    have HQT_w21:=Kh (HQT_w20.out.keep (fun _=>IsQ.solid _) hb21)
    have HQO_w21:=Kh (HQO_w20.out.keep (fun _=>IsQ.solid _) hb21)
    clear HXg7_w20 HXg9_w20 HXg11_w20 HXg13_w20 HXg15_w20 HXg17_w20 HXg19_w20 HXg21_w20 HB_w20 HM_w20 HQT_w20 HQO_w20 hb21
    have g13_0:=HXg13_w21.out.at_ 0 rfl
    have g13_1:=HXg13_w21.out.at_ 1 rfl
    have g13_2:=HXg13_w21.out.at_ 2 rfl
    have g21_0:=HXg21_w21.out.at_ 0 rfl
    have g21_1:=HXg21_w21.out.at_ 1 rfl
    have g21_2:=HXg21_w21.out.at_ 2 rfl
    go_wp2_with fail
    refine(c_SameMx 0 0 (.slice none 0 0) (.slice none 0 0) 0 (fun _=>0) w21 (.inl ⟨rfl,none,0,rfl⟩) (.inl ⟨rfl,none,0,rfl⟩) (by decide) (fun j hj=>absurd hj (Nat.not_lt_zero _))).mono ?_
    rintro e w22 ⟨rfl,hb22⟩
    clear g13_0 g13_1 g13_2 g21_0 g21_1 g21_2
    have HXg7_w22:=Kh (bk HXg7_w21 hb22)
    have HXg9_w22:=Kh (bk HXg9_w21 hb22)
    have HXg11_w22:=Kh (bk HXg11_w21 hb22)
    have HXg13_w22:=Kh (bk HXg13_w21 hb22)
    have HXg15_w22:=Kh (bk HXg15_w21 hb22)
    have HXg17_w22:=Kh (bk HXg17_w21 hb22)
    have HXg19_w22:=Kh (bk HXg19_w21 hb22)
    have HXg21_w22:=Kh (bk HXg21_w21 hb22)
    have HB_w22:=bt HB_w21 hb22
    have HM_w22:=Kh (HM_w21.out.keep hb22)
    have HQT_w22:=Kh (HQT_w21.out.keep (fun _=>IsQ.solid _) hb22)
    have HQO_w22:=Kh (HQO_w21.out.keep (fun _=>IsQ.solid _) hb22)
    clear HXg7_w21 HXg9_w21 HXg11_w21 HXg13_w21 HXg15_w21 HXg17_w21 HXg19_w21 HXg21_w21 HB_w21 HM_w21 HQT_w21 HQO_w21 hb22
    have g15_0:=HXg15_w22.out.at_ 0 rfl
    have g15_1:=HXg15_w22.out.at_ 1 rfl
    have g15_2:=HXg15_w22.out.at_ 2 rfl
    have g21_0:=HXg21_w22.out.at_ 0 rfl
    have g21_1:=HXg21_w22.out.at_ 1 rfl
    have g21_2:=HXg21_w22.out.at_ 2 rfl
    go_wp2_with fail
    refine(c_SameMx 0 0 (.slice none 0 0) (.slice none 0 0) 0 (fun _=>0) w22 (.inl ⟨rfl,none,0,rfl⟩) (.inl ⟨rfl,none,0,rfl⟩) (by decide) (fun j hj=>absurd hj (Nat.not_lt_zero _))).mono ?_
    rintro e w23 ⟨rfl,hb23⟩
    clear g15_0 g15_1 g15_2 g21_0 g21_1 g21_2
    have HXg7_w23:=Kh (bk HXg7_w22 hb23)
    have HXg9_w23:=Kh (bk HXg9_w22 hb23)
    have HXg11_w23:=Kh (bk HXg11_w22 hb23)
    have HXg13_w23:=Kh (bk HXg13_w22 hb23)
    have HXg15_w23:=Kh (bk HXg15_w22 hb23)
    have HXg17_w23:=Kh (bk HXg17_w22 hb23)
    have HXg19_w23:=Kh (bk HXg19_w22 hb23)
    have HXg21_w23:=Kh (bk HXg21_w22 hb23)
    have HB_w23:=bt HB_w22 hb23
    have HM_w23:=Kh (HM_w22.out.keep hb23)
    have HQT_w23:=Kh (HQT_w22.out.keep (fun _=>IsQ.solid _) hb23)
    have HQO_w23:=Kh (HQO_w22.out.keep (fun _=>IsQ.solid _) hb23)
    clear HXg7_w22 HXg9_w22 HXg11_w22 HXg13_w22 HXg15_w22 HXg17_w22 HXg19_w22 HXg21_w22 HB_w22 HM_w22 HQT_w22 HQO_w22 hb23
    have g17_0:=HXg17_w23.out.at_ 0 rfl
    have g17_1:=HXg17_w23.out.at_ 1 rfl
    have g17_2:=HXg17_w23.out.at_ 2 rfl
    have g21_0:=HXg21_w23.out.at_ 0 rfl
    have g21_1:=HXg21_w23.out.at_ 1 rfl
    have g21_2:=HXg21_w23.out.at_ 2 rfl
    go_wp2_with fail
    refine(c_SameMx 0 0 (.slice none 0 0) (.slice none 0 0) 0 (fun _=>0) w23 (.inl ⟨rfl,none,0,rfl⟩) (.inl ⟨rfl,none,0,rfl⟩) (by decide) (fun j hj=>absurd hj (Nat.not_lt_zero _))).mono ?_
    rintro e w24 ⟨rfl,hb24⟩
    clear g17_0 g17_1 g17_2 g21_0 g21_1 g21_2
    have HXg7_w24:=Kh (bk HXg7_w23 hb24)
    have HXg9_w24:=Kh (bk HXg9_w23 hb24)
    have HXg11_w24:=Kh (bk HXg11_w23 hb24)
    have HXg13_w24:=Kh (bk HXg13_w23 hb24)
    have HXg15_w24:=Kh (bk HXg15_w23 hb24)
    have HXg17_w24:=Kh (bk HXg17_w23 hb24)
    have HXg19_w24:=Kh (bk HXg19_w23 hb24)
    have HXg21_w24:=Kh (bk HXg21_w23 hb24)
    have HB_w24:=bt HB_w23 hb24
    have HM_w24:=Kh (HM_w23.out.keep hb24)
    have HQT_w24:=Kh (HQT_w23.out.keep (fun _=>IsQ.solid _) hb24)
    have HQO_w24:=Kh (HQO_w23.out.keep (fun _=>IsQ.solid _) hb24)
    clear HXg7_w23 HXg9_w23 HXg11_w23 HXg13_w23 HXg15_w23 HXg17_w23 HXg19_w23 HXg21_w23 HB_w23 HM_w23 HQT_w23 HQO_w23 hb24
    have g19_0:=HXg19_w24.out.at_ 0 rfl
    have g19_1:=HXg19_w24.out.at_ 1 rfl
    have g19_2:=HXg19_w24.out.at_ 2 rfl
    have g21_0:=HXg21_w24.out.at_ 0 rfl
    have g21_1:=HXg21_w24.out.at_ 1 rfl
    have g21_2:=HXg21_w24.out.at_ 2 rfl
    go_wp2_with fail
    refine(c_SameMx 0 0 (.slice none 0 0) (.slice none 0 0) 0 (fun _=>0) w24 (.inl ⟨rfl,none,0,rfl⟩) (.inl ⟨rfl,none,0,rfl⟩) (by decide) (fun j hj=>absurd hj (Nat.not_lt_zero _))).mono ?_
    rintro e w25 ⟨rfl,hb25⟩
    clear g19_0 g19_1 g19_2 g21_0 g21_1 g21_2
    have HXg7_w25:=Kh (bk HXg7_w24 hb25)
    have HXg9_w25:=Kh (bk HXg9_w24 hb25)
    have HXg11_w25:=Kh (bk HXg11_w24 hb25)
    have HXg13_w25:=Kh (bk HXg13_w24 hb25)
    have HXg15_w25:=Kh (bk HXg15_w24 hb25)
    have HXg17_w25:=Kh (bk HXg17_w24 hb25)
    have HXg19_w25:=Kh (bk HXg19_w24 hb25)
    have HXg21_w25:=Kh (bk HXg21_w24 hb25)
    have HB_w25:=bt HB_w24 hb25
    have HM_w25:=Kh (HM_w24.out.keep hb25)
    have HQT_w25:=Kh (HQT_w24.out.keep (fun _=>IsQ.solid _) hb25)
    have HQO_w25:=Kh (HQO_w24.out.keep (fun _=>IsQ.solid _) hb25)
    clear HXg7_w24 HXg9_w24 HXg11_w24 HXg13_w24 HXg15_w24 HXg17_w24 HXg19_w24 HXg21_w24 HB_w24 HM_w24 HQT_w24 HQO_w24 hb25
    go_wp2
    go_ret
    exact⟨rfl,HB_w25.out⟩
end Go.Proofs.YtenlbhlllgppmaaGreatDoor
