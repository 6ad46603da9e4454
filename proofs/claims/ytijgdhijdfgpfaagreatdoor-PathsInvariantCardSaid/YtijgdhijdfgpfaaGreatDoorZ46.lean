/- The law PathsInvariant, walked: it returns true. -/
import Derived.Test.YtijgdhijdfgpfaaGreatDoorZ13
import Derived.Test.YtijgdhijdfgpfaaGreatDoorZ44
import Derived.Test.YtijgdhijdfgpfaaGreatDoorZ45
import Derived.Test.YtijgdhijdfgpfaaGreatDoorZ07
set_option linter.unusedSimpArgs false
set_option maxRecDepth 100000
set_option maxHeartbeats 8000000
namespace Go.Proofs.YtijgdhijdfgpfaaGreatDoor
open Go.RowKit Eli
theorem OwnQ.from_ {F:Nat→FP} {w:World} {B n:Nat} {p:Option Addr} {c:Nat} (h:OwnQ F w B (.slice p n c) n):∀ a,p=some a→B≤a.block:=by
 intro a ha
 rcases h.row with⟨_,h1⟩ |⟨g,cap,h1,hB,_⟩
 ·injection h1 with h2
  rw[ha]at h2
  cases h2
 ·injection h1 with h2
  rw[ha]at h2
  injection h2 with h2
  rw[h2]
  exact hB
theorem tmod8 (a:Int):-7≤a.tmod 8∧a.tmod 8≤7:=by
 have h1:=Int.lt_tmod_of_pos a (show(0:Int)<8 by decide)
 have h2:=Int.tmod_lt_of_pos a (show(0:Int)<8 by decide)
 omega
theorem tmod4 (a:Int):-3≤a.tmod 4∧a.tmod 4≤3:=by
 have h1:=Int.lt_tmod_of_pos a (show(0:Int)<4 by decide)
 have h2:=Int.tmod_lt_of_pos a (show(0:Int)<4 by decide)
 omega
theorem c_lawTi (N k D:Int) (pa:Option Addr) (la ca:Nat) (xa:Nat→Int) (x1 x2 y1 y2 z1 z2 a b c d:Int) (w:World) (hT:Tab w)
  (hpa:∀ k,k<la→∃ g o,pa=some ⟨g,o,none⟩∧g<w.heap.size∧w.cell? ⟨g,o+k,none⟩=some (.int .i8 (xa k))) (hxa:∀ k,k<la→-128≤xa k∧xa k≤127) (hx1:-9223372036854775808≤x1) (hx1':x1≤9223372036854775807) (hx2:-9223372036854775808≤x2) (hx2':x2≤9223372036854775807) (hy1:-9223372036854775808≤y1) (hy1':y1≤9223372036854775807) (hy2:-9223372036854775808≤y2) (hy2':y2≤9223372036854775807) (ha:-128≤a) (ha':a≤127) (hb:-128≤b) (hb':b≤127) (hc:-128≤c) (hc':c≤127) (hd:-128≤d) (hd':d≤127):
  Calls Tryz.prog 6 #[.agg #[.int .i64 N,.int .i64 k,.int .i64 D],.agg #[.slice pa la ca,.int .i64 x1,.int .i64 x2,.int .i64 y1,.int .i64 y2,.int .i64 z1,.int .i64 z2,.int .i8 a,.int .i8 b,.int .i8 c,.int .i8 d]] w fun e w'=>e=.returned (.bool true)∧Below w.heap.size w w':=by
 obtain⟨lb,hla,hnw⟩:=new_all N k D w hT
 have HLA:=Kh hla
 have HNW:=Kh hnw
 have HCH:=Kh (fun(n:Nat) (h1:0<n) (h2:n≤120) (h3:-120≤D) (h4:D≤120) (e:Int) W=>c_ChiI n e k D W h1 h2 h3 h4)
 have HEL:=Kh (fun(n:Nat) (h1:0<n) (h2:n≤120) W=>c_Element n (a.tmod 8) (b.tmod 8) (c.tmod 4) d W h1 h2 (tmod8 a).1 (tmod8 a).2 (tmod8 b).1 (tmod8 b).2 (tmod4 c).1 (tmod4 c).2 hd hd')
 have HPO:=Kh (fun W (hb:Below w.heap.size w W) (m:Nat) (hm:m≤1000)=>c_Poly pa la ca xa m W (fun k hk=>by obtain⟨g,o,e,hg,hc⟩:=hpa k hk;exact⟨g,o,e,Nat.lt_of_lt_of_le hg hb.size,(hb.cell (p:=⟨g,o+k,none⟩) hg).trans hc⟩) hxa hm)
 have HPS:=Kh (show ∀ j,hq (plU xa la j)≤4 from fun j=>Nat.le_trans (plU_size hxa) (by decide))
 have HT:=Kh hT
 have HC1:=Kh (fun(M n wt:Nat) (D:Int) (F:List Nat) (C:Nat) (X:Nat→Nat→Rat) (W:World) (v:Value) (hb:Below w.heap.size w W) (hm:ModR W M n wt D F C X) (hq:QL (fun j=>IsQ (plU xa la j)) W v (wt+1))=>c_CoordQ (hT.below hb) hm v (plU xa la) x1 x2 y1 y2 hq (fun j _=>Nat.le_trans (plU_size hxa) (by decide)) hx1 hx1' hx2 hx2' hy1 hy1' hy2 hy2')
 have HTR:=Kh (fun(n:Nat) (A B C E:Int)=>tr_ok 4 (by decide) (by decide) n (fun j=>(plU xa la j).num) (fun j=>(plU xa la j).den) x1 x2 y1 y2 A B C E hx1 hx1' hx2 hx2' hy1 hy1' hy2 hy2')
 have HR:=Kh (And.intro (And.intro ha ha') (And.intro (And.intro hb hb') (And.intro (And.intro hc hc') (And.intro hd hd'))))
 clear hT hpa hxa hla hnw hx1 hx1' hx2 hx2' hy1 hy1' hy2 hy2' ha ha' hb hb' hc hc' hd hd'
 go_enter Tryz.func6,Tryz.ntmps6
 go_wp2_with fail
 obtain⟨w0,hw0,XS,XC,hb0⟩:=bx2 w #[.int .i64 N,.int .i64 k,.int .i64 D] 40 #[.slice pa la ca,.int .i64 x1,.int .i64 x2,.int .i64 y1,.int .i64 y2,.int .i64 z1,.int .i64 z2,.int .i8 a,.int .i8 b,.int .i8 c,.int .i8 d] 44
 rw[hw0]
 refine(c_awake42 w0 (HT.out.below hb0)).mono ?_
 rintro e wk ⟨rfl,hb1⟩
 obtain⟨gS,hgS⟩:∃ x,w.heap.size=x:=⟨_,rfl⟩
 obtain⟨gC,hgC⟩:∃ x,w.heap.size+1=x:=⟨_,rfl⟩
 have XS1:=XS.below_ hb1 XS.lt
 have XC1:=XC.below_ hb1 XC.lt
 rw[hgC]at XC1 ⊢
 rw[hgS]at XS1 ⊢
 have HXS1:=Kh XS1
 have HXC1:=Kh XC1
 have HB1:=Kh (hb0.trans (hb1.mono hb0.size))
 clear hw0 XS XC hb0 hb1 hgS hgC XS1 XC1
 have s0:=HXS1.out.at_ 0 rfl
 have s1:=HXS1.out.at_ 1 rfl
 have s2:=HXS1.out.at_ 2 rfl
 have c0:=HXC1.out.at_ 0 rfl
 have c1:=HXC1.out.at_ 1 rfl
 have c2:=HXC1.out.at_ 2 rfl
 have c3:=HXC1.out.at_ 3 rfl
 have c4:=HXC1.out.at_ 4 rfl
 have c7:=HXC1.out.at_ 7 rfl
 have c8:=HXC1.out.at_ 8 rfl
 have c9:=HXC1.out.at_ 9 rfl
 have c10:=HXC1.out.at_ 10 rfl
 go_wp2_with fail
 refine(HLA.out wk).mono ?_
 rintro e w2 ⟨rfl,hb2⟩
 have HXS2:=Kh (bk HXS1 hb2)
 have HXC2:=Kh (bk HXC1 hb2)
 have HB2:=bt HB1 hb2
 clear hb2
 clear s0 s1 s2 c0 c1 c2 c3 c4 c7 c8 c9 c10 HXS1 HXC1 HB1
 cases lb with
 | true=>
  go_wp2
  go_ret
  exact⟨rfl,HB2.out⟩
 | false=>
  have s0:=HXS2.out.at_ 0 rfl
  have s1:=HXS2.out.at_ 1 rfl
  have s2:=HXS2.out.at_ 2 rfl
  have c0:=HXC2.out.at_ 0 rfl
  have c1:=HXC2.out.at_ 1 rfl
  have c2:=HXC2.out.at_ 2 rfl
  have c3:=HXC2.out.at_ 3 rfl
  have c4:=HXC2.out.at_ 4 rfl
  have c7:=HXC2.out.at_ 7 rfl
  have c8:=HXC2.out.at_ 8 rfl
  have c9:=HXC2.out.at_ 9 rfl
  have c10:=HXC2.out.at_ 10 rfl
  go_wp2_with fail
  refine(c_Quick (.slice none 0 0) x1 x2 y1 y2 w2).mono ?_
  rintro e w3 ⟨rfl,hb3⟩
  have HXS3:=Kh (bk HXS2 hb3)
  have HXC3:=Kh (bk HXC2 hb3)
  have HB3:=bt HB2 hb3
  clear hb3
  clear s0 s1 s2 c0 c1 c2 c3 c4 c7 c8 c9 c10 HXS2 HXC2 HB2
  by_cases hqk:x2≤400∧y2≤400
  ·rw[decide_eq_true hqk]
   clear hqk
   have s0:=HXS3.out.at_ 0 rfl
   have s1:=HXS3.out.at_ 1 rfl
   have s2:=HXS3.out.at_ 2 rfl
   have c0:=HXC3.out.at_ 0 rfl
   have c1:=HXC3.out.at_ 1 rfl
   have c2:=HXC3.out.at_ 2 rfl
   have c3:=HXC3.out.at_ 3 rfl
   have c4:=HXC3.out.at_ 4 rfl
   have c7:=HXC3.out.at_ 7 rfl
   have c8:=HXC3.out.at_ 8 rfl
   have c9:=HXC3.out.at_ 9 rfl
   have c10:=HXC3.out.at_ 10 rfl
   go_wp2_with fail
   refine(HNW.out trivial w3 HB3.out).mono ?_
   rintro e w4 ⟨hret,hb4⟩
   have HXS4:=Kh (bk HXS3 hb4)
   have HXC4:=Kh (bk HXC3 hb4)
   have HB4:=bt HB3 hb4
   clear hb4
   clear s0 s1 s2 c0 c1 c2 c3 c4 c7 c8 c9 c10 HXS3 HXC3 HB3
   rcases hret with⟨er,her,rfl⟩ |⟨n,wt,M,F,C,X,rfl,hkk,rfl,hmod⟩
   ·have hne:(er != 0)=true:=by rw[bne_iff_ne];exact her
    go_wp2
    go_ret
    exact⟨rfl,HB4.out⟩
   ·have HM4:=Kh hmod
    obtain⟨⟨q1,q2⟩,_,⟨q3,q4⟩,_,_⟩:=Pl.check_ok hmod.check
    have hn0:0<n:=by omega
    have hn1:n≤120:=by omega
    have HCI:=Kh (fun e W=>HCH.out n hn0 hn1 q3 q4 e W)
    have HE4:=Kh (HEL.out n hn0 hn1 w4)
    have hwt:wt≤22:=by have:=check_zero hmod.check;omega
    obtain⟨L,hL⟩:∃ L,wt+1=L:=⟨_,rfl⟩
    have hk1:k - 1=(L:Int):=by omega
    have hw1:IntKind.i64.wrap (L:Int)=(L:Int):=IntWalk.i64_in _ (by omega)
    have HL:=Kh (And.intro hL (And.intro hwt hn0))
    have HRR:=HR.out
    obtain⟨A8,hA8⟩:∃ A8,a.tmod 8=A8:=⟨_,rfl⟩
    obtain⟨B8,hB8⟩:∃ B8,b.tmod 8=B8:=⟨_,rfl⟩
    obtain⟨C4,hC4⟩:∃ C4,c.tmod 4=C4:=⟨_,rfl⟩
    have ta:=tmod8 a
    have tb:=tmod8 b
    have tc:=tmod4 c
    rw[hA8]at ta
    rw[hB8]at tb
    rw[hC4]at tc
    rw[hA8,hB8,hC4]at HE4
    have wa:IntKind.i64.wrap a=a:=IntWalk.i64_in _ (by omega)
    have wb:IntKind.i64.wrap b=b:=IntWalk.i64_in _ (by omega)
    have wc:IntKind.i64.wrap c=c:=IntWalk.i64_in _ (by omega)
    have wd:IntKind.i64.wrap d=d:=IntWalk.i64_in _ (by omega)
    have wA:IntKind.i64.wrap A8=A8:=IntWalk.i64_in _ (by omega)
    have wB:IntKind.i64.wrap B8=B8:=IntWalk.i64_in _ (by omega)
    have wC:IntKind.i64.wrap C4=C4:=IntWalk.i64_in _ (by omega)
    clear hmod hwt hL hkk q1 q2 q3 q4 hn0 hn1 HCH HEL HRR ta tb tc
    have s0:=HXS4.out.at_ 0 rfl
    have s1:=HXS4.out.at_ 1 rfl
    have s2:=HXS4.out.at_ 2 rfl
    have c0:=HXC4.out.at_ 0 rfl
    have c1:=HXC4.out.at_ 1 rfl
    have c2:=HXC4.out.at_ 2 rfl
    have c3:=HXC4.out.at_ 3 rfl
    have c4:=HXC4.out.at_ 4 rfl
    have c7:=HXC4.out.at_ 7 rfl
    have c8:=HXC4.out.at_ 8 rfl
    have c9:=HXC4.out.at_ 9 rfl
    have c10:=HXC4.out.at_ 10 rfl
    go_wp2_with fail
    refine HE4.out.mono ?_
    rintro e w5 ⟨hel,hb5⟩
    rcases hel with rfl |⟨A,B,C2,E,rfl,hG,rA,rB,rC,rE⟩
    ·have HB6:=Kh (fun x=>HB4.out.trans ((hb5.trans (((Below.refl _ w5).alloc (Nat.le_refl _) x).mono hb5.size)).mono HB4.out.size))
     clear hb5 HE4
     go_wp2
     go_ret
     exact⟨rfl,HB6.out _⟩
    ·obtain⟨w6,hw6⟩:∃ w6,w5.alloc (.cells #[.int .i64 A,.int .i64 B,.int .i64 C2,.int .i64 E] 28)=w6:=⟨_,rfl⟩
     obtain⟨XG,hb6⟩:=box1 w5 #[.int .i64 A,.int .i64 B,.int .i64 C2,.int .i64 E] 28
     rw[hw6]at XG hb6
     have hb46:=hb5.trans (hb6.mono hb5.size)
     have HXG6:=Kh XG
     obtain⟨gG,hgG⟩:∃ x,w5.heap.size=x:=⟨_,rfl⟩
     rw[hgG]at HXG6
     have HGG:=Kh (And.intro hG (And.intro rA (And.intro rB (And.intro rC rE))))
     have HM6:=Kh (HM4.out.keep hb46)
     have HL3:=Kh (show L≤1000 by have:=HL.out;omega)
     have HXS6:=Kh (bk HXS4 hb46)
     have HXC6:=Kh (bk HXC4 hb46)
     have HB6:=bt HB4 hb46
     clear hb46 hb5 hb6 XG hG rA rB rC rE HE4 HM4 wa wb wc wd wA wB wC hA8 hB8 hC4
     clear s0 s1 s2 c0 c1 c2 c3 c4 c7 c8 c9 c10 HXS4 HXC4 HB4
     have HPW:=Kh (fun W (hb:Below w6.heap.size w6 W)=>HPO.out W (HB6.out.trans (hb.mono HB6.out.size)) L HL3.out)
     have s0:=HXS6.out.at_ 0 rfl
     have s1:=HXS6.out.at_ 1 rfl
     have s2:=HXS6.out.at_ 2 rfl
     have c0:=HXC6.out.at_ 0 rfl
     have c1:=HXC6.out.at_ 1 rfl
     have c2:=HXC6.out.at_ 2 rfl
     have c3:=HXC6.out.at_ 3 rfl
     have c4:=HXC6.out.at_ 4 rfl
     have c7:=HXC6.out.at_ 7 rfl
     have c8:=HXC6.out.at_ 8 rfl
     have c9:=HXC6.out.at_ 9 rfl
     have c10:=HXC6.out.at_ 10 rfl
     go_upto_region 11 with(fail)
     clear hw6 hgG
     go_cut [9]from 63 to 74 (fun v9 wx=>∃ gp p5 c5,v9=.pointer (some ⟨gp,0,none⟩)∧Blk wx gp 26 #[.slice p5 L c5,.int .i64 x1,.int .i64 x2,.int .i64 y1,.int .i64 y2]∧QL (fun j=>IsQ (plU xa la j)) wx (.slice p5 L c5) L∧Below w6.heap.size w6 wx)
     case first=>
      refine rgX [] (fun W=>W.cell? ⟨gC,0,none⟩=some (.slice pa la ca)∧W.cell? ⟨gS,1,none⟩=some (.int .i64 k)∧W.cell? ⟨gC,1,none⟩=some (.int .i64 x1)∧W.cell? ⟨gC,2,none⟩=some (.int .i64 x2)∧W.cell? ⟨gC,3,none⟩=some (.int .i64 y1)∧W.cell? ⟨gC,4,none⟩=some (.int .i64 y2)) (fun W hb=>⟨cnx hb c0,cnx hb s1,cnx hb c1,cnx hb c2,cnx hb c3,cnx hb c4⟩) (fun HSE hHeld0=>?_)
      clear s0 s1 s2 c0 c1 c2 c3 c4 c7 c8 c9 c10
      refine tkX 0 ?_;refine tkX 1 ?_;refine tkX 2 ?_;refine tkX 3 ?_;refine tkX 4 ?_;refine tkX 6 ?_;refine tkX 7 ?_;refine tkX 8 ?_;refine tkX 9 ?_
      refine rd2X 5 11 rfl rfl (fun K hK=>?_) (fun K hK=>?_)
      ·focus(go_simp;refine(HPW.out _ (Below.refl _ w6).drew).mono ?_;rintro e w7 ⟨⟨v7,rfl,ho7⟩,hb7⟩;obtain⟨p7,c7,rfl⟩:=ho7.ql.sl;have HB7:=Kh ((Below.refl _ w6).drew.trans hb7:Below w6.heap.size w6 w7);have HQ7:=Kh ho7.ql;clear ho7 hb7;(first|with_reducible refine hK.out _ _ ?_ (fun hHeld1=>?_) |(go_wp2_with fail;with_reducible refine hK.out _ _ ?_ (fun hHeld1=>?_))))
       focus((try dsimp only);exact HSE.out _ HB7.out)
       focus(clear hK K;(try simp only[Act.put,lsa,lsz,lss]))
       refine tkX 10 ?_
       refine stX 11 rfl (fun K hK=>?_)
       focus(go_simp;refine hK.out _ _ ?_ (fun hHeld2=>?_))
       focus((try dsimp only);exact HSE.out _ (HB7.out.alloc HB7.out.size _))
       focus(clear hK K;(try simp only[Act.put,lsa,lsz,lss]))
       refine laX 12 rfl (fun K hK=>?_)
       go_simp
       refine hK.out _ _ ?_
       clear hK K
       (try simp only[Act.put,lsa,lsz,lss])
       go_wp2
       go_meet
       exact⟨w7.heap.size,p7,c7,rfl,Blk.new w7 26 #[.slice p7 L c7,.int .i64 x1,.int .i64 x2,.int .i64 y1,.int .i64 y2],HQ7.out.keep (fun _=>IsQ.solid _) ((Below.refl _ _).alloc (Nat.le_refl _) _),HB7.out.alloc HB7.out.size _⟩
      ·focus(go_simp;refine hK.out _ _ ?_ (fun hHeld1=>?_))
       focus((try dsimp only);exact HSE.out _ ((Below.refl _ w6).drew.alloc (Nat.le_refl _) _))
       focus(clear hK K;(try simp only[Act.put,lsa,lsz,lss]))
       refine stX 5 rfl (fun K hK=>?_)
       focus(go_simp;refine(HPW.out _ ((Below.refl _ w6).drew.alloc (Nat.le_refl _) _)).mono ?_;rintro e w7 ⟨⟨v7,rfl,ho7⟩,hb7⟩;obtain⟨p7,c7,rfl⟩:=ho7.ql.sl;have HB7:=Kh (((Below.refl _ w6).drew.alloc (Nat.le_refl _) _).trans (hb7.mono (by simp)):Below w6.heap.size w6 w7);have HQ7:=Kh ho7.ql;have HGT:=Kh ho7.from_;have HXN:=Kh (show Blk w7 w6.heap.size 26 #[.slice none 0 0,.int .i64 0,.int .i64 0,.int .i64 0,.int .i64 0]from(Blk.new w6.drew 26 #[.slice none 0 0,.int .i64 0,.int .i64 0,.int .i64 0,.int .i64 0]).below_ hb7 (by simp));clear ho7 hb7;(first|with_reducible refine hK.out _ _ ?_ (fun hHeld2=>?_) |(go_wp2_with fail;with_reducible refine hK.out _ _ ?_ (fun hHeld2=>?_))))
       focus((try dsimp only);exact HSE.out _ HB7.out)
       focus(clear hK K;(try simp only[Act.put,lsa,lsz,lss]))
       refine tkX 10 ?_
       have n0:=HXN.out.at_ 0 rfl
       have n1:=HXN.out.at_ 1 rfl
       have n2:=HXN.out.at_ 2 rfl
       have n3:=HXN.out.at_ 3 rfl
       have n4:=HXN.out.at_ 4 rfl
       have nf0:=HXN.out.free_ 0
       have nf1:=HXN.out.free_ 1
       have nf2:=HXN.out.free_ 2
       have nf3:=HXN.out.free_ 3
       have nf4:=HXN.out.free_ 4
       refine laX 12 rfl (fun K hK=>?_)
       go_simp
       refine hK.out _ _ ?_
       clear hK K
       (try simp only[Act.put,lsa,lsz,lss])
       go_wp2
       go_meet
       have hst:Stk NotU32 w7 w6.heap.size:=Stk.of HXN.out (by intro v hv;simp at hv;rcases hv with rfl|rfl|rfl|rfl|rfl <;> exact fun _ h=>by cases h)
       have hge:w6.heap.size≤w6.heap.size:=Nat.le_refl _
       exact⟨w6.heap.size,p7,c7,rfl,((((HXN.out.set_ 0 (.slice p7 L c7)).set_ 1 (.int .i64 x1)).set_ 2 (.int .i64 x2)).set_ 3 (.int .i64 y1)).set_ 4 (.int .i64 y2),HQ7.out.boxed (fun _=>IsQ.solid _) (I32.path hst p7 L c7 x1 x2 y1 y2) (but_put5 w7 w6.heap.size _ _ _ _ _) (fun e he=>by have h7:=HGT.out e he;(try simp only[World.alloc,World.drew,Array.size_push]at h7);omega),((((HB7.out.setCell (p:=⟨w6.heap.size,0,none⟩) hge _).setCell (p:=⟨w6.heap.size,1,none⟩) hge _).setCell (p:=⟨w6.heap.size,2,none⟩) hge _).setCell (p:=⟨w6.heap.size,3,none⟩) hge _).setCell (p:=⟨w6.heap.size,4,none⟩) hge _⟩
     case rest=>
     obtain⟨gP,p5,c5',rfl,XP,hq8,hb8⟩:=hcut
     obtain⟨w8,rfl⟩:∃ w8:World,w8=wc:=⟨_,rfl⟩
     have HXG8:=Kh (bk HXG6 hb8)
     have HXP8:=Kh XP
     have HM8:=Kh (HM6.out.keep hb8)
     have HQ8:=Kh (show QL (fun j=>IsQ (plU xa la j)) w8 (.slice p5 L c5') (wt+1)by rw[HL.out.1];exact hq8)
     have HXS8:=Kh (bk HXS6 hb8)
     have HXC8:=Kh (bk HXC6 hb8)
     have HB8:=bt HB6 hb8
     clear XP hq8 hb8 HXG6 HM6 HPW HL3 hk1 hw1
     clear s0 s1 s2 c0 c1 c2 c3 c4 c7 c8 c9 c10 HXS6 HXC6 HB6
     have s0:=HXS8.out.at_ 0 rfl
     have s1:=HXS8.out.at_ 1 rfl
     have s2:=HXS8.out.at_ 2 rfl
     have c0:=HXC8.out.at_ 0 rfl
     have c1:=HXC8.out.at_ 1 rfl
     have c2:=HXC8.out.at_ 2 rfl
     have c3:=HXC8.out.at_ 3 rfl
     have c4:=HXC8.out.at_ 4 rfl
     have c7:=HXC8.out.at_ 7 rfl
     have c8:=HXC8.out.at_ 8 rfl
     have c9:=HXC8.out.at_ 9 rfl
     have c10:=HXC8.out.at_ 10 rfl
     have p0:=HXP8.out.at_ 0 rfl
     have p1:=HXP8.out.at_ 1 rfl
     have p2:=HXP8.out.at_ 2 rfl
     have p3:=HXP8.out.at_ 3 rfl
     have p4:=HXP8.out.at_ 4 rfl
     have g0:=HXG8.out.at_ 0 rfl
     have g1:=HXG8.out.at_ 1 rfl
     have g2:=HXG8.out.at_ 2 rfl
     have g3:=HXG8.out.at_ 3 rfl
     go_wp2_with fail
     refine(HC1.out M n wt D F C X w8 (.slice p5 L c5') HB8.out HM8.out HQ8.out).mono ?_
     rintro e w9 ⟨hr9,hb9⟩
     obtain⟨pu,nu,cu,eu,rfl,hiu,hgu⟩:=hr9.uni
     have HIu:=Kh hiu
     have HGu:=Kh (fun h=>hgu h)
     have HXG9:=Kh (bk HXG8 hb9)
     have HXP9:=Kh (bk HXP8 hb9)
     have HM9:=Kh (HM8.out.keep hb9)
     have HQ9:=Kh (show QL (fun j=>IsQ (plU xa la j)) w9 (.slice p5 L c5') L by have h7:=HQ8.out.keep (fun _=>IsQ.solid _) hb9;rw[HL.out.1]at h7;exact h7)
     have HXS9:=Kh (bk HXS8 hb9)
     have HXC9:=Kh (bk HXC8 hb9)
     have HB9:=bt HB8 hb9
     clear hr9 hb9 hiu hgu HXG8 HXP8 HM8 HQ8 p0 p1 p2 p3 p4 g0 g1 g2 g3
     clear s0 s1 s2 c0 c1 c2 c3 c4 c7 c8 c9 c10 HXS8 HXC8 HB8
     have ht:=HTR.out L A B C2 E
     have hEr:=err_g (L:=L) (x1:=x1) (x2:=x2) (y1:=y1) (y2:=y2) (by have:=HL.out;omega) (by have:=HL.out;omega) HGG.out.1.det HGG.out.2.1 HGG.out.2.2.1 HGG.out.2.2.2.1 HGG.out.2.2.2.2
     obtain⟨er,her⟩:∃ er,trErr L A B C2 E x1 x2 y1 y2=er:=⟨_,rfl⟩
     rw[her]at ht hEr
     obtain⟨N0,hN0⟩:∃ N0,(if er=0 then L else 0)=N0:=⟨_,rfl⟩
     obtain⟨AA,hAA⟩:∃ AA,(if er=0 then(appV A B C2 E x1 x2).1 else(0,0))=AA:=⟨_,rfl⟩
     obtain⟨BB,hBB⟩:∃ BB,(if er=0 then(appV A B C2 E y1 y2).1 else(0,0))=BB:=⟨_,rfl⟩
     obtain⟨f,hf⟩:∃ f:Nat→Rat,subst (fun i=>Rat.divInt (plU xa la i).num ((plU xa la i).den:Int)) (L - 1) E (-B) (-C2) A L=f:=⟨_,rfl⟩
     rw[hN0,hAA,hBB,hf]at ht
     have HTK:=Kh (ht p5 c5' w9 (HQ9.out.isB (fun j _=>HPS.out j)))
     have HER:=Kh hEr
     have HNN:=Kh hN0
     have HAA:=Kh hAA
     have HBB:=Kh hBB
     have HF:=Kh hf
     clear ht hEr her hN0 hAA hBB hf HTR
     have s0:=HXS9.out.at_ 0 rfl
     have s1:=HXS9.out.at_ 1 rfl
     have s2:=HXS9.out.at_ 2 rfl
     have c0:=HXC9.out.at_ 0 rfl
     have c1:=HXC9.out.at_ 1 rfl
     have c2:=HXC9.out.at_ 2 rfl
     have c3:=HXC9.out.at_ 3 rfl
     have c4:=HXC9.out.at_ 4 rfl
     have c7:=HXC9.out.at_ 7 rfl
     have c8:=HXC9.out.at_ 8 rfl
     have c9:=HXC9.out.at_ 9 rfl
     have c10:=HXC9.out.at_ 10 rfl
     have p0:=HXP9.out.at_ 0 rfl
     have p1:=HXP9.out.at_ 1 rfl
     have p2:=HXP9.out.at_ 2 rfl
     have p3:=HXP9.out.at_ 3 rfl
     have p4:=HXP9.out.at_ 4 rfl
     have g0:=HXG9.out.at_ 0 rfl
     have g1:=HXG9.out.at_ 1 rfl
     have g2:=HXG9.out.at_ 2 rfl
     have g3:=HXG9.out.at_ 3 rfl
     go_wp2_with fail
     refine HTK.out.mono ?_
     rintro e wt10 ⟨⟨pT,cT,rfl,hqT,_⟩,hb10⟩
     obtain⟨wb,hwb⟩:∃ wb,wt10.alloc (.cells #[.slice pT N0 cT,.int .i64 AA.1,.int .i64 AA.2,.int .i64 BB.1,.int .i64 BB.2] 26)=wb:=⟨_,rfl⟩
     obtain⟨XT,hb11⟩:=box1 wt10 #[.slice pT N0 cT,.int .i64 AA.1,.int .i64 AA.2,.int .i64 BB.1,.int .i64 BB.2] 26
     rw[hwb]at XT hb11
     have hb9b:=hb10.trans (hb11.mono hb10.size)
     have HXT:=Kh XT
     obtain⟨gT,hgT⟩:∃ x,wt10.heap.size=x:=⟨_,rfl⟩
     rw[hgT]at HXT
     have HQT:=Kh (hqT.keep (fun _=>IsQ.solid _) hb11)
     have HXS11:=Kh (bk HXS9 hb9b)
     have HXG11:=Kh (bk HXG9 hb9b)
     have HM11:=Kh (HM9.out.keep hb9b)
     have HB11:=bt HB9 hb9b
     have HE9:=Kh hb9b
     clear s0 s1 s2 c0 c1 c2 c3 c4 c7 c8 c9 c10 p0 p1 p2 p3 p4 g0 g1 g2 g3 XT hqT hb10 hb11 hb9b HXS9 HXC9 HXG9 HXP9 HM9 HB9 HQ9 HTK
     by_cases hu:eu=0
     ·have hun:(eu != 0)=false:=by rw[hu];rfl
      have hcu:=HIu.out.1 hu
      rcases HER.out.2 hcu.1 hcu.2 with⟨h0,i1,i2,i3,i4⟩|h7
      ·subst h0
       have hN:N0=L:=HNN.out.symm.trans (if_pos rfl)
       subst hN
       have eA:AA=img A B C2 E (x1,x2):=by rw[← HAA.out,if_pos rfl];exact i1
       have eB:BB=img A B C2 E (y1,y2):=by rw[← HBB.out,if_pos rfl];exact i2
       have hcA:cuspE AA.1 AA.2=0:=by rw[eA];exact i3
       have hcB:cuspE BB.1 BB.2=0:=by rw[eB];exact i4
       obtain⟨⟨bA1,bA2⟩,⟨bA3,bA4⟩,_⟩:=cuspE_zero hcA
       obtain⟨⟨bB1,bB2⟩,⟨bB3,bB4⟩,_⟩:=cuspE_zero hcB
       have eU:(fun i=>Rat.divInt (plU xa la i).num ((plU xa la i).den:Int))=plU xa la:=funext fun i=>Rat.num_divInt_den _
       have eF:f=subst (plU xa la) wt E (-B) (-C2) A (wt+1):=by rw[← HF.out,eU,← HL.out.1];rfl
       have hsz:∀ j,j<wt+1→hq (f j)≤4000:=fun j _=>by
        have h1:=HGG.out
        rw[eF]
        exact hq_subst (fun i _=>HPS.out i) (nd_abs (B:=1000000) (by omega) (by decide)) (nd_abs (B:=1000000) (by omega) (by decide)) (nd_abs (B:=1000000) (by omega) (by decide)) (nd_abs (B:=1000000) (by omega) (by decide)) (by have:=HL.out;omega) (by have:=HL.out;omega)
       have HC2:=Kh (c_CoordQ (HT.out.below HB11.out) HM11.out (.slice pT N0 cT) f AA.1 AA.2 BB.1 BB.2 (by rw[HL.out.1];exact HQT.out) hsz (by omega) (by omega) (by omega) (by omega) (by omega) (by omega) (by omega) (by omega))
       obtain⟨sg,hsg,hchi,hch1⟩:=chi_g HM11.out.check HGG.out.1
       obtain⟨ch,hch⟩:∃ ch,Pl.kroP D sg=ch:=⟨_,rfl⟩
       have HCMP:=Kh (show ∀ fr,fr∈F→Pot (stepQ n wt D (fun i=>X i fr) f) (BB.1,BB.2) - Pot (stepQ n wt D (fun i=>X i fr) f) (AA.1,AA.2)=(ch:Rat)*(Pot (stepQ n wt D (fun i=>X i fr) (plU xa la)) (y1,y2) - Pot (stepQ n wt D (fun i=>X i fr) (plU xa la)) (x1,x2))from fun fr hfr=>by
        have h1:=pot_img (Q:=plU xa la) HM11.out.check (HM11.out.rel fr hfr) HGG.out.1 hsg.1 hsg.2.1 hsg.2.2.1 hsg.2.2.2 (u:=(x1,x2)) (v:=(y1,y2)) hcu.1 hcu.2
        rw[← eA,← eB,← eF,hch]at h1
        exact h1)
       rw[hch]at hchi hch1
       have HCV:=Kh hchi
       have hch2:-2147483648≤ch∧ch≤2147483648:=by omega
       have HQC:=Kh (fun W=>c_Q ch W hch2.1 hch2.2)
       have HCC:=Kh (And.intro hcA hcB)
       clear bA1 bA2 bA3 bA4 bB1 bB2 bB3 bB4 eU eF hsz hsg hchi hch hch2 i1 i2 i3 i4 eA eB hcA hcB HER HNN HAA HBB HF HPS HIu hcu
       have t0:=HXT.out.at_ 0 rfl
       have t1:=HXT.out.at_ 1 rfl
       have t2:=HXT.out.at_ 2 rfl
       have t3:=HXT.out.at_ 3 rfl
       have t4:=HXT.out.at_ 4 rfl
       go_wp2_with fail
       refine HC2.out.mono ?_
       rintro e w12 ⟨hr12,hb12⟩
       obtain⟨pw,nw,cw,ew,rfl,hiw,hgw⟩:=hr12.uni
       obtain rfl:ew=0:=hiw.2 HCC.out
       obtain⟨gw,rfl,rfl,rfl,_,rw',_⟩:=hgw rfl
       obtain⟨gu,rfl,rfl,rfl,_,ru,su⟩:=HGu.out hu
       obtain⟨V,hV⟩:∃ V:Nat→Rat,∀ j,Pot (stepQ n wt D (fun i=>X i (F.getD j 0)) (plU xa la)) (y1,y2) - Pot (stepQ n wt D (fun i=>X i (F.getD j 0)) (plU xa la)) (x1,x2)=V j:=⟨_,fun _=>rfl⟩
       obtain⟨U,hU⟩:∃ U:Nat→Rat,∀ j,Pot (stepQ n wt D (fun i=>X i (F.getD j 0)) f) (BB.1,BB.2) - Pot (stepQ n wt D (fun i=>X i (F.getD j 0)) f) (AA.1,AA.2)=U j:=⟨_,fun _=>rfl⟩
       have HUV:=Kh (show ∀ j,j<F.length→U j=(ch:Rat)*V j from fun j hj=>by
        rw[← hU,← hV]
        exact HCMP.out _ (by rw[List.getD_eq_getElem?_getD,List.getElem?_eq_getElem hj];exact List.getElem_mem hj))
       simp only[hV]at ru su
       simp only[hU]at rw'
       have hb912:=HE9.out.trans (hb12.mono HE9.out.size)
       have HRV:=Kh (ru.keep (fun _=>IsQ.solid _) hb912)
       have HRW:=Kh rw'
       have HSV:=Kh su
       have HXS12:=Kh (bk HXS11 hb12)
       have HXG12:=Kh (bk HXG11 hb12)
       have HM12:=Kh (HM11.out.keep hb12)
       have HB12:=bt HB11 hb12
       clear ru su rw' hV hU hb912 hb12 hiw hgw hr12 HCMP HE9 HGu HXS11 HXG11 HM11 HB11 HQT HXT HC1 HC2 HCC t0 t1 t2 t3 t4
       have s0:=HXS12.out.at_ 0 rfl
       have s1:=HXS12.out.at_ 1 rfl
       have s2:=HXS12.out.at_ 2 rfl
       have g3:=HXG12.out.at_ 3 rfl
       go_wp2_with fail
       refine(HCI.out E w12).mono ?_
       rintro e w13 ⟨rfl,hb13⟩
       rw[HCV.out]
       go_wp2_with fail
       refine(HQC.out w13).mono ?_
       rintro e w14 ⟨⟨s5,p5,n5,c5,t5,q5,m5,d5,rfl,hqc⟩,hb14⟩
       obtain⟨w15,hw15⟩:∃ w15,w14.alloc (.cells #[.bool s5,.slice p5 n5 c5,.bool t5,.slice q5 m5 d5] 67)=w15:=⟨_,rfl⟩
       obtain⟨XX,hb15⟩:=box1 w14 #[.bool s5,.slice p5 n5 c5,.bool t5,.slice q5 m5 d5] 67
       rw[hw15]at XX hb15
       obtain⟨gX,hgX⟩:∃ x,w14.heap.size=x:=⟨_,rfl⟩
       have hb1215:=hb13.trans ((hb14.trans (hb15.mono hb14.size)).mono hb13.size)
       have HXX:=Kh XX
       rw[hgX]at HXX
       have HQ5:=Kh (hqc.keep hb15)
       have HRV5:=Kh (HRV.out.keep (fun _=>IsQ.solid _) hb1215)
       have HRW5:=Kh (HRW.out.keep (fun _=>IsQ.solid _) hb1215)
       have HM15:=Kh (HM12.out.keep hb1215)
       have HB15:=bt HB12 hb1215
       have HFL:=Kh HM15.out.len
       have HDI:=Kh (c_Dim M w15.heap.size n ((wt:Int)+2) D F C X w15 HM15.out.mod)
       clear XX hqc hb13 hb14 hb15 hb1215 HRV HRW HM12 HB12 HXS12 HXG12 HCI HQC s0 s1 s2 g3
       obtain⟨FL,hFL⟩:∃ FL,F.length=FL:=⟨_,rfl⟩
       rw[hFL]at HRV5 HRW5 HFL HDI HSV HUV ⊢
       clear hFL
       go_wp2_with fail
       refine HDI.out.mono ?_
       rintro e w' ⟨rfl,hw'⟩
       obtain rfl:w15=w':=hw'.symm
       clear hw' HDI hw15 hgX HCV HM15
       go_wp2_with fail
       go_loopw [17] (fun ii wr=>∃ j:Nat,j≤FL∧ii=.int .i64 j∧Below w15.heap.size w15 wr) (fun ii _=>FL - (intOf ii).toNat)
       case atStart=>exact⟨0,Nat.zero_le _,rfl,Below.refl _ _⟩
       case round=>
        obtain⟨j,hj,rfl,hbe⟩:=hrel
        obtain⟨we,rfl⟩:∃ we:World,we=wr:=⟨_,rfl⟩
        have HBE:=Kh hbe
        have hflb:FL≤72:=HFL.out
        by_cases hlt:j<FL
        ·have hji:(j:Int)<(FL:Int):=by omega
         obtain⟨s1,p1,n1,c1,t1,q1,m1,d1,a0,a1,a2,a3,hqx⟩:=(HRW5.out.val j hlt).keep (IsQ.solid _) hbe
         obtain⟨s2,p2,n2,c2,t2,q2,m2,d2,e0,e1,e2,e3,hqy⟩:=(HRV5.out.val j hlt).keep (IsQ.solid _) hbe
         have XXe:=bk HXX hbe
         have b0:=XXe.at_ 0 rfl
         have b1:=XXe.at_ 1 rfl
         have b2:=XXe.at_ 2 rfl
         have b3:=XXe.at_ 3 rfl
         obtain⟨y,hy⟩:∃ y,V j=y:=⟨_,rfl⟩
         have hux:=HUV.out j hlt
         have hsy:=HSV.out j hlt
         rw[hy]at hux hsy
         have hqy':Qs we s2 p2 n2 c2 t2 q2 m2 d2 y:=hy▸hqy
         have hqx':Qs we s1 p1 n1 c1 t1 q1 m1 d1 ((ch:Rat)*y):=hux▸hqx
         have hq5:=HQ5.out.keep hbe
         have hhc:hq (ch:Rat)≤4:=by
          rcases hch1 with h|h <;> rw[h] <;> decide +kernel
         have hhm:hq ((ch:Rat)*y)≤1000000000:=by
          have:=hq_mul (ch:Rat) y
          omega
         have HMU:=Kh (fun W (hb:Below we.heap.size we W)=>c_qMulQ s5 p5 n5 c5 t5 q5 m5 d5 (ch:Rat) s2 p2 n2 c2 t2 q2 m2 d2 y W (hq5.keep hb) (hqy'.keep hb) (by omega) (by omega))
         have HSR:=Kh (fun W s p n c t q m d (hb:Below we.heap.size we W) (h7:Qs W s p n c t q m d ((ch:Rat)*y))=>c_SameRat s1 p1 n1 c1 t1 q1 m1 d1 ((ch:Rat)*y) s p n c t q m d ((ch:Rat)*y) W (hqx'.keep hb) h7 (by omega))
         simp only[decide_true]at HSR
         clear hbe hqx hqy hqx' hqy' hq5 hux hsy hy hhc hhm XXe
         go_upto_region 25 with(fail)
         refine rgX [11] (fun W=>W.cell? ⟨gw,j*4,none⟩=some (.bool s1)∧W.cell? ⟨gw,j*4+1,none⟩=some (.slice p1 n1 c1)∧W.cell? ⟨gw,j*4+2,none⟩=some (.bool t1)∧W.cell? ⟨gw,j*4+3,none⟩=some (.slice q1 m1 d1)∧W.cell? ⟨gX,0,none⟩=some (.bool s5)∧W.cell? ⟨gX,1,none⟩=some (.slice p5 n5 c5)∧W.cell? ⟨gX,2,none⟩=some (.bool t5)∧W.cell? ⟨gX,3,none⟩=some (.slice q5 m5 d5)∧W.cell? ⟨gu,j*4,none⟩=some (.bool s2)∧W.cell? ⟨gu,j*4+1,none⟩=some (.slice p2 n2 c2)∧W.cell? ⟨gu,j*4+2,none⟩=some (.bool t2)∧W.cell? ⟨gu,j*4+3,none⟩=some (.slice q2 m2 d2)) (fun W hb=>⟨cnx hb a0,cnx hb a1,cnx hb a2,cnx hb a3,cnx hb b0,cnx hb b1,cnx hb b2,cnx hb b3,cnx hb e0,cnx hb e1,cnx hb e2,cnx hb e3⟩) (fun HSE hHeld0=>?_)
         refine tkX 0 ?_;refine tkX 1 ?_;refine tkX 2 ?_;refine tkX 3 ?_;refine tkX 4 ?_;refine tkX 5 ?_;refine tkX 6 ?_;refine tkX 7 ?_;refine tkX 8 ?_
         refine stX 9 rfl (fun K hK=>?_)
         focus(go_simp;refine(HMU.out _ (Below.refl _ we).drew).mono ?_;rintro e w7 ⟨⟨s6,p6,n6,c6,t6,q6,m6,d6,rfl,hq6⟩,hb6⟩;have HB7:=Kh ((Below.refl _ we).drew.trans hb6:Below we.heap.size we w7);have HQ6:=Kh hq6;clear hq6 hb6;(first|with_reducible refine hK.out _ _ ?_ (fun hHeld1=>?_) |(go_wp2_with fail;with_reducible refine hK.out _ _ ?_ (fun hHeld1=>?_))))
         focus((try dsimp only);exact HSE.out _ HB7.out)
         focus(clear hK K;(try simp only[Act.put,lsa,lsz,lss]))
         refine snX 10 rfl (fun K hK=>?_)
         focus(go_simp;refine(HSR.out _ _ _ _ _ _ _ _ _ HB7.out HQ6.out).mono ?_;rintro e w8 ⟨rfl,hb8⟩;have HB8:=bt HB7 hb8;clear hb8;(first|with_reducible refine hK.out _ _ ?_ |(go_wp2_with fail;with_reducible refine hK.out _ _ ?_)))
         clear hK K
         (try simp only[Act.put,lsa,lsz,lss])
         refine tkJ 11 ?_
         refine dnX ?_
         go_wp2
         go_roundw
         case rel=>exact⟨j+1,by omega,by go_num,HBE.out.trans (HB8.out.mono HBE.out.size)⟩
         case measure=>simp[intOf];omega
        ·obtain rfl:FL=j:=by omega
         clear hbe
         go_wp2
         go_ret
         exact⟨rfl,HB15.out.trans (HBE.out.mono HB15.out.size)⟩
      ·subst h7
       go_wp2
       go_ret
       exact⟨rfl,HB11.out⟩
     ·have hun:(eu != 0)=true:=by rw[bne_iff_ne];exact hu
      have hen:(er != 0)=true:=by
       rw[bne_iff_ne]
       refine HER.out.1 ?_
       have h3:=HIu.out
       rcases Classical.em (cuspE x1 x2=0)with h4|h4
       ·rcases Classical.em (cuspE y1 y2=0)with h5|h5
        ·exact absurd (h3.2 ⟨h4,h5⟩) hu
        ·exact .inr h5
       ·exact .inl h4
      clear HER HIu HGu
      go_wp2
      go_ret
      exact⟨rfl,HB11.out⟩
  ·rw[decide_eq_false hqk]
   go_wp2
   go_ret
   exact⟨rfl,HB3.out⟩
end Go.Proofs.YtijgdhijdfgpfaaGreatDoor
