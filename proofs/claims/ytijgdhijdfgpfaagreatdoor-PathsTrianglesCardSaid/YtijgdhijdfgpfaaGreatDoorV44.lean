/- Translate in all cases, for a list of any size; what the law PathsTwice comes to, plain. -/
import Derived.Test.YtijgdhijdfgpfaaGreatDoorV38
import Derived.Test.YtijgdhijdfgpfaaGreatDoorV22
import Derived.Test.YtijgdhijdfgpfaaGreatDoorV23
import Derived.Test.YtijgdhijdfgpfaaGreatDoorV43
import Derived.Test.YtijgdhijdfgpfaaGreatDoorV39
import Derived.Test.YtijgdhijdfgpfaaGreatDoorV42
set_option linter.unusedSimpArgs false
set_option maxRecDepth 100000
set_option maxHeartbeats 8000000
namespace Go.Proofs.YtijgdhijdfgpfaaGreatDoor
open Go.RowKit Eli
theorem RetP.ok {w w':World} {e:Ending} {n:Nat} {f:Nat→Rat} {X Y:Int×Int} {er:Int} (h:RetP w w' e n f X Y er):
  ∃ pT cT,e=.returned (.tuple #[.agg #[.slice pT (if er=0 then n else 0) cT,.int .i64 ((if er=0 then X else(0,0)).1),.int .i64 ((if er=0 then X else(0,0)).2),.int .i64 ((if er=0 then Y else(0,0)).1),.int .i64 ((if er=0 then Y else(0,0)).2)],.int .i64 er])∧QL (fun j=>IsQ (f j)) w' (.slice pT (if er=0 then n else 0) cT) (if er=0 then n else 0)∧∀ a,pT=some a→w.heap.size≤a.block:=by
 rcases h with⟨h,he⟩ |⟨h,g,cap,he,hg,hr⟩
 ·simp only[if_neg h]
  exact⟨none,0,he,.inl ⟨rfl,_,_,rfl⟩,fun a ha=>by cases ha⟩
 ·subst h
  simp only[if_true]
  exact⟨_,cap,he,hr.ql cap,fun a ha=>by injection ha with ha;subst ha;exact hg⟩
theorem IsQ.isB {K:Nat} {r:Rat} {w:World} {s:Bool} {p:Option Addr} {n c:Nat} {t:Bool} {q:Option Addr} {m d:Nat} (h:IsQ r w s p n c t q m d) (hr:hq r≤K):IsB K r.num r.den w s p n c t q m d:=
 ⟨h.1.raw,h.2.raw,by have:=Qs.sizes h;omega,by have:=Qs.sizes h;omega⟩
theorem QL.isB {K:Nat} {f:Nat→Rat} {w:World} {v:Value} {n:Nat} (h:QL (fun j=>IsQ (f j)) w v n) (hf:∀ j,j<n→hq (f j)≤K):QL (fun j=>IsB K (f j).num (f j).den) w v n:=by
 rcases h with h |⟨g,o,c,h1,h2,h3⟩
 ·exact .inl h
 ·exact .inr ⟨g,o,c,h1,h2,fun j hj=>by
   obtain⟨s,p,k,c',t,q,m,d,e0,e1,e2,e3,hx⟩:=h3 j hj
   exact⟨s,p,k,c',t,q,m,d,e0,e1,e2,e3,IsQ.isB hx (hf j hj)⟩⟩
structure ModR (w:World) (M n wt:Nat) (D:Int) (F:List Nat) (C:Nat) (X:Nat→Nat→Rat):Prop where
 check:Pl.check n ((wt:Int)+2) D=0
 cnt:cntF n wt=C
 len:F.length≤72
 mod:ModAt w M w.heap.size n ((wt:Int)+2) D F C X
 size:∀ j f,j<C→f∈F→hq (X j f)≤10000
 rel:∀ f,f∈F→RelZ n wt D (fun j=>X j f)
def NewR (N k D:Int) (w:World) (e:Ending):Prop:=
 (∃ er,er≠0∧e=.returned (.tuple #[.pointer none,.int .i64 er])) ∨
 ∃ (n wt M:Nat) (F:List Nat) (C:Nat) (X:Nat→Nat→Rat),N=n∧(wt:Int)+2=k∧e=.returned (.tuple #[.pointer (some ⟨M,0,none⟩),.int .i64 0])∧ModR w M n wt D F C X
theorem new_all (N k D:Int) (w:World) (hT:Tab w):∃ lb:Bool,(∀ W,Calls Tryz.prog 14 #[.agg #[.int .i64 N,.int .i64 k,.int .i64 D]] W fun e w'=>e=.returned (.bool lb)∧Below W.heap.size W w') ∧
  (lb=false→∀ W,Below w.heap.size w W→Calls Tryz.prog 16 #[.agg #[.int .i64 N,.int .i64 k,.int .i64 D]] W fun e w'=>NewR N k D w' e∧Below W.heap.size W w'):=by
 by_cases hck:Pl.check N k D=0
 ·obtain⟨h1,h2,h3,h4,_,_⟩:=check_zero hck
  obtain⟨n,rfl⟩:∃ n:Nat,N=n:=⟨N.toNat,by omega⟩
  obtain⟨wt,rfl⟩:∃ wt:Nat,k=(wt:Int)+2:=⟨(k - 2).toNat,by omega⟩
  refine⟨_,fun W=>c_Large n wt D W hck,fun hl W hb=>?_⟩
  have hC:cntF n wt≤72:=by have h:=of_decide_eq_false hl;unfold cntF;omega
  refine(c_New n wt D W (hT.below hb) hck hC).mono ?_
  rintro e w' ⟨⟨M,rfl,_,hm⟩,hb2⟩
  exact⟨.inr ⟨n,wt,M,_,_,_,rfl,rfl,rfl,⟨hck,rfl,Nat.le_trans (frs_length _ _) hC,hm,fun j f hj hf=>Nat.le_trans (coord_size (by omega) hC hj hf) (by omega),fun f hf=>relZ_of (by omega) hf⟩⟩,hb2⟩
 ·refine⟨false,fun W=>c_Large_bad N k D W hck,fun _ W _=>(c_New_check N k D W hck).mono ?_⟩
  rintro e w' ⟨rfl,hb⟩
  exact⟨.inl ⟨_,hck,rfl⟩,hb⟩
theorem ModR.keep {w w':World} {M n wt:Nat} {D:Int} {F:List Nat} {C:Nat} {X:Nat→Nat→Rat} (h:ModR w M n wt D F C X) (hb:Below w.heap.size w w'):ModR w' M n wt D F C X:=
 ⟨h.check,h.cnt,h.len,(h.mod.keep (Nat.le_refl _) hb).up hb.size,h.size,h.rel⟩
theorem QL.sl {F:Nat→FP} {w:World} {v:Value} {n:Nat} (h:QL F w v n):∃ p c,v=.slice p n c:=by
 rcases h with⟨h,a,c,e⟩ |⟨g,o,c,e,_⟩
 ·exact⟨a,c,by rw[e,h]⟩
 ·exact⟨_,c,e⟩
theorem QL.imp2 {f g:Nat→Rat} {w:World} {v:Value} {n:Nat} (h:QL (fun j=>IsQ (f j)) w v n) (e:∀ j,j<n→f j=g j):QL (fun j=>IsQ (g j)) w v n:=by
 rcases h with h |⟨b,o,c,h1,h2,h3⟩
 ·exact .inl h
 ·exact .inr ⟨b,o,c,h1,h2,fun j hj=>by show QE (IsQ (g j)) w b (o+j*4);rw[← e j hj];exact h3 j hj⟩
theorem QL.isS4 {f:Nat→Rat} {w:World} {v:Value} {n:Nat} (h:QL (fun j=>IsQ (f j)) w v n) (hf:∀ j,j<n→hq (f j)≤4):QL (fun j=>IsR (f j).num (f j).den) w v n:=h.isB hf
theorem c_CoordQ {M n wt:Nat} {D:Int} {F:List Nat} {C:Nat} {X:Nat→Nat→Rat} {w:World} (hT:Tab w) (h:ModR w M n wt D F C X) (v:Value) (f:Nat→Rat) (p q p' q':Int) (hp:QL (fun j=>IsQ (f j)) w v (wt+1)) (hf:∀ j,j<wt+1→hq (f j)≤4)
  (hp1:-9223372036854775808≤p) (hp2:p≤9223372036854775807) (hq1:-9223372036854775808≤q) (hq2:q≤9223372036854775807) (hr1:-9223372036854775808≤p') (hr2:p'≤9223372036854775807) (hs1:-9223372036854775808≤q') (hs2:q'≤9223372036854775807):
  Calls Tryz.prog 18 #[.pointer (some ⟨M,0,none⟩),.agg #[v,.int .i64 p,.int .i64 q,.int .i64 p',.int .i64 q']] w fun e w'=>CoRet w w' e p q p' q' n wt D F X f∧Below w.heap.size w w':=by
 have h1:=c_Coord M w.heap.size n wt D F C X v (fun j=>(f j).num) (fun j=>(f j).den) p q p' q' w hT h.check h.cnt h.len h.mod (Nat.le_refl _) h.size h.rel (hp.isS4 hf) hp1 hp2 hq1 hq2 hr1 hr2 hs1 hs2
 have e:(fun i=>Rat.divInt (f i).num ((f i).den:Int))=f:=funext fun i=>Rat.num_divInt_den (f i)
 rw[e]at h1
 exact h1
theorem c_lawTg (N k D:Int) (pa:Option Addr) (la ca:Nat) (xa:Nat→Int) (x1 x2 y1 y2 z1 z2 a b c d:Int) (w:World) (hT:Tab w)
  (hpa:∀ k,k<la→∃ g o,pa=some ⟨g,o,none⟩∧g<w.heap.size∧w.cell? ⟨g,o+k,none⟩=some (.int .i8 (xa k))) (hxa:∀ k,k<la→-128≤xa k∧xa k≤127) (hx1:-9223372036854775808≤x1) (hx1':x1≤9223372036854775807) (hx2:-9223372036854775808≤x2) (hx2':x2≤9223372036854775807) (hy1:-9223372036854775808≤y1) (hy1':y1≤9223372036854775807) (hy2:-9223372036854775808≤y2) (hy2':y2≤9223372036854775807) (hz1:-9223372036854775808≤z1) (hz1':z1≤9223372036854775807) (hz2:-9223372036854775808≤z2) (hz2':z2≤9223372036854775807):
  Calls Tryz.prog 4 #[.agg #[.int .i64 N,.int .i64 k,.int .i64 D],.agg #[.slice pa la ca,.int .i64 x1,.int .i64 x2,.int .i64 y1,.int .i64 y2,.int .i64 z1,.int .i64 z2,.int .i8 a,.int .i8 b,.int .i8 c,.int .i8 d]] w fun e w'=>e=.returned (.bool true)∧Below w.heap.size w w':=by
 obtain⟨lb,hla,hnw⟩:=new_all N k D w hT
 have HLA:=Kh hla
 have HNW:=Kh hnw
 have HPO:=Kh (fun W (hb:Below w.heap.size w W) (m:Nat) (hm:m≤1000)=>c_Poly pa la ca xa m W (fun k hk=>by obtain⟨g,o,e,hg,hc⟩:=hpa k hk;exact⟨g,o,e,Nat.lt_of_lt_of_le hg hb.size,(hb.cell (p:=⟨g,o+k,none⟩) hg).trans hc⟩) hxa hm)
 have HPS:=Kh (show ∀ j,hq (plU xa la j)≤4 from fun j=>Nat.le_trans (plU_size hxa) (by decide))
 have HT:=Kh hT
 have HC1:=Kh (fun(M n wt:Nat) (D:Int) (F:List Nat) (C:Nat) (X:Nat→Nat→Rat) (W:World) (v:Value) (hb:Below w.heap.size w W) (hm:ModR W M n wt D F C X) (hq:QL (fun j=>IsQ (plU xa la j)) W v (wt+1))=>And.intro (c_CoordQ (hT.below hb) hm v (plU xa la) x1 x2 y1 y2 hq (fun j _=>Nat.le_trans (plU_size hxa) (by decide)) hx1 hx1' hx2 hx2' hy1 hy1' hy2 hy2') (And.intro (c_CoordQ (hT.below hb) hm v (plU xa la) y1 y2 z1 z2 hq (fun j _=>Nat.le_trans (plU_size hxa) (by decide)) hy1 hy1' hy2 hy2' hz1 hz1' hz2 hz2') (And.intro (c_CoordQ (hT.below hb) hm v (plU xa la) z1 z2 x1 x2 hq (fun j _=>Nat.le_trans (plU_size hxa) (by decide)) hz1 hz1' hz2 hz2' hx1 hx1' hx2 hx2') (c_CoordQ (hT.below hb) hm v (plU xa la) x1 x2 x1 x2 hq (fun j _=>Nat.le_trans (plU_size hxa) (by decide)) hx1 hx1' hx2 hx2' hx1 hx1' hx2 hx2'))))
 clear hT hpa hxa hla hnw hx1 hx1' hx2 hx2' hy1 hy1' hy2 hy2' hz1 hz1' hz2 hz2'
 go_enter Tryz.func4,Tryz.ntmps4
 go_wp2_with fail
 obtain⟨w0,hw0,XS,XC,hb0⟩:=bx2 w #[.int .i64 N,.int .i64 k,.int .i64 D] 40 #[.slice pa la ca,.int .i64 x1,.int .i64 x2,.int .i64 y1,.int .i64 y2,.int .i64 z1,.int .i64 z2,.int .i8 a,.int .i8 b,.int .i8 c,.int .i8 d] 44
 rw[hw0]
 refine(c_awake42 w0 (HT.out.below hb0)).mono ?_
 rintro e wk ⟨rfl,hb1⟩
 obtain⟨gS,hgS⟩:∃ x,w.heap.size=x:=⟨_,rfl⟩
 obtain⟨gC,hgC⟩:∃ x,w.heap.size+1=x:=⟨_,rfl⟩
 have XS1:=XS.below_ hb1 XS.lt
 have XC1:=XC.below_ hb1 XC.lt
 rw[hgC]at XC1 ⊢
 rw[hgS]at XS1 ⊢
 have HXS1:=Kh XS1
 have HXC1:=Kh XC1
 have HB1:=Kh (hb0.trans (hb1.mono hb0.size))
 clear hw0 XS XC hb0 hb1 hgS hgC XS1 XC1
 have s0:=HXS1.out.at_ 0 rfl
 have s1:=HXS1.out.at_ 1 rfl
 have s2:=HXS1.out.at_ 2 rfl
 have c0:=HXC1.out.at_ 0 rfl
 have c1:=HXC1.out.at_ 1 rfl
 have c2:=HXC1.out.at_ 2 rfl
 have c3:=HXC1.out.at_ 3 rfl
 have c4:=HXC1.out.at_ 4 rfl
 have c5:=HXC1.out.at_ 5 rfl
 have c6:=HXC1.out.at_ 6 rfl
 go_wp2_with fail
 refine(HLA.out wk).mono ?_
 rintro e w2 ⟨rfl,hb2⟩
 have HXS2:=Kh (bk HXS1 hb2)
 have HXC2:=Kh (bk HXC1 hb2)
 have HB2:=bt HB1 hb2
 clear hb2
 clear s0 s1 s2 c0 c1 c2 c3 c4 c5 c6 HXS1 HXC1 HB1
 cases lb with
 | true=>
  go_wp2
  go_ret
  exact⟨rfl,HB2.out⟩
 | false=>
  have s0:=HXS2.out.at_ 0 rfl
  have s1:=HXS2.out.at_ 1 rfl
  have s2:=HXS2.out.at_ 2 rfl
  have c0:=HXC2.out.at_ 0 rfl
  have c1:=HXC2.out.at_ 1 rfl
  have c2:=HXC2.out.at_ 2 rfl
  have c3:=HXC2.out.at_ 3 rfl
  have c4:=HXC2.out.at_ 4 rfl
  have c5:=HXC2.out.at_ 5 rfl
  have c6:=HXC2.out.at_ 6 rfl
  go_wp2_with fail
  refine(c_Quick (.slice none 0 0) x1 x2 y1 y2 w2).mono ?_
  rintro e w3 ⟨rfl,hb3⟩
  have HXS3:=Kh (bk HXS2 hb3)
  have HXC3:=Kh (bk HXC2 hb3)
  have HB3:=bt HB2 hb3
  clear hb3
  clear s0 s1 s2 c0 c1 c2 c3 c4 c5 c6 HXS2 HXC2 HB2
  by_cases hqk:x2≤400∧y2≤400
  ·rw[decide_eq_true hqk]
   clear hqk
   have s0:=HXS3.out.at_ 0 rfl
   have s1:=HXS3.out.at_ 1 rfl
   have s2:=HXS3.out.at_ 2 rfl
   have c0:=HXC3.out.at_ 0 rfl
   have c1:=HXC3.out.at_ 1 rfl
   have c2:=HXC3.out.at_ 2 rfl
   have c3:=HXC3.out.at_ 3 rfl
   have c4:=HXC3.out.at_ 4 rfl
   have c5:=HXC3.out.at_ 5 rfl
   have c6:=HXC3.out.at_ 6 rfl
   by_cases hz4:400<z2
   ·go_wp2
    go_ret
    exact⟨rfl,HB3.out⟩
   ·go_wp2_with fail
    refine(HNW.out trivial w3 HB3.out).mono ?_
    rintro e w4 ⟨hret,hb4⟩
    have HXS4:=Kh (bk HXS3 hb4)
    have HXC4:=Kh (bk HXC3 hb4)
    have HB4:=bt HB3 hb4
    clear hb4
    clear s0 s1 s2 c0 c1 c2 c3 c4 c5 c6 HXS3 HXC3 HB3
    clear hz4
    rcases hret with⟨er,her,rfl⟩ |⟨n,wt,M,F,C,X,rfl,hkk,rfl,hmod⟩
    ·have hne:(er != 0)=true:=by rw[bne_iff_ne];exact her
     go_wp2
     go_ret
     exact⟨rfl,HB4.out⟩
    ·have HM4:=Kh hmod
     have hwt:wt≤22:=by have:=check_zero hmod.check;omega
     obtain⟨L,hL⟩:∃ L,wt+1=L:=⟨_,rfl⟩
     have hk1:k - 1=(L:Int):=by omega
     have hw1:IntKind.i64.wrap (L:Int)=(L:Int):=IntWalk.i64_in _ (by omega)
     have HPO4:=Kh (HPO.out w4 HB4.out L (by omega))
     have HL:=Kh hL
     clear hmod hwt hL hkk
     have s0:=HXS4.out.at_ 0 rfl
     have s1:=HXS4.out.at_ 1 rfl
     have s2:=HXS4.out.at_ 2 rfl
     have c0:=HXC4.out.at_ 0 rfl
     have c1:=HXC4.out.at_ 1 rfl
     have c2:=HXC4.out.at_ 2 rfl
     have c3:=HXC4.out.at_ 3 rfl
     have c4:=HXC4.out.at_ 4 rfl
     have c5:=HXC4.out.at_ 5 rfl
     have c6:=HXC4.out.at_ 6 rfl
     go_wp2_with fail
     refine HPO4.out.mono ?_
     rintro e w5 ⟨⟨v5,rfl,ho5⟩,hb5⟩
     have HM5:=Kh (HM4.out.keep hb5)
     have HQ5:=Kh (show QL (fun j=>IsQ (plU xa la j)) w5 v5 (wt+1)by rw[HL.out];exact ho5.ql)
     obtain⟨p5,c5',rfl⟩:=ho5.ql.sl
     have HXS5:=Kh (bk HXS4 hb5)
     have HXC5:=Kh (bk HXC4 hb5)
     have HB5:=bt HB4 hb5
     clear hb5 ho5 hk1 hw1 HM4 HPO4
     clear s0 s1 s2 c0 c1 c2 c3 c4 c5 c6 HXS4 HXC4 HB4
     have s0:=HXS5.out.at_ 0 rfl
     have s1:=HXS5.out.at_ 1 rfl
     have s2:=HXS5.out.at_ 2 rfl
     have c0:=HXC5.out.at_ 0 rfl
     have c1:=HXC5.out.at_ 1 rfl
     have c2:=HXC5.out.at_ 2 rfl
     have c3:=HXC5.out.at_ 3 rfl
     have c4:=HXC5.out.at_ 4 rfl
     have c5:=HXC5.out.at_ 5 rfl
     have c6:=HXC5.out.at_ 6 rfl
     go_wp2_with fail
     refine(HC1.out M n wt D F C X w5 (.slice p5 L c5') HB5.out HM5.out HQ5.out).1.mono ?_
     rintro e w6 ⟨hr6,hb6⟩
     obtain⟨pu,nu,cu,eu,rfl,hiu,hgu⟩:=hr6.uni
     have HIu:=Kh hiu
     have HGu:=Kh (fun h=>hgu h)
     have HM6:=Kh (HM5.out.keep hb6)
     have HQ6:=Kh (HQ5.out.keep (fun _=>IsQ.solid _) hb6)
     have HEu:=Kh hb6
     have HXS6:=Kh (bk HXS5 hb6)
     have HXC6:=Kh (bk HXC5 hb6)
     have HB6:=bt HB5 hb6
     clear hr6 hb6 hiu hgu HM5 HQ5
     clear s0 s1 s2 c0 c1 c2 c3 c4 c5 c6 HXS5 HXC5 HB5
     have s0:=HXS6.out.at_ 0 rfl
     have s1:=HXS6.out.at_ 1 rfl
     have s2:=HXS6.out.at_ 2 rfl
     have c0:=HXC6.out.at_ 0 rfl
     have c1:=HXC6.out.at_ 1 rfl
     have c2:=HXC6.out.at_ 2 rfl
     have c3:=HXC6.out.at_ 3 rfl
     have c4:=HXC6.out.at_ 4 rfl
     have c5:=HXC6.out.at_ 5 rfl
     have c6:=HXC6.out.at_ 6 rfl
     go_wp2_with fail
     refine(HC1.out M n wt D F C X w6 (.slice p5 L c5') HB6.out HM6.out HQ6.out).2.1.mono ?_
     rintro e w7 ⟨hr7,hb7⟩
     obtain⟨pv,nv,cv,ev,rfl,hiv,hgv⟩:=hr7.uni
     have HIv:=Kh hiv
     have HGv:=Kh (fun h=>hgv h)
     have HM7:=Kh (HM6.out.keep hb7)
     have HQ7:=Kh (HQ6.out.keep (fun _=>IsQ.solid _) hb7)
     have HEv:=Kh hb7
     have HXS7:=Kh (bk HXS6 hb7)
     have HXC7:=Kh (bk HXC6 hb7)
     have HB7:=bt HB6 hb7
     clear hr7 hb7 hiv hgv HM6 HQ6
     clear s0 s1 s2 c0 c1 c2 c3 c4 c5 c6 HXS6 HXC6 HB6
     have s0:=HXS7.out.at_ 0 rfl
     have s1:=HXS7.out.at_ 1 rfl
     have s2:=HXS7.out.at_ 2 rfl
     have c0:=HXC7.out.at_ 0 rfl
     have c1:=HXC7.out.at_ 1 rfl
     have c2:=HXC7.out.at_ 2 rfl
     have c3:=HXC7.out.at_ 3 rfl
     have c4:=HXC7.out.at_ 4 rfl
     have c5:=HXC7.out.at_ 5 rfl
     have c6:=HXC7.out.at_ 6 rfl
     go_wp2_with fail
     refine(HC1.out M n wt D F C X w7 (.slice p5 L c5') HB7.out HM7.out HQ7.out).2.2.1.mono ?_
     rintro e w8 ⟨hr8,hb8⟩
     obtain⟨pw,nw,cw,ew,rfl,hiw,hgw⟩:=hr8.uni
     have HIw:=Kh hiw
     have HGw:=Kh (fun h=>hgw h)
     have HM8:=Kh (HM7.out.keep hb8)
     have HQ8:=Kh (HQ7.out.keep (fun _=>IsQ.solid _) hb8)
     have HEw:=Kh hb8
     have HXS8:=Kh (bk HXS7 hb8)
     have HXC8:=Kh (bk HXC7 hb8)
     have HB8:=bt HB7 hb8
     clear hr8 hb8 hiw hgw HM7 HQ7
     clear s0 s1 s2 c0 c1 c2 c3 c4 c5 c6 HXS7 HXC7 HB7
     by_cases hu:eu=0
     ·have hun:(eu != 0)=false:=by rw[hu];rfl
      by_cases hv:ev=0
      ·have hvn:(ev != 0)=false:=by rw[hv];rfl
       have kx:=(HIu.out.1 hu).1
       have kz:=(HIv.out.1 hv).2
       have hw:ew=0:=HIw.out.2 ⟨kz,kx⟩
       have hwn:(ew != 0)=false:=by rw[hw];rfl
       obtain⟨gu,rfl,rfl,rfl,gul,ru,su⟩:=HGu.out hu
       obtain⟨gv,rfl,rfl,rfl,gvl,rv,sv⟩:=HGv.out hv
       obtain⟨gw,rfl,rfl,rfl,gwl,rw',sw⟩:=HGw.out hw
       have HKX:=Kh kx
       have HRU:=Kh (ru.keep (fun _=>IsQ.solid _) (HEv.out.trans (HEw.out.mono HEv.out.size)))
       have HRV:=Kh (rv.keep (fun _=>IsQ.solid _) HEw.out)
       have HRW:=Kh rw'
       have HSU:=Kh su
       have HSV:=Kh sv
       have HSW:=Kh sw
       clear kx kz gul gvl gwl ru rv rw' su sv sw HGu HGv HGw HIu HIv HIw HEu HEv HEw
       have s0:=HXS8.out.at_ 0 rfl
       have s1:=HXS8.out.at_ 1 rfl
       have s2:=HXS8.out.at_ 2 rfl
       have c0:=HXC8.out.at_ 0 rfl
       have c1:=HXC8.out.at_ 1 rfl
       have c2:=HXC8.out.at_ 2 rfl
       have c3:=HXC8.out.at_ 3 rfl
       have c4:=HXC8.out.at_ 4 rfl
       have c5:=HXC8.out.at_ 5 rfl
       have c6:=HXC8.out.at_ 6 rfl
       go_wp2_with fail
       refine(HC1.out M n wt D F C X w8 (.slice p5 L c5') HB8.out HM8.out HQ8.out).2.2.2.mono ?_
       rintro e w9 ⟨hr9,hb9⟩
       obtain⟨px,nx,cx,ex,rfl,hix,hgx⟩:=hr9.uni
       obtain rfl:ex=0:=hix.2 ⟨HKX.out,HKX.out⟩
       obtain⟨gx,rfl,rfl,rfl,gxl,rx,sx⟩:=hgx rfl
       have HRX9:=Kh (show QRow (fun _=>IsQ 0) w9 gx F.length F.length from rx.congr (fun j _=>by rw[show ∀ z:Rat,z - z=0 from fun z=>by grind]))
       have HM9:=Kh (HM8.out.keep hb9)
       have HRU9:=Kh (HRU.out.keep (fun _=>IsQ.solid _) hb9)
       have HRV9:=Kh (HRV.out.keep (fun _=>IsQ.solid _) hb9)
       have HRW9:=Kh (HRW.out.keep (fun _=>IsQ.solid _) hb9)
       have HB9:=bt HB8 hb9
       have HFL:=Kh HM9.out.len
       have HDI:=Kh (c_Dim M w9.heap.size n ((wt:Int)+2) D F C X w9 HM9.out.mod)
       clear s0 s1 s2 c0 c1 c2 c3 c4 c5 c6 hr9 hb9 hix hgx gxl rx sx HM8 HQ8 HRU HRV HRW HB8 HXS8 HXC8 HKX HC1 HNW HPO HLA
       obtain⟨U,hU⟩:∃ U:Nat→Rat,(fun j=>Pot (stepQ n wt D (fun i=>X i (F.getD j 0)) (plU xa la)) (y1,y2) - Pot (stepQ n wt D (fun i=>X i (F.getD j 0)) (plU xa la)) (x1,x2))=U:=⟨_,rfl⟩
       obtain⟨V,hV⟩:∃ V:Nat→Rat,(fun j=>Pot (stepQ n wt D (fun i=>X i (F.getD j 0)) (plU xa la)) (z1,z2) - Pot (stepQ n wt D (fun i=>X i (F.getD j 0)) (plU xa la)) (y1,y2))=V:=⟨_,rfl⟩
       obtain⟨Wr,hWr⟩:∃ Wr:Nat→Rat,(fun j=>Pot (stepQ n wt D (fun i=>X i (F.getD j 0)) (plU xa la)) (x1,x2) - Pot (stepQ n wt D (fun i=>X i (F.getD j 0)) (plU xa la)) (z1,z2))=Wr:=⟨_,rfl⟩
       have HSUM:=Kh (show ∀ j,U j+(V j+Wr j)=0 from fun j=>by rw[← hU,← hV,← hWr];dsimp only;grind)
       have HU9:=Kh (show QRow (fun j=>IsQ (U j)) w9 gu F.length F.length from hU▸HRU9.out)
       have HV9:=Kh (show QRow (fun j=>IsQ (V j)) w9 gv F.length F.length from hV▸HRV9.out)
       have HW9:=Kh (show QRow (fun j=>IsQ (Wr j)) w9 gw F.length F.length from hWr▸HRW9.out)
       have HUS:=Kh (show ∀ j,j<F.length→hq (U j)≤60000000 from hU▸HSU.out)
       have HVS:=Kh (show ∀ j,j<F.length→hq (V j)≤60000000 from hV▸HSV.out)
       have HWS:=Kh (show ∀ j,j<F.length→hq (Wr j)≤60000000 from hWr▸HSW.out)
       have HLT:=Kh (show gu<w9.heap.size∧gv<w9.heap.size∧gw<w9.heap.size from⟨HRU9.out.sts.1,HRV9.out.sts.1,HRW9.out.sts.1⟩)
       clear HRU9 HRV9 HRW9 HSU HSV HSW hU hV hWr
       obtain⟨FL,hFL⟩:∃ FL,F.length=FL:=⟨_,rfl⟩
       rw[hFL]at HRX9 HFL HDI HU9 HV9 HW9 HUS HVS HWS ⊢
       clear hFL
       go_wp2_with fail
       refine HDI.out.mono ?_
       rintro e w' ⟨rfl,hw'⟩
       obtain rfl:w9=w':=hw'.symm
       clear hw'
       go_wp2_with fail
       refine(c_Zeros FL w9 (by have:=HFL.out;omega)).mono ?_
       rintro e w10 ⟨⟨v10,rfl,ho10⟩,hb10⟩
       have HZ10:=Kh ho10.ql
       obtain⟨pz,cz,rfl⟩:=ho10.ql.sl
       have HRX10:=Kh (HRX9.out.keep (fun _=>IsQ.solid _) hb10)
       have HU10:=Kh (HU9.out.keep (fun _=>IsQ.solid _) hb10)
       have HV10:=Kh (HV9.out.keep (fun _=>IsQ.solid _) hb10)
       have HW10:=Kh (HW9.out.keep (fun _=>IsQ.solid _) hb10)
       have HLT10:=Kh (show gu<w10.heap.size∧gv<w10.heap.size∧gw<w10.heap.size by have h1:=HLT.out;have h2:=hb10.size;omega)
       have HB10:=bt HB9 hb10
       clear ho10 hb10 HRX9 HU9 HV9 HW9 HLT HB9 HDI HM9
       go_wp2_with fail
       refine(c_SameRats_eq _ _ FL (fun _=>0) w10 (HRX10.out.ql FL) HZ10.out (by have:=HFL.out;omega) (fun _ _=>by rw[hq_zero];omega)).mono ?_
       rintro e w11 ⟨rfl,hb11⟩
       have HZ11:=Kh (HZ10.out.keep (fun _=>IsQ.solid _) hb11)
       have HSM:=Kh (c_sum gu gv gw FL FL FL FL U V Wr w11 (Nat.lt_of_lt_of_le HLT10.out.1 hb11.size) (Nat.lt_of_lt_of_le HLT10.out.2.1 hb11.size) (Nat.lt_of_lt_of_le HLT10.out.2.2 hb11.size) (HU10.out.keep (fun _=>IsQ.solid _) hb11) (HV10.out.keep (fun _=>IsQ.solid _) hb11) (HW10.out.keep (fun _=>IsQ.solid _) hb11) (by have:=HFL.out;omega) (fun j hj=>Nat.le_trans (HUS.out j hj) (by omega)) (fun j hj=>Nat.le_trans (HVS.out j hj) (by omega)) (fun j hj=>Nat.le_trans (HWS.out j hj) (by omega)))
       have HB11:=bt HB10 hb11
       clear hb11 HRX10 HZ10 HU10 HV10 HW10 HLT10 HB10
       go_wp2_with fail
       refine HSM.out.mono ?_
       rintro e w12 ⟨⟨v12,rfl,ho12⟩,hb12⟩
       have HO12:=Kh (show QL (fun _=>IsQ 0) w12 v12 FL from ho12.ql.imp2 (fun j _=>HSUM.out j))
       have HZ12:=Kh (HZ11.out.keep (fun _=>IsQ.solid _) hb12)
       have HB12:=bt HB11 hb12
       clear hb12 ho12 HSM HZ11 HB11
       go_wp2_with fail
       refine(c_SameRats_eq _ _ FL (fun _=>0) w12 HO12.out HZ12.out (by have:=HFL.out;omega) (fun _ _=>by rw[hq_zero];omega)).mono ?_
       rintro e w13 ⟨rfl,hb13⟩
       have HB13:=bt HB12 hb13
       clear hb13
       go_wp2
       go_ret
       exact⟨rfl,HB13.out⟩
      ·have hvn:(ev != 0)=true:=by rw[bne_iff_ne];exact hv
       clear HGu HGv HGw HIu HIv HIw HEu HEv HEw
       go_wp2
       go_ret
       exact⟨rfl,HB8.out⟩
     ·have hun:(eu != 0)=true:=by rw[bne_iff_ne];exact hu
      clear HGu HGv HGw HIu HIv HIw HEu HEv HEw
      go_wp2
      go_ret
      exact⟨rfl,HB8.out⟩
  ·rw[decide_eq_false hqk]
   go_wp2
   go_ret
   exact⟨rfl,HB3.out⟩
end Go.Proofs.YtijgdhijdfgpfaaGreatDoor
