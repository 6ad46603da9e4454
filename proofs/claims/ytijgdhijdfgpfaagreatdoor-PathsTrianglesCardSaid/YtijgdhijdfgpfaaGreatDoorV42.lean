/- contfrac.Chain in general: a chain of Farey neighbours from one cusp to another. -/
import Derived.Test.YtijgdhijdfgpfaaGreatDoorV41
import Derived.Test.YtijgdhijdfgpfaaGreatDoorV37
import Derived.Test.YtijgdhijdfgpfaaGreatDoorV40
set_option linter.unusedSimpArgs false
set_option maxRecDepth 100000
set_option maxHeartbeats 8000000
namespace Go.Proofs.YtijgdhijdfgpfaaGreatDoor
open Go.RowKit
theorem below_cells {B g:Nat} (hB:B≤g):∀ (vs:List Value) (o:Nat) (w:World),Below B w (w.setCells g o vs)
 | [],_,w=>Below.refl B w
 | v :: vs,o,w=>by
  have h1:Below B w (w.setCell ⟨g,o,none⟩ v):=(Below.refl B w).setCell (p:=⟨g,o,none⟩) hB v
  exact h1.trans (below_cells hB vs (o+1) _)
theorem wpl_appO {P:Program} {W:World} {ops:Array Oper} {rest:List Oper} {o:Oper} {a:Act} {Q:Exit→Act→World→Prop} (hgd:o.guard=none) (s x:Operand) (t E:TypeId)
  (ho:o.op=.call { callee:=.builtin .append,args:=#[s,x],argTypes:=#[t,t] }) {z:Value} {sz bytes:Nat} (hU:P.underlying t=some (.slice E))
  (hinfo:(P.info? E).map (fun i=>(i.zero,i.size,i.bytes))=some (some z,sz,bytes)) (B g of n cp g2 o2 m c2:Nat) (olds news:List Value)
  (hs:a.eval s=.slice (some ⟨g,of,none⟩) n cp) (hx:a.eval x=.slice (some ⟨g2,o2,none⟩) m c2) (hol:olds.length=n*sz) (holds:∀ (j:Nat) (u:Value),olds[j]?=some u→W.cell? ⟨g,of+j,none⟩=some u)
  (hsp:∀ j,j<cp*sz→(W.cell? ⟨g,of+j,none⟩).isSome=true) (hf:∀ i,W.frozen? ⟨g,i,none⟩=false) (hn:news.length=m*sz) (hnew:∀ (j:Nat) (u:Value),news[j]?=some u→W.cell? ⟨g2,o2+j,none⟩=some u) (h1:∀ u∈news,u.oneCell'=true)
  (hb:(n+m)*bytes≤140737488355328) (hm:n+m≤9223372036854775807) (hBg:B≤g) (hBs:B≤W.heap.size) (hg:g<W.heap.size)
  (h:∀ g' o' c' w',(∀ (j:Nat) (u:Value),(olds++news)[j]?=some u→w'.cell? ⟨g',o'+j,none⟩=some u)→g'<w'.heap.size→Below B W w'→wpList P ops Q rest (a.put o.dst (.slice (some ⟨g',o',none⟩) (n+m) c')) w'):
  wpList P ops Q (o :: rest) a W:=by
 obtain⟨i0,hi,hz0,hz1,hz2⟩:=info_parts hinfo
 have hadd:∀ (b k j:Nat),(⟨b,k,none⟩:Addr).add j=⟨b,k+j,none⟩:=fun b k j=>by
  unfold Addr.add
  split
  ·rename_i h0;rw[h0,Nat.add_zero]
  ·simp
 have hsrc:Src P i0.size t (.slice (some ⟨g2,o2,none⟩) m c2) m news W:=Src.ofSlice W hU ⟨g2,o2,none⟩ m c2 news (by rw[hz1];exact hn) (fun j u hj=>by rw[hadd];exact hnew j u hj) h1
 refine wpList_plain hgd fun K' hK'=>?_
 unfold Oper.wp execOp
 by_cases hroom:n+m≤cp
 ·have hbound:n*sz+news.length≤cp*sz:=by rw[hn,← Nat.add_mul];exact Nat.mul_le_mul_right _ hroom
  have hr:=run_append_room_src (P:=P) W t t o.type E i0 hU hi g of n cp (.slice (some ⟨g2,o2,none⟩) m c2) m news hsrc hroom (fun j hj=>by rw[hz1,Nat.add_assoc];exact hsp _ (by omega)) (fun j _=>hf _)
  rw[hz1]at hr
  simp only[ho,resolve,invoke,builtin,Sem.run_bind,Sem.run_pure,Result.andThen_ok,List.map_toArray,List.map_cons,List.map_nil,hs,hx,hr]
  refine hK' _ _ (h g of cp _ (fun j u hj=>?_) ?_ (below_cells hBg news _ W))
  ·rcases Nat.lt_or_ge j olds.length with hlt|hge
   ·rw[List.getElem?_append_left hlt]at hj
    rw[World.cell?_setCells_out g news (of+n*sz) W ⟨g,of+j,none⟩ (fun _ _=>.inl (by dsimp only;omega))]
    exact holds j u hj
   ·rw[List.getElem?_append_right hge]at hj
    obtain⟨hlt2,e⟩:=List.getElem?_eq_some_iff.1 hj
    have h3:=World.cell?_setCells_in g news (of+n*sz) W (fun j hj=>by rw[Nat.add_assoc];exact hsp _ (by omega)) (j - olds.length) hlt2
    rw[show of+n*sz+(j - olds.length)=of+j by omega]at h3
    rw[h3,e]
  ·exact Nat.lt_of_lt_of_le hg (below_cells hBg news _ W).size
 ·have hold:(Builtin.firstCells i0.size n (.slice (some ⟨g,of,none⟩) n cp)).run P W.drew=.ok olds.toArray W.drew:=run_firstCells_some W.drew i0.size n ⟨g,of,none⟩ n cp olds (by rw[hz1];exact hol) (fun j u hj=>by rw[hadd];exact holds j u hj)
  have hr:=run_append_grow_src (P:=P) W t t o.type E i0 z hU hi hz0 (some ⟨g,of,none⟩) n cp olds hold (.slice (some ⟨g2,o2,none⟩) m c2) m news hsrc (by omega) (by omega) (growslice_fits (by omega) (by rw[hz2];exact hb))
  simp only[ho,resolve,invoke,builtin,Sem.run_bind,Sem.run_pure,Result.andThen_ok,List.map_toArray,List.map_cons,List.map_nil,hs,hx,hr]
  refine hK' _ _ (h W.heap.size 0 _ _ (fun j u hj=>?_) ?_ ((Below.refl B W).drew.alloc (by simpa using hBs) _))
  ·have e1:=World.cell?_alloc_new W.drew (((olds++news).toArray++Builtin.zeroCells z.cells (grownCap W (n+m) cp E - (n+m)))) E j
   obtain⟨hlt,e⟩:=List.getElem?_eq_some_iff.1 hj
   rw[Nat.zero_add]
   refine e1.trans ?_
   rw[Array.getElem?_append_left (by simpa using hlt),List.getElem?_toArray]
   exact hj
  ·simp
theorem own_all {K:Value→Prop} {w:World} {B E sz n:Nat} {v:Value} {xs:List Value} (h:OwnK K w B E sz v n xs) (hn:0<n):∃ g cap,v=.slice (some ⟨g,0,none⟩) n cap∧n≤cap∧cap≤9223372036854775807∧B≤g∧g<w.heap.size∧(∀ i,w.frozen? ⟨g,i,none⟩=false)∧(∀ (j:Nat) u,xs[j]?=some u→w.cell? ⟨g,j,none⟩=some u)∧∀ j,j<cap*sz→(w.cell? ⟨g,j,none⟩).isSome=true:=by
 rcases h.1.2 with⟨_,e2⟩ |⟨g,cap,cs,e1,hB,hg,hc,hcm,hcs,_⟩
 ·omega
 ·have hs:=h.2 g (by rw[e1];rfl)
  subst e1
  exact⟨g,cap,rfl,hc,by simp only[maxLen]at hcm;omega,hB,hs.1,fun i=>Blk.free_ hg i,fun j u hu=>own_read h.1 hu,fun j hj=>by rw[Blk.cell_ hg j,Array.getElem?_eq_getElem (by omega)];rfl⟩
theorem ret_len {a:Option Addr} {n m c:Nat} (h:n=m):Ending.returned (.tuple #[.slice a n c,.int .i64 0])=Ending.returned (.tuple #[.slice a m c,.int .i64 0]):=by rw[h]
theorem cusps_cat {w:World} {g o:Nat}:∀ (l:List (Int×Int)),(∀ (j:Nat) (u:Value),(cusps l)[j]?=some u→w.cell? ⟨g,o+j,none⟩=some u)↔CAt w g o l:=by
 intro l
 constructor
 ·intro h j c hc
  have h1:=cusps_get l j c hc
  exact⟨h _ _ h1.1,by rw[Nat.add_assoc];exact h _ _ h1.2⟩
 ·intro h j u hu
  have hlt:=(List.getElem?_eq_some_iff.1 hu).1
  rw[cusps_length]at hlt
  have hd:j / 2<l.length:=by omega
  obtain⟨c,hc⟩:∃ c,l[j / 2]?=some c:=⟨_,List.getElem?_eq_getElem hd⟩
  have h1:=h _ _ hc
  have h2:=cusps_get l _ c hc
  rcases Nat.mod_two_eq_zero_or_one j with hm|hm
  ·have e:j / 2*2=j:=by omega
   rw[e]at h1 h2
   rw[h2.1]at hu
   rw[← hu];exact h1.1
  ·have e:j / 2*2+1=j:=by omega
   have e2:o+j / 2*2+1=o+j:=by omega
   rw[e]at h2
   rw[e2]at h1
   rw[h2.2]at hu
   rw[← hu];exact h1.2
theorem CAt.keep {w w':World} {g o:Nat} {l:List (Int×Int)} (h:CAt w g o l) (hg:g<w.heap.size) (hb:Below w.heap.size w w'):CAt w' g o l:=fun j c hc=>⟨(hb.cell (p:=⟨g,o+j*2,none⟩) hg).trans (h j c hc).1,(hb.cell (p:=⟨g,o+j*2+1,none⟩) hg).trans (h j c hc).2⟩
theorem CAt.drop {w:World} {g o:Nat} {l:List (Int×Int)} (h:CAt w g o l) (d:Nat):CAt w g (o+d*2) (l.drop d):=fun j c hc=>by
 rw[List.getElem?_drop]at hc
 have h1:=h _ _ hc
 rw[show o+(d+j)*2=o+d*2+j*2 by omega]at h1
 exact h1
theorem c_Chain (p q p' q':Int) (w:World) (ha:cuspE p q=0) (hb:cuspE p' q'=0):
  Calls Tryz.prog 46 #[.agg #[.int .i64 p,.int .i64 q],.agg #[.int .i64 p',.int .i64 q']] w fun e w'=>(∃ ch g o cap,e=.returned (.tuple #[.slice (some ⟨g,o,none⟩) ch.length cap,.int .i64 0])∧g<w'.heap.size∧CAt w' g o ch∧ChainOk (p,q) (p',q') ch)∧Below w.heap.size w w':=by
 have HPA:=Kh (fun W=>c_Path p q W ha)
 have HPB:=Kh (fun W=>c_Path p' q' W hb)
 have HJ:=Kh (fun c hc h1 h2 he=>joined (a:=(p,q)) (b:=(p',q')) ha hb (c:=c) hc h1 h2 he)
 have ka:=(pth_ok (x:=(p,q)) ha).1
 have kb:=(pth_ok (x:=(p',q')) hb).1
 obtain⟨ra,hra⟩:∃ r,pthL (p,q)=(1,0) :: r:=⟨_,rfl⟩
 obtain⟨rb,hrb⟩:∃ r,pthL (p',q')=(1,0) :: r:=⟨_,rfl⟩
 obtain⟨A,hA⟩:∃ A,pthL (p,q)=A:=⟨_,rfl⟩
 obtain⟨B,hB⟩:∃ B,pthL (p',q')=B:=⟨_,rfl⟩
 rw[hA]at HPA HJ ka hra
 rw[hB]at HPB HJ kb hrb
 have HAB:=Kh (show A[0]?=B[0]? by rw[hra,hrb];rfl)
 obtain⟨na,hna⟩:∃ n,A.length=n:=⟨_,rfl⟩
 obtain⟨nb,hnb⟩:∃ n,B.length=n:=⟨_,rfl⟩
 rw[hna]at ka HJ
 rw[hnb]at kb HJ
 have hna0:0<na:=by rw[← hna,hra];simp
 have hnb0:0<nb:=by rw[← hnb,hrb];simp
 have HNA:=Kh hna
 have HNB:=Kh hnb
 have HK:=Kh (show na≤62∧nb≤62∧0<na∧0<nb from⟨ka,kb,hna0,hnb0⟩)
 clear ha hb hra hrb hA hB hna hnb ka kb hna0 hnb0 ra rb
 go_enter Tryz.func46,Tryz.ntmps46
 go_wp2_with fail
 obtain⟨w0,hw0,_,XB,hb0⟩:=bx2 w #[.int .i64 p,.int .i64 q] 24 #[.int .i64 p',.int .i64 q'] 24
 rw[hw0]
 refine(HPA.out w0).mono ?_
 rintro e w1 ⟨⟨v1,rfl,hown1⟩,hb1⟩
 have XB1:=XB.below_ hb1 XB.lt
 have x0:=XB1.at_ 0 rfl
 have x1:=XB1.at_ 1 rfl
 obtain⟨g,cap,rfl,hn1,hn2,hg0,hg1,hf1,hc1,hs1⟩:=own_all hown1 (by rw[HNA.out];exact HK.out.2.2.1)
 rw[HNA.out]at hn1 ⊢
 have HC1:=Kh ((cusps_cat A (o:=0)).1 (by simpa using hc1))
 have HF1:=Kh hf1
 have HS1:=Kh hs1
 have HG:=Kh (show w.heap.size≤g from Nat.le_trans hb0.size hg0)
 have HG1:=Kh hg1
 have HB1:=Kh (hb0.trans (hb1.mono hb0.size))
 have HCP:=Kh (show na≤cap∧cap≤9223372036854775807 from⟨hn1,hn2⟩)
 clear hw0 XB hb0 hb1 XB1 hown1 hf1 hc1 hs1 hg0 hg1 hn1 hn2
 go_wp2_with fail
 refine(HPB.out w1).mono ?_
 rintro e w2 ⟨⟨v2,rfl,hown2⟩,hb2⟩
 obtain⟨g2,cap2,rfl,hm1,hm2,hg2,hg3,_,hc2,_⟩:=own_all hown2 (by rw[HNB.out];exact HK.out.2.2.2)
 rw[HNB.out]at hm1 ⊢
 have HGG:=Kh (show g<g2 from Nat.lt_of_lt_of_le HG1.out hg2)
 have HC2:=Kh ((cusps_cat B (o:=0)).1 (by simpa using hc2))
 have HCA:=Kh (HC1.out.keep HG1.out hb2)
 have HFA:=Kh (show ∀ i,w2.frozen? ⟨g,i,none⟩=false from fun i=>(World.frozen?_of_block (a:=⟨g,i,none⟩) (hb2.block g HG1.out)).trans (HF1.out i))
 have HSA:=Kh (show ∀ j,j<cap*2→(w2.cell? ⟨g,j,none⟩).isSome=true from fun j hj=>by rw[hb2.cell (p:=⟨g,j,none⟩) HG1.out];exact HS1.out j hj)
 have HB2:=bt HB1 hb2
 have HGL:=Kh (Nat.lt_of_lt_of_le HG1.out hb2.size)
 have HGL2:=Kh hg3
 have HCQ:=Kh (show nb≤cap2∧cap2≤9223372036854775807 from⟨hm1,hm2⟩)
 clear x0 x1 hown2 hb2 hc2 HC1 HF1 HS1 HB1 HG1 hg2 hg3 hm1 hm2 HPA HPB
 go_wp2_with fail
 go_loopw [9] (fun ii wr=>∃ c:Nat,ii=.int .i64 c∧Below w2.heap.size w2 wr∧Hid (c≤na∧c≤nb∧∀ j,j<c→A[j]?=B[j]?)) (fun ii _=>na - (intOf ii).toNat)
 case atStart=>exact⟨0,rfl,Below.refl _ _,Kh ⟨by omega,by omega,fun j hj=>absurd hj (Nat.not_lt_zero _)⟩⟩
 case round=>
  obtain⟨c,rfl,hbm,HI⟩:=hrel
  obtain⟨w3,rfl⟩:∃ w3:World,w3=wr:=⟨_,rfl⟩
  have HBM:=Kh hbm
  clear hbm
  go_upto_region 8 with(fail)
  go_cut [43]from 26 to 44 (fun v43 wx=>∃ b:Bool,v43=.bool b∧Below w2.heap.size w2 wx∧(b=true→c<na∧c<nb∧A[c]?=B[c]?)∧(b=false→0<c))
  case first=>
   by_cases hlt:c<na∧c<nb
   ·obtain⟨h1,h2⟩:=hlt
    obtain⟨⟨a1,a2⟩,hea⟩:∃ x,A[c]?=some x:=⟨_,List.getElem?_eq_getElem (by have:=HNA.out;omega)⟩
    obtain⟨⟨b1,b2⟩,heb⟩:∃ x,B[c]?=some x:=⟨_,List.getElem?_eq_getElem (by have:=HNB.out;omega)⟩
    obtain⟨d0,d1⟩:=HCA.out c _ hea
    obtain⟨e0,e1⟩:=HC2.out c _ heb
    dsimp only at d0 d1 e0 e1
    rw[Nat.zero_add]at d0 d1 e0 e1
    replace d0:=cell_next HBM.out d0
    replace d1:=cell_next HBM.out d1
    replace e0:=cell_next HBM.out e0
    replace e1:=cell_next HBM.out e1
    have hi1:(c:Int)<(na:Int):=by omega
    have hi2:(c:Int)<(nb:Int):=by omega
    have hmn:(c:Int)<min (na:Int) (nb:Int):=by omega
    by_cases heq:a1=b1∧a2=b2
    ·obtain⟨rfl,rfl⟩:=heq
     have HEQ:=Kh (show A[c]?=B[c]? by rw[hea,heb])
     clear hea heb
     go_quiet (fail)
     go_wp2
     go_meet
     exact⟨true,rfl,below_drewN' HBM.out _,fun _=>⟨h1,h2,HEQ.out⟩,fun h=>by cases h⟩
    ·have HC0:=Kh (show 0<c by
      rcases Nat.eq_zero_or_pos c with h|h
      ·exfalso
       subst h
       have h9:=HAB.out
       rw[hea,heb]at h9
       exact heq (by simpa using h9)
      ·exact h)
     clear hea heb
     by_cases k1:a1=b1
     ·subst k1
      have k2:¬ a2=b2:=fun h=>heq ⟨rfl,h⟩
      have k3:(a2==b2)=false:=by rw[beq_eq_false_iff_ne];exact k2
      clear heq
      go_quiet (fail)
      go_wp2
      go_meet
      exact⟨false,rfl,below_drewN' HBM.out _,(fun h=>by cases h),fun _=>HC0.out⟩
     ·have k3:(a1==b1)=false:=by rw[beq_eq_false_iff_ne];exact k1
      clear heq
      go_quiet (fail)
      go_wp2
      go_meet
      exact⟨false,rfl,below_drewN' HBM.out _,(fun h=>by cases h),fun _=>HC0.out⟩
   ·have hmn:¬ ((c:Int)<min (na:Int) (nb:Int)):=by omega
    have hmd:decide ((c:Int)<min (na:Int) (nb:Int))=false:=decide_eq_false hmn
    refine rgB (fun _=>True) (fun _ _=>trivial) (fun _ hT=>?_)
    refine tkE 0 ?_;refine tkE 1 ?_;refine tkE 2 ?_;refine tkE 3 ?_;refine tkE 4 ?_;refine tkE 5 ?_;refine tkE 6 ?_;refine tkE 7 ?_
    refine tuE 8 ?_;refine tuE 9 ?_;refine tuE 10 ?_;refine tuE 11 ?_;refine tuE 12 ?_;refine tuE 13 ?_;refine tuE 14 ?_;refine tuE 15 ?_;refine tuE 16 ?_
    refine laE 17 rfl (fun K hK=>?_)
    go_simp
    refine hK.out _ _ ?_
    clear hK K
    (try simp only[Act.put,lsa,lsz,lss])
    go_wp2
    go_meet
    exact⟨false,rfl,HBM.out.drew,(fun h=>by cases h),fun _=>by have:=HK.out;have:=HI.out;omega⟩
  case rest=>
   obtain⟨b,rfl,hbw,hbt,hbf⟩:=hcut
   obtain⟨w4,rfl⟩:∃ w4:World,w4=wc:=⟨_,rfl⟩
   have HB4:=Kh hbw
   clear hbw HBM
   cases b with
   | true=>
    obtain⟨h1,h2,h3⟩:=hbt rfl
    have H3:=Kh h3
    have hna62:na≤62:=HK.out.1
    clear h3 hbt hbf
    go_wp2
    go_roundw
    case rel=>exact⟨c+1,by go_num,HB4.out,Kh ⟨by omega,by omega,fun j hj=>by
      rcases Nat.lt_or_ge j c with h|h
      ·exact HI.out.2.2 j h
      ·obtain rfl:j=c:=by omega
       exact H3.out⟩⟩
    case measure=>simp[intOf];omega
   | false=>
    have hc0:=hbf rfl
    obtain⟨d,rfl⟩:∃ d,c=d+1:=⟨c - 1,by omega⟩
    clear hbt hbf hc0
    have HOK:=Kh (HJ.out (d+1) (by omega) HI.out.1 HI.out.2.1 HI.out.2.2)
    have HDC:=Kh (show d+1≤na∧d+1≤nb from⟨HI.out.1,HI.out.2.1⟩)
    have e1:((d+1:Nat):Int) - 1=(d:Int):=by omega
    have e2:IntKind.i64.wrap (d:Int)=(d:Int):=IntWalk.i64_in _ (by have:=HDC.out;have:=HK.out;omega)
    have hcz:¬ (cap - d=0):=by have:=HDC.out;have:=HCP.out;omega
    have hlo:d≤na:=by have:=HDC.out;omega
    have hlc:na≤cap:=HCP.out.1
    clear HI HJ
    have hld:(A.drop d).length=na - d:=by rw[List.length_drop,HNA.out]
    have hf4:∀ i,w4.frozen? ⟨g,i,none⟩=false:=fun i=>(World.frozen?_of_block (a:=⟨g,i,none⟩) (HB4.out.block g HGL.out)).trans (HFA.out i)
    have HRV:=Kh (show Calls Tryz.prog 84 #[.slice (some ⟨g,d*2,none⟩) (na - d) (cap - d)] w4 _ from hld▸c_Reverse (A.drop d) g (d*2) (cap - d) w4 (by have:=HK.out;omega) (by have h:=(HCA.out.keep HGL.out HB4.out).drop d;rwa [Nat.zero_add]at h) hf4 (by have:=HDC.out;omega))
    have HLD:=Kh hld
    clear hld hf4
    go_wp2_with fail
    refine HRV.out.mono ?_
    rintro e w5 ⟨⟨v5,rfl⟩,r1,r2,r3,r4,r5,r6,r7⟩
    have HR1:=Kh r1
    have HR2:=Kh r2
    have HR5:=Kh (show ∀ j,j<(cap - d)*2→(w5.cell? ⟨g,d*2+j,none⟩).isSome=true from fun j hj=>by
     rw[r5,HB4.out.cell (p:=⟨g,d*2+j,none⟩) HGL.out]
     exact HSA.out _ (by omega))
    have HBB:=Kh (show CAt w5 g2 0 B from fun j c hc=>by
     have h:=(HC2.out.keep HGL2.out HB4.out) j c hc
     have hne:g2≠g:=by have:=HGG.out;omega
     exact⟨(World.cell?_of_block (a:=⟨g2,0+j*2,none⟩) (r7 g2 hne)).trans h.1,(World.cell?_of_block (a:=⟨g2,0+j*2+1,none⟩) (r7 g2 hne)).trans h.2⟩)
    have HB5:=Kh (show Below w.heap.size w w5 from(HB2.out.trans (HB4.out.mono HB2.out.size)).trans (r6 _ HG.out))
    have HG5:=Kh (show g<w5.heap.size by rw[r3];exact Nat.lt_of_lt_of_le HGL.out HB4.out.size)
    clear r1 r2 r3 r4 r5 r6 r7 HRV hcz hlo hlc e1 e2 HB4 HFA HSA HCA HC2
    by_cases hm:nb=d+1
    ·have HF:=Kh (show CAt w5 g (d*2) ((A.drop d).reverse++B.drop (d+1))by
      have h0:B.drop (d+1)=[]:=List.drop_eq_nil_of_le (by rw[HNB.out,hm];exact Nat.le_refl _)
      rw[h0,List.append_nil]
      exact HR1.out)
     have hle:na - d≤cap - d:=by have:=HCP.out;omega
     have hlen:((A.drop d).reverse++B.drop (d+1)).length=na - d:=by
      rw[List.length_append,List.length_reverse,HLD.out,List.length_drop,HNB.out,hm]
      omega
     have hmc:d+1≤cap2:=by have:=HCQ.out;omega
     have HLN:=Kh hlen
     subst hm
     clear hlen
     by_cases hcz:cap2 - (d+1)=0
     ·go_wp2_with (at_builtin;refine wpl_none rfl (.tmp 52) (.tmp 55) _ 24 rfl Tryz.underlying72 cuspInfo _ _ (na - d) (cap - d) _ hle rfl rfl ?_)
      (first|go_ret2|go_ret)
      exact⟨⟨(A.drop d).reverse++B.drop (d+1),g,d*2,cap - d,ret_len HLN.out.symm,HG5.out,HF.out,HOK.out⟩,HB5.out⟩
     ·go_wp2_with (at_builtin;refine wpl_none rfl (.tmp 52) (.tmp 55) _ 24 rfl Tryz.underlying72 cuspInfo _ _ (na - d) (cap - d) _ hle rfl rfl ?_)
      (first|go_ret2|go_ret)
      exact⟨⟨(A.drop d).reverse++B.drop (d+1),g,d*2,cap - d,ret_len HLN.out.symm,HG5.out,HF.out,HOK.out⟩,HB5.out⟩
    ·have hmc:¬ (cap2 - (d+1)=0):=by have:=HCQ.out;have:=HDC.out;omega
     have hle:d+1≤nb:=by have:=HDC.out;omega
     have hle2:nb≤cap2:=HCQ.out.1
     have hl1:(A.drop d).reverse.length=na - d:=by rw[List.length_reverse,HLD.out]
     have hl2:(B.drop (d+1)).length=nb - (d+1):=by rw[List.length_drop,HNB.out]
     have HL1:=Kh hl1
     have HL2:=Kh hl2
     have HNEW:=Kh (show CAt w5 g2 ((d+1)*2) (B.drop (d+1))by have h:=HBB.out.drop (d+1);rwa [Nat.zero_add]at h)
     have HBD:=Kh (show na - d+(nb - (d+1))≤200 by have:=HK.out;omega)
     clear hl1 hl2
     go_wp2_with (at_builtin;refine wpl_appO rfl (.tmp 52) (.tmp 55) _ 24 rfl Tryz.underlying72 cuspInfo w.heap.size g (d*2) (na - d) (cap - d) g2 ((d+1)*2) (nb - (d+1)) (cap2 - (d+1)) (cusps (A.drop d).reverse) (cusps (B.drop (d+1))) rfl rfl (by rw[cusps_length,HL1.out]) ((cusps_cat _).2 HR1.out) HR5.out HR2.out (by rw[cusps_length,HL2.out]) ((cusps_cat _).2 HNEW.out) (fun u hu=>(cusps_two _ u hu).2) (by have:=HBD.out;omega) (by have:=HBD.out;omega) HG.out HB5.out.size HG5.out ?_;intro g' o' c' w6 hc6 hg6 hb6;have HC6:=Kh hc6;have HG6:=Kh hg6;have HB6:=Kh (HB5.out.trans hb6);clear hc6 hg6 hb6)
     (first|go_ret2|go_ret)
     refine⟨⟨(A.drop d).reverse++B.drop (d+1),g',o',c',ret_len (by rw[List.length_append,HL1.out,HL2.out]),HG6.out,?_,HOK.out⟩,HB6.out⟩
     refine(cusps_cat _).1 ?_
     unfold cusps
     rw[List.flatMap_append]
     exact HC6.out
end Go.Proofs.YtijgdhijdfgpfaaGreatDoor
namespace Go.Proofs.YtijgdhijdfgpfaaGreatDoor
open Go.RowKit Eli
theorem stS_step (Q:Nat→Rat) (n wt:Nat) (D:Int) (X:Nat→Nat→Rat) (a b:Int×Int) (f:Nat):stS Q n wt D X a b f (wt+1)=stepQ n wt D (fun j=>X j f) Q a b:=by
 unfold stepQ stS stT stpM
 split <;> rfl
theorem stC_chain {n wt:Nat} {D:Int} {X:Nat→Nat→Rat} {f:Nat} {a b:Int×Int} {ch:List (Int×Int)} (hck:Pl.check n ((wt:Int)+2) D=0) (hR:RelZ n wt D (fun j=>X j f)) (h:ChainOk a b ch) (Q:Nat→Rat):
  stC Q n wt D X ch f (ch.length - 1)=Pot (stepQ n wt D (fun j=>X j f) Q) b - Pot (stepQ n wt D (fun j=>X j f) Q) a:=by
 have hs:=stepQ_ok (Q:=Q) hck hR
 have hget:∀ j,j<ch.length→ch[j]?=some (ch.getD j (0,0)):=fun j hj=>by rw[List.getD_eq_getElem?_getD,List.getElem?_eq_getElem hj];rfl
 have h1:=hs.chain (fun j=>ch.getD j (0,0)) (ch.length - 1) (fun j hj=>(h.good _ (List.mem_of_getElem? (hget j (by have:=h.pos;omega)))).2) (fun j hj=>h.nb j _ _ (hget j (by omega)) (hget (j+1) (by omega)))
 have e0:ch.getD 0 (0,0)=a:=by rw[List.getD_eq_getElem?_getD,h.first];rfl
 have e1:ch.getD (ch.length - 1) (0,0)=b:=by rw[List.getD_eq_getElem?_getD,h.last];rfl
 rw[e0,e1]at h1
 rw[← h1]
 unfold stC
 exact sumQ_congr (fun j _=>stS_step ..)
theorem stp_det {a b:Int×Int} (h:Nb a b):(stpM a b).1.1*(stpM a b).2.2 - (stpM a b).1.2*(stpM a b).2.1=1:=by
 unfold stpM
 split
 ·rename_i h1;dsimp only;grind
 ·rename_i h1
  have h2:b.1*a.2 - a.1*b.2=-1:=h.resolve_left h1
  dsimp only
  grind
theorem stC_size {n wt C:Nat} {D:Int} {X:Nat→Nat→Rat} {F:List Nat} {f:Nat} {a b:Int×Int} {ch:List (Int×Int)} {Q:Nat→Rat} (hck:Pl.check n ((wt:Int)+2) D=0) (hCn:cntF n wt=C) (hQ:∀ i,i<wt+1→hq (Q i)≤4)
  (hX:∀ j f,j<C→f∈F→hq (X j f)≤10000) (hf:f∈F) (h:ChainOk a b ch):hq (stC Q n wt D X ch f (ch.length - 1))≤60000000:=by
 obtain⟨h1,h2,h3,h4,h5,h6⟩:=check_zero hck
 have hwt:wt≤22:=by omega
 have hget:∀ j,j<ch.length→ch[j]?=some (ch.getD j (0,0)):=fun j hj=>by rw[List.getD_eq_getElem?_getD,List.getElem?_eq_getElem hj];rfl
 have hT:∀ k i,k+1<ch.length→i<wt+1→hq (stT Q n wt D X (ch.getD k (0,0)) (ch.getD (k+1) (0,0)) f i)≤14002:=by
  intro k i hk hi
  obtain⟨x,hx⟩:∃ x,ch.getD k (0,0)=x:=⟨_,rfl⟩
  obtain⟨y,hy⟩:∃ y,ch.getD (k+1) (0,0)=y:=⟨_,rfl⟩
  have gx:=hget k (by omega)
  have gy:=hget (k+1) hk
  rw[hx]at gx ⊢
  rw[hy]at gy ⊢
  have hnb:=h.nb k x y gx gy
  obtain⟨a1,a2,a3,a4⟩:=(h.good x (List.mem_of_getElem? gx)).1
  obtain⟨b1,b2,b3,b4⟩:=(h.good y (List.mem_of_getElem? gy)).1
  have hp:=plc_ne hck (det_prim (n:=n) (by omega) (stp_det hnb))
  have hidx:i*(pts n (n*n)).length+(plcOf n D (stpM x y).2.1 (stpM x y).2.2).1<C:=by
   rw[← hCn]
   have h7:=Nat.mul_le_mul_right (pts n (n*n)).length (show i+1≤wt+1 by omega)
   rw[Nat.succ_mul]at h7
   unfold cntF
   have:=hp.2
   omega
  have hs1:hq (subst Q wt (stpM x y).1.1 (stpM x y).1.2 (stpM x y).2.1 (stpM x y).2.2 (wt+1) i)≤4000:=by
   refine hq_subst hQ (nd64 ?_ ?_) (nd64 ?_ ?_) (nd64 ?_ ?_) (nd64 ?_ ?_) (by omega) (by omega) <;>(unfold stpM;split <;>(dsimp only;omega))
  have hs2:hq (((plcOf n D (stpM x y).2.1 (stpM x y).2.2).2:Int):Rat)≤1:=by
   rw[hq_int]
   have h8:(plcOf n D (stpM x y).2.1 (stpM x y).2.2).2.natAbs≤1:=by
    rcases plAll_ok (kro3 D) n (((stpM x y).2.1 % n).toNat*n+((stpM x y).2.2 % n).toNat)with h|h
    ·unfold plcOf;rw[h];decide
    ·unfold plcOf;omega
   have:nd ((plcOf n D (stpM x y).2.1 (stpM x y).2.2).2).natAbs≤1:=nd_le.2 (by omega)
   omega
  have hs3:=hX _ f hidx hf
  have h7:=hq_mul (subst Q wt (stpM x y).1.1 (stpM x y).1.2 (stpM x y).2.1 (stpM x y).2.2 (wt+1) i*((plcOf n D (stpM x y).2.1 (stpM x y).2.2).2:Rat)) (X (i*(pts n (n*n)).length+(plcOf n D (stpM x y).2.1 (stpM x y).2.2).1) f)
  have h8:=hq_mul (subst Q wt (stpM x y).1.1 (stpM x y).1.2 (stpM x y).2.1 (stpM x y).2.2 (wt+1) i) ((plcOf n D (stpM x y).2.1 (stpM x y).2.2).2:Rat)
  unfold stT
  omega
 have hS:∀ k,k+1<ch.length→hq (stS Q n wt D X (ch.getD k (0,0)) (ch.getD (k+1) (0,0)) f (wt+1))≤400000:=by
  intro k hk
  have h7:=sumQ_size (stT Q n wt D X (ch.getD k (0,0)) (ch.getD (k+1) (0,0)) f) 14002 (wt+1) (fun q hq=>hT k q hk hq)
  have h8:(wt+1)*(14002+1)≤23*14003:=Nat.mul_le_mul (by omega) (Nat.le_refl _)
  unfold stS
  omega
 have h7:=sumQ_size (fun j=>stS Q n wt D X (ch.getD j (0,0)) (ch.getD (j+1) (0,0)) f (wt+1)) 400000 (ch.length - 1) (fun q hq=>hS q (by omega))
 have h8:(ch.length - 1)*(400000+1)≤130*400001:=Nat.mul_le_mul (by have:=h.len;omega) (Nat.le_refl _)
 unfold stC
 omega
def CoRet (w:World) (w':World) (e:Ending) (p q p' q':Int) (n wt:Nat) (D:Int) (F:List Nat) (X:Nat→Nat→Rat) (Q:Nat→Rat):Prop:=
 ((cuspE p q≠0∨cuspE p' q'≠0)∧∃ er,er≠0∧e=.returned (.tuple #[.slice none 0 0,.int .i64 er])) ∨
 ((cuspE p q=0∧cuspE p' q'=0)∧∃ g,e=.returned (.tuple #[.slice (some ⟨g,0,none⟩) F.length F.length,.int .i64 0])∧w.heap.size≤g∧QRow (fun j=>IsQ (Pot (stepQ n wt D (fun i=>X i (F.getD j 0)) Q) (p',q') - Pot (stepQ n wt D (fun i=>X i (F.getD j 0)) Q) (p,q))) w' g F.length F.length∧∀ j,j<F.length→hq (Pot (stepQ n wt D (fun i=>X i (F.getD j 0)) Q) (p',q') - Pot (stepQ n wt D (fun i=>X i (F.getD j 0)) Q) (p,q))≤60000000)
theorem c_Coord (M B n wt:Nat) (D:Int) (F:List Nat) (C:Nat) (X:Nat→Nat→Rat) (v:Value) (x y:Nat→Int) (p q p' q':Int) (w:World) (hT:Tab w) (hck:Pl.check n ((wt:Int)+2) D=0) (hCn:cntF n wt=C) (hF:F.length≤72)
  (hmod:ModAt w M B n ((wt:Int)+2) D F C X) (hB:B≤w.heap.size) (hX:∀ j f,j<C→f∈F→hq (X j f)≤10000) (hR:∀ f,f∈F→RelZ n wt D (fun j=>X j f)) (hp:QL (fun j=>IsR (x j) (y j)) w v (wt+1))
  (hp1:-9223372036854775808≤p) (hp2:p≤9223372036854775807) (hq1:-9223372036854775808≤q) (hq2:q≤9223372036854775807) (hr1:-9223372036854775808≤p') (hr2:p'≤9223372036854775807) (hs1:-9223372036854775808≤q') (hs2:q'≤9223372036854775807):
  Calls Tryz.prog 18 #[.pointer (some ⟨M,0,none⟩),.agg #[v,.int .i64 p,.int .i64 q,.int .i64 p',.int .i64 q']] w fun e w'=>CoRet w w' e p q p' q' n wt D F X (fun i=>Rat.divInt (x i) (y i))∧Below w.heap.size w w':=by
 obtain⟨pv,cv,rfl⟩:∃ p c,v=.slice p (wt+1) c:=by
  obtain⟨_,_,_,e',_⟩:=hp.resolve_left (fun h=>by omega)
  exact⟨_,_,e'⟩
 have hwt:wt≤22:=by have:=check_zero hck;omega
 have hn0:0<n:=by have:=check_zero hck;omega
 obtain⟨kk,hkk⟩:∃ kk,(wt:Int)+2=kk:=⟨_,rfl⟩
 obtain⟨L,hL⟩:∃ L,wt+1=L:=⟨_,rfl⟩
 have HCC:=Kh (fun W=>c_CheckCusp p q W hp1 hp2 hq1 hq2)
 have HCC':=Kh (fun W=>c_CheckCusp p' q' W hr1 hr2 hs1 hs2)
 have HCH:=Kh (fun W ha hb=>c_Chain p q p' q' W ha hb)
 have HSP:=Kh (fun W (hb:Below w.heap.size w W)=>c_Spec M B n kk D F C X W (hkk▸hmod.keep hB hb) (Nat.le_trans hB hb.size))
 have HCO:=Kh (fun W gc oc cc ch (hb:Below w.heap.size w W) (hg:gc<W.heap.size) (hc:CAt W gc oc ch) (ho:ChainOk (p,q) (p',q') ch)=>c_collect M B n wt D F C X ch gc oc cc (.slice pv (wt+1) cv) x y W (hT.below hb) hck hCn hF (hmod.keep hB hb) (Nat.le_trans hB hb.size) hX (hp.keep (fun _=>IsR.solid _ _) hb) hg (Nat.le_trans ho.len (by decide))
  (fun k c hk=>⟨(hc k c hk).1,(hc k c hk).2,by have h:=(ho.good c (List.mem_of_getElem? hk)).1;unfold InC at h;omega⟩)
  (fun k a b ha hb=>by
   have h:=ho.nb k a b ha hb
   exact⟨h,(plc_ne hck (det_prim (a:=(stpM a b).1.1) (b:=(stpM a b).1.2) hn0 (stp_det h))).1⟩))
 have HV:=Kh (fun ch (ho:ChainOk (p,q) (p',q') ch) f (hf:f∈F)=>stC_chain hck (hR f hf) ho (fun i=>Rat.divInt (x i) (y i)))
 have HSZ:=Kh (fun ch (ho:ChainOk (p,q) (p',q') ch) f (hf:f∈F)=>stC_size hck hCn (fun i hi=>by
  obtain⟨_,_,_,_,hr⟩:=hp.resolve_left (fun h=>by omega)
  obtain⟨_,_,_,_,_,_,_,_,_,_,_,_,h5,h6,h7,h8⟩:=hr.2 i hi
  exact hq_frac (Nat.le_trans h5.size h7) (Nat.le_trans h6.size h8)) hX hf ho (Q:=fun i=>Rat.divInt (x i) (y i)))
 rw[hL]at HCO ⊢
 have hk1:kk - 1=(L:Int):=by omega
 have hw1:IntKind.i64.wrap (L:Int)=(L:Int):=IntWalk.i64_in _ (by omega)
 clear hT hmod hB hX hp hck hCn hF hR hwt hn0 hkk hL hp1 hp2 hq1 hq2 hr1 hr2 hs1 hs2
 go_enter Tryz.func18,Tryz.ntmps18
 go_upto_region 3 with(fail)
 obtain⟨w0,hw0,X0,hb0⟩:=bx1 w #[.slice pv L cv,.int .i64 p,.int .i64 q,.int .i64 p',.int .i64 q'] 26
 rw[hw0]
 obtain⟨gp,hgp⟩:∃ x,w.heap.size=x:=⟨_,rfl⟩
 have HGP:=Kh hgp
 rw[hgp]at X0 ⊢
 have HX0:=Kh X0
 have HB0:=Kh hb0
 have x0:=X0.at_ 0 rfl
 have hfd:∀ W:World,(Instr.field 40 (.agg #[.int .i64 n,.int .i64 kk,.int .i64 D]) 1).run Tryz.prog W=.ok (.int .i64 kk) W:=fun W=>by kernel_rfl
 clear hw0 X0 hb0 hgp
 refine rgB (fun W=>W.cell? ⟨gp,0,none⟩=some (.slice pv L cv)) (fun W hb=>cnx hb x0) (fun HSE hHeld0=>?_)
 refine tkE 0 ?_;refine tkE 1 ?_;refine tkE 2 ?_;refine tkE 3 ?_
 refine stE 4 rfl (fun K hK=>?_)
 focus(go_simp;refine(HSP.out _ HB0.out.drew).mono ?_;rintro e w1 ⟨rfl,hb1⟩;have HB1:=Kh ((Below.refl _ w0).drew.trans hb1:Below w0.heap.size w0 w1);clear hb1;(first|with_reducible refine hK.out _ _ ?_ (fun hHeld1=>?_) |(go_wp2_with fail;with_reducible refine hK.out _ _ ?_ (fun hHeld1=>?_))))
 focus((try dsimp only);exact HSE.out _ HB1.out)
 focus(clear hK K;(try simp only[Act.put,lsa,lsz,lss]))
 refine tkE 5 ?_;refine tkE 6 ?_
 refine laE 7 rfl (fun K hK=>?_)
 go_simp
 refine hK.out _ _ ?_
 clear hK K
 (try simp only[Act.put,lsa,lsz,lss])
 have HX1:=Kh (HX0.out.below_ HB1.out HX0.out.lt)
 have HW1:=Kh (HB0.out.trans (HB1.out.mono HB0.out.size))
 clear x0 HSE HB1 hHeld0 hHeld1 HSP HX0 HB0 hfd
 have x0:=HX1.out.at_ 0 rfl
 have x1:=HX1.out.at_ 1 rfl
 have x2:=HX1.out.at_ 2 rfl
 have x3:=HX1.out.at_ 3 rfl
 have x4:=HX1.out.at_ 4 rfl
 obtain⟨e1,he1⟩:∃ e1,cuspE p q=e1:=⟨_,rfl⟩
 obtain⟨e2,he2⟩:∃ e2,cuspE p' q'=e2:=⟨_,rfl⟩
 have HE1:=Kh he1
 have HE2:=Kh he2
 rw[he1]at HCC
 rw[he2]at HCC'
 clear he1 he2
 go_wp2_with fail
 refine(HCC.out w1).mono ?_
 rintro e w2 ⟨rfl,hb2⟩
 have HX2:=Kh (bk HX1 hb2)
 have HW2:=bt HW1 hb2
 clear x0 x1 x2 x3 x4 hb2 HX1 HW1
 by_cases h1:e1=0
 ·have x0:=HX2.out.at_ 0 rfl
  have x1:=HX2.out.at_ 1 rfl
  have x2:=HX2.out.at_ 2 rfl
  have x3:=HX2.out.at_ 3 rfl
  have x4:=HX2.out.at_ 4 rfl
  have h1n:(e1 != 0)=false:=by rw[h1];rfl
  go_wp2_with fail
  refine(HCC'.out w2).mono ?_
  rintro e w3 ⟨rfl,hb3⟩
  have HX3:=Kh (bk HX2 hb3)
  have HW3:=bt HW2 hb3
  clear x0 x1 x2 x3 x4 hb3 HX2 HW2
  by_cases h2:e2=0
  ·have x0:=HX3.out.at_ 0 rfl
   have x1:=HX3.out.at_ 1 rfl
   have x2:=HX3.out.at_ 2 rfl
   have x3:=HX3.out.at_ 3 rfl
   have x4:=HX3.out.at_ 4 rfl
   have h2n:(e2 != 0)=false:=by rw[h2];rfl
   go_wp2_with fail
   refine(HCH.out w3 (HE1.out.trans h1) (HE2.out.trans h2)).mono ?_
   rintro e w4 ⟨⟨ch,gc,oc,cc,rfl,hg,hcat,hok⟩,hb4⟩
   have HX4:=Kh (bk HX3 hb4)
   have HW4:=bt HW3 hb4
   have HC4:=Kh (HCO.out w4 gc oc cc ch HW4.out hg hcat hok)
   have HOK:=Kh hok
   clear x0 x1 x2 x3 x4 hb4 HX3 HW3 hcat hg hok HCO HCH HCC HCC'
   have x0:=HX4.out.at_ 0 rfl
   go_wp2_with fail
   refine HC4.out.mono ?_
   rintro e w5 ⟨⟨g,rfl,hge,hrow⟩,hb5⟩
   have HR:=Kh (QRow.congr hrow (fun j hj=>by
    have hj':j<F.length:=hj
    have hf:F.getD j 0∈F:=getD_mem hj'
    show IsQ (stC (fun i=>Rat.divInt (x i) (y i)) n wt D X ch (F.getD j 0) (ch.length - 1))=_
    rw[HV.out ch HOK.out _ hf]))
   have HSS:=Kh (show ∀ j,j<F.length→hq (Pot (stepQ n wt D (fun i=>X i (F.getD j 0)) (fun i=>Rat.divInt (x i) (y i))) (p',q') - Pot (stepQ n wt D (fun i=>X i (F.getD j 0)) (fun i=>Rat.divInt (x i) (y i))) (p,q))≤60000000 from fun j hj=>by
    have hf:F.getD j 0∈F:=getD_mem hj
    rw[← HV.out ch HOK.out _ hf]
    exact HSZ.out ch HOK.out _ hf)
   have HB5:=bt HW4 hb5
   have HGE:=Kh (Nat.le_trans HW4.out.size hge)
   clear hrow hb5 x0 hge
   go_wp2
   (first|go_ret2|go_ret)
   exact⟨.inr ⟨⟨HE1.out.trans h1,HE2.out.trans h2⟩,g,rfl,HGE.out,HR.out,HSS.out⟩,HB5.out⟩
  ·have h2n:(e2 != 0)=true:=by rw[bne_iff_ne];exact h2
   clear HCO HCH HCC HCC'
   go_wp2
   (first|go_ret2|go_ret)
   exact⟨.inl ⟨.inr (by rw[HE2.out];exact h2),e2,h2,rfl⟩,HW3.out⟩
 ·have h1n:(e1 != 0)=true:=by rw[bne_iff_ne];exact h1
  clear HCO HCH HCC HCC'
  go_wp2
  (first|go_ret2|go_ret)
  exact⟨.inl ⟨.inl (by rw[HE1.out];exact h1),e1,h1,rfl⟩,HW2.out⟩
theorem CoRet.uni {w w':World} {e:Ending} {p q p' q':Int} {n wt:Nat} {D:Int} {F:List Nat} {X:Nat→Nat→Rat} {Q:Nat→Rat} (h:CoRet w w' e p q p' q' n wt D F X Q):
  ∃ pU nU cU er,e=.returned (.tuple #[.slice pU nU cU,.int .i64 er])∧(er=0↔cuspE p q=0∧cuspE p' q'=0)∧(er=0→∃ g,pU=some ⟨g,0,none⟩∧nU=F.length∧cU=F.length∧w.heap.size≤g∧QRow (fun j=>IsQ (Pot (stepQ n wt D (fun i=>X i (F.getD j 0)) Q) (p',q') - Pot (stepQ n wt D (fun i=>X i (F.getD j 0)) Q) (p,q))) w' g F.length F.length∧∀ j,j<F.length→hq (Pot (stepQ n wt D (fun i=>X i (F.getD j 0)) Q) (p',q') - Pot (stepQ n wt D (fun i=>X i (F.getD j 0)) Q) (p,q))≤60000000):=by
 rcases h with⟨h1,er,h0,he⟩ |⟨h1,g,he,h2,h3,h4⟩
 ·exact⟨none,0,0,er,he,⟨fun h=>absurd h h0,fun h=>by rcases h1 with h1|h1;exact absurd h.1 h1;exact absurd h.2 h1⟩,fun h=>absurd h h0⟩
 ·exact⟨some ⟨g,0,none⟩,F.length,F.length,0,he,⟨fun _=>h1,fun _=>rfl⟩,fun _=>⟨g,rfl,rfl,rfl,h2,h3,h4⟩⟩
end Go.Proofs.YtijgdhijdfgpfaaGreatDoor
