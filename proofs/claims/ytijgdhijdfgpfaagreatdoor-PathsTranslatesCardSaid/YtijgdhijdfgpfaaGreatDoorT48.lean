/- The law PathsTranslates, walked: it returns true. -/
import Derived.Test.YtijgdhijdfgpfaaGreatDoorT46
import Derived.Test.YtijgdhijdfgpfaaGreatDoorT47
set_option linter.unusedSimpArgs false
set_option maxRecDepth 100000
set_option maxHeartbeats 8000000
namespace Go.Proofs.YtijgdhijdfgpfaaGreatDoor
open Go.RowKit Eli
theorem QL.boxed {F:Nat→FP} (hF:∀ j,Solid (F j)) {w w':World} {p:Option Addr} {n c R:Nat} (h:QL F w (.slice p n c) n) (h32:I32 w w') (hg:w.grownBy w' (some R)) (hne:∀ a,p=some a→a.block≠R):QL F w' (.slice p n c) n:=by
 rcases h with h |⟨g,o,cap,e,hlt,hq⟩
 ·exact .inl h
 ·injection e with e1 e2 e3
  subst e1
  have hn:(some g:Option Nat)≠some R:=fun e=>hne _ rfl (by injection e)
  refine .inr ⟨g,o,c,rfl,Nat.lt_of_lt_of_le hlt hg.size,fun j hj=>?_⟩
  obtain⟨s,p,k,c,t,q,m,d,h0,h1,h2,h3,h4⟩:=hq j hj
  exact⟨s,p,k,c,t,q,m,d,hg.cell h0 hn,hg.cell h1 hn,hg.cell h2 hn,hg.cell h3 hn,hF j _ _ _ _ _ _ _ _ _ _ h32 h4⟩
theorem RetP.uni {w w':World} {e:Ending} {n:Nat} {f:Nat→Rat} {X Y:Int×Int} (h:RetP w w' e n f X Y 0):∃ pT cT,e=.returned (.tuple #[.agg #[.slice pT n cT,.int .i64 X.1,.int .i64 X.2,.int .i64 Y.1,.int .i64 Y.2],.int .i64 0])∧QL (fun j=>IsQ (f j)) w' (.slice pT n cT) n∧∀ a,pT=some a→w.heap.size≤a.block:=by
 rcases h with⟨h,_⟩ |⟨_,g,cap,he,hg,hr⟩
 ·exact absurd rfl h
 ·exact⟨_,cap,he,hr.ql cap,fun a ha=>by injection ha with ha;subst ha;exact hg⟩
theorem RetP.bad {w w':World} {e:Ending} {n:Nat} {f:Nat→Rat} {X Y:Int×Int} {er:Int} (h:RetP w w' e n f X Y er) (h0:er≠0):e=.returned (.tuple #[.agg #[.slice none 0 0,.int .i64 0,.int .i64 0,.int .i64 0,.int .i64 0],.int .i64 er]):=by
 rcases h with⟨_,h⟩ |⟨h,_⟩
 ·exact h
 ·exact absurd h h0
def TrAll (n:Nat) (x y:Nat→Int) (p q p' q' a b c d:Int):Prop:=
    ∃ (f:Nat→Rat) (N0:Nat) (A B:Int×Int) (er:Int),N0≤30∧(∀ j,j<N0→hq (f j)≤4000) ∧
     (∀ vp' vc' W,QL (fun j=>IsR (x j) (y j)) W (.slice vp' n vc') n→Calls Tryz.prog 10 #[.agg #[.slice vp' n vc',.int .i64 p,.int .i64 q,.int .i64 p',.int .i64 q'],.agg #[.int .i64 a,.int .i64 b,.int .i64 c,.int .i64 d]] W fun e w'=>(∃ pT cT,e=.returned (.tuple #[.agg #[.slice pT N0 cT,.int .i64 A.1,.int .i64 A.2,.int .i64 B.1,.int .i64 B.2],.int .i64 er])∧QL (fun j=>IsQ (f j)) w' (.slice pT N0 cT) N0∧∀ a,pT=some a→W.heap.size≤a.block)∧Below W.heap.size W w') ∧
     (∀ vp' vc' W,QL (fun j=>IsR (x j) (y j)) W (.slice vp' n vc') n→Calls Tryz.prog 12 #[.agg #[.slice vp' n vc',.int .i64 p,.int .i64 q,.int .i64 p',.int .i64 q'],.agg #[.int .i64 a,.int .i64 b,.int .i64 c,.int .i64 d]] W fun e w'=>(∃ pT cT,e=.returned (.tuple #[.agg #[.slice pT N0 cT,.int .i64 A.1,.int .i64 A.2,.int .i64 B.1,.int .i64 B.2],.int .i64 er])∧QL (fun j=>IsQ (f j)) w' (.slice pT N0 cT) N0∧∀ a,pT=some a→W.heap.size≤a.block)∧Below W.heap.size W w')
theorem tr_all (n:Nat) (x y:Nat→Int) (p q p' q' a b c d:Int) (hn:n≤30) (hQ:∀ i,i<n→hq (Rat.divInt (x i) (y i))≤4) (hp:-9223372036854775808≤p) (hp':p≤9223372036854775807) (hq1:-9223372036854775808≤q) (hq1':q≤9223372036854775807) (hr:-9223372036854775808≤p') (hr':p'≤9223372036854775807) (hs:-9223372036854775808≤q') (hs':q'≤9223372036854775807):TrAll n x y p q p' q' a b c d:=by
 have bad:∀ (er:Int),(∀ vp' vc' W,Calls Tryz.prog 10 #[.agg #[.slice vp' n vc',.int .i64 p,.int .i64 q,.int .i64 p',.int .i64 q'],.agg #[.int .i64 a,.int .i64 b,.int .i64 c,.int .i64 d]] W fun e w'=>e=.returned (.tuple #[.agg #[.slice none 0 0,.int .i64 0,.int .i64 0,.int .i64 0,.int .i64 0],.int .i64 er])∧Below W.heap.size W w')→(∀ vp' vc' W,Calls Tryz.prog 12 #[.agg #[.slice vp' n vc',.int .i64 p,.int .i64 q,.int .i64 p',.int .i64 q'],.agg #[.int .i64 a,.int .i64 b,.int .i64 c,.int .i64 d]] W fun e w'=>e=.returned (.tuple #[.agg #[.slice none 0 0,.int .i64 0,.int .i64 0,.int .i64 0,.int .i64 0],.int .i64 er])∧Below W.heap.size W w')→TrAll n x y p q p' q' a b c d:=fun er h1 h2=>
  ⟨(fun _=>0:Nat→Rat),0,(0,0),(0,0),er,Nat.zero_le _,fun j hj=>absurd hj (Nat.not_lt_zero _),fun vp' vc' W _=>(h1 vp' vc' W).mono fun e w' ⟨he,hb⟩=>⟨⟨none,0,he,.inl ⟨rfl,_,_,rfl⟩,fun a ha=>by cases ha⟩,hb⟩,fun vp' vc' W _=>(h2 vp' vc' W).mono fun e w' ⟨he,hb⟩=>⟨⟨none,0,he,.inl ⟨rfl,_,_,rfl⟩,fun a ha=>by cases ha⟩,hb⟩⟩
 by_cases h1:n=0∨23<n
 ·exact bad 4 (fun vp' vc' W=>c_Translate_shape vp' n vc' a b c d p q p' q' W h1) (fun vp' vc' W=>c_Translate_shape18 vp' n vc' a b c d p q p' q' W h1)
 have hn0:0<n:=by omega
 have hn23:n≤23:=by omega
 by_cases h2:fitB a b c d=false
 ·exact bad 2 (fun vp' vc' W=>c_Translate_err vp' n vc' a b c d p q p' q' 2 W hn0 hn23 (by decide) (fun w1=>c_Apply_fit a b c d p q w1 h2)) (fun vp' vc' W=>c_Translate_err18 vp' n vc' a b c d p q p' q' 2 W hn0 hn23 (by decide) (fun w1=>c_Apply_fit18 a b c d p q w1 h2))
 have h3:fitB a b c d=true:=by simpa using h2
 simp only[fitB,Bool.and_eq_true]at h3
 obtain⟨ha,hb,hc,hd⟩:=h3
 obtain⟨ha,ha'⟩:=inE_iff.1 ha
 obtain⟨hb,hb'⟩:=inE_iff.1 hb
 obtain⟨hc,hc'⟩:=inE_iff.1 hc
 obtain⟨hd,hd'⟩:=inE_iff.1 hd
 by_cases h4:a*d - b*c=0
 ·exact bad 11 (fun vp' vc' W=>c_Translate_err vp' n vc' a b c d p q p' q' 11 W hn0 hn23 (by decide) (fun w1=>c_Apply_sing a b c d p q w1 ha ha' hb hb' hc hc' hd hd' h4)) (fun vp' vc' W=>c_Translate_err18 vp' n vc' a b c d p q p' q' 11 W hn0 hn23 (by decide) (fun w1=>c_Apply_sing18 a b c d p q w1 ha ha' hb hb' hc hc' hd hd' h4))
 by_cases h5:trE a b c d p q p' q'=0
 ·refine⟨subst (fun i=>Rat.divInt (x i) (y i)) (n - 1) d (-b) (-c) a n,n,(appV a b c d p q).1,(appV a b c d p' q').1,0,hn,fun j _=>hq_subst hQ (nd64 hd hd') (nd64 (by omega) (by omega)) (nd64 (by omega) (by omega)) (nd64 ha ha') (by omega) hn,fun vp' vc' W hq=>?_,fun vp' vc' W hq=>?_⟩
  ·have h:=c_Translate (.slice vp' n vc') n x y p q p' q' a b c d W hq hn0 hn23 ha ha' hb hb' hc hc' hd hd' h4 hp hp' hq1 hq1' hr hr' hs hs'
   rw[h5]at h
   exact h.mono fun e w' ⟨hret,hb⟩=>⟨hret.uni,hb⟩
  ·have h:=c_Translate42 (.slice vp' n vc') n x y p q p' q' a b c d W hq hn0 hn23 ha ha' hb hb' hc hc' hd hd' h4 hp hp' hq1 hq1' hr hr' hs hs'
   rw[h5]at h
   exact h.mono fun e w' ⟨hret,hb⟩=>⟨hret.uni,hb⟩
 ·refine⟨(fun _=>0:Nat→Rat),0,(0,0),(0,0),trE a b c d p q p' q',Nat.zero_le _,fun j hj=>absurd hj (Nat.not_lt_zero _),fun vp' vc' W hq=>?_,fun vp' vc' W hq=>?_⟩
  ·exact(c_Translate (.slice vp' n vc') n x y p q p' q' a b c d W hq hn0 hn23 ha ha' hb hb' hc hc' hd hd' h4 hp hp' hq1 hq1' hr hr' hs hs').mono fun e w' ⟨hret,hb⟩=>⟨⟨none,0,hret.bad h5,.inl ⟨rfl,_,_,rfl⟩,fun a ha=>by cases ha⟩,hb⟩
  ·exact(c_Translate42 (.slice vp' n vc') n x y p q p' q' a b c d W hq hn0 hn23 ha ha' hb hb' hc hc' hd hd' h4 hp hp' hq1 hq1' hr hr' hs hs').mono fun e w' ⟨hret,hb⟩=>⟨⟨none,0,hret.bad h5,.inl ⟨rfl,_,_,rfl⟩,fun a ha=>by cases ha⟩,hb⟩
theorem c_lawTr (v:Value) (n:Nat) (x y:Nat→Int) (p q p' q' a b c d:Int) (w:World) (hT:Tab w) (h:QL (fun j=>IsA (x j) (y j)) w v n) (hl:n≤9223372036854775807) (hp:-9223372036854775808≤p) (hp':p≤9223372036854775807) (hq1:-9223372036854775808≤q) (hq1':q≤9223372036854775807) (hr:-9223372036854775808≤p') (hr':p'≤9223372036854775807) (hs:-9223372036854775808≤q') (hs':q'≤9223372036854775807):
  Calls Tryz.prog 3 #[.agg #[v,.int .i64 p,.int .i64 q,.int .i64 p',.int .i64 q'],.agg #[.int .i64 a,.int .i64 b,.int .i64 c,.int .i64 d]] w fun e w'=>e=.returned (.bool true)∧Below w.heap.size w w':=by
 obtain⟨vp,vc,rfl⟩:∃ p c,v=.slice p n c:=by
  rcases h with⟨rfl,a,c,rfl⟩ |⟨g,o,c,rfl,_⟩
  ·exact⟨_,_,rfl⟩
  ·exact⟨_,_,rfl⟩
 have HA:=Kh (fun W (hb:Below w.heap.size w W) j (hj:j<n)=>(show ∃ g o,vp=some ⟨g,o,none⟩∧g<W.heap.size∧QE (IsA (x j) (y j)) W g (o+j*4)by
  rcases h with⟨h1,_⟩ |⟨g,o,c,e,hg,h1⟩
  ·omega
  ·injection e with e1 e2 e3
   exact⟨g,o,e1,Nat.lt_of_lt_of_le hg hb.size,(h1 j hj).keep (IsA.solid _ _) hb⟩))
 have HTA:=Kh (fun(hn:n≤30) (hQ:∀ i,i<n→hq (Rat.divInt (x i) (y i))≤4)=>tr_all n x y p q p' q' a b c d hn hQ hp hp' hq1 hq1' hr hr' hs hs')
 have HT:=Kh hT
 have HL:=Kh hl
 clear hT h hp hp' hq1 hq1' hr hr' hs hs' hl
 go_enter Tryz.func3,Tryz.ntmps3
 go_wp2_with fail
 obtain⟨w0,hw0,XA,XM,hb0⟩:=bx2 w #[.slice vp n vc,.int .i64 p,.int .i64 q,.int .i64 p',.int .i64 q'] 26 #[.int .i64 a,.int .i64 b,.int .i64 c,.int .i64 d] 28
 rw[hw0]
 refine(c_awake42 w0 (HT.out.below hb0)).mono ?_
 rintro e wk ⟨rfl,hb1⟩
 obtain⟨gA,hgA⟩:∃ x,w.heap.size=x:=⟨_,rfl⟩
 obtain⟨gM,hgM⟩:∃ x,w.heap.size+1=x:=⟨_,rfl⟩
 have XA1:=XA.below_ hb1 XA.lt
 have XM1:=XM.below_ hb1 XM.lt
 rw[hgM]at XM1 ⊢
 rw[hgA]at XA1 ⊢
 have HXA:=Kh XA1
 have HXM:=Kh XM1
 have HBK:=Kh (hb0.trans (hb1.mono hb0.size))
 clear hw0 XA XM hb0 hb1 hgA hgM XA1 XM1
 have x0:=HXA.out.at_ 0 rfl
 go_wp2_with fail
 refine(c_short42 vp n vc x y wk (HA.out wk HBK.out) HL.out).mono ?_
 rintro e w' ⟨hw',bs,rfl,hsh⟩
 obtain rfl:wk=w':=hw'.symm
 have HSH:=Kh hsh
 clear hsh hw' x0
 cases bs with
 | false=>
  go_wp2
  go_ret
  exact⟨rfl,HBK.out⟩
 | true=>
  obtain⟨hn30,hs30⟩:=HSH.out rfl
  have HQR:=Kh (hs30.ql (c:=vc))
  have hQS:∀ i,i<n→hq (Rat.divInt (x i) (y i))≤4:=fun i hi=>by
   obtain⟨_,_,_,_,_,_,_,_,_,_,_,_,_,_,_,_,h5,h6,h7,h8⟩:=hs30 i hi
   exact hq_frac (Nat.le_trans h5.size h7) (Nat.le_trans h6.size h8)
  obtain⟨f,N0,A,B,er,hN0,hfs,ht1,ht2⟩:=HTA.out hn30 hQS
  have HT1:=Kh ht1
  have HT2:=Kh ht2
  have HFS:=Kh hfs
  have HTW:=Kh (fun W (hb:Below wk.heap.size wk W)=>c_twin vp n vc x y p q p' q' W (HQR.out.keep (fun _=>IsR.solid _ _) hb) (by omega))
  have x0:=HXA.out.at_ 0 rfl
  have x1:=HXA.out.at_ 1 rfl
  have x2:=HXA.out.at_ 2 rfl
  have x3:=HXA.out.at_ 3 rfl
  have x4:=HXA.out.at_ 4 rfl
  have m0:=HXM.out.at_ 0 rfl
  have m1:=HXM.out.at_ 1 rfl
  have m2:=HXM.out.at_ 2 rfl
  have m3:=HXM.out.at_ 3 rfl
  clear hs30 hQS ht1 ht2 hfs HTA HA HSH HT HL
  go_upto_region 5 with(fail)
  go_cut [5,6]from 15 to 21 (fun v5 v6 wx=>∃ gb pT cT,v5=.pointer (some ⟨gb,0,none⟩)∧v6=.int .i64 er∧Blk wx gb 26 #[.slice pT N0 cT,.int .i64 A.1,.int .i64 A.2,.int .i64 B.1,.int .i64 B.2]∧QL (fun j=>IsQ (f j)) wx (.slice pT N0 cT) N0∧Below wk.heap.size wk wx)
  case first=>
   refine rgX [6,9] (fun W=>W.cell? ⟨gA,0,none⟩=some (.slice vp n vc)∧W.cell? ⟨gA,1,none⟩=some (.int .i64 p)∧W.cell? ⟨gA,2,none⟩=some (.int .i64 q)∧W.cell? ⟨gA,3,none⟩=some (.int .i64 p')∧W.cell? ⟨gA,4,none⟩=some (.int .i64 q')∧W.cell? ⟨gM,0,none⟩=some (.int .i64 a)∧W.cell? ⟨gM,1,none⟩=some (.int .i64 b)∧W.cell? ⟨gM,2,none⟩=some (.int .i64 c)∧W.cell? ⟨gM,3,none⟩=some (.int .i64 d)) (fun W hb=>⟨cnx hb x0,cnx hb x1,cnx hb x2,cnx hb x3,cnx hb x4,cnx hb m0,cnx hb m1,cnx hb m2,cnx hb m3⟩) (fun HSE hHeld0=>?_)
   clear x0 x1 x2 x3 x4 m0 m1 m2 m3
   refine tkX 0 ?_;refine tkX 2 ?_
   refine rd2X 1 7 rfl rfl (fun K hK=>?_) (fun K hK=>?_)
   ·focus(go_simp;refine(HTW.out _ ((show Below wk.heap.size wk wk.drew from(Below.refl _ wk).drew))).mono ?_;rintro e wa ⟨⟨va,ca,rfl,hqa⟩,hba⟩;have HBA:=Kh (((show Below wk.heap.size wk wk.drew from(Below.refl _ wk).drew)).trans (hba.mono (Below.size ((show Below wk.heap.size wk wk.drew from(Below.refl _ wk).drew)))):Below wk.heap.size wk wa);have HQA:=Kh hqa;clear hqa hba;(first|with_reducible refine hK.out _ _ ?_ (fun hHeld1=>?_) |(go_wp2_with fail;with_reducible refine hK.out _ _ ?_ (fun hHeld1=>?_))))
    focus((try dsimp only);exact HSE.out _ HBA.out)
    focus(clear hK K;(try simp only[Act.put,lsa,lsz,lss]))
    refine rd2X 3 7 rfl rfl (fun K hK=>?_) (fun K hK=>?_)
    ·focus(go_simp;refine(HT1.out va ca _ (HQA.out)).mono ?_;rintro e wb ⟨⟨pT,cT,rfl,hqT,hgT⟩,hbb⟩;have HBB:=Kh ((HBA.out).trans (hbb.mono (Below.size (HBA.out))):Below wk.heap.size wk wb);have HQT:=Kh hqT;have HGT:=Kh hgT;clear hqT hgT hbb;(first|with_reducible refine hK.out _ _ ?_ (fun hHeld2=>?_) |(go_wp2_with fail;with_reducible refine hK.out _ _ ?_ (fun hHeld2=>?_))))
     focus((try dsimp only);exact HSE.out _ HBB.out)
     focus(clear hK K;(try simp only[Act.put,lsa,lsz,lss]))
     refine tkX 4 ?_;refine tkX 5 ?_;refine tkI 6 ?_
     refine stX 7 rfl (fun K hK=>?_)
     focus(go_simp;refine hK.out _ _ ?_ (fun hHeld3=>?_))
     focus((try dsimp only);exact HSE.out _ (HBB.out.alloc HBB.out.size _))
     focus(clear hK K;(try simp only[Act.put,lsa,lsz,lss]))
     refine snX 8 rfl (fun K hK=>?_)
     go_simp
     refine hK.out _ _ ?_
     clear hK K
     (try simp only[Act.put,lsa,lsz,lss])
     refine tkJ 9 ?_
     refine dnX ?_
     go_wp2
     go_meet
     exact⟨wb.heap.size,pT,cT,rfl,rfl,Blk.new wb 26 #[.slice pT N0 cT,.int .i64 A.1,.int .i64 A.2,.int .i64 B.1,.int .i64 B.2],HQT.out.keep (fun _=>IsQ.solid _) ((Below.refl _ _).alloc (Nat.le_refl _) _),HBB.out.alloc HBB.out.size _⟩
    ·focus(go_simp;refine hK.out _ _ ?_ (fun hHeld2=>?_))
     focus((try dsimp only);exact HSE.out _ (HBA.out.alloc HBA.out.size _))
     focus(clear hK K;(try simp only[Act.put,lsa,lsz,lss]))
     refine stX 3 rfl (fun K hK=>?_)
     focus(go_simp;refine(HT1.out va ca _ (HQA.out.keep (fun _=>IsR.solid _ _) ((Below.refl _ wa).alloc (Nat.le_refl _) _))).mono ?_;rintro e wb ⟨⟨pT,cT,rfl,hqT,hgT⟩,hbb⟩;have HBB:=Kh ((HBA.out.alloc HBA.out.size _).trans (hbb.mono (Below.size (HBA.out.alloc HBA.out.size _))):Below wk.heap.size wk wb);have HQT:=Kh hqT;have HGT:=Kh hgT;have HXN:=Kh (show Blk wb wa.heap.size 26 #[.slice none 0 0,.int .i64 0,.int .i64 0,.int .i64 0,.int .i64 0]from(Blk.new wa 26 #[.slice none 0 0,.int .i64 0,.int .i64 0,.int .i64 0,.int .i64 0]).below_ hbb (by simp));clear hqT hgT hbb;(first|with_reducible refine hK.out _ _ ?_ (fun hHeld3=>?_) |(go_wp2_with fail;with_reducible refine hK.out _ _ ?_ (fun hHeld3=>?_))))
     focus((try dsimp only);exact HSE.out _ HBB.out)
     focus(clear hK K;(try simp only[Act.put,lsa,lsz,lss]))
     refine tkX 4 ?_;refine tkX 5 ?_;refine tkI 6 ?_
     have n0:=HXN.out.at_ 0 rfl
     have n1:=HXN.out.at_ 1 rfl
     have n2:=HXN.out.at_ 2 rfl
     have n3:=HXN.out.at_ 3 rfl
     have n4:=HXN.out.at_ 4 rfl
     have nf0:=HXN.out.free_ 0
     have nf1:=HXN.out.free_ 1
     have nf2:=HXN.out.free_ 2
     have nf3:=HXN.out.free_ 3
     have nf4:=HXN.out.free_ 4
     refine snX 8 rfl (fun K hK=>?_)
     go_simp
     refine hK.out _ _ ?_
     clear hK K
     (try simp only[Act.put,lsa,lsz,lss])
     refine tkJ 9 ?_
     refine dnX ?_
     go_wp2
     go_meet
     have hst:Stk NotU32 wb wa.heap.size:=Stk.of HXN.out (by intro v hv;simp at hv;rcases hv with rfl|rfl|rfl|rfl|rfl <;> exact fun _ h=>by cases h)
     have hge:wk.heap.size≤wa.heap.size:=HBA.out.size
     exact⟨wa.heap.size,pT,cT,rfl,rfl,((((HXN.out.set_ 0 (.slice pT N0 cT)).set_ 1 (.int .i64 A.1)).set_ 2 (.int .i64 A.2)).set_ 3 (.int .i64 B.1)).set_ 4 (.int .i64 B.2),HQT.out.boxed (fun _=>IsQ.solid _) (I32.path hst pT N0 cT A.1 A.2 B.1 B.2) (but_put5 wb wa.heap.size _ _ _ _ _) (fun e he=>by have h7:=HGT.out e he;(try simp only[World.alloc,Array.size_push]at h7);omega),((((HBB.out.setCell (p:=⟨wa.heap.size,0,none⟩) hge _).setCell (p:=⟨wa.heap.size,1,none⟩) hge _).setCell (p:=⟨wa.heap.size,2,none⟩) hge _).setCell (p:=⟨wa.heap.size,3,none⟩) hge _).setCell (p:=⟨wa.heap.size,4,none⟩) hge _⟩
   ·focus(go_simp;refine hK.out _ _ ?_ (fun hHeld1=>?_))
    focus((try dsimp only);exact HSE.out _ ((show Below wk.heap.size wk (wk.drew.alloc (.cells #[.slice none 0 0,.int .i64 0,.int .i64 0,.int .i64 0,.int .i64 0] 26))from(Below.refl _ wk).drew.alloc (Nat.le_refl _) _)))
    focus(clear hK K;(try simp only[Act.put,lsa,lsz,lss]))
    refine stX 1 rfl (fun K hK=>?_)
    focus(go_simp;refine(HTW.out _ ((show Below wk.heap.size wk (wk.drew.alloc (.cells #[.slice none 0 0,.int .i64 0,.int .i64 0,.int .i64 0,.int .i64 0] 26))from(Below.refl _ wk).drew.alloc (Nat.le_refl _) _))).mono ?_;rintro e wa ⟨⟨va,ca,rfl,hqa⟩,hba⟩;have HBA:=Kh (((show Below wk.heap.size wk (wk.drew.alloc (.cells #[.slice none 0 0,.int .i64 0,.int .i64 0,.int .i64 0,.int .i64 0] 26))from(Below.refl _ wk).drew.alloc (Nat.le_refl _) _)).trans (hba.mono (Below.size ((show Below wk.heap.size wk (wk.drew.alloc (.cells #[.slice none 0 0,.int .i64 0,.int .i64 0,.int .i64 0,.int .i64 0] 26))from(Below.refl _ wk).drew.alloc (Nat.le_refl _) _)))):Below wk.heap.size wk wa);have HQA:=Kh hqa;have HBA2:=Kh hba;clear hqa hba;(first|with_reducible refine hK.out _ _ ?_ (fun hHeld2=>?_) |(go_wp2_with fail;with_reducible refine hK.out _ _ ?_ (fun hHeld2=>?_))))
    focus((try dsimp only);exact HSE.out _ HBA.out)
    focus(clear hK K;(try simp only[Act.put,lsa,lsz,lss]))
    refine stX 3 rfl (fun K hK=>?_)
    focus(go_simp;refine(HT1.out va ca _ (HQA.out)).mono ?_;rintro e wb ⟨⟨pT,cT,rfl,hqT,hgT⟩,hbb⟩;have HBB:=Kh ((HBA.out).trans (hbb.mono (Below.size (HBA.out))):Below wk.heap.size wk wb);have HQT:=Kh hqT;have HGT:=Kh hgT;have HXN:=Kh (show Blk wb wk.heap.size 26 #[.slice none 0 0,.int .i64 0,.int .i64 0,.int .i64 0,.int .i64 0]from((Blk.new wk.drew 26 #[.slice none 0 0,.int .i64 0,.int .i64 0,.int .i64 0,.int .i64 0]).below_ HBA2.out (by simp)).below_ hbb (by have:=HBA2.out.size;simp at this;show wk.heap.size<wa.heap.size;omega));clear hqT hgT hbb;(first|with_reducible refine hK.out _ _ ?_ (fun hHeld3=>?_) |(go_wp2_with fail;with_reducible refine hK.out _ _ ?_ (fun hHeld3=>?_))))
    focus((try dsimp only);exact HSE.out _ HBB.out)
    focus(clear hK K;(try simp only[Act.put,lsa,lsz,lss]))
    refine tkX 4 ?_;refine tkX 5 ?_;refine tkI 6 ?_
    have n0:=HXN.out.at_ 0 rfl
    have n1:=HXN.out.at_ 1 rfl
    have n2:=HXN.out.at_ 2 rfl
    have n3:=HXN.out.at_ 3 rfl
    have n4:=HXN.out.at_ 4 rfl
    have nf0:=HXN.out.free_ 0
    have nf1:=HXN.out.free_ 1
    have nf2:=HXN.out.free_ 2
    have nf3:=HXN.out.free_ 3
    have nf4:=HXN.out.free_ 4
    refine snX 8 rfl (fun K hK=>?_)
    go_simp
    refine hK.out _ _ ?_
    clear hK K
    (try simp only[Act.put,lsa,lsz,lss])
    refine tkJ 9 ?_
    refine dnX ?_
    go_wp2
    go_meet
    have hst:Stk NotU32 wb wk.heap.size:=Stk.of HXN.out (by intro v hv;simp at hv;rcases hv with rfl|rfl|rfl|rfl|rfl <;> exact fun _ h=>by cases h)
    have hge:wk.heap.size≤wk.heap.size:=Nat.le_refl _
    exact⟨wk.heap.size,pT,cT,rfl,rfl,((((HXN.out.set_ 0 (.slice pT N0 cT)).set_ 1 (.int .i64 A.1)).set_ 2 (.int .i64 A.2)).set_ 3 (.int .i64 B.1)).set_ 4 (.int .i64 B.2),HQT.out.boxed (fun _=>IsQ.solid _) (I32.path hst pT N0 cT A.1 A.2 B.1 B.2) (but_put5 wb wk.heap.size _ _ _ _ _) (fun e he=>by have h7:=HGT.out e he;(try simp only[World.alloc,Array.size_push]at h7);have h8:=HBA2.out.size;(try simp only[World.alloc,Array.size_push]at h8);(try simp at h8);omega),((((HBB.out.setCell (p:=⟨wk.heap.size,0,none⟩) hge _).setCell (p:=⟨wk.heap.size,1,none⟩) hge _).setCell (p:=⟨wk.heap.size,2,none⟩) hge _).setCell (p:=⟨wk.heap.size,3,none⟩) hge _).setCell (p:=⟨wk.heap.size,4,none⟩) hge _⟩
  case rest=>
   obtain⟨gb,pT,cT,rfl,rfl,XT,hqT,hbx⟩:=hcut
   obtain⟨w1,rfl⟩:∃ w1:World,w1=wc:=⟨_,rfl⟩
   have HXT:=Kh XT
   have HQT:=Kh hqT
   have HB1:=bt HBK hbx
   have HXA1:=Kh (bk HXA hbx)
   have HXM1:=Kh (bk HXM hbx)
   have HQR1:=Kh (HQR.out.keep (fun _=>IsR.solid _ _) hbx)
   clear x0 x1 x2 x3 x4 m0 m1 m2 m3 XT hqT hbx HXA HXM HQR HTW HT1
   have x0:=HXA1.out.at_ 0 rfl
   have x1:=HXA1.out.at_ 1 rfl
   have x2:=HXA1.out.at_ 2 rfl
   have x3:=HXA1.out.at_ 3 rfl
   have x4:=HXA1.out.at_ 4 rfl
   have m0:=HXM1.out.at_ 0 rfl
   have m1:=HXM1.out.at_ 1 rfl
   have m2:=HXM1.out.at_ 2 rfl
   have m3:=HXM1.out.at_ 3 rfl
   go_wp2_with fail
   refine(HT2.out vp vc w1 HQR1.out).mono ?_
   rintro e w2 ⟨⟨pU,cU,rfl,hqU,_⟩,hb2⟩
   have HXT2:=Kh (bk HXT hb2)
   have HQT2:=Kh (HQT.out.keep (fun _=>IsQ.solid _) hb2)
   have HQU:=Kh hqU
   have HB2:=bt HB1 hb2
   clear x0 x1 x2 x3 x4 m0 m1 m2 m3 hqU hb2 HXT HQT HB1 HQR1
   have x0:=(HXT2.out.alloc_ (.cells #[.slice pU N0 cU,.int .i64 A.1,.int .i64 A.2,.int .i64 B.1,.int .i64 B.2] 26)).at_ 0 rfl
   have x1:=(HXT2.out.alloc_ (.cells #[.slice pU N0 cU,.int .i64 A.1,.int .i64 A.2,.int .i64 B.1,.int .i64 B.2] 26)).at_ 1 rfl
   have x2:=(HXT2.out.alloc_ (.cells #[.slice pU N0 cU,.int .i64 A.1,.int .i64 A.2,.int .i64 B.1,.int .i64 B.2] 26)).at_ 2 rfl
   have x3:=(HXT2.out.alloc_ (.cells #[.slice pU N0 cU,.int .i64 A.1,.int .i64 A.2,.int .i64 B.1,.int .i64 B.2] 26)).at_ 3 rfl
   have x4:=(HXT2.out.alloc_ (.cells #[.slice pU N0 cU,.int .i64 A.1,.int .i64 A.2,.int .i64 B.1,.int .i64 B.2] 26)).at_ 4 rfl
   go_wp2_with fail
   have hb3:Below w2.heap.size w2 (w2.alloc (.cells #[.slice pU N0 cU,.int .i64 A.1,.int .i64 A.2,.int .i64 B.1,.int .i64 B.2] 26)):=(Below.refl _ _).alloc (Nat.le_refl _) _
   refine(c_same42 pT pU N0 cT cU f A.1 A.2 B.1 B.2 _ (HQT2.out.keep (fun _=>IsQ.solid _) hb3) (HQU.out.keep (fun _=>IsQ.solid _) hb3) (by omega) (fun j hj=>Nat.le_trans (HFS.out j hj) (by omega))).mono ?_
   rintro e w4 ⟨rfl,hb4⟩
   have HB4:=Kh (HB2.out.trans ((hb3.trans (hb4.mono hb3.size)).mono HB2.out.size))
   clear hb3 hb4 x0 x1 x2 x3 x4
   go_wp2
   go_ret
   exact⟨rfl,HB4.out⟩
end Go.Proofs.YtijgdhijdfgpfaaGreatDoor
