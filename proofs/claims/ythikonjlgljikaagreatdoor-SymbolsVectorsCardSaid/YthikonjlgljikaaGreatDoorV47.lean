/- Contract of halfplaneref40.Apply: a symbol times a matrix. -/
import Derived.Test.YthikonjlgljikaaGreatDoorV46
set_option linter.unusedSimpArgs false
set_option maxRecDepth 100000
set_option maxHeartbeats 8000000
namespace Go.Proofs.YthikonjlgljikaaGreatDoor
open Go.RowKit
theorem mul_bnd {U:Nat} {a:Int} (hU:U≤120) (h:-1073741824≤a) (h':a≤1073741824):-128849018880≤(U:Int)*a∧(U:Int)*a≤128849018880:=by
 have h1:=Int.mul_le_mul_of_nonneg_left h' (show(0:Int)≤(U:Int)by omega)
 have h2:=Int.mul_le_mul_of_nonneg_left h (show(0:Int)≤(U:Int)by omega)
 omega
def rowI (l P:Nat) (s:Int) (p:Nat→Int) (i k:Nat):Int:=if k % l=P∧k / l<i then s*p (k / l)else 0
theorem rowI_zero (l P:Nat) (s:Int) (p:Nat→Int) (k:Nat):rowI l P s p 0 k=0:=by rw[rowI,if_neg (fun h=>Nat.not_lt_zero _ h.2)]
theorem rowI_at {l P:Nat} {s:Int} {p:Nat→Int} {i:Nat} (hP:P<l):rowI l P s p (i+1) (i*l+P)=s*p i:=by
 have h1:(i*l+P) % l=P:=by rw[Nat.mul_comm,Nat.mul_add_mod,Nat.mod_eq_of_lt hP]
 have h2:(i*l+P) / l=i:=by rw[Nat.mul_comm,Nat.mul_add_div (by omega),Nat.div_eq_of_lt hP,Nat.add_zero]
 rw[rowI,if_pos ⟨h1,by rw[h2];exact Nat.lt_succ_self _⟩,h2]
theorem rowI_ne {l P:Nat} {s:Int} {p:Nat→Int} {i k:Nat} (hk:k≠i*l+P):rowI l P s p i k=rowI l P s p (i+1) k:=by
 rw[rowI,rowI]
 by_cases h:k % l=P∧k / l<i
 ·rw[if_pos h,if_pos ⟨h.1,by omega⟩]
 ·rw[if_neg h,if_neg]
  rintro⟨h1,h2⟩
  by_cases h3:k / l<i
  ·exact h ⟨h1,h3⟩
  ·have h4:k / l=i:=by omega
   have h5:=Nat.div_add_mod k l
   rw[h4,h1,Nat.mul_comm]at h5
   exact hk h5.symm
theorem mvd_eq (n wt:Nat) (L:List Nat) (f:Nat→Nat×Int) (i j:Nat) (a b c d:Int) (U V l:Nat) (hU:L.getD j 0 / n=U) (hV:L.getD j 0 % n=V) (hl:L.length=l) (k:Nat):
  mvd n wt L f i j (a,b,c,d) k=if(f ((((U:Int)*a+(V:Int)*c) % n).toNat*n+(((U:Int)*b+(V:Int)*d) % n).toNat)).2=0 then 0 else rowI l (f ((((U:Int)*a+(V:Int)*c) % n).toNat*n+(((U:Int)*b+(V:Int)*d) % n).toNat)).1 (f ((((U:Int)*a+(V:Int)*c) % n).toNat*n+(((U:Int)*b+(V:Int)*d) % n).toNat)).2 (mv i a b c d wt) (wt+1) k:=by
 unfold mvd
 simp only[mvd_index,hU,hV,hl]
 split
 ·rfl
 ·rw[rowI]
  by_cases h:k % l=(f ((((U:Int)*a+(V:Int)*c) % n).toNat*n+(((U:Int)*b+(V:Int)*d) % n).toNat)).1∧k / l≤wt
  ·rw[if_pos h,if_pos ⟨h.1,by omega⟩]
  ·rw[if_neg h,if_neg (fun h2=>h ⟨h2.1,by omega⟩)]
theorem ZRow.but {f:Nat→Int} {w w':World} {g N k R:Nat} (h:ZRow f w g N k) (h32:I32 w w') (hg:w.grownBy w' (some R)) (hne:g≠R) {j:Nat} (hj:j<k):ZE (f j) w' g (j*2):=by
 obtain⟨s,p,n,c,e0,e1,hz⟩:=h.val j hj
 exact⟨s,p,n,c,hg.cell e0 (fun e=>hne (by injection e)),hg.cell e1 (fun e=>hne (by injection e)),hz.i32 h32⟩
theorem c_Apply40 (n wt:Nat) (D:Int) (L:List Nat) (C:Nat) (x:Nat) (a b c d:Int) (w:World) (hck:Pl.check n ((wt:Int)+2) D=0) (hL:pts n (n*n)=L) (hC:(wt+1)*L.length=C) (hx:x<C) (hCb:C≤1000)
  (ha:-1073741824≤a) (ha':a≤1073741824) (hb:-1073741824≤b) (hb':b≤1073741824) (hc:-1073741824≤c) (hc':c≤1073741824) (hd:-1073741824≤d) (hd':d≤1073741824):
  Calls Tryz.prog 104 #[.agg #[.int .i64 n,.int .i64 ((wt:Int)+2),.int .i64 D],.int .i64 x,.agg #[.int .i64 a,.int .i64 b,.int .i64 c,.int .i64 d]] w fun e w'=>(∃ g cap,e=.returned (.tuple #[.slice (some ⟨g,0,none⟩) C cap,.int .i64 0])∧w.heap.size≤g∧ZRow (mvd n wt L (plAll n D L n) (x / L.length) (x % L.length) (a,b,c,d)) w' g C C)∧Below w.heap.size w w':=by
 obtain⟨h1,h2,h3,h4,h5,h6⟩:=check_zero hck
 have hL0:0<L.length:=by
  rcases Nat.eq_zero_or_pos L.length with h|h
  ·rw[h,Nat.mul_zero]at hC;omega
  ·exact h
 have hLb:L.length≤1000:=by
  have:=Nat.le_mul_of_pos_left L.length (show 0<wt+1 by omega)
  omega
 have HSY:=Kh (fun W=>c_Symbol n wt D L C x W hck hL hC hx)
 have HLI:=Kh (fun W=>c_List21 n W (by omega) (by omega))
 obtain⟨T,hT⟩:∃ T,plAll n D L n=T:=⟨_,rfl⟩
 have hTok:TabOk L.length T:=by rw[← hT];exact plAll_ok (kro3 D) n
 have HCL:=Kh (fun(B:Nat) v x y W hv hB=>c_class n wt D L T B v x y W (by omega) (by omega) (by omega) (by omega) (by omega) (fun a h=>by rw[← hL]at h;exact pts_lt h) (fun j f k g1 g2 g3 g4=>by rw[← hT,← hL];exact class_hit hck (by rw[hL];exact g1) g2 g3 (by rw[hL];exact g4)) (fun k g1=>by rw[← hT,← hL];exact class_miss (by omega) (fun j f g2 g3 g4=>by rw[hL]at g2 ⊢;exact g1 j f g2 g3 g4)) hv hB)
 rw[hL]at HLI
 obtain⟨l,hl⟩:∃ l,L.length=l:=⟨_,rfl⟩
 obtain⟨e,he⟩:∃ e,x / l=e:=⟨_,rfl⟩
 obtain⟨m,hm⟩:∃ m,x % l=m:=⟨_,rfl⟩
 obtain⟨U,hU⟩:∃ U,L.getD m 0 / n=U:=⟨_,rfl⟩
 obtain⟨V,hV⟩:∃ V,L.getD m 0 % n=V:=⟨_,rfl⟩
 have hml:m<l:=by rw[← hm];exact Nat.mod_lt _ (by omega)
 have hUn:U<n:=by
  rw[← hU]
  refine Nat.div_lt_of_lt_mul ?_
  have h:=getD_mem (L:=L) (i:=m) (by omega)
  rw[← hL]at h ⊢
  exact pts_lt h
 have hVn:V<n:=by rw[← hV];exact Nat.mod_lt _ (by omega)
 obtain⟨Kx,hKx⟩:∃ z,(U:Int)*a+(V:Int)*c=z:=⟨_,rfl⟩
 obtain⟨Ky,hKy⟩:∃ z,(U:Int)*b+(V:Int)*d=z:=⟨_,rfl⟩
 obtain⟨PP,hPP⟩:∃ PP,T ((Kx % n).toNat*n+(Ky % n).toNat)=PP:=⟨_,rfl⟩
 have hPok:=hTok ((Kx % n).toNat*n+(Ky % n).toNat)
 rw[hPP,hl]at hPok
 have HMV:=Kh (show ∀ k,mvd n wt L T e m (a,b,c,d) k=if PP.2=0 then 0 else rowI l PP.1 PP.2 (mv e a b c d wt) (wt+1) k from fun k=>by rw[mvd_eq n wt L T e m a b c d U V l hU hV hl k,hKx,hKy,hPP])
 rw[hl,he,hm,hU,hV]at HSY
 rw[hT,hl,he,hm]
 have hexp:e≤wt:=by
  have h1:x<l*(wt+1):=by rw[Nat.mul_comm,← hl,hC];exact hx
  have h2:=Nat.div_lt_of_lt_mul h1
  omega
 have HMO:=Kh (fun W=>c_Moved wt e a b c d W (by omega) (by omega) ha ha' hb hb' hc hc' hd hd')
 have HSZ:=Kh (fun j=>mv_size e a b c d (nd64 ha ha') (nd64 hb hb') (nd64 hc hc') (nd64 hd hd') wt j)
 obtain⟨S1,hS1⟩:∃ z,(U:Int)*a=z:=⟨_,rfl⟩
 obtain⟨S2,hS2⟩:∃ z,(V:Int)*c=z:=⟨_,rfl⟩
 obtain⟨S3,hS3⟩:∃ z,(U:Int)*b=z:=⟨_,rfl⟩
 obtain⟨S4,hS4⟩:∃ z,(V:Int)*d=z:=⟨_,rfl⟩
 have b1:=mul_bnd (U:=U) (by omega) ha ha'
 have b2:=mul_bnd (U:=V) (by omega) hc hc'
 have b3:=mul_bnd (U:=U) (by omega) hb hb'
 have b4:=mul_bnd (U:=V) (by omega) hd hd'
 rw[hS1]at b1 hKx
 rw[hS2]at b2 hKx
 rw[hS3]at b3 hKy
 rw[hS4]at b4 hKy
 have v1:IntKind.i64.wrap S1=S1:=IntWalk.i64_in _ (by omega)
 have v2:IntKind.i64.wrap S2=S2:=IntWalk.i64_in _ (by omega)
 have v3:IntKind.i64.wrap S3=S3:=IntWalk.i64_in _ (by omega)
 have v4:IntKind.i64.wrap S4=S4:=IntWalk.i64_in _ (by omega)
 have v5:IntKind.i64.wrap Kx=Kx:=IntWalk.i64_in _ (by omega)
 have v6:IntKind.i64.wrap Ky=Ky:=IntWalk.i64_in _ (by omega)
 have hlC:(wt+1)*l=C:=by rw[← hl];exact hC
 have HLC:=Kh hlC
 have m1:((wt:Int)+1)*(l:Int)=(C:Nat):=by rw[← hlC];push_cast;rfl
 have m2:((wt:Int)+2) - 1=(wt:Int)+1:=by omega
 have m3:((wt:Int)+2) - 2=(wt:Nat):=by omega
 have hmk:=makeI C (by omega)
 have HL:=Kh hl
 have hwt:wt≤22:=by omega
 have HAB:=Kh (And.intro (And.intro ha ha') (And.intro (And.intro hb hb') (And.intro (And.intro hc hc') (And.intro hd hd'))))
 have HPO:=Kh hPok
 have HPP:=Kh hPP
 clear hck hL hC hTok hT he hm hU hV hPok hPP b1 b2 b3 b4 hlC hl
 go_enter Tryz.func104,Tryz.ntmps104
 go_wp2_with fail
 obtain⟨w0,hw0,X0,X1,hb0⟩:=bx2 w #[.int .i64 n,.int .i64 ((wt:Int)+2),.int .i64 D] 23 #[.int .i64 a,.int .i64 b,.int .i64 c,.int .i64 d] 97
 rw[hw0]
 obtain⟨bs,hbs⟩:∃ y,w.heap.size=y:=⟨_,rfl⟩
 obtain⟨bg,hbg⟩:∃ y,w.heap.size+1=y:=⟨_,rfl⟩
 have HBR:=Kh (And.intro hbs hbg)
 rw[hbg]at X1 ⊢
 rw[hbs]at X0 ⊢
 refine(HSY.out w0).mono ?_
 rintro ee w1 ⟨rfl,hb1⟩
 obtain⟨w2,hw2⟩:∃ w2,w1.alloc (.cells #[.int .i64 e,.int .i64 U,.int .i64 V] 220)=w2:=⟨_,rfl⟩
 obtain⟨X2,hb2⟩:=box1 w1 #[.int .i64 e,.int .i64 U,.int .i64 V] 220
 rw[hw2]at X2 hb2
 have X0:=(X0.below_ hb1 X0.lt).below_ hb2 (X0.below_ hb1 X0.lt).lt
 have X1:=(X1.below_ hb1 X1.lt).below_ hb2 (X1.below_ hb1 X1.lt).lt
 have HB2:=Kh ((hb0.trans (hb1.mono hb0.size)).trans (hb2.mono (hb0.trans (hb1.mono hb0.size)).size))
 obtain⟨bx,hbx⟩:∃ y,w1.heap.size=y:=⟨_,rfl⟩
 rw[hbx]at X2
 have HX0:=Kh X0
 have HX1:=Kh X1
 have HX2:=Kh X2
 have y0:=X1.at_ 0 rfl
 have y1:=X1.at_ 1 rfl
 have y2:=X1.at_ 2 rfl
 have y3:=X1.at_ 3 rfl
 go_wp2_with fail
 clear hw0 hw2 X0 X1 X2 hb0 hb1 hb2 hbs hbg hbx HSY y0 y1 y2 y3
 go_loopw [37] (fun ii wr=>∃ i:Nat,i≤4∧ii=.int .i64 i∧wr=w2) (fun ii _=>4 - (intOf ii).toNat)
 case atStart=>exact⟨0,by omega,rfl,rfl⟩
 case round=>
  obtain⟨i,hi,rfl,rfl⟩:=hrel
  have ix0:∀ w:World,(Instr.index 202 (.agg #[.int .i64 a,.int .i64 b,.int .i64 c,.int .i64 d]) (.int .i64 0)).run Tryz.prog w=.ok (.int .i64 a) w:=fun _=>by kernel_rfl
  have ix1:∀ w:World,(Instr.index 202 (.agg #[.int .i64 a,.int .i64 b,.int .i64 c,.int .i64 d]) (.int .i64 1)).run Tryz.prog w=.ok (.int .i64 b) w:=fun _=>by kernel_rfl
  have ix2:∀ w:World,(Instr.index 202 (.agg #[.int .i64 a,.int .i64 b,.int .i64 c,.int .i64 d]) (.int .i64 2)).run Tryz.prog w=.ok (.int .i64 c) w:=fun _=>by kernel_rfl
  have ix3:∀ w:World,(Instr.index 202 (.agg #[.int .i64 a,.int .i64 b,.int .i64 c,.int .i64 d]) (.int .i64 3)).run Tryz.prog w=.ok (.int .i64 d) w:=fun _=>by kernel_rfl
  by_cases hi4:i<4
  ·have hi5:i=0∨i=1∨i=2∨i=3:=by omega
   clear hi hi4
   rcases hi5 with rfl|rfl|rfl|rfl
   ·have k1:¬ (a < -1073741824):=by have:=HAB.out;omega
    have k2:¬ (1073741824<a):=by have:=HAB.out;omega
    go_wp2
    go_roundw
    all_goals first|exact⟨0+1,by omega,rfl,trivial⟩ |(simp[intOf];done) |(simp[intOf];omega)
   ·have k1:¬ (b < -1073741824):=by have:=HAB.out;omega
    have k2:¬ (1073741824<b):=by have:=HAB.out;omega
    go_wp2
    go_roundw
    all_goals first|exact⟨1+1,by omega,rfl,trivial⟩ |(simp[intOf];done) |(simp[intOf];omega)
   ·have k1:¬ (c < -1073741824):=by have:=HAB.out;omega
    have k2:¬ (1073741824<c):=by have:=HAB.out;omega
    go_wp2
    go_roundw
    all_goals first|exact⟨2+1,by omega,rfl,trivial⟩ |(simp[intOf];done) |(simp[intOf];omega)
   ·have k1:¬ (d < -1073741824):=by have:=HAB.out;omega
    have k2:¬ (1073741824<d):=by have:=HAB.out;omega
    go_wp2
    go_roundw
    all_goals first|exact⟨3+1,by omega,rfl,trivial⟩ |(simp[intOf];done) |(simp[intOf];omega)
  ·obtain rfl:4=i:=by omega
   clear ix0 ix1 ix2 ix3
   have x0:=HX0.out.at_ 0 rfl
   go_wp2_with fail
   refine(HLI.out _).mono ?_
   rintro ee w3 ⟨⟨vl,rfl,hown⟩,hb3⟩
   have HB3:=bt HB2 hb3
   have X0:=bk HX0 hb3
   have X1:=bk HX1 hb3
   have X2:=bk HX2 hb3
   replace HX0:=Kh X0
   replace HX1:=Kh X1
   replace HX2:=Kh X2
   have HPT:=Kh hown.ptl
   obtain⟨pl,cl,rfl⟩:∃ p c,vl=.slice p l c:=by
    rcases hown.ptl with⟨h1,a',c',e'⟩ |⟨g',cap',e',_⟩
    ·exact⟨a',c',by rw[e',← HL.out,h1];rfl⟩
    ·exact⟨_,cap',by rw[e',HL.out]⟩
   clear x0 hb3 hown X0 X1 X2
   have x1:=HX0.out.at_ 1 rfl
   go_wp2_with fail
   have hrow:=World.rowIs_made w3 (.int .i64 0) C 3
   obtain⟨wn,hwn⟩:∃ wn,w3.alloc (.cells (madeCells #[.int .i64 0] C) 3)=wn:=⟨_,rfl⟩
   rw[hwn]at hrow ⊢
   have hbn:Below w3.heap.size w3 wn:=hwn▸(Below.refl _ _).alloc (Nat.le_refl _) _
   have HZS:=Kh (c_Zs w3.heap.size C C (fun _=>0) wn hrow.lt (fun j hj=>hrow.cell hj) (fun _ _=>by omega) (by omega))
   have HBN:=Kh hbn
   clear hrow hbn hwn hmk x1
   refine HZS.out.mono ?_
   rintro ee w4 ⟨⟨v4',rfl,ho⟩,hb4⟩
   obtain⟨g,cap,rfl,hgB,hro⟩:=ho.row.resolve_left (fun h=>by omega)
   have hb34:=HBN.out.trans (hb4.mono HBN.out.size)
   have HB4:=bt HB3 hb34
   have HGB:=Kh (show w3.heap.size≤g from Nat.le_trans HBN.out.size hgB)
   have HRO:=Kh hro
   have HPT4:=Kh ((HPT.out.next hb34).up hb34.size)
   have X0:=bk HX0 hb34
   have X1:=bk HX1 hb34
   have X2:=bk HX2 hb34
   replace HX0:=Kh X0
   replace HX1:=Kh X1
   replace HX2:=Kh X2
   have x0:=X0.at_ 0 rfl
   have x1:=X0.at_ 1 rfl
   have x2:=X0.at_ 2 rfl
   have y0:=X1.at_ 0 rfl
   have y1:=X1.at_ 1 rfl
   have y2:=X1.at_ 2 rfl
   have y3:=X1.at_ 3 rfl
   have z1:=X2.at_ 1 rfl
   have z2:=X2.at_ 2 rfl
   clear HZS HBN HPT hb4 hb34 ho hgB hro X0 X1 X2
   go_wp2_with fail
   refine(HCL.out w4.heap.size _ Kx Ky w4 HPT4.out (Nat.le_refl _)).mono ?_
   rw[HPP.out]
   rintro ee w5 ⟨rfl,hb5⟩
   have HB5:=bt HB4 hb5
   have HRO5:=Kh (HRO.out.keep hb5)
   have X0:=bk HX0 hb5
   have X1:=bk HX1 hb5
   have X2:=bk HX2 hb5
   have hwg:w.heap.size≤g:=by
    have h1:=HGB.out
    have h2:=HB3.out.size
    omega
   have HWG:=Kh hwg
   clear x0 x1 x2 y0 y1 y2 y3 z1 z2 hb5 HX0 HX1 HX2 HRO HPT4 HCL hwg
   obtain⟨P,s⟩:=PP
   by_cases hs0:s=0
   ·have hsb:(s==0)=true:=by rw[hs0];rfl
    have HRR:=Kh (HRO5.out.congr (f':=mvd n wt L T e m (a,b,c,d)) (fun j _=>by rw[HMV.out,if_pos hs0]))
    clear hs0
    go_wp2
    (first|go_ret2|go_ret)
    exact⟨⟨g,cap,rfl,HWG.out,HRR.out⟩,HB5.out⟩
   ·have hsb:(s==0)=false:=beq_eq_false_iff_ne.2 hs0
    have HMV2:=Kh (show ∀ k,mvd n wt L T e m (a,b,c,d) k=rowI l P s (mv e a b c d wt) (wt+1) k from fun k=>by rw[HMV.out,if_neg hs0])
    have hPl:P<l∧(s=0∨s=1∨s=-1):=by
     rcases HPO.out with h|h
     ·injection h with h1 h2;exact absurd h2 hs0
     ·exact h
    obtain⟨hPl,hsv⟩:=hPl
    have hsr:-1≤s∧s≤1:=by omega
    obtain⟨hs1,hs2⟩:=hsr
    clear hs0 hsv
    have x1:=X0.at_ 1 rfl
    have y0:=X1.at_ 0 rfl
    have y1:=X1.at_ 1 rfl
    have y2:=X1.at_ 2 rfl
    have y3:=X1.at_ 3 rfl
    have z0:=X2.at_ 0 rfl
    clear X0 X1 X2
    go_wp2_with fail
    refine(HMO.out w5).mono ?_
    rintro ee w6 ⟨⟨gp,capp,rfl,hgp,hrp⟩,hb6⟩
    have HB6:=bt HB5 hb6
    have hgg:gp≠g:=by have:=HRO5.out.sts.1;omega
    have HGG:=Kh hgg
    have HRP:=Kh hrp
    have HRO6:=Kh ((HRO5.out.keep hb6).congr (f':=rowI l P s (mv e a b c d wt) 0) (fun j _=>(rowI_zero _ _ _ _ _).symm))
    clear x1 y0 y1 y2 y3 z0 hb6 hrp HRO5 hgp hgg HMO
    go_wp2_with fail
    go_loopw [18] (fun ii wr=>∃ i:Nat,i≤wt+1∧ii=.int .i64 i∧ZRow (rowI l P s (mv e a b c d wt) i) wr g C C∧w6.grownBy wr (some g)∧I32 w6 wr) (fun ii _=>wt+1 - (intOf ii).toNat)
    case atStart=>exact⟨0,Nat.zero_le _,rfl,HRO6.out,but_below g (Below.refl _ _),I32.refl _⟩
    case round=>
     obtain⟨i,hi,rfl,hrow,hgw,h32⟩:=hrel
     obtain⟨we,rfl⟩:∃ we:World,we=wr:=⟨_,rfl⟩
     have HROW:=Kh hrow
     have HGW:=Kh hgw
     have H32:=Kh h32
     have HBW:=Kh (show Below w.heap.size w we from below_but HB6.out hgw HB6.out.size HWG.out)
     by_cases hlt:i<wt+1
     ·have hii:(i:Int)<((wt+1:Nat):Int):=by omega
      have hii2:(i:Int)<(wt:Int)+1:=by omega
      obtain⟨il,hil⟩:∃ y,i*l=y:=⟨_,rfl⟩
      obtain⟨q,hq⟩:∃ y,il+P=y:=⟨_,rfl⟩
      have hqC:q<C:=by
       have h1:=Nat.mul_le_mul_right l (show i+1≤wt+1 by omega)
       have h2:=HLC.out
       rw[Nat.succ_mul]at h1
       omega
      have e1:(i:Int)*(l:Int)=(il:Nat):=by rw[← hil];push_cast;rfl
      have e2:(il:Int)+(P:Int)=(q:Nat):=by omega
      have w1':IntKind.i64.wrap (il:Int)=(il:Nat):=IntWalk.i64_in _ (by omega)
      have w2':IntKind.i64.wrap (q:Int)=(q:Nat):=IntWalk.i64_in _ (by omega)
      have hqi:(q:Int)<(C:Int):=by omega
      obtain⟨s1,p1,n1,c1,a0,a1,hz1⟩:=HRP.out.but h32 hgw HGG.out hlt
      have HZ1:=Kh (show Zs we s1 p1 n1 c1 (mv e a b c d wt i)from hz1)
      have HQ:=Kh (show q=i*l+P by omega)
      have HZS:=Kh (fun W=>c_Z s W (by omega) (by omega))
      have HMU:=Kh (fun W s5 p5 n5 c5 (hb:Below we.heap.size we W) (hz5:Zs W s5 p5 n5 c5 s)=>c_rMul s5 p5 n5 c5 s s1 p1 n1 c1 (mv e a b c d wt i) W hz5.raw (HZ1.out.keep hb).raw (by have h1:=hz5.2.1;have h2:nd s.natAbs≤1:=(nd_small (by omega));omega) (by have h1:=HZ1.out.2.1;have h2:=HSZ.out i;omega))
      have o0:=hrow.has (q*2) (by omega)
      have o1:=hrow.has (q*2+1) (by omega)
      have of0:=hrow.free (q*2) (by omega)
      have of1:=hrow.free (q*2+1) (by omega)
      have HS1:=Kh (show ∀ W,Below we.heap.size we W→(W.cell? ⟨gp,i*2,none⟩=some (.bool s1)∧W.cell? ⟨gp,i*2+1,none⟩=some (.slice p1 n1 c1)∧W.cell? ⟨g,q*2,none⟩=some (cellOf W ⟨g,q*2,none⟩)∧W.frozen? ⟨g,q*2,none⟩=false∧W.cell? ⟨g,q*2+1,none⟩=some (cellOf W ⟨g,q*2+1,none⟩)∧W.frozen? ⟨g,q*2+1,none⟩=false)from fun W hb=>⟨cell_next hb a0,cell_next hb a1,cellOf_some (by rw[hb.cell (p:=⟨g,q*2,none⟩) hrow.sts.1];exact o0),frozen_keep hb o0 of0,cellOf_some (by rw[hb.cell (p:=⟨g,q*2+1,none⟩) hrow.sts.1];exact o1),frozen_keep hb o1 of1⟩)
      have hS0:=HS1.out _ (Below.refl _ we).drew
      have HK1:=Kh (show ∀ wb,Below we.drew.heap.size we.drew wb→Below we.heap.size we wb from fun wb hb=>(Below.refl _ we).drew.trans hb)
      have HK2:=Kh (show ∀ wa wb,Below we.heap.size we wa→Below wa.heap.size wa wb→Below we.heap.size we wb from fun wa wb h1 h2=>h1.trans (h2.mono h1.size))
      clear hrow hgw h32 a0 a1 hz1 o0 o1 of0 of1 hil hq
      go_upto_region 19 with(fail)
      go_region_held3 (fun W=>W.cell? ⟨gp,i*2,none⟩=some (.bool s1)∧W.cell? ⟨gp,i*2+1,none⟩=some (.slice p1 n1 c1)∧W.cell? ⟨g,q*2,none⟩=some (cellOf W ⟨g,q*2,none⟩)∧W.frozen? ⟨g,q*2,none⟩=false∧W.cell? ⟨g,q*2+1,none⟩=some (cellOf W ⟨g,q*2+1,none⟩)∧W.frozen? ⟨g,q*2+1,none⟩=false)
       (first|with_reducible exact hS0|with_reducible exact HS1.out _ HBA.out|with_reducible exact HSQ.out)
       (first
        |(go_at_call 74;(with_reducible refine(HZS.out _).mono ?_);rintro ee w7 ⟨⟨s5,p5,n5,c5,rfl,hz5⟩,hb7⟩;have HBA:=Kh (show Below we.heap.size we w7 from by first|exact HK2.out _ _ HBA.out hb7|exact HK1.out _ hb7))
        |(go_at_call 98;(with_reducible refine(HMU.out _ _ _ _ _ HBA.out hz5).mono ?_);rintro ee w8 ⟨⟨s6,p6,n6,c6,rfl,hz6⟩,hb8⟩;have HBA:=Kh (HK2.out _ _ HBA.out hb8);have hr8:=HROW.out.keep HBA.out;have HR8:=Kh (hr8.set q hqC (k':=C) (rowI l P s (mv e a b c d wt) (i+1)) (fun k hk hne=>⟨hk,rowI_ne (by rw[← HQ.out];exact hne)⟩) (show Zs w8 s6 p6 n6 c6 (rowI l P s (mv e a b c d wt) (i+1) q)by rw[HQ.out,rowI_at hPl];exact hz6));have HG8:=Kh ((HGW.out.trans (but_below g HBA.out)).trans ((but_put w8 g (q*2) (.bool s6)).trans (but_put _ g (q*2+1) (.slice p6 n6 c6))));have HI8:=Kh ((H32.out.trans (I32.below HBA.out)).trans (I32.put2 hr8.sts (q*2) (q*2+1) (.bool s6) (.slice p6 n6 c6) (NotInt.bool _)));obtain⟨u0,hu0⟩:=Option.isSome_iff_exists.1 (hr8.has (q*2) (by omega));obtain⟨u1,hu1⟩:=Option.isSome_iff_exists.1 (hr8.has (q*2+1) (by omega));have f0:=hr8.free (q*2) (by omega);have f1:=hr8.free (q*2+1) (by omega);have HSQ:=Kh (show(((w8.setCell ⟨g,q*2,none⟩ (.bool s6)).setCell ⟨g,q*2+1,none⟩ (.slice p6 n6 c6)).cell? ⟨gp,i*2,none⟩=some (.bool s1)∧((w8.setCell ⟨g,q*2,none⟩ (.bool s6)).setCell ⟨g,q*2+1,none⟩ (.slice p6 n6 c6)).cell? ⟨gp,i*2+1,none⟩=some (.slice p1 n1 c1)∧((w8.setCell ⟨g,q*2,none⟩ (.bool s6)).setCell ⟨g,q*2+1,none⟩ (.slice p6 n6 c6)).cell? ⟨g,q*2,none⟩=some (cellOf ((w8.setCell ⟨g,q*2,none⟩ (.bool s6)).setCell ⟨g,q*2+1,none⟩ (.slice p6 n6 c6)) ⟨g,q*2,none⟩)∧((w8.setCell ⟨g,q*2,none⟩ (.bool s6)).setCell ⟨g,q*2+1,none⟩ (.slice p6 n6 c6)).frozen? ⟨g,q*2,none⟩=false∧((w8.setCell ⟨g,q*2,none⟩ (.bool s6)).setCell ⟨g,q*2+1,none⟩ (.slice p6 n6 c6)).cell? ⟨g,q*2+1,none⟩=some (cellOf ((w8.setCell ⟨g,q*2,none⟩ (.bool s6)).setCell ⟨g,q*2+1,none⟩ (.slice p6 n6 c6)) ⟨g,q*2+1,none⟩)∧((w8.setCell ⟨g,q*2,none⟩ (.bool s6)).setCell ⟨g,q*2+1,none⟩ (.slice p6 n6 c6)).frozen? ⟨g,q*2+1,none⟩=false)from⟨by rw[World.cell?_setCell_far _ _ _ _ (show g≠gp from fun h=>HGG.out h.symm),World.cell?_setCell_far _ _ _ _ (show g≠gp from fun h=>HGG.out h.symm)];exact(HS1.out _ HBA.out).1,by rw[World.cell?_setCell_far _ _ _ _ (show g≠gp from fun h=>HGG.out h.symm),World.cell?_setCell_far _ _ _ _ (show g≠gp from fun h=>HGG.out h.symm)];exact(HS1.out _ HBA.out).2.1,cellOf_some (some_put (some_put (by rw[hu0];rfl))),frozen_set (frozen_set f0),cellOf_some (some_put (some_put (by rw[hu1];rfl))),frozen_set (frozen_set f1)⟩);clear hr8 hz6))
      all_goals go_wp2
      all_goals go_roundw
      all_goals first
       | exact⟨i+1,by omega,by go_num,HR8.out,HG8.out,HI8.out⟩
       |(simp[intOf];omega)
     ·obtain rfl:wt+1=i:=by omega
      have HRR:=Kh (hrow.congr (f':=mvd n wt L T e m (a,b,c,d)) (fun j _=>(HMV2.out j).symm))
      clear hrow hgw h32
      go_wp2
      (first|go_ret2|go_ret)
      exact⟨⟨g,cap,rfl,HWG.out,HRR.out⟩,HBW.out⟩
end Go.Proofs.YthikonjlgljikaaGreatDoor
