/- Contract of halfplaneref01.Mul. -/
import Derived.Test.YtijgdhijdfgpfaaGreatDoorT19
set_option maxRecDepth 100000
set_option maxHeartbeats 8000000
namespace Go.Proofs.YtijgdhijdfgpfaaGreatDoor
open Go.RowKit
theorem c_rMul (s:Bool) (p:Option Addr) (n c:Nat) (x:Int) (t:Bool) (q:Option Addr) (m d:Nat) (y:Int) (w:World) (h:Zr w s p n c x) (h':Zr w t q m d y) (hn:n≤8796093022200) (hm:m≤8796093022200):
  Calls Tryz.prog 108 #[.agg #[.bool s,.slice p n c],.agg #[.bool t,.slice q m d]] w fun e w'=>RetZ w' e (x*y)∧Below w.heap.size w w':=by
 obtain⟨hsx,hkx,hTx⟩:=rtrim_letters h (by omega)
 obtain⟨hsy,hky,hTy⟩:=rtrim_letters h' (by omega)
 obtain⟨u,hu⟩:∃ u,x.natAbs=u:=⟨_,rfl⟩
 obtain⟨v,hv⟩:∃ v,y.natAbs=v:=⟨_,rfl⟩
 rw[hu]at hsx hkx hTx
 rw[hv]at hsy hky hTy
 obtain⟨k,hk⟩:∃ k,nd u=k:=⟨_,rfl⟩
 obtain⟨l,hl⟩:∃ l,nd v=l:=⟨_,rfl⟩
 rw[hk]at hkx
 rw[hl]at hky
 have HV:=Kh (show sg (s != t) (u*v)=x*y by rw[← sg_mul,hsx,hsy])
 have HT1:=Kh hTx
 have HT2:=Kh hTy
 have HKU:=Kh hk
 have HKV:=Kh hl
 clear h h' hTx hTy hsx hsy hu hv hk hl
 go_enter Tryz.func108,Tryz.ntmps108
 go_upto_region 1 with(fail)
 obtain⟨w0,hw0,X0,X1,X2,hb0⟩:=bx3 w #[.bool s,.slice p n c] 65 #[.bool t,.slice q m d] 65 #[.bool false,.slice none 0 0] 65
 rw[hw0]
 have hs0:w.heap.size≤w0.heap.size:=hb0.size
 clear hw0
 have M1:True:=trivial
 have T2:=Sts.of X2 (by intro v hv;simp at hv;rcases hv with rfl|rfl <;> first|exact NotInt.bool _|exact NotInt.slice _ _ _)
 have hS0:=S4_2_next (Below.refl _ w0).drew ⟨X0.c0,X0.c1,X1.c0,X1.c1,X2.so 0,X2.free_ 0,T2,X2.so 1,X2.free_ 1,T2,hb0,hs0⟩
 clear X0 X1 X2
 go_region_held3 (fun w1=>w1.cell? ⟨w.heap.size,0,none⟩=some (.bool s)∧w1.cell? ⟨w.heap.size,1,none⟩=some (.slice p n c)∧w1.cell? ⟨w.heap.size+1,0,none⟩=some (.bool t)∧w1.cell? ⟨w.heap.size+1,1,none⟩=some (.slice q m d)∧w1.cell? ⟨w.heap.size+1+1,0,none⟩=some (cellOf w1 ⟨w.heap.size+1+1,0,none⟩)∧w1.frozen? ⟨w.heap.size+1+1,0,none⟩=false∧Sts w1 (w.heap.size+1+1)∧w1.cell? ⟨w.heap.size+1+1,1,none⟩=some (cellOf w1 ⟨w.heap.size+1+1,1,none⟩)∧w1.frozen? ⟨w.heap.size+1+1,1,none⟩=false∧Sts w1 (w.heap.size+1+1)∧Below w.heap.size w w1∧w.heap.size≤w1.heap.size)
  (first|with_reducible exact hS0 |(refine S4_2_next (by with_reducible assumption) ?_;assumption) |(refine S4_2_put ?_ ?_ ?_ ?_ ?_ ?_ ?_ ?_ ?_ ?_ ?_ ?_ ?_ <;> first|assumption|exact NotInt.bool _|exact NotInt.slice _ _ _ |(dsimp only;omega) |(simp;done)))
  (first
   |(go_at_call 140;clear M1;refine(HT1.out _ (S4_2_below (by with_reducible assumption))).mono ?_;rintro e w2 ⟨⟨p2,c2,rfl,hm2⟩,hb2⟩;rw[HKU.out];have HM2:=Kh hm2;clear hm2)
   |(go_at_call 140;refine(HT2.out _ (S4_2_below (by with_reducible assumption))).mono ?_;rintro e w3 ⟨⟨p3,c3,rfl,hm3⟩,hb3⟩;rw[HKV.out];have HM3:=Kh (And.intro (HM2.out.keep hb3) hm3);clear hm3 hb2 HM2))
 have hH:w3.cell? ⟨w.heap.size,0,none⟩=some (.bool s)∧w3.cell? ⟨w.heap.size,1,none⟩=some (.slice p n c)∧w3.cell? ⟨w.heap.size+1,0,none⟩=some (.bool t)∧w3.cell? ⟨w.heap.size+1,1,none⟩=some (.slice q m d)∧w3.cell? ⟨w.heap.size+1+1,0,none⟩=some (cellOf w3 ⟨w.heap.size+1+1,0,none⟩)∧w3.frozen? ⟨w.heap.size+1+1,0,none⟩=false∧Sts w3 (w.heap.size+1+1)∧w3.cell? ⟨w.heap.size+1+1,1,none⟩=some (cellOf w3 ⟨w.heap.size+1+1,1,none⟩)∧w3.frozen? ⟨w.heap.size+1+1,1,none⟩=false∧Sts w3 (w.heap.size+1+1)∧Below w.heap.size w w3∧w.heap.size≤w3.heap.size:=by assumption
 have H1:=Kh (show Dg w3 p2 c2 k (dg u)by have:=HM3.out.1;unfold Nm at this;rw[HKU.out]at this;exact this)
 have H2:=Kh (show Dg w3 p3 c3 l (dg v)by have:=HM3.out.2;unfold Nm at this;rw[HKV.out]at this;exact this)
 have HVU:=Kh (show vf (dg u) k=u by rw[← HKU.out,vf_nd])
 have HVV:=Kh (show vf (dg v) l=v by rw[← HKV.out,vf_nd])
 have HH:=Kh hH
 have hmk:∀ w,(Instr.makeSlice 63 (.int .i64 ((k:Int)+(l:Int))) (.int .i64 ((k:Int)+(l:Int)))).run Tryz.prog w=.ok (.slice (some ⟨w.heap.size,0,none⟩) (k+l) (k+l)) (w.alloc (.cells (madeCells #[.int .u32 0] (k+l)) 149)):=make32 (k+l) (by omega)
 obtain⟨a,ha⟩:∃ a,dg u=a:=⟨_,rfl⟩
 obtain⟨b,hb⟩:∃ b,dg v=b:=⟨_,rfl⟩
 rw[ha]at H1 HVU
 rw[hb]at H2 HVV
 obtain⟨wb,hwb⟩:∃ wb,w3.alloc (.cells (madeCells #[.int .u32 0] (k+l)) 149)=wb:=⟨_,rfl⟩
 have hrow:=Row.made w3 (k+l)
 have hbel:Below w3.heap.size w3 wb:=by rw[← hwb];exact(Below.refl _ _).alloc (Nat.le_refl _) _
 rw[hwb]at hrow
 obtain⟨G,hG⟩:∃ G,w3.heap.size=G:=⟨_,rfl⟩
 rw[hG]at hrow hbel
 have HG:=Kh hG
 have HS0:=Kh (show TimesAt wb G (k+l) (0+l) (vf a 0*vf b l)from⟨_,hrow,by rw[vf_zero (fun _ _=>rfl)];simp[vf],fun _ _ _=>rfl⟩)
 have HB0:=Kh hbel
 clear ha hb HM3 HKU HKV hrow hbel hH hS0 hb0 hs0 hb3
 go_wp2
 try rw[hwb,hG]
 clear hwb hG hmk
 go_loopw [8] (fun v8 wr=>∃ i:Nat,i≤k∧v8=.int .i64 i∧TimesAt wr G (k+l) (i+l) (vf a i*vf b l)∧Below G w3 wr) (fun v8 _=>k - (intOf v8).toNat)
 case atStart=>exact⟨0,Nat.zero_le _,rfl,HS0.out,HB0.out⟩
 case round=>
  clear HS0 HB0
  obtain⟨i,hi,rfl,hT,hb⟩:=hrel
  have HB:=Kh hb
  have HT:=Kh hT
  clear hb hT
  by_cases hlt:(i:Int)<(k:Int)
  ·obtain⟨g1,o1,rfl,hg1,hc1⟩:=H1.out.head (by omega)
   have HC1:=Kh (hc1 i (by omega))
   have hg1':g1<G:=by have:=HG.out;omega
   have hxl:((a i:Nat):Int)<4294967296:=by have:=H1.out.lt i (by omega);omega
   obtain⟨xx,hx⟩:∃ x,a i=x:=⟨_,rfl⟩
   rw[hx]at HC1 hxl
   have HX:=Kh hx
   obtain⟨V,hV⟩:∃ V,vf a i*vf b l=V:=⟨_,rfl⟩
   have HV0:=Kh hV
   rw[hV]at HT
   clear hV hx hc1
   go_wp2
   go_loopw [9,10] (fun v9 v10 wr=>∃ j cy:Nat,j≤l∧v9=.int .u64 cy∧v10=.int .i64 j∧(cy:Int)<4294967296∧InnerAt wr G (k+l) (i+l) i j (V+4294967296 ^ i*(xx*vf b j)) cy∧Below G w3 wr) (fun _ v10 _=>l - (intOf v10).toNat)
   case atStart=>exact⟨0,0,Nat.zero_le _,rfl,rfl,by decide,by
    obtain⟨r,hr,hv,hz⟩:=HT.out
    exact⟨r,hr,by simp[vf,hv],hz⟩,HB.out⟩
   case round=>
    obtain⟨j,cy,hj,rfl,rfl,hcy,hI,hb⟩:=hrel
    have HB2:=Kh hb
    clear hb
    by_cases hjl:(j:Int)<(l:Int)
    ·obtain⟨r,hrow,hval,hz⟩:=hI
     obtain⟨g2,o2,rfl,hg2,hc2⟩:=H2.out.head (by omega)
     have c1:wr.cell? ⟨g1,o1+i,none⟩=some (.int .u32 (xx:Nat)):=(HB2.out.cell (p:=⟨g1,o1+i,none⟩) hg1').trans HC1.out
     have d1:wr.cell? ⟨g2,o2+j,none⟩=some (.int .u32 (b j:Nat)):=(HB2.out.cell (p:=⟨g2,o2+j,none⟩) (by have:=HG.out;show g2<G;omega)).trans (hc2 j (by omega))
     have hyl:((b j:Nat):Int)<4294967296:=by have:=H2.out.lt j (by omega);omega
     obtain⟨yy,hy⟩:∃ y,b j=y:=⟨_,rfl⟩
     rw[hy]at d1 hyl
     have hst:wr.cell? ⟨G,i+j,none⟩=some (.int .u32 (r (i+j):Nat)):=hrow.1.cell (by omega)
     have hfz:wr.frozen? ⟨G,i+j,none⟩=false:=hrow.1.frozen _
     have hol:((r (i+j):Nat):Int)<4294967296:=by have:=hrow.2 (i+j) (by omega);omega
     obtain⟨oo,ho⟩:∃ o,r (i+j)=o:=⟨_,rfl⟩
     rw[ho]at hst hol
     obtain⟨pp,hpp⟩:∃ pp,xx*yy=pp:=⟨_,rfl⟩
     have hppi:(xx:Int)*(yy:Int)=(pp:Nat):=by rw[← hpp];exact(Int.natCast_mul _ _).symm
     have hle:pp≤4294967295*4294967295:=by rw[← hpp];exact Nat.mul_le_mul (by omega) (by omega)
     have hppl:(pp:Int)≤18446744065119617025:=by omega
     obtain⟨ss,hs⟩:∃ s,(xx*yy+oo+cy) % 4294967296=s:=⟨_,rfl⟩
     obtain⟨cz,hcz⟩:∃ cz,(xx*yy+oo+cy) / 4294967296=cz:=⟨_,rfl⟩
     have hnew:=inner_step hrow hval hz (by omega) ho hy hs hcz
     rw[hpp]at hs hcz
     obtain⟨po,hpo⟩:∃ z,pp+oo=z:=⟨_,rfl⟩
     obtain⟨pc,hpc⟩:∃ z,po+cy=z:=⟨_,rfl⟩
     have hw1:IntKind.u64.wrap ((xx:Int)*(yy:Int))=(pp:Nat):=by rw[hppi,IntKind.wrap_u64];omega
     have hw2:IntKind.u64.wrap ((pp:Int)+(oo:Int))=(po:Nat):=by rw[IntKind.wrap_u64];omega
     have hw3:IntKind.u64.wrap ((po:Int)+(cy:Int))=(pc:Nat):=by rw[IntKind.wrap_u64];omega
     have hsi:(pc:Int) % 4294967296=(ss:Nat):=by omega
     have hci:(pc:Int) / 4294967296=(cz:Nat):=by omega
     have hcl:(cz:Int)<4294967296:=by omega
     have hij:IntKind.i64.wrap ((i:Int)+(j:Int))=(i:Int)+(j:Int):=IntWalk.i64_in _ (by omega)
     have hij0:0≤(i:Int)+(j:Int):=by omega
     have hijn:((i:Int)+(j:Int)).toNat=i+j:=by omega
     have hijl:(i:Int)+(j:Int)<(k:Int)+(l:Int):=by omega
     have HN:=Kh hnew
     clear hnew hrow hval hz ho hy hs hcz hpp hle hpo hpc hc2
     go_wp2
     go_quiet (fail)
     go_wp2
     go_roundw
     case rel=>exact⟨j+1,cz,by omega,by first|rfl |(congr 1;omega),by go_num,hcl,HN.out,(below_drewN' HB2.out _).setCell (Nat.le_refl _) _⟩
     case measure=>simp[intOf];omega
    ·obtain rfl:j=l:=by omega
     have hfin:=inner_end hI HV0.out.symm HX.out (by omega)
     obtain⟨r,hrow,_,_⟩:=hI
     have hst:wr.cell? ⟨G,i+j,none⟩=some (.int .u32 (r (i+j):Nat)):=hrow.1.cell (by omega)
     have hfz:wr.frozen? ⟨G,i+j,none⟩=false:=hrow.1.frozen _
     have HF:=Kh hfin
     clear hfin hrow
     go_wp2
     go_roundw
     case rel=>exact⟨i+1,by omega,by go_num,HF.out,HB2.out.setCell (Nat.le_refl _) _⟩
     case measure=>simp[intOf];omega
  ·obtain rfl:i=k:=by omega
   obtain⟨r,hr,hvr,_⟩:=HT.out
   have HD:=Kh (hr.dg (i+l) (Nat.le_refl _))
   have HVR:=Kh (show vf r (i+l)=u*v by rw[hvr,HVU.out,HVV.out])
   have hbw:Below w3.heap.size w3 wr:=by rw[HG.out];exact HB.out
   have hS2:wr.cell? ⟨w.heap.size,0,none⟩=some (.bool s)∧wr.cell? ⟨w.heap.size,1,none⟩=some (.slice p n c)∧wr.cell? ⟨w.heap.size+1,0,none⟩=some (.bool t)∧wr.cell? ⟨w.heap.size+1,1,none⟩=some (.slice q m d)∧wr.cell? ⟨w.heap.size+1+1,0,none⟩=some (cellOf wr ⟨w.heap.size+1+1,0,none⟩)∧wr.frozen? ⟨w.heap.size+1+1,0,none⟩=false∧Sts wr (w.heap.size+1+1)∧wr.cell? ⟨w.heap.size+1+1,1,none⟩=some (cellOf wr ⟨w.heap.size+1+1,1,none⟩)∧wr.frozen? ⟨w.heap.size+1+1,1,none⟩=false∧Sts wr (w.heap.size+1+1)∧Below w.heap.size w wr∧w.heap.size≤wr.heap.size:=S4_2_next hbw HH.out
   have HS2:=Kh hS2
   have hsz:w.heap.size+1+1<w3.heap.size:=by
    have h1:=HH.out.2.2.2.2.2.2.1
    exact h1.1
   obtain⟨q0,_,q2,_,_,q5,_,_,q8,_,hbw9,_⟩:=hS2
   have HRS:=Kh (fun w9 (hb9:Below wr.heap.size wr w9)=>c_rsigned (s != t) _ _ (i+l) r w9 (HD.out.keep hb9) (by omega))
   rw[HVR.out]at HRS
   have HQ5:=Kh q5
   have HQ8:=Kh q8
   have HBW9:=Kh hbw9
   clear hr hvr hbw q5 q8 hbw9 hsz
   go_wp2_with fail
   refine(HRS.out wr (Below.refl _ _)).mono ?_
   rintro e w6 ⟨⟨s2,p6,n6,c6,rfl,hz2⟩,hb6⟩
   obtain⟨⟨hR0,hT⟩,⟨hR1,_⟩⟩:=S4_2_end hb6 HS2.out
   obtain⟨u0,hu0⟩:=Option.isSome_iff_exists.1 hR0
   obtain⟨u1,hu1⟩:=Option.isSome_iff_exists.1 hR1
   have f0:=frozen_keep hb6 (some_cellOf HS2.out.2.2.2.2.1) HQ5.out
   have f1:=frozen_keep hb6 (some_cellOf HS2.out.2.2.2.2.2.2.2.1) HQ8.out
   have HZ3:=Kh (hz2.put2 hT 0 1 (.bool s2) (.slice p6 n6 c6) (NotInt.bool _))
   have HB3:=Kh (((HBW9.out.trans (hb6.mono HBW9.out.size)).setCell (show w.heap.size≤(⟨w.heap.size+1+1,0,none⟩:Addr).block by show w.heap.size≤w.heap.size+1+1;omega) (.bool s2)).setCell (show w.heap.size≤(⟨w.heap.size+1+1,1,none⟩:Addr).block by show w.heap.size≤w.heap.size+1+1;omega) (.slice p6 n6 c6))
   clear hz2 hT hb6 hR0 hR1 q0 q2
   go_wp2
   try simp only[Exit.inBlock,Exit.then]
   refine bodyPost_ret (by simp[results,Tryz.results108,go_sem,hu0,hu1];try rfl) rfl ?_
   exact⟨⟨s2,p6,n6,c6,rfl,HV.out▸HZ3.out⟩,HB3.out⟩
theorem c_SameInt (s:Bool) (p:Option Addr) (n c:Nat) (x:Int) (t:Bool) (q:Option Addr) (m d:Nat) (y:Int) (w:World) (h:Zs w s p n c x) (h':Zs w t q m d y) (hn:n≤35184372088830):
  Calls Tryz.prog 54 #[.agg #[.bool s,.slice p n c],.agg #[.bool t,.slice q m d]] w fun e w'=>e=.returned (.bool (decide (x=y)))∧Below w.heap.size w w':=by
 obtain⟨r,hr⟩:∃ r,decide (x=y)=r:=⟨_,rfl⟩
 rw[hr]
 obtain⟨hs,hnn,hnm⟩:=h
 obtain⟨ht,hmm,hmn⟩:=h'
 unfold Nm at hnm hmn
 rw[hnn]at hnm
 rw[hmm]at hmn
 have HR:=Kh hr
 have HS:=Kh hs
 have HT:=Kh ht
 have HN:=Kh hnn
 have HM:=Kh hmm
 have HX:=Kh hnm
 have HY:=Kh hmn
 have HB0:=Kh (((Below.refl w.heap.size w).alloc (Nat.le_refl _) (.cells #[.bool s,.slice p n c] 65)).alloc (by simp) (.cells #[.bool t,.slice q m d] 65))
 clear hr hs ht hnn hmm hnm hmn
 by_cases hst:s=t
 ·by_cases hnm:n=m
  ·subst hst hnm
   go_enter Tryz.func54,Tryz.ntmps54
   go_wp2
   obtain⟨w0,hw0⟩:∃ w0,(w.alloc (.cells #[.bool s,.slice p n c] 65)).alloc (.cells #[.bool s,.slice q n d] 65)=w0:=⟨_,rfl⟩
   rw[hw0]
   rw[hw0]at HB0
   obtain⟨X0,X1,_⟩:=box2 w #[.bool s,.slice p n c] 65 #[.bool s,.slice q n d] 65
   rw[hw0]at X0 X1
   have a1:=X0.at_ 1 rfl
   have b1:=X1.at_ 1 rfl
   clear X0 X1 hw0
   go_loopw [5] (fun v5 wr=>∃ i:Nat,i≤n∧v5=.int .i64 i∧(∀ j,j<i→dg x.natAbs j=dg y.natAbs j)∧∃ k,wr=w0.drewN k) (fun v5 _=>n - (intOf v5).toNat)
   case atStart=>exact⟨0,Nat.zero_le _,rfl,fun j hj=>absurd hj (Nat.not_lt_zero _),0,rfl⟩
   case round=>
    obtain⟨i,hi,rfl,heq,mr,rfl⟩:=hrel
    have HE:=Kh heq
    clear heq
    by_cases hin:i<n
    ·obtain⟨g1,o1,rfl,hg1,hc1⟩:=HX.out.head (by omega)
     obtain⟨g2,o2,rfl,hg2,hc2⟩:=HY.out.head (by omega)
     have c1:w0.cell? ⟨g1,o1+i,none⟩=some (.int .u32 (dg x.natAbs i:Nat)):=(HB0.out.cell (p:=⟨g1,o1+i,none⟩) hg1).trans (hc1 i hin)
     have c2:w0.cell? ⟨g2,o2+i,none⟩=some (.int .u32 (dg y.natAbs i:Nat)):=(HB0.out.cell (p:=⟨g2,o2+i,none⟩) hg2).trans (hc2 i hin)
     obtain⟨u,hu⟩:∃ u,dg x.natAbs i=u:=⟨_,rfl⟩
     obtain⟨v,hv⟩:∃ v,dg y.natAbs i=v:=⟨_,rfl⟩
     rw[hu]at c1
     rw[hv]at c2
     have HU:=Kh hu
     have HV:=Kh hv
     clear hc1 hc2 hu hv
     by_cases huv:u=v
     ·subst huv
      go_wp2
      go_quiet (fail)
      go_wp2
      go_roundw
      case rel=>exact⟨i+1,by omega,by go_num,fun j hj=>by
       rcases Nat.lt_or_ge j i with h3|h3
       ·exact HE.out j h3
       ·rw[show j=i from by omega,HU.out,HV.out],_,by first|rfl|rw[dr2]⟩
      case measure=>simp[intOf];omega
     ·have hub:((u:Int) !=(v:Int))=true:=by rw[bne_iff_ne];omega
      have HF:=Kh (show false=r by
       rw[← HR.out]
       refine(decide_eq_false fun h=>huv ?_).symm
       rw[← HU.out,← HV.out,h])
      clear huv
      go_wp2
      go_quiet (fail)
      go_wp2
      go_ret
      exact⟨by rw[← HF.out];rfl,by first|exact below_drewN' (below_drewN' HB0.out _) _|exact below_drewN' HB0.out _⟩
    ·obtain rfl:i=n:=by omega
     have HF:=Kh (show true=r by
      rw[← HR.out]
      refine(decide_eq_true ?_).symm
      have h1:=dg_inj HN.out HM.out HE.out
      have h2:=HS.out
      rw[HT.out,decide_eq_decide]at h2
      omega)
     go_wp2
     go_ret
     exact⟨by rw[← HF.out];rfl,below_drewN' HB0.out _⟩
  ·subst hst
   have hnb:((n:Int) !=(m:Int))=true:=by rw[bne_iff_ne];omega
   have HF:=Kh (show false=r by
    rw[← HR.out]
    exact(decide_eq_false fun h=>hnm (by rw[← HN.out,← HM.out,h])).symm)
   clear hnm
   go_enter Tryz.func54,Tryz.ntmps54
   go_wp2
   go_ret
   exact⟨by rw[← HF.out];rfl,HB0.out⟩
 ·obtain rfl:t = !s:=by cases s <;> cases t <;> simp_all
  have hsb:(s != !s)=true:=by cases s <;> rfl
  have HF:=Kh (show false=r by
   rw[← HR.out]
   refine(decide_eq_false fun h=>?_).symm
   have h1:=HS.out
   have h2:=HT.out
   rw[← h,← h1]at h2
   cases s <;> cases h2)
  clear hst
  go_enter Tryz.func54,Tryz.ntmps54
  go_wp2
  go_ret
  exact⟨by rw[← HF.out];rfl,HB0.out⟩
theorem c_rOf (n:Int) (w:World) (h1:-4611686018427387904≤n) (h2:n≤4611686018427387904):
  Calls Tryz.prog 133 #[.int .i64 n] w fun e w'=>RetZ w' e n∧Below w.heap.size w w':=by
 obtain⟨v,hv⟩:∃ v:Nat,n.natAbs=v:=⟨_,rfl⟩
 have hvl:v≤4611686018427387904:=by omega
 obtain⟨lo,hlo⟩:∃ x,v % 4294967296=x:=⟨_,rfl⟩
 obtain⟨hi,hhi⟩:∃ y,v / 4294967296=y:=⟨_,rfl⟩
 have hxi:(v:Int) % 4294967296=(lo:Nat):=by omega
 have hyi:(v:Int) / 4294967296=(hi:Nat):=by omega
 have hym:(hi:Int) % 4294967296=(hi:Nat):=by omega
 obtain⟨w0,hw0⟩:∃ w0,w.alloc (.cells #[.bool false,.slice none 0 0] 65)=w0:=⟨_,rfl⟩
 obtain⟨X0,hb0⟩:=box1 w #[.bool false,.slice none 0 0] 65
 rw[hw0]at X0 hb0
 have hrow:=(Row.alloc w0 #[.int .u32 lo,.int .u32 hi] 2 (dg v) rfl (fun i hi2=>by
  rcases Nat.lt_or_ge i 1 with h2|h2
  ·obtain rfl:i=0:=by omega
   simp[dg];omega
  ·obtain rfl:i=1:=by omega
   simp[dg];omega) (fun i _=>dg_lt v i)).dg 2 (Nat.le_refl _)
 have hS:=c_rsigned (decide (n<0)) (some ⟨w0.heap.size,0,none⟩) 2 2 (dg v) _ hrow (by omega)
 rw[vf_dg (show v<4294967296 ^ 2 by omega)]at hS
 have HV:=Kh (show sg (decide (n<0)) v=n by rw[← hv];exact sg_self n)
 have hba:Below w0.heap.size w0 (w0.alloc (.cells #[.int .u32 lo,.int .u32 hi] 149)):=(Below.refl _ _).alloc (Nat.le_refl _) _
 have HX0:=Kh (X0.below_ hba X0.lt)
 have HB0:=Kh (hb0.trans (hba.mono hb0.size))
 have HVL:=Kh hvl
 clear hrow X0 hb0 hba hlo hhi
 by_cases hneg:n<0
 ·have e1:IntKind.u64.wrap n=n+18446744073709551616:=by rw[IntKind.wrap_u64];omega
  have e2:IntKind.u64.wrap (-(n+18446744073709551616))=(v:Nat):=by rw[IntKind.wrap_u64];omega
  have e3:IntKind.u64.wrap (-n)=(v:Nat):=by rw[IntKind.wrap_u64];omega
  have hd:decide (n<0)=true:=decide_eq_true hneg
  rw[hd]at hS HV
  have HS:=Kh hS
  clear h1 h2 hneg hv hS hvl
  go_enter Tryz.func133,Tryz.ntmps133
  go_wp2_with fail
  refine HS.out.mono ?_
  rintro e w2 ⟨⟨s2,p2,n2,c2,rfl,hz2⟩,hb2⟩
  have HVR:=Kh (Var2.of (bk HX0 hb2) (NotInt.bool _) (NotInt.slice _ _ _))
  have HB2:=bt HB0 hb2
  clear hb2 HX0 HB0 HS
  obtain⟨⟨u0,hu0⟩,⟨u1,hu1⟩⟩:=HVR.out.cells
  have f0:=HVR.out.free 0
  have f1:=HVR.out.free 1
  have hz3:=hz2.put2 HVR.out.sts 0 1 (.bool s2) (.slice p2 n2 c2) (NotInt.bool _)
  have hb3:Below w.heap.size w ((w2.setCell ⟨w.heap.size,0,none⟩ (.bool s2)).setCell ⟨w.heap.size,1,none⟩ (.slice p2 n2 c2)):=(HB2.out.setCell (Nat.le_refl _) _).setCell (Nat.le_refl _) _
  have HZ3:=Kh hz3
  have HB3:=Kh hb3
  clear hz2 hz3 hb3
  go_wp2
  try simp only[Exit.inBlock,Exit.then]
  refine bodyPost_ret (by simp[results,Tryz.results133,go_sem,hu0,hu1];try rfl) rfl ?_
  exact⟨⟨s2,p2,n2,c2,rfl,HV.out▸HZ3.out⟩,HB3.out⟩
 ·have e1:IntKind.u64.wrap n=(v:Nat):=by rw[IntKind.wrap_u64];omega
  have hd:decide (n<0)=false:=decide_eq_false hneg
  rw[hd]at hS HV
  have HS:=Kh hS
  clear h1 h2 hneg hv hS hvl
  go_enter Tryz.func133,Tryz.ntmps133
  go_wp2_with fail
  refine HS.out.mono ?_
  rintro e w2 ⟨⟨s2,p2,n2,c2,rfl,hz2⟩,hb2⟩
  have HVR:=Kh (Var2.of (bk HX0 hb2) (NotInt.bool _) (NotInt.slice _ _ _))
  have HB2:=bt HB0 hb2
  clear hb2 HX0 HB0 HS
  obtain⟨⟨u0,hu0⟩,⟨u1,hu1⟩⟩:=HVR.out.cells
  have f0:=HVR.out.free 0
  have f1:=HVR.out.free 1
  have hz3:=hz2.put2 HVR.out.sts 0 1 (.bool s2) (.slice p2 n2 c2) (NotInt.bool _)
  have hb3:Below w.heap.size w ((w2.setCell ⟨w.heap.size,0,none⟩ (.bool s2)).setCell ⟨w.heap.size,1,none⟩ (.slice p2 n2 c2)):=(HB2.out.setCell (Nat.le_refl _) _).setCell (Nat.le_refl _) _
  have HZ3:=Kh hz3
  have HB3:=Kh hb3
  clear hz2 hz3 hb3
  go_wp2
  try simp only[Exit.inBlock,Exit.then]
  refine bodyPost_ret (by simp[results,Tryz.results133,go_sem,hu0,hu1];try rfl) rfl ?_
  exact⟨⟨s2,p2,n2,c2,rfl,HV.out▸HZ3.out⟩,HB3.out⟩
end Go.Proofs.YtijgdhijdfgpfaaGreatDoor
