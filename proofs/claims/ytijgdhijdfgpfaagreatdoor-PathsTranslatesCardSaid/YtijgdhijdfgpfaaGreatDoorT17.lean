/- Contracts of halfplaneref01: trim. -/
import Derived.Test.YtijgdhijdfgpfaaGreatDoorT16
import Derived.Laws.AppendOwnNone
set_option maxRecDepth 100000
set_option maxHeartbeats 8000000
namespace Go.Proofs.YtijgdhijdfgpfaaGreatDoor
open Go.RowKit
theorem run_app_nil {P:Program} {w:World} (base:Nat) (t ty e:TypeId) (i:TypeInfo) (size:Nat) (ht:P.underlying t=some (.slice e)) (hi:P.info? e=some i)
  (v:Value) (n c:Nat) (xs:List Value) (hown:w.ownsRow base e size v n xs):
  (Builtin.append_ #[t,t] ty #[v,.slice none 0 c]).run P w=.ok v w:=by
 rcases hown.2 with⟨rfl,rfl⟩ |⟨g,cap,cur,rfl,_,_,hnc,_⟩
 ·simp[Builtin.append_,run_underlying ht,sizeOf,typeInfo,hi,Builtin.lenOf,Builtin.firstCells]
 ·simp[Builtin.append_,run_underlying ht,sizeOf,typeInfo,hi,Builtin.lenOf,Builtin.firstCells,hnc,storeCells]
theorem wpl_app_nil {P:Program} {w:World} {ops:Array Oper} {rest:List Oper} {o:Oper} {a:Act} {Q:Exit→Act→World→Prop} (hgd:o.guard=none) (s x:Operand) (t:TypeId)
  (ho:o.op=.call { callee:=.builtin .append,args:=#[s,x],argTypes:=#[t,t] })
  (base:Nat) (e:TypeId) (i:TypeInfo) (size:Nat) (ht:P.underlying t=some (.slice e)) (hi:P.info? e=some i)
  (v:Value) (n c:Nat) (xs:List Value) (hs:a.eval s=v) (hown:w.ownsRow base e size v n xs) (hx:a.eval x=.slice none 0 c)
  (h:wpList P ops Q rest (a.put o.dst v) w):wpList P ops Q (o :: rest) a w:=by
 refine wpList_plain hgd fun K hK=>?_
 have hrun:=run_app_nil (P:=P) (w:=w) base t o.type e i size ht hi v n c xs hown
 unfold Oper.wp
 simp[execOp,ho,resolve,invoke,builtin,hs,hx,hrun,Result.andThen]
 exact hK _ _ h
def RetNF (B:Nat) (w':World) (e:Ending) (v:Nat):Prop:=∃ p c,e=.returned (.slice p (nd v) c)∧Nm w' p c v∧(nd v=0∨∃ g,p=some ⟨g,0,none⟩∧B≤g)
theorem Dg.of_own' {w:World} {B n:Nat} {v:Value} {a:Nat→Nat} (h:w.ownsRow B 149 1 v n (cells32 a n)) (hl:∀ j,j<n→a j<4294967296):∃ p c,v=.slice p n c∧Dg w p c n a∧(n=0∨∃ g,p=some ⟨g,0,none⟩∧B≤g):=by
 rcases own_shape h with⟨rfl,rfl,_⟩ |⟨g,cap,rfl,hB,hg,hc⟩
 ·exact⟨none,0,rfl,⟨Nat.le_refl _,hl,.inl rfl⟩,.inl rfl⟩
 ·exact⟨_,_,rfl,⟨hc,hl,.inr ⟨g,0,rfl,hg,fun j hj=>by rw[Nat.zero_add];exact own_read h (cells32_get hj)⟩⟩,.inr ⟨g,rfl,hB⟩⟩
theorem c_rtrimF (p:Option Addr) (c n:Nat) (a:Nat→Nat) (w:World) (h:Dg w p c n a) (hn:n≤35184372088830):
  Calls Tryz.prog 140 #[.slice p n c] w fun e w'=>RetNF w.heap.size w' e (vf a n)∧Below w.heap.size w w':=by
 have H:=Kh h
 have hcap:=h.cap
 clear h
 go_enter Tryz.func140,Tryz.ntmps140
 go_wp2
 go_loopw [3] (fun v3 wr=>∃ k:Nat,k≤n∧v3=.int .i64 k∧vf a k=vf a n∧wr=w) (fun v3 _=>(intOf v3).toNat)
 case atStart=>exact⟨n,Nat.le_refl _,rfl,rfl,rfl⟩
 case round=>
  obtain⟨k,hk,rfl,hv,rfl⟩:=hrel
  have HV:=Kh hv
  clear hv
  by_cases h0:k=0
  ·subst h0
   cases p with
   | none=>
    have HV0:=Kh (show vf a n=0 by rw[← HV.out];rfl)
    obtain⟨i0,hi,hz0,hz1,hz2⟩:=info_parts u32Info
    go_wp2_with (at_builtin;refine wpl_app_nil rfl _ _ 63 rfl wr.heap.size 149 i0 1 u32U hi _ _ c _ rfl (World.ownsRow_made wr #[] 0 (Nat.le_refl _) (Nat.zero_le _) rfl) rfl ?_)
    clear hi hz0 hz1 hz2
    go_wp2
    go_ret
    rw[HV0.out]
    exact⟨⟨_,_,by rw[nd_zero];rfl,⟨Nat.zero_le _,fun j hj=>absurd hj (by simp[nd_zero]),.inl nd_zero⟩,.inl nd_zero⟩,(Below.refl _ wr).alloc (Nat.le_refl _) _⟩
   | some q=>
    have hcell:∀ (ob:Obj) (j:Nat) (u:Value),(cells32 a 0)[j]?=some u→(wr.alloc ob).cell? (q.add j)=some u:=by
     intro ob j u hu
     obtain⟨hj,rfl⟩:=cells32_of hu
     omega
    have HC:=Kh hcell
    have hnm:=(H.out.take hk).norm (.inl rfl)
    have HNM:=Kh hnm
    have HLT:=Kh (fun j (hj:j<0)=>H.out.lt j (by omega))
    obtain⟨i0,hi,hz0,hz1,hz2⟩:=info_parts u32Info
    clear hcell hnm
    go_wp2_with (at_builtin;refine wpList_append_own _ rfl _ _ 63 rfl wr.heap.size 149 i0 (.int .u32 0) 1 4 u32U hi hz0 hz1 hz2 rfl (by decide) _ _ _ rfl (World.ownsRow_made wr #[] 0 (Nat.le_refl _) (Nat.zero_le _) rfl) q 0 c (cells32 a 0) rfl ?qc1 ?qc2 ?qc3 ?qc4 ?qc5 ?qc6 ?_)
    case qc1=>rw[cells32_len,Nat.mul_one]
    case qc2=>exact HC.out _
    case qc3=>exact cells32_one
    case qc4=>unfold maxLen;omega
    case qc5=>omega
    case qc6=>simp
    intro v' w1 hown hgrow hnil
    have hb:Below wr.heap.size wr w1:=((Below.refl _ wr).alloc (Nat.le_refl _) _).grown hgrow (by simp) (by intro k hk;simp[Value.ownBlock]at hk;omega)
    obtain⟨p',c',rfl,hd,hfr⟩:=Dg.of_own' (n:=0) (a:=a) (by simpa using hown) HLT.out
    have HD:=Kh (hd.nm (t:=vf a n) HV.out (by rw[← HV.out];exact HNM.out.1))
    have HB:=Kh hb
    have HK:=Kh (show nd (vf a n)=0 by rw[← HV.out];exact HNM.out.1)
    have HFR:=Kh hfr
    clear hfr hown hgrow hnil hd hb HC HNM HLT hi hz0 hz1 hz2
    go_wp2
    go_ret
    exact⟨⟨p',c',by rw[HK.out];rfl,HD.out,by rw[HK.out];first|exact HFR.out|exact .inl rfl⟩,HB.out⟩
  ·have hk0:0<k:=by omega
   obtain⟨g,o,rfl,hg,hc⟩:=H.out.head (by omega)
   have c1:=hc (k - 1) (by omega)
   have e1:((k:Int) - 1).toNat=k - 1:=by omega
   have HCC:=Kh hc
   clear hc
   by_cases hz:a (k - 1)=0
   ·have HZ:=Kh hz
    rw[hz]at c1
    clear hz
    go_wp2
    go_roundw
    case rel=>exact⟨k - 1,by omega,by go_num,by
     rw[← HV.out];obtain⟨m,rfl⟩:∃ m,k=m+1:=⟨k - 1,by omega⟩
     rw[vf];have:=HZ.out;simp only[Nat.add_sub_cancel]at this ⊢;rw[this];simp,by first|rfl|trivial⟩
    case measure=>simp[intOf];omega
   ·have hzz:(((a (k - 1):Nat):Int)==0)=false:=beq_eq_false_iff_ne.2 (by omega)
    have HNZ:=Kh hz
    clear hz
    have hcell:∀ (ob:Obj) (j:Nat) (u:Value),(cells32 a k)[j]?=some u→(wr.alloc ob).cell? ((⟨g,o,none⟩:Addr).add j)=some u:=by
     intro ob j u hu
     obtain⟨hj,rfl⟩:=cells32_of hu
     rw[Addr.add_lit]
     exact Lib.cell?_alloc_some _ (HCC.out j (by omega))
    have HC:=Kh hcell
    have hnm:=(H.out.take hk).norm (.inr HNZ.out)
    have HNM:=Kh hnm
    have HLT:=Kh (fun j (hj:j<k)=>H.out.lt j (by omega))
    obtain⟨i0,hi,hz0,hz1,hz2⟩:=info_parts u32Info
    clear hcell hnm
    go_wp2_with (at_builtin;refine wpList_append_own _ rfl _ _ 63 rfl wr.heap.size 149 i0 (.int .u32 0) 1 4 u32U hi hz0 hz1 hz2 rfl (by decide) _ _ _ rfl (World.ownsRow_made wr #[] 0 (Nat.le_refl _) (Nat.zero_le _) rfl) (⟨g,o,none⟩:Addr) k c (cells32 a k) rfl ?qc1 ?qc2 ?qc3 ?qc4 ?qc5 ?qc6 ?_)
    case qc1=>rw[cells32_len,Nat.mul_one]
    case qc2=>exact HC.out _
    case qc3=>exact cells32_one
    case qc4=>unfold maxLen;omega
    case qc5=>omega
    case qc6=>simp
    intro v' w1 hown hgrow hnil
    have hb:Below wr.heap.size wr w1:=((Below.refl _ wr).alloc (Nat.le_refl _) _).grown hgrow (by simp) (by intro k hk;simp[Value.ownBlock]at hk;omega)
    obtain⟨p',c',rfl,hd,hfr⟩:=Dg.of_own' (n:=k) (a:=a) (by simpa using hown) HLT.out
    have HD:=Kh (hd.nm (t:=vf a n) HV.out (by rw[← HV.out];exact HNM.out.1))
    have HB:=Kh hb
    have HK:=Kh (show nd (vf a n)=k by rw[← HV.out];exact HNM.out.1)
    have HFR:=Kh hfr
    clear hfr hown hgrow hnil hd hb HC HNM HLT hi hz0 hz1 hz2
    go_wp2
    go_ret
    exact⟨⟨p',c',by rw[HK.out];rfl,HD.out,by rw[HK.out];first|exact HFR.out|exact .inl rfl⟩,HB.out⟩
theorem c_rtrim (p:Option Addr) (c n:Nat) (a:Nat→Nat) (w:World) (h:Dg w p c n a) (hn:n≤35184372088830):
  Calls Tryz.prog 140 #[.slice p n c] w fun e w'=>RetN w' e (vf a n)∧Below w.heap.size w w':=by
 refine(c_rtrimF p c n a w h hn).mono ?_
 rintro e w' ⟨⟨p',c',h1,h2,_⟩,hb⟩
 exact⟨⟨p',c',h1,h2⟩,hb⟩
theorem rtrim_letters {w:World} {s:Bool} {p:Option Addr} {n c:Nat} {z:Int} (h:Zr w s p n c z) (hn:n≤35184372088830):
  sg s z.natAbs=z∧nd z.natAbs≤n∧∀ w1,Below w.heap.size w w1→Calls Tryz.prog 140 #[.slice p n c] w1 fun e w'=>RetN w' e z.natAbs∧Below w1.heap.size w1 w':=by
 obtain⟨a,hd,hz⟩:=h
 have ha:z.natAbs=vf a n:=by rw[← hz,sg_abs]
 refine⟨by rw[ha];exact hz,by rw[ha];exact nd_le.2 (vf_lt hd.lt),fun w1 hb=>?_⟩
 rw[ha]
 exact c_rtrim p c n a w1 (hd.keep hb) hn
theorem c_Norm (s:Bool) (p:Option Addr) (n c:Nat) (z:Int) (w:World) (h:Zr w s p n c z) (hn:n≤35184372088830):
  Calls Tryz.prog 134 #[.agg #[.bool s,.slice p n c]] w fun e w'=>RetZ w' e z∧Below w.heap.size w w':=by
 obtain⟨hs,hk,hT⟩:=rtrim_letters h hn
 have HT:=Kh hT
 have HZ:=Kh hs
 have HK:=Kh hk
 clear h hT hs hk
 go_enter Tryz.func134,Tryz.ntmps134
 go_wp2_with fail
 obtain⟨w0,hw0,X0,X1,hb0⟩:=bx2 w #[.bool s,.slice p n c] 65 #[.bool false,.slice none 0 0] 65
 rw[hw0]
 have HX0:=Kh X0
 have HX1:=Kh X1
 have HB0:=Kh hb0
 clear hw0 X0 X1 hb0
 refine(HT.out _ HB0.out).mono ?_
 rintro e w2 ⟨⟨p2,c2,rfl,hm⟩,hb2⟩
 obtain⟨k,hk⟩:∃ k,nd z.natAbs=k:=⟨_,rfl⟩
 rw[hk]
 have X0:=bk HX0 hb2
 have V:=Var2.of (bk HX1 hb2) (NotInt.bool _) (NotInt.slice _ _ _)
 have a0:=X0.at_ 0 rfl
 obtain⟨⟨u0,hu0⟩,⟨u1,hu1⟩⟩:=V.cells
 have f0:=V.free 0
 have f1:=V.free 1
 have hzs:∀ t,t=(s&&decide (0<k))→Zs w2 t p2 k c2 z:=fun t ht=>by have:=zs_of hm hk ht;rw[HZ.out]at this;exact this
 have HV:=Kh V
 have HZS:=Kh hzs
 have HB2:=bt HB0 hb2
 clear hm hb2 hk X0 V hzs HT HX0 HX1 HB0 HK HZ
 cases s with
 | false=>
  have hz3:=(HZS.out false rfl).put2 HV.out.sts 0 1 (.bool false) (.slice p2 k c2) (NotInt.bool _)
  have hb3:Below w.heap.size w ((w2.setCell ⟨w.heap.size+1,0,none⟩ (.bool false)).setCell ⟨w.heap.size+1,1,none⟩ (.slice p2 k c2)):=(HB2.out.setCell (by show w.heap.size≤w.heap.size+1;omega) _).setCell (by show w.heap.size≤w.heap.size+1;omega) _
  have HZ3:=Kh hz3
  have HB3:=Kh hb3
  clear hz3 hb3
  go_wp2
  try simp only[Exit.inBlock,Exit.then]
  refine bodyPost_ret (by simp[results,Tryz.results134,go_sem,hu0,hu1];try rfl) rfl ?_
  exact⟨⟨false,p2,k,c2,rfl,HZ3.out⟩,HB3.out⟩
 | true=>
  obtain⟨t,ht⟩:∃ t,decide (0<k)=t:=⟨_,rfl⟩
  have hki:decide ((0:Int)<(k:Int))=t:=by rw[← ht,decide_eq_decide];omega
  have hz3:=(HZS.out t (by rw[← ht];rfl)).put2 HV.out.sts 0 1 (.bool t) (.slice p2 k c2) (NotInt.bool _)
  have hb3:Below w.heap.size w ((w2.setCell ⟨w.heap.size+1,0,none⟩ (.bool t)).setCell ⟨w.heap.size+1,1,none⟩ (.slice p2 k c2)):=(HB2.out.setCell (by show w.heap.size≤w.heap.size+1;omega) _).setCell (by show w.heap.size≤w.heap.size+1;omega) _
  have HZ3:=Kh hz3
  have HB3:=Kh hb3
  clear hz3 hb3
  go_wp2
  try simp only[Exit.inBlock,Exit.then]
  refine bodyPost_ret (by simp[results,Tryz.results134,go_sem,hu0,hu1];try rfl) rfl ?_
  exact⟨⟨t,p2,k,c2,rfl,HZ3.out⟩,HB3.out⟩
theorem c_rsigned (neg:Bool) (p:Option Addr) (c n:Nat) (a:Nat→Nat) (w:World) (h:Dg w p c n a) (hn:n≤35184372088830):
  Calls Tryz.prog 136 #[.bool neg,.slice p n c] w fun e w'=>RetZ w' e (sg neg (vf a n))∧Below w.heap.size w w':=by
 have HC:=Kh (fun w1 (hb:Below w.heap.size w w1)=>c_Norm neg p n c (sg neg (vf a n)) w1 ⟨a,h.keep hb,rfl⟩ hn)
 clear h
 go_enter Tryz.func136,Tryz.ntmps136
 go_wp2_with fail
 obtain⟨w0,hw0,X0,hb0⟩:=bx1 w #[.bool false,.slice none 0 0] 65
 rw[hw0]
 have HX0:=Kh X0
 have HB0:=Kh hb0
 clear hw0 X0 hb0
 refine(HC.out _ HB0.out).mono ?_
 rintro e w2 ⟨⟨s2,p2,n2,c2,rfl,hz2⟩,hb2⟩
 have HVR:=Kh (Var2.of (bk HX0 hb2) (NotInt.bool _) (NotInt.slice _ _ _))
 have HB2:=bt HB0 hb2
 clear hb2 HX0 HB0 HC
 obtain⟨⟨u0,hu0⟩,⟨u1,hu1⟩⟩:=HVR.out.cells
 have f0:=HVR.out.free 0
 have f1:=HVR.out.free 1
 have hz3:=hz2.put2 HVR.out.sts 0 1 (.bool s2) (.slice p2 n2 c2) (NotInt.bool _)
 have hb3:Below w.heap.size w ((w2.setCell ⟨w.heap.size,0,none⟩ (.bool s2)).setCell ⟨w.heap.size,1,none⟩ (.slice p2 n2 c2)):=(HB2.out.setCell (Nat.le_refl _) _).setCell (Nat.le_refl _) _
 have HZ3:=Kh hz3
 have HB3:=Kh hb3
 clear hz2 hz3 hb3
 go_wp2
 try simp only[Exit.inBlock,Exit.then]
 refine bodyPost_ret (by simp[results,Tryz.results136,go_sem,hu0,hu1];try rfl) rfl ?_
 exact⟨⟨s2,p2,n2,c2,rfl,HZ3.out⟩,HB3.out⟩
theorem c_rSign (s:Bool) (p:Option Addr) (n c:Nat) (z:Int) (w:World) (h:Zr w s p n c z) (hn:n≤35184372088830):
  Calls Tryz.prog 128 #[.agg #[.bool s,.slice p n c]] w fun e w'=>e=.returned (.int .i64 (Int.sign z))∧Below w.heap.size w w':=by
 have HC:=Kh (fun w1 (hb:Below w.heap.size w w1)=>c_Norm s p n c z w1 (h.keep hb) hn)
 obtain⟨g,hg⟩:∃ g,Int.sign z=g:=⟨_,rfl⟩
 have HG:=Kh hg
 rw[hg]
 clear h hg
 go_enter Tryz.func128,Tryz.ntmps128
 go_wp2_with fail
 obtain⟨w0,hw0,X0,hb0⟩:=bx1 w #[.bool s,.slice p n c] 65
 rw[hw0]
 have HB0:=Kh hb0
 clear hw0 X0 hb0
 refine(HC.out _ HB0.out).mono ?_
 rintro e w2 ⟨⟨s2,p2,n2,c2,rfl,hz2⟩,hb2⟩
 have HB2:=bt HB0 hb2
 have HBA:=Kh (HB2.out.alloc HB2.out.size (.cells #[.bool s2,.slice p2 n2 c2] 65))
 have hk:=hz2.2.1
 have hs:=hz2.1
 clear hz2 hb2 HC HB0 HB2
 by_cases hk0:n2=0
 ·obtain rfl:z=0:=by have:=nd_pos (v:=z.natAbs);omega
  obtain rfl:g=0:=HG.out.symm
  subst hk0
  clear hk hs
  go_wp2
  go_ret
  exact⟨rfl,HBA.out⟩
 ·have hkb:((n2:Int)==0)=false:=beq_eq_false_iff_ne.2 (by omega)
  have hz0:z≠0:=fun h=>hk0 (by rw[← hk,h];rfl)
  cases s2 with
  | true=>
   have hneg:z<0:=by simpa using hs
   obtain rfl:g=-1:=by rw[← HG.out];exact Int.sign_eq_neg_one_of_neg hneg
   clear hk hs hneg hz0
   go_wp2
   go_ret
   exact⟨rfl,HBA.out⟩
  | false=>
   have hpos:0<z:=by have:¬ z<0:=by simpa using hs
                     omega
   obtain rfl:g=1:=by rw[← HG.out];exact Int.sign_eq_one_of_pos hpos
   clear hk hs hpos hz0
   go_wp2
   go_ret
   exact⟨rfl,HBA.out⟩
theorem c_belowEq (p:Option Addr) (c:Nat) (q:Option Addr) (d n:Nat) (a b:Nat→Nat) (s:Bool) (w:World) (h1:Dg w p c n a) (h2:Dg w q d n b) (hn:n≤70368744177664) (hs:decide (vf a n<vf b n)=s):
  Calls Tryz.prog 138 #[.slice p n c,.slice q n d] w fun e w'=>e=.returned (.bool s)∧∃ k,w'=w.drewN k:=by
 have H1:=Kh h1
 have H2:=Kh h2
 have HS:=Kh hs
 clear h1 h2 hs
 go_enter Tryz.func138,Tryz.ntmps138
 go_wp2
 go_loopw [5] (fun i wr=>∃ k:Nat,k≤n∧i=.int .i64 ((k:Int) - 1)∧(∀ j,k≤j→j<n→a j=b j)∧∃ m,wr=w.drewN m) (fun i _=>(intOf i+1).toNat)
 case atStart=>exact⟨n,Nat.le_refl _,by go_num,fun j h1 h2=>by omega,0,rfl⟩
 case round=>
  obtain⟨k,hk,rfl,heq,mr,rfl⟩:=hrel
  have HE:=Kh heq
  clear heq
  by_cases h0:k=0
  ·subst h0
   have HF:=Kh (show false=s by rw[← HS.out,vf_congr fun i hi=>HE.out i (by omega) hi];simp)
   go_wp2
   go_ret
   exact⟨by rw[← HF.out];rfl,mr,rfl⟩
  ·have hk0:0<k:=by omega
   obtain⟨g1,o1,rfl,hg1,hc1⟩:=H1.out.head (by omega)
   obtain⟨g2,o2,rfl,hg2,hc2⟩:=H2.out.head (by omega)
   have c1:=hc1 (k - 1) (by omega)
   have c2:=hc2 (k - 1) (by omega)
   have e1:((k:Int) - 1).toNat=k - 1:=by omega
   have hki:(1:Int)≤(k:Int):=by omega
   obtain⟨x,hx⟩:∃ x,a (k - 1)=x:=⟨_,rfl⟩
   obtain⟨y,hy⟩:∃ y,b (k - 1)=y:=⟨_,rfl⟩
   rw[hx]at c1
   rw[hy]at c2
   have HX:=Kh hx
   have HY:=Kh hy
   clear hc1 hc2 hx hy
   by_cases hxy:x=y
   ·subst hxy
    go_wp2
    go_quiet (fail)
    go_wp2
    go_roundw
    case rel=>exact⟨k - 1,by omega,by go_num,fun j h1 h2=>by
     rcases Nat.lt_or_ge j k with h3|h3
     ·rw[show j=k - 1 from by omega,HX.out,HY.out]
     ·exact HE.out j h3 h2,_,rfl⟩
    case measure=>simp[intOf];omega
   ·have hxyb:((x:Int) !=(y:Int))=true:=by rw[bne_iff_ne];omega
    have HL:=Kh hxy
    clear hxy
    by_cases hlt:(x:Int)<(y:Int)
    ·have hv:=vf_cmp (a:=a) (b:=b) (n:=n) (i:=k - 1) (by omega) H1.out.lt (fun j h1 h2=>HE.out j (by omega) h2) (by rw[HX.out,HY.out];omega)
     have HSV:=Kh (show true=s by rw[← HS.out];exact(decide_eq_true hv).symm)
     clear hv
     go_wp2
     go_quiet (fail)
     go_wp2
     go_quiet (fail)
     go_wp2
     go_ret
     exact⟨by rw[← HSV.out];first|rfl |(congr 2;exact decide_eq_true hlt),_,by first|rfl|rw[dr2,dr2]⟩
    ·have hv:=vf_cmp (a:=b) (b:=a) (n:=n) (i:=k - 1) (by omega) H2.out.lt (fun j h1 h2=>(HE.out j (by omega) h2).symm) (by rw[HX.out,HY.out];have:=HL.out;omega)
     have HSV:=Kh (show false=s by rw[← HS.out];exact(decide_eq_false (by omega)).symm)
     clear hv
     go_wp2
     go_quiet (fail)
     go_wp2
     go_quiet (fail)
     go_wp2
     go_ret
     exact⟨by rw[← HSV.out];show Ending.returned (Value.bool (decide (x<y)))=_;rw[decide_eq_false (show ¬ x<y by omega)],_,by first|rfl|rw[dr2,dr2]⟩
theorem nd_lt_iff {u v:Nat} (h:nd u≠nd v):nd u<nd v↔u<v:=by
 rcases Nat.lt_or_gt_of_ne h with h1|h1
 ·exact⟨fun _=>nd_cmp h1,fun _=>h1⟩
 ·have:=nd_cmp h1
  exact⟨fun h=>by omega,fun h=>by omega⟩
theorem c_below (p:Option Addr) (c u:Nat) (q:Option Addr) (d v:Nat) (w:World) (h:Nm w p c u) (h':Nm w q d v) (hu:nd u≤70368744177664):
  Calls Tryz.prog 138 #[.slice p (nd u) c,.slice q (nd v) d] w fun e w'=>e=.returned (.bool (decide (u<v)))∧∃ k,w'=w.drewN k:=by
 by_cases hne:nd v=nd u
 ·have h2:Dg w q d (nd u) (dg v):=by rw[← hne];exact h'
  have hvv:vf (dg v) (nd u)=v:=by rw[← hne];exact vf_nd v
  rw[hne]
  exact c_belowEq p c q d (nd u) (dg u) (dg v) _ w h h2 hu (by rw[vf_nd,hvv])
 ·have hs:=nd_lt_iff (Ne.symm hne)
  have hneb:((nd u:Int) !=(nd v:Int))=true:=by rw[bne_iff_ne];omega
  obtain⟨s,hsd⟩:∃ s,decide (u<v)=s:=⟨_,rfl⟩
  have hd:decide ((nd u:Int)<(nd v:Int))=s:=by rw[← hsd,decide_eq_decide];omega
  have hd2:decide (nd u<nd v)=s:=by rw[← hsd,decide_eq_decide];exact hs
  rw[hsd]
  clear hs hsd h h'
  generalize nd u=n at *
  generalize nd v=m at *
  have HD:=Kh hd2
  clear hne hd hd2
  go_enter Tryz.func138,Tryz.ntmps138
  go_wp2
  go_ret
  exact⟨by rw[← HD.out];first|rfl |(congr 2;simp),0,rfl⟩
def AccAt (w:World) (B:Nat) (v:Value) (i:Nat) (P:(Nat→Nat)→Prop):Prop:=∃ r,w.ownsRow B 149 1 v i (cells32 r i)∧(∀ j,j<i→r j<4294967296)∧P r
theorem cells32_congr {a b:Nat→Nat} {n:Nat} (h:∀ j,j<n→a j=b j):cells32 a n=cells32 b n:=by
 unfold cells32
 exact List.map_congr_left fun i hi=>by rw[h i (List.mem_range.1 hi)]
theorem own_push {w:World} {B i s:Nat} {v:Value} {r:Nat→Nat} (h:w.ownsRow B 149 1 v (i+1) (cells32 r i++[.int .u32 (s:Nat)])):w.ownsRow B 149 1 v (i+1) (cells32 (upd r i s) (i+1)):=by
 rw[cells32_succ,show upd r i s i=s from by simp[upd],cells32_congr (a:=upd r i s) (b:=r) (fun j hj=>by unfold upd;rw[if_neg (by omega)])]
 exact h
theorem u32Row:(Tryz.prog.info? 149).map (fun i=>(i.zero,i.size,i.bytes))=some (some (.int .u32 0),1,4):=u32Info
theorem one32 (s:Nat):∀ u∈[Value.int .u32 (s:Nat)],u.oneCell'=true:=by
 intro u hu
 rw[List.mem_singleton]at hu
 subst hu;rfl
theorem acc_plus {r:Nat→Nat} {A C i cy x y s cz:Nat} {a b:Nat→Nat} (h:vf r i+4294967296 ^ i*cy=vf a i+vf b i) (hx:a i=x) (hy:b i=y) (hs:(cy+x+y) % 4294967296=s) (hcz:(cy+x+y) / 4294967296=cz) (_hA:A=C):
  vf (upd r i s) (i+1)+4294967296 ^ (i+1)*cz=vf a (i+1)+vf b (i+1):=by
 rw[vf,vf,vf,vf_upd_ge (Nat.le_refl _),show upd r i s i=s from by simp[upd],pow_succ',hx,hy]
 have h1:cy+x+y=s+4294967296*cz:=by omega
 have h2:=congrArg (4294967296 ^ i * ·) h1
 simp only[Nat.mul_add]at h2
 rw[Nat.mul_left_comm]at h2
 rw[Nat.mul_assoc]
 omega
theorem upd_lt {r:Nat→Nat} {i s:Nat} (h:∀ j,j<i→r j<4294967296) (hs:s<4294967296):∀ j,j<i+1→upd r i s j<4294967296:=fun j hj=>by
 unfold upd
 split
 ·exact hs
 ·exact h j (by omega)
theorem c_rplus (p:Option Addr) (c n:Nat) (a:Nat→Nat) (q:Option Addr) (d m:Nat) (b:Nat→Nat) (w:World) (h1:Dg w p c n a) (h2:Dg w q d m b) (hn:n≤17592186044410) (hm:m≤17592186044410):
  Calls Tryz.prog 137 #[.slice p n c,.slice q m d] w fun e w'=>RetD w' e (max n m+1) (vf a n+vf b m)∧Below w.heap.size w w':=by
 obtain⟨M,hM⟩:∃ M,max n m=M:=⟨_,rfl⟩
 have hnM:n≤M:=by omega
 have hmM:m≤M:=by omega
 have hMl:M≤17592186044410:=by omega
 have hMd:M=n∨M=m:=by omega
 have HMD:=Kh hMd
 have HM:=Kh hM
 have H1:=Kh h1
 have H2:=Kh h2
 rw[hM]
 clear h1 h2 hM hMd
 go_enter Tryz.func137,Tryz.ntmps137
 go_wp2
 go_loopw [5,6,7] (fun v5 v6 v7 wr=>∃ i cy:Nat,i≤M∧v6=.int .u64 cy∧v7=.int .i64 i∧(cy:Int)≤1∧AccAt wr w.heap.size v5 i (fun r=>vf r i+4294967296 ^ i*cy=vf (ext a n) i+vf (ext b m) i)∧Below w.heap.size w wr) (fun _ _ v7 _=>M - (intOf v7).toNat)
 case atStart=>exact⟨0,0,Nat.zero_le _,rfl,rfl,by decide,⟨fun _=>0,⟨rfl,.inl ⟨rfl,rfl⟩⟩,fun j hj=>absurd hj (Nat.not_lt_zero _),by simp[vf]⟩,Below.refl _ _⟩
 case round=>
  obtain⟨i,cy,hi,rfl,rfl,hcy,⟨r,hown,hlt,hvl⟩,hb⟩:=hrel
  have HOW:=Kh hown
  have HLT:=Kh hlt
  have HVL:=Kh hvl
  have HB:=Kh hb
  clear hown hlt hvl hb
  by_cases hin:i<n
  ·by_cases him:i<m
   ·skip
    obtain⟨g1,o1,rfl,hg1,hc1⟩:=H1.out.head (by omega)
    have c1:wr.cell? ⟨g1,o1+i,none⟩=some (.int .u32 (a i:Nat)):=(HB.out.cell (p:=⟨g1,o1+i,none⟩) hg1).trans (hc1 i (by omega))
    have ex:ext a n i=a i:=by unfold ext;rw[if_pos (by omega)]
    obtain⟨x,hx⟩:∃ x,a i=x:=⟨_,rfl⟩
    rw[hx]at c1 ex
    have hxl:(x:Int)<4294967296:=by have:=H1.out.lt i (by omega);omega
    clear hc1 hx
    obtain⟨g2,o2,rfl,hg2,hc2⟩:=H2.out.head (by omega)
    have c2:wr.cell? ⟨g2,o2+i,none⟩=some (.int .u32 (b i:Nat)):=(HB.out.cell (p:=⟨g2,o2+i,none⟩) hg2).trans (hc2 i (by omega))
    have ey:ext b m i=b i:=by unfold ext;rw[if_pos (by omega)]
    obtain⟨y,hy⟩:∃ y,b i=y:=⟨_,rfl⟩
    rw[hy]at c2 ey
    have hyl:(y:Int)<4294967296:=by have:=H2.out.lt i (by omega);omega
    clear hc2 hy
    obtain⟨s,hs⟩:∃ s,(cy+x+y) % 4294967296=s:=⟨_,rfl⟩
    obtain⟨cz,hcz⟩:∃ cz,(cy+x+y) / 4294967296=cz:=⟨_,rfl⟩
    have hsi:((cy:Int)+(x:Int)+(y:Int)) % 4294967296=(s:Nat):=by omega
    have hczi:((cy:Int)+(x:Int)+(y:Int)) / 4294967296=(cz:Nat):=by omega
    have hczl:(cz:Int)≤1:=by omega
    have HV2:=Kh (acc_plus (A:=0) (C:=0) HVL.out ex ey hs hcz rfl)
    have HLT2:=Kh (upd_lt HLT.out (show s<4294967296 by omega))
    clear hs hcz ex ey
    go_wp2_with (at_builtin;refine wpl_app1 rfl (.tmp 44) (.tmp 47) _ 149 rfl u32U u32Row rfl (by decide) w.heap.size i _ (cells32 r i) [.int .u32 (s:Nat)] rfl HOW.out rfl rfl (one32 s) (by omega) (by omega) HB.out.size ?_;intro v' w' hown' hgr hat;have HO2:=Kh (own_push hown');have HB2:=Kh (own_below HB.out HOW.out hgr (Nat.le_refl _) HB.out.size);clear hown' hgr hat)
    go_roundw
    case rel=>exact⟨i+1,cz,by omega,rfl,by go_num,hczl,⟨_,HO2.out,HLT2.out,HV2.out⟩,HB2.out⟩
    case measure=>simp[intOf];omega
   ·skip
    obtain⟨g1,o1,rfl,hg1,hc1⟩:=H1.out.head (by omega)
    have c1:wr.cell? ⟨g1,o1+i,none⟩=some (.int .u32 (a i:Nat)):=(HB.out.cell (p:=⟨g1,o1+i,none⟩) hg1).trans (hc1 i (by omega))
    have ex:ext a n i=a i:=by unfold ext;rw[if_pos (by omega)]
    obtain⟨x,hx⟩:∃ x,a i=x:=⟨_,rfl⟩
    rw[hx]at c1 ex
    have hxl:(x:Int)<4294967296:=by have:=H1.out.lt i (by omega);omega
    clear hc1 hx
    have ey:ext b m i=0:=by unfold ext;rw[if_neg (by omega)]
    obtain⟨s,hs⟩:∃ s,(cy+x+0) % 4294967296=s:=⟨_,rfl⟩
    obtain⟨cz,hcz⟩:∃ cz,(cy+x+0) / 4294967296=cz:=⟨_,rfl⟩
    have hsi:((cy:Int)+(x:Int)) % 4294967296=(s:Nat):=by omega
    have hczi:((cy:Int)+(x:Int)) / 4294967296=(cz:Nat):=by omega
    have hczl:(cz:Int)≤1:=by omega
    have HV2:=Kh (acc_plus (A:=0) (C:=0) HVL.out ex ey hs hcz rfl)
    have HLT2:=Kh (upd_lt HLT.out (show s<4294967296 by omega))
    clear hs hcz ex ey
    go_wp2_with (at_builtin;refine wpl_app1 rfl (.tmp 44) (.tmp 47) _ 149 rfl u32U u32Row rfl (by decide) w.heap.size i _ (cells32 r i) [.int .u32 (s:Nat)] rfl HOW.out rfl rfl (one32 s) (by omega) (by omega) HB.out.size ?_;intro v' w' hown' hgr hat;have HO2:=Kh (own_push hown');have HB2:=Kh (own_below HB.out HOW.out hgr (Nat.le_refl _) HB.out.size);clear hown' hgr hat)
    go_roundw
    case rel=>exact⟨i+1,cz,by omega,rfl,by go_num,hczl,⟨_,HO2.out,HLT2.out,HV2.out⟩,HB2.out⟩
    case measure=>simp[intOf];omega
  ·by_cases him:i<m
   ·skip
    have ex:ext a n i=0:=by unfold ext;rw[if_neg (by omega)]
    obtain⟨g2,o2,rfl,hg2,hc2⟩:=H2.out.head (by omega)
    have c2:wr.cell? ⟨g2,o2+i,none⟩=some (.int .u32 (b i:Nat)):=(HB.out.cell (p:=⟨g2,o2+i,none⟩) hg2).trans (hc2 i (by omega))
    have ey:ext b m i=b i:=by unfold ext;rw[if_pos (by omega)]
    obtain⟨y,hy⟩:∃ y,b i=y:=⟨_,rfl⟩
    rw[hy]at c2 ey
    have hyl:(y:Int)<4294967296:=by have:=H2.out.lt i (by omega);omega
    clear hc2 hy
    obtain⟨s,hs⟩:∃ s,(cy+0+y) % 4294967296=s:=⟨_,rfl⟩
    obtain⟨cz,hcz⟩:∃ cz,(cy+0+y) / 4294967296=cz:=⟨_,rfl⟩
    have hsi:((cy:Int)+(y:Int)) % 4294967296=(s:Nat):=by omega
    have hczi:((cy:Int)+(y:Int)) / 4294967296=(cz:Nat):=by omega
    have hczl:(cz:Int)≤1:=by omega
    have HV2:=Kh (acc_plus (A:=0) (C:=0) HVL.out ex ey hs hcz rfl)
    have HLT2:=Kh (upd_lt HLT.out (show s<4294967296 by omega))
    clear hs hcz ex ey
    go_wp2_with (at_builtin;refine wpl_app1 rfl (.tmp 44) (.tmp 47) _ 149 rfl u32U u32Row rfl (by decide) w.heap.size i _ (cells32 r i) [.int .u32 (s:Nat)] rfl HOW.out rfl rfl (one32 s) (by omega) (by omega) HB.out.size ?_;intro v' w' hown' hgr hat;have HO2:=Kh (own_push hown');have HB2:=Kh (own_below HB.out HOW.out hgr (Nat.le_refl _) HB.out.size);clear hown' hgr hat)
    go_roundw
    case rel=>exact⟨i+1,cz,by omega,rfl,by go_num,hczl,⟨_,HO2.out,HLT2.out,HV2.out⟩,HB2.out⟩
    case measure=>simp[intOf];omega
   ·obtain rfl:i=M:=by have:=HMD.out;omega
    have hcyi:(cy:Int) % 4294967296=(cy:Nat):=by omega
    have HF:=Kh (show vf (upd r i cy) (i+1)=vf a n+vf b m by
     have h:=HVL.out
     rw[ext_vf a hnM,ext_vf b hmM]at h
     rw[vf,vf_upd_ge (Nat.le_refl _),show upd r i cy i=cy from by simp[upd]]
     exact h)
    have HLT2:=Kh (upd_lt HLT.out (show cy<4294967296 by omega))
    go_wp2_with (at_builtin;refine wpl_app1 rfl (.tmp 51) (.tmp 54) _ 149 rfl u32U u32Row rfl (by decide) w.heap.size i _ (cells32 r i) [.int .u32 (cy:Nat)] rfl HOW.out rfl rfl (one32 cy) (by omega) (by omega) HB.out.size ?_;intro v' w' hown' hgr hat;obtain⟨p9,c9,rfl,hd9⟩:=Dg.of_own (own_push hown') HLT2.out;have HD9:=Kh hd9;have HB2:=Kh (own_below HB.out HOW.out hgr (Nat.le_refl _) HB.out.size);clear hown' hgr hat hd9)
    go_ret
    exact⟨⟨p9,c9,_,rfl,HD9.out,HF.out⟩,HB2.out⟩
theorem acc_minus {r:Nat→Nat} {i bw x y s bz:Nat} {a b:Nat→Nat} (h:vf r i+vf b i=vf a i+4294967296 ^ i*bw) (hx:a i=x) (hy:b i=y) (hs:s+(bw+y)=x+4294967296*bz):
  vf (upd r i s) (i+1)+vf b (i+1)=vf a (i+1)+4294967296 ^ (i+1)*bz:=by
 rw[vf,vf,vf,vf_upd_ge (Nat.le_refl _),show upd r i s i=s from by simp[upd],pow_succ',hx,hy]
 have h2:=congrArg (4294967296 ^ i * ·) hs
 simp only[Nat.mul_add]at h2
 rw[Nat.mul_left_comm]at h2
 rw[Nat.mul_assoc]
 omega
theorem c_rminus (p:Option Addr) (c n:Nat) (a:Nat→Nat) (q:Option Addr) (d m:Nat) (b:Nat→Nat) (w:World) (h1:Dg w p c n a) (h2:Dg w q d m b) (hn:n≤17592186044410) (hmn:m≤n) (hle:vf b m≤vf a n):
  Calls Tryz.prog 139 #[.slice p n c,.slice q m d] w fun e w'=>RetD w' e n (vf a n - vf b m)∧Below w.heap.size w w':=by
 have H1:=Kh h1
 have H2:=Kh h2
 have HLE:=Kh hle
 clear h1 h2 hle
 go_enter Tryz.func139,Tryz.ntmps139
 go_wp2
 go_loopw [5,6,7] (fun v5 v6 v7 wr=>∃ i bw:Nat,i≤n∧v6=.int .u64 bw∧v7=.int .i64 i∧(bw:Int)≤1∧AccAt wr w.heap.size v5 i (fun r=>vf r i+vf (ext b m) i=vf a i+4294967296 ^ i*bw)∧Below w.heap.size w wr) (fun _ _ v7 _=>n - (intOf v7).toNat)
 case atStart=>exact⟨0,0,Nat.zero_le _,rfl,rfl,by decide,⟨fun _=>0,⟨rfl,.inl ⟨rfl,rfl⟩⟩,fun j hj=>absurd hj (Nat.not_lt_zero _),by simp[vf]⟩,Below.refl _ _⟩
 case round=>
  obtain⟨i,bw,hi,rfl,rfl,hbw,⟨r,hown,hlt,hvl⟩,hb⟩:=hrel
  have HOW:=Kh hown
  have HLT:=Kh hlt
  have HVL:=Kh hvl
  have HB:=Kh hb
  clear hown hlt hvl hb
  by_cases hin:i<n
  ·obtain⟨g1,o1,rfl,hg1,hc1⟩:=H1.out.head (by omega)
   have c1:wr.cell? ⟨g1,o1+i,none⟩=some (.int .u32 (a i:Nat)):=(HB.out.cell (p:=⟨g1,o1+i,none⟩) hg1).trans (hc1 i (by omega))
   obtain⟨x,hx⟩:∃ x,a i=x:=⟨_,rfl⟩
   rw[hx]at c1
   have HX:=Kh hx
   have hxl:(x:Int)<4294967296:=by have:=H1.out.lt i (by omega);omega
   clear hc1 hx
   by_cases him:i<m
   ·skip
    obtain⟨g2,o2,rfl,hg2,hc2⟩:=H2.out.head (by omega)
    have c2:wr.cell? ⟨g2,o2+i,none⟩=some (.int .u32 (b i:Nat)):=(HB.out.cell (p:=⟨g2,o2+i,none⟩) hg2).trans (hc2 i (by omega))
    have ey:ext b m i=b i:=by unfold ext;rw[if_pos (by omega)]
    obtain⟨y,hy⟩:∃ y,b i=y:=⟨_,rfl⟩
    rw[hy]at c2 ey
    have hyl:(y:Int)<4294967296:=by have:=H2.out.lt i (by omega);omega
    clear hc2 hy
    by_cases hlt:(x:Int)<((bw:Int)+(y:Int))
    ·skip
     obtain⟨s,hs⟩:∃ s,x+4294967296 - (bw+y)=s:=⟨_,rfl⟩
     have hsi:((x:Int)+4294967296 - ((bw:Int)+(y:Int))) % 4294967296=(s:Nat):=by omega
     have hsi2:(x:Int)+4294967296 - ((bw:Int)+(y:Int))=(s:Nat):=by omega
     have hsl:(s:Int)<4294967296:=by omega
     have HV2:=Kh (acc_minus (s:=s) (bz:=1) HVL.out HX.out ey (by omega))
     have HLT2:=Kh (upd_lt HLT.out (show s<4294967296 by omega))
     clear hs ey
     go_wp2_with (at_builtin;refine wpl_app1 rfl (.tmp 38) (.tmp 43) _ 149 rfl u32U u32Row rfl (by decide) w.heap.size i _ (cells32 r i) [.int .u32 (s:Nat)] rfl HOW.out rfl rfl (one32 s) (by omega) (by omega) HB.out.size ?_;intro v' w' hown' hgr hat;have HO2:=Kh (own_push hown');have HB2:=Kh (own_below HB.out HOW.out hgr (Nat.le_refl _) HB.out.size);clear hown' hgr hat)
     go_roundw
     case rel=>exact⟨i+1,1,by omega,rfl,by go_num,by decide,⟨_,HO2.out,HLT2.out,HV2.out⟩,HB2.out⟩
     case measure=>simp[intOf];omega
    ·skip
     obtain⟨s,hs⟩:∃ s,x - (bw+y)=s:=⟨_,rfl⟩
     have hsi2:(x:Int) - ((bw:Int)+(y:Int))=(s:Nat):=by omega
     have hsl:(s:Int)<4294967296:=by omega
     have hsi:(s:Int) % 4294967296=(s:Nat):=by omega
     have HV2:=Kh (acc_minus (s:=s) (bz:=0) HVL.out HX.out ey (by omega))
     have HLT2:=Kh (upd_lt HLT.out (show s<4294967296 by omega))
     clear hs ey
     go_wp2_with (at_builtin;refine wpl_app1 rfl (.tmp 38) (.tmp 43) _ 149 rfl u32U u32Row rfl (by decide) w.heap.size i _ (cells32 r i) [.int .u32 (s:Nat)] rfl HOW.out rfl rfl (one32 s) (by omega) (by omega) HB.out.size ?_;intro v' w' hown' hgr hat;have HO2:=Kh (own_push hown');have HB2:=Kh (own_below HB.out HOW.out hgr (Nat.le_refl _) HB.out.size);clear hown' hgr hat)
     go_roundw
     case rel=>exact⟨i+1,0,by omega,rfl,by go_num,by decide,⟨_,HO2.out,HLT2.out,HV2.out⟩,HB2.out⟩
     case measure=>simp[intOf];omega
   ·skip
    have ey:ext b m i=0:=by unfold ext;rw[if_neg (by omega)]
    by_cases hlt:(x:Int)<(bw:Int)
    ·skip
     obtain⟨s,hs⟩:∃ s,x+4294967296 - (bw+0)=s:=⟨_,rfl⟩
     have hsi:((x:Int)+4294967296 - (bw:Int)) % 4294967296=(s:Nat):=by omega
     have hsi2:(x:Int)+4294967296 - (bw:Int)=(s:Nat):=by omega
     have hsl:(s:Int)<4294967296:=by omega
     have HV2:=Kh (acc_minus (s:=s) (bz:=1) HVL.out HX.out ey (by omega))
     have HLT2:=Kh (upd_lt HLT.out (show s<4294967296 by omega))
     clear hs ey
     go_wp2_with (at_builtin;refine wpl_app1 rfl (.tmp 38) (.tmp 43) _ 149 rfl u32U u32Row rfl (by decide) w.heap.size i _ (cells32 r i) [.int .u32 (s:Nat)] rfl HOW.out rfl rfl (one32 s) (by omega) (by omega) HB.out.size ?_;intro v' w' hown' hgr hat;have HO2:=Kh (own_push hown');have HB2:=Kh (own_below HB.out HOW.out hgr (Nat.le_refl _) HB.out.size);clear hown' hgr hat)
     go_roundw
     case rel=>exact⟨i+1,1,by omega,rfl,by go_num,by decide,⟨_,HO2.out,HLT2.out,HV2.out⟩,HB2.out⟩
     case measure=>simp[intOf];omega
    ·skip
     obtain⟨s,hs⟩:∃ s,x - (bw+0)=s:=⟨_,rfl⟩
     have hsi2:(x:Int) - (bw:Int)=(s:Nat):=by omega
     have hsl:(s:Int)<4294967296:=by omega
     have hsi:(s:Int) % 4294967296=(s:Nat):=by omega
     have HV2:=Kh (acc_minus (s:=s) (bz:=0) HVL.out HX.out ey (by omega))
     have HLT2:=Kh (upd_lt HLT.out (show s<4294967296 by omega))
     clear hs ey
     go_wp2_with (at_builtin;refine wpl_app1 rfl (.tmp 38) (.tmp 43) _ 149 rfl u32U u32Row rfl (by decide) w.heap.size i _ (cells32 r i) [.int .u32 (s:Nat)] rfl HOW.out rfl rfl (one32 s) (by omega) (by omega) HB.out.size ?_;intro v' w' hown' hgr hat;have HO2:=Kh (own_push hown');have HB2:=Kh (own_below HB.out HOW.out hgr (Nat.le_refl _) HB.out.size);clear hown' hgr hat)
     go_roundw
     case rel=>exact⟨i+1,0,by omega,rfl,by go_num,by decide,⟨_,HO2.out,HLT2.out,HV2.out⟩,HB2.out⟩
     case measure=>simp[intOf];omega
  ·obtain rfl:i=n:=by omega
   have HF:=Kh (show vf r i=vf a i - vf b m by
    have h:=HVL.out
    rw[ext_vf b hmn]at h
    have hle:=HLE.out
    have h1:=vf_lt HLT.out
    rcases Nat.lt_or_ge 0 bw with h2|h2
    ·exfalso
     obtain rfl:bw=1:=by omega
     rw[Nat.mul_one]at h
     omega
    ·obtain rfl:bw=0:=by omega
     rw[Nat.mul_zero]at h
     omega)
   obtain⟨p9,c9,rfl,hd9⟩:=Dg.of_own HOW.out HLT.out
   have HD9:=Kh hd9
   clear hd9
   go_wp2
   go_ret
   exact⟨⟨p9,c9,_,rfl,HD9.out,HF.out⟩,HB.out⟩
end Go.Proofs.YtijgdhijdfgpfaaGreatDoor
