/- Contract of heilbronn.Merel for indices of at most 12: the list of matrices that the plain list says. -/
import Derived.Test.YtenlbhlllgppmaaGreatDoorK33
import Derived.Test.YtenlbhlllgppmaaGreatDoorK26
import Derived.Test.YtenlbhlllgppmaaGreatDoorK13
import Derived.Test.YtenlbhlllgppmaaGreatDoorK27
import Derived.Test.YtenlbhlllgppmaaGreatDoorK32
import Derived.Test.YtenlbhlllgppmaaGreatDoorK18
set_option linter.unusedSimpArgs false
set_option maxRecDepth 100000
set_option maxHeartbeats 8000000
namespace Go.Proofs.YtenlbhlllgppmaaGreatDoor
open Go.RowKit Eli
theorem flat_snoc4 {α:Type} (f:α→List Value) (l:List α) (x:α):(l++[x]).flatMap f=l.flatMap f++f x:=by simp
theorem len_snoc4 {α:Type} (l:List α) (x:α):(l++[x]).length=l.length+1:=by simp
theorem mr0_ge {n a:Nat} (ha:0<a):n≤a*mr0 n a:=by
 unfold mr0
 have h:=Nat.div_add_mod (n+a - 1) a
 have h2:=Nat.mod_lt (n+a - 1) ha
 omega
theorem mr0_le {n a:Nat} (hn:0<n) (ha:0<a):mr0 n a≤n:=by
 unfold mr0
 refine Nat.div_le_of_le_mul ?_
 have h1:a*1≤a*n:=Nat.mul_le_mul_left a hn
 have h2:1*n≤a*n:=Nat.mul_le_mul_right n ha
 rcases Nat.lt_or_ge 1 a with h|h
 ·obtain⟨k,rfl⟩:∃ k,a=k+1:=⟨a - 1,by omega⟩
  have h3:k*1≤k*n:=Nat.mul_le_mul_left k hn
  rw[Nat.succ_mul]
  omega
 ·obtain rfl:a=1:=by omega
  omega
theorem c_Merel (n:Nat) (w:World) (hn:0<n) (hn':n≤12):
  Calls Tryz.prog 52 #[.int .i64 n] w fun e w'=>(∃ v,e=.returned (.tuple #[v,.int .i64 0])∧w'.ownsRow w.heap.size 63 4 v (mr n n).length ((mr n n).flatMap mcells))∧Below w.heap.size w w':=by
 have h1:¬ (n:Int)<1:=by omega
 have h2:¬ (128:Int)<(n:Int):=by omega
 go_enter Tryz.func52,Tryz.ntmps52
 go_wp2
 clear h1 h2
 go_loopw [4,5] (fun v x wr=>∃ q:Nat,q≤n∧x=.int .i64 ((q+1:Nat):Int)∧wr.ownsRow w.heap.size 63 4 v (mr n q).length ((mr n q).flatMap mcells)∧Below w.heap.size w wr) (fun _ x _=>n+1 - (intOf x).toNat)
 case atStart=>exact⟨0,Nat.zero_le _,rfl,World.ownsRow_nil _ _ _ _,Below.refl _ _⟩
 case round=>
  obtain⟨q,hq,rfl,hown,hW⟩:=hrel
  obtain⟨wa,rfl⟩:∃ wa:World,wa=wr:=⟨_,rfl⟩
  have hlen:=mr_len hn q
  have hqb:q*(n+q*n)≤12*(12+12*12):=Nat.mul_le_mul (by omega) (Nat.add_le_add hn' (Nat.mul_le_mul (by omega) hn'))
  have hL2:(mr n (q+1))=(mr n q++mrR n (q+1))++mrB n (q+1) q:=rfl
  obtain⟨a,ha⟩:∃ a,q+1=a:=⟨_,rfl⟩
  rw[ha]at hL2 ⊢
  obtain⟨L,hL⟩:∃ L,mr n q=L:=⟨_,rfl⟩
  rw[hL]at hlen hown hL2
  have HLL:=Kh hL2
  have HA:=Kh ha
  have HOW:=Kh hown
  have HWA:=Kh hW
  have hll:L.length≤2000:=by omega
  have ha0:0<a:=by omega
  have ha1:a≤13:=by omega
  have HLN:=Kh (show q=n→L=mr n n from fun h=>by rw[← hL,h])
  clear hlen hqb hL2 hown hW hL
  by_cases hle:a≤n
  ·have hai:(a:Int)≤(n:Int):=by omega
   clear ha
   go_upto_if 23 with(fail)
   obtain⟨R,hR⟩:∃ R,mrR n a=R:=⟨_,rfl⟩
   have hRl:R.length≤12:=by have:=mrR_len n a;rw[hR]at this;omega
   have HR:=Kh hR
   clear hR
   go_cut [4]from 23 to 39 (fun v wx=>wx.ownsRow w.heap.size 63 4 v (L++R).length ((L++R).flatMap mcells)∧Below w.heap.size w wx)
   case first=>
    by_cases hd:n % a=0
    ·have hdi:((n:Int) % (a:Int)==0)=true:=by rw[← Int.natCast_emod,hd];rfl
     obtain⟨d,hdd⟩:∃ d,n / a=d:=⟨_,rfl⟩
     have hdv:(n:Int) / (a:Int)=(d:Int):=by rw[← hdd];exact(Int.natCast_ediv _ _).symm
     have hdn:d≤12:=by rw[← hdd];exact Nat.le_trans (Nat.div_le_self _ _) hn'
     have HRE:=Kh (show R=mrA n a d by rw[← HR.out,← hdd];unfold mrR;rw[if_pos hd])
     have HMA:=Kh (show ∀ k,mrA n a (k+1)=mrA n a k++[((a:Int),(0:Int),(k:Int),(d:Int))]from fun k=>by rw[mrA_succ,hdd])
     have HM0:=Kh (show mrA n a 0=[]from rfl)
     clear hd hdd
     rw[hdi]
     clear hdi
     go_wp2
     go_loopw [4,6] (fun v x wr=>∃ j:Nat,j≤d∧x=.int .i64 j∧wr.ownsRow w.heap.size 63 4 v (L++mrA n a j).length ((L++mrA n a j).flatMap mcells)∧Below w.heap.size w wr) (fun _ x _=>d - (intOf x).toNat)
     case atStart=>exact⟨0,Nat.zero_le _,rfl,by rw[HM0.out,List.append_nil];exact HOW.out,HWA.out⟩
     case round=>
      obtain⟨j,hj,rfl,ho,hw⟩:=hrel
      obtain⟨wb,rfl⟩:∃ wb:World,wb=wr:=⟨_,rfl⟩
      have hsr:=hw.size
      have hMl:(L++mrA n a j).length≤2012:=by rw[List.length_append,mrA_len];omega
      by_cases hjd:j<d
      ·have hji:(j:Int)<(d:Int):=by omega
       have hsn:L++mrA n a (j+1)=(L++mrA n a j)++[((a:Int),(0:Int),(j:Int),(d:Int))]:=by rw[HMA.out,List.append_assoc]
       have HSN:=Kh hsn
       obtain⟨M,hM⟩:∃ M,L++mrA n a j=M:=⟨_,rfl⟩
       rw[hM]at ho hMl HSN
       have HTr:=Kh ho
       have HWr:=Kh hw
       clear hsn ho hw hM
       go_wp2_with (at_builtin;refine wpl_app1 rfl (.tmp 31) (.tmp 38) _ 63 rfl Tryz.underlying113 m4Info rfl (by decide) w.heap.size M.length _ (M.flatMap mcells) (mcells ((a:Int),(0:Int),(j:Int),(d:Int))) rfl HTr.out rfl rfl (mcells_one _) (by omega) (by omega) hsr ?_;intro v2 w2 hown2 hgr2 hat2;have HS2:=Kh (And.intro (show w2.ownsRow w.heap.size 63 4 v2 (M++[((a:Int),(0:Int),(j:Int),(d:Int))]).length ((M++[((a:Int),(0:Int),(j:Int),(d:Int))]).flatMap mcells)by rw[flat_snoc4,len_snoc4];exact hown2) (own_below HWr.out HTr.out hgr2 (Nat.le_refl _) hsr));clear hown2 hgr2 hat2)
       go_roundw
       case rel=>exact⟨j+1,by omega,by go_num,by rw[HSN.out];exact HS2.out.1,HS2.out.2⟩
       case measure=>simp[intOf];omega
      ·obtain rfl:d=j:=by omega
       have HTr:=Kh ho
       have HWr:=Kh hw
       clear ho hw
       go_wp2
       go_meet
       rw[HRE.out]
       exact⟨HTr.out,HWr.out⟩
    ·have hdi:((n:Int) % (a:Int)==0)=false:=by rw[← Int.natCast_emod,beq_eq_false_iff_ne];omega
     have HRE:=Kh (show R=[]by rw[← HR.out];unfold mrR;rw[if_neg hd])
     clear hd
     go_wp2
     go_meet
     rw[HRE.out,List.append_nil]
     exact⟨HOW.out,HWA.out⟩
   case rest=>
   obtain⟨ho2,hw2⟩:=hcut
   obtain⟨wb,rfl⟩:∃ wb:World,wb=wc:=⟨_,rfl⟩
   obtain⟨L2,hL2⟩:∃ L2,L++R=L2:=⟨_,rfl⟩
   rw[hL2]at ho2
   have hl2:L2.length≤2012:=by rw[← hL2,List.length_append];omega
   have HL2:=Kh hL2
   have HO2:=Kh ho2
   have HW2:=Kh hw2
   clear ho2 hw2 hL2 HOW HWA
   go_wp2
   go_loopw [4,7] (fun v x wr=>∃ k:Nat,k+1≤a∧x=.int .i64 ((k+1:Nat):Int)∧wr.ownsRow w.heap.size 63 4 v (L2++mrB n a k).length ((L2++mrB n a k).flatMap mcells)∧Below w.heap.size w wr) (fun _ x _=>a - (intOf x).toNat)
   case atStart=>exact⟨0,by omega,rfl,by rw[show mrB n a 0=[]from rfl,List.append_nil];exact HO2.out,HW2.out⟩
   case round=>
    obtain⟨k,hk,rfl,ho,hw⟩:=hrel
    obtain⟨wd,rfl⟩:∃ wd:World,wd=wr:=⟨_,rfl⟩
    have hBl:=mrB_len (a:=a) hn k (by omega)
    have hkn:k*n≤13*12:=Nat.mul_le_mul (by omega) hn'
    obtain⟨b,hb⟩:∃ b,k+1=b:=⟨_,rfl⟩
    rw[hb]at hk ⊢
    have HB:=Kh hb
    have HBS:=Kh (show mrB n a b=mrB n a k++mrD n a b (mr0 n a) (mrN n a b)by rw[← hb];rfl)
    obtain⟨M,hM⟩:∃ M,L2++mrB n a k=M:=⟨_,rfl⟩
    have hMl:M.length≤2200:=by rw[← hM,List.length_append];omega
    have HM:=Kh hM
    rw[hM]at ho
    have HTr:=Kh ho
    have HWr:=Kh hw
    have hb0:0<b:=by omega
    clear hM ho hw hBl hkn hb HO2 HW2
    by_cases hlt:b<a
    ·have hbi:(b:Int)<(a:Int):=by omega
     obtain⟨m0,hm0⟩:∃ m0,mr0 n a=m0:=⟨_,rfl⟩
     have hmle:m0≤12:=by rw[← hm0];exact Nat.le_trans (mr0_le hn ha0) hn'
     have hge:n≤a*m0:=by rw[← hm0];exact mr0_ge ha0
     obtain⟨s,hs⟩:∃ s:Nat,n+a=s:=⟨_,rfl⟩
     obtain⟨s1,hs1⟩:∃ s1:Nat,s=s1+1:=⟨s - 1,by omega⟩
     have x1:IntKind.i64.wrap ((n:Int)+(a:Int))=(s:Int):=by rw[show(n:Int)+(a:Int)=(s:Int)by omega];exact IntWalk.i64_in _ (by omega)
     have x2:IntKind.i64.wrap ((s:Int) - 1)=(s1:Int):=by rw[show(s:Int) - 1=(s1:Int)by omega];exact IntWalk.i64_in _ (by omega)
     have x3:(s1:Int) / (a:Int)=(m0:Int):=by rw[← hm0];unfold mr0;rw[show n+a - 1=s1 by omega];exact(Int.natCast_ediv _ _).symm
     obtain⟨e,he⟩:∃ e:Nat,a - b=e:=⟨_,rfl⟩
     have x4:IntKind.i64.wrap ((a:Int) - (b:Int))=(e:Int):=by rw[show(a:Int) - (b:Int)=(e:Int)by omega];exact IntWalk.i64_in _ (by omega)
     obtain⟨K,hK⟩:∃ K,mrN n a b=K:=⟨_,rfl⟩
     have hKn:K≤12:=by rw[← hK];exact Nat.le_trans (mrN_le hn hlt) hn'
     have HKL:=Kh (show ∀ t,t<K↔(m0+t)*e<n from fun t=>by rw[← hK,← hm0,← he];exact mrN_lt hn hlt)
     rw[hm0,hK]at HBS
     have he12:e≤13:=by omega
     clear hm0 hs hs1 he hK
     go_wp2
     clear x1 x2 x3
     go_loopw [4,8] (fun v x wr=>∃ t:Nat,t≤K∧x=.int .i64 ((m0+t:Nat):Int)∧wr.ownsRow w.heap.size 63 4 v (M++mrD n a b m0 t).length ((M++mrD n a b m0 t).flatMap mcells)∧Below w.heap.size w wr) (fun _ x _=>m0+K - (intOf x).toNat)
     case atStart=>exact⟨0,Nat.zero_le _,rfl,by rw[show mrD n a b m0 0=[]from rfl,List.append_nil];exact HTr.out,HWr.out⟩
     case round=>
      obtain⟨t,ht,rfl,ho,hw⟩:=hrel
      obtain⟨wx,rfl⟩:∃ wx:World,wx=wr:=⟨_,rfl⟩
      have hsr:=hw.size
      have hDl:=mrD_len n a b m0 t
      have hst:=HKL.out t
      have hcd:mrD n a b m0 (t+1)=if(a*(m0+t) - n) % b=0 then mrD n a b m0 t++[((a:Int),(b:Int),(((a*(m0+t) - n) / b:Nat):Int),((m0+t:Nat):Int))]else mrD n a b m0 t:=rfl
      obtain⟨d,hd⟩:∃ d,m0+t=d:=⟨_,rfl⟩
      rw[hd]at hst hcd ⊢
      have hdb:d≤24:=by omega
      obtain⟨p,hp⟩:∃ p:Nat,d*e=p:=⟨_,rfl⟩
      have hpb:p≤24*13:=by rw[← hp];exact Nat.mul_le_mul hdb he12
      have y1:IntKind.i64.wrap ((d:Int)*(e:Int))=(p:Int):=by rw[show(d:Int)*(e:Int)=(p:Int)by rw[← hp];push_cast;rfl];exact IntWalk.i64_in _ (by omega)
      rw[hp]at hst
      obtain⟨M2,hM2⟩:∃ M2,M++mrD n a b m0 t=M2:=⟨_,rfl⟩
      rw[hM2]at ho
      have hM2l:M2.length≤2300:=by rw[← hM2,List.length_append];omega
      have HT2:=Kh ho
      have HW2:=Kh hw
      have HM2:=Kh hM2
      have HCD:=Kh hcd
      have HD:=Kh hd
      clear ho hw hM2 hcd hDl hp HTr HWr
      by_cases htK:t<K
      ·have hpi:(p:Int)<(n:Int):=by have:=hst.1 htK;omega
       obtain⟨P,hP⟩:∃ P:Nat,a*d=P:=⟨_,rfl⟩
       have hPn:n≤P:=by rw[← hP,← hd];exact Nat.le_trans hge (Nat.mul_le_mul_left _ (by omega))
       have hPb:P≤13*24:=by rw[← hP];exact Nat.mul_le_mul ha1 hdb
       have y2:IntKind.i64.wrap ((a:Int)*(d:Int))=(P:Int):=by rw[show(a:Int)*(d:Int)=(P:Int)by rw[← hP];push_cast;rfl];exact IntWalk.i64_in _ (by omega)
       obtain⟨r,hr⟩:∃ r:Nat,P - n=r:=⟨_,rfl⟩
       have y3:IntKind.i64.wrap ((P:Int) - (n:Int))=(r:Int):=by rw[show(P:Int) - (n:Int)=(r:Int)by omega];exact IntWalk.i64_in _ (by omega)
       rw[hP,hr]at HCD
       by_cases hrb:r % b=0
       ·have y4:((r:Int) % (b:Int)==0)=true:=by rw[← Int.natCast_emod,hrb];rfl
        obtain⟨c,hc⟩:∃ c:Nat,r / b=c:=⟨_,rfl⟩
        have y5:(r:Int) / (b:Int)=(c:Int):=by rw[← hc];exact(Int.natCast_ediv _ _).symm
        have hcb:c≤13*24:=by rw[← hc];exact Nat.le_trans (Nat.div_le_self _ _) (by omega)
        have HST:=Kh (show M++mrD n a b m0 (t+1)=M2++[((a:Int),(b:Int),(c:Int),(d:Int))]by rw[HCD.out,if_pos hrb,← HM2.out,hc,List.append_assoc])
        clear hrb hc hP hr hst hd
        go_wp2_with (at_builtin;refine wpl_app1 rfl (.tmp 68) (.tmp 80) _ 63 rfl Tryz.underlying113 m4Info rfl (by decide) w.heap.size M2.length _ (M2.flatMap mcells) (mcells ((a:Int),(b:Int),(c:Int),(d:Int))) rfl HT2.out rfl rfl (mcells_one _) (by omega) (by omega) hsr ?_;intro v2 w2 hown2 hgr2 hat2;have HS2:=Kh (And.intro (show w2.ownsRow w.heap.size 63 4 v2 (M2++[((a:Int),(b:Int),(c:Int),(d:Int))]).length ((M2++[((a:Int),(b:Int),(c:Int),(d:Int))]).flatMap mcells)by rw[flat_snoc4,len_snoc4];exact hown2) (own_below HW2.out HT2.out hgr2 (Nat.le_refl _) hsr));clear hown2 hgr2 hat2)
        go_roundw
        case rel=>exact⟨t+1,by omega,by have:=HD.out;go_num,by rw[HST.out];exact HS2.out.1,HS2.out.2⟩
        case measure=>have:=HD.out;simp[intOf];omega
       ·have y4:((r:Int) % (b:Int)==0)=false:=by rw[← Int.natCast_emod,beq_eq_false_iff_ne];omega
        have HST:=Kh (show M++mrD n a b m0 (t+1)=M2 by rw[HCD.out,if_neg hrb,HM2.out])
        clear hrb hP hr hst hd
        go_wp2
        go_roundw
        case rel=>exact⟨t+1,by omega,by have:=HD.out;go_num,by rw[HST.out];exact HT2.out,HW2.out⟩
        case measure=>have:=HD.out;simp[intOf];omega
      ·have hpi:¬ (p:Int)<(n:Int):=fun h=>htK (hst.2 (by omega))
       obtain rfl:K=t:=by omega
       have HST:=Kh (show L2++mrB n a b=M2 by rw[HBS.out,← HM2.out,← HM.out,List.append_assoc])
       clear hst hd htK
       go_wp2
       go_roundw
       case rel=>exact⟨b,by omega,by go_num,by rw[HST.out];exact HT2.out,HW2.out⟩
       case measure=>simp[intOf];omega
    ·obtain rfl:a=b:=by omega
     have hbi:¬ (a:Int)<(a:Int):=by omega
     have HST:=Kh (show mr n (q+1)=M by
      have h3:q=k:=by have:=HA.out;have:=HB.out;omega
      rw[HA.out,HLL.out,HR.out,HL2.out,← HM.out,h3])
     clear hlt
     go_wp2
     go_roundw
     case rel=>exact⟨q+1,by have:=HA.out;omega,by have:=HA.out;go_num,by rw[HST.out];exact HTr.out,HWr.out⟩
     case measure=>have:=HA.out;simp[intOf];omega
  ·have hqn:q=n:=by omega
   have hai:¬ (a:Int)≤(n:Int):=by omega
   have HE:=Kh (HLN.out hqn)
   clear ha hqn
   go_wp2
   go_ret2
   exact⟨⟨_,rfl,by rw[← HE.out];exact HOW.out⟩,HWA.out⟩
def RowV (f:Nat→Rat) (N:Nat) (w:World) (v:Value):Prop:=(∃ p c,v=.slice p N c)∧QL (fun q=>IsQ (f q)) w v N
theorem RowV.keep {f:Nat→Rat} {N:Nat} {w w':World} {v:Value} (h:RowV f N w v) (hb:Below w.heap.size w w'):RowV f N w' v:=⟨h.1,h.2.keep (fun _=>IsQ.solid _) hb⟩
theorem RowV.congr {f g:Nat→Rat} {N:Nat} {w:World} {v:Value} (h:RowV f N w v) (he:∀ q,q<N→g q=f q):RowV g N w v:=by
 refine⟨h.1,?_⟩
 rcases h.2 with h1 |⟨b,o,cap,e,hb,hq⟩
 ·exact .inl h1
 ·exact .inr ⟨b,o,cap,e,hb,fun j hj=>by
   show QE (IsQ (g j)) w b (o+j*4)
   rw[he j hj];exact hq j hj⟩
theorem RowV.but {f:Nat→Rat} {N:Nat} {w w':World} {v:Value} {R:Nat} (h:RowV f N w v) (hs:Stk SliceV w R) (hg:w.grownBy w' (some R)) (h32:I32 w w'):RowV f N w' v:=by
 refine⟨h.1,?_⟩
 rcases h.2 with h1 |⟨b,o,cap,e,hb,hq⟩
 ·exact .inl h1
 ·refine .inr ⟨b,o,cap,e,Nat.lt_of_lt_of_le hb hg.size,fun j hj=>?_⟩
  have h2:=hq j hj
  have hne:b≠R:=fun e1=>by
   obtain⟨s,p,n,c,t,q,m,d,h0,_⟩:=h2
   rw[e1]at h0
   obtain⟨p',n',c',h3⟩:=hs.2 _ _ h0
   cases h3
  exact h2.butR h32 hg hne
theorem RowV.grown {f:Nat→Rat} {N:Nat} {w w':World} {v:Value} {o:Option Nat} (h:RowV f N w v) (hs:∀ R,o=some R→Stk SliceV w R) (hg:w.grownBy w' o) (h32:I32 w w'):RowV f N w' v:=by
 refine⟨h.1,?_⟩
 rcases h.2 with h1 |⟨b,o',cap,e,hb,hq⟩
 ·exact .inl h1
 ·refine .inr ⟨b,o',cap,e,Nat.lt_of_lt_of_le hb hg.size,fun j hj=>?_⟩
  obtain⟨s,p,n,c,t,q,m,d,h0,e1,e2,e3,h4⟩:=hq j hj
  have hne:some b≠o:=fun e1=>by
   obtain⟨p',n',c',h3⟩:=(hs b e1.symm).2 _ _ h0
   cases h3
  exact⟨s,p,n,c,t,q,m,d,hg.cell h0 hne,hg.cell e1 hne,hg.cell e2 hne,hg.cell e3 hne,h4.i32 h32⟩
def GridL (l:List (Nat→Rat)) (N:Nat) (w:World) (v:Value):Prop:=
 (l=[]∧∃ p c,v=.slice p 0 c)∨∃ g o cap,v=.slice (some ⟨g,o,none⟩) l.length cap∧g<w.heap.size∧Stk SliceV w g∧∀ (j:Nat) x,l[j]?=some x→∃ vr,w.cell? ⟨g,o+j,none⟩=some vr∧RowV x N w vr
theorem Stk.keep {K:Value→Prop} {w w':World} {g:Nat} (h:Stk K w g) (hb:Below w.heap.size w w'):Stk K w' g:=⟨Nat.lt_of_lt_of_le h.1 hb.size,fun i v hv=>h.2 i v ((hb.cell (p:=⟨g,i,none⟩) h.1).symm.trans hv)⟩
theorem GridL.keep {l:List (Nat→Rat)} {N:Nat} {w w':World} {v:Value} (h:GridL l N w v) (hb:Below w.heap.size w w'):GridL l N w' v:=by
 rcases h with h |⟨g,o,cap,e,hg,hs,hx⟩
 ·exact .inl h
 ·refine .inr ⟨g,o,cap,e,Nat.lt_of_lt_of_le hg hb.size,hs.keep hb,fun j x hj=>?_⟩
  obtain⟨vr,h1,h2⟩:=hx j x hj
  exact⟨vr,(hb.cell (p:=⟨g,o+j,none⟩) hg).trans h1,h2.keep hb⟩
theorem GridL.val {l:List (Nat→Rat)} {N:Nat} {w:World} {v:Value} (h:GridL l N w v):∃ p c,v=.slice p l.length c:=by
 rcases h with⟨rfl,h⟩ |⟨g,o,cap,e,_⟩
 ·exact h
 ·exact⟨_,_,e⟩
def OwnG (l:List (Nat→Rat)) (N:Nat) (w:World) (B:Nat) (v:Value):Prop:=∃ xs,OwnK SliceV w B 30 1 v l.length xs∧∀ (j:Nat) x,l[j]?=some x→∃ vr,xs[j]?=some vr∧RowV x N w vr
theorem OwnG.nil (N:Nat) (w:World) (B:Nat):OwnG [] N w B (.slice none 0 0):=⟨[],OwnK.nil _ _ _ _ _,fun j x hx=>by simp at hx⟩
theorem OwnG.keep {l:List (Nat→Rat)} {N:Nat} {w w':World} {B:Nat} {v:Value} (h:OwnG l N w B v) (hb:Below w.heap.size w w'):OwnG l N w' B v:=by
 obtain⟨xs,h1,h2⟩:=h
 exact⟨xs,h1.keep hb,fun j x hx=>by obtain⟨vr,e,hr⟩:=h2 j x hx;exact⟨vr,e,hr.keep hb⟩⟩
theorem I32.grownS {w w':World} {B E sz n:Nat} {v:Value} {xs:List Value} (h:OwnK SliceV w B E sz v n xs) (hg:w.grownBy w' v.ownBlock):I32 w w':=I32.grown (K:=SliceV) (fun _ hx=>by obtain⟨p,n,c,e⟩:=hx;cases e) h.2 hg
theorem OwnG.push {l:List (Nat→Rat)} {N:Nat} {W w':World} {B:Nat} {v v':Value} {xs:List Value} (h1:OwnK SliceV W B 30 1 v l.length xs) (h2:∀ (j:Nat) x,l[j]?=some x→∃ vr,xs[j]?=some vr∧RowV x N W vr)
  {f:Nat→Rat} {vf:Value} (hf:RowV f N W vf) (h3:OwnK SliceV w' B 30 1 v' (l.length+1) (xs++[vf])) (hg:W.grownBy w' v.ownBlock):OwnG (l++[f]) N w' B v':=by
 have h32:=I32.grownS h1 hg
 have hl:xs.length=l.length:=by have:=h1.1.1;omega
 have hR:∀ (x:Nat→Rat) vr,RowV x N W vr→RowV x N w' vr:=fun x vr h=>h.grown (fun R e=>h1.2 R e) hg h32
 refine⟨xs++[vf],by rw[List.length_append];exact h3,fun j x hx=>?_⟩
 by_cases hj:j<l.length
 ·rw[List.getElem?_append_left hj]at hx
  obtain⟨vr,e,hr⟩:=h2 j x hx
  exact⟨vr,app_left e,hR _ _ hr⟩
 ·rw[List.getElem?_append_right (by omega)]at hx
  have hj2:j=l.length:=by
   rcases Nat.eq_zero_or_pos (j - l.length)with h|h
   ·omega
   ·rw[List.getElem?_eq_none (by rw[List.length_singleton];omega)]at hx;cases hx
  subst hj2
  rw[Nat.sub_self]at hx
  injection hx with hx
  subst hx
  exact⟨vf,by rw[List.getElem?_append_right (by omega),hl,Nat.sub_self];rfl,hR _ _ hf⟩
structure GRow (l:List (Nat→Rat)) (N:Nat) (w:World) (g:Nat):Prop where
 stk:Stk SliceV w g
 free:∀ i,w.frozen? ⟨g,i,none⟩=false
 val:∀ (j:Nat) x,l[j]?=some x→∃ vr,w.cell? ⟨g,j,none⟩=some vr∧RowV x N w vr
theorem OwnG.row {l:List (Nat→Rat)} {N:Nat} {w:World} {B:Nat} {v:Value} (h:OwnG l N w B v):(l=[]∧v=.slice none 0 0)∨∃ g cap,v=.slice (some ⟨g,0,none⟩) l.length cap∧l.length≤cap∧cap≤9223372036854775807∧B≤g∧g<w.heap.size∧GRow l N w g:=by
 obtain⟨xs,h1,h2⟩:=h
 rcases h1.1.2 with⟨e1,e2⟩ |⟨g,cap,cs,e1,hB,hg,hn,hcm,hcs,_⟩
 ·exact .inl ⟨List.eq_nil_of_length_eq_zero e2,e1⟩
 ·right
  have hs:=h1.2 g (by rw[e1];rfl)
  subst e1
  refine⟨g,cap,rfl,hn,by simp only[maxLen]at hcm;omega,hB,hs.1,⟨hs,fun i=>Blk.free_ hg i,fun j x hx=>?_⟩⟩
  obtain⟨vr,e,hr⟩:=h2 j x hx
  exact⟨vr,own_read h1.1 e,hr⟩
theorem OwnG.gl {l:List (Nat→Rat)} {N:Nat} {w:World} {B:Nat} {v:Value} (h:OwnG l N w B v):GridL l N w v:=by
 rcases h.row with⟨rfl,rfl⟩ |⟨g,cap,rfl,_,_,_,h3,h4⟩
 ·exact .inl ⟨rfl,_,_,rfl⟩
 ·exact .inr ⟨g,0,cap,rfl,h3,h4.stk,fun j x hx=>by rw[Nat.zero_add];exact h4.val j x hx⟩
theorem own_set1 {w:World} {B E g n cap i:Nat} {xs:List Value} (h:w.ownsRow B E 1 (.slice (some ⟨g,0,none⟩) n cap) n xs) (u:Value):(w.setCell ⟨g,i,none⟩ u).ownsRow B E 1 (.slice (some ⟨g,0,none⟩) n cap) n (xs.set i u):=by
 obtain⟨e0,h⟩:=h
 rcases h with⟨h1,_⟩ |⟨g',cap',cur,e1,hB,hg,hn,hc,hs,ht⟩
 ·cases h1
 ·cases e1
  refine⟨by rw[List.length_set];exact e0,.inr ⟨g,cap,cur.setIfInBounds i u,rfl,hB,?_,hn,hc,by rw[Array.size_setIfInBounds];exact hs,?_⟩⟩
  ·simp[World.setCell,Array.getElem?_modify,hg]
  ·rw[Array.toList_setIfInBounds,List.take_set,ht]
theorem OwnG.set {l:List (Nat→Rat)} {N:Nat} {w:World} {B i:Nat} {f:Nat→Rat} {g cap:Nat} {p:Option Addr} {c:Nat} (h:OwnG l N w B (.slice (some ⟨g,0,none⟩) l.length cap)) (hi:i<l.length) (hf:RowV f N w (.slice p N c)):
  OwnG (l.set i f) N (w.setCell ⟨g,i,none⟩ (.slice p N c)) B (.slice (some ⟨g,0,none⟩) l.length cap):=by
 obtain⟨xs,h1,h2⟩:=h
 have hl:xs.length=l.length:=by have:=h1.1.1;omega
 have hstk:=h1.2 g rfl
 have hg:=but_put w g i (.slice p N c)
 have h32:I32 w (w.setCell ⟨g,i,none⟩ (.slice p N c)):=I32.putU (hstk.imp fun _=>SliceV.notU32) i _
 refine⟨xs.set i (.slice p N c),?_,fun j x hx=>?_⟩
 ·rw[List.length_set]
  refine⟨own_set1 h1.1 _,fun g' e=>?_⟩
  have e2:g=g':=by simpa [Value.ownBlock] using e
  subst e2
  exact stk_put hstk _ _ ⟨_,_,_,rfl⟩
 ·by_cases hj:j=i
  ·subst hj
   rw[List.getElem?_set_self hi]at hx
   injection hx with hx
   subst hx
   exact⟨_,List.getElem?_set_self (by omega),hf.but hstk hg h32⟩
  ·rw[List.getElem?_set_ne (fun e=>hj e.symm)]at hx
   obtain⟨vr,e,hr⟩:=h2 j x hx
   exact⟨vr,by rw[List.getElem?_set_ne (fun e=>hj e.symm)];exact e,hr.but hstk hg h32⟩
theorem run_appN {P:Program} (K:Value→Prop) (W:World) (t ty E:TypeId) {z:Value} {sz bytes:Nat} (hU:P.underlying t=some (.slice E))
  (hinfo:(P.info? E).map (fun i=>(i.zero,i.size,i.bytes))=some (some z,sz,bytes)) (hzs:z.cells.size=sz) (hsz:0<sz) (B n m g c:Nat) (v:Value) (xs news:List Value)
  (hown:OwnK K W B E sz v n xs) (hn:news.length=m*sz) (hcell:∀ (j:Nat) (u:Value),news[j]?=some u→W.cell? ⟨g,j,none⟩=some u) (h1:∀ u∈news,u.oneCell'=true)
  (hb:(n+m)*bytes≤140737488355328) (hm:n+m≤9223372036854775807) (hB:B≤W.heap.size) (hKn:∀ u∈news,K u) (hKz:∀ u∈z.cells.toList,K u):
  ∃ v' w',(Builtin.append_ #[t,t] ty #[v,.slice (some ⟨g,0,none⟩) m c]).run P W=.ok v' w'∧OwnK K w' B E sz v' (n+m) (xs++news)∧W.grownBy w' v.ownBlock:=by
 obtain⟨i0,hi,hz0,hz1,hz2⟩:=info_parts hinfo
 rcases Nat.eq_zero_or_pos m with rfl|hm0
 ·obtain rfl:news=[]:=List.eq_nil_of_length_eq_zero (by rw[hn,Nat.zero_mul])
  have hsrc:Src P i0.size t (.slice (some ⟨g,0,none⟩) 0 c) 0 [] W:=Src.ofSlice W hU _ 0 c [] (by simp) (fun j u h=>by simp at h) (fun u h=>by cases h)
  obtain⟨a,k,hv,hle⟩:∃ a k,v=.slice a n k∧n≤k:=by
   rcases own_shape hown.1 with⟨rfl,rfl,_⟩ |⟨g',cap,rfl,_,_,hc⟩
   ·exact⟨none,0,rfl,Nat.le_refl _⟩
   ·exact⟨_,cap,rfl,hc⟩
  have hr:=run_append_nothing (P:=P) W t t ty E i0 hU hi a n k hle (.slice (some ⟨g,0,none⟩) 0 c) hsrc
  rw[← hv]at hr
  exact⟨v,W,hr,by rw[List.append_nil,Nat.add_zero];exact hown,⟨rfl,rfl,rfl,Nat.le_refl _,fun _ _ _=>rfl⟩⟩
 ·have hcell2:∀ (j:Nat) (u:Value),news[j]?=some u→W.cell? ((⟨g,0,none⟩:Addr).add j)=some u:=by
   intro j u hu
   have e:(⟨g,0,none⟩:Addr).add j=⟨g,j,none⟩:=by
    unfold Addr.add;split
    ·rename_i h0;rw[h0]
    ·simp
   rw[e]
   exact hcell j u hu
  obtain⟨v',w',hr,g1,g2,_,_⟩:=run_append_own_at (P:=P) W B t ty E i0 z sz bytes hU hi hz0 hz1 hz2 hzs hsz v n xs hown.1 ⟨g,0,none⟩ m c news hn hcell2 h1 hm hb hB
  have g4:=append_stk K W B t ty E i0 z sz bytes hU hi hz0 hz1 hz2 hzs hsz v n xs hown.1 ⟨g,0,none⟩ m c news hn hcell2 h1 hm hb hm0 hown.2 hKn hKz hr
  exact⟨v',w',hr,⟨g1,g4⟩,g2⟩
theorem step_appN {P:Program} {W:World} {ops:Array Oper} {o:Oper} {a:Act} {K':Act→World→Prop} {Q:Exit→Act→World→Prop} {E':Prop} (K:Value→Prop) (hgd:o.guard=none) (s x:Operand) (t E:TypeId)
  (ho:o.op=.call { callee:=.builtin .append,args:=#[s,x],argTypes:=#[t,t] }) {z:Value} {sz bytes:Nat} (hU:P.underlying t=some (.slice E))
  (hinfo:(P.info? E).map (fun i=>(i.zero,i.size,i.bytes))=some (some z,sz,bytes)) (hzs:z.cells.size=sz) (hsz:0<sz) (B n m g c:Nat) (v:Value) (xs news:List Value)
  (hs:a.eval s=v) (hown:OwnK K W B E sz v n xs) (hx:a.eval x=.slice (some ⟨g,0,none⟩) m c) (hn:news.length=m*sz) (hcell:∀ (j:Nat) (u:Value),news[j]?=some u→W.cell? ⟨g,j,none⟩=some u) (h1:∀ u∈news,u.oneCell'=true)
  (hb:(n+m)*bytes≤140737488355328) (hm:n+m≤9223372036854775807) (hB:B≤W.heap.size) (hKn:∀ u∈news,K u) (hKz:∀ u∈z.cells.toList,K u)
  (h:∀ v' w',OwnK K w' B E sz v' (n+m) (xs++news)→W.grownBy w' v.ownBlock→K' (a.put o.dst v') w'):
  if Region.wanted o (yielded ops a.tmps)=true then Oper.wp P o a W K' Q else E':=by
 have hw:Region.wanted o (yielded ops a.tmps)=true:=by simp[Region.wanted,hgd]
 rw[if_pos hw]
 obtain⟨v',w',hr,g1,g2⟩:=run_appN (P:=P) K W t o.type E hU hinfo hzs hsz B n m g c v xs news hown hn hcell h1 hb hm hB hKn hKz
 unfold Oper.wp execOp
 simp only[ho,resolve,invoke,builtin,Sem.run_bind,Sem.run_pure,Result.andThen_ok,List.map_toArray,List.map_cons,List.map_nil,hs,hx,hr]
 exact h v' w' g1 g2
theorem QRow.cellOf {F:Nat→FP} {w:World} {g N:Nat} (h:QRow F w g N N) {i:Nat} (hi:i<N*4):w.cell? ⟨g,i,none⟩=some (cellOf w ⟨g,i,none⟩):=by
 obtain⟨u,hu⟩:=Option.isSome_iff_exists.1 (h.has i hi)
 rw[hu,cellOf_eq hu]
theorem QRow.shape {F:Nat→FP} {w:World} {g N:Nat} (h:QRow F w g N N) {u:Value} (hu:u∈rowCells w g (N*4)):(∃ s,u=.bool s)∨∃ p n c,u=.slice p n c:=by
 obtain⟨i,hj⟩:=List.getElem?_of_mem hu
 have hi:=rowCells_lt hj
 rw[rowCells_get hi]at hj
 injection hj with hj
 subst hj
 obtain⟨s,p,n,c,t,q,m,d,e0,e1,e2,e3,_⟩:=h.val (i / 4) (by omega)
 rcases(by omega:i % 4=0∨i % 4=1∨i % 4=2∨i % 4=3)with h4|h4|h4|h4
 ·rw[show i / 4*4=i by omega]at e0
  exact .inl ⟨s,cellOf_eq e0⟩
 ·rw[show i / 4*4+1=i by omega]at e1
  exact .inr ⟨p,n,c,cellOf_eq e1⟩
 ·rw[show i / 4*4+2=i by omega]at e2
  exact .inl ⟨t,cellOf_eq e2⟩
 ·rw[show i / 4*4+3=i by omega]at e3
  exact .inr ⟨q,m,d,cellOf_eq e3⟩
theorem QRow.one {F:Nat→FP} {w:World} {g N:Nat} (h:QRow F w g N N):∀ u∈rowCells w g (N*4),u.oneCell'=true:=by
 intro u hu
 rcases h.shape hu with⟨s,rfl⟩ |⟨p,n,c,rfl⟩ <;> rfl
theorem QRow.ni {F:Nat→FP} {w:World} {g N:Nat} (h:QRow F w g N N):∀ u∈rowCells w g (N*4),NotInt u:=by
 intro u hu
 rcases h.shape hu with⟨s,rfl⟩ |⟨p,n,c,rfl⟩
 ·exact NotInt.bool _
 ·exact NotInt.slice _ _ _
theorem QRow.cells {F:Nat→FP} {w:World} {g N:Nat} (h:QRow F w g N N):∀ (j:Nat) (u:Value),(rowCells w g (N*4))[j]?=some u→w.cell? ⟨g,j,none⟩=some u:=by
 intro j u hj
 have hl:=rowCells_lt hj
 rw[rowCells_get hl]at hj
 rw[h.cellOf hl,hj]
theorem OwnQ.more {F R:Nat→FP} (hF:∀ j,Solid (F j)) {W w':World} {B n m g:Nat} {v v':Value} {xs:List Value} (h1:OwnK NotInt W B 86 4 v n xs) (h2:∀ j,j<n→QX (F j) W xs (j*4))
  (hr:QRow R W g m m) (h3:OwnK NotInt w' B 86 4 v' (n+m) (xs++rowCells W g (m*4))) (hg:W.grownBy w' v.ownBlock) (e2:∀ j,j<m→F (n+j)=R j):OwnQ F w' B v' (n+m):=by
 have h32:=I32.grown (K:=NotInt) (fun x=>not_int32 x) h1.2 hg
 refine⟨_,h3,fun j hj=>?_⟩
 by_cases hjn:j<n
 ·exact((h2 j hjn).i32 (hF j) h32).app
 ·obtain⟨k,rfl⟩:∃ k,j=n+k:=⟨j - n,by omega⟩
  have hk:k<m:=by omega
  have hl:xs.length=n*4:=h1.1.1
  obtain⟨s,p,c,d,t,q,e,f,c0,c1,c2,c3,hz⟩:=hr.val k hk
  rw[← e2 k hk]at hz
  refine⟨s,p,c,d,t,q,e,f,?_,?_,?_,?_,hF _ _ _ _ _ _ _ _ _ _ _ h32 hz⟩
  ·rw[List.getElem?_append_right (by omega),hl,show(n+k)*4 - n*4=k*4 by omega,rowCells_get (by omega),cellOf_eq c0]
  ·rw[List.getElem?_append_right (by omega),hl,show(n+k)*4+1 - n*4=k*4+1 by omega,rowCells_get (by omega),cellOf_eq c1]
  ·rw[List.getElem?_append_right (by omega),hl,show(n+k)*4+2 - n*4=k*4+2 by omega,rowCells_get (by omega),cellOf_eq c2]
  ·rw[List.getElem?_append_right (by omega),hl,show(n+k)*4+3 - n*4=k*4+3 by omega,rowCells_get (by omega),cellOf_eq c3]
structure MatAt (F:Nat→FP) (w:World) (go B R C m:Nat):Prop where
 lt:go<B
 hB:B≤w.heap.size
 c0:w.cell? ⟨go,0,none⟩=some (.int .i64 (R:Int))
 c1:w.cell? ⟨go,1,none⟩=some (.int .i64 (C:Int))
 c2:∃ p c,w.cell? ⟨go,2,none⟩=some (.slice p m c)∧OwnQ F w B (.slice p m c) m
 fr:w.frozen? ⟨go,2,none⟩=false
 stk:Stk NotU32 w go
theorem MatAt.keep {F:Nat→FP} (hF:∀ j,Solid (F j)) {w w':World} {go B R C m:Nat} (h:MatAt F w go B R C m) (hb:Below w.heap.size w w'):MatAt F w' go B R C m:=by
 obtain⟨p,c,e2,h2⟩:=h.c2
 exact⟨h.lt,Nat.le_trans h.hB hb.size,cell_next hb h.c0,cell_next hb h.c1,⟨p,c,cell_next hb e2,h2.keep hF hb⟩,frozen_keep hb (by rw[e2];rfl) h.fr,h.stk.next hb⟩
theorem OwnQ.box {F:Nat→FP} (hF:∀ j,Solid (F j)) {w w':World} {B n G:Nat} {v:Value} (h:OwnQ F w B v n) (h32:I32 w w') (hg:w.grownBy w' (some G)) (hG:G<B):OwnQ F w' B v n:=by
 obtain⟨xs,h1,h2⟩:=h
 have hne:∀ g,v.ownBlock=some g→some g≠some G:=fun g e e2=>by
  have:=own_ge h1.1 e.symm
  injection e2 with e2;omega
 refine⟨xs,⟨h1.1.kept hg ?_,fun g e=>?_⟩,fun j hj=>(h2 j hj).i32 (hF j) h32⟩
 ·cases hv:v.ownBlock with
  | none=>exact .inl rfl
  | some g=>exact .inr (hne g hv)
 ·have hs:=h1.2 g e
  have hb:=hg.block g hs.1 (hne g e)
  exact⟨Nat.lt_of_lt_of_le hs.1 hg.size,fun i u hu=>hs.2 i u ((World.cell?_of_block (a:=⟨g,i,none⟩) hb).symm.trans hu)⟩
theorem MatAt.more {F:Nat→FP} (hF:∀ j,Solid (F j)) {W w':World} {go B R C m n:Nat} {xs:List Value} {p:Option Addr} {c:Nat} {p':Option Addr} {c':Nat} (h:MatAt F W go B R C m) (hv:W.cell? ⟨go,2,none⟩=some (.slice p m c)) (h1:W.ownsRow B 86 4 (.slice p m c) m xs) (hO:OwnQ F w' B (.slice p' n c') n) (hg:W.grownBy w' (Value.slice p m c).ownBlock):
  w'.cell? ⟨go,2,none⟩=some (.slice p m c)∧w'.frozen? ⟨go,2,none⟩=false∧MatAt F (w'.setCell ⟨go,2,none⟩ (.slice p' n c')) go B R C n:=by
 have hne:some go≠(Value.slice p m c).ownBlock:=fun e=>by
  have:=own_ge h1 e
  have:=h.lt
  omega
 have hgo:go<W.heap.size:=Nat.lt_of_lt_of_le h.lt h.hB
 have hblk:=hg.block go hgo (fun e=>hne e)
 have d2:w'.cell? ⟨go,2,none⟩=some (.slice p m c):=(World.cell?_of_block (a:=⟨go,2,none⟩) hblk).trans hv
 have df:w'.frozen? ⟨go,2,none⟩=false:=(World.frozen?_of_block (a:=⟨go,2,none⟩) hblk).trans h.fr
 have hst:Stk NotU32 w' go:=⟨Nat.lt_of_lt_of_le hgo hg.size,fun i u hu=>h.stk.2 i u ((World.cell?_of_block (a:=⟨go,i,none⟩) hblk).symm.trans hu)⟩
 refine⟨d2,df,h.lt,by simpa using Nat.le_trans h.hB hg.size,?_,?_,⟨p',c',World.cell?_setCell_same' _ _ _ (by rw[d2];rfl),hO.box hF (I32.putU hst 2 _) (but_put w' go 2 _) h.lt⟩,frozen_set df,stk_put hst _ _ (fun _ h=>by cases h)⟩
 ·rw[World.cell?_setCell_other _ _ _ _ (by simp)];exact(World.cell?_of_block (a:=⟨go,0,none⟩) hblk).trans h.c0
 ·rw[World.cell?_setCell_other _ _ _ _ (by simp)];exact(World.cell?_of_block (a:=⟨go,1,none⟩) hblk).trans h.c1
end Go.Proofs.YtenlbhlllgppmaaGreatDoor
namespace Go.Proofs.YtenlbhlllgppmaaGreatDoor
open Go.RowKit
def IsS (x y:Int):FP:=fun w s p n c t q m d=>Zs w s p n c x∧Zs w t q m d y∧n≤1000∧m≤1000
theorem IsS.solid (x y:Int):Solid (IsS x y):=fun _ _ _ _ _ _ _ _ _ _ h hq=>⟨hq.1.i32 h,hq.2.1.i32 h,hq.2.2⟩
end Go.Proofs.YtenlbhlllgppmaaGreatDoor
namespace Go.Proofs.YtenlbhlllgppmaaGreatDoor
open Go.RowKit Eli
theorem OwnQ.base {F:Nat→FP} {w:World} {B B' n:Nat} {v:Value} (h:OwnQ F w B v n) (hB:B'≤B):OwnQ F w B' v n:=by
 obtain⟨xs,h1,h2⟩:=h
 refine⟨xs,⟨⟨h1.1.1,?_⟩,h1.2⟩,h2⟩
 rcases h1.1.2 with h |⟨g',cap,cs,e,hB',hr⟩
 ·exact .inl h
 ·exact .inr ⟨g',cap,cs,e,Nat.le_trans hB hB',hr⟩
theorem OwnQ.imp {F G:Nat→FP} {w:World} {B n:Nat} {v:Value} (h:OwnQ F w B v n) (hi:∀ j,j<n→∀ s p k c t q m d,F j w s p k c t q m d→G j w s p k c t q m d):OwnQ G w B v n:=by
 obtain⟨xs,h1,h2⟩:=h
 refine⟨xs,h1,fun j hj=>?_⟩
 obtain⟨s,p,k,c,t,q,m,d,e0,e1,e2,e3,hf⟩:=h2 j hj
 exact⟨s,p,k,c,t,q,m,d,e0,e1,e2,e3,hi j hj _ _ _ _ _ _ _ _ hf⟩
theorem ql_value {F:Nat→FP} {w:World} {v:Value} {n:Nat} (h:QL F w v n):∃ p c,v=.slice p n c:=by
 rcases h with⟨rfl,a,c,e⟩ |⟨g,o,cap,e,_⟩
 ·exact⟨a,c,e⟩
 ·exact⟨_,cap,e⟩
end Go.Proofs.YtenlbhlllgppmaaGreatDoor
