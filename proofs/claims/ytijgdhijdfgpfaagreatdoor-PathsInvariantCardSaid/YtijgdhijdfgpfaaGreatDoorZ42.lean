/- contfrac in general: Path, slices.Reverse of cusps. -/
import Derived.Test.YtijgdhijdfgpfaaGreatDoorZ41
import Derived.Test.YtijgdhijdfgpfaaGreatDoorZ38
import Derived.Test.YtijgdhijdfgpfaaGreatDoorZ13
set_option linter.unusedSimpArgs false
set_option maxRecDepth 100000
set_option maxHeartbeats 8000000
namespace Go.Proofs.YtijgdhijdfgpfaaGreatDoor
open Go.RowKit
theorem OwnI.at_ {l:List Int} {w:World} {B:Nat} {v:Value} (h:OwnI l w B v) (h0:0<l.length):∃ g cap,v=.slice (some ⟨g,0,none⟩) l.length cap∧g<w.heap.size∧∀ (i:Nat) (n:Int),l[i]?=some n→w.cell? ⟨g,i,none⟩=some (.int .i64 n):=by
 obtain⟨g,cap,e,_,_,_,hlt,_,hc⟩:=own_at h h0
 exact⟨g,cap,e,hlt,fun i n hi=>hc i _ (by rw[List.getElem?_map,hi];rfl)⟩
theorem cusps_two:∀ (l:List (Int×Int)),∀ u∈cusps l,NotU32 u∧u.oneCell'=true
 | [],u,h=>by cases h
 | x :: l,u,h=>by
  unfold cusps at h
  rw[List.flatMap_cons]at h
  rcases List.mem_append.1 h with h|h
  ·simp at h
   rcases h with rfl|rfl <;> exact⟨int_i64 _,rfl⟩
  ·exact cusps_two l u h
theorem c_Path (p q:Int) (w:World) (h:cuspE p q=0):
  Calls Tryz.prog 83 #[.agg #[.int .i64 p,.int .i64 q]] w fun e w'=>(∃ v,e=.returned (.tuple #[v,.int .i64 0])∧OwnC (pthL (p,q)) w' w.heap.size v)∧Below w.heap.size w w':=by
 by_cases hq0:q=0
 ·subst hq0
  obtain rfl:p=1:=(cusp_ok (x:=(p,0)) h).2.2.2 rfl
  have e:pthL ((1:Int),(0:Int))=[(1,0)]:=by unfold pthL;rw[if_pos rfl]
  rw[e]
  exact c_Path10 w
 ·obtain⟨k1,k2,k3,k4,k5⟩:=cf_ok (x:=(p,q)) h hq0
  dsimp only at k1 k2 k3
  have ep:pthL (p,q)=[(1,0)]++cvL (0,1) (1,0) (cfW p q):=by unfold pthL;rw[if_neg hq0];rfl
  rw[ep]
  have HEX:=Kh (fun W=>c_Expand p q W h hq0)
  have HCO:=Kh (fun g cap W hg hc=>c_Convergents (cfW p q) g cap W k1.2 (by omega) hg hc k2 (fun c hc=>(k3 c hc).1))
  have hcl:=cvL_length (cfW p q) (0,1) (1,0)
  obtain⟨L,hL⟩:∃ L,cfW p q=L:=⟨_,rfl⟩
  obtain⟨C,hC⟩:∃ C,cvL (0,1) (1,0) L=C:=⟨_,rfl⟩
  rw[hL]at k1 HEX HCO hcl ⊢
  rw[hC]at HCO hcl ⊢
  have HK:=Kh (show 0<L.length∧L.length≤61∧C.length=L.length from⟨k1.2,k1.1,hcl⟩)
  clear k1 k2 k3 k4 k5 hL hC hcl ep h hq0
  go_enter Tryz.func83,Tryz.ntmps83
  go_wp2_with fail
  obtain⟨w2,hw2,_,XB,hb2⟩:=bx2 w #[.int .i64 p,.int .i64 q] 24 #[.int .i64 1,.int .i64 0] 24
  rw[hw2]
  refine(HEX.out w2).mono ?_
  rintro e w3 ⟨⟨v,rfl,hown⟩,hb3⟩
  obtain⟨g,cap,rfl,hlt,hcell⟩:=hown.at_ HK.out.1
  have HC:=Kh (HCO.out g cap w3 hlt hcell)
  have HO:=Kh (own_lit (B:=w.heap.size) (XB.below_ hb3 XB.lt) (by omega))
  have HB:=Kh (hb2.trans (hb3.mono hb2.size))
  clear hw2 XB hb2 hb3 hown hcell hlt
  go_wp2_with fail
  refine HC.out.mono ?_
  rintro e w4 ⟨⟨v4,rfl,hown4⟩,hb4⟩
  obtain⟨g4,cap4,rfl,_,_,_,_,_,hcell4⟩:=own_at hown4 (by have:=HK.out;omega)
  have HC4:=Kh (show ∀ (j:Nat) u,(cusps C)[j]?=some u→w4.cell? ⟨g4,j,none⟩=some u from hcell4)
  have HO4:=Kh (HO.out.keep hb4)
  have HB4:=bt HB hb4
  have hsz:=HB4.out.size
  clear hown4 hcell4 hb4 HO HB HC HCO HEX
  go_wp2_with (at_builtin;refine wpl_appN NotU32 rfl (.tmp 27) (.tmp 28) _ 24 rfl Tryz.underlying72 cuspInfo rfl (by decide) w.heap.size 1 C.length g4 cap4 _ [.int .i64 1,.int .i64 0] (cusps C) rfl HO4.out rfl (cusps_length C) HC4.out (fun u hu=>(cusps_two C u hu).2) (by have:=HK.out;omega) (by have:=HK.out;omega) (by have:=HK.out;omega) hsz (fun u hu=>(cusps_two C u hu).1) nz_cusp ?_;intro v5 w5 hown5 hgr5 hat5;have HO5:=Kh hown5;have HB5:=Kh (own_below HB4.out HO4.out.1 hgr5 (Nat.le_refl _) hsz);clear hown5 hgr5 hat5)
  (first|go_ret2|go_ret)
  have h5:OwnC ((1,0) :: C) w5 w.heap.size v5:=by
   unfold OwnC
   rw[List.length_cons,Nat.add_comm]
   exact HO5.out
  exact⟨⟨v5,rfl,h5⟩,HB5.out⟩
def CAt (w:World) (g o:Nat) (l:List (Int×Int)):Prop:=∀ (j:Nat) (c:Int×Int),l[j]?=some c→w.cell? ⟨g,o+j*2,none⟩=some (.int .i64 c.1)∧w.cell? ⟨g,o+j*2+1,none⟩=some (.int .i64 c.2)
def rv (l:List (Int×Int)) (i j:Nat):Option (Int×Int):=if j<i∨l.length≤i+j then l[l.length - 1 - j]? else l[j]?
theorem put_at {w:World} {g a:Nat} {u:Value} (h:(w.cell? ⟨g,a,none⟩).isSome=true):(w.setCell ⟨g,a,none⟩ u).cell? ⟨g,a,none⟩=some u:=World.cell?_setCell_same' _ _ _ h
theorem put_off {w:World} {g a b:Nat} {u:Value} (h:a≠b):(w.setCell ⟨g,a,none⟩ u).cell? ⟨g,b,none⟩=w.cell? ⟨g,b,none⟩:=World.cell?_setCell_other _ _ _ _ (by simp[h])
theorem put_some {w:World} {g a b:Nat} {u:Value} (ha:(w.cell? ⟨g,a,none⟩).isSome=true):((w.setCell ⟨g,a,none⟩ u).cell? ⟨g,b,none⟩).isSome=(w.cell? ⟨g,b,none⟩).isSome:=by
 by_cases h:a=b
 ·subst h;rw[put_at ha,ha];rfl
 ·rw[put_off h]
theorem c_Reverse (l:List (Int×Int)) (g o cap:Nat) (w:World) (hl:l.length≤1000) (h:CAt w g o l) (hf:∀ i,w.frozen? ⟨g,i,none⟩=false) (h0:0<l.length):
  Calls Tryz.prog 84 #[.slice (some ⟨g,o,none⟩) l.length cap] w fun e w'=>(∃ v,e=.returned v)∧CAt w' g o l.reverse∧(∀ i,w'.frozen? ⟨g,i,none⟩=false)∧w'.heap.size=w.heap.size∧(∀ i,i<o∨o+l.length*2≤i→w'.cell? ⟨g,i,none⟩=w.cell? ⟨g,i,none⟩)∧(∀ i,(w'.cell? ⟨g,i,none⟩).isSome=(w.cell? ⟨g,i,none⟩).isSome)∧(∀ B,B≤g→Below B w w')∧∀ b,b≠g→w'.heap[b]?=w.heap[b]?:=by
 obtain⟨N,hN⟩:∃ N,l.length=N:=⟨_,rfl⟩
 have HN:=Kh hN
 have HL:=Kh hl
 rw[hN]at hl h0
 rw[hN]
 have HA:=Kh h
 have HF:=Kh hf
 have hn1:IntKind.i64.wrap ((N:Int) - 1)=(N:Int) - 1:=IntWalk.i64_in _ (by omega)
 clear hN h hf
 go_enter Tryz.func84,Tryz.ntmps84
 go_wp2_with fail
 go_loopw [2,3] (fun vi vj wr=>∃ (i:Nat) (j:Int),vi=.int .i64 i∧vj=.int .i64 j∧j=(N:Int) - 1 - i∧Hid (2*i≤N+1∧(∀ (k:Nat) (c:Int×Int),k<N→rv l i k=some c→wr.cell? ⟨g,o+k*2,none⟩=some (.int .i64 c.1)∧wr.cell? ⟨g,o+k*2+1,none⟩=some (.int .i64 c.2))∧(∀ i,wr.frozen? ⟨g,i,none⟩=false)∧wr.heap.size=w.heap.size∧(∀ i,i<o∨o+N*2≤i→wr.cell? ⟨g,i,none⟩=w.cell? ⟨g,i,none⟩)∧(∀ i,(wr.cell? ⟨g,i,none⟩).isSome=(w.cell? ⟨g,i,none⟩).isSome)∧(∀ B,B≤g→Below B w wr)∧∀ b,b≠g→wr.heap[b]?=w.heap[b]?)) (fun _ j _=>(intOf j).toNat)
 case atStart=>
  refine⟨0,(N:Int) - 1,rfl,rfl,by omega,Kh ⟨by omega,fun k c hk hc=>?_,HF.out,rfl,fun _ _=>rfl,fun _=>rfl,fun B _=>Below.refl B w,fun _ _=>rfl⟩⟩
  have e:rv l 0 k=l[k]?:=by unfold rv;rw[if_neg (by have:=HN.out;omega)]
  rw[e]at hc
  exact HA.out k c hc
 case round=>
  obtain⟨i,j,rfl,rfl,hj,HI⟩:=hrel
  obtain⟨wi,rfl⟩:∃ wi:World,wi=wr:=⟨_,rfl⟩
  by_cases hlt:(i:Int)<j
  ·obtain⟨m,rfl⟩:∃ m:Nat,j=(m:Int):=⟨j.toNat,by omega⟩
   have hNm:N=i+m+1:=by omega
   have him:i<m:=by omega
   have hiN:i<N:=by omega
   have hmN:m<N:=by omega
   have hii:(i:Int)<(N:Int):=by omega
   have hmm:(m:Int)<(N:Int):=by omega
   have wr1:IntKind.i64.wrap ((m:Int) - 1)=(m:Int) - 1:=IntWalk.i64_in _ (by omega)
   obtain⟨⟨p1,q1⟩,hc1⟩:∃ c,l[i]?=some c:=⟨_,List.getElem?_eq_getElem (by have:=HN.out;omega)⟩
   obtain⟨⟨p2,q2⟩,hc2⟩:∃ c,l[m]?=some c:=⟨_,List.getElem?_eq_getElem (by have:=HN.out;omega)⟩
   have HC1:=Kh hc1
   have HC2:=Kh hc2
   obtain⟨x0,x1⟩:=HI.out.2.1 i (p1,q1) hiN (by unfold rv;rw[if_neg (by have:=HN.out;omega)];exact hc1)
   obtain⟨y0,y1⟩:=HI.out.2.1 m (p2,q2) hmN (by unfold rv;rw[if_neg (by have:=HN.out;omega)];exact hc2)
   dsimp only at x0 x1 y0 y1
   have f0:=HI.out.2.2.1 (o+i*2)
   have f1:=HI.out.2.2.1 (o+i*2+1)
   have f2:=HI.out.2.2.1 (o+m*2)
   have f3:=HI.out.2.2.1 (o+m*2+1)
   have HNM:=Kh hNm
   clear hc1 hc2 hj hNm
   go_upto_region 3 with(fail)
   go_region
   have s0:(wi.cell? ⟨g,o+i*2,none⟩).isSome=true:=by rw[x0];rfl
   have s1:(wi.cell? ⟨g,o+i*2+1,none⟩).isSome=true:=by rw[x1];rfl
   have s2:(wi.cell? ⟨g,o+m*2,none⟩).isSome=true:=by rw[y0];rfl
   have s3:(wi.cell? ⟨g,o+m*2+1,none⟩).isSome=true:=by rw[y1];rfl
   obtain⟨wa,hwa⟩:∃ x,wi.setCell ⟨g,o+i*2,none⟩ (.int .i64 p2)=x:=⟨_,rfl⟩
   obtain⟨wb,hwb⟩:∃ x,wa.setCell ⟨g,o+i*2+1,none⟩ (.int .i64 q2)=x:=⟨_,rfl⟩
   obtain⟨wc,hwc⟩:∃ x,wb.setCell ⟨g,o+m*2,none⟩ (.int .i64 p1)=x:=⟨_,rfl⟩
   obtain⟨wd,hwd⟩:∃ x,wc.setCell ⟨g,o+m*2+1,none⟩ (.int .i64 q1)=x:=⟨_,rfl⟩
   have hsm:∀ b,(wd.cell? ⟨g,b,none⟩).isSome=(wi.cell? ⟨g,b,none⟩).isSome∧(wc.cell? ⟨g,b,none⟩).isSome=(wi.cell? ⟨g,b,none⟩).isSome∧(wb.cell? ⟨g,b,none⟩).isSome=(wi.cell? ⟨g,b,none⟩).isSome∧(wa.cell? ⟨g,b,none⟩).isSome=(wi.cell? ⟨g,b,none⟩).isSome:=by
    have e1:∀ b,(wa.cell? ⟨g,b,none⟩).isSome=(wi.cell? ⟨g,b,none⟩).isSome:=fun b=>hwa▸put_some s0
    have e2:∀ b,(wb.cell? ⟨g,b,none⟩).isSome=(wi.cell? ⟨g,b,none⟩).isSome:=fun b=>hwb▸(put_some ((e1 _).trans s1)).trans (e1 b)
    have e3:∀ b,(wc.cell? ⟨g,b,none⟩).isSome=(wi.cell? ⟨g,b,none⟩).isSome:=fun b=>hwc▸(put_some ((e2 _).trans s2)).trans (e2 b)
    have e4:∀ b,(wd.cell? ⟨g,b,none⟩).isSome=(wi.cell? ⟨g,b,none⟩).isSome:=fun b=>hwd▸(put_some ((e3 _).trans s3)).trans (e3 b)
    exact fun b=>⟨e4 b,e3 b,e2 b,e1 b⟩
   have hoff:∀ b,b≠o+i*2→b≠o+i*2+1→b≠o+m*2→b≠o+m*2+1→wd.cell? ⟨g,b,none⟩=wi.cell? ⟨g,b,none⟩:=fun b n0 n1 n2 n3=>by
    rw[← hwd,put_off n3.symm,← hwc,put_off n2.symm,← hwb,put_off n1.symm,← hwa,put_off n0.symm]
   have hi0:wd.cell? ⟨g,o+i*2,none⟩=some (.int .i64 p2):=by rw[← hwd,put_off (by omega),← hwc,put_off (by omega),← hwb,put_off (by omega),← hwa,put_at s0]
   have hi1:wd.cell? ⟨g,o+i*2+1,none⟩=some (.int .i64 q2):=by rw[← hwd,put_off (by omega),← hwc,put_off (by omega),← hwb,put_at ((hsm _).2.2.2.trans s1)]
   have hm0:wd.cell? ⟨g,o+m*2,none⟩=some (.int .i64 p1):=by rw[← hwd,put_off (by omega),← hwc,put_at ((hsm _).2.2.1.trans s2)]
   have hm1:wd.cell? ⟨g,o+m*2+1,none⟩=some (.int .i64 q1):=by rw[← hwd,put_at ((hsm _).2.1.trans s3)]
   have hNm:=HNM.out
   have hln:=HN.out
   have HZ:=Kh (show 2*(i+1)≤N+1∧(∀ (k:Nat) (c:Int×Int),k<N→rv l (i+1) k=some c→wd.drew.cell? ⟨g,o+k*2,none⟩=some (.int .i64 c.1)∧wd.drew.cell? ⟨g,o+k*2+1,none⟩=some (.int .i64 c.2))∧(∀ i,wd.drew.frozen? ⟨g,i,none⟩=false)∧wd.drew.heap.size=w.heap.size∧(∀ i,i<o∨o+N*2≤i→wd.drew.cell? ⟨g,i,none⟩=w.cell? ⟨g,i,none⟩)∧(∀ i,(wd.drew.cell? ⟨g,i,none⟩).isSome=(w.cell? ⟨g,i,none⟩).isSome)∧(∀ B,B≤g→Below B w wd.drew)∧∀ b,b≠g→wd.drew.heap[b]?=w.heap[b]? from by
    refine⟨by omega,fun k c hk hc=>?_,fun b=>?_,?_,fun b hb=>?_,fun b=>(hsm b).1.trans (HI.out.2.2.2.2.2.1 b),fun B hB=>?_,fun b hb=>?_⟩
    ·show wd.cell? ⟨g,o+k*2,none⟩=_∧wd.cell? ⟨g,o+k*2+1,none⟩=_
     by_cases k1:k=i
     ·subst k1
      have e:rv l (k+1) k=l[m]?:=by unfold rv;rw[if_pos (by omega)];congr 1;omega
      rw[e,HC2.out]at hc
      obtain rfl:(p2,q2)=c:=by simpa using hc
      exact⟨hi0,hi1⟩
     ·by_cases k2:k=m
      ·subst k2
       have e:rv l (i+1) k=l[i]?:=by unfold rv;rw[if_pos (by omega)];congr 1;omega
       rw[e,HC1.out]at hc
       obtain rfl:(p1,q1)=c:=by simpa using hc
       exact⟨hm0,hm1⟩
      ·have e:rv l (i+1) k=rv l i k:=by
        unfold rv
        by_cases k3:k<i∨l.length≤i+k
        ·rw[if_pos k3,if_pos (by omega)]
        ·rw[if_neg k3,if_neg (by omega)]
       rw[e]at hc
       have h9:=HI.out.2.1 k c hk hc
       rw[hoff _ (by omega) (by omega) (by omega) (by omega),hoff _ (by omega) (by omega) (by omega) (by omega)]
       exact h9
    ·show wd.frozen? ⟨g,b,none⟩=false
     rw[← hwd,← hwc,← hwb,← hwa]
     simp only[World.frozen?_setCell]
     exact HI.out.2.2.1 b
    ·show wd.heap.size=_
     rw[← hwd,← hwc,← hwb,← hwa]
     simp
     exact HI.out.2.2.2.1
    ·show wd.cell? ⟨g,b,none⟩=_
     rw[hoff _ (by omega) (by omega) (by omega) (by omega)]
     exact HI.out.2.2.2.2.1 b hb
    ·have h9:=HI.out.2.2.2.2.2.2.1 B hB
     rw[← hwd,← hwc,← hwb,← hwa]
     exact((((h9.setCell (p:=⟨g,o+i*2,none⟩) hB _).setCell (p:=⟨g,o+i*2+1,none⟩) hB _).setCell (p:=⟨g,o+m*2,none⟩) hB _).setCell (p:=⟨g,o+m*2+1,none⟩) hB _).drew
    ·show wd.heap[b]?=_
     rw[← hwd,← hwc,← hwb,← hwa]
     exact(Below.heap_setCell _ ⟨g,o+m*2+1,none⟩ _ b hb).trans ((Below.heap_setCell _ ⟨g,o+m*2,none⟩ _ b hb).trans ((Below.heap_setCell _ ⟨g,o+i*2+1,none⟩ _ b hb).trans ((Below.heap_setCell _ ⟨g,o+i*2,none⟩ _ b hb).trans (HI.out.2.2.2.2.2.2.2 b hb)))))
   have hjm:(m:Int) - 1=(N:Int) - 1 - ((i+1:Nat):Int):=by omega
   have HJM:=Kh hjm
   rw[hwa,hwb,hwc,hwd]
   clear hwa hwb hwc hwd hsm hoff hi0 hi1 hm0 hm1 s0 s1 s2 s3 x0 x1 y0 y1 f0 f1 f2 f3 HI hNm hln hjm
   generalize wd.drew=we at HZ ⊢
   go_wp2
   go_roundw
   case rel=>exact⟨i+1,(m:Int) - 1,by go_num,rfl,HJM.out,HZ.out⟩
   case measure=>simp[intOf];omega
  ·have HZ:=Kh (show CAt wi g o l.reverse∧_ from⟨fun k c hc=>by
     have hk:k<N:=by have:=(List.getElem?_eq_some_iff.1 hc).1;rw[List.length_reverse,HN.out]at this;exact this
     refine HI.out.2.1 k c hk ?_
     rw[List.getElem?_reverse (by rw[HN.out];exact hk)]at hc
     have h1:=HI.out.1
     unfold rv
     by_cases h2:k<i∨l.length≤i+k
     ·rw[if_pos h2];exact hc
     ·rw[if_neg h2]
      have h3:l.length - 1 - k=k:=by have:=HN.out;omega
      rw[h3]at hc;exact hc,HI.out.2.2⟩)
   clear HI hj
   go_wp2
   go_end0
   exact⟨⟨_,rfl⟩,HZ.out⟩
theorem below_cells {B g:Nat} (hB:B≤g):∀ (vs:List Value) (o:Nat) (w:World),Below B w (w.setCells g o vs)
 | [],_,w=>Below.refl B w
 | v :: vs,o,w=>by
  have h1:Below B w (w.setCell ⟨g,o,none⟩ v):=(Below.refl B w).setCell (p:=⟨g,o,none⟩) hB v
  exact h1.trans (below_cells hB vs (o+1) _)
theorem wpl_appO {P:Program} {W:World} {ops:Array Oper} {rest:List Oper} {o:Oper} {a:Act} {Q:Exit→Act→World→Prop} (hgd:o.guard=none) (s x:Operand) (t E:TypeId)
  (ho:o.op=.call { callee:=.builtin .append,args:=#[s,x],argTypes:=#[t,t] }) {z:Value} {sz bytes:Nat} (hU:P.underlying t=some (.slice E))
  (hinfo:(P.info? E).map (fun i=>(i.zero,i.size,i.bytes))=some (some z,sz,bytes)) (B g of n cp g2 o2 m c2:Nat) (olds news:List Value)
  (hs:a.eval s=.slice (some ⟨g,of,none⟩) n cp) (hx:a.eval x=.slice (some ⟨g2,o2,none⟩) m c2) (hol:olds.length=n*sz) (holds:∀ (j:Nat) (u:Value),olds[j]?=some u→W.cell? ⟨g,of+j,none⟩=some u)
  (hsp:∀ j,j<cp*sz→(W.cell? ⟨g,of+j,none⟩).isSome=true) (hf:∀ i,W.frozen? ⟨g,i,none⟩=false) (hn:news.length=m*sz) (hnew:∀ (j:Nat) (u:Value),news[j]?=some u→W.cell? ⟨g2,o2+j,none⟩=some u) (h1:∀ u∈news,u.oneCell'=true)
  (hb:(n+m)*bytes≤140737488355328) (hm:n+m≤9223372036854775807) (hBg:B≤g) (hBs:B≤W.heap.size) (hg:g<W.heap.size)
  (h:∀ g' o' c' w',(∀ (j:Nat) (u:Value),(olds++news)[j]?=some u→w'.cell? ⟨g',o'+j,none⟩=some u)→g'<w'.heap.size→Below B W w'→wpList P ops Q rest (a.put o.dst (.slice (some ⟨g',o',none⟩) (n+m) c')) w'):
  wpList P ops Q (o :: rest) a W:=by
 obtain⟨i0,hi,hz0,hz1,hz2⟩:=info_parts hinfo
 have hadd:∀ (b k j:Nat),(⟨b,k,none⟩:Addr).add j=⟨b,k+j,none⟩:=fun b k j=>by
  unfold Addr.add
  split
  ·rename_i h0;rw[h0,Nat.add_zero]
  ·simp
 have hsrc:Src P i0.size t (.slice (some ⟨g2,o2,none⟩) m c2) m news W:=Src.ofSlice W hU ⟨g2,o2,none⟩ m c2 news (by rw[hz1];exact hn) (fun j u hj=>by rw[hadd];exact hnew j u hj) h1
 refine wpList_plain hgd fun K' hK'=>?_
 unfold Oper.wp execOp
 by_cases hroom:n+m≤cp
 ·have hbound:n*sz+news.length≤cp*sz:=by rw[hn,← Nat.add_mul];exact Nat.mul_le_mul_right _ hroom
  have hr:=run_append_room_src (P:=P) W t t o.type E i0 hU hi g of n cp (.slice (some ⟨g2,o2,none⟩) m c2) m news hsrc hroom (fun j hj=>by rw[hz1,Nat.add_assoc];exact hsp _ (by omega)) (fun j _=>hf _)
  rw[hz1]at hr
  simp only[ho,resolve,invoke,builtin,Sem.run_bind,Sem.run_pure,Result.andThen_ok,List.map_toArray,List.map_cons,List.map_nil,hs,hx,hr]
  refine hK' _ _ (h g of cp _ (fun j u hj=>?_) ?_ (below_cells hBg news _ W))
  ·rcases Nat.lt_or_ge j olds.length with hlt|hge
   ·rw[List.getElem?_append_left hlt]at hj
    rw[World.cell?_setCells_out g news (of+n*sz) W ⟨g,of+j,none⟩ (fun _ _=>.inl (by dsimp only;omega))]
    exact holds j u hj
   ·rw[List.getElem?_append_right hge]at hj
    obtain⟨hlt2,e⟩:=List.getElem?_eq_some_iff.1 hj
    have h3:=World.cell?_setCells_in g news (of+n*sz) W (fun j hj=>by rw[Nat.add_assoc];exact hsp _ (by omega)) (j - olds.length) hlt2
    rw[show of+n*sz+(j - olds.length)=of+j by omega]at h3
    rw[h3,e]
  ·exact Nat.lt_of_lt_of_le hg (below_cells hBg news _ W).size
 ·have hold:(Builtin.firstCells i0.size n (.slice (some ⟨g,of,none⟩) n cp)).run P W.drew=.ok olds.toArray W.drew:=run_firstCells_some W.drew i0.size n ⟨g,of,none⟩ n cp olds (by rw[hz1];exact hol) (fun j u hj=>by rw[hadd];exact holds j u hj)
  have hr:=run_append_grow_src (P:=P) W t t o.type E i0 z hU hi hz0 (some ⟨g,of,none⟩) n cp olds hold (.slice (some ⟨g2,o2,none⟩) m c2) m news hsrc (by omega) (by omega) (growslice_fits (by omega) (by rw[hz2];exact hb))
  simp only[ho,resolve,invoke,builtin,Sem.run_bind,Sem.run_pure,Result.andThen_ok,List.map_toArray,List.map_cons,List.map_nil,hs,hx,hr]
  refine hK' _ _ (h W.heap.size 0 _ _ (fun j u hj=>?_) ?_ ((Below.refl B W).drew.alloc (by simpa using hBs) _))
  ·have e1:=World.cell?_alloc_new W.drew (((olds++news).toArray++Builtin.zeroCells z.cells (grownCap W (n+m) cp E - (n+m)))) E j
   obtain⟨hlt,e⟩:=List.getElem?_eq_some_iff.1 hj
   rw[Nat.zero_add]
   refine e1.trans ?_
   rw[Array.getElem?_append_left (by simpa using hlt),List.getElem?_toArray]
   exact hj
  ·simp
theorem own_all {K:Value→Prop} {w:World} {B E sz n:Nat} {v:Value} {xs:List Value} (h:OwnK K w B E sz v n xs) (hn:0<n):∃ g cap,v=.slice (some ⟨g,0,none⟩) n cap∧n≤cap∧cap≤9223372036854775807∧B≤g∧g<w.heap.size∧(∀ i,w.frozen? ⟨g,i,none⟩=false)∧(∀ (j:Nat) u,xs[j]?=some u→w.cell? ⟨g,j,none⟩=some u)∧∀ j,j<cap*sz→(w.cell? ⟨g,j,none⟩).isSome=true:=by
 rcases h.1.2 with⟨_,e2⟩ |⟨g,cap,cs,e1,hB,hg,hc,hcm,hcs,_⟩
 ·omega
 ·have hs:=h.2 g (by rw[e1];rfl)
  subst e1
  exact⟨g,cap,rfl,hc,by simp only[maxLen]at hcm;omega,hB,hs.1,fun i=>Blk.free_ hg i,fun j u hu=>own_read h.1 hu,fun j hj=>by rw[Blk.cell_ hg j,Array.getElem?_eq_getElem (by omega)];rfl⟩
theorem ret_len {a:Option Addr} {n m c:Nat} (h:n=m):Ending.returned (.tuple #[.slice a n c,.int .i64 0])=Ending.returned (.tuple #[.slice a m c,.int .i64 0]):=by rw[h]
theorem cusps_cat {w:World} {g o:Nat}:∀ (l:List (Int×Int)),(∀ (j:Nat) (u:Value),(cusps l)[j]?=some u→w.cell? ⟨g,o+j,none⟩=some u)↔CAt w g o l:=by
 intro l
 constructor
 ·intro h j c hc
  have h1:=cusps_get l j c hc
  exact⟨h _ _ h1.1,by rw[Nat.add_assoc];exact h _ _ h1.2⟩
 ·intro h j u hu
  have hlt:=(List.getElem?_eq_some_iff.1 hu).1
  rw[cusps_length]at hlt
  have hd:j / 2<l.length:=by omega
  obtain⟨c,hc⟩:∃ c,l[j / 2]?=some c:=⟨_,List.getElem?_eq_getElem hd⟩
  have h1:=h _ _ hc
  have h2:=cusps_get l _ c hc
  rcases Nat.mod_two_eq_zero_or_one j with hm|hm
  ·have e:j / 2*2=j:=by omega
   rw[e]at h1 h2
   rw[h2.1]at hu
   rw[← hu];exact h1.1
  ·have e:j / 2*2+1=j:=by omega
   have e2:o+j / 2*2+1=o+j:=by omega
   rw[e]at h2
   rw[e2]at h1
   rw[h2.2]at hu
   rw[← hu];exact h1.2
theorem CAt.keep {w w':World} {g o:Nat} {l:List (Int×Int)} (h:CAt w g o l) (hg:g<w.heap.size) (hb:Below w.heap.size w w'):CAt w' g o l:=fun j c hc=>⟨(hb.cell (p:=⟨g,o+j*2,none⟩) hg).trans (h j c hc).1,(hb.cell (p:=⟨g,o+j*2+1,none⟩) hg).trans (h j c hc).2⟩
theorem CAt.drop {w:World} {g o:Nat} {l:List (Int×Int)} (h:CAt w g o l) (d:Nat):CAt w g (o+d*2) (l.drop d):=fun j c hc=>by
 rw[List.getElem?_drop]at hc
 have h1:=h _ _ hc
 rw[show o+(d+j)*2=o+d*2+j*2 by omega]at h1
 exact h1
theorem c_Chain (p q p' q':Int) (w:World) (ha:cuspE p q=0) (hb:cuspE p' q'=0):
  Calls Tryz.prog 46 #[.agg #[.int .i64 p,.int .i64 q],.agg #[.int .i64 p',.int .i64 q']] w fun e w'=>(∃ ch g o cap,e=.returned (.tuple #[.slice (some ⟨g,o,none⟩) ch.length cap,.int .i64 0])∧g<w'.heap.size∧CAt w' g o ch∧ChainOk (p,q) (p',q') ch)∧Below w.heap.size w w':=by
 have HPA:=Kh (fun W=>c_Path p q W ha)
 have HPB:=Kh (fun W=>c_Path p' q' W hb)
 have HJ:=Kh (fun c hc h1 h2 he=>joined (a:=(p,q)) (b:=(p',q')) ha hb (c:=c) hc h1 h2 he)
 have ka:=(pth_ok (x:=(p,q)) ha).1
 have kb:=(pth_ok (x:=(p',q')) hb).1
 obtain⟨ra,hra⟩:∃ r,pthL (p,q)=(1,0) :: r:=⟨_,rfl⟩
 obtain⟨rb,hrb⟩:∃ r,pthL (p',q')=(1,0) :: r:=⟨_,rfl⟩
 obtain⟨A,hA⟩:∃ A,pthL (p,q)=A:=⟨_,rfl⟩
 obtain⟨B,hB⟩:∃ B,pthL (p',q')=B:=⟨_,rfl⟩
 rw[hA]at HPA HJ ka hra
 rw[hB]at HPB HJ kb hrb
 have HAB:=Kh (show A[0]?=B[0]? by rw[hra,hrb];rfl)
 obtain⟨na,hna⟩:∃ n,A.length=n:=⟨_,rfl⟩
 obtain⟨nb,hnb⟩:∃ n,B.length=n:=⟨_,rfl⟩
 rw[hna]at ka HJ
 rw[hnb]at kb HJ
 have hna0:0<na:=by rw[← hna,hra];simp
 have hnb0:0<nb:=by rw[← hnb,hrb];simp
 have HNA:=Kh hna
 have HNB:=Kh hnb
 have HK:=Kh (show na≤62∧nb≤62∧0<na∧0<nb from⟨ka,kb,hna0,hnb0⟩)
 clear ha hb hra hrb hA hB hna hnb ka kb hna0 hnb0 ra rb
 go_enter Tryz.func46,Tryz.ntmps46
 go_wp2_with fail
 obtain⟨w0,hw0,_,XB,hb0⟩:=bx2 w #[.int .i64 p,.int .i64 q] 24 #[.int .i64 p',.int .i64 q'] 24
 rw[hw0]
 refine(HPA.out w0).mono ?_
 rintro e w1 ⟨⟨v1,rfl,hown1⟩,hb1⟩
 have XB1:=XB.below_ hb1 XB.lt
 have x0:=XB1.at_ 0 rfl
 have x1:=XB1.at_ 1 rfl
 obtain⟨g,cap,rfl,hn1,hn2,hg0,hg1,hf1,hc1,hs1⟩:=own_all hown1 (by rw[HNA.out];exact HK.out.2.2.1)
 rw[HNA.out]at hn1 ⊢
 have HC1:=Kh ((cusps_cat A (o:=0)).1 (by simpa using hc1))
 have HF1:=Kh hf1
 have HS1:=Kh hs1
 have HG:=Kh (show w.heap.size≤g from Nat.le_trans hb0.size hg0)
 have HG1:=Kh hg1
 have HB1:=Kh (hb0.trans (hb1.mono hb0.size))
 have HCP:=Kh (show na≤cap∧cap≤9223372036854775807 from⟨hn1,hn2⟩)
 clear hw0 XB hb0 hb1 XB1 hown1 hf1 hc1 hs1 hg0 hg1 hn1 hn2
 go_wp2_with fail
 refine(HPB.out w1).mono ?_
 rintro e w2 ⟨⟨v2,rfl,hown2⟩,hb2⟩
 obtain⟨g2,cap2,rfl,hm1,hm2,hg2,hg3,_,hc2,_⟩:=own_all hown2 (by rw[HNB.out];exact HK.out.2.2.2)
 rw[HNB.out]at hm1 ⊢
 have HGG:=Kh (show g<g2 from Nat.lt_of_lt_of_le HG1.out hg2)
 have HC2:=Kh ((cusps_cat B (o:=0)).1 (by simpa using hc2))
 have HCA:=Kh (HC1.out.keep HG1.out hb2)
 have HFA:=Kh (show ∀ i,w2.frozen? ⟨g,i,none⟩=false from fun i=>(World.frozen?_of_block (a:=⟨g,i,none⟩) (hb2.block g HG1.out)).trans (HF1.out i))
 have HSA:=Kh (show ∀ j,j<cap*2→(w2.cell? ⟨g,j,none⟩).isSome=true from fun j hj=>by rw[hb2.cell (p:=⟨g,j,none⟩) HG1.out];exact HS1.out j hj)
 have HB2:=bt HB1 hb2
 have HGL:=Kh (Nat.lt_of_lt_of_le HG1.out hb2.size)
 have HGL2:=Kh hg3
 have HCQ:=Kh (show nb≤cap2∧cap2≤9223372036854775807 from⟨hm1,hm2⟩)
 clear x0 x1 hown2 hb2 hc2 HC1 HF1 HS1 HB1 HG1 hg2 hg3 hm1 hm2 HPA HPB
 go_wp2_with fail
 go_loopw [9] (fun ii wr=>∃ c:Nat,ii=.int .i64 c∧Below w2.heap.size w2 wr∧Hid (c≤na∧c≤nb∧∀ j,j<c→A[j]?=B[j]?)) (fun ii _=>na - (intOf ii).toNat)
 case atStart=>exact⟨0,rfl,Below.refl _ _,Kh ⟨by omega,by omega,fun j hj=>absurd hj (Nat.not_lt_zero _)⟩⟩
 case round=>
  obtain⟨c,rfl,hbm,HI⟩:=hrel
  obtain⟨w3,rfl⟩:∃ w3:World,w3=wr:=⟨_,rfl⟩
  have HBM:=Kh hbm
  clear hbm
  go_upto_region 8 with(fail)
  go_cut [43]from 26 to 44 (fun v43 wx=>∃ b:Bool,v43=.bool b∧Below w2.heap.size w2 wx∧(b=true→c<na∧c<nb∧A[c]?=B[c]?)∧(b=false→0<c))
  case first=>
   by_cases hlt:c<na∧c<nb
   ·obtain⟨h1,h2⟩:=hlt
    obtain⟨⟨a1,a2⟩,hea⟩:∃ x,A[c]?=some x:=⟨_,List.getElem?_eq_getElem (by have:=HNA.out;omega)⟩
    obtain⟨⟨b1,b2⟩,heb⟩:∃ x,B[c]?=some x:=⟨_,List.getElem?_eq_getElem (by have:=HNB.out;omega)⟩
    obtain⟨d0,d1⟩:=HCA.out c _ hea
    obtain⟨e0,e1⟩:=HC2.out c _ heb
    dsimp only at d0 d1 e0 e1
    rw[Nat.zero_add]at d0 d1 e0 e1
    replace d0:=cell_next HBM.out d0
    replace d1:=cell_next HBM.out d1
    replace e0:=cell_next HBM.out e0
    replace e1:=cell_next HBM.out e1
    have hi1:(c:Int)<(na:Int):=by omega
    have hi2:(c:Int)<(nb:Int):=by omega
    have hmn:(c:Int)<min (na:Int) (nb:Int):=by omega
    by_cases heq:a1=b1∧a2=b2
    ·obtain⟨rfl,rfl⟩:=heq
     have HEQ:=Kh (show A[c]?=B[c]? by rw[hea,heb])
     clear hea heb
     go_quiet (fail)
     go_wp2
     go_meet
     exact⟨true,rfl,below_drewN' HBM.out _,fun _=>⟨h1,h2,HEQ.out⟩,fun h=>by cases h⟩
    ·have HC0:=Kh (show 0<c by
      rcases Nat.eq_zero_or_pos c with h|h
      ·exfalso
       subst h
       have h9:=HAB.out
       rw[hea,heb]at h9
       exact heq (by simpa using h9)
      ·exact h)
     clear hea heb
     by_cases k1:a1=b1
     ·subst k1
      have k2:¬ a2=b2:=fun h=>heq ⟨rfl,h⟩
      have k3:(a2==b2)=false:=by rw[beq_eq_false_iff_ne];exact k2
      clear heq
      go_quiet (fail)
      go_wp2
      go_meet
      exact⟨false,rfl,below_drewN' HBM.out _,(fun h=>by cases h),fun _=>HC0.out⟩
     ·have k3:(a1==b1)=false:=by rw[beq_eq_false_iff_ne];exact k1
      clear heq
      go_quiet (fail)
      go_wp2
      go_meet
      exact⟨false,rfl,below_drewN' HBM.out _,(fun h=>by cases h),fun _=>HC0.out⟩
   ·have hmn:¬ ((c:Int)<min (na:Int) (nb:Int)):=by omega
    have hmd:decide ((c:Int)<min (na:Int) (nb:Int))=false:=decide_eq_false hmn
    refine rgB (fun _=>True) (fun _ _=>trivial) (fun _ hT=>?_)
    refine tkE 0 ?_;refine tkE 1 ?_;refine tkE 2 ?_;refine tkE 3 ?_;refine tkE 4 ?_;refine tkE 5 ?_;refine tkE 6 ?_;refine tkE 7 ?_
    refine tuE 8 ?_;refine tuE 9 ?_;refine tuE 10 ?_;refine tuE 11 ?_;refine tuE 12 ?_;refine tuE 13 ?_;refine tuE 14 ?_;refine tuE 15 ?_;refine tuE 16 ?_
    refine laE 17 rfl (fun K hK=>?_)
    go_simp
    refine hK.out _ _ ?_
    clear hK K
    (try simp only[Act.put,lsa,lsz,lss])
    go_wp2
    go_meet
    exact⟨false,rfl,HBM.out.drew,(fun h=>by cases h),fun _=>by have:=HK.out;have:=HI.out;omega⟩
  case rest=>
   obtain⟨b,rfl,hbw,hbt,hbf⟩:=hcut
   obtain⟨w4,rfl⟩:∃ w4:World,w4=wc:=⟨_,rfl⟩
   have HB4:=Kh hbw
   clear hbw HBM
   cases b with
   | true=>
    obtain⟨h1,h2,h3⟩:=hbt rfl
    have H3:=Kh h3
    have hna62:na≤62:=HK.out.1
    clear h3 hbt hbf
    go_wp2
    go_roundw
    case rel=>exact⟨c+1,by go_num,HB4.out,Kh ⟨by omega,by omega,fun j hj=>by
      rcases Nat.lt_or_ge j c with h|h
      ·exact HI.out.2.2 j h
      ·obtain rfl:j=c:=by omega
       exact H3.out⟩⟩
    case measure=>simp[intOf];omega
   | false=>
    have hc0:=hbf rfl
    obtain⟨d,rfl⟩:∃ d,c=d+1:=⟨c - 1,by omega⟩
    clear hbt hbf hc0
    have HOK:=Kh (HJ.out (d+1) (by omega) HI.out.1 HI.out.2.1 HI.out.2.2)
    have HDC:=Kh (show d+1≤na∧d+1≤nb from⟨HI.out.1,HI.out.2.1⟩)
    have e1:((d+1:Nat):Int) - 1=(d:Int):=by omega
    have e2:IntKind.i64.wrap (d:Int)=(d:Int):=IntWalk.i64_in _ (by have:=HDC.out;have:=HK.out;omega)
    have hcz:¬ (cap - d=0):=by have:=HDC.out;have:=HCP.out;omega
    have hlo:d≤na:=by have:=HDC.out;omega
    have hlc:na≤cap:=HCP.out.1
    clear HI HJ
    have hld:(A.drop d).length=na - d:=by rw[List.length_drop,HNA.out]
    have hf4:∀ i,w4.frozen? ⟨g,i,none⟩=false:=fun i=>(World.frozen?_of_block (a:=⟨g,i,none⟩) (HB4.out.block g HGL.out)).trans (HFA.out i)
    have HRV:=Kh (show Calls Tryz.prog 84 #[.slice (some ⟨g,d*2,none⟩) (na - d) (cap - d)] w4 _ from hld▸c_Reverse (A.drop d) g (d*2) (cap - d) w4 (by have:=HK.out;omega) (by have h:=(HCA.out.keep HGL.out HB4.out).drop d;rwa [Nat.zero_add]at h) hf4 (by have:=HDC.out;omega))
    have HLD:=Kh hld
    clear hld hf4
    go_wp2_with fail
    refine HRV.out.mono ?_
    rintro e w5 ⟨⟨v5,rfl⟩,r1,r2,r3,r4,r5,r6,r7⟩
    have HR1:=Kh r1
    have HR2:=Kh r2
    have HR5:=Kh (show ∀ j,j<(cap - d)*2→(w5.cell? ⟨g,d*2+j,none⟩).isSome=true from fun j hj=>by
     rw[r5,HB4.out.cell (p:=⟨g,d*2+j,none⟩) HGL.out]
     exact HSA.out _ (by omega))
    have HBB:=Kh (show CAt w5 g2 0 B from fun j c hc=>by
     have h:=(HC2.out.keep HGL2.out HB4.out) j c hc
     have hne:g2≠g:=by have:=HGG.out;omega
     exact⟨(World.cell?_of_block (a:=⟨g2,0+j*2,none⟩) (r7 g2 hne)).trans h.1,(World.cell?_of_block (a:=⟨g2,0+j*2+1,none⟩) (r7 g2 hne)).trans h.2⟩)
    have HB5:=Kh (show Below w.heap.size w w5 from(HB2.out.trans (HB4.out.mono HB2.out.size)).trans (r6 _ HG.out))
    have HG5:=Kh (show g<w5.heap.size by rw[r3];exact Nat.lt_of_lt_of_le HGL.out HB4.out.size)
    clear r1 r2 r3 r4 r5 r6 r7 HRV hcz hlo hlc e1 e2 HB4 HFA HSA HCA HC2
    by_cases hm:nb=d+1
    ·have HF:=Kh (show CAt w5 g (d*2) ((A.drop d).reverse++B.drop (d+1))by
      have h0:B.drop (d+1)=[]:=List.drop_eq_nil_of_le (by rw[HNB.out,hm];exact Nat.le_refl _)
      rw[h0,List.append_nil]
      exact HR1.out)
     have hle:na - d≤cap - d:=by have:=HCP.out;omega
     have hlen:((A.drop d).reverse++B.drop (d+1)).length=na - d:=by
      rw[List.length_append,List.length_reverse,HLD.out,List.length_drop,HNB.out,hm]
      omega
     have hmc:d+1≤cap2:=by have:=HCQ.out;omega
     have HLN:=Kh hlen
     subst hm
     clear hlen
     by_cases hcz:cap2 - (d+1)=0
     ·go_wp2_with (at_builtin;refine wpl_none rfl (.tmp 52) (.tmp 55) _ 24 rfl Tryz.underlying72 cuspInfo _ _ (na - d) (cap - d) _ hle rfl rfl ?_)
      (first|go_ret2|go_ret)
      exact⟨⟨(A.drop d).reverse++B.drop (d+1),g,d*2,cap - d,ret_len HLN.out.symm,HG5.out,HF.out,HOK.out⟩,HB5.out⟩
     ·go_wp2_with (at_builtin;refine wpl_none rfl (.tmp 52) (.tmp 55) _ 24 rfl Tryz.underlying72 cuspInfo _ _ (na - d) (cap - d) _ hle rfl rfl ?_)
      (first|go_ret2|go_ret)
      exact⟨⟨(A.drop d).reverse++B.drop (d+1),g,d*2,cap - d,ret_len HLN.out.symm,HG5.out,HF.out,HOK.out⟩,HB5.out⟩
    ·have hmc:¬ (cap2 - (d+1)=0):=by have:=HCQ.out;have:=HDC.out;omega
     have hle:d+1≤nb:=by have:=HDC.out;omega
     have hle2:nb≤cap2:=HCQ.out.1
     have hl1:(A.drop d).reverse.length=na - d:=by rw[List.length_reverse,HLD.out]
     have hl2:(B.drop (d+1)).length=nb - (d+1):=by rw[List.length_drop,HNB.out]
     have HL1:=Kh hl1
     have HL2:=Kh hl2
     have HNEW:=Kh (show CAt w5 g2 ((d+1)*2) (B.drop (d+1))by have h:=HBB.out.drop (d+1);rwa [Nat.zero_add]at h)
     have HBD:=Kh (show na - d+(nb - (d+1))≤200 by have:=HK.out;omega)
     clear hl1 hl2
     go_wp2_with (at_builtin;refine wpl_appO rfl (.tmp 52) (.tmp 55) _ 24 rfl Tryz.underlying72 cuspInfo w.heap.size g (d*2) (na - d) (cap - d) g2 ((d+1)*2) (nb - (d+1)) (cap2 - (d+1)) (cusps (A.drop d).reverse) (cusps (B.drop (d+1))) rfl rfl (by rw[cusps_length,HL1.out]) ((cusps_cat _).2 HR1.out) HR5.out HR2.out (by rw[cusps_length,HL2.out]) ((cusps_cat _).2 HNEW.out) (fun u hu=>(cusps_two _ u hu).2) (by have:=HBD.out;omega) (by have:=HBD.out;omega) HG.out HB5.out.size HG5.out ?_;intro g' o' c' w6 hc6 hg6 hb6;have HC6:=Kh hc6;have HG6:=Kh hg6;have HB6:=Kh (HB5.out.trans hb6);clear hc6 hg6 hb6)
     (first|go_ret2|go_ret)
     refine⟨⟨(A.drop d).reverse++B.drop (d+1),g',o',c',ret_len (by rw[List.length_append,HL1.out,HL2.out]),HG6.out,?_,HOK.out⟩,HB6.out⟩
     refine(cusps_cat _).1 ?_
     unfold cusps
     rw[List.flatMap_append]
     exact HC6.out
end Go.Proofs.YtijgdhijdfgpfaaGreatDoor
