/- contfrac in general: Expand, Convergents, Path. -/
import Derived.Test.YtijgdhijdfgpfaaGreatDoorV38
import Derived.Test.YtijgdhijdfgpfaaGreatDoorV40
import Derived.Test.YtijgdhijdfgpfaaGreatDoorV28
import Derived.Deep.Upon
set_option linter.unusedSimpArgs false
set_option maxRecDepth 100000
set_option maxHeartbeats 8000000
namespace Go.Proofs.YtijgdhijdfgpfaaGreatDoor
open Go.RowKit
def OwnI (l:List Int) (w:World) (B:Nat) (v:Value):Prop:=OwnK NotU32 w B 3 1 v l.length (l.map (Value.int .i64))
def cusps (l:List (Int×Int)):List Value:=l.flatMap fun c=>[.int .i64 c.1,.int .i64 c.2]
def OwnC (l:List (Int×Int)) (w:World) (B:Nat) (v:Value):Prop:=OwnK NotU32 w B 24 2 v l.length (cusps l)
theorem OwnI.push {l:List Int} {w':World} {B:Nat} {v':Value} {a:Int} (h:OwnK NotU32 w' B 3 1 v' (l.length+1) (l.map (Value.int .i64)++[.int .i64 a])):OwnI (l++[a]) w' B v':=by
 unfold OwnI
 rw[List.length_append,List.map_append]
 exact h
theorem OwnC.push {l:List (Int×Int)} {w':World} {B:Nat} {v':Value} {a:Int×Int} (h:OwnK NotU32 w' B 24 2 v' (l.length+1) (cusps l++[.int .i64 a.1,.int .i64 a.2])):OwnC (l++[a]) w' B v':=by
 unfold OwnC cusps at *
 rw[List.length_append,List.flatMap_append]
 exact h
theorem cusps_get:∀ (l:List (Int×Int)) (j:Nat) (c:Int×Int),l[j]?=some c→(cusps l)[j*2]?=some (.int .i64 c.1)∧(cusps l)[j*2+1]?=some (.int .i64 c.2)
 | [],j,c,h=>by simp at h
 | x :: l,0,c,h=>by simp at h;subst h;exact⟨rfl,rfl⟩
 | x :: l,j+1,c,h=>by
  have h1:=cusps_get l j c (by simpa using h)
  have e1:(j+1)*2=j*2+1+1:=by omega
  unfold cusps at *
  rw[List.flatMap_cons,e1]
  exact h1
theorem cusps_length:∀ l:List (Int×Int),(cusps l).length=l.length*2
 | []=>rfl
 | x :: l=>by
  have h1:=cusps_length l
  unfold cusps at *
  rw[List.flatMap_cons,List.length_append,h1,List.length_cons]
  show 2+l.length*2=(l.length+1)*2
  omega
theorem c_Expand (p q:Int) (w:World) (h:cuspE p q=0) (hq0:q≠0):
  Calls Tryz.prog 122 #[.agg #[.int .i64 p,.int .i64 q]] w fun e w'=>(∃ v,e=.returned (.tuple #[v,.int .i64 0])∧OwnI (cfW p q) w' w.heap.size v)∧Below w.heap.size w w':=by
 obtain⟨⟨p1,p2⟩,⟨q1,q2⟩,_,_⟩:=cusp_ok (x:=(p,q)) h
 dsimp only at p1 p2 q1 q2
 have HCC:=Kh (fun w1=>c_CheckCusp p q w1 (by omega) (by omega) (by omega) (by omega))
 rw[h]at HCC
 obtain⟨L,hL⟩:∃ L,cfW p q=L:=⟨_,rfl⟩
 have HL:=Kh hL
 have HLN:=Kh (show L.length≤61 from hL▸(cf_ok (x:=(p,q)) h hq0).1.1)
 rw[hL]
 have HPQ:=Kh (show(-1073741824≤p∧p≤1073741824)∧0<q∧q≤1073741824 by omega)
 have HN:=Kh (OwnK.nil NotU32 w w.heap.size 3 1)
 clear h hL p1 p2 q1 q2
 have hqb:(q==0)=false:=by rw[beq_eq_false_iff_ne];exact hq0
 go_enter Tryz.func122,Tryz.ntmps122
 go_wp2_with fail
 obtain⟨w0,hw0,X0,hb0⟩:=bx1 w #[.int .i64 p,.int .i64 q] 24
 rw[hw0]
 refine(HCC.out w0).mono ?_
 rintro e w1 ⟨rfl,hb1⟩
 have X1:=X0.below_ hb1 X0.lt
 have x0:=X1.at_ 0 rfl
 have x1:=X1.at_ 1 rfl
 have HB1:=Kh (hb0.trans (hb1.mono hb0.size))
 clear hw0 X0 hb0 hb1 X1
 go_upto_region 7 with(fail)
 go_quiet (fail)
 have HB2:=Kh (show Below w.heap.size w (w1.drewN nq)from below_drewN' HB1.out nq)
 generalize w1.drewN nq=w2 at HB2 ⊢
 have HN2:=Kh (show OwnI [] w2 w.heap.size (.slice none 0 0)from OwnK.nil NotU32 w2 w.heap.size 3 1)
 clear x0 x1 HB1 HN hq0 hqb
 go_wp2_with fail
 go_loopw [5,6,7] (fun vl vp vq wr=>∃ (xs:List Int) (P Q:Int),vp=.int .i64 P∧vq=.int .i64 Q∧OwnI xs wr w.heap.size vl∧Below w.heap.size w wr∧Hid (xs++cfW P Q=L∧(-1073741824≤P∧P≤1073741824)∧0≤Q∧Q≤1073741824)) (fun _ _ q _=>(intOf q).toNat)
 case atStart=>exact⟨[],p,q,rfl,rfl,HN2.out,HB2.out,Kh ⟨HL.out,HPQ.out.1,by have:=HPQ.out;omega⟩⟩
 case round=>
  obtain⟨xs,P,Q,rfl,rfl,hown,hbw,HI⟩:=hrel
  obtain⟨wi,rfl⟩:∃ wi:World,wi=wr:=⟨_,rfl⟩
  have HO:=Kh hown
  have HB:=Kh hbw
  have hsz:=HB.out.size
  clear hown hbw HN2 HB2
  by_cases hQ:Q=0
  ·have HF:=Kh (show OwnI L wi w.heap.size u5 by
    have h1:=HI.out.1
    rw[hQ,cfW_zero,List.append_nil]at h1
    rw[← h1];exact HO.out)
   subst hQ
   clear HI hsz HO
   go_wp2
   (first|go_ret2|go_ret)
   exact⟨⟨_,rfl,HF.out⟩,HB.out⟩
  ·have hQp:0<Q:=by have:=HI.out;omega
   have hL1:=HI.out.1
   rw[cfW_pos hQp]at hL1
   have hd1:=Int.emod_nonneg P hQ
   have hd2:=Int.emod_lt_of_pos P hQp
   have hdm:=Int.mul_ediv_add_emod P Q
   obtain⟨R,hR⟩:∃ R,P % Q=R:=⟨_,rfl⟩
   obtain⟨N,hN⟩:∃ N,P / Q=N:=⟨_,rfl⟩
   rw[hR]at hd1 hd2 hdm hL1
   rw[hN]at hdm hL1
   have HL2:=Kh (show(xs++[N])++cfW Q R=L by rw[← hL1];simp)
   have hxl:xs.length+1≤61:=by
    have h1:=HLN.out
    rw[← hL1]at h1
    simp at h1
    omega
   have HXL:=Kh hxl
   have HRQ:=Kh (show 0≤R∧R<Q from⟨hd1,hd2⟩)
   obtain⟨T,hT⟩:∃ T,P.tmod Q=T:=⟨_,rfl⟩
   have hTR:(if T<0 then T+Q else T)=R:=by
    rw[← hT,← hR]
    have h1:=Int.tmod_eq_emod (a:=P) (b:=Q)
    have h4:=Int.emod_lt_of_pos P hQp
    have h5:=Int.emod_nonneg P hQ
    split at h1 <;> split <;> omega
   have hT1:-1073741824≤T∧T≤1073741824:=by have:=HI.out;split at hTR <;> omega
   have hq2:(P - R).tdiv Q=N:=by
    rw[← hdm,Int.add_sub_cancel]
    exact Int.mul_tdiv_cancel_left N hQ
   have hPR:-2147483648≤P - R∧P - R≤2147483648:=by have:=HI.out;omega
   have hNb:-2147483648≤N∧N≤2147483648:=by
    have h1:=HI.out
    constructor
    ·rcases Int.lt_or_le N (-2147483648)with h|h
     ·have:=Int.mul_le_mul_of_nonneg_left (show N≤-2147483649 by omega) (show 0≤Q by omega)
      omega
     ·exact h
    ·rcases Int.lt_or_le 2147483648 N with h|h
     ·have:=Int.mul_le_mul_of_nonneg_left (show 2147483649≤N by omega) (show 0≤Q by omega)
      omega
     ·exact h
   have wr1:IntKind.i64.wrap R=R:=IntWalk.i64_in _ (by have:=HI.out;omega)
   have wr2:IntKind.i64.wrap (P - R)=P - R:=IntWalk.i64_in _ (by omega)
   have wr3:IntKind.i64.wrap N=N:=IntWalk.i64_in _ (by omega)
   clear hd1 hd2 hdm hL1 hxl hN hR hQp
   by_cases hT0:T<0
   ·rw[if_pos hT0]at hTR
    go_wp2_with (at_builtin;refine wpl_app2 NotU32 rfl (.tmp 31) (.tmp 37) _ 3 rfl Tryz.underlying94 intInfo rfl (by decide) w.heap.size xs.length u5 (xs.map (Value.int .i64)) [.int .i64 N] rfl HO.out rfl rfl (one_one N) (by have:=HXL.out;omega) (by have:=HXL.out;omega) hsz (one_i64 N) nz_int ?_;intro v3 w3 hown3 hgr3 hat3;have HO3:=Kh (OwnI.push hown3);have HB3:=Kh (own_below HB.out HO.out.1 hgr3 (Nat.le_refl _) hsz);clear hown3 hgr3 hat3)
    go_roundw
    case rel=>exact⟨xs++[N],Q,R,rfl,rfl,HO3.out,HB3.out,Kh ⟨HL2.out,by have:=HI.out;omega,by have:=HI.out;have:=HRQ.out;omega⟩⟩
    case measure=>have:=HRQ.out;simp[intOf];omega
   ·rw[if_neg hT0]at hTR
    obtain rfl:R=T:=hTR.symm
    go_wp2_with (at_builtin;refine wpl_app2 NotU32 rfl (.tmp 31) (.tmp 37) _ 3 rfl Tryz.underlying94 intInfo rfl (by decide) w.heap.size xs.length u5 (xs.map (Value.int .i64)) [.int .i64 N] rfl HO.out rfl rfl (one_one N) (by have:=HXL.out;omega) (by have:=HXL.out;omega) hsz (one_i64 N) nz_int ?_;intro v3 w3 hown3 hgr3 hat3;have HO3:=Kh (OwnI.push hown3);have HB3:=Kh (own_below HB.out HO.out.1 hgr3 (Nat.le_refl _) hsz);clear hown3 hgr3 hat3)
    go_roundw
    case rel=>exact⟨xs++[N],Q,R,rfl,rfl,HO3.out,HB3.out,Kh ⟨HL2.out,by have:=HI.out;omega,by have:=HI.out;have:=HRQ.out;omega⟩⟩
    case measure=>have:=HRQ.out;simp[intOf];omega
theorem OwnC.low {l:List (Int×Int)} {w:World} {B B':Nat} {v:Value} (h:OwnC l w B v) (hB:B'≤B):OwnC l w B' v:=⟨h.1.mono hB,h.2⟩
theorem c_Convergents (ns:List Int) (g cap:Nat) (w:World) (h0:0<ns.length) (h64:ns.length≤64) (hg:g<w.heap.size) (hc:∀ (i:Nat) (n:Int),ns[i]?=some n→w.cell? ⟨g,i,none⟩=some (.int .i64 n))
  (hr:∀ (i:Nat) (n:Int),ns[i]?=some n→-1073741824≤n∧n≤1073741824∧(0<i→1≤n)) (hcv:∀ c∈cvL (0,1) (1,0) ns,InC c):
  Calls Tryz.prog 123 #[.slice (some ⟨g,0,none⟩) ns.length cap] w fun e w'=>(∃ v,e=.returned (.tuple #[v,.int .i64 0])∧OwnC (cvL (0,1) (1,0) ns) w' w.heap.size v)∧Below w.heap.size w w':=by
 obtain⟨N,hN⟩:∃ N,ns.length=N:=⟨_,rfl⟩
 have HNL:=Kh hN
 have HC:=Kh (fun W (hb:Below w.heap.size w W) (i:Nat) (n:Int) (hi:ns[i]?=some n)=>(show W.cell? ⟨g,i,none⟩=some (.int .i64 n)from(hb.cell (p:=⟨g,i,none⟩) hg).trans (hc i n hi)))
 have HR:=Kh hr
 have HCV:=Kh hcv
 have HAT:=Kh (show ∀ i,i<N→∃ n,ns[i]?=some n from fun i hi=>⟨_,List.getElem?_eq_getElem (by omega)⟩)
 rw[hN]at h0 h64 ⊢
 have hN1:¬ (N:Int)=0:=by omega
 have hN2:¬ (64:Int)<(N:Int):=by omega
 have HN64:=Kh h64
 clear hc hr hcv hg h64 hN
 go_enter Tryz.func123,Tryz.ntmps123
 go_wp2_with fail
 go_loopw [19] (fun ii wr=>∃ i:Nat,i≤N∧ii=.int .i64 i∧wr=w) (fun ii _=>N - (intOf ii).toNat)
 case atStart=>exact⟨0,Nat.zero_le _,rfl,rfl⟩
 case round=>
  obtain⟨i,hi,rfl,hwr⟩:=hrel
  obtain rfl:w=wr:=hwr.symm
  clear hwr
  by_cases hlt:i<N
  ·obtain⟨n,hn⟩:=HAT.out i hlt
   have hcl:=HC.out w (Below.refl _ w) i n hn
   have hrn:=HR.out i n hn
   have hin:inE n=true:=inE_iff.2 ⟨hrn.1,hrn.2.1⟩
   have hii:(i:Int)<(N:Int):=by omega
   have HPN:=Kh (show 0<i→1≤n from hrn.2.2)
   clear hn hrn
   go_wp2_with fail
   refine(c_inC n w).mono ?_
   rintro e w' ⟨rfl,hw'⟩
   obtain rfl:w=w':=hw'.symm
   rw[hin]
   by_cases hi0:i=0
   ·subst hi0
    go_wp2
    go_roundw
    case rel=>exact⟨0+1,by omega,by go_num,by first|rfl|trivial⟩
    case measure=>simp[intOf];omega
   ·have hi1:(0:Int)<(i:Int):=by omega
    have hi2:0<i:=by omega
    have hn1:¬ n<1:=by have:=HPN.out (by omega);omega
    go_wp2
    go_roundw
    case rel=>exact⟨i+1,by omega,by go_num,by first|rfl|trivial⟩
    case measure=>simp[intOf];omega
  ·obtain rfl:N=i:=by omega
   go_wp2_with fail
   obtain⟨w2,hw2,XA,XB,hb2⟩:=bx2 w #[.int .i64 0,.int .i64 1] 24 #[.int .i64 1,.int .i64 0] 24
   rw[hw2]
   obtain⟨ga,hga⟩:∃ x,w.heap.size=x:=⟨_,rfl⟩
   obtain⟨gb,hgb⟩:∃ x,w.heap.size+1=x:=⟨_,rfl⟩
   have HGA:=Kh hga
   have HGB:=Kh hgb
   rw[hgb]at XB ⊢
   rw[hga]at XA ⊢
   have HA:=Kh XA
   have HBB:=Kh XB
   have HB2:=Kh hb2
   obtain⟨B2,hB2⟩:∃ x,w2.heap.size=x:=⟨_,rfl⟩
   have HBS:=Kh (show ga<B2∧gb<B2∧w.heap.size≤B2 by have h1:=XA.lt;have h2:=XB.lt;have h3:=hb2.size;omega)
   have HS2:=Kh hB2
   clear hw2 XA XB hb2 hga hgb hlt hB2
   go_loopw [6,40] (fun vl ii wr=>∃ (i:Nat) (b l:Int×Int) (out:List (Int×Int)),i≤N∧ii=.int .i64 i∧OwnC out wr B2 vl∧B2≤wr.heap.size∧Blk wr ga 24 #[.int .i64 b.1,.int .i64 b.2]∧Blk wr gb 24 #[.int .i64 l.1,.int .i64 l.2]∧Below w.heap.size w wr∧Hid (out++cvL b l (ns.drop i)=cvL (0,1) (1,0) ns∧out.length=i∧(-1073741824≤b.1∧b.1≤1073741824∧-1073741824≤b.2∧b.2≤1073741824)∧(-1073741824≤l.1∧l.1≤1073741824∧-1073741824≤l.2∧l.2≤1073741824))) (fun _ ii _=>N - (intOf ii).toNat)
   case atStart=>exact⟨0,(0,1),(1,0),[],Nat.zero_le _,rfl,OwnK.nil NotU32 w2 B2 24 2,Nat.le_of_eq HS2.out.symm,HA.out,HBB.out,HB2.out,Kh ⟨rfl,rfl,by decide,by decide⟩⟩
   case round=>
    obtain⟨i,⟨b1,b2⟩,⟨l1,l2⟩,out,hi,rfl,hown,hsz,hA,hBB,hbw,HI⟩:=hrel
    dsimp only at hA hBB HI
    obtain⟨wi,rfl⟩:∃ wi:World,wi=wr:=⟨_,rfl⟩
    have HO:=Kh hown
    have HXA:=Kh hA
    have HXB:=Kh hBB
    have HB:=Kh hbw
    have HSZ:=Kh hsz
    clear hown hA hBB hbw HA HBB HB2 HS2 hsz
    by_cases hlt:i<N
    ·obtain⟨n,hn⟩:=HAT.out i hlt
     have hcl:=HC.out wi HB.out i n hn
     have hrn:=HR.out i n hn
     have hii:(i:Int)<(N:Int):=by omega
     obtain⟨e1,e2,e3,e4⟩:=HI.out
     have hdr:ns.drop i=n :: ns.drop (i+1):=by
      obtain⟨hlt2,e⟩:=List.getElem?_eq_some_iff.1 hn
      rw[List.drop_eq_getElem_cons hlt2,e]
     rw[hdr,cvL]at e1
     dsimp only at e1
     have hmem:InC (n*l1+b1,n*l2+b2):=HCV.out _ (by rw[← e1];exact List.mem_append_right _ (List.mem_cons_self ..))
     obtain⟨m1,m2,m3,m4⟩:=hmem
     dsimp only at m1 m2 m3 m4
     have hp1:-1073741824 - 1073741824≤n*l1∧n*l1≤1073741824+1073741824:=by omega
     have hp2:-1073741824 - 1073741824≤n*l2∧n*l2≤1073741824+1073741824:=by omega
     have wr1:IntKind.i64.wrap (n*l1)=n*l1:=IntWalk.i64_in _ (by omega)
     have wr2:IntKind.i64.wrap (n*l2)=n*l2:=IntWalk.i64_in _ (by omega)
     have wr3:IntKind.i64.wrap (n*l1+b1)=n*l1+b1:=IntWalk.i64_in _ (by omega)
     have wr4:IntKind.i64.wrap (n*l2+b2)=n*l2+b2:=IntWalk.i64_in _ (by omega)
     have HE:=Kh (show(out++[(n*l1+b1,n*l2+b2)])++cvL (l1,l2) (n*l1+b1,n*l2+b2) (ns.drop (i+1))=cvL (0,1) (1,0) ns by rw[← e1];simp)
     have HBD:=Kh (show(out++[(n*l1+b1,n*l2+b2)]).length=i+1∧(-1073741824≤l1∧l1≤1073741824∧-1073741824≤l2∧l2≤1073741824)∧(-1073741824≤n*l1+b1∧n*l1+b1≤1073741824∧-1073741824≤n*l2+b2∧n*l2+b2≤1073741824)from⟨by simp[e2],e4,m1,m2,by omega,m4⟩)
     have HOL:=Kh e2
     have hin1:inE (n*l1+b1)=true:=inE_iff.2 ⟨m1,m2⟩
     have hin2:inE (n*l2+b2)=true:=inE_iff.2 ⟨by omega,m4⟩
     clear e1 e2 e3 e4 hdr m1 m2 m3 m4 hp1 hp2 hrn hn HI
     have a0:=HXA.out.at_ 0 rfl
     have a1:=HXA.out.at_ 1 rfl
     have b0:=HXB.out.at_ 0 rfl
     have b1':=HXB.out.at_ 1 rfl
     have fa0:=HXA.out.free_ 0
     have fa1:=HXA.out.free_ 1
     have fb0:=HXB.out.free_ 0
     have fb1:=HXB.out.free_ 1
     have hab:ga≠gb:=by have:=HGA.out;have:=HGB.out;omega
     go_upto_region 16 with(fail)
     go_region
     have XA:=(HXA.out.set_ 0 (.int .i64 l1)).set_ 1 (.int .i64 l2)
     have hgaw:w.heap.size≤ga:=Nat.le_of_eq HGA.out
     have hgbw:w.heap.size≤gb:=by have:=HGB.out;omega
     have XA2:=((XA.far_ (p:=⟨gb,0,none⟩) hab (.int .i64 (n*l1+b1))).far_ (p:=⟨gb,1,none⟩) hab (.int .i64 (n*l2+b2))).drew_
     have XB2:=((((HXB.out.far_ (p:=⟨ga,0,none⟩) (fun e=>hab e.symm) (.int .i64 l1)).far_ (p:=⟨ga,1,none⟩) (fun e=>hab e.symm) (.int .i64 l2)).set_ 0 (.int .i64 (n*l1+b1))).set_ 1 (.int .i64 (n*l2+b2))).drew_
     obtain⟨ws,hws⟩:∃ ws,((((wi.setCell ⟨ga,0,none⟩ (.int .i64 l1)).setCell ⟨ga,1,none⟩ (.int .i64 l2)).setCell ⟨gb,0,none⟩ (.int .i64 (n*l1+b1))).setCell ⟨gb,1,none⟩ (.int .i64 (n*l2+b2))).drew=ws:=⟨_,rfl⟩
     rw[hws]at XA2 XB2 ⊢
     have HBW:=Kh (show Below w.heap.size w ws from hws▸((((HB.out.setCell (p:=⟨ga,0,none⟩) hgaw _).setCell (p:=⟨ga,1,none⟩) hgaw _).setCell (p:=⟨gb,0,none⟩) hgbw _).setCell (p:=⟨gb,1,none⟩) hgbw _).drew)
     have HOS:=Kh (show OwnC out ws B2 u6 by
      obtain⟨q1,q2,q3⟩:=HBS.out
      rw[← hws]
      have h1:=(((OwnK.other (a:=⟨ga,0,none⟩) HO.out q1 (int_i64 l1)).other (a:=⟨ga,1,none⟩) q1 (int_i64 l2)).other (a:=⟨gb,0,none⟩) q2 (int_i64 (n*l1+b1))).other (a:=⟨gb,1,none⟩) q2 (int_i64 (n*l2+b2))
      exact h1.keep (Below.refl _ _).drew)
     have hsz:B2≤ws.heap.size:=by rw[← hws];simpa using HSZ.out
     have HA2:=Kh XA2
     have HB2:=Kh XB2
     have c0:=XB2.at_ 0 rfl
     have c1:=XB2.at_ 1 rfl
     clear XA XA2 XB2 hws a0 a1 b0 b1' fa0 fa1 fb0 fb1 hab hcl HXA HXB HO HB HSZ wr1 wr2 wr3 wr4 hgaw hgbw
     go_wp2_with fail
     refine(c_inC (n*l1+b1) ws).mono ?_
     rintro e w' ⟨rfl,hw'⟩
     obtain rfl:ws=w':=hw'.symm
     rw[hin1]
     clear hw'
     go_wp2_with fail
     refine(c_inC (n*l2+b2) ws).mono ?_
     rintro e w' ⟨rfl,hw'⟩
     obtain rfl:ws=w':=hw'.symm
     rw[hin2]
     clear hw'
     go_wp2_with (at_builtin;refine wpl_app2 NotU32 rfl (.tmp 70) (.tmp 72) _ 24 rfl Tryz.underlying72 cuspInfo rfl (by decide) B2 out.length u6 (cusps out) [.int .i64 (n*l1+b1),.int .i64 (n*l2+b2)] rfl HOS.out rfl rfl (two_one _ _) (by have:=HOL.out;have:=HN64.out;omega) (by have:=HOL.out;have:=HN64.out;omega) hsz (two_i64 _ _) nz_cusp ?_;intro v3 w3 hown3 hgr3 hat3;have HO3:=Kh (OwnC.push (a:=(n*l1+b1,n*l2+b2)) hown3);have HB3:=Kh (own_below HBW.out HOS.out.1 hgr3 HBS.out.2.2 (Nat.le_trans HBS.out.2.2 hsz));have HA3:=Kh (HA2.out.grown_ hgr3 (fun e=>by have:=own_ge HOS.out.1 e;have:=HBS.out.1;omega));have HXB3:=Kh (HB2.out.grown_ hgr3 (fun e=>by have:=own_ge HOS.out.1 e;have:=HBS.out.2.1;omega));have HS3:=Kh (Nat.le_trans hsz hgr3.size);clear hown3 hgr3 hat3)
     go_roundw
     case rel=>exact⟨i+1,(l1,l2),(n*l1+b1,n*l2+b2),_,by omega,by go_num,HO3.out,HS3.out,HA3.out,HXB3.out,HB3.out,Kh ⟨HE.out,HBD.out⟩⟩
     case measure=>simp[intOf];omega
    ·obtain rfl:N=i:=by omega
     have HF:=Kh (show OwnC (cvL (0,1) (1,0) ns) wi w.heap.size u6 by
      have h1:=HI.out.1
      rw[List.drop_eq_nil_of_le (by have:=HNL.out;omega),cvL,List.append_nil]at h1
      rw[← h1]
      exact HO.out.low HBS.out.2.2)
     clear HI HO hlt HSZ HXA HXB
     go_wp2
     (first|go_ret2|go_ret)
     exact⟨⟨_,rfl,HF.out⟩,HB.out⟩
theorem OwnI.at_ {l:List Int} {w:World} {B:Nat} {v:Value} (h:OwnI l w B v) (h0:0<l.length):∃ g cap,v=.slice (some ⟨g,0,none⟩) l.length cap∧g<w.heap.size∧∀ (i:Nat) (n:Int),l[i]?=some n→w.cell? ⟨g,i,none⟩=some (.int .i64 n):=by
 obtain⟨g,cap,e,_,_,_,hlt,_,hc⟩:=own_at h h0
 exact⟨g,cap,e,hlt,fun i n hi=>hc i _ (by rw[List.getElem?_map,hi];rfl)⟩
theorem cusps_two:∀ (l:List (Int×Int)),∀ u∈cusps l,NotU32 u∧u.oneCell'=true
 | [],u,h=>by cases h
 | x :: l,u,h=>by
  unfold cusps at h
  rw[List.flatMap_cons]at h
  rcases List.mem_append.1 h with h|h
  ·simp at h
   rcases h with rfl|rfl <;> exact⟨int_i64 _,rfl⟩
  ·exact cusps_two l u h
theorem c_Path (p q:Int) (w:World) (h:cuspE p q=0):
  Calls Tryz.prog 83 #[.agg #[.int .i64 p,.int .i64 q]] w fun e w'=>(∃ v,e=.returned (.tuple #[v,.int .i64 0])∧OwnC (pthL (p,q)) w' w.heap.size v)∧Below w.heap.size w w':=by
 by_cases hq0:q=0
 ·subst hq0
  obtain rfl:p=1:=(cusp_ok (x:=(p,0)) h).2.2.2 rfl
  have e:pthL ((1:Int),(0:Int))=[(1,0)]:=by unfold pthL;rw[if_pos rfl]
  rw[e]
  exact c_Path10 w
 ·obtain⟨k1,k2,k3,k4,k5⟩:=cf_ok (x:=(p,q)) h hq0
  dsimp only at k1 k2 k3
  have ep:pthL (p,q)=[(1,0)]++cvL (0,1) (1,0) (cfW p q):=by unfold pthL;rw[if_neg hq0];rfl
  rw[ep]
  have HEX:=Kh (fun W=>c_Expand p q W h hq0)
  have HCO:=Kh (fun g cap W hg hc=>c_Convergents (cfW p q) g cap W k1.2 (by omega) hg hc k2 (fun c hc=>(k3 c hc).1))
  have hcl:=cvL_length (cfW p q) (0,1) (1,0)
  obtain⟨L,hL⟩:∃ L,cfW p q=L:=⟨_,rfl⟩
  obtain⟨C,hC⟩:∃ C,cvL (0,1) (1,0) L=C:=⟨_,rfl⟩
  rw[hL]at k1 HEX HCO hcl ⊢
  rw[hC]at HCO hcl ⊢
  have HK:=Kh (show 0<L.length∧L.length≤61∧C.length=L.length from⟨k1.2,k1.1,hcl⟩)
  clear k1 k2 k3 k4 k5 hL hC hcl ep h hq0
  go_enter Tryz.func83,Tryz.ntmps83
  go_wp2_with fail
  obtain⟨w2,hw2,_,XB,hb2⟩:=bx2 w #[.int .i64 p,.int .i64 q] 24 #[.int .i64 1,.int .i64 0] 24
  rw[hw2]
  refine(HEX.out w2).mono ?_
  rintro e w3 ⟨⟨v,rfl,hown⟩,hb3⟩
  obtain⟨g,cap,rfl,hlt,hcell⟩:=hown.at_ HK.out.1
  have HC:=Kh (HCO.out g cap w3 hlt hcell)
  have HO:=Kh (own_lit (B:=w.heap.size) (XB.below_ hb3 XB.lt) (by omega))
  have HB:=Kh (hb2.trans (hb3.mono hb2.size))
  clear hw2 XB hb2 hb3 hown hcell hlt
  go_wp2_with fail
  refine HC.out.mono ?_
  rintro e w4 ⟨⟨v4,rfl,hown4⟩,hb4⟩
  obtain⟨g4,cap4,rfl,_,_,_,_,_,hcell4⟩:=own_at hown4 (by have:=HK.out;omega)
  have HC4:=Kh (show ∀ (j:Nat) u,(cusps C)[j]?=some u→w4.cell? ⟨g4,j,none⟩=some u from hcell4)
  have HO4:=Kh (HO.out.keep hb4)
  have HB4:=bt HB hb4
  have hsz:=HB4.out.size
  clear hown4 hcell4 hb4 HO HB HC HCO HEX
  go_wp2_with (at_builtin;refine wpl_appN NotU32 rfl (.tmp 27) (.tmp 28) _ 24 rfl Tryz.underlying72 cuspInfo rfl (by decide) w.heap.size 1 C.length g4 cap4 _ [.int .i64 1,.int .i64 0] (cusps C) rfl HO4.out rfl (cusps_length C) HC4.out (fun u hu=>(cusps_two C u hu).2) (by have:=HK.out;omega) (by have:=HK.out;omega) (by have:=HK.out;omega) hsz (fun u hu=>(cusps_two C u hu).1) nz_cusp ?_;intro v5 w5 hown5 hgr5 hat5;have HO5:=Kh hown5;have HB5:=Kh (own_below HB4.out HO4.out.1 hgr5 (Nat.le_refl _) hsz);clear hown5 hgr5 hat5)
  (first|go_ret2|go_ret)
  have h5:OwnC ((1,0) :: C) w5 w.heap.size v5:=by
   unfold OwnC
   rw[List.length_cons,Nat.add_comm]
   exact HO5.out
  exact⟨⟨v5,rfl,h5⟩,HB5.out⟩
def CAt (w:World) (g o:Nat) (l:List (Int×Int)):Prop:=∀ (j:Nat) (c:Int×Int),l[j]?=some c→w.cell? ⟨g,o+j*2,none⟩=some (.int .i64 c.1)∧w.cell? ⟨g,o+j*2+1,none⟩=some (.int .i64 c.2)
def rv (l:List (Int×Int)) (i j:Nat):Option (Int×Int):=if j<i∨l.length≤i+j then l[l.length - 1 - j]? else l[j]?
theorem put_at {w:World} {g a:Nat} {u:Value} (h:(w.cell? ⟨g,a,none⟩).isSome=true):(w.setCell ⟨g,a,none⟩ u).cell? ⟨g,a,none⟩=some u:=World.cell?_setCell_same' _ _ _ h
theorem put_off {w:World} {g a b:Nat} {u:Value} (h:a≠b):(w.setCell ⟨g,a,none⟩ u).cell? ⟨g,b,none⟩=w.cell? ⟨g,b,none⟩:=World.cell?_setCell_other _ _ _ _ (by simp[h])
theorem put_some {w:World} {g a b:Nat} {u:Value} (ha:(w.cell? ⟨g,a,none⟩).isSome=true):((w.setCell ⟨g,a,none⟩ u).cell? ⟨g,b,none⟩).isSome=(w.cell? ⟨g,b,none⟩).isSome:=by
 by_cases h:a=b
 ·subst h;rw[put_at ha,ha];rfl
 ·rw[put_off h]
theorem c_Reverse (l:List (Int×Int)) (g o cap:Nat) (w:World) (hl:l.length≤1000) (h:CAt w g o l) (hf:∀ i,w.frozen? ⟨g,i,none⟩=false) (h0:0<l.length):
  Calls Tryz.prog 84 #[.slice (some ⟨g,o,none⟩) l.length cap] w fun e w'=>(∃ v,e=.returned v)∧CAt w' g o l.reverse∧(∀ i,w'.frozen? ⟨g,i,none⟩=false)∧w'.heap.size=w.heap.size∧(∀ i,i<o∨o+l.length*2≤i→w'.cell? ⟨g,i,none⟩=w.cell? ⟨g,i,none⟩)∧(∀ i,(w'.cell? ⟨g,i,none⟩).isSome=(w.cell? ⟨g,i,none⟩).isSome)∧(∀ B,B≤g→Below B w w')∧∀ b,b≠g→w'.heap[b]?=w.heap[b]?:=by
 obtain⟨N,hN⟩:∃ N,l.length=N:=⟨_,rfl⟩
 have HN:=Kh hN
 have HL:=Kh hl
 rw[hN]at hl h0
 rw[hN]
 have HA:=Kh h
 have HF:=Kh hf
 have hn1:IntKind.i64.wrap ((N:Int) - 1)=(N:Int) - 1:=IntWalk.i64_in _ (by omega)
 clear hN h hf
 go_enter Tryz.func84,Tryz.ntmps84
 go_wp2_with fail
 go_loopw [2,3] (fun vi vj wr=>∃ (i:Nat) (j:Int),vi=.int .i64 i∧vj=.int .i64 j∧j=(N:Int) - 1 - i∧Hid (2*i≤N+1∧(∀ (k:Nat) (c:Int×Int),k<N→rv l i k=some c→wr.cell? ⟨g,o+k*2,none⟩=some (.int .i64 c.1)∧wr.cell? ⟨g,o+k*2+1,none⟩=some (.int .i64 c.2))∧(∀ i,wr.frozen? ⟨g,i,none⟩=false)∧wr.heap.size=w.heap.size∧(∀ i,i<o∨o+N*2≤i→wr.cell? ⟨g,i,none⟩=w.cell? ⟨g,i,none⟩)∧(∀ i,(wr.cell? ⟨g,i,none⟩).isSome=(w.cell? ⟨g,i,none⟩).isSome)∧(∀ B,B≤g→Below B w wr)∧∀ b,b≠g→wr.heap[b]?=w.heap[b]?)) (fun _ j _=>(intOf j).toNat)
 case atStart=>
  refine⟨0,(N:Int) - 1,rfl,rfl,by omega,Kh ⟨by omega,fun k c hk hc=>?_,HF.out,rfl,fun _ _=>rfl,fun _=>rfl,fun B _=>Below.refl B w,fun _ _=>rfl⟩⟩
  have e:rv l 0 k=l[k]?:=by unfold rv;rw[if_neg (by have:=HN.out;omega)]
  rw[e]at hc
  exact HA.out k c hc
 case round=>
  obtain⟨i,j,rfl,rfl,hj,HI⟩:=hrel
  obtain⟨wi,rfl⟩:∃ wi:World,wi=wr:=⟨_,rfl⟩
  by_cases hlt:(i:Int)<j
  ·obtain⟨m,rfl⟩:∃ m:Nat,j=(m:Int):=⟨j.toNat,by omega⟩
   have hNm:N=i+m+1:=by omega
   have him:i<m:=by omega
   have hiN:i<N:=by omega
   have hmN:m<N:=by omega
   have hii:(i:Int)<(N:Int):=by omega
   have hmm:(m:Int)<(N:Int):=by omega
   have wr1:IntKind.i64.wrap ((m:Int) - 1)=(m:Int) - 1:=IntWalk.i64_in _ (by omega)
   obtain⟨⟨p1,q1⟩,hc1⟩:∃ c,l[i]?=some c:=⟨_,List.getElem?_eq_getElem (by have:=HN.out;omega)⟩
   obtain⟨⟨p2,q2⟩,hc2⟩:∃ c,l[m]?=some c:=⟨_,List.getElem?_eq_getElem (by have:=HN.out;omega)⟩
   have HC1:=Kh hc1
   have HC2:=Kh hc2
   obtain⟨x0,x1⟩:=HI.out.2.1 i (p1,q1) hiN (by unfold rv;rw[if_neg (by have:=HN.out;omega)];exact hc1)
   obtain⟨y0,y1⟩:=HI.out.2.1 m (p2,q2) hmN (by unfold rv;rw[if_neg (by have:=HN.out;omega)];exact hc2)
   dsimp only at x0 x1 y0 y1
   have f0:=HI.out.2.2.1 (o+i*2)
   have f1:=HI.out.2.2.1 (o+i*2+1)
   have f2:=HI.out.2.2.1 (o+m*2)
   have f3:=HI.out.2.2.1 (o+m*2+1)
   have HNM:=Kh hNm
   clear hc1 hc2 hj hNm
   go_upto_region 3 with(fail)
   go_region
   have s0:(wi.cell? ⟨g,o+i*2,none⟩).isSome=true:=by rw[x0];rfl
   have s1:(wi.cell? ⟨g,o+i*2+1,none⟩).isSome=true:=by rw[x1];rfl
   have s2:(wi.cell? ⟨g,o+m*2,none⟩).isSome=true:=by rw[y0];rfl
   have s3:(wi.cell? ⟨g,o+m*2+1,none⟩).isSome=true:=by rw[y1];rfl
   obtain⟨wa,hwa⟩:∃ x,wi.setCell ⟨g,o+i*2,none⟩ (.int .i64 p2)=x:=⟨_,rfl⟩
   obtain⟨wb,hwb⟩:∃ x,wa.setCell ⟨g,o+i*2+1,none⟩ (.int .i64 q2)=x:=⟨_,rfl⟩
   obtain⟨wc,hwc⟩:∃ x,wb.setCell ⟨g,o+m*2,none⟩ (.int .i64 p1)=x:=⟨_,rfl⟩
   obtain⟨wd,hwd⟩:∃ x,wc.setCell ⟨g,o+m*2+1,none⟩ (.int .i64 q1)=x:=⟨_,rfl⟩
   have hsm:∀ b,(wd.cell? ⟨g,b,none⟩).isSome=(wi.cell? ⟨g,b,none⟩).isSome∧(wc.cell? ⟨g,b,none⟩).isSome=(wi.cell? ⟨g,b,none⟩).isSome∧(wb.cell? ⟨g,b,none⟩).isSome=(wi.cell? ⟨g,b,none⟩).isSome∧(wa.cell? ⟨g,b,none⟩).isSome=(wi.cell? ⟨g,b,none⟩).isSome:=by
    have e1:∀ b,(wa.cell? ⟨g,b,none⟩).isSome=(wi.cell? ⟨g,b,none⟩).isSome:=fun b=>hwa▸put_some s0
    have e2:∀ b,(wb.cell? ⟨g,b,none⟩).isSome=(wi.cell? ⟨g,b,none⟩).isSome:=fun b=>hwb▸(put_some ((e1 _).trans s1)).trans (e1 b)
    have e3:∀ b,(wc.cell? ⟨g,b,none⟩).isSome=(wi.cell? ⟨g,b,none⟩).isSome:=fun b=>hwc▸(put_some ((e2 _).trans s2)).trans (e2 b)
    have e4:∀ b,(wd.cell? ⟨g,b,none⟩).isSome=(wi.cell? ⟨g,b,none⟩).isSome:=fun b=>hwd▸(put_some ((e3 _).trans s3)).trans (e3 b)
    exact fun b=>⟨e4 b,e3 b,e2 b,e1 b⟩
   have hoff:∀ b,b≠o+i*2→b≠o+i*2+1→b≠o+m*2→b≠o+m*2+1→wd.cell? ⟨g,b,none⟩=wi.cell? ⟨g,b,none⟩:=fun b n0 n1 n2 n3=>by
    rw[← hwd,put_off n3.symm,← hwc,put_off n2.symm,← hwb,put_off n1.symm,← hwa,put_off n0.symm]
   have hi0:wd.cell? ⟨g,o+i*2,none⟩=some (.int .i64 p2):=by rw[← hwd,put_off (by omega),← hwc,put_off (by omega),← hwb,put_off (by omega),← hwa,put_at s0]
   have hi1:wd.cell? ⟨g,o+i*2+1,none⟩=some (.int .i64 q2):=by rw[← hwd,put_off (by omega),← hwc,put_off (by omega),← hwb,put_at ((hsm _).2.2.2.trans s1)]
   have hm0:wd.cell? ⟨g,o+m*2,none⟩=some (.int .i64 p1):=by rw[← hwd,put_off (by omega),← hwc,put_at ((hsm _).2.2.1.trans s2)]
   have hm1:wd.cell? ⟨g,o+m*2+1,none⟩=some (.int .i64 q1):=by rw[← hwd,put_at ((hsm _).2.1.trans s3)]
   have hNm:=HNM.out
   have hln:=HN.out
   have HZ:=Kh (show 2*(i+1)≤N+1∧(∀ (k:Nat) (c:Int×Int),k<N→rv l (i+1) k=some c→wd.drew.cell? ⟨g,o+k*2,none⟩=some (.int .i64 c.1)∧wd.drew.cell? ⟨g,o+k*2+1,none⟩=some (.int .i64 c.2))∧(∀ i,wd.drew.frozen? ⟨g,i,none⟩=false)∧wd.drew.heap.size=w.heap.size∧(∀ i,i<o∨o+N*2≤i→wd.drew.cell? ⟨g,i,none⟩=w.cell? ⟨g,i,none⟩)∧(∀ i,(wd.drew.cell? ⟨g,i,none⟩).isSome=(w.cell? ⟨g,i,none⟩).isSome)∧(∀ B,B≤g→Below B w wd.drew)∧∀ b,b≠g→wd.drew.heap[b]?=w.heap[b]? from by
    refine⟨by omega,fun k c hk hc=>?_,fun b=>?_,?_,fun b hb=>?_,fun b=>(hsm b).1.trans (HI.out.2.2.2.2.2.1 b),fun B hB=>?_,fun b hb=>?_⟩
    ·show wd.cell? ⟨g,o+k*2,none⟩=_∧wd.cell? ⟨g,o+k*2+1,none⟩=_
     by_cases k1:k=i
     ·subst k1
      have e:rv l (k+1) k=l[m]?:=by unfold rv;rw[if_pos (by omega)];congr 1;omega
      rw[e,HC2.out]at hc
      obtain rfl:(p2,q2)=c:=by simpa using hc
      exact⟨hi0,hi1⟩
     ·by_cases k2:k=m
      ·subst k2
       have e:rv l (i+1) k=l[i]?:=by unfold rv;rw[if_pos (by omega)];congr 1;omega
       rw[e,HC1.out]at hc
       obtain rfl:(p1,q1)=c:=by simpa using hc
       exact⟨hm0,hm1⟩
      ·have e:rv l (i+1) k=rv l i k:=by
        unfold rv
        by_cases k3:k<i∨l.length≤i+k
        ·rw[if_pos k3,if_pos (by omega)]
        ·rw[if_neg k3,if_neg (by omega)]
       rw[e]at hc
       have h9:=HI.out.2.1 k c hk hc
       rw[hoff _ (by omega) (by omega) (by omega) (by omega),hoff _ (by omega) (by omega) (by omega) (by omega)]
       exact h9
    ·show wd.frozen? ⟨g,b,none⟩=false
     rw[← hwd,← hwc,← hwb,← hwa]
     simp only[World.frozen?_setCell]
     exact HI.out.2.2.1 b
    ·show wd.heap.size=_
     rw[← hwd,← hwc,← hwb,← hwa]
     simp
     exact HI.out.2.2.2.1
    ·show wd.cell? ⟨g,b,none⟩=_
     rw[hoff _ (by omega) (by omega) (by omega) (by omega)]
     exact HI.out.2.2.2.2.1 b hb
    ·have h9:=HI.out.2.2.2.2.2.2.1 B hB
     rw[← hwd,← hwc,← hwb,← hwa]
     exact((((h9.setCell (p:=⟨g,o+i*2,none⟩) hB _).setCell (p:=⟨g,o+i*2+1,none⟩) hB _).setCell (p:=⟨g,o+m*2,none⟩) hB _).setCell (p:=⟨g,o+m*2+1,none⟩) hB _).drew
    ·show wd.heap[b]?=_
     rw[← hwd,← hwc,← hwb,← hwa]
     exact(Below.heap_setCell _ ⟨g,o+m*2+1,none⟩ _ b hb).trans ((Below.heap_setCell _ ⟨g,o+m*2,none⟩ _ b hb).trans ((Below.heap_setCell _ ⟨g,o+i*2+1,none⟩ _ b hb).trans ((Below.heap_setCell _ ⟨g,o+i*2,none⟩ _ b hb).trans (HI.out.2.2.2.2.2.2.2 b hb)))))
   have hjm:(m:Int) - 1=(N:Int) - 1 - ((i+1:Nat):Int):=by omega
   have HJM:=Kh hjm
   rw[hwa,hwb,hwc,hwd]
   clear hwa hwb hwc hwd hsm hoff hi0 hi1 hm0 hm1 s0 s1 s2 s3 x0 x1 y0 y1 f0 f1 f2 f3 HI hNm hln hjm
   generalize wd.drew=we at HZ ⊢
   go_wp2
   go_roundw
   case rel=>exact⟨i+1,(m:Int) - 1,by go_num,rfl,HJM.out,HZ.out⟩
   case measure=>simp[intOf];omega
  ·have HZ:=Kh (show CAt wi g o l.reverse∧_ from⟨fun k c hc=>by
     have hk:k<N:=by have:=(List.getElem?_eq_some_iff.1 hc).1;rw[List.length_reverse,HN.out]at this;exact this
     refine HI.out.2.1 k c hk ?_
     rw[List.getElem?_reverse (by rw[HN.out];exact hk)]at hc
     have h1:=HI.out.1
     unfold rv
     by_cases h2:k<i∨l.length≤i+k
     ·rw[if_pos h2];exact hc
     ·rw[if_neg h2]
      have h3:l.length - 1 - k=k:=by have:=HN.out;omega
      rw[h3]at hc;exact hc,HI.out.2.2⟩)
   clear HI hj
   go_wp2
   go_end0
   exact⟨⟨_,rfl⟩,HZ.out⟩
end Go.Proofs.YtijgdhijdfgpfaaGreatDoor
