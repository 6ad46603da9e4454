/- Contract of manin.enter: the world of a Spec. -/
import Derived.Test.YtijgdhijdfgpfaaGreatDoorY31
import Derived.Test.YtijgdhijdfgpfaaGreatDoorY04
import Derived.Test.YtijgdhijdfgpfaaGreatDoorY03
import Derived.Test.YtijgdhijdfgpfaaGreatDoorY30
import Derived.Test.YtijgdhijdfgpfaaGreatDoorY23
set_option maxRecDepth 100000
set_option maxHeartbeats 8000000
namespace Go.Proofs.YtijgdhijdfgpfaaGreatDoor
open Go.RowKit
def plc (f:Nat→Nat×Int) (i:Nat):Value:=.int .i64 (if i % 2=0 then((f (i / 2)).1:Int)else(f (i / 2)).2)
theorem plc_set (f:Nat→Nat×Int) (p i:Nat) (x:Nat×Int):plc (tset f p x) i=if i=p*2+1 then .int .i64 x.2 else if i=p*2 then .int .i64 (x.1:Int)else plc f i:=by
 unfold plc tset
 by_cases h1:i=p*2+1
 ·subst h1
  rw[if_pos rfl,if_neg (by omega),show(p*2+1) / 2=p by omega,if_pos rfl]
 ·rw[if_neg h1]
  by_cases h2:i=p*2
  ·subst h2
   rw[if_pos rfl,if_pos (by omega),show p*2 / 2=p by omega,if_pos rfl]
  ·have h3:i / 2≠p:=by omega
   simp only[if_neg h2,if_neg h3]
theorem CRow.place {f:Nat→Nat×Int} {w:World} {g m p:Nat} (h:CRow (plc f) w g m) (x:Nat×Int):CRow (plc (tset f p x)) ((w.setCell ⟨g,p*2,none⟩ (.int .i64 (x.1:Int))).setCell ⟨g,p*2+1,none⟩ (.int .i64 x.2)) g m:=by
 have h1:=h.set (p*2) (.int .i64 (x.1:Int)) (fun _ h=>by cases h) (fun i=>if i=p*2 then .int .i64 (x.1:Int)else plc f i) (fun i _=>rfl)
 exact h1.set (p*2+1) (.int .i64 x.2) (fun _ h=>by cases h) _ (fun i _=>by rw[plc_set])
theorem plInfo:(Tryz.prog.info? 172).map (fun i=>(i.zero,i.size,i.bytes))=some (some (.agg #[.int .i64 0,.int .i64 0]),2,16):=by kernel_rfl
theorem made2 {z:Value} {n i:Nat} {v:Value} (h:(madeCells #[z,z] n)[i]?=some v):v=z:=by
 unfold madeCells at h
 simp only[Array.getElem?_map,Array.getElem?_range]at h
 split at h
 ·simp only[Option.map_some]at h
  injection h with h
  rw[← h]
  have h3:i % 2=0∨i % 2=1:=by omega
  show(#[z,z]:Array Value)[i % 2]! = _
  rcases h3 with h3|h3 <;> rw[h3] <;> rfl
 ·cases h
theorem makeP (n:Nat) (h:n≤1000000) (w:World):
  (Instr.makeSlice 130 (.int .i64 (n:Int)) (.int .i64 (n:Int))).run Tryz.prog w=.ok (.slice (some ⟨w.heap.size,0,none⟩) n n) (w.alloc (.cells (madeCells #[.int .i64 0,.int .i64 0] (n*2)) 172)):=by
 obtain⟨i,hi,hz0,hz1,hz2⟩:=info_parts plInfo
 have hr:=run_make (P:=Tryz.prog) w 130 172 i _ Tryz.underlying130 hi hz0 .i64 .i64 n n (by omega) (Int.le_refl _) (by rw[hz2];omega) (by omega)
 rw[Int.toNat_natCast,hz1]at hr
 exact hr
theorem CRow.places (w:World) (n:Nat):CRow (plc (fun _=>(0,0))) (w.alloc (.cells (madeCells #[.int .i64 0,.int .i64 0] (n*2)) 172)) w.heap.size (n*2):=by
 have hb:=Blk.new w 172 (madeCells #[.int .i64 0,.int .i64 0] (n*2))
 refine⟨Stk.of hb ?_,fun i _=>hb.free_ i,fun i hi=>?_⟩
 ·intro v hv
  obtain⟨i,hi⟩:=Array.getElem?_of_mem (Array.mem_toList_iff.1 hv)
  rw[made2 hi]
  exact fun _ h=>by cases h
 ·rw[hb.cell_ i,Array.getElem?_eq_getElem (by rw[size_madeCells];exact hi)]
  congr 1
  rw[made2 (Array.getElem?_eq_getElem (by rw[size_madeCells];exact hi))]
  unfold plc
  split <;> rfl
structure WorldAt (w:World) (T B n wt:Nat) (L:List Nat) (f:Nat→Nat×Int):Prop where
 lt:T<B
 c0:w.cell? ⟨T,0,none⟩=some (.int .i64 (n:Int))
 c1:w.cell? ⟨T,1,none⟩=some (.int .i64 (wt:Int))
 c2:∃ p c,w.cell? ⟨T,2,none⟩=some (.slice p L.length c)∧PtL n L w B (.slice p L.length c)
 c3:∃ g,w.cell? ⟨T,3,none⟩=some (.slice (some ⟨g,0,none⟩) (n*n) (n*n))∧g<B∧∀ i,i<n*n*2→w.cell? ⟨g,i,none⟩=some (plc f i)
theorem WorldAt.next {w w':World} {T B B' n wt:Nat} {L:List Nat} {f:Nat→Nat×Int} (h:WorldAt w T B n wt L f) (hb:Below B' w w') (hB:B≤B'):WorldAt w' T B n wt L f:=by
 have hc:∀ g i v,g<B→w.cell? ⟨g,i,none⟩=some v→w'.cell? ⟨g,i,none⟩=some v:=fun g i v hg e=>(hb.cell (p:=⟨g,i,none⟩) (Nat.lt_of_lt_of_le hg hB)).trans e
 obtain⟨p,c,e2,h2⟩:=h.c2
 obtain⟨g,e3,hg,h3⟩:=h.c3
 exact⟨h.lt,hc _ _ _ h.lt h.c0,hc _ _ _ h.lt h.c1,⟨p,c,hc _ _ _ h.lt e2,h2.next (hb.mono hB)⟩,g,hc _ _ _ h.lt e3,hg,fun i hi=>hc _ _ _ hg (h3 i hi)⟩
theorem WorldAt.keep {w w':World} {T B n wt:Nat} {L:List Nat} {f:Nat→Nat×Int} (h:WorldAt w T B n wt L f) (hB:B≤w.heap.size) (hb:Below w.heap.size w w'):WorldAt w' T B n wt L f:=h.next hb hB
theorem WorldAt.up {w:World} {T B B' n wt:Nat} {L:List Nat} {f:Nat→Nat×Int} (h:WorldAt w T B n wt L f) (hB:B≤B'):WorldAt w T B' n wt L f:=by
 obtain⟨p,c,e2,h2⟩:=h.c2
 obtain⟨g,e3,hg,h3⟩:=h.c3
 exact⟨Nat.lt_of_lt_of_le h.lt hB,h.c0,h.c1,⟨p,c,e2,h2.up hB⟩,g,e3,Nat.lt_of_lt_of_le hg hB,h3⟩
theorem PtL.but {n:Nat} {l:List Nat} {w w':World} {B G:Nat} {v:Value} (h:PtL n l w B v) (hg:w.grownBy w' (some G)) (hG:B≤G):PtL n l w' B v:=by
 rcases h with h |⟨g,cap,e,hgB,hx⟩
 ·exact .inl h
 ·have hne:∀ i,some (⟨g,i,none⟩:Addr).block≠some G:=fun i e=>by injection e with e;simp at e;omega
  exact .inr ⟨g,cap,e,hgB,fun j a ha=>by
   obtain⟨h0,h1,h2⟩:=hx j a ha
   exact⟨hg.cell h0 (hne _),hg.cell h1 (hne _),hg.cell h2 (hne _)⟩⟩
theorem c_enter_ok (n wt:Nat) (D:Int) (w:World) (hT:Tab w) (h0:0<n) (hn:n≤120) (hwt:wt≤22) (hD:-120≤D) (hD':D≤120) (hck:Pl.check n ((wt:Int)+2) D=0):
  Calls Tryz.prog 73 #[.agg #[.int .i64 n,.int .i64 ((wt:Int)+2),.int .i64 D]] w fun e w'=>(∃ T,e=.returned (.tuple #[.pointer (some ⟨T,0,none⟩),.int .i64 0])∧WorldAt w' T w'.heap.size n wt (pts n (n*n)) (plAll n D (pts n (n*n)) n))∧Below w.heap.size w w':=by
 obtain⟨L,hL⟩:∃ l,pts n (n*n)=l:=⟨_,rfl⟩
 have hLl:L.length≤n*n:=hL▸pts_length n (n*n)
 obtain⟨NN,hNN⟩:∃ m,n*n=m:=⟨_,rfl⟩
 have hNl:NN≤14400:=by rw[← hNN];exact Nat.mul_le_mul hn hn
 have hnn:(n:Int)*(n:Int)=(NN:Nat):=by rw[← hNN];push_cast;rfl
 have hmk:=makeP NN (by omega)
 have HNN:=Kh hNN
 have HTB:=Kh hT
 have HCK:=Kh hck
 have HLE:=Kh hL
 rw[hL]
 rw[hNN]at hLl
 clear hNN hT hck hL
 go_enter Tryz.func73,Tryz.ntmps73
 go_wp2_with fail
 obtain⟨w0,hw0,X0,hb0⟩:=bx1 w #[.int .i64 n,.int .i64 ((wt:Int)+2),.int .i64 D] 40
 rw[hw0]
 refine(c_Check n ((wt:Int)+2) D w0).mono ?_
 rintro e w1 ⟨rfl,hb1⟩
 rw[HCK.out]
 have X1:=X0.below_ hb1 X0.lt
 have x0:=X1.at_ 0 rfl
 have HB1:=Kh (hb0.trans (hb1.mono hb0.size))
 have HX1:=Kh X1
 clear hw0 X0 hb0 hb1 X1
 go_wp2_with fail
 refine(c_PList n w1 h0 hn).mono ?_
 rintro e w2 ⟨⟨lv,rfl,hpt⟩,hb2⟩
 obtain⟨pl,cl,hlv⟩:=own_slice hpt.1
 subst hlv
 have hptl:=hpt.ptl
 rw[HLE.out]at hptl ⊢
 have HPT:=Kh hptl
 have HX2:=Kh (bk HX1 hb2)
 have HB2:=bt HB1 hb2
 have HT2:=Kh (HTB.out.below HB2.out)
 have a0:=HX2.out.at_ 0 rfl
 have a1:=HX2.out.at_ 1 rfl
 have hsub:(wt:Int)+2 - 2=(wt:Nat):=by omega
 have hw22:(0:Int)≤(wt:Int):=by omega
 have vN:IntKind.i64.wrap (NN:Int)=(NN:Nat):=IntWalk.i64_in _ (by omega)
 have vW:IntKind.i64.wrap (wt:Int)=(wt:Nat):=IntWalk.i64_in _ (by omega)
 clear hpt hptl hb2 x0 HB1 HX1 HTB HCK
 go_upto_region 8 with(fail)
 have HS1:=Kh (show ∀ w4,Below w2.heap.size w2 w4→(w4.cell? ⟨w.heap.size,1,none⟩=some (.int .i64 ((wt:Int)+2)))from fun w4 hb=>cell_next hb a1)
 have hS0:=HS1.out _ (Below.refl _ w2).drew
 go_region_held3 (fun w4=>w4.cell? ⟨w.heap.size,1,none⟩=some (.int .i64 ((wt:Int)+2)))
  (first|with_reducible exact hS0|exact HS1.out _ ((Below.refl _ w2).drew.alloc (Nat.le_refl _) _)|exact HS1.out _ (((Below.refl _ w2).alloc (Nat.le_refl _) _).drew)|exact HS1.out _ (((Below.refl _ w2).drew.alloc (Nat.le_refl _) _).alloc (Nat.le_of_lt (by simp)) _)|exact HS1.out _ ((((Below.refl _ w2).alloc (Nat.le_refl _) _).drew).alloc (Nat.le_of_lt (by simp)) _) |(exfalso;assumption))
  (fail)
 all_goals go_wp2
 have hcr0:=CRow.places w2 NN
 obtain⟨wx,hwx⟩:∃ wx,((w2.alloc (.cells (madeCells #[.int .i64 0,.int .i64 0] (NN*2)) 172)).alloc (.cells #[.int .i64 n,.int .i64 wt,.slice pl L.length cl,.slice (some ⟨w2.heap.size,0,none⟩) NN NN] 132)).drew=wx:=⟨_,rfl⟩
 have hbm:Below w2.heap.size w2 (w2.alloc (.cells (madeCells #[.int .i64 0,.int .i64 0] (NN*2)) 172)):=(Below.refl _ _).alloc (Nat.le_refl _) _
 have hbx:Below (w2.alloc (.cells (madeCells #[.int .i64 0,.int .i64 0] (NN*2)) 172)).heap.size (w2.alloc (.cells (madeCells #[.int .i64 0,.int .i64 0] (NN*2)) 172)) wx:=hwx▸((Below.refl _ _).alloc (Nat.le_refl _) _).drew
 have hsm:(w2.alloc (.cells (madeCells #[.int .i64 0,.int .i64 0] (NN*2)) 172)).heap.size=w2.heap.size+1:=by simp
 have hcr1:=hcr0.keep hbx
 have hmb:Blk wx (w2.heap.size+1) 132 #[.int .i64 n,.int .i64 wt,.slice pl L.length cl,.slice (some ⟨w2.heap.size,0,none⟩) NN NN]:=by
  have h:=Blk.new (w2.alloc (.cells (madeCells #[.int .i64 0,.int .i64 0] (NN*2)) 172)) 132 #[.int .i64 n,.int .i64 wt,.slice pl L.length cl,.slice (some ⟨w2.heap.size,0,none⟩) NN NN]
  rw[hsm]at h
  exact hwx▸h.below_ (Below.refl _ _).drew h.lt
 have hbw:Below w2.heap.size w2 wx:=hbm.trans (hbx.mono hbm.size)
 have hxs:=bk HX2 hbw
 have hptx:=HPT.out.next hbw
 rw[hwx]
 obtain⟨gP,hgP⟩:∃ gP,w2.heap.size=gP:=⟨_,rfl⟩
 obtain⟨T,hTe⟩:∃ T,gP+1=T:=⟨_,rfl⟩
 obtain⟨gs,hgs⟩:∃ gs,w.heap.size=gs:=⟨_,rfl⟩
 have HGS:=Kh (show gs<gP by have:=HX2.out.lt;omega)
 have HWS:=Kh (show w.heap.size≤gP by have:=HB2.out.size;omega)
 rw[hgP]at hcr1 hmb hbw hptx ⊢
 rw[hTe]at hmb ⊢
 rw[hgs]at hxs ⊢
 have HCR:=Kh hcr1
 have HMB:=Kh hmb
 have HBX:=Kh hbw
 have HXS:=Kh hxs
 have HPX:=Kh hptx
 have HGT:=Kh (show T≠gP by omega)
 have HTW:=Kh (show ∀ w',wx.grownBy w' (some gP)→Tab w' from fun w' hg=>HT2.out.below (hgP▸below_but hbw hg (by have:=hbw.size;omega) (Nat.le_refl _)))
 have HGW:=Kh (show gP≤wx.heap.size by have:=hmb.lt;omega)
 have HMX:=Kh (show T<wx.heap.size from hmb.lt)
 clear hcr0 hcr1 hmb hbw hxs hptx hwx hbm hbx hsm hgP hTe hgs hmk HS1 hS0 a0 a1 HX2 HPT HT2
 go_loopw [9] (fun v wr=>∃ l1:Nat,1≤l1∧l1≤n+1∧v=.int .i64 l1∧CRow (plc (plAll n D L (l1 - 1))) wr gP (NN*2)∧wx.grownBy wr (some gP)) (fun v _=>n+1 - (intOf v).toNat)
 case atStart=>exact⟨1,Nat.le_refl _,by omega,rfl,HCR.out,but_below gP (Below.refl _ _)⟩
 case round=>
  obtain⟨l1,hl1,hl2,rfl,hcr,hgr⟩:=hrel
  obtain⟨w3,rfl⟩:∃ w3:World,w3=wr:=⟨_,rfl⟩
  have HC3:=Kh hcr
  have HG3:=Kh hgr
  clear hcr hgr HCR
  have hsg:gs≠gP:=Nat.ne_of_lt HGS.out
  by_cases hlt:l1≤n
  ·have hli:(l1:Int)≤(n:Int):=by omega
   go_wp2_with fail
   refine(c_gcd l1 n w3 (by omega) (by omega) (by omega) (by omega)).mono ?_
   rintro e w4 ⟨rfl,m1,rfl⟩
   have hg1:Int.gcd (l1:Int) (n:Int)=Nat.gcd l1 n:=rfl
   rw[hg1]
   generalize hw4:w3.drewN m1=w4
   have hb4:Below w3.heap.size w3 w4:=hw4▸below_drewN' (Below.refl _ _) m1
   have HC4:=Kh (HC3.out.keep hb4)
   have HG4:=Kh (HG3.out.trans (but_below gP hb4))
   have HAT:=Kh (show plAll n D L l1=if pun n l1 then plRow n l1 (Pl.kroP D l1) L L.length (plAll n D L (l1 - 1))else plAll n D L (l1 - 1)by
    obtain⟨l,rfl⟩:∃ l,l1=l+1:=⟨l1 - 1,by omega⟩
    rfl)
   have HPU:=Kh (show pun n l1=(Nat.gcd l1 n==1)from rfl)
   clear hw4 hb4 hg1 HC3 HG3
   cases ho:(Nat.gcd l1 n==1)with
   | false=>
    have ho2:(((Nat.gcd l1 n:Nat):Int) != 1)=true:=by
     simp only[beq_eq_false_iff_ne]at ho
     simp;omega
    have HP:=Kh (show plAll n D L l1=plAll n D L (l1 - 1)by rw[HAT.out,HPU.out,ho];rfl)
    clear ho
    go_wp2
    go_roundw
    case rel=>exact⟨l1+1,by omega,by omega,by go_num,by rw[Nat.add_sub_cancel,HP.out];exact HC4.out,HG4.out⟩
    case measure=>simp[intOf];omega
   | true=>
    have ho2:(((Nat.gcd l1 n:Nat):Int) != 1)=false:=by
     simp only[beq_iff_eq]at ho
     rw[ho];rfl
    have HP:=Kh (show plAll n D L l1=plRow n l1 (Pl.kroP D l1) L L.length (plAll n D L (l1 - 1))by rw[HAT.out,HPU.out,ho];rfl)
    have x2:=HG4.out.cell (HXS.out.at_ 2 rfl) (fun e=>by injection e with e;exact hsg e)
    clear ho
    go_wp2_with fail
    refine(c_Kronecker D l1 w4 (HTW.out w4 HG4.out) (by omega) (by omega) (by omega) (by omega)).mono ?_
    rintro e w5 ⟨rfl,rfl⟩
    obtain⟨ch,hch⟩:∃ ch,Pl.kroP D l1=ch:=⟨_,rfl⟩
    rw[hch]at HP ⊢
    clear x2 hch
    go_wp2_with fail
    have HC0:=Kh (show CRow (plc (plRow n l1 ch L 0 (plAll n D L (l1 - 1)))) w4 gP (NN*2)from HC4.out)
    go_loopw [55] (fun ii w5=>∃ j:Nat,j≤L.length∧ii=.int .i64 j∧CRow (plc (plRow n l1 ch L j (plAll n D L (l1 - 1)))) w5 gP (NN*2)∧wx.grownBy w5 (some gP)) (fun ii _=>L.length - (intOf ii).toNat)
    case atStart=>exact⟨0,Nat.zero_le _,rfl,HC0.out,HG4.out⟩
    case round=>
     obtain⟨j,hj,rfl,hcr5,hgr5⟩:=hrel
     obtain⟨w5,rfl⟩:∃ w5:World,w5=wr:=⟨_,rfl⟩
     have HC5:=Kh hcr5
     have HG5:=Kh hgr5
     clear hcr5 hgr5 HC0 HC4 HG4
     by_cases hjl:j<L.length
     ·have hji:(j:Int)<(L.length:Int):=by omega
      obtain⟨a,ha⟩:∃ a,L[j]?=some a:=⟨_,List.getElem?_eq_getElem hjl⟩
      have haN:a<n*n:=by
       have h:=List.mem_of_getElem? ha
       rw[← HLE.out]at h
       exact pts_lt h
      have hgd:L.getD j 0=a:=by rw[List.getD_eq_getElem?_getD,ha];rfl
      have HGD:=Kh hgd
      rcases HPX.out.but HG5.out (Nat.le_refl _)with⟨h0',_⟩ |⟨gL,cap',e,hgL,hx⟩
      ·rw[h0']at hjl;simp at hjl
      cases e
      obtain⟨p0,p1,p2⟩:=hx j a ha
      have hdu:a / n<n:=Nat.div_lt_of_lt_mul haN
      have hdv:a % n<n:=Nat.mod_lt _ h0
      obtain⟨u,hu⟩:∃ u,a / n=u:=⟨_,rfl⟩
      obtain⟨v,hv⟩:∃ v,a % n=v:=⟨_,rfl⟩
      rw[hu]at p0 hdu
      rw[hv]at p1 hdv
      have HU:=Kh hu
      have HV:=Kh hv
      clear hu hv hgd ha haN hx
      go_wp2_with fail
      obtain⟨wb,hwb⟩:∃ wb,w5.alloc (.cells #[.int .i64 (u:Int),.int .i64 (v:Int),.int .i64 1] 170)=wb:=⟨_,rfl⟩
      have hbb:Below w5.heap.size w5 wb:=hwb▸(Below.refl _ _).alloc (Nat.le_refl _) _
      have X:=hwb▸Blk.new w5 170 #[.int .i64 (u:Int),.int .i64 (v:Int),.int .i64 1]
      rw[hwb]
      obtain⟨gb,hgb⟩:∃ gb,w5.heap.size=gb:=⟨_,rfl⟩
      rw[hgb]at X ⊢
      have hTb:T≠gP:=HGT.out
      have hgbP:gb≠gP:=by have:=HG5.out.size;have:=HGW.out;have:=HC5.out.stk.1;omega
      obtain⟨SU,hSU⟩:∃ x,l1*u=x:=⟨_,rfl⟩
      obtain⟨SW,hSW⟩:∃ x,l1*v=x:=⟨_,rfl⟩
      obtain⟨P1,hP1⟩:∃ x,SU % n=x:=⟨_,rfl⟩
      obtain⟨P2,hP2⟩:∃ x,SW % n=x:=⟨_,rfl⟩
      obtain⟨PN,hPN⟩:∃ x,P1*n=x:=⟨_,rfl⟩
      have q1:SU≤14400:=by rw[← hSU];exact Nat.mul_le_mul (by omega:l1≤120) (by omega:u≤120)
      have q2:SW≤14400:=by rw[← hSW];exact Nat.mul_le_mul (by omega:l1≤120) (by omega:v≤120)
      have q3:P1<n:=hP1▸Nat.mod_lt _ h0
      have q4:P2<n:=hP2▸Nat.mod_lt _ h0
      have q5:PN≤14400:=by rw[← hPN];exact Nat.mul_le_mul (by omega:P1≤120) (by omega:n≤120)
      have e1:(l1:Int)*(u:Int)=(SU:Nat):=by rw[← hSU];push_cast;rfl
      have e2:(l1:Int)*(v:Int)=(SW:Nat):=by rw[← hSW];push_cast;rfl
      have e3:(SU:Int).tmod (n:Int)=(P1:Nat):=by rw[Int.tmod_eq_emod_of_nonneg (by omega),← hP1];rfl
      have e4:(SW:Int).tmod (n:Int)=(P2:Nat):=by rw[Int.tmod_eq_emod_of_nonneg (by omega),← hP2];rfl
      have e5:(P1:Int)*(n:Int)=(PN:Nat):=by rw[← hPN];push_cast;rfl
      have hpm:PN+P2=pmul n l1 a:=by unfold pmul;rw[HU.out,HV.out,hSU,hSW,hP1,hP2,hPN]
      obtain⟨IX,hIX⟩:∃ x,PN+P2=x:=⟨_,rfl⟩
      have e6:(PN:Int)+(P2:Int)=(IX:Nat):=by omega
      have hIN:IX<NN:=by rw[← hIX,hpm,← HNN.out];exact pmul_lt h0 l1 a
      have hINi:(IX:Int)<(NN:Int):=by omega
      have HIX:=Kh (show IX=pmul n l1 a by rw[← hIX,hpm])
      have hcb:=HC5.out.keep hbb
      have d0:=hcb.val (IX*2) (by omega)
      have d1:=hcb.free (IX*2) (by omega)
      have d2:=hcb.val (IX*2+1) (by omega)
      have d3:=hcb.free (IX*2+1) (by omega)
      have hni:(n:Int)≠0:=by omega
      have z1:((n:Int)==0)=false:=by simpa using hni
      have z2:n≠0:=by omega
      have i0:(0:Int)≤(IX:Int):=by omega
      have v1:IntKind.i64.wrap (SU:Int)=(SU:Nat):=IntWalk.i64_in _ (by omega)
      have v2:IntKind.i64.wrap (SW:Int)=(SW:Nat):=IntWalk.i64_in _ (by omega)
      have v3:IntKind.i64.wrap (PN:Int)=(PN:Nat):=IntWalk.i64_in _ (by omega)
      have v5:IntKind.i64.wrap (P1:Int)=(P1:Nat):=IntWalk.i64_in _ (by omega)
      have v6:IntKind.i64.wrap (P2:Int)=(P2:Nat):=IntWalk.i64_in _ (by omega)
      have v4:IntKind.i64.wrap (IX:Int)=(IX:Nat):=IntWalk.i64_in _ (by omega)
      have hgx:=HG5.out.trans (but_below gP hbb)
      have b0:=X.at_ 0 rfl
      have b1:=X.at_ 1 rfl
      have t3:=hgx.cell (HMB.out.at_ 3 rfl) (fun e=>by injection e with e;exact hTb e)
      have hS0:wb.drew.cell? ⟨T,3,none⟩=some (.slice (some ⟨gP,0,none⟩) NN NN)∧wb.drew.cell? ⟨gb,0,none⟩=some (.int .i64 (u:Int))∧wb.drew.cell? ⟨gb,1,none⟩=some (.int .i64 (v:Int)):=⟨t3,b0,b1⟩
      have HSA:=Kh (show ∀ (X:World) (i j:Nat) (v1 v2:Value),(X.cell? ⟨T,3,none⟩=some (.slice (some ⟨gP,0,none⟩) NN NN)∧X.cell? ⟨gb,0,none⟩=some (.int .i64 (u:Int))∧X.cell? ⟨gb,1,none⟩=some (.int .i64 (v:Int)))→(((X.setCell ⟨gP,i,none⟩ v1).setCell ⟨gP,j,none⟩ v2).cell? ⟨T,3,none⟩=some (.slice (some ⟨gP,0,none⟩) NN NN)∧((X.setCell ⟨gP,i,none⟩ v1).setCell ⟨gP,j,none⟩ v2).cell? ⟨gb,0,none⟩=some (.int .i64 (u:Int))∧((X.setCell ⟨gP,i,none⟩ v1).setCell ⟨gP,j,none⟩ v2).cell? ⟨gb,1,none⟩=some (.int .i64 (v:Int)))from fun X i j v1 v2 h=>⟨by rw[World.cell?_setCell_far _ _ _ _ (by exact hTb.symm),World.cell?_setCell_far _ _ _ _ (by exact hTb.symm)];exact h.1,by rw[World.cell?_setCell_far _ _ _ _ (by exact hgbP.symm),World.cell?_setCell_far _ _ _ _ (by exact hgbP.symm)];exact h.2.1,by rw[World.cell?_setCell_far _ _ _ _ (by exact hgbP.symm),World.cell?_setCell_far _ _ _ _ (by exact hgbP.symm)];exact h.2.2⟩)
      have HCB:=Kh hcb
      have HGB:=Kh hgx
      clear hSU hSW hP1 hP2 hPN hpm hIX hcb hgx X hwb hbb b0 b1 t3 p0 p1 p2 hgb
      go_upto_region 17 with(fail)
      go_region_held3 (fun w'=>w'.cell? ⟨T,3,none⟩=some (.slice (some ⟨gP,0,none⟩) NN NN)∧w'.cell? ⟨gb,0,none⟩=some (.int .i64 (u:Int))∧w'.cell? ⟨gb,1,none⟩=some (.int .i64 (v:Int)))
       (first|with_reducible exact hS0|exact HSA.out _ _ _ _ _ hS0)
       (fail)
      all_goals go_wp2
      all_goals go_roundw
      all_goals first
       | exact⟨j+1,by omega,by go_num,by rw[plRow,HGD.out,← HIX.out];exact(HCB.out.place (p:=IX) (j,ch)).keep (Below.refl _ _).drew,(HGB.out.trans ((but_put wb gP _ _).trans (but_put _ gP _ _))).trans (but_below gP (Below.refl _ _).drew)⟩
       |(simp[intOf];omega)
     ·obtain rfl:L.length=j:=by omega
      go_wp2
      go_roundw
      case rel=>exact⟨l1+1,by omega,by omega,by go_num,by rw[Nat.add_sub_cancel,HP.out];exact HC5.out,HG5.out⟩
      case measure=>simp[intOf];omega
  ·obtain rfl:n+1=l1:=by omega
   have hgt:¬ ((n:Int)+1≤(n:Int)):=by omega
   have hTP:T≠gP:=HGT.out
   have hsz:=HG3.out.size
   have HWA:=Kh (show WorldAt w3 T w3.heap.size n wt L (plAll n D L n)from
    ⟨by have:=HMX.out;omega,HG3.out.cell (HMB.out.at_ 0 rfl) (fun e=>by injection e with e;exact hTP e),HG3.out.cell (HMB.out.at_ 1 rfl) (fun e=>by injection e with e;exact hTP e),
     ⟨pl,cl,HG3.out.cell (HMB.out.at_ 2 rfl) (fun e=>by injection e with e;exact hTP e),(HPX.out.but HG3.out (Nat.le_refl _)).up (Nat.le_trans HGW.out hsz)⟩,
     gP,by rw[HNN.out];exact HG3.out.cell (HMB.out.at_ 3 rfl) (fun e=>by injection e with e;exact hTP e),HC3.out.stk.1,fun i hi=>HC3.out.val i (by rw[← HNN.out];exact hi)⟩)
   have HBE:=Kh (show Below w.heap.size w w3 from below_but (HB2.out.trans (HBX.out.mono HWS.out)) HG3.out (Nat.le_trans HWS.out HGW.out) HWS.out)
   clear hsz
   go_wp2
   (first|go_ret2|go_ret)
   exact⟨⟨T,rfl,HWA.out⟩,HBE.out⟩
theorem c_enter_bad (N k D:Int) (w:World) (hck:Pl.check N k D≠0):
  Calls Tryz.prog 73 #[.agg #[.int .i64 N,.int .i64 k,.int .i64 D]] w fun e w'=>e=.returned (.tuple #[.pointer none,.int .i64 (Pl.check N k D)])∧Below w.heap.size w w':=by
 obtain⟨er,her⟩:∃ er,Pl.check N k D=er:=⟨_,rfl⟩
 have HER:=Kh her
 rw[her]at hck ⊢
 clear her
 go_enter Tryz.func73,Tryz.ntmps73
 go_wp2_with fail
 obtain⟨w0,hw0,X0,hb0⟩:=bx1 w #[.int .i64 N,.int .i64 k,.int .i64 D] 40
 rw[hw0]
 refine(c_Check N k D w0).mono ?_
 rintro e w1 ⟨rfl,hb1⟩
 have HB:=Kh (hb0.trans (hb1.mono hb0.size))
 rw[HER.out]
 have hne:(er != 0)=true:=by simpa using hck
 clear hw0 X0 hb0 hb1
 go_wp2
 (first|go_ret2|go_ret)
 exact⟨rfl,HB.out⟩
theorem c_resW (T B n wt:Nat) (L:List Nat) (f:Nat→Nat×Int) (x:Int) (w:World) (h:WorldAt w T B n wt L f) (h0:0<n) (hn:n≤120):
  Calls Tryz.prog 116 #[.pointer (some ⟨T,0,none⟩),.int .i64 x] w fun e w'=>e=.returned (.int .i64 (x % (n:Int)))∧w'=w:=by
 have h1:-(n:Int)<x.tmod n:=by have:=Int.lt_tmod_of_pos x (show(0:Int)<n by omega);omega
 have h2:x.tmod n<n:=Int.tmod_lt_of_pos x (by omega)
 have HE:=Kh (emod_of_tmod x n (by omega))
 have c0:=h.c0
 have hni:(n:Int)≠0:=by omega
 clear h
 go_enter Tryz.func116,Tryz.ntmps116
 go_wp2
 all_goals (go_ret;refine⟨ret_i ?_,rfl⟩;rw[← HE.out];first |(rw[if_pos (by omega)];done) |(rw[if_neg (by omega)];done))
theorem c_countW (T B n wt:Nat) (L:List Nat) (f:Nat→Nat×Int) (w:World) (h:WorldAt w T B n wt L f) (hwt:wt≤22) (hL:L.length≤14400):
  Calls Tryz.prog 74 #[.pointer (some ⟨T,0,none⟩)] w fun e w'=>e=.returned (.int .i64 (((wt+1)*L.length:Nat):Int))∧∃ m,w'=w.drewN m:=by
 obtain⟨p,c,e2,_⟩:=h.c2
 have c1:=h.c1
 obtain⟨P,hP⟩:∃ P,(wt+1)*L.length=P:=⟨_,rfl⟩
 have hPl:P≤331200:=by rw[← hP];exact Nat.mul_le_mul (by omega:wt+1≤23) hL
 have e1:((wt:Int)+1)*(L.length:Int)=(P:Nat):=by rw[← hP];push_cast;rfl
 rw[hP]
 clear h hP
 go_enter Tryz.func74,Tryz.ntmps74
 go_wp2_with fail
 go_quiet (fail)
 go_wp2
 go_ret
 exact⟨rfl,_,rfl⟩
theorem c_atW (T B n wt:Nat) (L:List Nat) (f:Nat→Nat×Int) (x y:Int) (w:World) (h:WorldAt w T B n wt L f) (hB:B≤w.heap.size) (h0:0<n) (hn:n≤120):
  Calls Tryz.prog 117 #[.pointer (some ⟨T,0,none⟩),.int .i64 x,.int .i64 y] w fun e w'=>e=.returned (.agg #[.int .i64 ((f ((x % n).toNat*n+(y % n).toNat)).1:Int),.int .i64 (f ((x % n).toNat*n+(y % n).toNat)).2])∧Below w.heap.size w w':=by
 obtain⟨NN,hNN⟩:∃ m,n*n=m:=⟨_,rfl⟩
 have hNl:NN≤14400:=by rw[← hNN];exact Nat.mul_le_mul hn hn
 have hu0:=Int.emod_nonneg x (show(n:Int)≠0 by omega)
 have hu1:=Int.emod_lt_of_pos x (show(0:Int)<n by omega)
 have hv0:=Int.emod_nonneg y (show(n:Int)≠0 by omega)
 have hv1:=Int.emod_lt_of_pos y (show(0:Int)<n by omega)
 obtain⟨u,hu⟩:∃ u:Nat,x % (n:Int)=u:=⟨(x % n).toNat,by omega⟩
 obtain⟨v,hv⟩:∃ v:Nat,y % (n:Int)=v:=⟨(y % n).toNat,by omega⟩
 rw[hu,hv,Int.toNat_natCast,Int.toNat_natCast]
 rw[hu]at hu0 hu1
 rw[hv]at hv0 hv1
 obtain⟨UN,hUN⟩:∃ x,u*n=x:=⟨_,rfl⟩
 have e1:(u:Int)*(n:Int)=(UN:Nat):=by rw[← hUN];push_cast;rfl
 have hIN:UN+v<NN:=by
  rw[← hUN,← hNN]
  calc u*n+v<u*n+n:=by omega
   _=(u+1)*n:=by rw[Nat.add_mul,Nat.one_mul]
   _≤n*n:=Nat.mul_le_mul_right _ (by omega)
 rw[hUN]
 obtain⟨IX,hIX⟩:∃ x,UN+v=x:=⟨_,rfl⟩
 rw[hIX]at hIN ⊢
 have e2:(UN:Int)+(v:Int)=(IX:Nat):=by omega
 have HRU:=Kh (fun w' (hb:Below w.heap.size w w')=>c_resW T B n wt L f x w' (h.keep hB hb) h0 hn)
 have HRV:=Kh (fun w' (hb:Below w.heap.size w w')=>c_resW T B n wt L f y w' (h.keep hB hb) h0 hn)
 rw[hu]at HRU
 rw[hv]at HRV
 obtain⟨gP,e3,hgP,h3⟩:=h.c3
 rw[hNN]at e3 h3
 have p0:=h3 (IX*2) (by omega)
 have p1:=h3 (IX*2+1) (by omega)
 have q0:plc f (IX*2)=.int .i64 ((f IX).1:Int):=by unfold plc;rw[if_pos (by omega),show IX*2 / 2=IX by omega]
 have q1:plc f (IX*2+1)=.int .i64 (f IX).2:=by unfold plc;rw[if_neg (by omega),show(IX*2+1) / 2=IX by omega]
 rw[q0]at p0
 rw[q1]at p1
 have t0:=h.c0
 have t3:=e3
 have hTB:T<w.heap.size:=Nat.lt_of_lt_of_le h.lt hB
 have hgB:gP<w.heap.size:=Nat.lt_of_lt_of_le hgP hB
 have i0:(0:Int)≤(IX:Int):=by omega
 have i1:(IX:Int)<(NN:Int):=by omega
 have v1:IntKind.i64.wrap (UN:Int)=(UN:Nat):=IntWalk.i64_in _ (by omega)
 have v2:IntKind.i64.wrap (IX:Int)=(IX:Nat):=IntWalk.i64_in _ (by omega)
 clear hu hv hUN hIX h e3 h3 q0 q1 hNN
 go_enter Tryz.func117,Tryz.ntmps117
 go_upto_region 1 with(fail)
 obtain⟨w0,hw0⟩:∃ w0,w.alloc (.cells #[.int .i64 0,.int .i64 0] 172)=w0:=⟨_,rfl⟩
 have hb0:Below w.heap.size w w0:=hw0▸(Below.refl _ _).alloc (Nat.le_refl _) _
 have X:=hw0▸Blk.new w 172 #[.int .i64 0,.int .i64 0]
 rw[hw0]
 obtain⟨R,hR⟩:∃ R,w.heap.size=R:=⟨_,rfl⟩
 have t0:=cell_next hb0 t0
 have t3:=cell_next hb0 t3
 have p0:=cell_next hb0 p0
 have p1:=cell_next hb0 p1
 have HRU:=Kh (fun w' (hb:Below w0.heap.size w0 w')=>HRU.out w' (hb0.trans (hb.mono hb0.size)))
 have HRV:=Kh (fun w' (hb:Below w0.heap.size w0 w')=>HRV.out w' (hb0.trans (hb.mono hb0.size)))
 have hTR:R≠T:=by omega
 have hgR:R≠gP:=by omega
 have HB0:=Kh hb0
 have HRE:=Kh hR
 rw[hR]at X HB0 ⊢
 have hru:=HRU.out w0.drew (Below.refl _ w0).drew
 have hrv:=HRV.out w0.drew (Below.refl _ w0).drew
 have HXB:=Kh X
 have r0:=X.at_ 0 rfl
 have r1:=X.at_ 1 rfl
 have f0:=X.free_ 0
 have f1:=X.free_ 1
 clear hw0 hb0 hTB hgB hR X
 have hS0:w0.drew.cell? ⟨T,0,none⟩=some (.int .i64 (n:Int))∧w0.drew.cell? ⟨T,3,none⟩=some (.slice (some ⟨gP,0,none⟩) NN NN)∧w0.drew.cell? ⟨gP,IX*2,none⟩=some (.int .i64 ((f IX).1:Int))∧w0.drew.cell? ⟨gP,IX*2+1,none⟩=some (.int .i64 (f IX).2):=⟨t0,t3,p0,p1⟩
 have HSA:=Kh (show ∀ (X:World) (v1 v2:Value),(X.cell? ⟨T,0,none⟩=some (.int .i64 (n:Int))∧X.cell? ⟨T,3,none⟩=some (.slice (some ⟨gP,0,none⟩) NN NN)∧X.cell? ⟨gP,IX*2,none⟩=some (.int .i64 ((f IX).1:Int))∧X.cell? ⟨gP,IX*2+1,none⟩=some (.int .i64 (f IX).2))→(((X.setCell ⟨R,0,none⟩ v1).setCell ⟨R,1,none⟩ v2).cell? ⟨T,0,none⟩=some (.int .i64 (n:Int))∧((X.setCell ⟨R,0,none⟩ v1).setCell ⟨R,1,none⟩ v2).cell? ⟨T,3,none⟩=some (.slice (some ⟨gP,0,none⟩) NN NN)∧((X.setCell ⟨R,0,none⟩ v1).setCell ⟨R,1,none⟩ v2).cell? ⟨gP,IX*2,none⟩=some (.int .i64 ((f IX).1:Int))∧((X.setCell ⟨R,0,none⟩ v1).setCell ⟨R,1,none⟩ v2).cell? ⟨gP,IX*2+1,none⟩=some (.int .i64 (f IX).2))from fun X v1 v2 h=>⟨by rw[World.cell?_setCell_far _ _ _ _ (by exact hTR),World.cell?_setCell_far _ _ _ _ (by exact hTR)];exact h.1,by rw[World.cell?_setCell_far _ _ _ _ (by exact hTR),World.cell?_setCell_far _ _ _ _ (by exact hTR)];exact h.2.1,by rw[World.cell?_setCell_far _ _ _ _ (by exact hgR),World.cell?_setCell_far _ _ _ _ (by exact hgR)];exact h.2.2.1,by rw[World.cell?_setCell_far _ _ _ _ (by exact hgR),World.cell?_setCell_far _ _ _ _ (by exact hgR)];exact h.2.2.2⟩)
 clear t0 t3 p0 p1
 go_region_held3 (fun w1=>w1.cell? ⟨T,0,none⟩=some (.int .i64 (n:Int))∧w1.cell? ⟨T,3,none⟩=some (.slice (some ⟨gP,0,none⟩) NN NN)∧w1.cell? ⟨gP,IX*2,none⟩=some (.int .i64 ((f IX).1:Int))∧w1.cell? ⟨gP,IX*2+1,none⟩=some (.int .i64 (f IX).2))
  (first|with_reducible exact hS0|exact HSA.out _ _ _ hS0)
  (first
   |(go_at_call 116;with_reducible refine hru.mono ?_;rintro e w2 ⟨rfl,rfl⟩)
   |(go_at_call 116;with_reducible refine hrv.mono ?_;rintro e w2 ⟨rfl,rfl⟩))
 all_goals go_wp2
 have hE:=(((HXB.out.set_ 0 (.int .i64 ((f IX).1:Int))).set_ 1 (.int .i64 (f IX).2)).below_ (Below.refl _ _).drew (by have:=HXB.out.lt;simpa using this))
 have e0:=hE.at_ 0 rfl
 have e1:=hE.at_ 1 rfl
 try simp only[Exit.inBlock,Exit.then]
 refine bodyPost_ret (by simp[results,Tryz.results117,go_sem,e0,e1];try rfl) rfl ?_
 exact⟨rfl,HRE.out▸((HB0.out.setCell (p:=⟨R,0,none⟩) (Nat.le_refl _) _).setCell (p:=⟨R,1,none⟩) (Nat.le_refl _) _).drew⟩
theorem c_Qs (g c n:Nat) (f:Nat→Int) (w:World) (hg:g<w.heap.size) (hc:∀ j,j<n→w.cell? ⟨g,j,none⟩=some (.int .i64 (f j))) (hf:∀ j,j<n→-2147483648≤f j∧f j≤2147483648) (hn:n≤1000000):
  Calls Tryz.prog 30 #[.slice (some ⟨g,0,none⟩) n c] w fun e w'=>(∃ v',e=.returned v'∧OwnQ (fun j=>IsQ (f j:Rat)) w' w.heap.size v' n)∧Below w.heap.size w w':=by
 have HN:=Kh (OwnQ.nil (fun j=>IsQ (f j:Rat)) w w.heap.size)
 have R1:=Kh hc
 have HF:=Kh hf
 clear hc hf
 go_enter Tryz.func30,Tryz.ntmps30
 go_wp2
 go_loopw [3,4] (fun v i wr=>∃ k:Nat,k≤n∧i=.int .i64 k∧OwnQ (fun j=>IsQ (f j:Rat)) wr w.heap.size v k∧Below w.heap.size w wr) (fun _ i _=>n - (intOf i).toNat)
 case atStart=>exact⟨0,Nat.zero_le _,rfl,HN.out,Below.refl _ _⟩
 case round=>
  obtain⟨k,hk,rfl,ho,hb⟩:=hrel
  have HO:=Kh ho
  have HB:=Kh hb
  clear ho HN
  by_cases hlt:k<n
  ·have a0:wr.cell? ⟨g,k,none⟩=some (.int .i64 (f k)):=(hb.cell (p:=⟨g,k,none⟩) hg).trans (R1.out k hlt)
   have HC:=Kh (c_Q (f k) wr (HF.out k hlt).1 (HF.out k hlt).2)
   clear hb
   go_wp2_with fail
   refine HC.out.mono ?_
   rintro e w2 ⟨⟨s,p1,i1,c1,t,q1,m,d1,rfl,hq⟩,hb2⟩
   obtain⟨xs,hK,hX⟩:=HO.out.keep (fun _=>IsQ.solid _) hb2
   have HK:=Kh hK
   have HX:=Kh hX
   have HQ:=Kh (show IsQ (f k:Rat) w2 s p1 i1 c1 t q1 m d1 from hq)
   have HB1:=bt HB hb2
   clear hK hX hq hb2 HO HB a0 HC
   go_wp2_with (at_builtin;refine wpl_app2 NotInt rfl (.tmp 11) (.tmp 17) _ 67 rfl Tryz.underlying22 ratInfo rfl (by decide) w.heap.size k u3 xs [.bool s,.slice p1 i1 c1,.bool t,.slice q1 m d1] rfl HK.out rfl rfl (one4 _ _ _ _ _ _ _ _) (by omega) (by omega) HB1.out.size (ni4 _ _ _ _ _ _ _ _) niz ?_;intro v' w' hown' hgr hat;have HO2:=Kh (OwnQ.push (W:=_) (fun _=>IsQ.solid _) HK.out HX.out HQ.out hown' hgr);have HB2:=Kh (own_below HB1.out HK.out.1 hgr (Nat.le_refl _) HB1.out.size);clear hown' hgr hat)
   go_roundw
   case rel=>exact⟨k+1,by omega,by go_num,HO2.out,HB2.out⟩
   case measure=>simp[intOf];omega
  ·obtain rfl:k=n:=by omega
   clear hb
   go_wp2
   go_ret
   exact⟨⟨_,rfl,HO.out⟩,HB.out⟩
end Go.Proofs.YtijgdhijdfgpfaaGreatDoor
