/- halfplanebase.Rows of one row of one number. -/
import Derived.Test.YtenlbhlllgppmaaGreatDoorK37
import Derived.Test.YtenlbhlllgppmaaGreatDoorK26
import Derived.Test.YtenlbhlllgppmaaGreatDoorK13
import Derived.Test.YtenlbhlllgppmaaGreatDoorK38
import Derived.Test.YtenlbhlllgppmaaGreatDoorK22
set_option linter.unusedSimpArgs false
set_option maxRecDepth 100000
set_option maxHeartbeats 8000000
namespace Go.Proofs.YtenlbhlllgppmaaGreatDoor
open Go.RowKit Eli
theorem c_Rows1 (z:Int) (g2 g1:Nat) (w:World) (h2:g2<w.heap.size) (h1:g1<w.heap.size) (hc2:w.cell? ⟨g2,0,none⟩=some (.slice (some ⟨g1,0,none⟩) 1 1)) (hc1:w.cell? ⟨g1,0,none⟩=some (.int .i64 z)) (hz:-2147483648≤z∧z≤2147483648):
  Calls Tryz.prog 45 #[.slice (some ⟨g2,0,none⟩) 1 1] w fun e w'=>(∃ p c,e=.returned (.agg #[.int .i64 1,.int .i64 1,.slice p 1 c])∧QL (fun _=>IsQ (z:Rat)) w' (.slice p 1 c) 1)∧Below w.heap.size w w':=by
 go_enter Tryz.func45,Tryz.ntmps45
 go_wp2_with fail
 obtain⟨wx,hwx,X0,Y0,hbx⟩:=bx2 w #[.int .i64 0,.int .i64 0,.slice none 0 0] 32 #[.int .i64 1,.int .i64 0,.slice none 0 0] 32
 rw[hwx]
 obtain⟨gr,hgr⟩:∃ x,w.heap.size=x:=⟨_,rfl⟩
 obtain⟨ob,hob⟩:∃ x,gr+1=x:=⟨_,rfl⟩
 have HGE:=Kh hgr
 have HBX:=Kh (show Below gr w wx from hgr▸hbx)
 rw[hgr]at X0 Y0 h1 h2
 rw[hob]at Y0
 try rw[hgr]
 try rw[hob]
 have HGO:=Kh (show gr<ob by omega)
 have HXR:=Kh X0
 have HY:=Kh Y0
 obtain⟨BB,hBB⟩:∃ x,wx.heap.size=x:=⟨_,rfl⟩
 have HBB:=Kh hBB
 have HOB:=Kh (show ob<BB from hBB▸Y0.lt)
 have HC2:=Kh ((HBX.out.cell (p:=⟨g2,0,none⟩) h2).trans hc2)
 have HC1:=Kh ((HBX.out.cell (p:=⟨g1,0,none⟩) h1).trans hc1)
 have HZZ:=Kh hz
 have HLT:=Kh (And.intro h1 h2)
 clear hwx X0 Y0 hbx hBB hc2 hc1 hz h1 h2 hgr hob
 go_loopw [4] (fun ii wr=>∃ k:Nat,ii=.int .i64 k∧((k=0∧wr=wx)∨(k=1∧MatAt (fun _=>IsQ (z:Rat)) wr ob BB 1 1 1∧wx.grownBy wr (some ob)))) (fun ii _=>1 - (intOf ii).toNat)
 case atStart=>exact⟨0,rfl,.inl ⟨rfl,rfl⟩⟩
 case round=>
  obtain⟨k,rfl,⟨rfl,rfl⟩ |⟨rfl,hmat,hgw⟩⟩:=hrel
  ·have l1:=HC2.out
   have y0:=HY.out.at_ 0 rfl
   have y1:=HY.out.at_ 1 rfl
   have q1:=HY.out.free_ 1
   go_upto_region 6 with(fail)
   clear l1
   obtain⟨ws,hws⟩:∃ ws,wr.setCell ⟨ob,1,none⟩ (.int .i64 1)=ws:=⟨_,rfl⟩
   have hgs:wr.grownBy ws (some ob):=hws▸but_put wr ob 1 _
   have hsst:Stk NotU32 ws ob:=hws▸stk_put (Stk.of HY.out (by intro v hv;simp at hv;rcases hv with rfl|rfl|rfl <;> exact fun _ h=>by cases h)) _ _ (fun _ h=>by cases h)
   have x0:ws.cell? ⟨ob,0,none⟩=some (.int .i64 1):=by rw[← hws,World.cell?_setCell_other _ _ _ _ (by simp)];exact y0
   have x1:ws.cell? ⟨ob,1,none⟩=some (.int .i64 1):=by rw[← hws];exact World.cell?_setCell_same' _ _ _ (by rw[y1];rfl)
   have x2:ws.cell? ⟨ob,2,none⟩=some (.slice none 0 0):=by rw[← hws,World.cell?_setCell_other _ _ _ _ (by simp)];exact HY.out.at_ 2 rfl
   have f2:ws.frozen? ⟨ob,2,none⟩=false:=hws▸frozen_set (HY.out.free_ 2)
   have hsz:ws.heap.size=BB:=by rw[← hws,← HBB.out];simp
   have l1:ws.cell? ⟨g2,0,none⟩=some (.slice (some ⟨g1,0,none⟩) 1 1):=hgs.cell HC2.out (fun e=>by injection e with e;have h1:=HLT.out;have h2:=HGO.out;have h3:g2=ob:=e;omega)
   have hl0:ws.cell? ⟨g1,0,none⟩=some (.int .i64 z):=hgs.cell HC1.out (fun e=>by injection e with e;have h1:=HLT.out;have h2:=HGO.out;have h3:g1=ob:=e;omega)
   rw[hws]
   have HBW:=Kh (show BB≤ws.heap.size by omega)
   have HX2:=Kh x2
   have HVS:=Kh (show ∀ j:Nat,Solid ((fun _=>IsQ (z:Rat)) j)from fun _=>IsQ.solid _)
   have HMT:=Kh (show MatAt (fun _=>IsQ (z:Rat)) ws ob BB 1 1 0 from⟨HOB.out,by omega,x0,x1,⟨none,0,x2,OwnQ.nil _ _ _⟩,f2,hsst⟩)
   have HGW:=Kh hgs
   have HQS:=Kh (fun W (hb:Below ws.heap.size ws W)=>c_Qs g1 1 1 (fun _=>z) W (Nat.lt_of_lt_of_le (show g1<ws.heap.size by have:=HLT.out;have:=HGO.out;have:=HOB.out;omega) hb.size) (fun j hj=>by rw[show j=0 by omega];exact cell_next hb hl0) (fun _ _=>HZZ.out) (by decide))
   clear hws hgs hsst x0 x1 hsz hl0 y0 y1 q1
   refine rgB (fun W=>W.cell? ⟨g2,0,none⟩=some (.slice (some ⟨g1,0,none⟩) 1 1)∧W.cell? ⟨ob,2,none⟩=some (.slice none 0 0)∧W.frozen? ⟨ob,2,none⟩=false) (fun W hb=>⟨cnx hb l1,cnx hb x2,frozen_keep hb (by rw[x2];rfl) (f2)⟩) (fun HSE hHeld0=>?_)
   refine tkE 0 ?_;refine tkE 1 ?_;refine tkE 2 ?_;refine tkE 3 ?_;refine tkE 4 ?_;refine tkE 5 ?_
   refine stE 6 rfl (fun K hK=>?_)
   focus(go_simp;(refine(HQS.out ws.drew (Below.refl _ ws).drew).mono ?_);rintro e w5 ⟨⟨v5,rfl,ho5⟩,hb5⟩;obtain⟨g5,c5,rfl,_,hrow5⟩:=ho5.row.resolve_left (fun h=>absurd h.1 (by decide));have HB5:=Kh ((Below.refl _ ws).drew.trans hb5:Below ws.heap.size ws w5);have HRW:=Kh hrow5;clear ho5 hrow5 hb5;(first|with_reducible refine hK.out _ _ ?_ (fun hHeld1=>?_) |(go_wp2_with fail;with_reducible refine hK.out _ _ ?_ (fun hHeld1=>?_))))
   focus((try dsimp only);exact HSE.out _ HB5.out)
   focus(clear hK K;(try simp only[Act.put,lsa,lsz,lss]))
   refine stE 7 rfl (fun K hK=>?_)
   focus(refine step_appN (W:=w5) NotInt rfl (.tmp 21) (.tmp 26) _ 86 rfl Tryz.underlying30 ratInfo rfl (by decide) BB 0 1 g5 c5 (.slice none 0 0) [] (rowCells w5 g5 (1*4)) (by rfl) (OwnK.nil _ _ _ _ _) (by rfl) (rowCells_length _ _ _) HRW.out.cells HRW.out.one (by omega) (by omega) (Nat.le_trans HBW.out HB5.out.size) HRW.out.ni niz ?_;intro v9 w9 hown9 hgr9;obtain⟨p9,c9,rfl⟩:=own_slice hown9.1;have HO9:=Kh (OwnQ.more HVS.out (OwnK.nil _ _ _ _ _) (fun j hj=>absurd hj (Nat.not_lt_zero _)) HRW.out hown9 hgr9 (fun j _=>rfl));obtain⟨d2,df,hm9⟩:=MatAt.more HVS.out (HMT.out.keep HVS.out HB5.out) (cell_next HB5.out HX2.out) (World.ownsRow_nil _ _ _ _) HO9.out hgr9;have HM9:=Kh hm9;have HSP:=Kh (And.intro (hgr9.cell (cell_next HB5.out l1) (fun e=>by cases e)) (And.intro d2 df));have HG9:=Kh ((grown_own (HGW.out.trans (but_below ob HB5.out)) hgr9 HBB.out.symm (fun b hb=>by cases hb)).trans (but_put w9 ob 2 (.slice p9 (0+1) c9)));clear hm9 hown9 hgr9 d2 df;(first|with_reducible refine hK.out _ _ ?_ (fun hHeld2=>?_) |(go_wp2_with fail;with_reducible refine hK.out _ _ ?_ (fun hHeld2=>?_))))
   focus((try dsimp only);exact HSP.out)
   focus(clear hK K;(try simp only[Act.put,lsa,lsz,lss]))
   refine tkE 8 ?_
   refine laE 9 rfl (fun K hK=>?_)
   go_simp
   refine hK.out _ _ ?_
   clear hK K
   (try simp only[Act.put,lsa,lsz,lss])
   all_goals go_wp2
   all_goals go_roundw
   all_goals first
    | exact⟨1,by go_num,.inr ⟨rfl,HM9.out,HG9.out⟩⟩
    |(simp[intOf];done)
  ·obtain⟨p,c,g2',hOQ⟩:=hmat.c2
   have a0:=hmat.c0
   have a1:=hmat.c1
   have hgo:gr≠ob:=Nat.ne_of_lt HGO.out
   have hblk:=hgw.block gr (by have:=HBB.out;have:=HOB.out;have:=HGO.out;omega) (fun e=>by injection e with e;exact hgo e)
   have r0:=hgw.cell (HXR.out.at_ 0 rfl) (fun e=>by injection e with e;exact hgo e)
   have r1:=hgw.cell (HXR.out.at_ 1 rfl) (fun e=>by injection e with e;exact hgo e)
   have r2:=hgw.cell (HXR.out.at_ 2 rfl) (fun e=>by injection e with e;exact hgo e)
   have f0:wr.frozen? ⟨gr,0,none⟩=false:=(World.frozen?_of_block (a:=⟨gr,0,none⟩) hblk).trans (HXR.out.free_ 0)
   have f1:wr.frozen? ⟨gr,1,none⟩=false:=(World.frozen?_of_block (a:=⟨gr,1,none⟩) hblk).trans (HXR.out.free_ 1)
   have f2:wr.frozen? ⟨gr,2,none⟩=false:=(World.frozen?_of_block (a:=⟨gr,2,none⟩) hblk).trans (HXR.out.free_ 2)
   have hstB:Stk NotU32 wx gr:=Stk.of HXR.out (by intro v hv;simp at hv;rcases hv with rfl|rfl|rfl <;> exact fun _ h=>by cases h)
   have hst:Stk NotU32 wr gr:=⟨Nat.lt_of_lt_of_le hstB.1 hgw.size,fun i u hu=>hstB.2 i u ((World.cell?_of_block (a:=⟨gr,i,none⟩) hblk).symm.trans hu)⟩
   have HE3:=Kh (put3_at (w:=wr) (R:=gr) (v0:=.int .i64 1) (v1:=.int .i64 1) (v2:=.slice p 1 c) (by rw[r0];rfl) (by rw[r1];rfl) (by rw[r2];rfl))
   have HI3:=Kh (put3_32 hst (v0:=.int .i64 1) (v1:=.int .i64 1) (v2:=.slice p 1 c) (fun _ h=>by cases h) (fun _ h=>by cases h))
   have HG3:=Kh (((but_put wr gr 0 (.int .i64 1)).trans (but_put _ gr 1 (.int .i64 1))).trans (but_put _ gr 2 (.slice p 1 c)))
   have HQL:=Kh hOQ.ql
   have HFO:=Kh (own_from hOQ)
   have HBF:=Kh (show Below gr w wr from below_but HBX.out hgw (by have:=HBB.out;have:=HOB.out;have:=HGO.out;omega) (Nat.le_of_lt HGO.out))
   clear hOQ hblk hstB hst hmat hgw
   go_wp2
   have e0:=HE3.out.1
   have e1:=HE3.out.2.1
   have e2:=HE3.out.2.2
   try simp only[Exit.inBlock,Exit.then]
   refine bodyPost_ret (by simp[results,Tryz.results45,go_sem,e0,e1,e2];try rfl) rfl ?_
   exact⟨⟨p,c,rfl,HQL.out.boxed (fun _=>IsQ.solid _) HI3.out HG3.out (fun a ha=>by have:=HFO.out a ha;have:=HOB.out;have:=HGO.out;omega)⟩,by rw[HGE.out];exact below_but HBF.out HG3.out (by have:=HBF.out.size;have:=HGE.out;omega) (Nat.le_refl _)⟩
end Go.Proofs.YtenlbhlllgppmaaGreatDoor
namespace Go.Proofs.YtenlbhlllgppmaaGreatDoor
open Eli
structure G0 (n:Nat) (a b c d:Int):Prop where
 det:a*d - b*c=1
 low:(n:Int)∣c
theorem inv_ex {k d:Int} {m:Nat} (hm:0<m) (hkm:k.natAbs=m) (hg:Int.gcd k d=1):∃ r:Nat,r<m∧(m:Int)∣r*d - 1:=by
 have hs:=Int.toNat_of_nonneg (Int.emod_nonneg d (show(m:Int)≠0 by omega))
 obtain⟨s,hse⟩:∃ s,(d % m).toNat=s:=⟨_,rfl⟩
 rw[hse]at hs
 have hd:=Int.mul_ediv_add_emod d m
 rw[← hs]at hd
 have h1:Nat.gcd s m=1:=by
  have g1:((Nat.gcd s m:Nat):Int)∣s:=Int.natCast_dvd_natCast.2 (Nat.gcd_dvd_left ..)
  have g2:((Nat.gcd s m:Nat):Int)∣m:=Int.natCast_dvd_natCast.2 (Nat.gcd_dvd_right ..)
  have g3:((Nat.gcd s m:Nat):Int)∣k:=Int.dvd_natAbs.1 (by rw[hkm];exact g2)
  have g4:((Nat.gcd s m:Nat):Int)∣d:=by rw[← hd];exact Int.dvd_add (Int.dvd_trans g2 (Int.dvd_mul_right _ _)) g1
  have g5:=Int.dvd_coe_gcd g3 g4
  rw[hg]at g5
  exact Nat.dvd_one.1 (Int.natCast_dvd_natCast.1 g5)
 obtain⟨r,_,_,_,h2⟩:=unit_inv m s hm h1
 have h3:((r*s:Nat):Int) % m=(1:Nat) % m:=by exact_mod_cast congrArg (fun z:Nat=>(z:Int)) h2
 obtain⟨e,he⟩:=Int.dvd_of_emod_eq_zero (Int.emod_eq_emod_iff_emod_sub_eq_zero.1 h3)
 have h4:=Nat.div_add_mod r m
 have h5:(m:Int)*((r / m:Nat):Int)+((r % m:Nat):Int)=r:=by exact_mod_cast congrArg (fun z:Nat=>(z:Int)) h4
 rw[Int.natCast_mul]at he
 refine⟨r % m,Nat.mod_lt _ hm,e+r*(d / m) - ((r / m:Nat):Int)*d,?_⟩
 obtain⟨q,hq⟩:∃ q,d / m=q:=⟨_,rfl⟩
 rw[hq]at hd ⊢
 obtain⟨t,ht⟩:∃ t:Int,((r / m:Nat):Int)=t:=⟨_,rfl⟩
 obtain⟨v,hv⟩:∃ v:Int,((r % m:Nat):Int)=v:=⟨_,rfl⟩
 rw[ht,hv]at h5
 rw[ht,hv]
 have e1:v=r - m*t:=by omega
 have e2:(r:Int)*s=1+m*e:=by omega
 rw[e1]
 have e3:(r:Int)*d=r*(m*q)+r*s:=by rw[← Int.mul_add,hd]
 grind
theorem gcd_nb {x y:Int×Int} (h:Nb x y):Int.gcd x.1 x.2=1∧Int.gcd y.1 y.2=1:=by
 have one:∀ u v p q:Int,u*p+v*q=1→Int.gcd u v=1:=fun u v p q h=>by
  have h1:((Int.gcd u v:Nat):Int)∣1:=by
   rw[← h]
   exact Int.dvd_add (Int.dvd_trans (Int.gcd_dvd_left ..) (Int.dvd_mul_right _ _)) (Int.dvd_trans (Int.gcd_dvd_right ..) (Int.dvd_mul_right _ _))
  exact Nat.dvd_one.1 (Int.natCast_dvd_natCast.1 h1)
 rcases h with h|h
 ·exact⟨one _ _ (-y.2) y.1 (by rw[← h];grind),one _ _ x.2 (-x.1) (by rw[← h];grind)⟩
 ·exact⟨one _ _ y.2 (-y.1) (by grind),one _ _ (-x.2) x.1 (by grind)⟩
def img (a b c d:Int) (x:Int×Int):Int×Int:=low (a*x.1+b*x.2) (c*x.1+d*x.2)
section
variable {n wt:Nat} {D:Int} {x:Nat→Rat} {Q:Nat→Rat} {a b c d:Int} {s:Nat}
end
def Cu (x:Int×Int):Prop:=Gd x∧Int.gcd x.1 x.2=1
theorem Cu.inf:Cu (1,0):=⟨⟨Int.le_refl 0,fun _=>rfl⟩,by decide⟩
theorem Cu.zero:Cu (0,1):=⟨⟨by decide,fun h=>absurd h (by decide)⟩,by decide⟩
theorem par_ex {x:Int×Int} (h:Cu x) (h0:0<x.2):∃ y:Int×Int,y.1*x.2 - x.1*y.2=1∧0≤y.2∧y.2<x.2∧Cu y:=by
 obtain⟨m,hm⟩:∃ m:Nat,x.2.natAbs=m:=⟨_,rfl⟩
 obtain⟨r,hr,e,he⟩:=inv_ex (k:=x.2) (d:=-x.1) (m:=m) (by omega) hm (by rw[Int.gcd_neg,Int.gcd_comm];exact h.2)
 have hmx:(m:Int)=x.2:=by omega
 rw[hmx]at he
 have h1:-e*x.2 - x.1*r=1:=by grind
 have hn:Nb x (-e,(r:Int)):=.inl h1
 refine⟨(-e,(r:Int)),h1,Int.natCast_nonneg r,by show(r:Int)<x.2;omega,⟨Int.natCast_nonneg r,fun h2=>?_⟩,(gcd_nb hn).2⟩
 have h3:(r:Int)=0:=h2
 show -e=1
 rw[h3,Int.mul_zero,Int.sub_zero]at h1
 have h4:x.2=1:=Int.eq_one_of_dvd_one (by omega) ⟨-e,by rw[Int.mul_comm];exact h1.symm⟩
 rw[h4,Int.mul_one]at h1
 exact h1
theorem cu_ind {P:Int×Int→Prop} (h1:P (1,0)) (h2:∀ x y:Int×Int,Cu x→Cu y→0<x.2→y.1*x.2 - x.1*y.2=1→0≤y.2→y.2<x.2→P y→P x):∀ x,Cu x→P x:=by
 have key:∀ k:Nat,∀ x:Int×Int,x.2.toNat≤k→Cu x→P x:=by
  intro k
  induction k with
  | zero=>
   intro x hx hc
   have h3:=hc.1.1
   have h4:x.2=0:=by omega
   have h5:=hc.1.2 h4
   obtain⟨p,q⟩:=x
   dsimp only at h4 h5
   rw[h4,h5];exact h1
  | succ k ih=>
   intro x hx hc
   rcases Int.lt_or_le 0 x.2 with h3|h3
   ·obtain⟨y,g1,g2,g3,g4⟩:=par_ex hc h3
    exact h2 x y hc g4 h3 g1 g2 g3 (ih y (by omega) g4)
   ·exact ih x (by omega) hc
 exact fun x hx=>key _ x (Nat.le_refl _) hx
section
variable {n wt:Nat} {D:Int} {x:Nat→Rat} {Q:Nat→Rat} {a b c d:Int} {s:Nat}
end
theorem img_gcd {a b c d:Int} (h:a*d - b*c≠0) {x:Int×Int} (hx:Cu x):Int.gcd (a*x.1+b*x.2) (c*x.1+d*x.2)≠0:=by
 intro h0
 obtain⟨h1,h2⟩:=Int.gcd_eq_zero_iff.1 h0
 have e1:(a*d - b*c)*x.1=0:=by
  have:(a*d - b*c)*x.1=d*(a*x.1+b*x.2) - b*(c*x.1+d*x.2):=by grind
  rw[this,h1,h2];simp
 have e2:(a*d - b*c)*x.2=0:=by
  have:(a*d - b*c)*x.2=a*(c*x.1+d*x.2) - c*(a*x.1+b*x.2):=by grind
  rw[this,h1,h2];simp
 have f1:=(Int.mul_eq_zero.1 e1).resolve_left h
 have f2:=(Int.mul_eq_zero.1 e2).resolve_left h
 have:=hx.2
 rw[f1,f2]at this
 simp at this
theorem img_cu {a b c d:Int} (h:a*d - b*c≠0) {x:Int×Int} (hx:Cu x):Cu (img a b c d x):=by
 obtain⟨k,u,v,_,hg,_,_,hl,hgd,_⟩:=low_spec (img_gcd h hx)
 have e:img a b c d x=(u,v):=hl
 rw[e]
 exact⟨hgd,hg⟩
theorem img_img {a b c d a' b' c' d':Int} (h:a*d - b*c≠0) (h':a'*d' - b'*c'≠0) {x:Int×Int} (hx:Cu x):img a' b' c' d' (img a b c d x)=img (a'*a+b'*c) (a'*b+b'*d) (c'*a+d'*c) (c'*b+d'*d) x:=
 low_twice (img_gcd h hx) (img_gcd h' (img_cu h hx))
theorem low_cu {k:Int} {x:Int×Int} (hk:k≠0) (hx:Cu x):low (k*x.1) (k*x.2)=x:=by
 rw[low_of hk hx.2,if_neg]
 rintro(h |⟨h1,h2⟩)
 ·have:=hx.1.1;omega
 ·have:=hx.1.2 h1;omega
theorem img_eq {a b c d k:Int} {x y:Int×Int} (hk:k≠0) (hy:Cu y) (h1:a*x.1+b*x.2=k*y.1) (h2:c*x.1+d*x.2=k*y.2):img a b c d x=y:=by
 unfold img
 rw[h1,h2]
 exact low_cu hk hy
def mono (i:Nat):Nat→Rat:=fun j=>if j=i then 1 else 0
theorem subst_mono {i wt:Nat} (hi:i<wt+1) (a b c d:Int) (l:Nat):subst (mono i) wt a b c d (wt+1) l=(mv i a b c d wt l:Rat):=by
 unfold subst
 rw[sumQ_single hi]
 ·unfold mono;rw[if_pos rfl,Rat.one_mul]
 ·intro k _ hk
  unfold mono
  rw[if_neg hk,Rat.zero_mul]
structure PF (n wt:Nat) (D:Int) (Φ:(Nat→Rat)→Int×Int→Int×Int→Rat):Prop where
 congr:∀ Q Q' u v,(∀ j,j<wt+1→Q j=Q' j)→Φ Q u v=Φ Q' u v
 lin:∀ (q:Nat→Rat) (f:Nat→Nat→Rat) (m:Nat) u v,Cu u→Cu v→Φ (fun j=>sumQ (fun i=>q i*f i j) m) u v=sumQ (fun i=>q i*Φ (f i) u v) m
 add:∀ Q u v z,Cu u→Cu v→Cu z→Φ Q u v+Φ Q v z=Φ Q u z
 move:∀ Q (a b c d:Int) (s:Nat) u v,G0 n a b c d→1≤s→s≤n→pun n s=true→(s:Int) % n=d % n→Cu u→Cu v→Φ (subst Q wt d (-b) (-c) a (wt+1)) (img a b c d u) (img a b c d v)=(Pl.kroP D s:Rat)*Φ Q u v
def Lifts (n:Nat) (γ:Nat→M4):Prop:=∀ p,p<(pts n (n*n)).length→(γ p).1*(γ p).2.2.2 - (γ p).2.1*(γ p).2.2.1=1∧(γ p).2.2.1 % n=(((pts n (n*n)).getD p 0 / n:Nat):Int) % n∧(γ p).2.2.2 % n=(((pts n (n*n)).getD p 0 % n:Nat):Int) % n
def atS (wt m:Nat) (γ:Nat→M4) (Φ:(Nat→Rat)→Int×Int→Int×Int→Rat) (j:Nat):Rat:=
 Φ (subst (mono (j / m)) wt (γ (j % m)).2.2.2 (-(γ (j % m)).2.1) (-(γ (j % m)).2.2.1) (γ (j % m)).1 (wt+1)) (img (γ (j % m)).1 (γ (j % m)).2.1 (γ (j % m)).2.2.1 (γ (j % m)).2.2.2 (0,1)) (img (γ (j % m)).1 (γ (j % m)).2.1 (γ (j % m)).2.2.1 (γ (j % m)).2.2.2 (1,0))
theorem subst_one (Q:Nat→Rat) (wt j:Nat) (hj:j<wt+1):subst Q wt 1 0 0 1 (wt+1) j=Q j:=by
 have h:∀ i k l,mv i 1 0 0 1 k l=if l=min k i then 1 else 0:=by
  intro i k
  induction k with
  | zero=>intro l;rw[mv,Nat.zero_min]
  | succ k ih=>
   intro l
   rw[mv]
   split
   ·unfold lin
    rw[ih,ih,Int.zero_mul,Int.add_zero,Int.one_mul]
    rcases l with _|l
    ·rw[if_neg (Nat.lt_irrefl 0),if_neg (show ¬ 0=min (k+1) i by omega)]
    ·rw[if_pos (Nat.succ_pos l),Nat.add_sub_cancel]
     by_cases hl:l=min k i
     ·rw[if_pos hl,if_pos (show l+1=min (k+1) i by omega)]
     ·rw[if_neg hl,if_neg (show ¬ l+1=min (k+1) i by omega)]
   ·unfold lin
    rw[ih,ih,Int.one_mul]
    have e0:∀ z:Int,(if 0<l then(0:Int)*z else 0)=0:=fun z=>by split <;> simp
    rw[e0,Int.zero_add]
    by_cases hl:l=min k i
    ·rw[if_pos hl,if_pos (show l=min (k+1) i by omega)]
    ·rw[if_neg hl,if_neg (show ¬ l=min (k+1) i by omega)]
 unfold subst
 rw[sumQ_single hj]
 ·rw[h,if_pos (by omega)]
  show Q j*((1:Int):Rat)=Q j
  grind
 ·intro i hi hne
  rw[h,if_neg (by omega)]
  show Q i*((0:Int):Rat)=0
  grind
section
variable {n wt:Nat} {D:Int} {Φ:(Nat→Rat)→Int×Int→Int×Int→Rat} {γ:Nat→M4}
theorem PF.ph_eq (hck:Pl.check n ((wt:Int)+2) D=0) (hΦ:PF n wt D Φ) (hγ:Lifts n γ) (Q:Nat→Rat) {A B C E:Int} (hd:A*E - B*C=1):
  ph n wt D (atS wt (pts n (n*n)).length γ Φ) Q A B C E=Φ Q (img A B C E (0,1)) (img A B C E (1,0)):=by
 obtain⟨⟨a1,a2⟩,_⟩:=Pl.check_ok hck
 have hn:0<n:=by omega
 obtain⟨p,s,hp,h1,h2,h3,h4,h5⟩:=plc_prim (D:=D) hn (det_prim (n:=n) hn hd)
 obtain⟨m,hm⟩:∃ m,(pts n (n*n)).length=m:=⟨_,rfl⟩
 obtain⟨g1,g2,g3⟩:=hγ p hp
 rw[hm]at hp ⊢
 obtain⟨⟨a,b,c,d⟩,hg⟩:∃ g,γ p=g:=⟨_,rfl⟩
 rw[hg]at g1 g2 g3
 dsimp only at g1 g2 g3
 have hk:=kIx_div hn C E
 have hk2:=kIx_mod hn C E
 rw[← h4,pmul_div hn]at hk
 rw[← h4,pmul_mod]at hk2
 obtain⟨c0,hc0⟩:∃ c0,(pts n (n*n)).getD p 0 / n=c0:=⟨_,rfl⟩
 obtain⟨d0,hd0⟩:∃ d0,(pts n (n*n)).getD p 0 % n=d0:=⟨_,rfl⟩
 rw[hc0]at hk g2
 rw[hd0]at hk2 g3
 have mC:C % n=((s:Int)*c0) % n:=by
  have e:((s*c0 % n:Nat):Int)=C % n:=by rw[hk];exact Int.toNat_of_nonneg (Int.emod_nonneg _ (by omega))
  rw[← e];push_cast;rfl
 have mE:E % n=((s:Int)*d0) % n:=by
  have e:((s*d0 % n:Nat):Int)=E % n:=by rw[hk2];exact Int.toNat_of_nonneg (Int.emod_nonneg _ (by omega))
  rw[← e];push_cast;rfl
 have dC:(n:Int)∣C - s*c:=by
  refine Int.dvd_of_emod_eq_zero (Int.emod_eq_emod_iff_emod_sub_eq_zero.1 ?_)
  rw[mC,Int.mul_emod,Int.mul_emod (s:Int) c,g2]
 have dE:(n:Int)∣E - s*d:=by
  refine Int.dvd_of_emod_eq_zero (Int.emod_eq_emod_iff_emod_sub_eq_zero.1 ?_)
  rw[mE,Int.mul_emod,Int.mul_emod (s:Int) d,g3]
 have hG:G0 n (A*d - B*c) (-(A*b)+B*a) (C*d - E*c) (-(C*b)+E*a):=by
  refine⟨by grind,?_⟩
  have e:C*d - E*c=(C - s*c)*d - (E - s*d)*c:=by grind
  rw[e]
  exact Int.dvd_sub (Int.dvd_trans dC (Int.dvd_mul_right _ _)) (Int.dvd_trans dE (Int.dvd_mul_right _ _))
 have hs:(s:Int) % n=(-(C*b)+E*a) % n:=by
  refine Int.emod_eq_emod_iff_emod_sub_eq_zero.2 (Int.emod_eq_zero_of_dvd ?_)
  have e:(s:Int) - (-(C*b)+E*a)=(C - s*c)*b - (E - s*d)*a:=by grind
  rw[e]
  exact Int.dvd_sub (Int.dvd_trans dC (Int.dvd_mul_right _ _)) (Int.dvd_trans dE (Int.dvd_mul_right _ _))
 have i0:∀ x,Cu x→img (A*d - B*c) (-(A*b)+B*a) (C*d - E*c) (-(C*b)+E*a) (img a b c d x)=img A B C E x:=fun x hx=>by
  rw[img_img (by omega) (by rw[hG.det];decide) hx,show(A*d - B*c)*a+(-(A*b)+B*a)*c=A by grind,show(A*d - B*c)*b+(-(A*b)+B*a)*d=B by grind,show(C*d - E*c)*a+(-(C*b)+E*a)*c=C by grind,show(C*d - E*c)*b+(-(C*b)+E*a)*d=E by grind]
 have hv:∀ i,i<wt+1→(Pl.kroP D s:Rat)*atS wt m γ Φ (i*m+p)=Φ (subst (mono i) wt E (-B) (-C) A (wt+1)) (img A B C E (0,1)) (img A B C E (1,0)):=fun i hi=>by
  have e1:(i*m+p) / m=i:=by rw[Nat.mul_comm,Nat.mul_add_div (by omega),Nat.div_eq_of_lt hp,Nat.add_zero]
  have e2:(i*m+p) % m=p:=by rw[Nat.mul_comm,Nat.mul_add_mod,Nat.mod_eq_of_lt hp]
  unfold atS
  rw[e1,e2,hg]
  dsimp only
  rw[← hΦ.move _ _ _ _ _ s _ _ hG h1 h2 h3 hs (img_cu (by omega) Cu.zero) (img_cu (by omega) Cu.inf),i0 _ Cu.zero,i0 _ Cu.inf,sub2]
  congr 2 <;> grind
 unfold ph
 rw[h5]
 unfold cP
 dsimp only
 rw[hm]
 have hsum:sumQ (fun i=>subst Q wt A B C E (wt+1) i*(Pl.kroP D s:Rat)*atS wt m γ Φ (i*m+p)) (wt+1)=sumQ (fun i=>subst Q wt A B C E (wt+1) i*Φ (subst (mono i) wt E (-B) (-C) A (wt+1)) (img A B C E (0,1)) (img A B C E (1,0))) (wt+1):=sumQ_congr (fun i hi=>by rw[← hv i hi];grind)
 rw[hsum,← hΦ.lin _ _ _ _ _ (img_cu (by omega) Cu.zero) (img_cu (by omega) Cu.inf)]
 refine hΦ.congr _ _ _ _ (fun l hl=>?_)
 have e3:sumQ (fun i=>subst Q wt A B C E (wt+1) i*subst (mono i) wt E (-B) (-C) A (wt+1) l) (wt+1)=subst (subst Q wt A B C E (wt+1)) wt E (-B) (-C) A (wt+1) l:=by
  show _=sumQ (fun i=>subst Q wt A B C E (wt+1) i*(mv i E (-B) (-C) A wt l:Rat)) (wt+1)
  exact sumQ_congr (fun i hi=>by rw[subst_mono hi])
 rw[e3,sub2,show A*E+B * -C=1 by grind,show A * -B+B*A=0 by grind,show C*E+E * -C=0 by grind,show C * -B+E*A=1 by grind]
 exact subst_one Q wt l hl
theorem PF.step_eq (hck:Pl.check n ((wt:Int)+2) D=0) (hΦ:PF n wt D Φ) (hγ:Lifts n γ) (Q:Nat→Rat) {u v:Int×Int} (hu:Cu u) (hv:Cu v) (h:Nb u v):
  stepQ n wt D (atS wt (pts n (n*n)).length γ Φ) Q u v=Φ Q u v:=by
 unfold stepQ
 rcases h with h|h
 ·rw[if_pos h,hΦ.ph_eq hck hγ Q h,img_eq (k:=1) (by decide) hu (by dsimp only;omega) (by dsimp only;omega),img_eq (k:=1) (by decide) hv (by dsimp only;omega) (by dsimp only;omega)]
 ·rw[if_neg (by omega),hΦ.ph_eq hck hγ Q (by grind),img_eq (k:=-1) (by decide) hu (by dsimp only;omega) (by dsimp only;omega),img_eq (k:=1) (by decide) hv (by dsimp only;omega) (by dsimp only;omega)]
theorem PF.self (hΦ:PF n wt D Φ) (Q:Nat→Rat) {u:Int×Int} (hu:Cu u):Φ Q u u=0:=by
 have:=hΦ.add Q u u u hu hu hu
 grind
theorem PF.pot_eq (hck:Pl.check n ((wt:Int)+2) D=0) (hΦ:PF n wt D Φ) (hγ:Lifts n γ) (Q:Nat→Rat) {u v:Int×Int} (hu:Cu u) (hv:Cu v):
  Pot (stepQ n wt D (atS wt (pts n (n*n)).length γ Φ) Q) v - Pot (stepQ n wt D (atS wt (pts n (n*n)).length γ Φ) Q) u=Φ Q u v:=by
 obtain⟨st,hst⟩:∃ st,stepQ n wt D (atS wt (pts n (n*n)).length γ Φ) Q=st:=⟨_,rfl⟩
 have key:∀ u,Cu u→Pot st u - Pot st (1,0)=Φ Q (1,0) u:=by
  refine cu_ind ?_ (fun z y hz hy h0 g1 g2 g3 ih=>?_)
  ·rw[hΦ.self Q Cu.inf];grind
  ·have e1:=hΦ.step_eq hck hγ Q hy hz (Nb.symm (.inl g1))
   rw[hst]at e1
   rw[Pot_par (st:=st) g1 g2 g3,← hΦ.add Q (1,0) y z Cu.inf hy hz,← e1,← ih]
   grind
 rw[hst]
 have k1:=key u hu
 have k2:=key v hv
 have k3:=hΦ.add Q (1,0) u v Cu.inf hu hv
 grind
theorem low_neg {x:Int×Int} (p q:Int) (hx:Cu x) (h:low p q=x) (hpq:Int.gcd p q≠0):low (-p) (-q)=x:=by
 obtain⟨k,u,v,hk,hg,e1,e2,hl,hgd,_⟩:=low_spec hpq
 rw[hl]at h
 have hx':(u,v)=x:=h
 have f1:-p=(-k)*x.1:=by rw[← hx',e1];grind
 have f2:-q=(-k)*x.2:=by rw[← hx',e2];grind
 rw[f1,f2]
 exact low_cu (by omega) hx
theorem PF.rel (hck:Pl.check n ((wt:Int)+2) D=0) (hΦ:PF n wt D Φ) (hγ:Lifts n γ):RelZ n wt D (atS wt (pts n (n*n)).length γ Φ):=by
 obtain⟨⟨a1,a2⟩,_⟩:=Pl.check_ok hck
 have hn:0<n:=by omega
 obtain⟨y,hy⟩:∃ y,atS wt (pts n (n*n)).length γ Φ=y:=⟨_,rfl⟩
 obtain⟨m,hm⟩:∃ m,(pts n (n*n)).length=m:=⟨_,rfl⟩
 have mov:∀ r,r<(wt+1)*m→∀ a' b' c' d':Int,a'*d' - b'*c'=1→∃ a b c d:Int,γ (r % m)=(a,b,c,d)∧a*d - b*c=1 ∧
   sumQ (fun k=>(mvd n wt (pts n (n*n)) (plAll n D (pts n (n*n)) n) (r / m) (r % m) (a',b',c',d') k:Rat)*y k) ((wt+1)*m)=Φ (subst (mono (r / m)) wt d (-b) (-c) a (wt+1)) (img (a*a'+b*c') (a*b'+b*d') (c*a'+d*c') (c*b'+d*d') (0,1)) (img (a*a'+b*c') (a*b'+b*d') (c*a'+d*c') (c*b'+d*d') (1,0)):=by
  intro r hr a' b' c' d' hd'
  have hm0:0<m:=by
   rcases Nat.eq_zero_or_pos m with h|h
   ·rw[h,Nat.mul_zero]at hr;omega
   ·exact h
  have hj:r % m<m:=Nat.mod_lt _ hm0
  have hi:r / m<wt+1:=Nat.div_lt_of_lt_mul (by rw[Nat.mul_comm];exact hr)
  obtain⟨p,hp⟩:∃ p,r % m=p:=⟨_,rfl⟩
  obtain⟨i,hie⟩:∃ i,r / m=i:=⟨_,rfl⟩
  rw[hp]at hj ⊢
  rw[hie]at hi ⊢
  obtain⟨g1,g2,g3⟩:=hγ p (by rw[hm];exact hj)
  obtain⟨⟨a,b,c,d⟩,hg⟩:∃ g,γ p=g:=⟨_,rfl⟩
  rw[hg]at g1 g2 g3
  dsimp only at g1 g2 g3
  refine⟨a,b,c,d,hg,g1,?_⟩
  have hd2:(a*a'+b*c')*(c*b'+d*d') - (a*b'+b*d')*(c*a'+d*c')=1:=by
   have:(a*a'+b*c')*(c*b'+d*d') - (a*b'+b*d')*(c*a'+d*c')=(a*d - b*c)*(a'*d' - b'*c'):=by grind
   rw[this,g1,hd'];rfl
  rw[← hΦ.ph_eq hck hγ _ hd2,hy]
  have hpl:plcOf n D (((pts n (n*n)).getD p 0 / n:Nat)*a'+((pts n (n*n)).getD p 0 % n:Nat)*c') (((pts n (n*n)).getD p 0 / n:Nat)*b'+((pts n (n*n)).getD p 0 % n:Nat)*d')=plcOf n D (c*a'+d*c') (c*b'+d*d'):=by
   unfold plcOf
   have e:∀ z t:Int,((((pts n (n*n)).getD p 0 / n:Nat):Int)*z+(((pts n (n*n)).getD p 0 % n:Nat):Int)*t) % n=(c*z+d*t) % n:=fun z t=>by
    rw[Int.add_emod,Int.mul_emod _ z,Int.mul_emod _ t,← g2,← g3,← Int.mul_emod,← Int.mul_emod,← Int.add_emod]
   rw[e,e]
  have hne:=plc_ne (D:=D) hck (det_prim (n:=n) hn hd2)
  have h6:=mvd_sum (wt:=wt) y (i:=i) (j:=p) hpl (fun _=>hne.2)
  rw[hm]at h6
  rw[h6]
  unfold ph
  rw[sub2]
  unfold cP
  refine sumQ_congr (fun l hl=>?_)
  dsimp only
  rw[← subst_mono hi,show d*(a*a'+b*c')+-b*(c*a'+d*c')=a' by grind,show d*(a*b'+b*d')+-b*(c*b'+d*d')=b' by grind,show -c*(a*a'+b*c')+a*(c*a'+d*c')=c' by grind,show -c*(a*b'+b*d')+a*(c*b'+d*d')=d' by grind]
 intro r hr
 rw[hm]at hr
 rw[hy]
 unfold relOf relE
 rw[hm]
 by_cases hlt:r<(wt+1)*m
 ·simp only[if_pos hlt]
  obtain⟨a,b,c,d,hg,h1,h2⟩:=mov r hlt 0 (-1) 1 0 (by decide)
  rw[show(gTurn:M4)=(0,-1,1,0)from rfl]
  have h3:sumQ (fun k=>(((if k=r then 1 else 0)+mvd n wt (pts n (n*n)) (plAll n D (pts n (n*n)) n) (r / m) (r % m) (0,-1,1,0) k:Int):Rat)*y k) ((wt+1)*m)=y r+sumQ (fun k=>(mvd n wt (pts n (n*n)) (plAll n D (pts n (n*n)) n) (r / m) (r % m) (0,-1,1,0) k:Rat)*y k) ((wt+1)*m):=by
   rw[← one_sum (n:=n) (x:=y) (by rw[hm];exact hlt),hm,← sumQ_add]
   exact sumQ_congr (fun k _=>by push_cast;grind)
  rw[h3,h2,← hy]
  unfold atS
  rw[hm,hg]
  dsimp only
  have c0:Cu (img a b c d (0,1)):=img_cu (by omega) Cu.zero
  have c1:Cu (img a b c d (1,0)):=img_cu (by omega) Cu.inf
  have e0:img (a*0+b*1) (a * -1+b*0) (c*0+d*1) (c * -1+d*0) (0,1)=img a b c d (1,0):=by
   have:=low_neg _ _ c1 rfl (img_gcd (by omega) Cu.inf)
   unfold img at this ⊢
   dsimp only at this ⊢
   rw[← this]
   congr 1 <;> omega
  have e1:img (a*0+b*1) (a * -1+b*0) (c*0+d*1) (c * -1+d*0) (1,0)=img a b c d (0,1):=by
   unfold img
   dsimp only
   congr 1 <;> omega
  rw[e0,e1,hΦ.add _ _ _ _ c0 c1 c0,hΦ.self _ c0]
 ·simp only[if_neg hlt]
  obtain⟨r',hr'⟩:∃ r',r - (wt+1)*m=r':=⟨_,rfl⟩
  rw[hr']
  have hlt':r'<(wt+1)*m:=by omega
  obtain⟨a,b,c,d,hg,h1,h2⟩:=mov r' hlt' 0 (-1) 1 (-1) (by decide)
  obtain⟨_,_,_,_,hg',_,h2'⟩:=mov r' hlt' (-1) 1 (-1) 0 (by decide)
  rw[hg]at hg'
  obtain⟨rfl,rfl,rfl,rfl⟩:a=_∧b=_∧c=_∧d=_:=by
   injection hg' with q1 q2;injection q2 with q2 q3;injection q3 with q3 q4
   exact⟨q1,q2,q3,q4⟩
  rw[show(gThird:M4)=(0,-1,1,-1)from rfl,show(gTwice:M4)=(-1,1,-1,0)from rfl]
  have h3:sumQ (fun k=>(((if k=r' then 1 else 0)+mvd n wt (pts n (n*n)) (plAll n D (pts n (n*n)) n) (r' / m) (r' % m) (0,-1,1,-1) k+mvd n wt (pts n (n*n)) (plAll n D (pts n (n*n)) n) (r' / m) (r' % m) (-1,1,-1,0) k:Int):Rat)*y k) ((wt+1)*m)=y r'+sumQ (fun k=>(mvd n wt (pts n (n*n)) (plAll n D (pts n (n*n)) n) (r' / m) (r' % m) (0,-1,1,-1) k:Rat)*y k) ((wt+1)*m)+sumQ (fun k=>(mvd n wt (pts n (n*n)) (plAll n D (pts n (n*n)) n) (r' / m) (r' % m) (-1,1,-1,0) k:Rat)*y k) ((wt+1)*m):=by
   rw[← one_sum (n:=n) (x:=y) (by rw[hm];exact hlt'),hm,← sumQ_add,← sumQ_add]
   exact sumQ_congr (fun k _=>by push_cast;grind)
  rw[h3,h2,h2',← hy]
  unfold atS
  rw[hm,hg]
  dsimp only
  have c0:Cu (img a b c d (0,1)):=img_cu (by omega) Cu.zero
  have c1:Cu (img a b c d (1,0)):=img_cu (by omega) Cu.inf
  have k1:Cu ((1:Int),(1:Int)):=⟨⟨by decide,fun h=>absurd h (by decide)⟩,by decide⟩
  have c2:Cu (img a b c d (1,1)):=img_cu (by omega) k1
  have n2:=low_neg _ _ c2 rfl (img_gcd (by omega) k1)
  have e0:img (a*0+b*1) (a * -1+b * -1) (c*0+d*1) (c * -1+d * -1) (0,1)=img a b c d (1,1):=by
   unfold img at n2 ⊢
   dsimp only at n2 ⊢
   rw[← n2]
   congr 1 <;> omega
  have e1:img (a*0+b*1) (a * -1+b * -1) (c*0+d*1) (c * -1+d * -1) (1,0)=img a b c d (0,1):=by
   unfold img
   dsimp only
   congr 1 <;> omega
  have e2:img (a * -1+b * -1) (a*1+b*0) (c * -1+d * -1) (c*1+d*0) (0,1)=img a b c d (1,0):=by
   unfold img
   dsimp only
   congr 1 <;> omega
  have e3:img (a * -1+b * -1) (a*1+b*0) (c * -1+d * -1) (c*1+d*0) (1,0)=img a b c d (1,1):=by
   unfold img at n2 ⊢
   dsimp only at n2 ⊢
   rw[← n2]
   congr 1 <;> omega
  rw[e0,e1,e2,e3]
  have t1:=hΦ.add (subst (mono (r' / m)) wt d (-b) (-c) a (wt+1)) _ _ _ c2 c0 c1
  have t2:=hΦ.add (subst (mono (r' / m)) wt d (-b) (-c) a (wt+1)) _ _ _ c2 c1 c2
  have t3:=hΦ.self (subst (mono (r' / m)) wt d (-b) (-c) a (wt+1)) c2
  grind
end
theorem sum_frs (leads:Nat→List (Nat×Rat)) (g:Nat→Rat):∀ n,sumQ (fun f=>if ldOf leads f then 0 else g f) n=sumQ (fun i=>g ((frs leads n).getD i 0)) (frs leads n).length
 | 0=>rfl
 | n+1=>by
  rw[sumQ,sum_frs leads g n,frs_succ]
  by_cases h:leads n=[]
  ·rw[if_pos h,ldOf_false h,List.length_append,List.length_singleton,sumQ]
   have e:(frs leads n++[n]).getD (frs leads n).length 0=n:=by
    rw[List.getD_eq_getElem?_getD,List.getElem?_append_right (Nat.le_refl _),Nat.sub_self];rfl
   rw[e]
   congr 1
   refine sumQ_congr (fun i hi=>?_)
   rw[List.getD_eq_getElem?_getD,List.getD_eq_getElem?_getD,List.getElem?_append_left hi]
  ·rw[if_neg h,ldOf_true h,if_pos rfl,Rat.add_zero]
theorem span_y {n wt:Nat} {D:Int} (hw:wt≤22) {y:Nat→Rat} (hy:RelZ n wt D y) {j:Nat} (hj:j<cntF n wt):
  y j=sumQ (fun i=>crd (elF n wt D) (cntF n wt) (cntF n wt) j ((frs (elF n wt D) (cntF n wt)).getD i 0)*y ((frs (elF n wt D) (cntF n wt)).getD i 0)) (frs (elF n wt D) (cntF n wt)).length:=by
 obtain⟨C,hC⟩:∃ C,cntF n wt=C:=⟨_,rfl⟩
 have hg:=elF_good (n:=n) (D:=D) hw
 have hs:=(elim_span (n:=cntF n wt) (by omega) (rowF_small (relF_small (n:=n) (D:=D) hw)) (rowF_zero _ _) (2*cntF n wt)).2
 have hv:∀ r,r<2*cntF n wt→sumQ (fun q=>(rowF (cntF n wt) (relF n wt D) r q:Rat)*y q) (cntF n wt)=0:=fun r hr=>by
  rw[← hy r hr]
  refine sumQ_congr (fun k hk=>?_)
  have hk':k<cntF n wt:=hk
  have e:rowF (cntF n wt) (relF n wt D) r k=relOf n wt D r k:=by
   unfold rowF relF
   rw[if_pos hk']
   have e1:(r*cntF n wt+k) / ((wt+1)*(pts n (n*n)).length)=r:=by
    show(r*cntF n wt+k) / cntF n wt=r
    rw[Nat.mul_comm,Nat.mul_add_div (by omega),Nat.div_eq_of_lt hk',Nat.add_zero]
   have e2:(r*cntF n wt+k) % ((wt+1)*(pts n (n*n)).length)=k:=by
    show(r*cntF n wt+k) % cntF n wt=k
    rw[Nat.mul_comm,Nat.mul_add_mod,Nat.mod_eq_of_lt hk']
   rw[e1,e2]
  rw[e]
 have hs':∀ j,ldOf (elF n wt D) j=true→RSp (rowF (cntF n wt) (relF n wt D)) (2*cntF n wt) (rowOf (elF n wt D) j):=hs
 obtain⟨w,⟨z,hz,ew⟩,e⟩:=said hg (cntF n wt) j (by omega) hj (cntF n wt) (by omega) (Nat.le_refl _)
 rw[hC]at hv hs' hg e ew hz hj ⊢
 obtain⟨ld,hld⟩:∃ ld,elF n wt D=ld:=⟨_,rfl⟩
 rw[hld]at hs' hg e ew hz ⊢
 have h1:∀ l,ldOf ld l=true→sumQ (fun q=>rowOf ld l q*y q) C=0:=fun l hl=>by
  obtain⟨t,ht⟩:=hs' l hl
  have e1:sumQ (fun q=>rowOf ld l q*y q) C=sumQ (fun q=>sumQ (fun i=>t i*((rowF C (relF n wt D) i q:Rat)*y q)) (2*C)) C:=sumQ_congr (fun q _=>by
   rw[ht q,show sumQ (fun i=>t i*(rowF C (relF n wt D) i q:Rat)) (2*C)*y q=y q*sumQ (fun i=>t i*(rowF C (relF n wt D) i q:Rat)) (2*C)by grind,← sumQ_mul]
   exact sumQ_congr (fun i _=>by grind))
  rw[e1,sumQ_swap]
  refine sumQ_zero (fun i hi=>?_)
  rw[sumQ_mul,hv i hi];grind
 have h2:sumQ (fun q=>w q*y q) C=0:=by
  have e1:sumQ (fun q=>w q*y q) C=sumQ (fun q=>sumQ (fun l=>z l*(rowOf ld l q*y q)) C) C:=sumQ_congr (fun q _=>by
   rw[ew q,show sumQ (fun l=>z l*rowOf ld l q) C*y q=y q*sumQ (fun l=>z l*rowOf ld l q) C by grind,← sumQ_mul]
   exact sumQ_congr (fun i _=>by grind))
  rw[e1,sumQ_swap]
  refine sumQ_zero (fun l hl=>?_)
  rw[sumQ_mul]
  cases hb:ldOf ld l with
  | false=>rw[hz l hl hb];grind
  | true=>rw[h1 l hb];grind
 have h3:y j=sumQ (fun q=>(if q=j then(1:Rat)else 0)*y q) C:=by
  rw[sumQ_single hj]
  ·rw[if_pos rfl,Rat.one_mul]
  ·intro k _ hk
   rw[if_neg hk,Rat.zero_mul]
 have h4:sumQ (fun q=>(if q=j then(1:Rat)else 0)*y q) C=sumQ (fun q=>sumQ (fun f=>(if ldOf ld f then 0 else crd ld C C j f)*(rowOf ld f q*y q)) C) C+sumQ (fun q=>w q*y q) C:=by
  rw[← sumQ_add]
  refine sumQ_congr (fun q hq=>?_)
  rw[e q,show(sumQ (fun f=>(if ldOf ld f then 0 else crd ld C C j f)*rowOf ld f q) C+w q)*y q=y q*sumQ (fun f=>(if ldOf ld f then 0 else crd ld C C j f)*rowOf ld f q) C+w q*y q by grind,← sumQ_mul]
  congr 1
  exact sumQ_congr (fun i _=>by grind)
 rw[h3,h4,h2,Rat.add_zero,sumQ_swap,← sum_frs ld (fun f=>crd ld C C j f*y f) C]
 refine sumQ_congr (fun f hf=>?_)
 rw[sumQ_mul]
 cases hb:ldOf ld f with
 | true=>simp
 | false=>
  have e5:sumQ (fun q=>rowOf ld f q*y q) C=y f:=by
   rw[sumQ_single hf]
   ·unfold rowOf;rw[hb];simp
   ·intro k _ hk
    unfold rowOf
    rw[hb]
    simp[hk]
  rw[e5];simp
theorem crd_frs {n wt:Nat} {D:Int} (hw:wt≤22) {i k:Nat} (hi:i<(frs (elF n wt D) (cntF n wt)).length) (hk:k<(frs (elF n wt D) (cntF n wt)).length):
  crd (elF n wt D) (cntF n wt) (cntF n wt) ((frs (elF n wt D) (cntF n wt)).getD i 0) ((frs (elF n wt D) (cntF n wt)).getD k 0)=if k=i then 1 else 0:=by
 have hm:∀ i,i<(frs (elF n wt D) (cntF n wt)).length→(frs (elF n wt D) (cntF n wt)).getD i 0∈frs (elF n wt D) (cntF n wt):=fun i hi=>getD_mem hi
 obtain⟨h1,h2⟩:=frs_mem.1 (hm i hi)
 have hnd:(frs (elF n wt D) (cntF n wt)).Nodup:=(frs_pairwise _ _).imp (fun h=>Nat.ne_of_lt h)
 rw[crd_free (elF_good hw) (by omega) (Nat.le_refl _) h1 h2]
 by_cases h:k=i
 ·rw[h,if_pos rfl,if_pos rfl]
 ·rw[if_neg h,if_neg (fun e=>h (getD_inj hnd hk hi e))]
structure Crd (n wt:Nat) (D:Int) (F:List Nat) (X:Nat→Nat→Rat):Prop where
 rel:∀ f,f∈F→RelZ n wt D (fun j=>X j f)
 span:∀ y,RelZ n wt D y→∀ j,j<cntF n wt→y j=sumQ (fun i=>X j (F.getD i 0)*y (F.getD i 0)) F.length
 low:∀ f,f∈F→f<cntF n wt
 one:∀ i k,i<F.length→k<F.length→X (F.getD i 0) (F.getD k 0)=if k=i then 1 else 0
theorem crd_of {n wt:Nat} {D:Int} (hw:wt≤22):Crd n wt D (frs (elF n wt D) (cntF n wt)) (crd (elF n wt D) (cntF n wt) (cntF n wt)) where
 rel:=fun _ hf=>relZ_of hw hf
 span:=fun _ hy _ hj=>span_y hw hy hj
 low:=fun _ hf=>(frs_mem.1 hf).1
 one:=fun _ _ hi hk=>crd_frs hw hi hk
section
variable {n wt:Nat} {D:Int} {F:List Nat} {X:Nat→Nat→Rat}
theorem ph_comb (hck:Pl.check n ((wt:Int)+2) D=0) (hc:Crd n wt D F X) {y:Nat→Rat} (hy:RelZ n wt D y) (Q:Nat→Rat) {a b c d:Int} (h:a*d - b*c=1):
  ph n wt D y Q a b c d=sumQ (fun i=>y (F.getD i 0)*ph n wt D (fun j=>X j (F.getD i 0)) Q a b c d) F.length:=by
 obtain⟨⟨a1,a2⟩,_⟩:=Pl.check_ok hck
 have hne:=plc_ne (D:=D) hck (det_prim (n:=n) (by omega) h)
 unfold ph cP
 obtain⟨p,hp⟩:∃ p,plcOf n D c d=p:=⟨_,rfl⟩
 rw[hp]at hne ⊢
 have e1:∀ i,i<wt+1→y (i*(pts n (n*n)).length+p.1)=sumQ (fun k=>X (i*(pts n (n*n)).length+p.1) (F.getD k 0)*y (F.getD k 0)) F.length:=fun i hi=>hc.span y hy _ (by
  have h1:i*(pts n (n*n)).length+p.1<(i+1)*(pts n (n*n)).length:=by rw[Nat.succ_mul];have:=hne.2;omega
  exact Nat.lt_of_lt_of_le h1 (Nat.mul_le_mul_right _ (by omega)))
 have e2:sumQ (fun i=>subst Q wt a b c d (wt+1) i*(p.2:Rat)*y (i*(pts n (n*n)).length+p.1)) (wt+1)=sumQ (fun i=>sumQ (fun k=>y (F.getD k 0)*(subst Q wt a b c d (wt+1) i*(p.2:Rat)*X (i*(pts n (n*n)).length+p.1) (F.getD k 0))) F.length) (wt+1):=sumQ_congr (fun i hi=>by
  rw[e1 i hi,← sumQ_mul]
  exact sumQ_congr (fun k _=>by grind))
 rw[e2,sumQ_swap]
 exact sumQ_congr (fun k _=>by rw[sumQ_mul])
theorem step_comb (hck:Pl.check n ((wt:Int)+2) D=0) (hc:Crd n wt D F X) {y:Nat→Rat} (hy:RelZ n wt D y) (Q:Nat→Rat) {u v:Int×Int} (h:Nb u v):
  stepQ n wt D y Q u v=sumQ (fun i=>y (F.getD i 0)*stepQ n wt D (fun j=>X j (F.getD i 0)) Q u v) F.length:=by
 unfold stepQ
 rcases h with h|h
 ·simp only[if_pos h]
  exact ph_comb hck hc hy Q h
 ·have h2:¬ v.1*u.2 - u.1*v.2=1:=by omega
  simp only[if_neg h2]
  exact ph_comb hck hc hy Q (by grind)
theorem Pot_inf (st:Int×Int→Int×Int→Rat):Pot st (1,0)=0:=rfl
theorem pot_comb (hck:Pl.check n ((wt:Int)+2) D=0) (hc:Crd n wt D F X) {y:Nat→Rat} (hy:RelZ n wt D y) (Q:Nat→Rat):∀ u,Cu u→Pot (stepQ n wt D y Q) u=sumQ (fun i=>y (F.getD i 0)*Pot (stepQ n wt D (fun j=>X j (F.getD i 0)) Q) u) F.length:=by
 refine cu_ind ?_ (fun z t hz ht h0 g1 g2 g3 ih=>?_)
 ·rw[Pot_inf,sumQ_zero (fun i _=>?_)]
  rw[Pot_inf,Rat.mul_zero]
 ·rw[Pot_par g1 g2 g3,ih,step_comb hck hc hy Q (Nb.symm (.inl g1)),← sumQ_add]
  exact sumQ_congr (fun i _=>by rw[Pot_par (st:=stepQ n wt D (fun j=>X j (F.getD i 0)) Q) g1 g2 g3];grind)
theorem PF.coords {Φ:(Nat→Rat)→Int×Int→Int×Int→Rat} {γ:Nat→M4} (hck:Pl.check n ((wt:Int)+2) D=0) (hc:Crd n wt D F X) (hΦ:PF n wt D Φ) (hγ:Lifts n γ) (Q:Nat→Rat) {u v:Int×Int} (hu:Cu u) (hv:Cu v):
  Φ Q u v=sumQ (fun i=>(Pot (stepQ n wt D (fun j=>X j (F.getD i 0)) Q) v - Pot (stepQ n wt D (fun j=>X j (F.getD i 0)) Q) u)*atS wt (pts n (n*n)).length γ Φ (F.getD i 0)) F.length:=by
 have hy:=hΦ.rel hck hγ
 rw[← hΦ.pot_eq hck hγ Q hu hv,pot_comb hck hc hy Q v hv,pot_comb hck hc hy Q u hu]
 have e:∀ a b:Nat→Rat,∀ m,sumQ a m - sumQ b m=sumQ (fun i=>a i - b i) m:=fun a b m=>by
  induction m with
  | zero=>show(0:Rat) - 0=0;grind
  | succ m ih=>rw[sumQ,sumQ,sumQ,← ih];grind
 rw[e]
 exact sumQ_congr (fun i _=>by grind)
end
end Go.Proofs.YtenlbhlllgppmaaGreatDoor
