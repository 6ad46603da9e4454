/- INVARIANCE, plain: a matrix of Gamma0(n) multiplies the class of every path by the character. No program in sight. -/
import Derived.Test.YtijgdhijdfgpfaaGreatDoorZ41
import Derived.Test.YtijgdhijdfgpfaaGreatDoorZ40
import Derived.Test.YtijgdhijdfgpfaaGreatDoorZ39
import Derived.Test.YtijgdhijdfgpfaaGreatDoorZ02
import Derived.Test.YtijgdhijdfgpfaaGreatDoorZ13
import Derived.Laws.ResultCell
import Derived.Test.YtijgdhijdfgpfaaGreatDoorZ44
import Derived.Test.YtijgdhijdfgpfaaGreatDoorZ06
import Derived.Test.YtijgdhijdfgpfaaGreatDoorZ23
set_option linter.unusedSimpArgs false
set_option maxRecDepth 100000
set_option maxHeartbeats 8000000
namespace Go.Proofs.YtijgdhijdfgpfaaGreatDoor
open Eli
structure G0 (n:Nat) (a b c d:Int):Prop where
 det:a*d - b*c=1
 low:(n:Int)∣c
theorem unit_of {n:Nat} {a b c d:Int} (hn:0<n) (h:G0 n a b c d):∃ s:Nat,1≤s∧s≤n∧pun n s=true∧(s:Int) % n=d % n∧s % n=(d % n).toNat % n:=by
 have hr:((d % n).toNat:Int)=d % n:=Int.toNat_of_nonneg (Int.emod_nonneg _ (by omega))
 obtain⟨r,hrr⟩:∃ r,(d % n).toNat=r:=⟨_,rfl⟩
 rw[hrr]at hr ⊢
 have hp:pun n r=true:=by
  have g1:((Nat.gcd r n:Nat):Int)∣r:=Int.natCast_dvd_natCast.2 (Nat.gcd_dvd_left ..)
  have g2:((Nat.gcd r n:Nat):Int)∣n:=Int.natCast_dvd_natCast.2 (Nat.gcd_dvd_right ..)
  have g3:((Nat.gcd r n:Nat):Int)∣d:=by
   have e:d=n*(d / n)+r:=by rw[hr];exact(Int.mul_ediv_add_emod d n).symm
   rw[e]
   exact Int.dvd_add (Int.dvd_trans g2 (Int.dvd_mul_right _ _)) g1
  have g4:((Nat.gcd r n:Nat):Int)∣1:=by
   rw[← h.det]
   exact Int.dvd_sub (Int.dvd_trans g3 (Int.dvd_mul_left _ _)) (Int.dvd_trans (Int.dvd_trans g2 h.low) (Int.dvd_mul_left _ _))
  simp only[pun,beq_iff_eq]
  exact Nat.dvd_one.1 (Int.natCast_dvd_natCast.1 g4)
 obtain⟨s,h1,h2,h3,h4⟩:=pun_small hn hp
 have h5:(s:Int) % n=(r:Int) % n:=by exact_mod_cast congrArg (fun z:Nat=>(z:Int)) h4
 exact⟨s,h1,h2,h3,by rw[h5,hr,Int.emod_emod],h4⟩
theorem gcd_nb {x y:Int×Int} (h:Nb x y):Int.gcd x.1 x.2=1∧Int.gcd y.1 y.2=1:=by
 have one:∀ u v p q:Int,u*p+v*q=1→Int.gcd u v=1:=fun u v p q h=>by
  have h1:((Int.gcd u v:Nat):Int)∣1:=by
   rw[← h]
   exact Int.dvd_add (Int.dvd_trans (Int.gcd_dvd_left ..) (Int.dvd_mul_right _ _)) (Int.dvd_trans (Int.gcd_dvd_right ..) (Int.dvd_mul_right _ _))
  exact Nat.dvd_one.1 (Int.natCast_dvd_natCast.1 h1)
 rcases h with h|h
 ·exact⟨one _ _ (-y.2) y.1 (by rw[← h];grind),one _ _ x.2 (-x.1) (by rw[← h];grind)⟩
 ·exact⟨one _ _ y.2 (-y.1) (by grind),one _ _ (-x.2) x.1 (by grind)⟩
def img (a b c d:Int) (x:Int×Int):Int×Int:=low (a*x.1+b*x.2) (c*x.1+d*x.2)
theorem img_spec {a b c d:Int} (h:a*d - b*c=1) {x:Int×Int} (hx:Int.gcd x.1 x.2=1):
  Gd (img a b c d x)∧(((img a b c d x).1=a*x.1+b*x.2∧(img a b c d x).2=c*x.1+d*x.2)∨((img a b c d x).1=-(a*x.1+b*x.2)∧(img a b c d x).2=-(c*x.1+d*x.2))):=by
 have hg:Int.gcd (a*x.1+b*x.2) (c*x.1+d*x.2)=1:=by
  obtain⟨A,hA⟩:∃ A,a*x.1+b*x.2=A:=⟨_,rfl⟩
  obtain⟨B,hB⟩:∃ B,c*x.1+d*x.2=B:=⟨_,rfl⟩
  rw[hA,hB]
  have e1:x.1=A*d+B*(-b):=by rw[← hA,← hB];grind
  have e2:x.2=A*(-c)+B*a:=by rw[← hA,← hB];grind
  have h1:((Int.gcd A B:Nat):Int)∣x.1:=by
   rw[e1]
   exact Int.dvd_add (Int.dvd_trans (Int.gcd_dvd_left ..) (Int.dvd_mul_right _ _)) (Int.dvd_trans (Int.gcd_dvd_right ..) (Int.dvd_mul_right _ _))
  have h2:((Int.gcd A B:Nat):Int)∣x.2:=by
   rw[e2]
   exact Int.dvd_add (Int.dvd_trans (Int.gcd_dvd_left ..) (Int.dvd_mul_right _ _)) (Int.dvd_trans (Int.gcd_dvd_right ..) (Int.dvd_mul_right _ _))
  have h3:=Int.dvd_coe_gcd h1 h2
  rw[hx]at h3
  exact Nat.dvd_one.1 (Int.natCast_dvd_natCast.1 h3)
 obtain⟨k,u,v,hk,hgu,hp,hq,hlow,hgd,_⟩:=low_spec (p:=a*x.1+b*x.2) (q:=c*x.1+d*x.2) (by rw[hg];decide)
 have e:img a b c d x=(u,v):=hlow
 rw[e]
 refine⟨hgd,?_⟩
 rw[hp,hq,Int.gcd_mul_left,hgu,Nat.mul_one]at hg
 rcases(show k=1∨k=-1 by omega)with rfl|rfl
 ·left;rw[hp,hq,Int.one_mul,Int.one_mul];exact⟨rfl,rfl⟩
 ·right;rw[hp,hq];constructor <;>(dsimp only;omega)
section
variable {n wt:Nat} {D:Int} {x:Nat→Rat} {Q:Nat→Rat} {a b c d:Int} {s:Nat}
theorem ph_move (hck:Pl.check n ((wt:Int)+2) D=0) (hg:G0 n a b c d) (h1:1≤s) (h2:s≤n) (h3:pun n s=true) (h4:(s:Int) % n=d % n) {p q r t:Int} (hd:p*t - q*r=1):
  ph n wt D x (subst Q wt d (-b) (-c) a (wt+1)) (a*p+b*r) (a*q+b*t) (c*p+d*r) (c*q+d*t)=(Pl.kroP D s:Rat)*ph n wt D x Q p q r t:=by
 have hdet:=hg.det
 have hu:∀ z y:Int,(c*z+d*y) % (n:Int)=((s:Int)*y) % n:=fun z y=>by
  rw[Int.emod_eq_emod_iff_emod_sub_eq_zero]
  have e:c*z+d*y - s*y=c*z - (s - d)*y:=by grind
  rw[e]
  refine Int.emod_eq_zero_of_dvd (Int.dvd_sub (Int.dvd_trans hg.low (Int.dvd_mul_right _ _)) (Int.dvd_trans (Int.dvd_of_emod_eq_zero ?_) (Int.dvd_mul_right _ _)))
  exact Int.emod_eq_emod_iff_emod_sub_eq_zero.1 h4
 unfold ph
 rw[sub2,show d*(a*p+b*r)+-b*(c*p+d*r)=p by grind,show d*(a*q+b*t)+-b*(c*q+d*t)=q by grind,show -c*(a*p+b*r)+a*(c*p+d*r)=r by grind,show -c*(a*q+b*t)+a*(c*q+d*t)=t by grind,plc_scale hck (det_prim (n:=n) (by omega) hd) h1 h2 h3 (hu p r) (hu q t),cP_scale]
theorem stepQ_neg1 {y z:Int×Int} (h:Nb y z):stepQ n wt D x Q (-y.1,-y.2) z=stepQ n wt D x Q y z:=by
 unfold stepQ
 dsimp only
 rcases h with h|h
 ·rw[if_neg (by grind),if_pos h,Int.neg_neg,Int.neg_neg]
 ·rw[if_pos (by grind),if_neg (by omega)]
theorem stepQ_neg2 (hck:Pl.check n ((wt:Int)+2) D=0) (hR:RelZ n wt D x) {y z:Int×Int} (h:Nb y z):stepQ n wt D x Q y (-z.1,-z.2)=stepQ n wt D x Q y z:=by
 unfold stepQ
 dsimp only
 rcases h with h|h
 ·rw[if_neg (by grind),if_pos h]
  exact ph_neg hck hR (by grind)
 ·rw[if_pos (by grind),if_neg (by omega)]
  have h1:=ph_neg (Q:=Q) hck hR (a:=z.1) (b:=-y.1) (c:=z.2) (d:=-y.2) (by grind)
  rw[Int.neg_neg,Int.neg_neg]at h1
  exact h1
theorem nb_gen (hdet:a*d - b*c=1) {y z:Int×Int} (h:Nb y z):Nb (a*y.1+b*y.2,c*y.1+d*y.2) (a*z.1+b*z.2,c*z.1+d*z.2):=by
 have e:(a*z.1+b*z.2)*(c*y.1+d*y.2) - (a*y.1+b*y.2)*(c*z.1+d*z.2)=(a*d - b*c)*(z.1*y.2 - y.1*z.2):=by grind
 rw[hdet,Int.one_mul]at e
 unfold Nb at *
 dsimp only
 rw[e]
 exact h
theorem nb_neg1 {y z:Int×Int} (h:Nb y z):Nb (-y.1,-y.2) z:=by
 have e:z.1 * -y.2 - -y.1*z.2=-(z.1*y.2 - y.1*z.2):=by grind
 unfold Nb at *
 dsimp only
 rw[e]
 omega
theorem nb_neg2 {y z:Int×Int} (h:Nb y z):Nb y (-z.1,-z.2):=(nb_neg1 h.symm).symm
theorem step_gen (hck:Pl.check n ((wt:Int)+2) D=0) (hg:G0 n a b c d) (h1:1≤s) (h2:s≤n) (h3:pun n s=true) (h4:(s:Int) % n=d % n) {y z:Int×Int} (h:Nb y z):
  stepQ n wt D x (subst Q wt d (-b) (-c) a (wt+1)) (a*y.1+b*y.2,c*y.1+d*y.2) (a*z.1+b*z.2,c*z.1+d*z.2)=(Pl.kroP D s:Rat)*stepQ n wt D x Q y z:=by
 have e:(a*z.1+b*z.2)*(c*y.1+d*y.2) - (a*y.1+b*y.2)*(c*z.1+d*z.2)=(a*d - b*c)*(z.1*y.2 - y.1*z.2):=by grind
 rw[hg.det,Int.one_mul]at e
 unfold stepQ
 dsimp only
 rw[e]
 rcases h with h|h
 ·rw[if_pos h,if_pos h]
  exact ph_move hck hg h1 h2 h3 h4 h
 ·rw[if_neg (by omega),if_neg (by omega),show -(a*y.1+b*y.2)=a * -y.1+b * -y.2 by grind,show -(c*y.1+d*y.2)=c * -y.1+d * -y.2 by grind]
  exact ph_move hck hg h1 h2 h3 h4 (by grind)
theorem step_img (hck:Pl.check n ((wt:Int)+2) D=0) (hR:RelZ n wt D x) (hg:G0 n a b c d) (h1:1≤s) (h2:s≤n) (h3:pun n s=true) (h4:(s:Int) % n=d % n) {y z:Int×Int} (h:Nb y z):
  Nb (img a b c d y) (img a b c d z)∧stepQ n wt D x (subst Q wt d (-b) (-c) a (wt+1)) (img a b c d y) (img a b c d z)=(Pl.kroP D s:Rat)*stepQ n wt D x Q y z:=by
 obtain⟨gy,gz⟩:=gcd_nb h
 have hN:=nb_gen hg.det h
 rw[← step_gen (x:=x) (Q:=Q) hck hg h1 h2 h3 h4 h]
 obtain⟨_,hy⟩:=img_spec hg.det gy
 obtain⟨_,hz⟩:=img_spec hg.det gz
 obtain⟨Y,hY⟩:∃ Y:Int×Int,(a*y.1+b*y.2,c*y.1+d*y.2)=Y:=⟨_,rfl⟩
 obtain⟨Z,hZ⟩:∃ Z:Int×Int,(a*z.1+b*z.2,c*z.1+d*z.2)=Z:=⟨_,rfl⟩
 have hy':img a b c d y=Y∨img a b c d y=(-Y.1,-Y.2):=by
  rw[← hY]
  rcases hy with hy|hy
  ·left;exact Prod.ext hy.1 hy.2
  ·right;exact Prod.ext hy.1 hy.2
 have hz':img a b c d z=Z∨img a b c d z=(-Z.1,-Z.2):=by
  rw[← hZ]
  rcases hz with hz|hz
  ·left;exact Prod.ext hz.1 hz.2
  ·right;exact Prod.ext hz.1 hz.2
 rw[hY,hZ]at hN ⊢
 rcases hy' with e1|e1 <;> rcases hz' with e2|e2 <;> rw[e1,e2]
 ·exact⟨hN,rfl⟩
 ·exact⟨nb_neg2 hN,stepQ_neg2 hck hR hN⟩
 ·exact⟨nb_neg1 hN,stepQ_neg1 hN⟩
 ·exact⟨nb_neg1 (nb_neg2 hN),(stepQ_neg1 (nb_neg2 hN)).trans (stepQ_neg2 hck hR hN)⟩
theorem pot_img (hck:Pl.check n ((wt:Int)+2) D=0) (hR:RelZ n wt D x) (hg:G0 n a b c d) (h1:1≤s) (h2:s≤n) (h3:pun n s=true) (h4:(s:Int) % n=d % n) {u v:Int×Int} (hu:cuspE u.1 u.2=0) (hv:cuspE v.1 v.2=0):
  Pot (stepQ n wt D x (subst Q wt d (-b) (-c) a (wt+1))) (img a b c d v) - Pot (stepQ n wt D x (subst Q wt d (-b) (-c) a (wt+1))) (img a b c d u)=(Pl.kroP D s:Rat)*(Pot (stepQ n wt D x Q) v - Pot (stepQ n wt D x Q) u):=by
 have hok:=joined hu hv (c:=1) (by decide) (by unfold pthL;simp) (by unfold pthL;simp) (fun j hj=>by
  have hj0:j=0:=Nat.lt_one_iff.1 hj
  rw[hj0];rfl)
 obtain⟨ch,hch⟩:∃ ch,((pthL u).drop (1 - 1)).reverse++(pthL v).drop 1=ch:=⟨_,rfl⟩
 rw[hch]at hok
 obtain⟨f,hf⟩:∃ f:Nat→Int×Int,(fun j=>ch.getD j (0,0))=f:=⟨_,rfl⟩
 have hget:∀ j,j<ch.length→ch[j]?=some (f j):=fun j hj=>by rw[← hf];dsimp only;rw[List.getD_eq_getElem?_getD,List.getElem?_eq_getElem hj];rfl
 have hpos:=hok.pos
 have f0:f 0=u:=by have:=(hget 0 hpos).symm.trans hok.first;injection this
 have f1:f (ch.length - 1)=v:=by have:=(hget (ch.length - 1) (by omega)).symm.trans hok.last;injection this
 have hgd:∀ j,j≤ch.length - 1→Gd (f j):=fun j hj=>(hok.good _ (List.mem_of_getElem? (hget j (by omega)))).2
 have hnb:∀ j,j<ch.length - 1→Nb (f j) (f (j+1)):=fun j hj=>hok.nb j _ _ (hget j (by omega)) (hget (j+1) (by omega))
 have hgc:∀ j,j≤ch.length - 1→Int.gcd (f j).1 (f j).2=1:=fun j hj=>by
  cases j with
  | zero=>rw[f0];exact(cuspE_zero hu).2.2
  | succ j=>exact(gcd_nb (hnb j (by omega))).2
 have c1:=(stepQ_ok (Q:=Q) hck hR).chain f (ch.length - 1) hgd hnb
 have c2:=(stepQ_ok (Q:=subst Q wt d (-b) (-c) a (wt+1)) hck hR).chain (fun j=>img a b c d (f j)) (ch.length - 1) (fun j hj=>(img_spec hg.det (hgc j hj)).1) (fun j hj=>(step_img (Q:=Q) hck hR hg h1 h2 h3 h4 (hnb j hj)).1)
 have c3:sumQ (fun j=>stepQ n wt D x (subst Q wt d (-b) (-c) a (wt+1)) (img a b c d (f j)) (img a b c d (f (j+1)))) (ch.length - 1)=(Pl.kroP D s:Rat)*sumQ (fun j=>stepQ n wt D x Q (f j) (f (j+1))) (ch.length - 1):=by
  rw[← sumQ_mul]
  exact sumQ_congr (fun j hj=>(step_img hck hR hg h1 h2 h3 h4 (hnb j hj)).2)
 rw[f0,f1]at c1 c2
 rw[← c2,← c1,c3]
end
end Go.Proofs.YtijgdhijdfgpfaaGreatDoor
namespace Go.Proofs.YtijgdhijdfgpfaaGreatDoor
open Go.RowKit Eli
theorem inv_ex {k d:Int} {m:Nat} (hm:0<m) (hkm:k.natAbs=m) (hg:Int.gcd k d=1):∃ r:Nat,r<m∧(m:Int)∣r*d - 1:=by
 have hs:=Int.toNat_of_nonneg (Int.emod_nonneg d (show(m:Int)≠0 by omega))
 obtain⟨s,hse⟩:∃ s,(d % m).toNat=s:=⟨_,rfl⟩
 rw[hse]at hs
 have hd:=Int.mul_ediv_add_emod d m
 rw[← hs]at hd
 have h1:Nat.gcd s m=1:=by
  have g1:((Nat.gcd s m:Nat):Int)∣s:=Int.natCast_dvd_natCast.2 (Nat.gcd_dvd_left ..)
  have g2:((Nat.gcd s m:Nat):Int)∣m:=Int.natCast_dvd_natCast.2 (Nat.gcd_dvd_right ..)
  have g3:((Nat.gcd s m:Nat):Int)∣k:=Int.dvd_natAbs.1 (by rw[hkm];exact g2)
  have g4:((Nat.gcd s m:Nat):Int)∣d:=by rw[← hd];exact Int.dvd_add (Int.dvd_trans g2 (Int.dvd_mul_right _ _)) g1
  have g5:=Int.dvd_coe_gcd g3 g4
  rw[hg]at g5
  exact Nat.dvd_one.1 (Int.natCast_dvd_natCast.1 g5)
 obtain⟨r,_,_,_,h2⟩:=unit_inv m s hm h1
 have h3:((r*s:Nat):Int) % m=(1:Nat) % m:=by exact_mod_cast congrArg (fun z:Nat=>(z:Int)) h2
 obtain⟨e,he⟩:=Int.dvd_of_emod_eq_zero (Int.emod_eq_emod_iff_emod_sub_eq_zero.1 h3)
 have h4:=Nat.div_add_mod r m
 have h5:(m:Int)*((r / m:Nat):Int)+((r % m:Nat):Int)=r:=by exact_mod_cast congrArg (fun z:Nat=>(z:Int)) h4
 rw[Int.natCast_mul]at he
 refine⟨r % m,Nat.mod_lt _ hm,e+r*(d / m) - ((r / m:Nat):Int)*d,?_⟩
 obtain⟨q,hq⟩:∃ q,d / m=q:=⟨_,rfl⟩
 rw[hq]at hd ⊢
 obtain⟨t,ht⟩:∃ t:Int,((r / m:Nat):Int)=t:=⟨_,rfl⟩
 obtain⟨v,hv⟩:∃ v:Int,((r % m:Nat):Int)=v:=⟨_,rfl⟩
 rw[ht,hv]at h5
 rw[ht,hv]
 have e1:v=r - m*t:=by omega
 have e2:(r:Int)*s=1+m*e:=by omega
 rw[e1]
 have e3:(r:Int)*d=r*(m*q)+r*s:=by rw[← Int.mul_add,hd]
 grind
def ElRet (n:Nat) (e:Ending):Prop:=e=.returned (.tuple #[.agg #[.int .i64 0,.int .i64 0,.int .i64 0,.int .i64 0],.bool false])∨∃ A B C E:Int,e=.returned (.tuple #[.agg #[.int .i64 A,.int .i64 B,.int .i64 C,.int .i64 E],.bool true])∧G0 n A B C E∧(-1000000≤A∧A≤1000000)∧(-1000000≤B∧B≤1000000)∧(-1000000≤C∧C≤1000000)∧(-1000000≤E∧E≤1000000)
theorem mul_abs {x y:Int} {A B:Nat} (h:x.natAbs≤A) (h2:y.natAbs≤B):-((A*B:Nat):Int)≤x*y∧x*y≤((A*B:Nat):Int):=by
 have:=abs_mul_le h h2
 omega
theorem c_Element (n:Nat) (a b c d:Int) (w:World) (hn0:0<n) (hn:n≤120) (ha:-7≤a) (ha':a≤7) (hb:-7≤b) (hb':b≤7) (hc:-3≤c) (hc':c≤3) (hd:-128≤d) (hd':d≤127):
  Calls Tryz.prog 23 #[.int .i64 n,.int .i64 a,.int .i64 b,.int .i64 c,.int .i64 d] w fun e w'=>ElRet n e∧Below w.heap.size w w':=by
 obtain⟨k,hk⟩:∃ k,(n:Int)*c=k:=⟨_,rfl⟩
 have hkb:=mul_abs (x:=(n:Int)) (y:=c) (A:=120) (B:=3) (by omega) (by omega)
 rw[hk]at hkb
 have hkb1:-360≤k:=by omega
 have hkb2:k≤360:=by omega
 have wk:IntKind.i64.wrap ((n:Int)*c)=k:=by rw[hk];exact IntWalk.i64_in _ (by omega)
 have hdvd:(n:Int)∣k:=hk▸Int.dvd_mul_right _ _
 obtain⟨gd,hgd⟩:∃ gd,Int.gcd k d=gd:=⟨_,rfl⟩
 have HGD:=Kh hgd
 have HDV:=Kh hdvd
 have HGC:=Kh (fun W=>c_gcd k d W (by omega) (by omega) (by omega) (by omega))
 rw[hgd]at HGC
 have FIN:=Kh (show ∀ x y:Int,(-360≤x∧x≤360)→(-50000≤y∧y≤50000)→x*d - y*k=1→∃ ak A Ab s ad B kb E:Int,a*k=ak∧x+ak=A∧A*b=Ab∧Ab+y=s∧a*d=ad∧s+ad=B∧k*b=kb∧kb+d=E∧G0 n A B k E∧(-1000000≤A∧A≤1000000)∧(-1000000≤B∧B≤1000000)∧(-1000000≤k∧k≤1000000)∧(-1000000≤E∧E≤1000000)∧(-1000000≤ak∧ak≤1000000)∧(-1000000≤Ab∧Ab≤1000000)∧(-1000000≤s∧s≤1000000)∧(-1000000≤ad∧ad≤1000000)∧(-1000000≤kb∧kb≤1000000)from fun x y hx hy hxy=>by
  have b1:=mul_abs (x:=a) (y:=k) (A:=7) (B:=360) (by omega) (by omega)
  have b2:=mul_abs (x:=x+a*k) (y:=b) (A:=2880) (B:=7) (by omega) (by omega)
  have b3:=mul_abs (x:=a) (y:=d) (A:=7) (B:=128) (by omega) (by omega)
  have b4:=mul_abs (x:=k) (y:=b) (A:=360) (B:=7) (by omega) (by omega)
  refine⟨_,_,_,_,_,_,_,_,rfl,rfl,rfl,rfl,rfl,rfl,rfl,rfl,⟨?_,hdvd⟩,?_⟩
  ·rw[← hxy];grind
  ·omega)
 clear hk hkb hdvd hgd
 go_enter Tryz.func23,Tryz.ntmps23
 go_wp2_with fail
 obtain⟨w0,hw0,X0,hb0⟩:=bx1 w #[.int .i64 0,.int .i64 0,.int .i64 0,.int .i64 0] 28
 rw[hw0]
 refine(HGC.out w0).mono ?_
 rintro e w1 ⟨rfl,nd,hnd⟩
 obtain⟨gp,hgp⟩:∃ x,w.heap.size=x:=⟨_,rfl⟩
 have HGP:=Kh hgp
 have HGE:=Kh (show w.heap.size≤gp from Nat.le_of_eq hgp)
 have X1:=X0.drewN_ nd
 have W1:=below_drewN' hb0 nd
 rw[← hnd]at X1 W1
 rw[hgp]at X1 ⊢
 have HB1:=Kh W1
 have HX1:=Kh X1
 clear hw0 X0 hb0 hnd X1 W1 hgp wk
 by_cases hg1:gd=1
 ·have hgn:((gd:Int) != 1)=false:=by rw[bne_eq_false_iff_eq];omega
  by_cases hk0:k=0
  ·have hkb:(k==0)=true:=by rw[hk0];rfl
   have hdd:d=1∨d=-1:=by
    have h:=HGD.out
    rw[hk0,Int.gcd_zero_left]at h
    omega
   obtain⟨ak,A,Ab,s,ad,B,kb,E,e1,e2,e3,e4,e5,e6,e7,e8,hG,r1,r2,r3,r4,r5,r6,r7,r8,r9⟩:=FIN.out d 0 (by omega) (by omega) (by rw[Int.zero_mul];rcases hdd with h|h <;> rw[h] <;> decide)
   have HGG:=Kh hG
   have v1:IntKind.i64.wrap (a*k)=ak:=by rw[e1];exact IntWalk.i64_in _ (by omega)
   have v2:IntKind.i64.wrap (d+ak)=A:=by rw[e2];exact IntWalk.i64_in _ (by omega)
   have v3:IntKind.i64.wrap (A*b)=Ab:=by rw[e3];exact IntWalk.i64_in _ (by omega)
   have v4:IntKind.i64.wrap Ab=s:=by rw[← e4,Int.add_zero];exact IntWalk.i64_in _ (by omega)
   have v5:IntKind.i64.wrap (a*d)=ad:=by rw[e5];exact IntWalk.i64_in _ (by omega)
   have v6:IntKind.i64.wrap (s+ad)=B:=by rw[e6];exact IntWalk.i64_in _ (by omega)
   have v7:IntKind.i64.wrap (k*b)=kb:=by rw[e7];exact IntWalk.i64_in _ (by omega)
   have v8:IntKind.i64.wrap (kb+d)=E:=by rw[e8];exact IntWalk.i64_in _ (by omega)
   clear e1 e2 e3 e4 e5 e6 e7 e8 hG FIN HGC hdd hk0
   have x0:=HX1.out.at_ 0 rfl
   have x1:=HX1.out.at_ 1 rfl
   have x2:=HX1.out.at_ 2 rfl
   have x3:=HX1.out.at_ 3 rfl
   have f0:=HX1.out.free_ 0
   have f1:=HX1.out.free_ 1
   have f2:=HX1.out.free_ 2
   have f3:=HX1.out.free_ 3
   go_wp2
   (try simp only[Exit.inBlock,Exit.then])
   exact bodyPost_ret (v:=.tuple #[.agg #[.int .i64 A,.int .i64 B,.int .i64 k,.int .i64 E],.bool true]) (by rw[results_cell_tmp rfl];go_simp) rfl ⟨.inr ⟨A,B,k,E,rfl,HGG.out,r1,r2,r3,r4⟩,((((HB1.out.setCell HGE.out _).setCell HGE.out _).setCell HGE.out _).setCell HGE.out _)⟩
  ·have hkb:(k==0)=false:=by rw[beq_eq_false_iff_ne];exact hk0
   obtain⟨m,hm⟩:∃ m,k.natAbs=m:=⟨_,rfl⟩
   have hm0:0<m:=by omega
   have hm1:m≤360:=by omega
   have hM:∀ w,(Builtin.max_ #[3,3] 3 #[.int .i64 k,.int .i64 (-k)]).run Tryz.prog w=.ok (.int .i64 m) w:=fun w=>by
    have e:(if k < -k then -k else k)=(m:Int):=by split <;> omega
    simp[Builtin.max_,Builtin.max2,e]
   have wn:IntKind.i64.wrap (-k)=-k:=IntWalk.i64_in _ (by omega)
   obtain⟨r,hr,hrd⟩:=inv_ex hm0 hm (by rw[HGD.out];exact hg1)
   have HR:=Kh hr
   have HRD:=Kh hrd
   have HM:=Kh hm
   clear hr hrd hm HGC HGD
   go_upto_region 8 with(fail)
   clear hM wn
   go_loopw [13] (fun vx wr=>∃ x:Nat,x≤m∧vx=.int .i64 x∧wr=w1∧∀ y:Nat,y<x→¬ (m:Int)∣y*d - 1) (fun vx _=>m - (intOf vx).toNat)
   case atStart=>exact⟨0,Nat.zero_le _,rfl,rfl,fun y hy=>absurd hy (Nat.not_lt_zero _)⟩
   case round=>
    obtain⟨x,hx,rfl,rfl,hno⟩:=hrel
    have HNO:=Kh hno
    clear hno
    obtain⟨P,hP⟩:∃ P,(x:Int)*d=P:=⟨_,rfl⟩
    have hPb:=mul_abs (x:=(x:Int)) (y:=d) (A:=360) (B:=128) (by omega) (by omega)
    rw[hP]at hPb
    obtain⟨z,hz⟩:∃ z,P - 1=z:=⟨_,rfl⟩
    have hzb:-46081≤z∧z≤46081:=by omega
    have wp:IntKind.i64.wrap ((x:Int)*d)=P:=by rw[hP];exact IntWalk.i64_in _ (by omega)
    have wz:IntKind.i64.wrap (P - 1)=z:=by rw[hz];exact IntWalk.i64_in _ (by omega)
    have hzx:(x:Int)*d - 1=z:=by rw[hP];exact hz
    have hmI:((m:Int)==0)=false:=by rw[beq_eq_false_iff_ne];omega
    by_cases hdv:(m:Int)∣z
    ·obtain⟨q,hq⟩:∃ q,z.tdiv m=q:=⟨_,rfl⟩
     have hqm:q*m=z:=by rw[← hq];exact Int.tdiv_mul_cancel hdv
     have hqb:q.natAbs≤46081:=by rw[← hq,Int.natAbs_tdiv];exact Nat.le_trans (Nat.div_le_self _ _) (by omega)
     have wq:IntKind.i64.wrap q=q:=IntWalk.i64_in _ (by omega)
     have wm:IntKind.i64.wrap (q*m)=z:=by rw[hqm];exact IntWalk.i64_in _ (by omega)
     obtain⟨Y,hY⟩:∃ Y,z.tdiv k=Y:=⟨_,rfl⟩
     have hkd:k∣z:=by rw[← HM.out]at hdv;exact Int.natAbs_dvd.1 hdv
     have hYk:Y*k=z:=by rw[← hY];exact Int.tdiv_mul_cancel hkd
     have hYb:Y.natAbs≤46081:=by rw[← hY,Int.natAbs_tdiv];exact Nat.le_trans (Nat.div_le_self _ _) (by omega)
     have wY:IntKind.i64.wrap Y=Y:=IntWalk.i64_in _ (by omega)
     have hne:(z != z)=false:=by simp
     obtain⟨ak,A,Ab,s,ad,B,kb,E,e1,e2,e3,e4,e5,e6,e7,e8,hG,r1,r2,r3,r4,r5,r6,r7,r8,r9⟩:=FIN.out x Y (by omega) (by omega) (by rw[hYk,← hzx];omega)
     clear hP hz hzx hqm hYk hkd hdv hPb
     have HGG:=Kh hG
     have v1:IntKind.i64.wrap (a*k)=ak:=by rw[e1];exact IntWalk.i64_in _ (by omega)
     have v2:IntKind.i64.wrap ((x:Int)+ak)=A:=by rw[e2];exact IntWalk.i64_in _ (by omega)
     have v3:IntKind.i64.wrap (A*b)=Ab:=by rw[e3];exact IntWalk.i64_in _ (by omega)
     have v4:IntKind.i64.wrap (Ab+Y)=s:=by rw[e4];exact IntWalk.i64_in _ (by omega)
     have v5:IntKind.i64.wrap (a*d)=ad:=by rw[e5];exact IntWalk.i64_in _ (by omega)
     have v6:IntKind.i64.wrap (s+ad)=B:=by rw[e6];exact IntWalk.i64_in _ (by omega)
     have v7:IntKind.i64.wrap (k*b)=kb:=by rw[e7];exact IntWalk.i64_in _ (by omega)
     have v8:IntKind.i64.wrap (kb+d)=E:=by rw[e8];exact IntWalk.i64_in _ (by omega)
     clear e1 e2 e3 e4 e5 e6 e7 e8 hG FIN
     have x0:=HX1.out.at_ 0 rfl
     have x1:=HX1.out.at_ 1 rfl
     have x2:=HX1.out.at_ 2 rfl
     have x3:=HX1.out.at_ 3 rfl
     have f0:=HX1.out.free_ 0
     have f1:=HX1.out.free_ 1
     have f2:=HX1.out.free_ 2
     have f3:=HX1.out.free_ 3
     go_wp2
     (try simp only[Exit.inBlock,Exit.then])
     exact bodyPost_ret (v:=.tuple #[.agg #[.int .i64 A,.int .i64 B,.int .i64 k,.int .i64 E],.bool true]) (by rw[results_cell_tmp rfl];go_simp) rfl ⟨.inr ⟨A,B,k,E,rfl,HGG.out,r1,r2,r3,r4⟩,((((HB1.out.setCell HGE.out _).setCell HGE.out _).setCell HGE.out _).setCell HGE.out _)⟩
    ·have hxm:x<m:=by
      rcases Nat.lt_or_ge x m with h|h
      ·exact h
      ·have:=HR.out
       exact absurd HRD.out (HNO.out r (by omega))
     have hxi:(x:Int)<(m:Int):=by omega
     obtain⟨q,hq⟩:∃ q,z.tdiv m=q:=⟨_,rfl⟩
     have hqb:q.natAbs≤46081:=by rw[← hq,Int.natAbs_tdiv];exact Nat.le_trans (Nat.div_le_self _ _) (by omega)
     have wq:IntKind.i64.wrap q=q:=IntWalk.i64_in _ (by omega)
     obtain⟨u,hu⟩:∃ u,q*m=u:=⟨_,rfl⟩
     have hub:=mul_abs (x:=q) (y:=(m:Int)) (A:=46081) (B:=360) hqb (by omega)
     rw[hu]at hub
     have wm:IntKind.i64.wrap (q*m)=u:=by rw[hu];exact IntWalk.i64_in _ (by omega)
     have hne:(z != u)=true:=by
      rw[bne_iff_ne]
      intro h
      exact hdv ⟨q,by rw[h,← hu,Int.mul_comm]⟩
     have HN2:=Kh (show ∀ y:Nat,y<x+1→¬ (m:Int)∣y*d - 1 from fun y hy=>by
      rcases Nat.lt_or_ge y x with h|h
      ·exact HNO.out y h
      ·obtain rfl:y=x:=by omega
       rw[hzx];exact hdv)
     clear hP hz hzx hdv hPb hu hub FIN HNO
     go_wp2
     go_roundw
     case rel=>exact⟨x+1,by omega,by go_num,trivial,HN2.out⟩
     case measure=>simp[intOf];omega
 ·have hgn:((gd:Int) != 1)=true:=by rw[bne_iff_ne];omega
  have x0:=HX1.out.at_ 0 rfl
  have x1:=HX1.out.at_ 1 rfl
  have x2:=HX1.out.at_ 2 rfl
  have x3:=HX1.out.at_ 3 rfl
  have f0:=HX1.out.free_ 0
  have f1:=HX1.out.free_ 1
  have f2:=HX1.out.free_ 2
  have f3:=HX1.out.free_ 3
  clear FIN HGC
  go_wp2
  (try simp only[Exit.inBlock,Exit.then])
  exact bodyPost_ret (v:=.tuple #[.agg #[.int .i64 0,.int .i64 0,.int .i64 0,.int .i64 0],.bool false]) (by rw[results_cell_tmp rfl];go_simp) rfl ⟨.inl rfl,((((HB1.out.setCell HGE.out _).setCell HGE.out _).setCell HGE.out _).setCell HGE.out _)⟩
end Go.Proofs.YtijgdhijdfgpfaaGreatDoor
namespace Go.Proofs.YtijgdhijdfgpfaaGreatDoor
open Eli
theorem img_cusp {a b c d:Int} (h:a*d - b*c=1) {x:Int×Int} (hx:Int.gcd x.1 x.2=1) (i1:inE (img a b c d x).1=true) (i2:inE (img a b c d x).2=true):cuspE (img a b c d x).1 (img a b c d x).2=0:=by
 obtain⟨⟨g1,g2⟩,hs⟩:=img_spec h hx
 have hg:Int.gcd (img a b c d x).1 (img a b c d x).2=1:=by
  have e1:x.1=d*(a*x.1+b*x.2)+(-b)*(c*x.1+d*x.2):=by grind
  have e2:x.2=(-c)*(a*x.1+b*x.2)+a*(c*x.1+d*x.2):=by grind
  obtain⟨A,hA⟩:∃ A,(img a b c d x).1=A:=⟨_,rfl⟩
  obtain⟨B,hB⟩:∃ B,(img a b c d x).2=B:=⟨_,rfl⟩
  rw[hA,hB]at hs ⊢
  have d1:((Int.gcd A B:Nat):Int)∣a*x.1+b*x.2:=by
   rcases hs with⟨h1,_⟩ |⟨h1,_⟩
   ·rw[← h1];exact Int.gcd_dvd_left ..
   ·rw[show a*x.1+b*x.2=-A by omega];exact Int.dvd_neg.2 (Int.gcd_dvd_left ..)
  have d2:((Int.gcd A B:Nat):Int)∣c*x.1+d*x.2:=by
   rcases hs with⟨_,h1⟩ |⟨_,h1⟩
   ·rw[← h1];exact Int.gcd_dvd_right ..
   ·rw[show c*x.1+d*x.2=-B by omega];exact Int.dvd_neg.2 (Int.gcd_dvd_right ..)
  have d3:((Int.gcd A B:Nat):Int)∣x.1:=by rw[e1];exact Int.dvd_add (Int.dvd_trans d1 (Int.dvd_mul_left _ _)) (Int.dvd_trans d2 (Int.dvd_mul_left _ _))
  have d4:((Int.gcd A B:Nat):Int)∣x.2:=by rw[e2];exact Int.dvd_add (Int.dvd_trans d1 (Int.dvd_mul_left _ _)) (Int.dvd_trans d2 (Int.dvd_mul_left _ _))
  have d5:=Int.dvd_coe_gcd d3 d4
  rw[hx]at d5
  exact Nat.dvd_one.1 (Int.natCast_dvd_natCast.1 d5)
 unfold cuspE
 rw[if_neg (by rw[i1,i2];simp;exact g1),if_neg (by rw[hg];simp;exact g2)]
theorem chi_g {n wt:Nat} {D a b c d:Int} (hck:Pl.check n ((wt:Int)+2) D=0) (hg:G0 n a b c d):∃ s:Nat,(1≤s∧s≤n∧pun n s=true∧(s:Int) % n=d % n)∧Pl.chiR n D (d % n).toNat=Pl.kroP D s∧(Pl.kroP D s=1∨Pl.kroP D s=-1):=by
 obtain⟨⟨a1,a2⟩,_,⟨a3,a4⟩,a5,a6⟩:=Pl.check_ok hck
 have hn:0<n:=by omega
 obtain⟨s,h1,h2,h3,h4,h5⟩:=unit_of hn hg
 refine⟨s,⟨h1,h2,h3,h4⟩,?_,?_⟩
 ·have e:Pl.chiR n D (d % n).toNat=Pl.chiR n D s:=by unfold Pl.chiR;rw[h5]
  rw[e]
  exact Pl.chi_eq hn (by omega) a3 a4 a5 a6 (by omega) (by omega) (by simpa [pun] using h3)
 ·obtain⟨r,c1,c2,c3,c4⟩:=pun_small hn (pun_mul h3 h3)
  exact(Pl.kro_mul (N:=n) (D:=D) (a:=s) (b:=s) (c:=r) hn a3 a4 a5 a6 (by omega) (by omega) (by omega) (by omega) (by omega) (by omega) (by simpa [pun] using h3) (by simpa [pun] using h3) (by simpa [pun] using c3) c4.symm).2
theorem err_g {L:Nat} {a b c d x1 x2 y1 y2:Int} (hL:0<L) (hL2:L≤23) (hdet:a*d - b*c=1) (ha:-1000000≤a∧a≤1000000) (hb:-1000000≤b∧b≤1000000) (hc:-1000000≤c∧c≤1000000) (hd:-1000000≤d∧d≤1000000):
  ((cuspE x1 x2≠0∨cuspE y1 y2≠0)→trErr L a b c d x1 x2 y1 y2≠0) ∧
  (cuspE x1 x2=0→cuspE y1 y2=0→(trErr L a b c d x1 x2 y1 y2=0∧(appV a b c d x1 x2).1=img a b c d (x1,x2)∧(appV a b c d y1 y2).1=img a b c d (y1,y2)∧cuspE (img a b c d (x1,x2)).1 (img a b c d (x1,x2)).2=0∧cuspE (img a b c d (y1,y2)).1 (img a b c d (y1,y2)).2=0)∨trErr L a b c d x1 x2 y1 y2=7):=by
 have hf:fitB a b c d=true:=by
  simp only[fitB,inE_iff.2 (show -1073741824≤a∧a≤1073741824 by omega),inE_iff.2 (show -1073741824≤b∧b≤1073741824 by omega),inE_iff.2 (show -1073741824≤c∧c≤1073741824 by omega),inE_iff.2 (show -1073741824≤d∧d≤1073741824 by omega)];rfl
 have e:trErr L a b c d x1 x2 y1 y2=trE a b c d x1 x2 y1 y2:=by
  rw[trErr,if_neg (by omega),if_neg (by rw[hf];decide),if_neg (by omega)]
 rw[e]
 have ap:∀ p q:Int,(cuspE p q≠0→(appV a b c d p q).2≠0)∧(cuspE p q=0→((appV a b c d p q).2=0∧(appV a b c d p q).1=img a b c d (p,q)∧cuspE (img a b c d (p,q)).1 (img a b c d (p,q)).2=0)∨(appV a b c d p q).2=7):=fun p q=>by
  refine⟨fun h=>?_,fun h=>?_⟩
  ·unfold appV;rw[if_pos h];exact h
  ·unfold appV
   rw[if_neg (by simp[h])]
   by_cases hi:inE (low (a*p+b*q) (c*p+d*q)).1=true∧inE (low (a*p+b*q) (c*p+d*q)).2=true
   ·rw[if_pos hi]
    exact .inl ⟨rfl,rfl,img_cusp hdet (x:=(p,q)) (cuspE_zero h).2.2 hi.1 hi.2⟩
   ·rw[if_neg hi];exact .inr rfl
 obtain⟨u1,u2⟩:=ap x1 x2
 obtain⟨v1,v2⟩:=ap y1 y2
 unfold trE
 refine⟨fun h=>?_,fun hx hy=>?_⟩
 ·split
  ·assumption
  ·rename_i h0
   rcases h with h|h
   ·exact absurd (u1 h) h0
   ·exact v1 h
 ·rcases u2 hx with⟨a1,a2,a3⟩|a1
  ·rw[if_neg (by simp[a1])]
   rcases v2 hy with⟨b1,b2,b3⟩|b1
   ·exact .inl ⟨b1,a2,b2,a3,b3⟩
   ·exact .inr b1
  ·rw[if_pos (by rw[a1];decide)];exact .inr a1
end Go.Proofs.YtijgdhijdfgpfaaGreatDoor
namespace Go.Proofs.YtijgdhijdfgpfaaGreatDoor
open Go.RowKit Eli
theorem QL.boxed {F:Nat→FP} (hF:∀ j,Solid (F j)) {w w':World} {p:Option Addr} {n c R:Nat} (h:QL F w (.slice p n c) n) (h32:I32 w w') (hg:w.grownBy w' (some R)) (hne:∀ a,p=some a→a.block≠R):QL F w' (.slice p n c) n:=by
 rcases h with h |⟨g,o,cap,e,hlt,hq⟩
 ·exact .inl h
 ·injection e with e1 e2 e3
  subst e1
  have hn:(some g:Option Nat)≠some R:=fun e=>hne _ rfl (by injection e)
  refine .inr ⟨g,o,c,rfl,Nat.lt_of_lt_of_le hlt hg.size,fun j hj=>?_⟩
  obtain⟨s,p,k,c,t,q,m,d,h0,h1,h2,h3,h4⟩:=hq j hj
  exact⟨s,p,k,c,t,q,m,d,hg.cell h0 hn,hg.cell h1 hn,hg.cell h2 hn,hg.cell h3 hn,hF j _ _ _ _ _ _ _ _ _ _ h32 h4⟩
theorem RetP.uni {w w':World} {e:Ending} {n:Nat} {f:Nat→Rat} {X Y:Int×Int} (h:RetP w w' e n f X Y 0):∃ pT cT,e=.returned (.tuple #[.agg #[.slice pT n cT,.int .i64 X.1,.int .i64 X.2,.int .i64 Y.1,.int .i64 Y.2],.int .i64 0])∧QL (fun j=>IsQ (f j)) w' (.slice pT n cT) n∧∀ a,pT=some a→w.heap.size≤a.block:=by
 rcases h with⟨h,_⟩ |⟨_,g,cap,he,hg,hr⟩
 ·exact absurd rfl h
 ·exact⟨_,cap,he,hr.ql cap,fun a ha=>by injection ha with ha;subst ha;exact hg⟩
theorem RetP.bad {w w':World} {e:Ending} {n:Nat} {f:Nat→Rat} {X Y:Int×Int} {er:Int} (h:RetP w w' e n f X Y er) (h0:er≠0):e=.returned (.tuple #[.agg #[.slice none 0 0,.int .i64 0,.int .i64 0,.int .i64 0,.int .i64 0],.int .i64 er]):=by
 rcases h with⟨_,h⟩ |⟨h,_⟩
 ·exact h
 ·exact absurd h h0
end Go.Proofs.YtijgdhijdfgpfaaGreatDoor
