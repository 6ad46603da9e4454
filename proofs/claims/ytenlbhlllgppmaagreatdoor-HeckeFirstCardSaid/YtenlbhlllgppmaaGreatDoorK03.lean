/- Contracts of TrailingZeros64, reduced, jacobi and Kronecker of package arith. -/
import Derived.Test.YtenlbhlllgppmaaGreatDoorK02
set_option maxRecDepth 100000
set_option maxHeartbeats 8000000
namespace Go.Proofs.YtenlbhlllgppmaaGreatDoor
open Go.RowKit
def Tab (w:World):Prop:=∀ j,j<64→w.cell? ⟨0,j,none⟩=some (.int .u8 (Lib.deBruijn64tab.getD j 0))
theorem Tab.drew {w:World} (h:Tab w) (n:Nat):Tab (w.drewN n):=h
theorem Tab.below {w w':World} (h:Tab w) (hb:Below w.heap.size w w'):Tab w':=fun j hj=>by
 have hc:=h j hj
 have hlt:0<w.heap.size:=by
  by_cases hlt:0<w.heap.size
  ·exact hlt
  ·simp[World.cell?,Array.getElem?_eq_none (Nat.le_of_not_lt hlt)]at hc
 exact(hb.cell (p:=⟨0,j,none⟩) hlt).trans hc
theorem tz_key (x a:Nat) (hx:x<18446744073709551616) (hx0:x≠0) (hlow:x &&& (18446744073709551616 - x)=a):
  IntKind.u64.wrap (bits BinOp.and IntKind.u64 (x:Int) (IntKind.u64.wrap (-(x:Int)))*285870213051353865) / 288230376151711744=((a*285870213051353865 % 18446744073709551616 / 288230376151711744:Nat):Int):=by
 have e1:IntKind.u64.wrap (-(x:Int))=((18446744073709551616 - x:Nat):Int):=by rw[IntKind.wrap_u64];omega
 rw[e1,u64_and_nat x _ hx (by omega),hlow,IntKind.wrap_u64]
 omega
theorem tz_core (x k idx:Nat) (w:World) (hx0:((x:Int)==0)=false)
  (key:IntKind.u64.wrap (bits BinOp.and IntKind.u64 (x:Int) (IntKind.u64.wrap (-(x:Int)))*285870213051353865) / 288230376151711744=(idx:Int))
  (hi:idx<64) (hk:k<64) (hcell:w.cell? ⟨0,idx,none⟩=some (.int .u8 k)):
  Calls Tryz.prog 163 #[.int .u64 x] w fun e w'=>e=.returned (.int .i64 k)∧w'=w:=by
 go_enter Tryz.func163,Tryz.ntmps163
 go_wp2_with (simp only[key])
 go_ret
 exact⟨rfl,rfl⟩
theorem c_tz (x:Nat) (w:World) (hT:Tab w) (hx:0<x) (hx':x<18446744073709551616):
  Calls Tryz.prog 163 #[.int .u64 x] w fun e w'=>e=.returned (.int .i64 (Lib.ctz 64 x))∧w'=w:=by
 obtain⟨hlow,hk⟩:=Lib.lowest_bit 64 x (by omega) hx'
 obtain⟨hi,htab⟩:=Lib.deBruijn64_at _ hk
 have hc:=hT _ hi
 rw[htab]at hc
 exact tz_core x _ _ w (by simp;omega) (tz_key x _ hx' (by omega) hlow) hi hk hc
theorem neg_mod (a m:Int) (hm:0<m):a % m=if 0<(-a) % m then m - (-a) % m else(-a) % m:=by
 have h1:=Int.emod_nonneg (-a) (show m≠0 by omega)
 have h2:=Int.emod_lt_of_pos (-a) hm
 have h3:a=m*(-((-a) / m))+(-((-a) % m)):=by have:=Int.mul_ediv_add_emod (-a) m;rw[Int.mul_neg];omega
 split
 ·rw[show a % m=(m*(-((-a) / m))+(-((-a) % m))) % m from by rw[← h3],Int.mul_add_emod_self_left,← Int.add_emod_right,Int.emod_eq_of_lt (by omega) (by omega)];omega
 ·rw[show a % m=(m*(-((-a) / m))+(-((-a) % m))) % m from by rw[← h3],Int.mul_add_emod_self_left,show(-a) % m=0 from by omega];rfl
theorem c_reduced (a:Int) (m:Nat) (w:World) (ha:-2147483648≤a) (ha':a≤2147483648) (hm:0<m) (hm':m<4294967296):
  Calls Tryz.prog 165 #[.int .i64 a,.int .u64 m] w fun e w'=>e=.returned (.int .u64 (a % m))∧w'=w:=by
 by_cases h0:0≤a
 ·go_enter Tryz.func165,Tryz.ntmps165
  go_wp2
  go_ret
  exact⟨rfl,rfl⟩
 ·obtain⟨b,rfl⟩:∃ b:Nat,a=-(b:Int):=⟨a.natAbs,by omega⟩
  have h1:=Int.emod_nonneg (b:Int) (show(m:Int)≠0 by omega)
  have h2:=Int.emod_lt_of_pos (b:Int) (show(0:Int)<m by omega)
  have HN:=Kh (neg_mod (-(b:Int)) m (by omega))
  have key:IntKind.u64.wrap (-IntKind.u64.wrap (-(b:Int)))=(b:Int):=by simp only[IntKind.wrap_u64];omega
  go_enter Tryz.func165,Tryz.ntmps165
  go_wp2
  all_goals (go_ret;refine⟨ret_i ?_,rfl⟩;rw[HN.out,Int.neg_neg];first |(rw[if_pos (by omega)];done) |(rw[if_neg (by omega)];done))
theorem jacOut_eq {x y z b:Nat} {o o':Int} (hz:Lib.ctz 64 x=z) (hb:x / 2 ^ z=b)
  (h:o'=if b % 4=3∧y % 4=3 then -(if z % 2=1∧(y % 8=3∨y % 8=5)then -o else o)else(if z % 2=1∧(y % 8=3∨y % 8=5)then -o else o)):o'=Pl.jacOut x y o:=by
 subst hz hb;exact h
theorem jacOut_pm (x y:Nat) (o:Int) (h:o=1∨o=-1):Pl.jacOut x y o=1∨Pl.jacOut x y o=-1:=by
 unfold Pl.jacOut;dsimp only;split <;> split <;> omega
theorem jac_step {f x y z b:Nat} {o:Int} (hz:Lib.ctz 64 x=z) (hb:x / 2 ^ z=b) (h0:x≠0):Pl.jac (f+1) x y o=Pl.jac f (y % b) b (Pl.jacOut x y o):=by
 subst hz hb;rw[Pl.jac,if_neg h0]
theorem odd_part {x z:Nat} (h0:x≠0) (hx:x<18446744073709551616) (hz:Lib.ctz 64 x=z):∃ b,x / 2 ^ z=b∧0<b∧b≤x∧b % 2=1:=by
 obtain⟨m,hm,_⟩:=Lib.ctzFrom_spec 64 x (by omega) hx
 have e:Lib.ctz 64 x=Lib.ctzFrom 64 x:=by simp[Lib.ctz,h0]
 rw[← e,hz]at hm
 have hp:0<2 ^ z:=Nat.pow_pos (by omega)
 refine⟨2*m+1,?_,by omega,?_,by omega⟩
 ·rw[hm];exact Nat.mul_div_cancel_left _ hp
 ·rw[hm];exact Nat.le_mul_of_pos_left _ hp
theorem c_jacobi (a m:Nat) (w:World) (hT:Tab w) (ha:a<m) (hm':m<4294967296):
  Calls Tryz.prog 164 #[.int .u64 a,.int .u64 m] w fun e w'=>e=.returned (.int .i64 (Pl.jac (m+1) a m 1))∧w=w':=by
 go_enter Tryz.func164,Tryz.ntmps164
 go_wp2
 go_loop [0,1,5] (fun x y o=>∃ (x' y' f:Nat) (o':Int),x=.int .u64 x'∧y=.int .u64 y'∧o=.int .i64 o'∧(o'=1∨o'=-1)∧x'<y'∧y'<4294967296∧y'<f∧Pl.jac f x' y' o'=Pl.jac (m+1) a m 1) (fun x _ _=>(intOf x).toNat)
 case atStart=>exact⟨a,m,m+1,1,rfl,rfl,rfl,.inl rfl,ha,hm',by omega,rfl⟩
 case round=>
  obtain⟨x,y,f,o,rfl,rfl,rfl,ho,hx,hy,hf,hj⟩:=hrel
  obtain⟨g,rfl⟩:∃ g,f=g+1:=⟨f - 1,by omega⟩
  have HJ:=Kh hj
  clear hj
  by_cases h0:x=0
  ·subst h0
   by_cases h1:y=1
   ·subst h1
    go_wp2
    go_ret
    exact⟨ret_i (by rw[← HJ.out];rfl),rfl⟩
   ·have hy1:((y:Int) != 1)=true:=by simp;omega
    go_wp2
    go_ret
    exact⟨ret_i (by rw[← HJ.out,Pl.jac,if_pos rfl,if_neg h1]),rfl⟩
  ·have hx0:((x:Int) != 0)=true:=by simp;omega
   have hz:=(Lib.lowest_bit 64 x h0 (by omega)).2
   generalize hzz:Lib.ctz 64 x=z at hz
   obtain⟨b,hb,hb0,hbx,hodd⟩:=odd_part h0 (by omega) hzz
   have hbi:(x:Int) / 2 ^ z=(b:Int):=by rw[← hb];simp
   have HZ:=Kh hzz
   have HB:=Kh hb
   have HO:=Kh hodd
   clear hzz hb hodd
   have hlt:=Nat.mod_lt y hb0
   go_wp2_with (go_at_call 163;refine(c_tz _ _ hT (by omega) (by omega)).mono ?_;rw[HZ.out];rintro e w' ⟨rfl,rfl⟩)
   all_goals
    go_round
    case rel=>exact⟨y % b,b,g,Pl.jacOut x y o,val_i (Int.natCast_emod _ _).symm,rfl,val_i (jacOut_eq HZ.out HB.out (by(try simp only[beq_iff_eq,beq_eq_false_iff_ne,ne_eq]at *);split <;> split <;> omega)),jacOut_pm _ _ _ ho,hlt,by omega,by omega,by rw[← HJ.out,jac_step HZ.out HB.out h0]⟩
    case measure=>simp only[intOf];omega
theorem jac_pm:∀ (f x y:Nat) (o:Int),(o=1∨o=-1)→-1≤Pl.jac f x y o∧Pl.jac f x y o≤1
 | 0,_,_,_,_=>by simp[Pl.jac]
 | f+1,x,y,o,h=>by
  unfold Pl.jac
  split
  ·split <;> omega
  ·exact jac_pm f _ _ _ (jacOut_pm _ _ _ h)
theorem kro_out (a:Int) (n:Nat) {z b r:Nat} {j:Int} (hz:Lib.ctz 64 n=z) (hb:n / 2 ^ z=b) (hr:a % (b:Int)=r) (hj:Pl.jac (b+1) r b 1=j) {v:Int}
  (h:v=if 0<z∧a % 2=0 then 0 else if z % 2=1∧(a % 8=3∨a % 8=5)then -j else j):v=Pl.kroP a n:=by
 subst hz hb hj
 rw[h];unfold Pl.kroP;dsimp only;rw[hr,Int.toNat_natCast]
 split
 ·rfl
 ·split <;> simp
theorem tmod_zero (a m:Int):a.tmod m=0↔a % m=0:=by
 rw[← Int.dvd_iff_tmod_eq_zero,← Int.dvd_iff_emod_eq_zero]
theorem c_Kronecker (a:Int) (n:Nat) (w:World) (hT:Tab w) (ha:-2147483648≤a) (ha':a≤2147483648) (hn:0<n) (hn':n<2147483648):
  Calls Tryz.prog 128 #[.int .i64 a,.int .i64 n] w fun e w'=>e=.returned (.int .i64 (Pl.kroP a n))∧w=w':=by
 have h0:n≠0:=by omega
 have hz:=(Lib.lowest_bit 64 n h0 (by omega)).2
 generalize hzz:Lib.ctz 64 n=z at hz
 obtain⟨b,hb,hb0,hbx,hodd⟩:=odd_part h0 (by omega) hzz
 have hbi:(n:Int) / 2 ^ z=(b:Int):=by rw[← hb];simp
 have hr0:=Int.emod_nonneg a (show(b:Int)≠0 by omega)
 have hr1:=Int.emod_lt_of_pos a (show(0:Int)<b by omega)
 obtain⟨r,hr⟩:∃ r:Nat,a % (b:Int)=r:=⟨(a % (b:Int)).toNat,by omega⟩
 have hjj:=jac_pm (b+1) r b 1 (.inl rfl)
 generalize hj:Pl.jac (b+1) r b 1=j at hjj
 obtain⟨hj1,hj2⟩:=hjj
 have HZ:=Kh hzz
 have HB:=Kh hb
 have HR:=Kh hr
 have HJ:=Kh hj
 have HO:=Kh hodd
 clear hzz hb hj hodd hr h0
 rw[HR.out]at hr0 hr1
 by_cases hz0:z=0
 ·subst hz0
  have HBn:b=n:=by have:=HB.out;simpa using this.symm
  subst HBn
  clear hbi
  go_enter Tryz.func128,Tryz.ntmps128
  go_wp2_with (first |(go_at_call 163;refine(c_tz _ _ hT (by omega) (by omega)).mono ?_;rw[HZ.out];rintro e w' ⟨rfl,rfl⟩) |(go_at_call 165;refine(c_reduced _ _ _ (by omega) (by omega) (by omega) (by omega)).mono ?_;rw[HR.out];rintro e w' ⟨rfl,rfl⟩) |(go_at_call 164;refine(c_jacobi _ _ _ hT (by omega) (by omega)).mono ?_;rw[HJ.out];rintro e w' ⟨rfl,rfl⟩))
  go_ret
  exact⟨ret_i (kro_out a b HZ.out HB.out HR.out HJ.out (by simp)),rfl⟩
 ·have hz1:0<z:=by omega
  go_enter Tryz.func128,Tryz.ntmps128
  go_wp2_with (first |(go_at_call 163;refine(c_tz _ _ hT (by omega) (by omega)).mono ?_;rw[HZ.out];rintro e w' ⟨rfl,rfl⟩) |(go_at_call 126;refine(c_residue _ _ _ (by omega) (by omega)).mono ?_;rintro e w' ⟨rfl,rfl⟩) |(go_at_call 165;refine(c_reduced _ _ _ (by omega) (by omega) (by omega) (by omega)).mono ?_;rw[HR.out];rintro e w' ⟨rfl,rfl⟩) |(go_at_call 164;refine(c_jacobi _ _ _ hT (by omega) (by omega)).mono ?_;rw[HJ.out];rintro e w' ⟨rfl,rfl⟩))
  all_goals (go_ret;refine⟨ret_i (kro_out a n HZ.out HB.out HR.out HJ.out ?_),rfl⟩)
  all_goals (simp only[beq_iff_eq,beq_eq_false_iff_ne,ne_eq,tmod_zero]at *;split <;> first|omega |(split <;> omega))
theorem c_power (p:Nat) (e:Int) (w:World) (hp:0<p) (he:0≤e) (he':e≤64) (h:p ^ e.toNat<9223372036854775808):
  Calls Tryz.prog 198 #[.int .i64 p,.int .i64 e] w fun en w'=>en=.returned (.int .i64 ((p ^ e.toNat:Nat):Int))∧w=w':=by
 go_enter Tryz.func198,Tryz.ntmps198
 go_wp2
 go_loop [5,7] (fun o i=>∃ k:Nat,(k:Int)≤e∧i=.int .i64 k∧o=.int .i64 ((p ^ k:Nat):Int)) (fun _ i=>e.toNat - (intOf i).toNat)
 case atStart=>exact⟨0,he,rfl,rfl⟩
 case round=>
  obtain⟨k,hk,rfl,rfl⟩:=hrel
  by_cases hlt:(k:Int)<e
  ·have h1:p ^ (k+1)≤p ^ e.toNat:=Nat.pow_le_pow_right hp (by omega)
   have h2:((p ^ k:Nat):Int)*(p:Int)=((p ^ (k+1):Nat):Int):=by rw[Nat.pow_succ];exact(Int.natCast_mul _ _).symm
   generalize hr:p ^ (k+1)=r at h1 h2
   generalize p ^ k=s at h2
   have HR:=Kh hr
   clear hr
   generalize p ^ e.toNat=t at h1 h
   have H2:=Kh h2
   have hb0:0≤(s:Int)*(p:Int):=by rw[h2];omega
   have hb1:(s:Int)*(p:Int)<9223372036854775808:=by rw[h2];omega
   clear h2
   go_wp2
   go_round
   case rel=>exact⟨k+1,by omega,by go_num,val_i (by rw[HR.out,H2.out])⟩
   case measure=>simp[intOf];omega
  ·have hke:k=e.toNat:=by omega
   subst hke
   go_wp2
   go_ret
   exact⟨rfl,rfl⟩
theorem c_factors (n fid:Nat) (c0 c1:Value) (w:World) (I:Nat→World→Prop) (hn:0<n) (hn':n<2147483648) (h0:I 0 w)
  (hcf:∀ (args:Array Value) (wk:World),(callFunc fid args).run Tryz.prog wk=.ok (.enter fid args) wk)
  (hcall:∀ (k q e:Nat) (wk:World),(Pl.facs n)[k]?=some (q,e)→I k wk→Calls Tryz.prog fid #[.int .i64 q,.int .i64 e,c0,c1] wk fun en w'=>en=.returned (.tuple #[])∧I (k+1) w'):
  Calls Tryz.prog 196 #[.int .i64 n,.func (.func fid) #[] #[c0,c1]] w fun en w'=>en=.returned (.tuple #[])∧I (Pl.facs n).length w':=by
 have HC:=Kh hcall
 clear hcall
 go_enter Tryz.func196,Tryz.ntmps196
 go_wp2
 go_loopw [0,4] (fun x y wr=>∃ (n' p f:Nat) (done:List (Nat×Nat)),x=.int .i64 n'∧y=.int .i64 p∧0<n'∧n'≤n∧1<p∧p≤n+1∧Pl.facM p n'<f∧Pl.facs n=done++Pl.facP f p n'∧I done.length wr) (fun x y _=>Pl.facM (intOf y).toNat (intOf x).toNat)
 case atStart=>exact⟨n,2,n+3,[],rfl,rfl,hn,Nat.le_refl _,by omega,by omega,by unfold Pl.facM;split <;>(try split) <;> omega,rfl,h0⟩
 case round=>
  obtain⟨m,p,f,done,rfl,rfl,hm0,hm,hp,hpn,hf,hfac,hI⟩:=hrel
  have HF:=Kh hfac
  have HI:=Kh hI
  clear hfac hI h0
  by_cases hm1:m≤1
  ·go_wp2
   go_end0
   refine⟨rfl,?_⟩
   have h1:Pl.facP f p m=[]:=by cases f with|zero=>rfl|succ f=>rw[Pl.facP,if_pos hm1]
   rw[HF.out,h1,List.append_nil]
   exact HI.out
  ·obtain⟨pp,hpp⟩:∃ pp:Nat,pp=p*p:=⟨_,rfl⟩
   have hppi:(p:Int)*(p:Int)=(pp:Int):=by rw[hpp];exact(Int.natCast_mul _ _).symm
   have hple:p≤pp:=by rw[hpp];exact Nat.le_mul_of_pos_left _ (by omega)
   have hppb:pp≤4611686018427387904:=by rw[hpp];exact Nat.le_trans (Nat.mul_le_mul (show p≤2147483648 by omega) (show p≤2147483648 by omega)) (by omega)
   obtain⟨q,hq⟩:∃ q,q=if m<p*p then m else p:=⟨_,rfl⟩
   have hq1:1<q∧q≤m:=by rw[hq];split <;> omega
   obtain⟨hq1,hqm⟩:=hq1
   obtain⟨er,her⟩:∃ er,er=Pl.mult m q m:=⟨_,rfl⟩
   obtain⟨E,R⟩:=er
   have hlt':=Pl.facM_lt hp (by omega) hq her.symm
   have hpos:=Pl.mult_pos m q m hm0 (by omega)
   have hEm:=Pl.mult_le m q m
   rw[← her]at hpos hEm
   obtain⟨hR0,hRm⟩:=hpos
   dsimp only at hR0 hRm hEm
   have HPP:=Kh hpp
   have HQ:=Kh hq
   have HER:=Kh her
   clear hpp hq her
   go_upto_if 14 with(fail)
   go_cut [4] (fun v wc=>v=.int .i64 q∧wc=wr)
   case first=>
    by_cases hlt:m<pp
    ·have hqe:q=m:=by rw[HQ.out,← HPP.out,if_pos hlt]
     have HQE:=Kh hqe
     clear hqe
     go_wp2
     go_meet
     case rel=>exact⟨val_i (by rw[HQE.out]),rfl⟩
    ·have hqe:q=p:=by rw[HQ.out,← HPP.out,if_neg hlt]
     have HQE:=Kh hqe
     clear hqe
     go_wp2
     go_meet
     case rel=>exact⟨val_i (by rw[HQE.out]),rfl⟩
   case rest=>
    obtain⟨rfl,rfl⟩:=hcut
    clear hppi hple hppb
    go_wp2
    obtain⟨wo,rfl⟩:∃ wo:World,wo=wc:=⟨_,rfl⟩
    go_loop [0,5] (fun x y=>∃ (m' e' g:Nat),x=.int .i64 m'∧y=.int .i64 e'∧0<m'∧m'≤m∧e'≤E∧m'≤g∧Pl.mult g q m'=(E - e',R)) (fun x _=>(intOf x).toNat)
    case atStart=>exact⟨m,0,m,rfl,rfl,hm0,Nat.le_refl _,Nat.zero_le _,Nat.le_refl _,HER.out.symm⟩
    case round=>
     obtain⟨m',e',g,rfl,rfl,hm0',hmm',hee,hg,hmul⟩:=hrel
     obtain⟨g,rfl⟩:∃ h,g=h+1:=⟨g - 1,by omega⟩
     by_cases hd:m' % q=0
     ·have hdi:(((m':Int) % (q:Int))==0)=true:=by rw[← Int.natCast_emod,hd];rfl
      have hdv:(m':Int) / (q:Int)=((m' / q:Nat):Int):=(Int.natCast_ediv _ _).symm
      rw[Pl.mult,if_pos hd]at hmul
      injection hmul with hmul1 hmul2
      have h1:0<m' / q:=Nat.div_pos (Nat.le_of_dvd hm0' (Nat.dvd_of_mod_eq_zero hd)) (by omega)
      have h2:m' / q<m':=Nat.div_lt_self hm0' hq1
      generalize hdq:m' / q=d at hmul1 hmul2 h1 h2 hdv
      have H1:=Kh hmul1
      have H2:=Kh hmul2
      have hmul3:e'+1≤E:=by omega
      clear hmul1 hmul2 hd hdq
      go_wp2
      go_round
      case rel=>exact⟨d,e'+1,g,rfl,by go_num,h1,by omega,by omega,by omega,Prod.ext (by have:=H1.out;show(Pl.mult g q d).1=E - (e'+1);omega) H2.out⟩
      case measure=>simp only[intOf];omega
     ·have hdi:(((m':Int) % (q:Int))==0)=false:=by rw[← Int.natCast_emod];simp;omega
      rw[Pl.mult,if_neg hd]at hmul
      injection hmul with hmul1 hmul2
      subst hmul2
      have heE:e'=E:=by omega
      subst heE
      clear hmul1 hd
      obtain⟨f,rfl⟩:∃ h,f=h+1:=⟨f - 1,by omega⟩
      have hstep:=Pl.facP_succ (f:=f) (show 1<m by omega) HQ.out HER.out.symm
      by_cases he0:0<e'
      ·rw[if_pos he0]at hstep
       have HS:=Kh hstep
       clear hstep
       have hin:(Pl.facs n)[done.length]?=some (q,e'):=by rw[HF.out,HS.out];simp
       have HIN:=Kh hin
       clear hin
       go_wp2_with fail
       refine(HC.out done.length q e' _ HIN.out HI.out).mono ?_
       rintro en w1 ⟨rfl,hI1⟩
       have HI1:=Kh hI1
       clear hI1
       go_wp2
       go_roundw
       case rel=>exact⟨m',q+1,f,done++[(q,e')],rfl,by go_num,hm0',by omega,by omega,by omega,by omega,by rw[HF.out,HS.out,List.append_assoc];rfl,by rw[List.length_append];exact HI1.out⟩
       case measure=>simp only[intOf];exact hlt'
      ·rw[if_neg he0]at hstep
       have HS:=Kh hstep
       clear hstep
       go_wp2
       go_roundw
       case rel=>exact⟨m',q+1,f,done,rfl,by go_num,hm0',by omega,by omega,by omega,by omega,by rw[HF.out,HS.out],HI.out⟩
       case measure=>simp only[intOf];exact hlt'
end Go.Proofs.YtenlbhlllgppmaaGreatDoor
