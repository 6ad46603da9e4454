/- Contracts of TrailingZeros64, reduced, jacobi and Kronecker of package arith. -/
import Derived.Test.YtenlbhlllgppmaaGreatDoorB02
set_option maxRecDepth 100000
set_option maxHeartbeats 8000000
namespace Go.Proofs.YtenlbhlllgppmaaGreatDoor
open Go.RowKit Tryz
def Tab (w:World):Prop:=∀j,j<64->w.cell? ⟨0,j,none⟩=some (.int .u8 (Lib.deBruijn64tab.getD j 0))
theorem Tab.drew {w:World} (h:Tab w) (n:Nat):Tab (w.drewN n):=h
theorem Tab.below {w w':World} (h:Tab w) (J:Below w.heap.size w w'):Tab w':=λj O=>by
 have I:=h j O
 have hlt:0<w.heap.size:=by
  by_cases hlt:0<w.heap.size
  ·exact hlt
  ·simp[World.cell?,Array.getElem?_eq_none (Nat.le_of_not_lt hlt)]at I
 exact(J.cell (p:=⟨0,j,none⟩) hlt).trans I
theorem iV (x a:Nat) (O:x<18446744073709551616) (U:x≠0) (I:x &&& (18446744073709551616 - x)=a):
  IntKind.u64.wrap (bits BinOp.and IntKind.u64 (x:Int) (IntKind.u64.wrap (-(x:Int)))*285870213051353865) / 288230376151711744=((a*285870213051353865 % 18446744073709551616 / 288230376151711744:Nat):Int):=by
 have J:IntKind.u64.wrap (-(x:Int))=((18446744073709551616 - x:Nat):Int):=by rw[IntKind.wrap_u64];omega
 rw[J,u64_and_nat x _ O (by omega),I,IntKind.wrap_u64];omega
theorem eQ (x k I:Nat) (w:World) (U:((x:Int)==0)=false)
  (O:IntKind.u64.wrap (bits BinOp.and IntKind.u64 (x:Int) (IntKind.u64.wrap (-(x:Int)))*285870213051353865) / 288230376151711744=(I:Int))
  (V:I<64) (Y:k<64) (J:w.cell? ⟨0,I,none⟩=some (.int .u8 k)):
  Calls prog 163 #[.int .u64 x] w λe w'=>e=.returned (.int .i64 k)/\w'=w:=by
 go_enter func163,ntmps163
 go_wp2_with (simp only[O])
 go_ret;exact⟨rfl,rfl⟩
theorem gJ (x:Nat) (w:World) (Z:Tab w) (h:0<x) (O:x<18446744073709551616):
  Calls prog 163 #[.int .u64 x] w λe w'=>e=.returned (.int .i64 (Lib.ctz 64 x))/\w'=w:=by
 obtain⟨I,Y⟩:=Lib.lowest_bit 64 x (by omega) O;obtain⟨V,J⟩:=Lib.deBruijn64_at _ Y;have U:=Z _ V;rw[J]at U;exact eQ x _ _ w (by simp;omega) (iV x _ O (by omega) I) V Y U
theorem dK (a m:Int) (J:0<m):a % m=if 0<(-a) % m then m - (-a) % m else(-a) % m:=by
 have O:=Int.emod_nonneg (-a) (show m≠0 by omega);have U:=Int.emod_lt_of_pos (-a) J;have I:a=m*(-((-a) / m))+(-((-a) % m)):=by have:=Int.mul_ediv_add_emod (-a) m;rw[Int.mul_neg];omega
 split
 ·rw[show a % m=(m*(-((-a) / m))+(-((-a) % m))) % m from by rw[<-I],Int.mul_add_emod_self_left,<-Int.add_emod_right,Int.emod_eq_of_lt (by omega) (by omega)];omega
 ·rw[show a % m=(m*(-((-a) / m))+(-((-a) % m))) % m from by rw[<-I],Int.mul_add_emod_self_left,show(-a) % m=0 from by omega];rfl
theorem c_reduced (a:Int) (m:Nat) (w:World) (Z:-2147483648<=a) (J:a<=2147483648) (h:0<m) (O:m<4294967296):
  Calls prog 165 #[.int .i64 a,.int .u64 m] w λe w'=>e=.returned (.int .u64 (a % m))/\w'=w:=by
 by_cases h0:0<=a
 ·go_enter func165,ntmps165
  go_wp2;go_ret;exact⟨rfl,rfl⟩
 ·obtain⟨b,rfl⟩:∃b:Nat,a=-(b:Int):=⟨a.natAbs,by omega⟩
  have V:=Int.emod_nonneg (b:Int) (show(m:Int)≠0 by omega);have Y:=Int.emod_lt_of_pos (b:Int) (show(0:Int)<m by omega);have I:=Kh (dK (-(b:Int)) m (by omega));have U:IntKind.u64.wrap (-IntKind.u64.wrap (-(b:Int)))=(b:Int):=by simp only[IntKind.wrap_u64];omega
  go_enter func165,ntmps165
  go_wp2;all_goals (go_ret;refine⟨A5 ?_,rfl⟩;rw[I.1,Int.neg_neg];first |(rw[if_pos (by omega)];done) |(rw[if_neg (by omega)];done))
theorem U7 {x y z b:Nat} {o I:Int} (O:Lib.ctz 64 x=z) (J:x / 2 ^ z=b)
  (h:I=if b % 4=3/\y % 4=3 then -(if z % 2=1/\(y % 8=3∨y % 8=5)then -o else o)else(if z % 2=1/\(y % 8=3∨y % 8=5)then -o else o)):I=Pl.jacOut x y o:=by
 subst O J;exact h
theorem Mu (x y:Nat) (o:Int) (h:o=1∨o=-1):Pl.jacOut x y o=1∨Pl.jacOut x y o=-1:=by
 unfold Pl.jacOut;dsimp only;split <;> split <;> omega
theorem Yq {f x y z b:Nat} {o:Int} (O:Lib.ctz 64 x=z) (J:x / 2 ^ z=b) (I:x≠0):Pl.jac (f+1) x y o=Pl.jac f (y % b) b (Pl.jacOut x y o):=by
 subst O J;rw[Pl.jac,if_neg I]
theorem Qb {x z:Nat} (O:x≠0) (U:x<18446744073709551616) (V:Lib.ctz 64 x=z):∃b,x / 2 ^ z=b/\0<b/\b<=x/\b % 2=1:=by
 obtain⟨m,I,_⟩:=Lib.ctzFrom_spec 64 x (by omega) U;have e:Lib.ctz 64 x=Lib.ctzFrom 64 x:=by simp[Lib.ctz,O]
 rw[<-e,V]at I;have J:0<2 ^ z:=Nat.pow_pos (by omega);refine⟨2*m+1,?_,by omega,?_,by omega⟩
 ·rw[I];exact Nat.mul_div_cancel_left _ J
 ·rw[I];exact Nat.le_mul_of_pos_left _ J
theorem c_jacobi (a m:Nat) (w:World) (hT:Tab w) (ha:a<m) (h:m<4294967296):
  Calls prog 164 #[.int .u64 a,.int .u64 m] w λe w'=>e=.returned (.int .i64 (Pl.jac (m+1) a m 1))/\w=w':=by
 go_enter func164,ntmps164
 go_wp2;go_loop [0,1,5] (λx y o=>∃(x' J f:Nat) (O:Int),x=.int .u64 x'/\y=.int .u64 J/\o=.int .i64 O/\(O=1∨O=-1)/\x'<J/\J<4294967296/\J<f/\Pl.jac f x' J O=Pl.jac (m+1) a m 1) (λx _ _=>(intOf x).toNat)
 case atStart=>exact⟨a,m,m+1,1,rfl,rfl,rfl,.inl rfl,ha,h,by omega,rfl⟩
 case round=>
  obtain⟨x,y,f,o,rfl,rfl,rfl,ho,hx,hy,hf,hj⟩:=hrel;obtain⟨g,rfl⟩:∃g,f=g+1:=⟨f - 1,by omega⟩
  have U:=Kh hj;clear hj;by_cases h0:x=0
  ·subst h0
   by_cases h1:y=1
   ·subst h1
    go_wp2;go_ret;exact⟨A5 (by rw[<-U.1];rfl),rfl⟩
   ·have cD:((y:Int) != 1)=true:=by simp;omega
    go_wp2;go_ret;exact⟨A5 (by rw[<-U.1,Pl.jac,if_pos rfl,if_neg h1]),rfl⟩
  ·have cC:((x:Int) != 0)=true:=by simp;omega
   have hz:=(Lib.lowest_bit 64 x h0 (by omega)).2;generalize hzz:Lib.ctz 64 x=z at hz;obtain⟨b,Y,Z,cA,I⟩:=Qb h0 (by omega) hzz;have bY:(x:Int) / 2 ^ z=(b:Int):=by rw[<-Y];simp
   have V:=Kh hzz;have HB:=Kh Y;have HO:=Kh I;clear hzz Y I;have hlt:=Nat.mod_lt y Z;go_wp2_with (go_at_call 163;refine(gJ _ _ hT (by omega) (by omega)).mono ?_;rw[V.1];rintro e w' ⟨rfl,rfl⟩)
   all_goals
    go_round
    case rel=>exact⟨y % b,b,g,Pl.jacOut x y o,Jd (Int.natCast_emod _ _).symm,rfl,Jd (U7 V.1 HB.1 (by(try simp only[beq_iff_eq,beq_eq_false_iff_ne,ne_eq]at *);split <;> split <;> omega)),Mu _ _ _ ho,hlt,by omega,by omega,by rw[<-U.1,Yq V.1 HB.1 h0]⟩
    case measure=>simp only[intOf];omega
theorem Rx:∀(f x y:Nat) (o:Int),(o=1∨o=-1)->-1<=Pl.jac f x y o/\Pl.jac f x y o<=1
 | 0,_,_,_,_=>by simp[Pl.jac]
 | f+1,x,y,o,h=>by
  unfold Pl.jac;split
  ·split <;> omega
  ·exact Rx f _ _ _ (Mu _ _ _ h)
theorem Ta (a:Int) (n:Nat) {z b r:Nat} {j:Int} (O:Lib.ctz 64 n=z) (I:n / 2 ^ z=b) (hr:a % (b:Int)=r) (J:Pl.jac (b+1) r b 1=j) {v:Int}
  (h:v=if 0<z/\a % 2=0 then 0 else if z % 2=1/\(a % 8=3∨a % 8=5)then -j else j):v=Pl.kroP a n:=by
 subst O I J;rw[h];unfold Pl.kroP;dsimp only;rw[hr,Int.toNat_natCast];split
 ·rfl
 ·split <;> simp
theorem Gv (a m:Int):a.tmod m=0↔a % m=0:=by
 rw[<-Int.dvd_iff_tmod_eq_zero,<-Int.dvd_iff_emod_eq_zero]
theorem O6 (a:Int) (n:Nat) (w:World) (Y:Tab w) (ha:-2147483648<=a) (bY:a<=2147483648) (hn:0<n) (cF:n<2147483648):
  Calls prog 128 #[.int .i64 a,.int .i64 n] w λe w'=>e=.returned (.int .i64 (Pl.kroP a n))/\w=w':=by
 have h0:n≠0:=by omega
 have hz:=(Lib.lowest_bit 64 n h0 (by omega)).2;generalize hzz:Lib.ctz 64 n=z at hz;obtain⟨b,hb,cA,cB,I⟩:=Qb h0 (by omega) hzz;have bB:(n:Int) / 2 ^ z=(b:Int):=by rw[<-hb];simp
 have bC:=Int.emod_nonneg a (show(b:Int)≠0 by omega);have bE:=Int.emod_lt_of_pos a (show(0:Int)<b by omega);obtain⟨r,hr⟩:∃r:Nat,a % (b:Int)=r:=⟨(a % (b:Int)).toNat,by omega⟩
 have O:=Rx (b+1) r b 1 (.inl rfl);generalize hj:Pl.jac (b+1) r b 1=j at O;obtain⟨cC,cD⟩:=O;have V:=Kh hzz;have Z:=Kh hb;have J:=Kh hr;have U:=Kh hj;have HO:=Kh I;clear hzz hb hj I hr h0;rw[J.1]at bC bE;by_cases hz0:z=0
 ·subst hz0
  have h:b=n:=by have:=Z.1;simpa using this.symm
  subst h;clear bB;go_enter func128,ntmps128
  go_wp2_with (first |(go_at_call 163;refine(gJ _ _ Y (by omega) (by omega)).mono ?_;rw[V.1];rintro e w' ⟨rfl,rfl⟩) |(go_at_call 165;refine(c_reduced _ _ _ (by omega) (by omega) (by omega) (by omega)).mono ?_;rw[J.1];rintro e w' ⟨rfl,rfl⟩) |(go_at_call 164;refine(c_jacobi _ _ _ Y (by omega) (by omega)).mono ?_;rw[U.1];rintro e w' ⟨rfl,rfl⟩))
  go_ret;exact⟨A5 (Ta a b V.1 Z.1 J.1 U.1 (by simp)),rfl⟩
 ·have cT:0<z:=by omega
  go_enter func128,ntmps128
  go_wp2_with (first |(go_at_call 163;refine(gJ _ _ Y (by omega) (by omega)).mono ?_;rw[V.1];rintro e w' ⟨rfl,rfl⟩) |(go_at_call 126;refine(c_residue _ _ _ (by omega) (by omega)).mono ?_;rintro e w' ⟨rfl,rfl⟩) |(go_at_call 165;refine(c_reduced _ _ _ (by omega) (by omega) (by omega) (by omega)).mono ?_;rw[J.1];rintro e w' ⟨rfl,rfl⟩) |(go_at_call 164;refine(c_jacobi _ _ _ Y (by omega) (by omega)).mono ?_;rw[U.1];rintro e w' ⟨rfl,rfl⟩))
  all_goals (go_ret;refine⟨A5 (Ta a n V.1 Z.1 J.1 U.1 ?_),rfl⟩)
  all_goals (simp only[beq_iff_eq,beq_eq_false_iff_ne,ne_eq,Gv]at *;split <;> first|omega |(split <;> omega))
theorem cH (p:Nat) (e:Int) (w:World) (hp:0<p) (he:0<=e) (bB:e<=64) (h:p ^ e.toNat<9223372036854775808):
  Calls prog 198 #[.int .i64 p,.int .i64 e] w λY w'=>Y=.returned (.int .i64 ((p ^ e.toNat:Nat):Int))/\w=w':=by
 go_enter func198,ntmps198
 go_wp2;go_loop [5,7] (λo i=>∃k:Nat,(k:Int)<=e/\i=.int .i64 k/\o=.int .i64 ((p ^ k:Nat):Int)) (λ_ i=>e.toNat - (intOf i).toNat)
 case atStart=>exact⟨0,he,rfl,rfl⟩
 case round=>
  obtain⟨k,hk,rfl,rfl⟩:=hrel;by_cases hlt:(k:Int)<e
  ·have O:p ^ (k+1)<=p ^ e.toNat:=Nat.pow_le_pow_right hp (by omega)
   have I:((p ^ k:Nat):Int)*(p:Int)=((p ^ (k+1):Nat):Int):=by rw[Nat.pow_succ];exact(Int.natCast_mul _ _).symm
   generalize hr:p ^ (k+1)=r at O I;generalize p ^ k=s at I;have V:=Kh hr;clear hr;generalize p ^ e.toNat=t at O h;have U:=Kh I;have Z:0<=(s:Int)*(p:Int):=by rw[I];omega
   have aX:(s:Int)*(p:Int)<9223372036854775808:=by rw[I];omega
   clear I;go_wp2;go_round
   case rel=>exact⟨k+1,by omega,by go_num,Jd (by rw[V.1,U.1])⟩
   case measure=>simp[intOf];omega
  ·have J:k=e.toNat:=by omega
   subst J;go_wp2;go_ret;exact⟨rfl,rfl⟩
theorem It (n bC:Nat) (c0 c1:Value) (w:World) (I:Nat->World->Prop) (hn:0<n) (mA:n<2147483648) (h0:I 0 w)
  (hZ:∀(args:Array Value) (wk:World),(callFunc bC args).run prog wk=.ok (.enter bC args) wk)
  (aX:∀(k q e:Nat) (wk:World),(Pl.facs n)[k]?=some (q,e)->I k wk->Calls prog bC #[.int .i64 q,.int .i64 e,c0,c1] wk λen w'=>en=.returned (.tuple #[])/\I (k+1) w'):
  Calls prog 196 #[.int .i64 n,.func (.func bC) #[] #[c0,c1]] w λen w'=>en=.returned (.tuple #[])/\I (Pl.facs n).length w':=by
 have HC:=Kh aX;clear aX;go_enter func196,ntmps196
 go_wp2;go_loopw [0,4] (λx y wr=>∃(n' p f:Nat) (O:List (Nat×Nat)),x=.int .i64 n'/\y=.int .i64 p/\0<n'/\n'<=n/\1<p/\p<=n+1/\Pl.facM p n'<f/\Pl.facs n=O++Pl.facP f p n'/\I O.length wr) (λx y _=>Pl.facM (intOf y).toNat (intOf x).toNat)
 case atStart=>exact⟨n,2,n+3,[],rfl,rfl,hn,nR _,by omega,by omega,by unfold Pl.facM;split <;>(try split) <;> omega,rfl,h0⟩
 case round=>
  obtain⟨m,p,f,O,rfl,rfl,dY,hm,hp,mC,hf,bY,hI⟩:=hrel;have HF:=Kh bY;have HI:=Kh hI;clear bY hI h0;by_cases hm1:m<=1
  ·go_wp2
   go_end0;refine⟨rfl,?_⟩;have h1:Pl.facP f p m=[]:=by cases f with|zero=>rfl|succ f=>rw[Pl.facP,if_pos hm1]
   rw[HF.1,h1,List.append_nil];exact HI.1
  ·obtain⟨pp,bA⟩:∃pp:Nat,pp=p*p:=⟨_,rfl⟩
   have gF:(p:Int)*(p:Int)=(pp:Int):=by rw[bA];exact(Int.natCast_mul _ _).symm
   have eP:p<=pp:=by rw[bA];exact Nat.le_mul_of_pos_left _ (by omega)
   have gA:pp<=4611686018427387904:=by rw[bA];exact nS (Nat.mul_le_mul (show p<=2147483648 by omega) (show p<=2147483648 by omega)) (by omega)
   obtain⟨q,hq⟩:∃q,q=if m<p*p then m else p:=⟨_,rfl⟩
   have cD:1<q/\q<=m:=by rw[hq];split <;> omega
   obtain⟨cD,mD⟩:=cD;obtain⟨er,bE⟩:∃er,er=Pl.mult m q m:=⟨_,rfl⟩
   obtain⟨E,R⟩:=er;have cA:=Pl.facM_lt hp (by omega) hq bE.symm;have cB:=Pl.mult_pos m q m dY (by omega);have cX:=Pl.mult_le m q m;rw[<-bE]at cB cX;obtain⟨hL,hM⟩:=cB;dsimp only at hL hM cX;have cT:=Kh bA;have HQ:=Kh hq;have cG:=Kh bE;clear bA hq bE;go_upto_if 14 with(fail)
   go_cut [4] (λv wc=>v=.int .i64 q/\wc=wr)
   case first=>
    by_cases hlt:m<pp
    ·have bB:q=m:=by rw[HQ.1,<-cT.1,if_pos hlt]
     have cC:=Kh bB;clear bB;go_wp2;go_meet
     case rel=>exact⟨Jd (by rw[cC.1]),rfl⟩
    ·have bB:q=p:=by rw[HQ.1,<-cT.1,if_neg hlt]
     have cC:=Kh bB;clear bB;go_wp2;go_meet
     case rel=>exact⟨Jd (by rw[cC.1]),rfl⟩
   case rest=>
    obtain⟨rfl,rfl⟩:=hcut;clear gF eP gA;go_wp2;obtain⟨wo,rfl⟩:∃wo:World,wo=wc:=⟨_,rfl⟩
    go_loop [0,5] (λx y=>∃(U Z g:Nat),x=.int .i64 U/\y=.int .i64 Z/\0<U/\U<=m/\Z<=E/\U<=g/\Pl.mult g q U=(E - Z,R)) (λx _=>(intOf x).toNat)
    case atStart=>exact⟨m,0,m,rfl,rfl,dY,nR _,Nat.zero_le _,nR _,cG.1.symm⟩
    case round=>
     obtain⟨U,Z,g,rfl,rfl,V,hT,iL,hg,Y⟩:=hrel;obtain⟨g,rfl⟩:∃h,g=h+1:=⟨g - 1,by omega⟩
     by_cases hd:U % q=0
     ·have hN:(((U:Int) % (q:Int))==0)=true:=by rw[<-Int.natCast_emod,hd];rfl
      have hO:(U:Int) / (q:Int)=((U / q:Nat):Int):=(Int.natCast_ediv _ _).symm;rw[Pl.mult,if_pos hd]at Y;injection Y with hmul1 hmul2
      have h1:0<U / q:=Nat.div_pos (Nat.le_of_dvd V (Nat.dvd_of_mod_eq_zero hd)) (by omega);have h2:U / q<U:=Nat.div_lt_self V cD;generalize hdq:U / q=d at hmul1 hmul2 h1 h2 hO;have H1:=Kh hmul1;have H2:=Kh hmul2;have hQ:Z+1<=E:=by omega
      clear hmul1 hmul2 hd hdq;go_wp2;go_round
      case rel=>exact⟨d,Z+1,g,rfl,by go_num,h1,by omega,by omega,by omega,Prod.ext (by have:=H1.1;show(Pl.mult g q d).1=E - (Z+1);omega) H2.1⟩
      case measure=>simp only[intOf];omega
     ·have hN:(((U:Int) % (q:Int))==0)=false:=by rw[<-Int.natCast_emod];simp;omega
      rw[Pl.mult,if_neg hd]at Y;injection Y with hmul1 hmul2
      subst hmul2;have hP:Z=E:=by omega
      subst hP;clear hmul1 hd;obtain⟨f,rfl⟩:∃h,f=h+1:=⟨f - 1,by omega⟩
      have J:=Pl.facP_succ (f:=f) (show 1<m by omega) HQ.1 cG.1.symm;by_cases he0:0<Z
      ·rw[if_pos he0]at J
       have HS:=Kh J;clear J;have dE:(Pl.facs n)[O.length]?=some (q,Z):=by rw[HF.1,HS.1];simp
       have hG:=Kh dE;clear dE;go_wp2_with fail
       refine(HC.1 O.length q Z _ hG.1 HI.1).mono ?_;rintro en w1 ⟨rfl,dC⟩;have hE:=Kh dC;clear dC;go_wp2;go_roundw
       case rel=>exact⟨U,q+1,f,O++[(q,Z)],rfl,by go_num,V,by omega,by omega,by omega,by omega,by rw[HF.1,HS.1,List.append_assoc];rfl,by rw[List.length_append];exact hE.1⟩
       case measure=>simp only[intOf];exact cA
      ·rw[if_neg he0]at J
       have HS:=Kh J;clear J;go_wp2;go_roundw
       case rel=>exact⟨U,q+1,f,O,rfl,by go_num,V,by omega,by omega,by omega,by omega,by rw[HF.1,HS.1],HI.1⟩
       case measure=>simp only[intOf];exact cA
end Go.Proofs.YtenlbhlllgppmaaGreatDoor
