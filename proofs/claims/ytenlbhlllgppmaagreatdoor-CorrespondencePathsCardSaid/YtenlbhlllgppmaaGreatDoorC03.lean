/- Contracts of TrailingZeros64, reduced, jacobi and Kronecker of package arith. -/
import Derived.Test.YtenlbhlllgppmaaGreatDoorC02
set_option maxRecDepth 100000
set_option maxHeartbeats 8000000
namespace Go.Proofs.YtenlbhlllgppmaaGreatDoor
open Go.RowKit Tryz
def Tab (w:World):Prop:=∀j,j<64->w.cell? ⟨0,j,none⟩=some (.int .u8 (Lib.deBruijn64tab.getD j 0))
theorem Tab.drew {w:World} (h:Tab w) (n:Nat):Tab (w.drewN n):=h
theorem Tab.below {w w':World} (h:Tab w) (I:Below w.heap.size w w'):Tab w':=λj J=>by
 have E:=h j J
 have hlt:0<w.heap.size:=by
  by_cases hlt:0<w.heap.size
  ·exact hlt
  ·simp[World.cell?,Array.getElem?_eq_none (Nat.le_of_not_lt hlt)]at E
 exact(I.cell (p:=⟨0,j,none⟩) hlt).trans E
theorem iX (x a:Nat) (J:x<18446744073709551616) (M:x≠0) (E:x &&& (18446744073709551616 - x)=a):
  IntKind.u64.wrap (bits BinOp.and IntKind.u64 (x:Int) (IntKind.u64.wrap (-(x:Int)))*285870213051353865) / 288230376151711744=((a*285870213051353865 % 18446744073709551616 / 288230376151711744:Nat):Int):=by
 have I:IntKind.u64.wrap (-(x:Int))=((18446744073709551616 - x:Nat):Int):=by rw[IntKind.wrap_u64];omega
 rw[I,u64_and_nat x _ J (by omega),E,IntKind.wrap_u64];omega
theorem eE (x k E:Nat) (w:World) (M:((x:Int)==0)=false)
  (J:IntKind.u64.wrap (bits BinOp.and IntKind.u64 (x:Int) (IntKind.u64.wrap (-(x:Int)))*285870213051353865) / 288230376151711744=(E:Int))
  (O:E<64) (U:k<64) (I:w.cell? ⟨0,E,none⟩=some (.int .u8 k)):
  Calls prog 163 #[.int .u64 x] w λe w'=>e=.returned (.int .i64 k)/\w'=w:=by
 go_enter func163,ntmps163
 go_wp2_with (simp only[J])
 go_ret;exact⟨rfl,rfl⟩
theorem fY (x:Nat) (w:World) (V:Tab w) (Z:0<x) (J:x<18446744073709551616):
  Calls prog 163 #[.int .u64 x] w λe w'=>e=.returned (.int .i64 (Lib.ctz 64 x))/\w'=w:=by
 obtain⟨E,U⟩:=Lib.lowest_bit 64 x (by omega) J;obtain⟨O,I⟩:=Lib.deBruijn64_at _ U;have M:=V _ O;rw[I]at M;exact eE x _ _ w (by simp;omega) (iX x _ J (by omega) E) O U M
theorem dA (a m:Int) (I:0<m):a % m=if 0<(-a) % m then m - (-a) % m else(-a) % m:=by
 have J:=Int.emod_nonneg (-a) (show m≠0 by omega);have M:=Int.emod_lt_of_pos (-a) I;have E:a=m*(-((-a) / m))+(-((-a) % m)):=by have:=Int.mul_ediv_add_emod (-a) m;rw[Int.mul_neg];omega
 split
 ·rw[show a % m=(m*(-((-a) / m))+(-((-a) % m))) % m from by rw[<-E],Int.mul_add_emod_self_left,<-Int.add_emod_right,Int.emod_eq_of_lt (by omega) (by omega)];omega
 ·rw[show a % m=(m*(-((-a) / m))+(-((-a) % m))) % m from by rw[<-E],Int.mul_add_emod_self_left,show(-a) % m=0 from by omega];rfl
theorem c_reduced (a:Int) (m:Nat) (w:World) (V:-2147483648<=a) (I:a<=2147483648) (Z:0<m) (J:m<4294967296):
  Calls prog 165 #[.int .i64 a,.int .u64 m] w λe w'=>e=.returned (.int .u64 (a % m))/\w'=w:=by
 by_cases h0:0<=a
 ·go_enter func165,ntmps165
  go_wp2;go_ret;exact⟨rfl,rfl⟩
 ·obtain⟨b,rfl⟩:∃b:Nat,a=-(b:Int):=⟨a.natAbs,by omega⟩
  have O:=Int.emod_nonneg (b:Int) (show(m:Int)≠0 by omega);have U:=Int.emod_lt_of_pos (b:Int) (show(0:Int)<m by omega);have E:=Kh (dA (-(b:Int)) m (by omega));have M:IntKind.u64.wrap (-IntKind.u64.wrap (-(b:Int)))=(b:Int):=by simp only[IntKind.wrap_u64];omega
  go_enter func165,ntmps165
  go_wp2;all_goals (go_ret;refine⟨A5 ?_,rfl⟩;rw[E.1,Int.neg_neg];first |(rw[if_pos (by omega)];done) |(rw[if_neg (by omega)];done))
theorem Uu {x y z b:Nat} {o E:Int} (J:Lib.ctz 64 x=z) (I:x / 2 ^ z=b)
  (h:E=if b % 4=3/\y % 4=3 then -(if z % 2=1/\(y % 8=3∨y % 8=5)then -o else o)else(if z % 2=1/\(y % 8=3∨y % 8=5)then -o else o)):E=Pl.jacOut x y o:=by
 subst J I;exact h
theorem L4 (x y:Nat) (o:Int) (h:o=1∨o=-1):Pl.jacOut x y o=1∨Pl.jacOut x y o=-1:=by
 unfold Pl.jacOut;dsimp only;split <;> split <;> omega
theorem Xy {f x y z b:Nat} {o:Int} (J:Lib.ctz 64 x=z) (I:x / 2 ^ z=b) (E:x≠0):Pl.jac (f+1) x y o=Pl.jac f (y % b) b (Pl.jacOut x y o):=by
 subst J I;rw[Pl.jac,if_neg E]
theorem Po {x z:Nat} (J:x≠0) (M:x<18446744073709551616) (O:Lib.ctz 64 x=z):∃b,x / 2 ^ z=b/\0<b/\b<=x/\b % 2=1:=by
 obtain⟨m,E,_⟩:=Lib.ctzFrom_spec 64 x (by omega) M;have e:Lib.ctz 64 x=Lib.ctzFrom 64 x:=by simp[Lib.ctz,J]
 rw[<-e,O]at E;have I:0<2 ^ z:=Nat.pow_pos (by omega);refine⟨2*m+1,?_,by omega,?_,by omega⟩
 ·rw[E];exact Nat.mul_div_cancel_left _ I
 ·rw[E];exact Nat.le_mul_of_pos_left _ I
theorem c_jacobi (a m:Nat) (w:World) (hT:Tab w) (ha:a<m) (V:m<4294967296):
  Calls prog 164 #[.int .u64 a,.int .u64 m] w λe w'=>e=.returned (.int .i64 (Pl.jac (m+1) a m 1))/\w=w':=by
 go_enter func164,ntmps164
 go_wp2;go_loop [0,1,5] (λx y o=>∃(x' y' f:Nat) (I:Int),x=.int .u64 x'/\y=.int .u64 y'/\o=.int .i64 I/\(I=1∨I=-1)/\x'<y'/\y'<4294967296/\y'<f/\Pl.jac f x' y' I=Pl.jac (m+1) a m 1) (λx _ _=>(intOf x).toNat)
 case atStart=>exact⟨a,m,m+1,1,rfl,rfl,rfl,.inl rfl,ha,V,by omega,rfl⟩
 case round=>
  obtain⟨x,y,f,o,rfl,rfl,rfl,ho,hx,hy,hf,h⟩:=hrel;obtain⟨g,rfl⟩:∃g,f=g+1:=⟨f - 1,by omega⟩
  have J:=Kh h;clear h;by_cases h0:x=0
  ·subst h0
   by_cases h1:y=1
   ·subst h1
    go_wp2;go_ret;exact⟨A5 (by rw[<-J.1];rfl),rfl⟩
   ·have bC:((y:Int) != 1)=true:=by simp;omega
    go_wp2;go_ret;exact⟨A5 (by rw[<-J.1,Pl.jac,if_pos rfl,if_neg h1]),rfl⟩
  ·have bB:((x:Int) != 0)=true:=by simp;omega
   have hz:=(Lib.lowest_bit 64 x h0 (by omega)).2;generalize hzz:Lib.ctz 64 x=z at hz;obtain⟨b,O,U,aX,E⟩:=Po h0 (by omega) hzz;have aN:(x:Int) / 2 ^ z=(b:Int):=by rw[<-O];simp
   have M:=Kh hzz;have Z:=Kh O;have HO:=Kh E;clear hzz O E;have hlt:=Nat.mod_lt y U;go_wp2_with (go_at_call 163;refine(fY _ _ hT (by omega) (by omega)).mono ?_;rw[M.1];rintro e w' ⟨rfl,rfl⟩)
   all_goals
    go_round
    case rel=>exact⟨y % b,b,g,Pl.jacOut x y o,Iw (Int.natCast_emod _ _).symm,rfl,Iw (Uu M.1 Z.1 (by(try simp only[beq_iff_eq,beq_eq_false_iff_ne,ne_eq]at *);split <;> split <;> omega)),L4 _ _ _ ho,hlt,by omega,by omega,by rw[<-J.1,Xy M.1 Z.1 h0]⟩
    case measure=>simp only[intOf];omega
theorem Ng:∀(f x y:Nat) (o:Int),(o=1∨o=-1)->-1<=Pl.jac f x y o/\Pl.jac f x y o<=1
 | 0,_,_,_,_=>by simp[Pl.jac]
 | f+1,x,y,o,h=>by
  unfold Pl.jac;split
  ·split <;> omega
  ·exact Ng f _ _ _ (L4 _ _ _ h)
theorem Sl (a:Int) (n:Nat) {z b r:Nat} {j:Int} (J:Lib.ctz 64 n=z) (E:n / 2 ^ z=b) (hr:a % (b:Int)=r) (I:Pl.jac (b+1) r b 1=j) {v:Int}
  (h:v=if 0<z/\a % 2=0 then 0 else if z % 2=1/\(a % 8=3∨a % 8=5)then -j else j):v=Pl.kroP a n:=by
 subst J E I;rw[h];unfold Pl.kroP;dsimp only;rw[hr,Int.toNat_natCast];split
 ·rfl
 ·split <;> simp
theorem F5 (a m:Int):a.tmod m=0↔a % m=0:=by
 rw[<-Int.dvd_iff_tmod_eq_zero,<-Int.dvd_iff_emod_eq_zero]
theorem Iq (a:Int) (n:Nat) (w:World) (U:Tab w) (ha:-2147483648<=a) (bA:a<=2147483648) (hn:0<n) (cA:n<2147483648):
  Calls prog 128 #[.int .i64 a,.int .i64 n] w λe w'=>e=.returned (.int .i64 (Pl.kroP a n))/\w=w':=by
 have h:n≠0:=by omega
 have hz:=(Lib.lowest_bit 64 n h (by omega)).2;generalize hzz:Lib.ctz 64 n=z at hz;obtain⟨b,hb,bB,bC,E⟩:=Po h (by omega) hzz;have aK:(n:Int) / 2 ^ z=(b:Int):=by rw[<-hb];simp
 have aN:=Int.emod_nonneg a (show(b:Int)≠0 by omega);have aX:=Int.emod_lt_of_pos a (show(0:Int)<b by omega);obtain⟨r,hr⟩:∃r:Nat,a % (b:Int)=r:=⟨(a % (b:Int)).toNat,by omega⟩
 have J:=Ng (b+1) r b 1 (.inl rfl);generalize hj:Pl.jac (b+1) r b 1=j at J;obtain⟨bE,bY⟩:=J;have O:=Kh hzz;have V:=Kh hb;have I:=Kh hr;have M:=Kh hj;have HO:=Kh E;clear hzz hb hj E hr h;rw[I.1]at aN aX;by_cases hz0:z=0
 ·subst hz0
  have Z:b=n:=by have:=V.1;simpa using this.symm
  subst Z;clear aK;go_enter func128,ntmps128
  go_wp2_with (first |(go_at_call 163;refine(fY _ _ U (by omega) (by omega)).mono ?_;rw[O.1];rintro e w' ⟨rfl,rfl⟩) |(go_at_call 165;refine(c_reduced _ _ _ (by omega) (by omega) (by omega) (by omega)).mono ?_;rw[I.1];rintro e w' ⟨rfl,rfl⟩) |(go_at_call 164;refine(c_jacobi _ _ _ U (by omega) (by omega)).mono ?_;rw[M.1];rintro e w' ⟨rfl,rfl⟩))
  go_ret;exact⟨A5 (Sl a b O.1 V.1 I.1 M.1 (by simp)),rfl⟩
 ·have cC:0<z:=by omega
  go_enter func128,ntmps128
  go_wp2_with (first |(go_at_call 163;refine(fY _ _ U (by omega) (by omega)).mono ?_;rw[O.1];rintro e w' ⟨rfl,rfl⟩) |(go_at_call 126;refine(c_residue _ _ _ (by omega) (by omega)).mono ?_;rintro e w' ⟨rfl,rfl⟩) |(go_at_call 165;refine(c_reduced _ _ _ (by omega) (by omega) (by omega) (by omega)).mono ?_;rw[I.1];rintro e w' ⟨rfl,rfl⟩) |(go_at_call 164;refine(c_jacobi _ _ _ U (by omega) (by omega)).mono ?_;rw[M.1];rintro e w' ⟨rfl,rfl⟩))
  all_goals (go_ret;refine⟨A5 (Sl a n O.1 V.1 I.1 M.1 ?_),rfl⟩)
  all_goals (simp only[beq_iff_eq,beq_eq_false_iff_ne,ne_eq,F5]at *;split <;> first|omega |(split <;> omega))
theorem bM (p:Nat) (e:Int) (w:World) (hp:0<p) (he:0<=e) (aK:e<=64) (h:p ^ e.toNat<9223372036854775808):
  Calls prog 198 #[.int .i64 p,.int .i64 e] w λU w'=>U=.returned (.int .i64 ((p ^ e.toNat:Nat):Int))/\w=w':=by
 go_enter func198,ntmps198
 go_wp2;go_loop [5,7] (λo i=>∃k:Nat,(k:Int)<=e/\i=.int .i64 k/\o=.int .i64 ((p ^ k:Nat):Int)) (λ_ i=>e.toNat - (intOf i).toNat)
 case atStart=>exact⟨0,he,rfl,rfl⟩
 case round=>
  obtain⟨k,hk,rfl,rfl⟩:=hrel;by_cases hlt:(k:Int)<e
  ·have J:p ^ (k+1)<=p ^ e.toNat:=Nat.pow_le_pow_right hp (by omega)
   have E:((p ^ k:Nat):Int)*(p:Int)=((p ^ (k+1):Nat):Int):=by rw[Nat.pow_succ];exact(Int.natCast_mul _ _).symm
   generalize hr:p ^ (k+1)=r at J E;generalize p ^ k=s at E;have O:=Kh hr;clear hr;generalize p ^ e.toNat=t at J h;have M:=Kh E;have V:0<=(s:Int)*(p:Int):=by rw[E];omega
   have Z:(s:Int)*(p:Int)<9223372036854775808:=by rw[E];omega
   clear E;go_wp2;go_round
   case rel=>exact⟨k+1,by omega,by go_num,Iw (by rw[O.1,M.1])⟩
   case measure=>simp[intOf];omega
  ·have I:k=e.toNat:=by omega
   subst I;go_wp2;go_ret;exact⟨rfl,rfl⟩
theorem Hu (n aX:Nat) (c0 c1:Value) (w:World) (I:Nat->World->Prop) (hn:0<n) (hP:n<2147483648) (h0:I 0 w)
  (hN:∀(args:Array Value) (wk:World),(callFunc aX args).run prog wk=.ok (.enter aX args) wk)
  (aD:∀(k q e:Nat) (wk:World),(Pl.facs n)[k]?=some (q,e)->I k wk->Calls prog aX #[.int .i64 q,.int .i64 e,c0,c1] wk λen w'=>en=.returned (.tuple #[])/\I (k+1) w'):
  Calls prog 196 #[.int .i64 n,.func (.func aX) #[] #[c0,c1]] w λen w'=>en=.returned (.tuple #[])/\I (Pl.facs n).length w':=by
 have HC:=Kh aD;clear aD;go_enter func196,ntmps196
 go_wp2;go_loopw [0,4] (λx y wr=>∃(n' p f:Nat) (M:List (Nat×Nat)),x=.int .i64 n'/\y=.int .i64 p/\0<n'/\n'<=n/\1<p/\p<=n+1/\Pl.facM p n'<f/\Pl.facs n=M++Pl.facP f p n'/\I M.length wr) (λx y _=>Pl.facM (intOf y).toNat (intOf x).toNat)
 case atStart=>exact⟨n,2,n+3,[],rfl,rfl,hn,nL _,by omega,by omega,by unfold Pl.facM;split <;>(try split) <;> omega,rfl,h0⟩
 case round=>
  obtain⟨m,p,f,M,rfl,rfl,cM,hm,hp,hR,hf,bB,hI⟩:=hrel;have HF:=Kh bB;have HI:=Kh hI;clear bB hI h0;by_cases hm1:m<=1
  ·go_wp2
   go_end0;refine⟨rfl,?_⟩;have h1:Pl.facP f p m=[]:=by cases f with|zero=>rfl|succ f=>rw[Pl.facP,if_pos hm1]
   rw[HF.1,h1,List.append_nil];exact HI.1
  ·obtain⟨pp,aK⟩:∃pp:Nat,pp=p*p:=⟨_,rfl⟩
   have cX:(p:Int)*(p:Int)=(pp:Int):=by rw[aK];exact(Int.natCast_mul _ _).symm
   have cS:p<=pp:=by rw[aK];exact Nat.le_mul_of_pos_left _ (by omega)
   have cT:pp<=4611686018427387904:=by rw[aK];exact nM (Nat.mul_le_mul (show p<=2147483648 by omega) (show p<=2147483648 by omega)) (by omega)
   obtain⟨q,hq⟩:∃q,q=if m<p*p then m else p:=⟨_,rfl⟩
   have cA:1<q/\q<=m:=by rw[hq];split <;> omega
   obtain⟨cA,hS⟩:=cA;obtain⟨er,bA⟩:∃er,er=Pl.mult m q m:=⟨_,rfl⟩
   obtain⟨E,R⟩:=er;have bC:=Pl.facM_lt hp (by omega) hq bA.symm;have bE:=Pl.mult_pos m q m cM (by omega);have cF:=Pl.mult_le m q m;rw[<-bA]at bE cF;obtain⟨gI,gL⟩:=bE;dsimp only at gI gL cF;have cD:=Kh aK;have HQ:=Kh hq;have cC:=Kh bA;clear aK hq bA;go_upto_if 14 with(fail)
   go_cut [4] (λv wc=>v=.int .i64 q/\wc=wr)
   case first=>
    by_cases hlt:m<pp
    ·have aN:q=m:=by rw[HQ.1,<-cD.1,if_pos hlt]
     have bY:=Kh aN;clear aN;go_wp2;go_meet
     case rel=>exact⟨Iw (by rw[bY.1]),rfl⟩
    ·have aN:q=p:=by rw[HQ.1,<-cD.1,if_neg hlt]
     have bY:=Kh aN;clear aN;go_wp2;go_meet
     case rel=>exact⟨Iw (by rw[bY.1]),rfl⟩
   case rest=>
    obtain⟨rfl,rfl⟩:=hcut;clear cX cS cT;go_wp2;obtain⟨wo,rfl⟩:∃wo:World,wo=wc:=⟨_,rfl⟩
    go_loop [0,5] (λx y=>∃(O Z g:Nat),x=.int .i64 O/\y=.int .i64 Z/\0<O/\O<=m/\Z<=E/\O<=g/\Pl.mult g q O=(E - Z,R)) (λx _=>(intOf x).toNat)
    case atStart=>exact⟨m,0,m,rfl,rfl,cM,nL _,Nat.zero_le _,nL _,cC.1.symm⟩
    case round=>
     obtain⟨O,Z,g,rfl,rfl,U,hE,hO,hg,V⟩:=hrel;obtain⟨g,rfl⟩:∃h,g=h+1:=⟨g - 1,by omega⟩
     by_cases hd:O % q=0
     ·have gN:(((O:Int) % (q:Int))==0)=true:=by rw[<-Int.natCast_emod,hd];rfl
      have gP:(O:Int) / (q:Int)=((O / q:Nat):Int):=(Int.natCast_ediv _ _).symm;rw[Pl.mult,if_pos hd]at V;injection V with hmul1 hmul2
      have h1:0<O / q:=Nat.div_pos (Nat.le_of_dvd U (Nat.dvd_of_mod_eq_zero hd)) (by omega);have h2:O / q<O:=Nat.div_lt_self U cA;generalize hdq:O / q=d at hmul1 hmul2 h1 h2 gP;have H1:=Kh hmul1;have H2:=Kh hmul2;have gU:Z+1<=E:=by omega
      clear hmul1 hmul2 hd hdq;go_wp2;go_round
      case rel=>exact⟨d,Z+1,g,rfl,by go_num,h1,by omega,by omega,by omega,Prod.ext (by have:=H1.1;show(Pl.mult g q d).1=E - (Z+1);omega) H2.1⟩
      case measure=>simp only[intOf];omega
     ·have gN:(((O:Int) % (q:Int))==0)=false:=by rw[<-Int.natCast_emod];simp;omega
      rw[Pl.mult,if_neg hd]at V;injection V with hmul1 hmul2
      subst hmul2;have gS:Z=E:=by omega
      subst gS;clear hmul1 hd;obtain⟨f,rfl⟩:∃h,f=h+1:=⟨f - 1,by omega⟩
      have J:=Pl.facP_succ (f:=f) (show 1<m by omega) HQ.1 cC.1.symm;by_cases he0:0<Z
      ·rw[if_pos he0]at J
       have HS:=Kh J;clear J;have cI:(Pl.facs n)[M.length]?=some (q,Z):=by rw[HF.1,HS.1];simp
       have eY:=Kh cI;clear cI;go_wp2_with fail
       refine(HC.1 M.length q Z _ eY.1 HI.1).mono ?_;rintro en w1 ⟨rfl,cG⟩;have eX:=Kh cG;clear cG;go_wp2;go_roundw
       case rel=>exact⟨O,q+1,f,M++[(q,Z)],rfl,by go_num,U,by omega,by omega,by omega,by omega,by rw[HF.1,HS.1,List.append_assoc];rfl,by rw[List.length_append];exact eX.1⟩
       case measure=>simp only[intOf];exact bC
      ·rw[if_neg he0]at J
       have HS:=Kh J;clear J;go_wp2;go_roundw
       case rel=>exact⟨O,q+1,f,M,rfl,by go_num,U,by omega,by omega,by omega,by omega,by rw[HF.1,HS.1],HI.1⟩
       case measure=>simp only[intOf];exact bC
end Go.Proofs.YtenlbhlllgppmaaGreatDoor
