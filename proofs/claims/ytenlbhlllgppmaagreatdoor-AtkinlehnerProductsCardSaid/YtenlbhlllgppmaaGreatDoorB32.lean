/- arith.residue, Xgcd of coprime numbers, Inverse. -/
import Derived.Test.YtenlbhlllgppmaaGreatDoorB31
set_option linter.unusedSimpArgs false
set_option maxRecDepth 100000
set_option maxHeartbeats 8000000
namespace Go.Proofs.YtenlbhlllgppmaaGreatDoor
open Go.RowKit Eli Tryz
theorem W5 (x:Int) (m:Nat) (w:World) (O:0<m) (Y:m<=1000000000):
  Calls prog 126 #[.int .i64 x,.int .i64 m] w λe w'=>e=.returned (.int .i64 (x % (m:Int)))/\w'=w:=by
 have U:-(m:Int)<x.tmod m:=by have:=Int.lt_tmod_of_pos x (show(0:Int)<m by omega);omega
 have V:x.tmod m<m:=Int.tmod_lt_of_pos x (by omega);have I:=Kh (Dr x m (by omega));have J:(m:Int)≠0:=by omega
 go_enter func126,ntmps126
 go_wp2;all_goals (go_ret;refine⟨A5 ?_,rfl⟩;rw[<-I.1];first |(rw[if_pos (by omega)];done) |(rw[if_neg (by omega)];done))
structure XgI (a b g r U V:Nat) (s:Int):Prop where
 sum:U*r+V*g=b
 hU:U<=b
 hV:V<=b
 hg:g<=b
 hr:r<=b
 sg:s=1∨s=-1
 du:(b:Int)∣s*U*a - g
 dv:(b:Int)∣-s*V*a - r
 gd:Nat.gcd g r=Nat.gcd a b
theorem XgI.start {a b:Nat} (h:a<b):XgI a b a b 1 0 1:=
 ⟨by omega,by omega,Nat.zero_le _,Nat.le_of_lt h,nR _,.inl rfl,⟨0,by simp⟩,⟨-1,by simp⟩,rfl⟩
theorem XgI.step {a b g r U V:Nat} {s:Int} (h:XgI a b g r U V s) (hr:0<r):XgI a b r (g % r) V (U+g / r*V) (-s):=by
 have Y:=Nat.div_add_mod g r;obtain⟨q,hq⟩:∃q,g / r=q:=⟨_,rfl⟩
 obtain⟨t,J⟩:∃t,g % r=t:=⟨_,rfl⟩
 rw[hq,J]at Y;rw[hq,J]
 have I:V*t+(U+q*V)*r=b:=by
  rw[<-h.sum,<-Y];grind
 have Z:t<r:=by rw[<-J];exact Nat.mod_lt _ hr
 refine⟨I,h.hV,?_,h.hr,Nat.le_of_lt (nT Z h.hr),?_,?_,?_,?_⟩
 ·have O:(U+q*V)*1<=(U+q*V)*r:=Nat.mul_le_mul_left _ hr
  omega
 ·rcases h.sg with O|O <;> rw[O]
  ·exact .inr rfl
  ·exact .inl rfl
 ·exact h.dv
 ·have e:-(-s)*((U+q*V:Nat):Int)*a - (t:Nat)=(s*U*a - g) - q*(-s*V*a - r):=by
   have h2:(g:Int)=r*q+t:=by rw[<-Y];push_cast;rfl
   rw[h2]
   push_cast
   grind
  rw[e];exact Int.dvd_sub h.du (Int.dvd_trans h.dv (Int.dvd_mul_left _ _))
 ·rw[<-h.gd,<-J,Nat.gcd_comm r,<-Nat.gcd_rec r g,Nat.gcd_comm]
theorem fZ (a b:Nat) (w:World) (h0:a<b) (hb:b<=20000) (hg:Nat.gcd a b=1):
  Calls prog 125 #[.int .i64 a,.int .i64 b] w λe w'=>(∃(u:Nat) (v:Int),e=.returned (.tuple #[.int .i64 1,.int .i64 u,.int .i64 v,.int .i64 0])/\u<b/\(b:Int)∣(u:Int)*a - 1)/\Below w.heap.size w w':=by
 have l1:¬(a:Int) < -2147483647:=by omega
 have l2:¬(2147483647:Int)<(a:Int):=by omega
 have l3:¬(b:Int) < -2147483647:=by omega
 have l4:¬(2147483647:Int)<(b:Int):=by omega
 have l5:((b:Int)==0)=false:=beq_eq_false_iff_ne.2 (by omega);go_enter func125,ntmps125
 go_wp2;clear l1 l2 l3 l4 l5;go_loopw [4,5,8,9] (λv4 v5 v8 v9 wr=>∃(g r U V:Nat) (s:Int),v4=.int .i64 g/\v5=.int .i64 (s*U)/\v8=.int .i64 (-s*V)/\v9=.int .i64 r/\XgI a b g r U V s/\wr=w) (λ_ _ _ v9 _=>(intOf v9).toNat)
 case atStart=>exact⟨a,b,1,0,1,rfl,rfl,rfl,rfl,XgI.start h0,rfl⟩
 case round=>
  obtain⟨g,r,U,V,s,rfl,rfl,rfl,rfl,O,rfl⟩:=hrel;have HX:=Kh O;have hG:=O.hg;have cX:=O.hU;have dC:=O.hV;have Z:=O.sg;obtain⟨x,I⟩:∃x:Int,s*U=x:=⟨_,rfl⟩
  obtain⟨y,J⟩:∃y:Int,-s*V=y:=⟨_,rfl⟩
  have hN:-20000<=x/\x<=20000:=by rcases Z with h|h <;> rw[h]at I <;> omega
  have gN:-20000<=y/\y<=20000:=by rcases Z with h|h <;> rw[h]at J <;> omega
  rw[I,J];have cG:=Kh I;have bC:=Kh J;by_cases hr0:r=0
  ·subst hr0
   obtain rfl:g=1:=by have h:=O.gd;rw[Nat.gcd_zero_right,hg]at h;exact h
   have hM:∀w,(Builtin.max_ #[3,3] 3 #[.int .i64 b,.int .i64 (-(b:Int))]).run prog w=.ok (.int .i64 b) w:=λw=>by
    have e:(if(b:Int) < -(b:Int)then -(b:Int)else(b:Int))=(b:Int):=by split <;> omega
    simp[Builtin.max_,Builtin.max2,e]
   have wn:IntKind.i64.wrap (-(b:Int))=-(b:Int):=IntWalk.i64_in _ (by omega);have wb:IntKind.i64.wrap (b:Int)=(b:Int):=IntWalk.i64_in _ (by omega);have Y:=O.du;rw[I]at Y;obtain⟨u,hu⟩:∃u:Nat,x % (b:Int)=u:=⟨(x % (b:Int)).toNat,by rw[Int.toNat_of_nonneg (Int.emod_nonneg _ (by omega))]⟩
   have gL:u<b:=by have:=Int.emod_lt_of_pos x (show(0:Int)<b by omega);omega
   have cD:=Kh (show(b:Int)∣(u:Int)*a - 1 from by
    have e:(u:Int)*a - 1=(x*a - ((1:Nat):Int)) - b*(x / b)*a:=by
     rw[<-hu,Int.emod_def]
     push_cast
     grind
    rw[e];exact Int.dvd_sub Y ⟨x / b*a,by grind⟩)
   obtain⟨P,hP⟩:∃P:Nat,u*a=P:=⟨_,rfl⟩
   have hE:P<=20000*20000:=by rw[<-hP];exact Nat.mul_le_mul (by omega) (by omega)
   have v1:IntKind.i64.wrap ((u:Int)*(a:Int))=(P:Int):=by rw[show(u:Int)*(a:Int)=(P:Int)by rw[<-hP];push_cast;rfl];exact IntWalk.i64_in _ (by omega)
   obtain⟨z,hz⟩:∃z:Int,1 - (P:Int)=z:=⟨_,rfl⟩
   have v2:IntKind.i64.wrap (1 - (P:Int))=z:=by rw[hz];exact IntWalk.i64_in _ (by omega)
   obtain⟨q,hq⟩:∃q,z.tdiv b=q:=⟨_,rfl⟩
   have eP:q.natAbs<=400000001:=by rw[<-hq,Int.natAbs_tdiv];exact nS (Nat.div_le_self _ _) (by omega)
   have v3:IntKind.i64.wrap q=q:=IntWalk.i64_in _ (by omega);have v4:((b:Int)==0)=false:=beq_eq_false_iff_ne.2 (by omega);have v5:b≠0:=by omega
   have cF:=Kh hu;clear O I J Y hP hz hu HX cG bC cX dC Z gN hg;go_wp2_with fail
   refine(W5 x b wr (by omega) (by omega)).mono ?_;rintro e w' ⟨rfl,bY⟩;obtain rfl:wr=w':=bY.symm;rw[cF.1];clear bY;go_upto_region 17 with(fail)
   go_quiet (fail)
   go_wp2;try simp only[Exit.inBlock,Exit.then]
   refine bodyPost_ret (by simp[results,results125,go_sem];try rfl) rfl ?_;exact⟨⟨u,q,rfl,gL,cD.1⟩,Aa (Below.refl _ _) _⟩
  ·have bE:0<r:=by omega
   have hI:((r:Int) != 0)=true:=by rw[bne_iff_ne];omega
   have aX:=O.step bE;have hJ:=O.hr;obtain⟨q,hq⟩:∃q,g / r=q:=⟨_,rfl⟩
   obtain⟨t,ht⟩:∃t,g % r=t:=⟨_,rfl⟩
   have hd:=Nat.div_add_mod g r;rw[hq,ht]at hd aX;have eP:q<=20000:=by rw[<-hq];exact nS (Nat.div_le_self _ _) (by omega)
   have hL:t<r:=by rw[<-ht];exact Nat.mod_lt _ bE
   have e1:(g:Int) / (r:Int)=(q:Int):=by rw[<-hq];exact(Int.natCast_ediv _ _).symm
   obtain⟨p,hp⟩:∃p:Nat,q*r=p:=⟨_,rfl⟩
   have hH:p+t=g:=by rw[<-hp,Nat.mul_comm];exact hd
   have v1:IntKind.i64.wrap ((q:Int)*(r:Int))=(p:Int):=by rw[show(q:Int)*(r:Int)=(p:Int)by rw[<-hp];push_cast;rfl];exact IntWalk.i64_in _ (by omega)
   have v2:IntKind.i64.wrap ((g:Int) - (p:Int))=(t:Int):=by rw[show(g:Int) - (p:Int)=(t:Int)by omega];exact IntWalk.i64_in _ (by omega)
   obtain⟨z,hz⟩:∃z:Int,(q:Int)*y=z:=⟨_,rfl⟩
   have hO:z.natAbs<=20000*20000:=by rw[<-hz,Int.natAbs_mul];exact Nat.mul_le_mul (by omega) (by omega)
   have v3:IntKind.i64.wrap ((q:Int)*y)=z:=by rw[hz];exact IntWalk.i64_in _ (by omega)
   obtain⟨x',bA⟩:∃x':Int,x - z=x':=⟨_,rfl⟩
   have v4:IntKind.i64.wrap (x - z)=x':=by rw[bA];exact IntWalk.i64_in _ (by omega)
   have cC:=Kh aX
   have cB:=Kh (show x'=-(-s)*((U+q*V:Nat):Int)by
    rw[<-bA,<-hz,<-I,<-J]
    push_cast
    grind)
   clear O I J hq ht hd hp hz bA aX HX;go_wp2;go_roundw
   case rel=>exact⟨r,t,V,U+q*V,-s,rfl,by rw[bC.1],by rw[cB.1],rfl,cC.1,trivial⟩
   case measure=>simp[intOf];omega
theorem Uv (m:Nat) (w:World) (I:0<m) (U:m<=1000000000):
  Calls prog 124 #[.int .i64 m] w λe w'=>e=.returned (.bool true)/\w'=w:=by
 have J:(1:Int)<=(m:Int):=by omega
 have O:(m:Int)<=2147483647:=by omega
 go_enter func124,ntmps124
 go_wp2;go_ret;exact⟨rfl,rfl⟩
theorem Ir (x:Int) (m:Nat) (w:World) (h:0<m) (hm:m<=20000) (hg:Int.gcd x m=1):
  Calls prog 74 #[.int .i64 x,.int .i64 m] w λe w'=>(∃u:Nat,e=.returned (.tuple #[.int .i64 u,.int .i64 0])/\u<m/\(m:Int)∣(u:Int)*x - 1)/\Below w.heap.size w w':=by
 obtain⟨a,V⟩:∃a:Nat,x % (m:Int)=a:=⟨(x % (m:Int)).toNat,by rw[Int.toNat_of_nonneg (Int.emod_nonneg _ (by omega))]⟩
 have Y:a<m:=by have:=Int.emod_lt_of_pos x (show(0:Int)<m by omega);omega
 have O:Nat.gcd a m=1:=by
  have h1:((Nat.gcd a m:Nat):Int)∣x:=by
   have e:x=m*(x / m)+a:=by rw[<-V];exact(Int.mul_ediv_add_emod x m).symm
   rw[e];exact Int.dvd_add (Int.dvd_trans (Int.natCast_dvd_natCast.2 (Nat.gcd_dvd_right ..)) (Int.dvd_mul_right _ _)) (Int.natCast_dvd_natCast.2 (Nat.gcd_dvd_left ..))
  have h2:=Int.dvd_coe_gcd h1 (Int.natCast_dvd_natCast.2 (Nat.gcd_dvd_right a m));rw[hg]at h2;exact Nat.dvd_one.1 (Int.natCast_dvd_natCast.1 h2)
 have Z:=Kh V;have U:=Kh (λW=>fZ a m W Y hm O);clear V hg O;go_enter func74,ntmps74
 go_wp2_with fail
 refine(Uv m w h (by omega)).mono ?_;rintro e w' ⟨rfl,I⟩;obtain rfl:w=w':=I.symm;clear I;go_wp2_with fail
 refine(W5 x m w h (by omega)).mono ?_;rintro e w' ⟨rfl,I⟩;obtain rfl:w=w':=I.symm;rw[Z.1];clear I;go_wp2_with fail
 refine(U.1 w).mono ?_;rintro e w1 ⟨⟨u,v,rfl,hu,hd⟩,J⟩;have HB:=Kh J
 have HD:=Kh (show(m:Int)∣(u:Int)*x - 1 from by
  have e:(u:Int)*x - 1=((u:Int)*a - 1)+m*(u*(x / m)):=by
   have h1:x=m*(x / m)+a:=by rw[<-Z.1];exact(Int.mul_ediv_add_emod x m).symm
   grind
  rw[e];exact Int.dvd_add hd (Int.dvd_mul_right _ _))
 clear hd J;go_wp2;go_ret2
 exact⟨⟨u,rfl,hu,HD.1⟩,HB.1⟩
theorem Xw (V:Nat):∀U:Nat,0<U->∃K m,0<K/\K∣U/\Nat.gcd K V=1/\U∣K*V ^ m:=by
 intro U;induction U using Nat.strongRecOn with
 | _ U ih=>
  intro hU;by_cases hg:Nat.gcd U V=1
  ·exact⟨U,0,hU,Nat.dvd_refl U,hg,by simp⟩
  ·obtain⟨W,I⟩:=Nat.gcd_dvd_left U V
   have bA:0<Nat.gcd U V:=Nat.gcd_pos_of_pos_left V hU
   have J:0<W:=by
    rcases Nat.eq_zero_or_pos W with h|h
    ·rw[h,Nat.mul_zero]at I;omega
    ·exact h
   have hlt:W<U:=by
    have O:2*W<=Nat.gcd U V*W:=Nat.mul_le_mul_right W (by omega);omega
   obtain⟨K,m,Y,O,Z,h4⟩:=ih W hlt J;refine⟨K,m+1,Y,Nat.dvd_trans O ⟨_,by rw[Nat.mul_comm];exact I⟩,Z,?_⟩;rw[I,Nat.pow_succ,<-Nat.mul_assoc,Nat.mul_comm (K*V ^ m)];exact Nat.mul_dvd_mul (Nat.gcd_dvd_right U V) h4
theorem Tb {U V n:Nat} (hU:0<U) (hg:Nat.gcd (Nat.gcd U V) n=1):∃k,k<=U/\Nat.gcd (V+k*n) U=1:=by
 obtain⟨K,m,h1,h2,h3,h4⟩:=Xw V U hU;refine⟨K,Nat.le_of_dvd hU h2,?_⟩;obtain⟨q,hq⟩:∃q,Nat.gcd (V+K*n) U=q:=⟨_,rfl⟩
 have I:q∣V+K*n:=hq▸Nat.gcd_dvd_left ..;have J:q∣U:=hq▸Nat.gcd_dvd_right ..;rw[hq]
 have Z:Nat.gcd q K=1:=by
  have O:Nat.gcd q K∣K*n:=Nat.dvd_trans (Nat.gcd_dvd_right ..) (Nat.dvd_mul_right ..);have Y:Nat.gcd q K∣V:=(Nat.dvd_add_left O).1 (Nat.dvd_trans (Nat.gcd_dvd_left ..) I);exact Nat.dvd_one.1 (h3▸Nat.dvd_gcd (Nat.gcd_dvd_right ..) Y)
 have e2:q∣V ^ m:=(Nat.Coprime.dvd_of_dvd_mul_left Z (Nat.dvd_trans J h4))
 have e3:Nat.gcd q V=1:=by
  have O:Nat.gcd q V∣K*n:=(Nat.dvd_add_right (Nat.gcd_dvd_right q V)).1 (Nat.dvd_trans (Nat.gcd_dvd_left ..) I);have Y:Nat.gcd (Nat.gcd q V) K=1:=Nat.dvd_one.1 (Z▸Nat.dvd_gcd (Nat.dvd_trans (Nat.gcd_dvd_left ..) (Nat.gcd_dvd_left ..)) (Nat.gcd_dvd_right ..));have h:Nat.gcd q V∣n:=Nat.Coprime.dvd_of_dvd_mul_left Y O;exact Nat.dvd_one.1 (hg▸Nat.dvd_gcd (Nat.dvd_gcd (Nat.dvd_trans (Nat.gcd_dvd_left ..) J) (Nat.gcd_dvd_right ..)) h)
 have e4:Nat.gcd q (V ^ m)=1:=Nat.Coprime.pow_right m e3;exact Nat.dvd_one.1 (e4▸Nat.dvd_gcd (Nat.dvd_refl q) e2)
theorem cE (n p:Nat) (w:World) (h0:0<n) (hn:n<=120) (hp:p<(pts n (n*n)).length):
  Calls prog 156 #[.int .i64 n,.int .i64 p] w λe w'=>e=.returned (.tuple #[.agg #[.int .i64 (((pts n (n*n)).getD p 0 / n:Nat):Int),.int .i64 (((pts n (n*n)).getD p 0 % n:Nat):Int),.int .i64 1],.int .i64 0])/\Below w.heap.size w w':=by
 obtain⟨L,hL⟩:∃L,pts n (n*n)=L:=⟨_,rfl⟩
 have Z:=Kh (λW=>Ns n W h0 hn);rw[hL]at hp Z ⊢;have gS:L.length<=14400:=by rw[<-hL];exact nS (Cj n (n*n)) (Nat.mul_le_mul hn hn)
 obtain⟨a,ha⟩:∃a,L.getD p 0=a:=⟨_,rfl⟩
 have cC:L[p]?=some a:=by rw[<-ha,List.getD_eq_getElem?_getD,List.getElem?_eq_getElem hp];rfl
 rw[ha];obtain⟨u,hu⟩:∃u,a / n=u:=⟨_,rfl⟩
 obtain⟨v,hv⟩:∃v,a % n=v:=⟨_,rfl⟩
 rw[hu,hv];have hE:¬(p:Int)<0:=by omega
 have hG:¬(L.length:Int)<=(p:Int):=by omega
 have cT:=Kh cC;have bC:=Kh (And.intro hu hv);clear hL ha cC hu hv;go_enter func156,ntmps156
 go_wp2_with fail
 obtain⟨w0,cD,X0,bY⟩:=bx1 w #[.int .i64 0,.int .i64 0,.int .i64 0] 213;rw[cD];obtain⟨J,U⟩:∃x,w.heap.size=x:=⟨_,rfl⟩
 have Y:=Kh (show w.heap.size<=J from Nat.le_of_eq U);have bE:=Kh (show Blk w0 J 213 #[.int .i64 0,.int .i64 0,.int .i64 0]from U▸X0);have bB:=Kh bY;try rw[U]
 refine(Z.1 w0).mono ?_;rintro e w1 ⟨⟨vl,rfl,cB⟩,aX⟩;obtain⟨g,cap,rfl,_,_,_,gU,_,cA,_⟩:=H8 cB (by omega);have O:∀i u,(Oq n a)[i]?=some u->i<3->w1.cell? ⟨g,p*3+i,none⟩=some u:=λi u h hi=>cA _ _ (by rw[Ep cT.1 hi];exact h)
 have l0:w1.cell? ⟨g,p*3,none⟩=some (.int .i64 (u:Int)):=by have h:=O 0 _ rfl (by decide);rw[bC.1.1]at h;exact h
 have l1:w1.cell? ⟨g,p*3+1,none⟩=some (.int .i64 (v:Int)):=by have h:=O 1 _ rfl (by decide);rw[bC.1.2]at h;exact h
 have l2:w1.cell? ⟨g,p*3+2,none⟩=some (.int .i64 1):=O 2 _ rfl (by decide);have I:=Kh (bk bE aX);have cF:=bt bB aX;clear cD X0 bY aX bE bB U cB cA O Z;have r0:=I.1.at_ 0 rfl;have r1:=I.1.at_ 1 rfl;have r2:=I.1.at_ 2 rfl;have f0:=I.1.free_ 0;have f1:=I.1.free_ 1;have f2:=I.1.free_ 2;have V:=Kh (A9 (w:=w1) (R:=J) (v0:=.int .i64 (u:Int)) (v1:=.int .i64 (v:Int)) (v2:=.int .i64 1) (by rw[r0];rfl) (by rw[r1];rfl) (by rw[r2];rfl));have cG:=Kh (show Below w.heap.size w (((w1.setCell ⟨J,0,none⟩ (.int .i64 (u:Int))).setCell ⟨J,1,none⟩ (.int .i64 (v:Int))).setCell ⟨J,2,none⟩ (.int .i64 1))from((cF.1.setCell (p:=⟨J,0,none⟩) Y.1 _).setCell (p:=⟨J,1,none⟩) Y.1 _).setCell (p:=⟨J,2,none⟩) Y.1 _);have hB:J<w1.heap.size:=I.1.lt;go_wp2;have e0:=V.1.1;have e1:=V.1.2.1;have e2:=V.1.2.2;try simp only[Exit.inBlock,Exit.then]
 refine bodyPost_ret (by simp[results,results156,go_sem,e0,e1,e2];try rfl) rfl ?_;exact⟨rfl,cG.1⟩
structure LiftOf (n p:Nat) (A B C E:Int):Prop where
 det:A*E - B*C=1
 c:C % n=(((pts n (n*n)).getD p 0 / n:Nat):Int) % n
 d:E % n=(((pts n (n*n)).getD p 0 % n:Nat):Int) % n
 bA:-20000<=A/\A<=20000
 bB:-20000<=B/\B<=20000
 bC:-20000<=C/\C<=20000
 bE:-20000<=E/\E<=20000
theorem Jz {n a:Nat} (h:E6 n a=true):Nat.gcd (Nat.gcd (a / n) (a % n)) n=1:=by
 unfold E6 at h
 simpa using h
theorem Tu {n p:Nat} (O:0<n) (hp:p<(pts n (n*n)).length) (hu:(pts n (n*n)).getD p 0 / n=0):(pts n (n*n)).getD p 0 % n=1 % n:=by
 have V:=Ax hp;obtain⟨a,ha⟩:∃a,(pts n (n*n)).getD p 0=a:=⟨_,rfl⟩
 rw[ha]at V hu ⊢;have I:=Jz (I4 V).1;rw[hu,Nat.gcd_zero_left]at I;have U:=V;rw[Ci O _ (nR _),List.mem_filter]at U;simp only[Bool.and_eq_true]at U;have Y:=Cz.1 U.2.2
 have J:a<n:=by
  rcases Nat.lt_or_ge a n with h|h
  ·exact h
  ·have:=Nat.div_pos h O;omega
 rw[Nat.mod_eq_of_lt J]at I ⊢;obtain⟨s,s1,s2,s3,s4⟩:=Lq n a O I;have h5:=Y s s1 s2 (by simp[pun,s3])
 have h6:Az n s a=1 % n:=by
  have Z:=Dn O s a;have e2:=Dp n s a;rw[Nat.div_eq_of_lt J,Nat.mul_zero,Nat.zero_mod]at Z;rw[Nat.mod_eq_of_lt J,s4]at e2;have h7:=Nat.div_add_mod (Az n s a) n;rw[Z,e2,Nat.mul_zero,Nat.zero_add]at h7;exact h7.symm
 rw[h6]at h5;rcases Nat.lt_or_ge 1 n with h|h
 ·rw[Nat.mod_eq_of_lt h]at h5 ⊢
  rcases Nat.eq_zero_or_pos a with h8|h8
  ·rw[h8,Nat.gcd_zero_left]at I;omega
  ·omega
 ·obtain rfl:n=1:=by omega
  omega
theorem fS (n p:Nat) (w:World) (h0:0<n) (hn:n<=120) (hp:p<(pts n (n*n)).length):
  Calls prog 109 #[.int .i64 n,.int .i64 p] w λe w'=>(∃A B C E:Int,e=.returned (.tuple #[.agg #[.int .i64 A,.int .i64 B,.int .i64 C,.int .i64 E],.int .i64 0])/\LiftOf n p A B C E)/\Below w.heap.size w w':=by
 have dC:=Kh (λW=>cE n p W h0 hn hp);have gP:=Jz (I4 (Ax hp)).1;have hlt:=Fk (Ax hp);obtain⟨U,hU⟩:∃U,(pts n (n*n)).getD p 0 / n=U:=⟨_,rfl⟩
 obtain⟨V,hV⟩:∃V,(pts n (n*n)).getD p 0 % n=V:=⟨_,rfl⟩
 have pJ:U<n:=by rw[<-hU];exact Nat.div_lt_of_lt_mul hlt
 have pK:V<n:=by rw[<-hV];exact Nat.mod_lt _ h0
 have eP:=Kh (show U=0->V % n=1 % n from λh=>by
  have O:=Tu h0 hp (hU.trans h);rw[hV]at O;rw[<-O,<-hV,Nat.mod_mod])
 have bE:=Kh (λ(A B C E:Int) (O:A*E - B*C=1) (h2:C % n=(U:Int) % n) (h3:E % n=(V:Int) % n) (b1:-20000<=A/\A<=20000) (b2:-20000<=B/\B<=20000) (b3:-20000<=C/\C<=20000) (b4:-20000<=E/\E<=20000)=>(show LiftOf n p A B C E from⟨O,by rw[hU];exact h2,by rw[hV];exact h3,b1,b2,b3,b4⟩));rw[hU,hV]at dC gP;clear hp hlt hU hV;go_enter func109,ntmps109
 go_wp2_with fail
 obtain⟨w0,mD,X0,hY⟩:=bx1 w #[.int .i64 0,.int .i64 0,.int .i64 0,.int .i64 0] 63;rw[mD];obtain⟨gr,cF⟩:∃x,w.heap.size=x:=⟨_,rfl⟩
 have J:=Kh (show w.heap.size<=gr from Nat.le_of_eq cF);have hQ:=Kh (show Blk w0 gr 63 #[.int .i64 0,.int .i64 0,.int .i64 0,.int .i64 0]from cF▸X0);have hD:=Kh hY;try rw[cF]
 refine(dC.1 w0).mono ?_;rintro e w1 ⟨rfl,gA⟩;have hR:=Kh (bk hQ gA);have hE:=bt hD gA;clear mD X0 hY gA hQ hD cF dC;go_upto_region 4 with(fail)
 obtain⟨w2,mE,Y,gF⟩:=bx1 w1 #[.int .i64 U,.int .i64 V,.int .i64 1] 213;rw[mE];obtain⟨g6,hZ⟩:∃x,w1.heap.size=x:=⟨_,rfl⟩
 rw[hZ]at Y ⊢;have HY:=Kh Y;have I:=Kh (bk hR gF);have hG:=bt hE gF;clear mE Y gF hZ hR hE;by_cases hU0:U=0
 ·subst hU0
  have y0:=HY.1.at_ 0 rfl;have r0:=I.1.at_ 0 rfl;have r1:=I.1.at_ 1 rfl;have r2:=I.1.at_ 2 rfl;have r3:=I.1.at_ 3 rfl;have f0:=I.1.free_ 0;have f1:=I.1.free_ 1;have f2:=I.1.free_ 2;have f3:=I.1.free_ 3;have hX:=eP.1 rfl
  have nY:=Kh (bE.1 1 0 0 1 (by decide) rfl (by
   have O:((V % n:Nat):Int)=((1 % n:Nat):Int):=by rw[hX]
   push_cast at O
   exact O.symm) (by decide) (by decide) (by decide) (by decide))
  clear hX eP bE;go_wp2
  (try simp only[Exit.inBlock,Exit.then])
  exact bodyPost_ret (v:=.tuple #[.agg #[.int .i64 1,.int .i64 0,.int .i64 0,.int .i64 1],.int .i64 0]) (by rw[results_cell_tmp rfl];go_simp) rfl ⟨⟨1,0,0,1,rfl,nY.1⟩,((((hG.1.setCell J.1 _).setCell J.1 _).setCell J.1 _).setCell J.1 _)⟩
 ·have pI:((U:Int)==0)=false:=beq_eq_false_iff_ne.2 (by omega)
  obtain⟨K,pG,hW⟩:=Tb (n:=n) (show 0<U by omega) gP;have hM:=Kh hW;clear gP hW eP;have y0:=HY.1.at_ 0 rfl;have y1:=HY.1.at_ 1 rfl;go_upto_region 7 with(fail)
  clear y0 y1;go_loopw [8] (λv8 wr=>∃k:Nat,v8=.int .i64 ((V+k*n:Nat):Int)/\(∀j,j<k->Nat.gcd (V+j*n) U≠1)/\Below w2.heap.size w2 wr) (λv8 _=>V+K*n - (intOf v8).toNat)
  case atStart=>exact⟨0,by rw[Nat.zero_mul];rfl,λj hj=>absurd hj (Nat.not_lt_zero _),Below.refl _ _⟩
  case round=>
   obtain⟨k,rfl,gN,Z⟩:=hrel;obtain⟨w3,rfl⟩:∃w3:World,w3=wr:=⟨_,rfl⟩
   have hN:=Kh gN
   have oH:k<=K:=by
    rcases Nat.lt_or_ge K k with h|h
    ·exact absurd hM.1 (gN K h)
    ·exact h
   have pL:k*n<=120*120:=Nat.mul_le_mul (by omega) hn;have oW:k*n<=K*n:=Nat.mul_le_mul_right _ oH;have dE:=Kh (bk HY Z);have hS:=Kh (bk I Z);have hH:=bt hG Z;have cT:=Kh Z;clear gN Z;have aX:(V+(k+1)*n:Nat)=V+k*n+n:=by rw[Nat.succ_mul,Nat.add_assoc]
   obtain⟨d,hd⟩:∃d,V+k*n=d:=⟨_,rfl⟩
   rw[hd]at aX ⊢;have oF:d<=14520:=by omega
   have y0:=dE.1.at_ 0 rfl;have HD:=Kh hd;have cX:=Kh aX;by_cases hg:Nat.gcd d U=1
   ·have HG:=Kh (show((Int.gcd (d:Int) (U:Int):Nat):Int)=1 by rw[Int.gcd_natCast_natCast,hg];rfl)
    have hL:=Kh (show Int.gcd (d:Int) (U:Int)=1 by rw[Int.gcd_natCast_natCast];exact hg);clear hg hd aX;go_wp2_with fail
    refine(Em (d:Int) (U:Int) w3 (by omega) (by omega) (by omega) (by omega)).mono ?_;rw[HG.1];rintro e w4 ⟨rfl,nd,bA⟩;have cC:Below w3.heap.size w3 w4:=by rw[bA];exact Aa (Below.refl _ _) nd
    have dY:=Kh (bk dE cC);have hT:=Kh (bk hS cC);have bC:=bt hH cC;clear bA cC y0 dE hS hH cT;have y0:=dY.1.at_ 0 rfl;go_wp2_with fail
    refine(Ir (d:Int) U w4 (by omega) (by omega) hL.1).mono ?_;rintro e w5 ⟨⟨A,rfl,pE,B,hB⟩,cD⟩;have Y5:=bk dY cD;have X5:=bk hT cD;have nX:=bt bC cD;clear cD dY hT bC y0;obtain⟨P,hP⟩:∃P:Nat,A*d=P:=⟨_,rfl⟩
    have pH:P<=120*14520:=by rw[<-hP];exact Nat.mul_le_mul (by omega) oF
    have cA:(A:Int)*(d:Int)=(P:Int):=by rw[<-hP];push_cast;rfl
    have v1:IntKind.i64.wrap ((A:Int)*(d:Int))=(P:Int):=by rw[cA];exact IntWalk.i64_in _ (by omega)
    obtain⟨z,hz⟩:∃z:Int,(P:Int) - 1=z:=⟨_,rfl⟩
    have v2:IntKind.i64.wrap ((P:Int) - 1)=z:=by rw[hz];exact IntWalk.i64_in _ (by omega)
    have cG:z=U*B:=by rw[<-hz,<-cA];exact hB
    have v3:z.tdiv (U:Int)=B:=by rw[cG];exact Int.mul_tdiv_cancel_left B (by omega)
    have oD:-20000<=B/\B<=20000:=by
     have pF:B.natAbs<=14520:=by
      rcases Int.lt_or_le B 0 with h|h
      ·have O:(U:Int)*B<=1*B:=by
        have h2:=Int.mul_le_mul_of_nonpos_right (show(1:Int)<=U by omega) (Int.le_of_lt h);exact h2
       omega
      ·have h3:B*U=z:=by rw[cG,Int.mul_comm]
       have h4:B<=d:=by
        rcases Int.lt_or_le (d:Int) B with h5|h5
        ·exfalso
         have h6:(A:Int)*d<=U*d:=Int.mul_le_mul_of_nonneg_right (by omega) (by omega);have h7:(U:Int)*d<=U*B:=Int.mul_le_mul_of_nonneg_left (Int.le_of_lt h5) (by omega);omega
        ·exact h5
       omega
     omega
    have v4:IntKind.i64.wrap B=B:=IntWalk.i64_in _ (by omega);have v5:U≠0:=hU0
    have nZ:=Kh (bE.1 A B U d (by rw[cA];have O:B*(U:Int)=z:=(by rw[cG,Int.mul_comm]);omega) rfl (by
     have O:=HD.1;rw[<-O]
     push_cast
     rw[Int.add_mul_emod_self_right]) (by omega) oD (by omega) (by omega))
    have q0:=Y5.at_ 0 rfl;have r0:=X5.at_ 0 rfl;have r1:=X5.at_ 1 rfl;have r2:=X5.at_ 2 rfl;have r3:=X5.at_ 3 rfl;have f0:=X5.free_ 0;have f1:=X5.free_ 1;have f2:=X5.free_ 2;have f3:=X5.free_ 3;clear hP cA hz cG hB Y5 X5 bE hL HG hN cX HD;go_upto_region 10 with(fail)
    refine jC [13] (λW=>W.cell? ⟨g6,0,none⟩=some (.int .i64 (U:Int))/\W.cell? ⟨gr,0,none⟩=some (.int .i64 0)/\W.frozen? ⟨gr,0,none⟩=false/\W.cell? ⟨gr,1,none⟩=some (.int .i64 0)/\W.frozen? ⟨gr,1,none⟩=false/\W.cell? ⟨gr,2,none⟩=some (.int .i64 0)/\W.frozen? ⟨gr,2,none⟩=false/\W.cell? ⟨gr,3,none⟩=some (.int .i64 0)/\W.frozen? ⟨gr,3,none⟩=false) (λW hb=>⟨Aq hb q0,Aq hb r0,Ab hb (by rw[r0];rfl) (f0),Aq hb r1,Ab hb (by rw[r1];rfl) (f1),Aq hb r2,Ab hb (by rw[r2];rfl) (f2),Aq hb r3,Ab hb (by rw[r3];rfl) (f3)⟩) (λoY hHeld0=>?_);refine C8 0 ?_;refine C8 1 ?_;refine C8 2 ?_;refine C8 3 ?_;refine C8 4 ?_;refine C8 5 ?_;refine C8 6 ?_;refine C8 7 ?_;refine C8 8 ?_;refine C8 9 ?_;refine C8 10 ?_;refine C8 11 ?_;refine fG 12 rfl (λK hK=>?_);go_simp
    refine hK.out _ _ ?_;clear hK K
    (try simp only[Act.put,Bo,Bt,Bp])
    refine eH 13 ?_;refine fA ?_;go_wp2
    (try simp only[Exit.inBlock,Exit.then])
    exact bodyPost_ret (v:=.tuple #[.agg #[.int .i64 A,.int .i64 B,.int .i64 U,.int .i64 d],.int .i64 0]) (by rw[results_cell_tmp rfl];go_simp) rfl ⟨⟨A,B,U,d,rfl,nZ.1⟩,Aa ((((nX.1.setCell J.1 _).setCell J.1 _).setCell J.1 _).setCell J.1 _) 1⟩
   ·have HG:=Kh (show((Int.gcd (d:Int) (U:Int):Nat):Int)=(Nat.gcd d U:Nat)by rw[Int.gcd_natCast_natCast])
    have oG:(((Nat.gcd d U:Nat):Int) != 1)=true:=by rw[bne_iff_ne];omega
    have mA:k<K:=by
     rcases Nat.lt_or_ge k K with h|h
     ·exact h
     ·exfalso
      have O:k=K:=by omega
      rw[O]at hd;exact hg (by rw[<-hd];exact hM.1)
    have hO:=Kh (show ∀j,j<k+1->Nat.gcd (V+j*n) U≠1 from λj hj=>by
     rcases Nat.lt_or_ge j k with h|h
     ·exact hN.1 j h
     ·obtain rfl:j=k:=by omega
      rw[HD.1];exact hg)
    have mB:(k+1)*n<=K*n:=Nat.mul_le_mul_right _ mA;have wd:IntKind.i64.wrap ((d:Int)+(n:Int))=((d+n:Nat):Int):=by rw[show(d:Int)+(n:Int)=((d+n:Nat):Int)by push_cast;rfl];exact IntWalk.i64_in _ (by omega)
    obtain⟨g,iL⟩:∃g,Nat.gcd d U=g:=⟨_,rfl⟩
    rw[iL]at HG oG;obtain⟨d2,gL⟩:∃d2,d+n=d2:=⟨_,rfl⟩
    rw[gL]at wd;have hI:=Kh gL;clear hg hd iL gL;go_wp2_with fail
    refine(Em (d:Int) (U:Int) w3 (by omega) (by omega) (by omega) (by omega)).mono ?_;rw[HG.1];rintro e w4 ⟨rfl,nd,bA⟩;have bC:=Kh (show Below w2.heap.size w2 w4 from cT.1.trans (by rw[bA];exact Aa ((Below.refl _ _).mono cT.1.size) nd));clear bA y0;go_wp2;go_roundw
    case rel=>exact⟨k+1,by rw[cX.1,hI.1],hO.1,bC.1⟩
    case measure=>have O:=hI.1;have h2:=cX.1;have h3:=HD.1;simp[intOf];rw[Nat.succ_mul]at mB;omega
theorem jY (x:Int) (w:World):Calls prog 223 #[.int .i64 x] w λe w'=>e=.returned (.bool false)/\w'=w:=by
 have I:(x != x)=false:=by simp
 go_enter func223,ntmps223
 go_wp2;go_ret;exact⟨rfl,rfl⟩
def Rs (x y:Int):Int:=if x<y then -1 else if y<x then 1 else 0
theorem gB (x y:Int) (w:World):Calls prog 212 #[.int .i64 x,.int .i64 y] w λe w'=>e=.returned (.int .i64 (Rs x y))/\w'=w:=by
 have I:=Kh (λx w=>jY x w);unfold Rs;go_enter func212,ntmps212
 go_wp2_with fail
 refine(I.1 x w).mono ?_;rintro e O ⟨rfl,rfl⟩;go_wp2_with fail
 refine(I.1 y O).mono ?_;rintro e V ⟨rfl,rfl⟩;rcases Int.lt_trichotomy x y with h|h|h
 ·go_wp2
  go_ret;exact⟨rfl,rfl⟩
 ·have J:¬x<y:=by omega
  have U:¬y<x:=by omega
  go_wp2;go_ret;exact⟨rfl,rfl⟩
 ·have J:¬x<y:=by omega
  go_wp2;go_ret;exact⟨rfl,rfl⟩
def lM (a b:Int):Int:=if a=0 then b else a
theorem jZ (a b:Int) (g cap:Nat) (w:World) (U:w.cell? ⟨g,0,none⟩=some (.int .i64 a)) (V:w.cell? ⟨g,1,none⟩=some (.int .i64 b)):
  Calls prog 211 #[.slice (some ⟨g,0,none⟩) 2 cap] w λe w'=>e=.returned (.int .i64 (lM a b))/\w'=w:=by
 unfold lM;go_enter func211,ntmps211
 go_wp2;go_loopw [8] (λi wr=>wr=w/\((i=.int .i64 0)∨(i=.int .i64 1/\a=0)∨(i=.int .i64 2/\a=0/\b=0))) (λi _=>2 - (intOf i).toNat)
 case atStart=>exact⟨rfl,.inl rfl⟩
 case round=>
  obtain⟨rfl,hr⟩:=hrel;rcases hr with rfl |⟨rfl,I⟩ |⟨rfl,I,J⟩
  ·by_cases I:a=0
   ·subst I
    go_wp2;go_roundw
    case rel=>exact⟨by trivial,.inr (.inl ⟨by trivial,by trivial⟩)⟩
    case measure=>simp[intOf]
   ·have J:(a != 0)=true:=by simpa using I
    have O:=Kh I;clear I;go_wp2
    all_goals first
     |(exfalso;exact O.1 (by assumption))
     |(go_ret;exact⟨rfl,rfl⟩)
  ·subst I
   by_cases hb0:b=0
   ·subst hb0
    go_wp2;go_roundw
    case rel=>exact⟨by trivial,.inr (.inr ⟨by trivial,by trivial,by trivial⟩)⟩
    case measure=>simp[intOf]
   ·have J:(b != 0)=true:=by simpa using hb0
    clear hb0;go_wp2;go_ret;exact⟨rfl,rfl⟩
  ·subst I
   subst J;go_wp2;go_ret;exact⟨rfl,rfl⟩
def Nz (u v u' v':Int):Int:=lM (Rs u u') (Rs v v')
theorem Sv (u v t J O t':Int) (w:World):Calls prog 194 #[.agg #[.int .i64 u,.int .i64 v,.int .i64 t],.agg #[.int .i64 J,.int .i64 O,.int .i64 t']] w λe w'=>e=.returned (.int .i64 (Nz u v J O))/\Below w.heap.size w w':=by
 have HC:=Kh (λx y w=>gB x y w);unfold Nz;go_enter func194,ntmps194
 go_upto_region 1 with(fail)
 obtain⟨w1,h,X,Y,V⟩:=bx2 w #[.int .i64 u,.int .i64 v,.int .i64 t] 213 #[.int .i64 J,.int .i64 O,.int .i64 t'] 213;rw[h];obtain⟨g0,I⟩:∃x,w.heap.size=x:=⟨_,rfl⟩
 obtain⟨g1,Z⟩:∃x,w.heap.size+1=x:=⟨_,rfl⟩
 have HB:=Kh V;rw[Z]at Y ⊢;rw[I]at X;try rw[I]
 have r0:=X.at_ 0 rfl;have r1:=X.at_ 1 rfl;have q0:=Y.at_ 0 rfl;have q1:=Y.at_ 1 rfl;have HG:=Kh I;clear h X Y V Z I;refine J2 (λW=>W.cell? ⟨g0,0,none⟩=some (.int .i64 u)/\W.cell? ⟨g0,1,none⟩=some (.int .i64 v)/\W.cell? ⟨g1,0,none⟩=some (.int .i64 J)/\W.cell? ⟨g1,1,none⟩=some (.int .i64 O)) (λW hb=>⟨Aq hb r0,Aq hb r1,Aq hb q0,Aq hb q1⟩) (λU hHeld0=>?_);refine Aj 0 ?_;refine Aj 1 ?_;refine Aj 2 ?_;refine Aj 3 ?_;refine Aj 5 ?_;refine Aj 6 ?_;refine Aj 7 ?_;refine Aj 8 ?_;refine G6 4 rfl (λK hK=>?_);focus(go_simp;refine(HC.1 u J _).mono ?_;rintro e wz ⟨rfl,rfl⟩;(first|with_reducible refine hK.out _ _ ?_ (λhHeld1=>?_) |(go_wp2_with fail;with_reducible refine hK.out _ _ ?_ (λhHeld1=>?_))))
 focus((try dsimp only);with_reducible assumption)
 focus(clear hK K;(try simp only[Act.put,Bo,Bt,Bp]))
 refine G6 9 rfl (λK hK=>?_);focus(go_simp;refine(HC.1 v O _).mono ?_;rintro e wz ⟨rfl,rfl⟩;(first|with_reducible refine hK.out _ _ ?_ (λhHeld2=>?_) |(go_wp2_with fail;with_reducible refine hK.out _ _ ?_ (λhHeld2=>?_))))
 focus((try dsimp only);with_reducible assumption)
 focus(clear hK K;(try simp only[Act.put,Bo,Bt,Bp]))
 refine G6 10 rfl (λK hK=>?_);focus(go_simp;refine hK.out _ _ ?_ (λhHeld3=>?_))
 focus((try dsimp only);exact U.1 _ (Below.refl _ w1 |>.drew.alloc (nR _) _))
 focus(clear hK K;(try simp only[Act.put,Bo,Bt,Bp]))
 refine G6 11 rfl (λK hK=>?_);focus(go_simp;refine(jZ (Rs u J) (Rs v O) w1.heap.size 2 _ (by simp) (by simp)).mono ?_;rintro e wz ⟨rfl,rfl⟩;(first|with_reducible refine hK.out _ _ ?_ (λhHeld4=>?_) |(go_wp2_with fail;with_reducible refine hK.out _ _ ?_ (λhHeld4=>?_))))
 focus((try dsimp only);exact U.1 _ (Below.refl _ w1 |>.drew.alloc (nR _) _))
 focus(clear hK K;(try simp only[Act.put,Bo,Bt,Bp]))
 refine Js 12 rfl (λK hK=>?_);go_simp
 refine hK.out _ _ ?_;clear hK K
 (try simp only[Act.put,Bo,Bt,Bp])
 go_wp2;go_ret;exact⟨rfl,HB.1.trans ((((Below.refl _ w1).drew.alloc (nR _) _)).mono HB.1.size)⟩
theorem iO {n i j:Nat} (O:0<n) (I:i<j) (J:j<(pts n (n*n)).length):(pts n (n*n)).getD i 0<(pts n (n*n)).getD j 0:=by
 have U:(pts n (n*n)).Pairwise (· < ·):=by
  rw[Ci O _ (nR _)];exact List.Pairwise.filter _ List.pairwise_lt_range
 have h:=List.pairwise_iff_getElem.1 U i j (by omega) J I;rw[List.getD_eq_getElem?_getD,List.getD_eq_getElem?_getD,List.getElem?_eq_getElem J,List.getElem?_eq_getElem (show i<_ by omega)];exact h
theorem S6 {n a b:Nat} (Y:0<n):Nz ((a / n:Nat):Int) ((a % n:Nat):Int) ((b / n:Nat):Int) ((b % n:Nat):Int)<0↔a<b:=by
 have h1:=Nat.div_add_mod a n;have h2:=Nat.div_add_mod b n;have h3:=Nat.mod_lt a Y;have h4:=Nat.mod_lt b Y;obtain⟨u,Z⟩:∃u,a / n=u:=⟨_,rfl⟩
 obtain⟨v,V⟩:∃v,a % n=v:=⟨_,rfl⟩
 obtain⟨J,O⟩:∃u,b / n=u:=⟨_,rfl⟩
 obtain⟨v',I⟩:∃v,b % n=v:=⟨_,rfl⟩
 rw[Z,V]at h1;rw[V]at h3;rw[O,I]at h2;rw[I]at h4;rw[Z,V,O,I];unfold Nz lM Rs;rcases Nat.lt_trichotomy u J with h|h|h
 ·have U:n*(u+1)<=n*J:=Nat.mul_le_mul_left n h
  rw[Nat.mul_add,Nat.mul_one]at U;rw[if_pos (show(u:Int)<J by omega),if_neg (by decide)];constructor
  ·intro _;omega
  ·intro _;decide
 ·subst h
  rw[if_neg (show ¬(u:Int)<u by omega),if_neg (show ¬(u:Int)<u by omega),if_pos rfl];split
  ·constructor
   ·intro _;omega
   ·intro _;decide
  ·split
   ·constructor
    ·intro h;omega
    ·intro _;omega
   ·constructor
    ·intro h;omega
    ·intro _;omega
 ·have U:n*(J+1)<=n*u:=Nat.mul_le_mul_left n h
  rw[Nat.mul_add,Nat.mul_one]at U;rw[if_neg (show ¬(u:Int)<J by omega),if_pos (show(J:Int)<u by omega),if_neg (by decide)];constructor
  ·intro h;omega
  ·intro _;omega
theorem Xp (n p a u v g cap:Nat) (L:List Nat) (w:World) (h0:0<n) (_hn:n<=120) (gP:L.length<=14400) (cA:∀i j,i<j->j<L.length->L.getD i 0<L.getD j 0) (hp:p<L.length) (ha:L.getD p 0=a) (hu:a / n=u) (hv:a % n=v)
  (bA:∀i x u,L[i]?=some x->∀k,(Oq n x)[k]?=some u->k<3->w.cell? ⟨g,i*3+k,none⟩=some u):
  Calls prog 193 #[.slice (some ⟨g,0,none⟩) L.length cap,.agg #[.int .i64 (u:Int),.int .i64 (v:Int),.int .i64 1],.func (.func 194) #[] #[]] w λe w'=>(∃b,e=.returned (.tuple #[.int .i64 p,.bool b]))/\Below w.heap.size w w':=by
 have HC:=Kh (λu v t u' v' t' w=>Sv u v t u' v' t' w);obtain⟨N,hN⟩:∃N,L.length=N:=⟨_,rfl⟩
 have hZ:=Kh (show L[p]?=some a by rw[<-ha,List.getD_eq_getElem?_getD,List.getElem?_eq_getElem hp];rfl)
 have cF:=Kh (λ(h:Nat) (hh:h<N)=>(show ∃b x y:Nat,L[h]?=some b/\b / n=x/\b % n=y/\(Nz x y u v<0↔h<p)from by
  have h1:h<L.length:=by omega
  refine⟨L[h],_,_,List.getElem?_eq_getElem h1,rfl,rfl,?_⟩;have h2:=S6 (a:=L[h]) (b:=a) h0;rw[hu,hv]at h2;have h3:L.getD h 0=L[h]:=by rw[List.getD_eq_getElem?_getD,List.getElem?_eq_getElem h1];rfl
  rw[h2];constructor
  ·intro h4
   rcases Nat.lt_or_ge h p with h5|h5
   ·exact h5
   ·rcases Nat.lt_or_ge p h with h6|h6
    ·have h7:=cA p h h6 h1
     omega
    ·obtain rfl:h=p:=by omega
     omega
  ·intro h4
   have h7:=cA h p h4 hp;omega))
 have cG:=Kh (λ(h b x y:Nat) (W:World) (I:Below w.heap.size w W) (h1:L[h]?=some b) (h2:b / n=x) (h3:b % n=y)=>(show W.cell? ⟨g,h*3,none⟩=some (.int .i64 (x:Int))/\W.cell? ⟨g,h*3+1,none⟩=some (.int .i64 (y:Int))/\W.cell? ⟨g,h*3+2,none⟩=some (.int .i64 1)from by
  subst h2 h3;exact⟨Aq I (bA h b _ h1 0 rfl (by decide)),Aq I (bA h b _ h1 1 rfl (by decide)),Aq I (bA h b _ h1 2 rfl (by decide))⟩))
 have iL:=Kh (And.intro hu hv);rw[hN]at gP hp ⊢;clear cA bA ha hN hu hv;go_enter func193,ntmps193
 go_wp2_with fail
 obtain⟨w1,cB,X,dC⟩:=bx1 w #[.int .i64 (u:Int),.int .i64 (v:Int),.int .i64 1] 213;rw[cB];obtain⟨gb,bB⟩:∃x,w.heap.size=x:=⟨_,rfl⟩
 rw[bB]at X;try rw[bB]
 have HX:=Kh X;have gL:=Kh dC;have hX:=Kh bB;clear cB X dC bB;go_loopw [9,10] (λvi vj wr=>∃i j:Nat,vi=.int .i64 i/\vj=.int .i64 j/\i<=p/\p<=j/\j<=N/\Below w1.heap.size w1 wr) (λvi vj _=>(intOf vj).toNat - (intOf vi).toNat)
 case atStart=>exact⟨0,N,rfl,rfl,Nat.zero_le _,Nat.le_of_lt hp,nR _,Below.refl _ _⟩
 case round=>
  obtain⟨i,j,rfl,rfl,hi,hj,gU,I⟩:=hrel;have bY:=Kh (bk HX I);have Y:=bt gL I;have Z:=Kh I;clear I;have r0:=bY.1.at_ 0 rfl;have r1:=bY.1.at_ 1 rfl;have r2:=bY.1.at_ 2 rfl;by_cases hlt:i<j
  ·obtain⟨h,hh⟩:∃h,(i+j) / 2=h:=⟨_,rfl⟩
   have mE:i<=h:=by omega
   have nA:h<j:=by omega
   have nD:(i:Int)<j:=by omega
   have cB:IntKind.i64.wrap ((i:Int)+j)=((i+j:Nat):Int):=by rw[<-Int.natCast_add];exact IntWalk.i64_in _ (by omega)
   obtain⟨b,x,y,U,hx,hy,J⟩:=cF.1 h (by omega);obtain⟨l0,l1,l2⟩:=cG.1 h b x y wr Y.1 U hx hy;have mD:(h:Int)<(N:Int):=by omega
   have cT:=Kh J;have HH:=Kh hh;clear U hx hy J hh;have gN:=Kh (show((i:Int)+j) / 2=(h:Int)by have:=HH.1;omega);go_upto_region 5 with(fail)
   rw[gN.1];obtain⟨z,hz⟩:∃z,Nz x y u v=z:=⟨_,rfl⟩
   have bC:=Kh (λW=>(by rw[<-hz];exact HC.1 x y 1 u v 1 W:Calls prog 194 #[.agg #[.int .i64 (x:Int),.int .i64 (y:Int),.int .i64 1],.agg #[.int .i64 (u:Int),.int .i64 (v:Int),.int .i64 1]] W λe w'=>e=.returned (.int .i64 z)/\Below W.heap.size W w'));have cX:=Kh (show z<0↔h<p by rw[<-hz];exact cT.1);clear hz cT HC;refine J2 (λW=>W.cell? ⟨g,h*3,none⟩=some (.int .i64 (x:Int))/\W.cell? ⟨g,h*3+1,none⟩=some (.int .i64 (y:Int))/\W.cell? ⟨g,h*3+2,none⟩=some (.int .i64 1)/\W.cell? ⟨gb,0,none⟩=some (.int .i64 (u:Int))/\W.cell? ⟨gb,1,none⟩=some (.int .i64 (v:Int))/\W.cell? ⟨gb,2,none⟩=some (.int .i64 1)) (λW I=>⟨Aq I l0,Aq I l1,Aq I l2,Aq I r0,Aq I r1,Aq I r2⟩) (λbE hHeld0=>?_);refine Aj 0 ?_;refine Aj 1 ?_;refine Aj 2 ?_;refine Aj 3 ?_;refine Aj 4 ?_;refine Aj 5 ?_;refine G6 6 rfl (λK hK=>?_);focus(go_simp;refine(bC.1 _).mono ?_;rintro e wz ⟨rfl,V⟩;have O:=Kh ((Below.refl _ wr).drew.trans V);clear V;(first|with_reducible refine hK.out _ _ ?_ (λhHeld1=>?_) |(go_wp2_with fail;with_reducible refine hK.out _ _ ?_ (λhHeld1=>?_))))
   focus((try dsimp only);exact bE.1 _ O.1)
   focus(clear hK K;(try simp only[Act.put,Bo,Bt,Bp]))
   refine Js 7 rfl (λK hK=>?_);go_simp
   refine hK.out _ _ ?_;clear hK K
   (try simp only[Act.put,Bo,Bt,Bp])
   by_cases hhp:h<p
   ·have hE:z<0:=cX.1.2 hhp
    go_wp2;go_roundw
    case rel=>exact⟨h+1,j,by go_num,rfl,hhp,hj,gU,Z.1.trans (O.1.mono Z.1.size)⟩
    case measure=>simp[intOf];omega
   ·have hE:¬z<0:=λh1=>hhp (cX.1.1 h1)
    go_wp2;go_roundw
    case rel=>exact⟨i,h,rfl,rfl,hi,by omega,by omega,Z.1.trans (O.1.mono Z.1.size)⟩
    case measure=>simp[intOf];omega
  ·obtain rfl:i=p:=by omega
   obtain rfl:i=j:=by omega
   obtain⟨b,x,y,U,hx,hy,J⟩:=cF.1 i (by omega);obtain⟨l0,l1,l2⟩:=cG.1 i b x y wr Y.1 U hx hy;obtain⟨z,hz⟩:∃z,Nz x y u v=z:=⟨_,rfl⟩
   have bC:=Kh (λW=>(by rw[<-hz];exact HC.1 x y 1 u v 1 W:Calls prog 194 #[.agg #[.int .i64 (x:Int),.int .i64 (y:Int),.int .i64 1],.agg #[.int .i64 (u:Int),.int .i64 (v:Int),.int .i64 1]] W λe w'=>e=.returned (.int .i64 z)/\Below W.heap.size W w'));have nC:(i:Int)<(N:Int):=by omega
   clear U hx hy J hz HC;go_upto_region 8 with(fail)
   refine J2 (λW=>W.cell? ⟨g,i*3,none⟩=some (.int .i64 (x:Int))/\W.cell? ⟨g,i*3+1,none⟩=some (.int .i64 (y:Int))/\W.cell? ⟨g,i*3+2,none⟩=some (.int .i64 1)/\W.cell? ⟨gb,0,none⟩=some (.int .i64 (u:Int))/\W.cell? ⟨gb,1,none⟩=some (.int .i64 (v:Int))/\W.cell? ⟨gb,2,none⟩=some (.int .i64 1)) (λW I=>⟨Aq I l0,Aq I l1,Aq I l2,Aq I r0,Aq I r1,Aq I r2⟩) (λbE hHeld0=>?_);refine Aj 0 ?_;refine Aj 1 ?_;refine Aj 2 ?_;refine Aj 3 ?_;refine Aj 4 ?_;refine Aj 5 ?_;refine Aj 6 ?_;refine Aj 7 ?_;refine Aj 8 ?_;refine Aj 9 ?_;refine Aj 10 ?_;refine G6 11 rfl (λK hK=>?_);focus(go_simp;refine(bC.1 _).mono ?_;rintro e wz ⟨rfl,V⟩;have O:=Kh ((Below.refl _ wr).drew.trans V);clear V;(first|with_reducible refine hK.out _ _ ?_ (λhHeld1=>?_) |(go_wp2_with fail;with_reducible refine hK.out _ _ ?_ (λhHeld1=>?_))))
   focus((try dsimp only);exact bE.1 _ O.1)
   focus(clear hK K;(try simp only[Act.put,Bo,Bt,Bp]))
   refine Aj 12 ?_;refine Aj 13 ?_;refine Aj 14 ?_;refine Js 15 rfl (λK hK=>?_);go_simp
   refine hK.out _ _ ?_;clear hK K
   (try simp only[Act.put,Bo,Bt,Bp])
   go_wp2;go_ret2
   exact⟨⟨_,rfl⟩,Y.1.trans (O.1.mono Y.1.size)⟩
theorem gD (n p a u v:Nat) (w:World) (h0:0<n) (hn:n<=120) (hp:p<(pts n (n*n)).length) (ha:(pts n (n*n)).getD p 0=a) (hu:a / n=u) (hv:a % n=v):
  Calls prog 155 #[.int .i64 n,.agg #[.int .i64 (u:Int),.int .i64 (v:Int),.int .i64 1]] w λe w'=>e=.returned (.int .i64 p)/\Below w.heap.size w w':=by
 have HS:=Kh (λg cap W I=>Xp n p a u v g cap (pts n (n*n)) W h0 hn (nS (Cj n (n*n)) (Nat.mul_le_mul hn hn)) (λi j h1 h2=>iO h0 h1 h2) hp ha hu hv I);have J:=Kh (λW=>Ns n W h0 hn);have cD:0<(pts n (n*n)).length:=by omega
 obtain⟨L,hL⟩:∃L,pts n (n*n)=L:=⟨_,rfl⟩
 rw[hL]at HS J cD;clear hp ha hu hv hL;go_enter func155,ntmps155
 go_wp2_with fail
 obtain⟨w1,bA,X,Z⟩:=bx1 w #[.int .i64 (u:Int),.int .i64 (v:Int),.int .i64 1] 213;rw[bA];obtain⟨gb,V⟩:∃x,w.heap.size=x:=⟨_,rfl⟩
 rw[V]at X;try rw[V]
 have HX:=Kh X;have Y:=Kh Z;clear bA X Z V;refine(J.1 w1).mono ?_;rintro e w2 ⟨⟨vl,rfl,aX⟩,U⟩;obtain⟨g,cap,rfl,_,_,_,gA,_,I,_⟩:=H8 aX (by omega);have bY:=Kh (λW (hb:Below w2.heap.size w2 W)=>HS.1 g cap W (λi x z hi k h1 h2=>(Aq hb (I _ _ (by rw[Ep hi h2];exact h1)))));have O:=Kh (bk HX U);have bB:=bt Y U;clear aX I U HS HX Y J;have r0:=O.1.at_ 0 rfl;have r1:=O.1.at_ 1 rfl;have r2:=O.1.at_ 2 rfl;go_wp2_with fail
 refine(bY.1 w2 (Below.refl _ _)).mono ?_;rintro e w3 ⟨⟨b,rfl⟩,h⟩;have bC:=bt bB h;clear h;go_wp2;go_ret;exact⟨rfl,bC.1⟩
theorem eZ (x:Int) (w:World) (I:-1073741824<=x) (J:x<=1073741824):Calls prog 190 #[.int .i64 x] w λe w'=>e=.returned (.bool true)/\w'=w:=by
 go_enter func190,ntmps190
 go_wp2;go_ret;exact⟨rfl,rfl⟩
theorem Xd (x m:Nat) (w:World) (h:x<m) (_hm:m<=1000):Calls prog 192 #[.int .i64 x,.int .i64 m] w λe w'=>e=.returned (.int .i64 x)/\w'=w:=by
 have J:(x:Int).tmod (m:Int)=(x:Int):=by rw[Int.tmod_eq_of_lt (by omega) (by omega)]
 have I:(m:Int)≠0:=by omega
 go_enter func192,ntmps192
 go_wp2;go_ret;exact⟨rfl,rfl⟩
theorem Xb (n a u v:Nat) (w:World) (h0:0<n) (hn:n<=120) (ha:Fi n a=true) (hu:a / n=u) (hv:a % n=v) (gL:a<n*n):
  Calls prog 191 #[.int .i64 n,.int .i64 u,.int .i64 v] w λe w'=>e=.returned (.agg #[.int .i64 (u:Int),.int .i64 (v:Int),.int .i64 1])/\Below w.heap.size w w':=by
 have HC:=Kh (λu v t u' v' t' w=>Sv u v t u' v' t' w)
 have hW:=Kh (λ(s:Nat) (h1:1<=s) (h2:s<n) (h3:Nat.gcd s n=1)=>(show ¬Nz ((s*u % n:Nat):Int) ((s*v % n:Nat):Int) u v<0 from λh=>by
  have h4:=Cz.1 ha s h1 (by omega) (by simp[pun,h3]);have h5:=(S6 (a:=Az n s a) (b:=a) h0)
  rw[Dn h0,Dp,hu,hv]at h5;have h6:=h5.1 h;omega))
 have oV:u<n:=by rw[<-hu];exact Nat.div_lt_of_lt_mul gL
 have oW:v<n:=by rw[<-hv];exact Nat.mod_lt _ h0
 have hV:=Kh (λW=>Ir 1 n W h0 (by omega) (by simp));have oS:(n:Int)≠0:=by omega
 clear ha hu hv gL;go_enter func191,ntmps191
 go_upto_region 2 with(fail)
 obtain⟨w1,hD,X,Y,gN⟩:=bx2 w #[.int .i64 0,.int .i64 0,.int .i64 0] 213 #[.int .i64 (u:Int),.int .i64 (v:Int),.int .i64 0] 213;rw[hD];obtain⟨gr,cC⟩:∃x,w.heap.size=x:=⟨_,rfl⟩
 obtain⟨gl,cB⟩:∃x,w.heap.size+1=x:=⟨_,rfl⟩
 rw[cB]at Y;rw[cC]at X;try rw[cB]
 try rw[cC]
 have HX:=Kh X;have HY:=Kh Y;have hO:=Kh gN;have I:=Kh (show w.heap.size<=gr/\w.heap.size<=gl/\gr≠gl by omega);clear hD X Y gN cB cC;go_wp2_with fail
 go_loopw [8,9] (λvb vs wr=>∃s:Nat,vb=.int .i64 1/\vs=.int .i64 s/\2<=s/\s<=n+2/\Below w1.heap.size w1 wr) (λ_ vs _=>n+2 - (intOf vs).toNat)
 case atStart=>exact⟨2,rfl,rfl,by omega,by omega,Below.refl _ _⟩
 case round=>
  obtain⟨s,rfl,rfl,oT,oU,hb⟩:=hrel;obtain⟨w3,rfl⟩:∃w3:World,w3=wr:=⟨_,rfl⟩
  have dC:=Kh (bk HX hb);have dE:=Kh (bk HY hb);have hP:=bt hO hb;have hS:=Kh hb;clear hb;by_cases hlt:s<n
  ·have gU:(s:Int)<n:=by omega
   obtain⟨g,hg⟩:∃g,Nat.gcd s n=g:=⟨_,rfl⟩
   have HG:=Kh (show((Int.gcd (s:Int) (n:Int):Nat):Int)=g by rw[Int.gcd_natCast_natCast,hg]);have hU:=Kh hg;clear hg;go_wp2_with fail
   refine(Em (s:Int) (n:Int) w3 (by omega) (by omega) (by omega) (by omega)).mono ?_;rw[HG.1];rintro e Z ⟨rfl,nd,hB⟩;have J:Below w3.heap.size w3 Z:=by rw[hB];exact Aa (Below.refl _ _) nd
   have aX:=bt hS J;have oL:=Kh (bk dC J);have dY:=Kh (bk dE J);clear hB J;by_cases hg1:g=1
   ·subst hg1
    have cT:=Kh (hW.1 s (by omega) hlt hU.1);obtain⟨x,hx⟩:∃x,s*u % n=x:=⟨_,rfl⟩
    obtain⟨y,hy⟩:∃y,s*v % n=y:=⟨_,rfl⟩
    have mC:s*u<=120*120:=Nat.mul_le_mul (by omega) (by omega);have mD:s*v<=120*120:=Nat.mul_le_mul (by omega) (by omega);obtain⟨su,O⟩:∃x,s*u=x:=⟨_,rfl⟩
    obtain⟨sv,U⟩:∃x,s*v=x:=⟨_,rfl⟩
    rw[O]at mC hx;rw[U]at mD hy;have m1:IntKind.i64.wrap ((s:Int)*(u:Int))=(su:Int):=by rw[show(s:Int)*(u:Int)=(su:Int)by rw[<-O];push_cast;rfl];exact IntWalk.i64_in _ (by omega)
    have m2:IntKind.i64.wrap ((s:Int)*(v:Int))=(sv:Int):=by rw[show(s:Int)*(v:Int)=(sv:Int)by rw[<-U];push_cast;rfl];exact IntWalk.i64_in _ (by omega)
    have m3:(su:Int).tmod (n:Int)=(x:Int):=by rw[Int.tmod_eq_emod_of_nonneg (by omega),<-hx];push_cast;rfl
    have m4:(sv:Int).tmod (n:Int)=(y:Int):=by rw[Int.tmod_eq_emod_of_nonneg (by omega),<-hy];push_cast;rfl
    obtain⟨z,hz⟩:∃z,Nz x y u v=z:=⟨_,rfl⟩
    rw[O,U,hx,hy,hz]at cT;have hT:=Kh (λW=>(by rw[<-hz];exact HC.1 x y 0 u v 0 W:Calls prog 194 #[.agg #[.int .i64 (x:Int),.int .i64 (y:Int),.int .i64 0],.agg #[.int .i64 (u:Int),.int .i64 (v:Int),.int .i64 0]] W λe w'=>e=.returned (.int .i64 z)/\Below W.heap.size W w'));have oG:n≠0:=by omega
    clear O U hx hy hz;have y0:=dY.1.at_ 0 rfl;go_upto_region 6 with(fail)
    refine J2 (λW=>W.cell? ⟨gl,0,none⟩=some (.int .i64 (u:Int))) (λW hb=>Aq hb y0) (λcX hHeld0=>?_);refine Aj 0 ?_;refine Aj 1 ?_;refine Aj 2 ?_;refine Aj 3 ?_;refine Aj 4 ?_;refine Aj 5 ?_;refine Aj 6 ?_;refine Aj 7 ?_;refine Aj 8 ?_;refine Aj 9 ?_;refine Aj 10 ?_;refine G6 11 rfl (λK hK=>?_);focus(go_simp;refine hK.out _ _ ?_ (λhHeld1=>?_))
    focus((try dsimp only);exact cX.1 _ ((Below.refl _ Z).drew.alloc (nR _) _))
    focus(clear hK K;(try simp only[Act.put,Bo,Bt,Bp]))
    refine Js 12 rfl (λK hK=>?_);go_simp
    refine hK.out _ _ ?_;clear hK K
    (try simp only[Act.put,Bo,Bt,Bp])
    obtain⟨X5,bY⟩:=Gy Z #[.int .i64 x,.int .i64 y,.int .i64 0] 213;obtain⟨w5,cF⟩:∃w5,(Z.alloc (.cells #[.int .i64 x,.int .i64 y,.int .i64 0] 213)).drew=w5:=⟨_,rfl⟩
    have cA:Below (Z.alloc (.cells #[.int .i64 x,.int .i64 y,.int .i64 0] 213)).heap.size (Z.alloc (.cells #[.int .i64 x,.int .i64 y,.int .i64 0] 213)) w5:=cF▸(Below.refl _ _).drew;have X6:=X5.below_ cA X5.lt;have V:Below Z.heap.size Z w5:=bY.trans (cA.mono bY.size);rw[cF];obtain⟨g5,gP⟩:∃g5,Z.heap.size=g5:=⟨_,rfl⟩
    rw[gP]at X6 ⊢;have hQ:=bt aX V;have Y5:=bk dY V;have x0:=X6.at_ 0 rfl;have x1:=X6.at_ 1 rfl;have x2:=X6.at_ 2 rfl;have nX:=Y5.at_ 0 rfl;have nY:=Y5.at_ 1 rfl;have nZ:=Y5.at_ 2 rfl;clear X5 bY cA cF V X6 Y5 gP y0 cX hHeld0;go_wp2_with fail
    refine(hT.1 w5).mono ?_;rintro e w6 ⟨rfl,V⟩;have hR:=bt hQ V;have oX:¬z<0:=Int.not_lt.2 cT.1;have mB:IntKind.i64.wrap ((s:Int)+1)=((s+1:Nat):Int):=by rw[show(s:Int)+1=((s+1:Nat):Int)by push_cast;rfl];exact IntWalk.i64_in _ (by omega)
    clear V x0 x1 x2 nX nY nZ;go_wp2;go_roundw
    case rel=>exact⟨s+1,rfl,by go_num,by omega,by omega,hR.1⟩
    case measure=>simp[intOf];omega
   ·have oP:((g:Int) != 1)=true:=by rw[bne_iff_ne];omega
    have mB:IntKind.i64.wrap ((s:Int)+1)=((s+1:Nat):Int):=by rw[show(s:Int)+1=((s+1:Nat):Int)by push_cast;rfl];exact IntWalk.i64_in _ (by omega)
    go_wp2;go_roundw
    case rel=>exact⟨s+1,rfl,by go_num,by omega,by omega,aX.1⟩
    case measure=>simp[intOf];omega
  ·have gU:¬(s:Int)<n:=by omega
   go_wp2_with fail
   refine(hV.1 w3).mono ?_;rintro e Z ⟨⟨k,rfl,oQ,hk⟩,J⟩
   have gS:n≠1->k=1:=λcD=>by
    obtain⟨q,hq⟩:=hk;rcases Int.lt_trichotomy q 0 with h|h|h
    ·have h2:(n:Int)*q<=n*(-1):=Int.mul_le_mul_of_nonneg_left (by omega) (by omega)
     omega
    ·rw[h,Int.mul_zero]at hq;omega
    ·have h2:(n:Int)*1<=n*q:=Int.mul_le_mul_of_nonneg_left (by omega) (by omega)
     omega
   have X4:=bk dC J;have Y4:=bk dE J;have aX:=bt hP J;have x0:=X4.at_ 0 rfl;have x1:=X4.at_ 1 rfl;have x2:=X4.at_ 2 rfl;have y0:=Y4.at_ 0 rfl;have y1:=Y4.at_ 1 rfl;have y2:=Y4.at_ 2 rfl;have f0:=X4.free_ 0;have f1:=X4.free_ 1;have f2:=X4.free_ 2;have k2:=Y4.free_ 2;have mA:=I.1.2.2;have oE:gl≠gr:=λh=>mA h.symm
   have lx:=X4.lt;have ly:=Y4.lt;clear hk J;by_cases cD:n=1
   ·subst cD
    clear gS;go_wp2;have bA:=Kh (A9 (w:=((Z.setCell ⟨gl,2,none⟩ (.int .i64 (k:Int))).setCell ⟨gl,2,none⟩ (.int .i64 1))) (R:=gr) (v0:=.int .i64 (u:Int)) (v1:=.int .i64 (v:Int)) (v2:=.int .i64 1) (Ai (Ai (by rw[x0];rfl))) (Ai (Ai (by rw[x1];rfl))) (Ai (Ai (by rw[x2];rfl))));obtain⟨e0,e1,e2⟩:=bA.1;try simp only[Exit.inBlock,Exit.then]
    refine bodyPost_ret (by simp[results,results191,go_sem,e0,e1,e2];try rfl) rfl ?_;exact⟨rfl,((((aX.1.setCell I.1.2.1 _).setCell I.1.2.1 _).setCell I.1.1 _).setCell I.1.1 _).setCell I.1.1 _⟩
   ·obtain rfl:=gS cD
    have oR:((n:Int)==1)=false:=beq_eq_false_iff_ne.2 (by omega);go_wp2;have bA:=Kh (A9 (w:=(Z.setCell ⟨gl,2,none⟩ (.int .i64 1))) (R:=gr) (v0:=.int .i64 (u:Int)) (v1:=.int .i64 (v:Int)) (v2:=.int .i64 1) (Ai (by rw[x0];rfl)) (Ai (by rw[x1];rfl)) (Ai (by rw[x2];rfl)));obtain⟨e0,e1,e2⟩:=bA.1;try simp only[Exit.inBlock,Exit.then]
    refine bodyPost_ret (by simp[results,results191,go_sem,e0,e1,e2];try rfl) rfl ?_;exact⟨rfl,(((aX.1.setCell I.1.2.1 _).setCell I.1.1 _).setCell I.1.1 _).setCell I.1.1 _⟩
theorem Uq (n p a u v:Nat) (w:World) (h0:0<n) (hn:n<=120) (hp:p<(pts n (n*n)).length) (ha:(pts n (n*n)).getD p 0=a) (hu:a / n=u) (hv:a % n=v):
  Calls prog 154 #[.int .i64 n,.int .i64 u,.int .i64 v] w λe w'=>e=.returned (.tuple #[.agg #[.int .i64 (u:Int),.int .i64 (v:Int),.int .i64 1],.int .i64 0])/\Below w.heap.size w w':=by
 have hm:=Ax hp;rw[ha]at hm;have U:=Jz (I4 hm).1;have Z:=Fk hm;have hf:=hm;rw[Ci h0 _ (nR _),List.mem_filter]at hf;simp only[Bool.and_eq_true]at hf;have eP:=Kh (λW=>Xb n a u v W h0 hn hf.2.2 hu hv Z);have gL:u<n:=by rw[<-hu];exact Nat.div_lt_of_lt_mul Z
 have gN:v<n:=by rw[<-hv];exact Nat.mod_lt _ h0
 rw[hu,hv]at U;obtain⟨g,hg⟩:∃g,Nat.gcd u v=g:=⟨_,rfl⟩
 rw[hg]at U;have HG:=Kh (show((Int.gcd (u:Int) (v:Int):Nat):Int)=g by rw[Int.gcd_natCast_natCast,hg]);have dY:=Kh (show((Int.gcd (g:Int) (n:Int):Nat):Int)=1 by rw[Int.gcd_natCast_natCast,U];rfl)
 have hH:g<=120:=by
  rcases Nat.eq_zero_or_pos u with h|h
  ·rw[h,Nat.gcd_zero_left]at hg;omega
  ·have:=Nat.gcd_le_left v h;omega
 clear hm U Z hf hp ha hu hv hg;go_enter func154,ntmps154
 go_wp2_with fail
 obtain⟨w0,cC,X,bY⟩:=bx1 w #[.int .i64 0,.int .i64 0,.int .i64 0] 213;rw[cC];obtain⟨gr,aX⟩:∃x,w.heap.size=x:=⟨_,rfl⟩
 rw[aX]at X;try rw[aX]
 have gA:=Kh X;have cX:=Kh bY;have Y:=Kh (show w.heap.size<=gr by omega);clear cC X bY aX;refine(Sw n w0 (by omega) (by omega)).mono ?_;rintro e w' ⟨rfl,I⟩;obtain rfl:w0=w':=I.symm;go_wp2_with fail
 refine(eZ u w0 (by omega) (by omega)).mono ?_;rintro e w' ⟨rfl,I⟩;obtain rfl:w0=w':=I.symm;go_wp2_with fail
 refine(eZ v w0 (by omega) (by omega)).mono ?_;rintro e w' ⟨rfl,I⟩;obtain rfl:w0=w':=I.symm;go_wp2_with fail
 refine(Em (u:Int) (v:Int) w0 (by omega) (by omega) (by omega) (by omega)).mono ?_;rw[HG.1];rintro e w1 ⟨rfl,nd,O⟩;have bB:=Kh (show Below w0.heap.size w0 w1 by rw[O];exact Aa (Below.refl _ _) nd);clear O;go_wp2_with fail
 refine(Em (g:Int) (n:Int) w1 (by omega) (by omega) (by omega) (by omega)).mono ?_;rw[dY.1];rintro e w2 ⟨rfl,gP,O⟩;have bC:=Kh (bB.1.trans ((show Below w1.heap.size w1 w2 by rw[O];exact Aa (Below.refl _ _) gP).mono bB.1.size));clear O;go_wp2_with fail
 refine(Xd u n w2 gL (by omega)).mono ?_;rintro e w' ⟨rfl,I⟩;obtain rfl:w2=w':=I.symm;go_wp2_with fail
 refine(Xd v n w2 gN (by omega)).mono ?_;rintro e w' ⟨rfl,I⟩;obtain rfl:w2=w':=I.symm;go_wp2_with fail
 refine(eP.1 w2).mono ?_;rintro e w3 ⟨rfl,cA⟩;have J:=bC.1.trans (cA.mono bC.1.size);have V:=bk gA J;have dC:=bt cX J;have x0:=V.at_ 0 rfl;have x1:=V.at_ 1 rfl;have x2:=V.at_ 2 rfl;have f0:=V.free_ 0;have f1:=V.free_ 1;have f2:=V.free_ 2;have lx:=V.lt;clear cA J V;go_wp2;have dE:=Kh (A9 (w:=w3) (R:=gr) (v0:=.int .i64 (u:Int)) (v1:=.int .i64 (v:Int)) (v2:=.int .i64 1) (by rw[x0];rfl) (by rw[x1];rfl) (by rw[x2];rfl));obtain⟨e0,e1,e2⟩:=dE.1;try simp only[Exit.inBlock,Exit.then]
 refine bodyPost_ret (by simp[results,results154,go_sem,e0,e1,e2];try rfl) rfl ?_;exact⟨rfl,((dC.1.setCell (p:=⟨gr,0,none⟩) Y.1 _).setCell (p:=⟨gr,1,none⟩) Y.1 _).setCell (p:=⟨gr,2,none⟩) Y.1 _⟩
theorem bM (n p a u v:Nat) (w:World) (h0:0<n) (hn:n<=120) (hp:p<(pts n (n*n)).length) (ha:(pts n (n*n)).getD p 0=a) (hu:a / n=u) (hv:a % n=v):
  Calls prog 108 #[.int .i64 n,.int .i64 u,.int .i64 v] w λe w'=>e=.returned (.tuple #[.int .i64 p,.int .i64 0])/\Below w.heap.size w w':=by
 have HN:=Kh (λW=>Uq n p a u v W h0 hn hp ha hu hv);have HF:=Kh (λW=>gD n p a u v W h0 hn hp ha hu hv);clear hp ha hu hv;go_enter func108,ntmps108
 go_wp2_with fail
 refine(HN.1 w).mono ?_;rintro e w1 ⟨rfl,J⟩;have Y:=Kh J;clear J;go_upto_region 2 with(fail)
 obtain⟨w2,V,X,O⟩:=bx1 w1 #[.int .i64 (u:Int),.int .i64 (v:Int),.int .i64 1] 213;rw[V];obtain⟨gr,I⟩:∃x,w1.heap.size=x:=⟨_,rfl⟩
 rw[I]at X;try rw[I]
 have Z:=bt Y O;have x0:=X.at_ 0 rfl;have x1:=X.at_ 1 rfl;have x2:=X.at_ 2 rfl;clear V X O I;go_wp2_with fail
 refine(HF.1 w2).mono ?_;rintro e w3 ⟨rfl,U⟩;have h:=bt Z U;clear U;go_wp2;go_ret2
 exact⟨rfl,h.1⟩
theorem fU (n wt:Nat) (D:Int) (j q t a u v:Nat) (w:World) (hT:Tab w) (cD:Pl.check n ((wt:Int)+2) D=0) (hj:j<(wt+1)*(pts n (n*n)).length) (hq:j % (pts n (n*n)).length=q) (ht:j / (pts n (n*n)).length=t) (ha:(pts n (n*n)).getD q 0=a) (hu:a / n=u) (hv:a % n=v):
  Calls prog 107 #[.agg #[.int .i64 n,.int .i64 ((wt:Int)+2),.int .i64 D],.int .i64 j] w λe w'=>e=.returned (.tuple #[.agg #[.int .i64 t,.int .i64 u,.int .i64 v],.int .i64 0])/\Below w.heap.size w w':=by
 obtain⟨h1,h2,h3,h4,h5,h6⟩:=Av cD;have Z:(pts n (n*n)).length<=14400:=nS (Cj n (n*n)) (by have:n*n<=120*120:=Nat.mul_le_mul (by omega) (by omega);omega);have bB:=Kh (λW (I:Below w.heap.size w W)=>Ha n wt D W (hT.below I) (by omega) (by omega) (by omega) (by omega) (by omega) cD);have hP:wt<=22:=by omega
 obtain⟨L,hL⟩:∃L,pts n (n*n)=L:=⟨_,rfl⟩
 rw[hL]at bB Z hj hq ht ha
 have U:0<L.length:=by
  rcases Nat.eq_zero_or_pos L.length with h|h
  ·rw[h,Nat.mul_zero]at hj;omega
  ·exact h
 have gL:q<L.length:=by rw[<-hq];exact Nat.mod_lt _ U
 have dE:=Kh (show L[q]?=some a by rw[<-ha,List.getD_eq_getElem?_getD,List.getElem?_eq_getElem gL];rfl);have bA:=Kh (λT B f W (h:WorldAt W T B n wt L f)=>Ko T B n wt L f W h hP Z)
 have dC:=Kh (λT B f W (h:WorldAt W T B n wt L f)=>(show ∃g cap,W.cell? ⟨T,2,none⟩=some (.slice (some ⟨g,0,none⟩) L.length cap)/\W.cell? ⟨g,q*3,none⟩=some (.int .i64 (u:Int))/\W.cell? ⟨g,q*3+1,none⟩=some (.int .i64 (v:Int))/\W.cell? ⟨g,q*3+2,none⟩=some (.int .i64 1)from by
  obtain⟨p,c,e2,hp⟩:=h.c2;rcases hp with⟨e,_⟩ |⟨g,cap,e,_,hc⟩
  ·rw[e]at U;exact absurd U (by simp)
  ·injection e with e1 e2' e3
   subst e1;obtain⟨b1,b2,b3⟩:=hc q a dE.1;rw[hu]at b1;rw[hv]at b2;exact⟨g,c,e2,b1,b2,b3⟩))
 obtain⟨N,hN⟩:∃N,L.length=N:=⟨_,rfl⟩
 rw[hN]at Z hj hq ht U gL bA dC;obtain⟨C,hC⟩:∃C,(wt+1)*N=C:=⟨_,rfl⟩
 rw[hC]at hj bA;have oE:C<=23*14400:=by rw[<-hC];exact Nat.mul_le_mul (by omega) Z
 have oM:t<=331200:=by rw[<-ht];exact nS (Nat.div_le_self _ _) (by omega)
 have m1:(j:Int).tmod (N:Int)=(q:Int):=by rw[Int.tmod_eq_emod_of_nonneg (by omega),<-hq];push_cast;rfl
 have m2:(j:Int).tdiv (N:Int)=(t:Int):=by rw[Int.tdiv_eq_ediv_of_nonneg (by omega),<-ht];push_cast;rfl
 have m3:IntKind.i64.wrap (t:Int)=(t:Int):=IntWalk.i64_in _ (by omega);have oF:(N:Int)≠0:=by omega
 have oG:N≠0:=by omega
 have oI:¬(j:Int)<0:=by omega
 have oJ:¬(C:Int)<=(j:Int):=by omega
 have oL:(q:Int)<(N:Int):=by omega
 clear hT cD h1 h2 h3 h4 h5 h6 hL hN hC hq ht ha hu hv dE;go_enter func107,ntmps107
 go_wp2_with fail
 obtain⟨w0,gP,_,X,eP⟩:=bx2 w #[.int .i64 n,.int .i64 ((wt:Int)+2),.int .i64 D] 23 #[.int .i64 0,.int .i64 0,.int .i64 0] 180;rw[gP];obtain⟨J,cG⟩:∃x,w.heap.size+1=x:=⟨_,rfl⟩
 rw[cG]at X;try rw[cG]
 have HX:=Kh X;have aX:=Kh eP;have bC:=Kh (show w.heap.size<=J by omega);clear gP X eP cG;refine(bB.1 w0 aX.1).mono ?_;rintro e w1 ⟨⟨T,rfl,gS⟩,cB⟩;have dY:=Kh (bk HX cB);have cX:=bt aX cB;have bY:=Kh gS;clear gS cB HX aX bB;go_wp2_with fail
 refine(bA.1 T _ _ w1 bY.1).mono ?_;rintro e O ⟨rfl,nd,gF⟩;have V:Below w1.heap.size w1 O:=by rw[gF];exact Aa (Below.refl _ _) nd
 have hI:=Kh (bk dY V);have hG:=bt cX V;obtain⟨g,cap,t2,l0,l1,l2⟩:=dC.1 T _ _ O (bY.1.keep (nR _) V);clear gF V dY cX bY;go_upto_region 6 with(fail)
 refine J2 (λW=>W.cell? ⟨T,2,none⟩=some (.slice (some ⟨g,0,none⟩) N cap)/\W.cell? ⟨g,q*3,none⟩=some (.int .i64 (u:Int))/\W.cell? ⟨g,q*3+1,none⟩=some (.int .i64 (v:Int))/\W.cell? ⟨g,q*3+2,none⟩=some (.int .i64 1)) (λW I=>⟨Aq I t2,Aq I l0,Aq I l1,Aq I l2⟩) (λbE hHeld0=>?_);refine Aj 0 ?_;refine Aj 1 ?_;refine Aj 2 ?_;refine Aj 3 ?_;refine Aj 4 ?_;refine Aj 5 ?_;refine Aj 6 ?_;refine Aj 7 ?_;refine Aj 8 ?_;refine Aj 9 ?_;refine Aj 10 ?_;refine Aj 11 ?_;refine Aj 12 ?_;refine G6 13 rfl (λK hK=>?_);focus(go_simp;refine hK.out _ _ ?_ (λhHeld1=>?_))
 focus((try dsimp only);exact bE.1 _ ((Below.refl _ O).drew.alloc (nR _) _))
 focus(clear hK K;(try simp only[Act.put,Bo,Bt,Bp]))
 refine Js 14 rfl (λK hK=>?_);go_simp
 refine hK.out _ _ ?_;clear hK K
 (try simp only[Act.put,Bo,Bt,Bp])
 obtain⟨X3,cC⟩:=Gy O #[.int .i64 (u:Int),.int .i64 (v:Int),.int .i64 1] 213;obtain⟨w3,cT⟩:∃w3,(O.alloc (.cells #[.int .i64 (u:Int),.int .i64 (v:Int),.int .i64 1] 213)).drew=w3:=⟨_,rfl⟩
 have cF:Below (O.alloc (.cells #[.int .i64 (u:Int),.int .i64 (v:Int),.int .i64 1] 213)).heap.size (O.alloc (.cells #[.int .i64 (u:Int),.int .i64 (v:Int),.int .i64 1] 213)) w3:=cT▸(Below.refl _ _).drew;have X4:=X3.below_ cF X3.lt;have Y:Below O.heap.size O w3:=cC.trans (cF.mono cC.size);rw[cT];obtain⟨gp,gA⟩:∃x,O.heap.size=x:=⟨_,rfl⟩
 rw[gA]at X4 ⊢;have XR:=bk hI Y;have hH:=bt hG Y;have t2:=cell_next Y t2;have x0:=X4.at_ 0 rfl;have x1:=X4.at_ 1 rfl;have r0:=XR.at_ 0 rfl;have r1:=XR.at_ 1 rfl;have r2:=XR.at_ 2 rfl;have f0:=XR.free_ 0;have f1:=XR.free_ 1;have f2:=XR.free_ 2;clear X3 cC cT cF X4 Y gA XR l0 l1 l2 bE hHeld0 hHeld1;go_upto_region 7 with(fail)
 refine jC [13] (λW=>W.cell? ⟨T,2,none⟩=some (.slice (some ⟨g,0,none⟩) N cap)/\W.cell? ⟨gp,0,none⟩=some (.int .i64 (u:Int))/\W.cell? ⟨gp,1,none⟩=some (.int .i64 (v:Int))/\W.cell? ⟨J,0,none⟩=some (.int .i64 0)/\W.frozen? ⟨J,0,none⟩=false/\W.cell? ⟨J,1,none⟩=some (.int .i64 0)/\W.frozen? ⟨J,1,none⟩=false/\W.cell? ⟨J,2,none⟩=some (.int .i64 0)/\W.frozen? ⟨J,2,none⟩=false) (λW I=>⟨Aq I t2,Aq I x0,Aq I x1,Aq I r0,Ab I (by rw[r0];rfl) (f0),Aq I r1,Ab I (by rw[r1];rfl) (f1),Aq I r2,Ab I (by rw[r2];rfl) (f2)⟩) (λbE hHeld0=>?_);refine C8 0 ?_;refine C8 1 ?_;refine C8 2 ?_;refine C8 3 ?_;refine C8 4 ?_;refine C8 5 ?_;refine C8 6 ?_;refine C8 7 ?_;refine C8 8 ?_;refine C8 9 ?_;refine C8 10 ?_;refine C8 11 ?_;refine fG 12 rfl (λK hK=>?_);go_simp
 refine hK.out _ _ ?_;clear hK K
 (try simp only[Act.put,Bo,Bt,Bp])
 refine eH 13 ?_;refine fA ?_;go_wp2
 (try simp only[Exit.inBlock,Exit.then])
 exact bodyPost_ret (v:=.tuple #[.agg #[.int .i64 t,.int .i64 u,.int .i64 v],.int .i64 0]) (by rw[results_cell_tmp rfl];go_simp) rfl ⟨rfl,Aa (((hH.1.setCell (p:=⟨J,0,none⟩) bC.1 _).setCell (p:=⟨J,1,none⟩) bC.1 _).setCell (p:=⟨J,2,none⟩) bC.1 _) 1⟩
end Go.Proofs.YtenlbhlllgppmaaGreatDoor
