/- Contracts of the methods residue, at and count of manin's world. -/
import Derived.Test.YtenlbhlllgppmaaGreatDoorC21
import Derived.Deep.Upon
set_option linter.unusedSimpArgs false
set_option maxRecDepth 100000
set_option maxHeartbeats 8000000
namespace Go.Proofs.YtenlbhlllgppmaaGreatDoor
section
open Go.RowKit Tryz
theorem Hw (T B n wt:Nat) (L:List Nat) (f:Nat->Nat×Int) (x:Int) (w:World) (h:WorldAt w T B n wt L f) (J:0<n) (hn:n<=120):
  Calls prog 143 #[.pointer (some ⟨T,0,none⟩),.int .i64 x] w λe w'=>e=.returned (.int .i64 (x % (n:Int)))/\w'=w:=by
 have M:-(n:Int)<x.tmod n:=by have:=Int.lt_tmod_of_pos x (show(0:Int)<n by omega);omega
 have O:x.tmod n<n:=Int.tmod_lt_of_pos x (by omega);have E:=Kh (Dj x n (by omega));have c0:=h.c0;have I:(n:Int)≠0:=by omega
 clear h;go_enter func143,ntmps143
 go_wp2;all_goals (go_ret;refine⟨A5 ?_,rfl⟩;rw[<-E.1];first |(rw[if_pos (by omega)];done) |(rw[if_neg (by omega)];done))
theorem J0 (T B n wt:Nat) (L:List Nat) (f:Nat->Nat×Int) (w:World) (h:WorldAt w T B n wt L f) (M:wt<=22) (I:L.length<=14400):
  Calls prog 92 #[.pointer (some ⟨T,0,none⟩)] w λe w'=>e=.returned (.int .i64 (((wt+1)*L.length:Nat):Int))/\∃m,w'=w.drewN m:=by
 obtain⟨p,c,U,_⟩:=h.c2;have c1:=h.c1;obtain⟨P,E⟩:∃P,(wt+1)*L.length=P:=⟨_,rfl⟩
 have J:P<=331200:=by rw[<-E];exact Nat.mul_le_mul (by omega:wt+1<=23) I
 have O:((wt:Int)+1)*(L.length:Int)=(P:Nat):=by rw[<-E];push_cast;rfl
 rw[E];clear h E;go_enter func92,ntmps92
 go_wp2_with fail
 go_quiet (fail)
 go_wp2;go_ret;exact⟨rfl,_,rfl⟩
theorem eN (T B n wt:Nat) (L:List Nat) (f:Nat->Nat×Int) (x y:Int) (w:World) (h:WorldAt w T B n wt L f) (hB:B<=w.heap.size) (h0:0<n) (hn:n<=120):
  Calls prog 144 #[.pointer (some ⟨T,0,none⟩),.int .i64 x,.int .i64 y] w λe w'=>e=.returned (.agg #[.int .i64 ((f ((x % n).toNat*n+(y % n).toNat)).1:Int),.int .i64 (f ((x % n).toNat*n+(y % n).toNat)).2])/\Below w.heap.size w w':=by
 obtain⟨M,V⟩:∃m,n*n=m:=⟨_,rfl⟩
 have gS:M<=14400:=by rw[<-V];exact Nat.mul_le_mul hn hn
 have eT:=Int.emod_nonneg x (show(n:Int)≠0 by omega);have eX:=Int.emod_lt_of_pos x (show(0:Int)<n by omega);have eY:=Int.emod_nonneg y (show(n:Int)≠0 by omega);have hv1:=Int.emod_lt_of_pos y (show(0:Int)<n by omega);obtain⟨u,hu⟩:∃u:Nat,x % (n:Int)=u:=⟨(x % n).toNat,by omega⟩
 obtain⟨v,hv⟩:∃v:Nat,y % (n:Int)=v:=⟨(y % n).toNat,by omega⟩
 rw[hu,hv,Int.toNat_natCast,Int.toNat_natCast];rw[hu]at eT eX;rw[hv]at eY hv1;obtain⟨UN,aD⟩:∃x,u*n=x:=⟨_,rfl⟩
 have e1:(u:Int)*(n:Int)=(UN:Nat):=by rw[<-aD];push_cast;rfl
 have cX:UN+v<M:=by
  rw[<-aD,<-V]
  calc u*n+v<u*n+n:=by omega
   _=(u+1)*n:=by rw[Nat.add_mul,Nat.one_mul]
   _<=n*n:=Nat.mul_le_mul_right _ (by omega)
 rw[aD];obtain⟨E,bE⟩:∃x,UN+v=x:=⟨_,rfl⟩
 rw[bE]at cX ⊢;have e2:(UN:Int)+(v:Int)=(E:Nat):=by omega
 have O:=Kh (λw' (hb:Below w.heap.size w w')=>Hw T B n wt L f x w' (h.keep hB hb) h0 hn);have U:=Kh (λw' (hb:Below w.heap.size w w')=>Hw T B n wt L f y w' (h.keep hB hb) h0 hn);rw[hu]at O;rw[hv]at U;obtain⟨J,e3,eF,h3⟩:=h.c3;rw[V]at e3 h3;have p0:=h3 (E*2) (by omega);have p1:=h3 (E*2+1) (by omega);have q0:plc f (E*2)=.int .i64 ((f E).1:Int):=by unfold plc;rw[if_pos (by omega),show E*2 / 2=E by omega]
 have q1:plc f (E*2+1)=.int .i64 (f E).2:=by unfold plc;rw[if_neg (by omega),show(E*2+1) / 2=E by omega]
 rw[q0]at p0;rw[q1]at p1;have t0:=h.c0;have t3:=e3;have dE:T<w.heap.size:=nN h.lt hB;have dY:J<w.heap.size:=nN eF hB;have i0:(0:Int)<=(E:Int):=by omega
 have i1:(E:Int)<(M:Int):=by omega
 have v1:IntKind.i64.wrap (UN:Int)=(UN:Nat):=IntWalk.i64_in _ (by omega);have v2:IntKind.i64.wrap (E:Int)=(E:Nat):=IntWalk.i64_in _ (by omega);clear hu hv aD bE h e3 h3 q0 q1 V;go_enter func144,ntmps144
 go_upto_region 1 with(fail)
 obtain⟨w0,aN⟩:∃w0,w.alloc (.cells #[.int .i64 0,.int .i64 0] 215)=w0:=⟨_,rfl⟩
 have I:Below w.heap.size w w0:=aN▸(Below.refl _ _).alloc (nL _) _;have X:=aN▸Blk.new w 215 #[.int .i64 0,.int .i64 0];rw[aN];obtain⟨R,hR⟩:∃R,w.heap.size=R:=⟨_,rfl⟩
 have t0:=Ad I t0;have t3:=Ad I t3;have p0:=Ad I p0;have p1:=Ad I p1;have O:=Kh (λw' (hb:Below w0.heap.size w0 w')=>O.1 w' (I.trans (hb.mono I.size)));have U:=Kh (λw' (hb:Below w0.heap.size w0 w')=>U.1 w' (I.trans (hb.mono I.size)));have Z:R≠T:=by omega
 have aK:R≠J:=by omega
 have bB:=Kh I;have cM:=Kh hR;rw[hR]at X bB ⊢;have eG:=O.1 w0.drew (Below.refl _ w0).drew;have eP:=U.1 w0.drew (Below.refl _ w0).drew;have bC:=Kh X;have r0:=X.at_ 0 rfl;have r1:=X.at_ 1 rfl;have f0:=X.free_ 0;have f1:=X.free_ 1;clear aN I dE dY hR X;have bY:w0.drew.cell? ⟨T,0,none⟩=some (.int .i64 (n:Int))/\w0.drew.cell? ⟨T,3,none⟩=some (.slice (some ⟨J,0,none⟩) M M)/\w0.drew.cell? ⟨J,E*2,none⟩=some (.int .i64 ((f E).1:Int))/\w0.drew.cell? ⟨J,E*2+1,none⟩=some (.int .i64 (f E).2):=⟨t0,t3,p0,p1⟩
 have cS:=Kh (show ∀(X:World) (v1 v2:Value),(X.cell? ⟨T,0,none⟩=some (.int .i64 (n:Int))/\X.cell? ⟨T,3,none⟩=some (.slice (some ⟨J,0,none⟩) M M)/\X.cell? ⟨J,E*2,none⟩=some (.int .i64 ((f E).1:Int))/\X.cell? ⟨J,E*2+1,none⟩=some (.int .i64 (f E).2))->(((X.setCell ⟨R,0,none⟩ v1).setCell ⟨R,1,none⟩ v2).cell? ⟨T,0,none⟩=some (.int .i64 (n:Int))/\((X.setCell ⟨R,0,none⟩ v1).setCell ⟨R,1,none⟩ v2).cell? ⟨T,3,none⟩=some (.slice (some ⟨J,0,none⟩) M M)/\((X.setCell ⟨R,0,none⟩ v1).setCell ⟨R,1,none⟩ v2).cell? ⟨J,E*2,none⟩=some (.int .i64 ((f E).1:Int))/\((X.setCell ⟨R,0,none⟩ v1).setCell ⟨R,1,none⟩ v2).cell? ⟨J,E*2+1,none⟩=some (.int .i64 (f E).2))from λX v1 v2 h=>⟨by rw[World.cell?_setCell_far _ _ _ _ (by exact Z),World.cell?_setCell_far _ _ _ _ (by exact Z)];exact h.1,by rw[World.cell?_setCell_far _ _ _ _ (by exact Z),World.cell?_setCell_far _ _ _ _ (by exact Z)];exact h.2.1,by rw[World.cell?_setCell_far _ _ _ _ (by exact aK),World.cell?_setCell_far _ _ _ _ (by exact aK)];exact h.2.2.1,by rw[World.cell?_setCell_far _ _ _ _ (by exact aK),World.cell?_setCell_far _ _ _ _ (by exact aK)];exact h.2.2.2⟩);clear t0 t3 p0 p1
 go_region_held3 (λw1=>w1.cell? ⟨T,0,none⟩=some (.int .i64 (n:Int))/\w1.cell? ⟨T,3,none⟩=some (.slice (some ⟨J,0,none⟩) M M)/\w1.cell? ⟨J,E*2,none⟩=some (.int .i64 ((f E).1:Int))/\w1.cell? ⟨J,E*2+1,none⟩=some (.int .i64 (f E).2))
  (first|with_reducible exact bY|exact cS.1 _ _ _ bY)
  (first
   |(go_at_call 143;with_reducible refine eG.mono ?_;rintro e w2 ⟨rfl,rfl⟩)
   |(go_at_call 143;with_reducible refine eP.mono ?_;rintro e w2 ⟨rfl,rfl⟩))
 all_goals go_wp2
 have hE:=(((bC.1.set_ 0 (.int .i64 ((f E).1:Int))).set_ 1 (.int .i64 (f E).2)).below_ (Below.refl _ _).drew (by have:=bC.1.lt;simpa using this))
 have e0:=hE.at_ 0 rfl;have e1:=hE.at_ 1 rfl;try simp only[Exit.inBlock,Exit.then]
 refine bodyPost_ret (by simp[results,results144,go_sem,e0,e1];try rfl) rfl ?_;exact⟨rfl,cM.1▸((bB.1.setCell (p:=⟨R,0,none⟩) (nL _) _).setCell (p:=⟨R,1,none⟩) (nL _) _).drew⟩
end
section
open Go.RowKit Eli Tryz
theorem Wo (x:Int) (m:Nat) (w:World) (J:0<m) (U:m<=1000000000):
  Calls prog 126 #[.int .i64 x,.int .i64 m] w λe w'=>e=.returned (.int .i64 (x % (m:Int)))/\w'=w:=by
 have M:-(m:Int)<x.tmod m:=by have:=Int.lt_tmod_of_pos x (show(0:Int)<m by omega);omega
 have O:x.tmod m<m:=Int.tmod_lt_of_pos x (by omega);have E:=Kh (Dj x m (by omega));have I:(m:Int)≠0:=by omega
 go_enter func126,ntmps126
 go_wp2;all_goals (go_ret;refine⟨A5 ?_,rfl⟩;rw[<-E.1];first |(rw[if_pos (by omega)];done) |(rw[if_neg (by omega)];done))
structure XgI (a b g r U V:Nat) (s:Int):Prop where
 sum:U*r+V*g=b
 hU:U<=b
 hV:V<=b
 hg:g<=b
 hr:r<=b
 sg:s=1∨s=-1
 du:(b:Int)∣s*U*a - g
 dv:(b:Int)∣-s*V*a - r
 gd:Nat.gcd g r=Nat.gcd a b
theorem XgI.start {a b:Nat} (h:a<b):XgI a b a b 1 0 1:=
 ⟨by omega,by omega,Nat.zero_le _,Nat.le_of_lt h,nL _,.inl rfl,⟨0,by simp⟩,⟨-1,by simp⟩,rfl⟩
theorem XgI.step {a b g r U V:Nat} {s:Int} (h:XgI a b g r U V s) (hr:0<r):XgI a b r (g % r) V (U+g / r*V) (-s):=by
 have M:=Nat.div_add_mod g r;obtain⟨q,hq⟩:∃q,g / r=q:=⟨_,rfl⟩
 obtain⟨t,I⟩:∃t,g % r=t:=⟨_,rfl⟩
 rw[hq,I]at M;rw[hq,I]
 have E:V*t+(U+q*V)*r=b:=by
  rw[<-h.sum,<-M];grind
 have O:t<r:=by rw[<-I];exact Nat.mod_lt _ hr
 refine⟨E,h.hV,?_,h.hr,Nat.le_of_lt (nN O h.hr),?_,?_,?_,?_⟩
 ·have J:(U+q*V)*1<=(U+q*V)*r:=Nat.mul_le_mul_left _ hr
  omega
 ·rcases h.sg with J|J <;> rw[J]
  ·exact .inr rfl
  ·exact .inl rfl
 ·exact h.dv
 ·have e:-(-s)*((U+q*V:Nat):Int)*a - (t:Nat)=(s*U*a - g) - q*(-s*V*a - r):=by
   have Z:(g:Int)=r*q+t:=by rw[<-M];push_cast;rfl
   rw[Z]
   push_cast
   grind
  rw[e];exact Int.dvd_sub h.du (Int.dvd_trans h.dv (Int.dvd_mul_left _ _))
 ·rw[<-h.gd,<-I,Nat.gcd_comm r,<-Nat.gcd_rec r g,Nat.gcd_comm]
theorem fR (a b:Nat) (w:World) (h0:a<b) (hb:b<=20000) (hg:Nat.gcd a b=1):
  Calls prog 125 #[.int .i64 a,.int .i64 b] w λe w'=>(∃(u:Nat) (v:Int),e=.returned (.tuple #[.int .i64 1,.int .i64 u,.int .i64 v,.int .i64 0])/\u<b/\(b:Int)∣(u:Int)*a - 1)/\Below w.heap.size w w':=by
 have l1:¬(a:Int) < -2147483647:=by omega
 have l2:¬(2147483647:Int)<(a:Int):=by omega
 have l3:¬(b:Int) < -2147483647:=by omega
 have l4:¬(2147483647:Int)<(b:Int):=by omega
 have l5:((b:Int)==0)=false:=beq_eq_false_iff_ne.2 (by omega);go_enter func125,ntmps125
 go_wp2;clear l1 l2 l3 l4 l5;go_loopw [4,5,8,9] (λv4 v5 v8 v9 wr=>∃(g r U V:Nat) (s:Int),v4=.int .i64 g/\v5=.int .i64 (s*U)/\v8=.int .i64 (-s*V)/\v9=.int .i64 r/\XgI a b g r U V s/\wr=w) (λ_ _ _ v9 _=>(intOf v9).toNat)
 case atStart=>exact⟨a,b,1,0,1,rfl,rfl,rfl,rfl,XgI.start h0,rfl⟩
 case round=>
  obtain⟨g,r,U,V,s,rfl,rfl,rfl,rfl,J,rfl⟩:=hrel;have HX:=Kh J;have eT:=J.hg;have cC:=J.hU;have cD:=J.hV;have O:=J.sg;obtain⟨x,E⟩:∃x:Int,s*U=x:=⟨_,rfl⟩
  obtain⟨y,I⟩:∃y:Int,-s*V=y:=⟨_,rfl⟩
  have gI:-20000<=x/\x<=20000:=by rcases O with h|h <;> rw[h]at E <;> omega
  have cX:-20000<=y/\y<=20000:=by rcases O with h|h <;> rw[h]at I <;> omega
  rw[E,I];have cA:=Kh E;have aN:=Kh I;by_cases hr0:r=0
  ·subst hr0
   obtain rfl:g=1:=by have h:=J.gd;rw[Nat.gcd_zero_right,hg]at h;exact h
   have hM:∀w,(Builtin.max_ #[3,3] 3 #[.int .i64 b,.int .i64 (-(b:Int))]).run prog w=.ok (.int .i64 b) w:=λw=>by
    have e:(if(b:Int) < -(b:Int)then -(b:Int)else(b:Int))=(b:Int):=by split <;> omega
    simp[Builtin.max_,Builtin.max2,e]
   have wn:IntKind.i64.wrap (-(b:Int))=-(b:Int):=IntWalk.i64_in _ (by omega);have wb:IntKind.i64.wrap (b:Int)=(b:Int):=IntWalk.i64_in _ (by omega);have M:=J.du;rw[E]at M;obtain⟨u,hu⟩:∃u:Nat,x % (b:Int)=u:=⟨(x % (b:Int)).toNat,by rw[Int.toNat_of_nonneg (Int.emod_nonneg _ (by omega))]⟩
   have cT:u<b:=by have:=Int.emod_lt_of_pos x (show(0:Int)<b by omega);omega
   have bE:=Kh (show(b:Int)∣(u:Int)*a - 1 from by
    have e:(u:Int)*a - 1=(x*a - ((1:Nat):Int)) - b*(x / b)*a:=by
     rw[<-hu,Int.emod_def]
     push_cast
     grind
    rw[e];exact Int.dvd_sub M ⟨x / b*a,by grind⟩)
   obtain⟨P,hP⟩:∃P:Nat,u*a=P:=⟨_,rfl⟩
   have eP:P<=20000*20000:=by rw[<-hP];exact Nat.mul_le_mul (by omega) (by omega)
   have v1:IntKind.i64.wrap ((u:Int)*(a:Int))=(P:Int):=by rw[show(u:Int)*(a:Int)=(P:Int)by rw[<-hP];push_cast;rfl];exact IntWalk.i64_in _ (by omega)
   obtain⟨z,hz⟩:∃z:Int,1 - (P:Int)=z:=⟨_,rfl⟩
   have v2:IntKind.i64.wrap (1 - (P:Int))=z:=by rw[hz];exact IntWalk.i64_in _ (by omega)
   obtain⟨q,hq⟩:∃q,z.tdiv b=q:=⟨_,rfl⟩
   have cI:q.natAbs<=400000001:=by rw[<-hq,Int.natAbs_tdiv];exact nM (Nat.div_le_self _ _) (by omega)
   have v3:IntKind.i64.wrap q=q:=IntWalk.i64_in _ (by omega);have v4:((b:Int)==0)=false:=beq_eq_false_iff_ne.2 (by omega);have v5:b≠0:=by omega
   have bY:=Kh hu;clear J E I M hP hz hu HX cA aN cC cD O cX hg;go_wp2_with fail
   refine(Wo x b wr (by omega) (by omega)).mono ?_;rintro e w' ⟨rfl,bA⟩;obtain rfl:wr=w':=bA.symm;rw[bY.1];clear bA;go_upto_region 17 with(fail)
   go_quiet (fail)
   go_wp2;try simp only[Exit.inBlock,Exit.then]
   refine bodyPost_ret (by simp[results,results125,go_sem];try rfl) rfl ?_;exact⟨⟨u,q,rfl,cT,bE.1⟩,Aa (Below.refl _ _) _⟩
  ·have aX:0<r:=by omega
   have eY:((r:Int) != 0)=true:=by rw[bne_iff_ne];omega
   have Z:=J.step aX;have gA:=J.hr;obtain⟨q,hq⟩:∃q,g / r=q:=⟨_,rfl⟩
   obtain⟨t,ht⟩:∃t,g % r=t:=⟨_,rfl⟩
   have hd:=Nat.div_add_mod g r;rw[hq,ht]at hd Z;have cI:q<=20000:=by rw[<-hq];exact nM (Nat.div_le_self _ _) (by omega)
   have gF:t<r:=by rw[<-ht];exact Nat.mod_lt _ aX
   have e1:(g:Int) / (r:Int)=(q:Int):=by rw[<-hq];exact(Int.natCast_ediv _ _).symm
   obtain⟨p,hp⟩:∃p:Nat,q*r=p:=⟨_,rfl⟩
   have eX:p+t=g:=by rw[<-hp,Nat.mul_comm];exact hd
   have v1:IntKind.i64.wrap ((q:Int)*(r:Int))=(p:Int):=by rw[show(q:Int)*(r:Int)=(p:Int)by rw[<-hp];push_cast;rfl];exact IntWalk.i64_in _ (by omega)
   have v2:IntKind.i64.wrap ((g:Int) - (p:Int))=(t:Int):=by rw[show(g:Int) - (p:Int)=(t:Int)by omega];exact IntWalk.i64_in _ (by omega)
   obtain⟨z,hz⟩:∃z:Int,(q:Int)*y=z:=⟨_,rfl⟩
   have gL:z.natAbs<=20000*20000:=by rw[<-hz,Int.natAbs_mul];exact Nat.mul_le_mul (by omega) (by omega)
   have v3:IntKind.i64.wrap ((q:Int)*y)=z:=by rw[hz];exact IntWalk.i64_in _ (by omega)
   obtain⟨x',aD⟩:∃x':Int,x - z=x':=⟨_,rfl⟩
   have v4:IntKind.i64.wrap (x - z)=x':=by rw[aD];exact IntWalk.i64_in _ (by omega)
   have bC:=Kh Z
   have bB:=Kh (show x'=-(-s)*((U+q*V:Nat):Int)by
    rw[<-aD,<-hz,<-E,<-I]
    push_cast
    grind)
   clear J E I hq ht hd hp hz aD Z HX;go_wp2;go_roundw
   case rel=>exact⟨r,t,V,U+q*V,-s,rfl,by rw[aN.1],by rw[bB.1],rfl,bC.1,trivial⟩
   case measure=>simp[intOf];omega
theorem Uj (m:Nat) (w:World) (E:0<m) (M:m<=1000000000):
  Calls prog 124 #[.int .i64 m] w λe w'=>e=.returned (.bool true)/\w'=w:=by
 have I:(1:Int)<=(m:Int):=by omega
 have J:(m:Int)<=2147483647:=by omega
 go_enter func124,ntmps124
 go_wp2;go_ret;exact⟨rfl,rfl⟩
theorem Lr (x:Int) (m:Nat) (w:World) (Z:0<m) (hm:m<=20000) (hg:Int.gcd x m=1):
  Calls prog 74 #[.int .i64 x,.int .i64 m] w λe w'=>(∃u:Nat,e=.returned (.tuple #[.int .i64 u,.int .i64 0])/\u<m/\(m:Int)∣(u:Int)*x - 1)/\Below w.heap.size w w':=by
 obtain⟨a,O⟩:∃a:Nat,x % (m:Int)=a:=⟨(x % (m:Int)).toNat,by rw[Int.toNat_of_nonneg (Int.emod_nonneg _ (by omega))]⟩
 have U:a<m:=by have:=Int.emod_lt_of_pos x (show(0:Int)<m by omega);omega
 have J:Nat.gcd a m=1:=by
  have h:((Nat.gcd a m:Nat):Int)∣x:=by
   have e:x=m*(x / m)+a:=by rw[<-O];exact(Int.mul_ediv_add_emod x m).symm
   rw[e];exact Int.dvd_add (Int.dvd_trans (Int.natCast_dvd_natCast.2 (Nat.gcd_dvd_right ..)) (Int.dvd_mul_right _ _)) (Int.natCast_dvd_natCast.2 (Nat.gcd_dvd_left ..))
  have h2:=Int.dvd_coe_gcd h (Int.natCast_dvd_natCast.2 (Nat.gcd_dvd_right a m));rw[hg]at h2;exact Nat.dvd_one.1 (Int.natCast_dvd_natCast.1 h2)
 have V:=Kh O;have M:=Kh (λW=>fR a m W U hm J);clear O hg J;go_enter func74,ntmps74
 go_wp2_with fail
 refine(Uj m w Z (by omega)).mono ?_;rintro e w' ⟨rfl,E⟩;obtain rfl:w=w':=E.symm;clear E;go_wp2_with fail
 refine(Wo x m w Z (by omega)).mono ?_;rintro e w' ⟨rfl,E⟩;obtain rfl:w=w':=E.symm;rw[V.1];clear E;go_wp2_with fail
 refine(M.1 w).mono ?_;rintro e w1 ⟨⟨u,v,rfl,hu,hd⟩,I⟩;have HB:=Kh I
 have HD:=Kh (show(m:Int)∣(u:Int)*x - 1 from by
  have e:(u:Int)*x - 1=((u:Int)*a - 1)+m*(u*(x / m)):=by
   have h:x=m*(x / m)+a:=by rw[<-V.1];exact(Int.mul_ediv_add_emod x m).symm
   grind
  rw[e];exact Int.dvd_add hd (Int.dvd_mul_right _ _))
 clear hd I;go_wp2;go_ret2
 exact⟨⟨u,rfl,hu,HD.1⟩,HB.1⟩
def RowV (f:Nat->Rat) (N:Nat) (w:World) (v:Value):Prop:=(∃p c,v=.slice p N c)/\QL (λq=>IsQ (f q)) w v N
theorem RowV.keep {f:Nat->Rat} {N:Nat} {w w':World} {v:Value} (h:RowV f N w v) (E:Below w.heap.size w w'):RowV f N w' v:=⟨h.1,h.2.keep (λ_=>IsQ.solid _) E⟩
theorem RowV.congr {f g:Nat->Rat} {N:Nat} {w:World} {v:Value} (h:RowV f N w v) (M:∀q,q<N->g q=f q):RowV g N w v:=by
 refine⟨h.1,?_⟩;rcases h.2 with I |⟨b,o,cap,e,J,hq⟩
 ·exact .inl I
 ·exact .inr ⟨b,o,cap,e,J,λj E=>by
   show QE (IsQ (g j)) w b (o+j*4);rw[M j E];exact hq j E⟩
theorem RowV.but {f:Nat->Rat} {N:Nat} {w w':World} {v:Value} {R:Nat} (h:RowV f N w v) (hs:Stk SliceV w R) (hg:w.grownBy w' (some R)) (E:I32 w w'):RowV f N w' v:=by
 refine⟨h.1,?_⟩;rcases h.2 with U |⟨b,o,cap,e,Z,hq⟩
 ·exact .inl U
 ·refine .inr ⟨b,o,cap,e,nN Z hg.size,λj hj=>?_⟩
  have M:=hq j hj
  have I:b≠R:=λO=>by
   obtain⟨s,p,n,c,t,q,m,d,J,_⟩:=M;rw[O]at J;obtain⟨p',n',c',V⟩:=hs.2 _ _ J;cases V
  exact M.butR E hg I
theorem RowV.grown {f:Nat->Rat} {N:Nat} {w w':World} {v:Value} {o:Option Nat} (h:RowV f N w v) (hs:∀R,o=some R->Stk SliceV w R) (hg:w.grownBy w' o) (J:I32 w w'):RowV f N w' v:=by
 refine⟨h.1,?_⟩;rcases h.2 with V |⟨b,o',cap,e,hb,hq⟩
 ·exact .inl V
 ·refine .inr ⟨b,o',cap,e,nN hb hg.size,λj hj=>?_⟩
  obtain⟨s,p,n,c,t,q,m,d,M,I,O,U,h4⟩:=hq j hj
  have E:some b≠o:=λI=>by
   obtain⟨p',n',c',Z⟩:=(hs b I.symm).2 _ _ M;cases Z
  exact⟨s,p,n,c,t,q,m,d,hg.cell M E,hg.cell I E,hg.cell O E,hg.cell U E,h4.i32 J⟩
def GridL (l:List (Nat->Rat)) (N:Nat) (w:World) (v:Value):Prop:=
 (l=[]/\∃p c,v=.slice p 0 c)∨∃g o cap,v=.slice (some ⟨g,o,none⟩) l.length cap/\g<w.heap.size/\Stk SliceV w g/\∀(j:Nat) x,l[j]?=some x->∃vr,w.cell? ⟨g,o+j,none⟩=some vr/\RowV x N w vr
theorem Stk.keep {K:Value->Prop} {w w':World} {g:Nat} (h:Stk K w g) (E:Below w.heap.size w w'):Stk K w' g:=⟨nN h.1 E.size,λi v I=>h.2 i v ((E.cell (p:=⟨g,i,none⟩) h.1).symm.trans I)⟩
theorem GridL.keep {l:List (Nat->Rat)} {N:Nat} {w w':World} {v:Value} (h:GridL l N w v) (E:Below w.heap.size w w'):GridL l N w' v:=by
 rcases h with h |⟨g,o,cap,e,hg,O,U⟩
 ·exact .inl h
 ·refine .inr ⟨g,o,cap,e,nN hg E.size,O.keep E,λj x M=>?_⟩
  obtain⟨vr,I,J⟩:=U j x M;exact⟨vr,(E.cell (p:=⟨g,o+j,none⟩) hg).trans I,J.keep E⟩
theorem GridL.val {l:List (Nat->Rat)} {N:Nat} {w:World} {v:Value} (h:GridL l N w v):∃p c,v=.slice p l.length c:=by
 rcases h with⟨rfl,h⟩ |⟨g,o,cap,e,_⟩
 ·exact h
 ·exact⟨_,_,e⟩
def OwnG (l:List (Nat->Rat)) (N:Nat) (w:World) (B:Nat) (v:Value):Prop:=∃xs,OwnK SliceV w B 30 1 v l.length xs/\∀(j:Nat) x,l[j]?=some x->∃vr,xs[j]?=some vr/\RowV x N w vr
theorem OwnG.nil (N:Nat) (w:World) (B:Nat):OwnG [] N w B (.slice none 0 0):=⟨[],OwnK.nil _ _ _ _ _,λj x E=>by simp at E⟩
theorem OwnG.keep {l:List (Nat->Rat)} {N:Nat} {w w':World} {B:Nat} {v:Value} (h:OwnG l N w B v) (E:Below w.heap.size w w'):OwnG l N w' B v:=by
 obtain⟨O,I,J⟩:=h;exact⟨O,I.keep E,λj x M=>by obtain⟨vr,e,hr⟩:=J j x M;exact⟨vr,e,hr.keep E⟩⟩
theorem I32.grownS {w w':World} {B E sz n:Nat} {v:Value} {J:List Value} (h:OwnK SliceV w B E sz v n J) (hg:w.grownBy w' v.ownBlock):I32 w w':=I32.grown (K:=SliceV) (λ_ I=>by obtain⟨p,n,c,e⟩:=I;cases e) h.2 hg
theorem OwnG.push {l:List (Nat->Rat)} {N:Nat} {W w':World} {B:Nat} {v V:Value} {I:List Value} (J:OwnK SliceV W B 30 1 v l.length I) (Z:∀(j:Nat) x,l[j]?=some x->∃vr,I[j]?=some vr/\RowV x N W vr)
  {f:Nat->Rat} {vf:Value} (hf:RowV f N W vf) (h3:OwnK SliceV w' B 30 1 V (l.length+1) (I++[vf])) (hg:W.grownBy w' v.ownBlock):OwnG (l++[f]) N w' B V:=by
 have M:=I32.grownS J hg;have hl:I.length=l.length:=by have:=J.1.1;omega
 have U:∀(x:Nat->Rat) vr,RowV x N W vr->RowV x N w' vr:=λx vr h=>h.grown (λR e=>J.2 R e) hg M
 refine⟨I++[vf],by rw[List.length_append];exact h3,λj x E=>?_⟩;by_cases hj:j<l.length
 ·rw[List.getElem?_append_left hj]at E
  obtain⟨vr,e,hr⟩:=Z j x E;exact⟨vr,Ob e,U _ _ hr⟩
 ·rw[List.getElem?_append_right (by omega)]at E
  have O:j=l.length:=by
   rcases Nat.eq_zero_or_pos (j - l.length)with h|h
   ·omega
   ·rw[List.getElem?_eq_none (by rw[List.length_singleton];omega)]at E;cases E
  subst O;rw[Nat.sub_self]at E;injection E with E
  subst E;exact⟨vf,by rw[List.getElem?_append_right (by omega),hl,Nat.sub_self];rfl,U _ _ hf⟩
structure GRow (l:List (Nat->Rat)) (N:Nat) (w:World) (g:Nat):Prop where
 stk:Stk SliceV w g
 free:∀i,w.frozen? ⟨g,i,none⟩=false
 val:∀(j:Nat) x,l[j]?=some x->∃vr,w.cell? ⟨g,j,none⟩=some vr/\RowV x N w vr
theorem OwnG.row {l:List (Nat->Rat)} {N:Nat} {w:World} {B:Nat} {v:Value} (h:OwnG l N w B v):(l=[]/\v=.slice none 0 0)∨∃g cap,v=.slice (some ⟨g,0,none⟩) l.length cap/\l.length<=cap/\cap<=9223372036854775807/\B<=g/\g<w.heap.size/\GRow l N w g:=by
 obtain⟨xs,I,U⟩:=h;rcases I.1.2 with⟨E,O⟩ |⟨g,cap,cs,E,hB,hg,hn,J,V,_⟩
 ·exact .inl ⟨List.eq_nil_of_length_eq_zero O,E⟩
 ·right
  have M:=I.2 g (by rw[E];rfl);subst E;refine⟨g,cap,rfl,hn,by simp only[maxLen]at J;omega,hB,M.1,⟨M,λi=>Blk.free_ hg i,λj x Z=>?_⟩⟩;obtain⟨vr,e,hr⟩:=U j x Z;exact⟨vr,Ai I.1 e,hr⟩
theorem OwnG.gl {l:List (Nat->Rat)} {N:Nat} {w:World} {B:Nat} {v:Value} (h:OwnG l N w B v):GridL l N w v:=by
 rcases h.row with⟨rfl,rfl⟩ |⟨g,cap,rfl,_,_,_,I,E⟩
 ·exact .inl ⟨rfl,_,_,rfl⟩
 ·exact .inr ⟨g,0,cap,rfl,I,E.stk,λj x J=>by rw[Nat.zero_add];exact E.val j x J⟩
theorem Yy {w:World} {B E g n cap i:Nat} {M:List Value} (h:w.ownsRow B E 1 (.slice (some ⟨g,0,none⟩) n cap) n M) (u:Value):(w.setCell ⟨g,i,none⟩ u).ownsRow B E 1 (.slice (some ⟨g,0,none⟩) n cap) n (M.set i u):=by
 obtain⟨O,h⟩:=h;rcases h with⟨V,_⟩ |⟨g',J,I,U,hB,hg,hn,Z,hs,ht⟩
 ·cases V
 ·cases U
  refine⟨by rw[List.length_set];exact O,.inr ⟨g,cap,I.setIfInBounds i u,rfl,hB,?_,hn,Z,by rw[Array.size_setIfInBounds];exact hs,?_⟩⟩
  ·simp[World.setCell,Array.getElem?_modify,hg]
  ·rw[Array.toList_setIfInBounds,List.take_set,ht]
theorem OwnG.set {l:List (Nat->Rat)} {N:Nat} {w:World} {B i:Nat} {f:Nat->Rat} {g cap:Nat} {p:Option Addr} {c:Nat} (h:OwnG l N w B (.slice (some ⟨g,0,none⟩) l.length cap)) (hi:i<l.length) (hf:RowV f N w (.slice p N c)):
  OwnG (l.set i f) N (w.setCell ⟨g,i,none⟩ (.slice p N c)) B (.slice (some ⟨g,0,none⟩) l.length cap):=by
 obtain⟨O,M,Z⟩:=h;have hl:O.length=l.length:=by have:=M.1.1;omega
 have E:=M.2 g rfl;have hg:=Ar w g i (.slice p N c);have J:I32 w (w.setCell ⟨g,i,none⟩ (.slice p N c)):=I32.putU (E.imp λ_=>SliceV.notU32) i _;refine⟨O.set i (.slice p N c),?_,λj x I=>?_⟩
 ·rw[List.length_set]
  refine⟨Yy M.1 _,λV e=>?_⟩;have U:g=V:=by simpa [Value.ownBlock] using e
  subst U;exact Be E _ _ ⟨_,_,_,rfl⟩
 ·by_cases hj:j=i
  ·subst hj
   rw[List.getElem?_set_self hi]at I;injection I with I
   subst I;exact⟨_,List.getElem?_set_self (by omega),hf.but E hg J⟩
  ·rw[List.getElem?_set_ne (λe=>hj e.symm)]at I
   obtain⟨vr,e,hr⟩:=Z j x I;exact⟨vr,by rw[List.getElem?_set_ne (λe=>hj e.symm)];exact e,hr.but E hg J⟩
end
section
open Go.RowKit Tryz
theorem Xw:(prog.info? 84).map (λi=>(i.zero,i.size,i.bytes))=some (some (.agg #[.bool false,.slice none 0 0]),2,32):=by kernel_rfl
theorem Yi (n:Nat) (h:n<=1000000) (w:World):
  (Instr.makeSlice 97 (.int .i64 (n:Int)) (.int .i64 (n:Int))).run prog w=.ok (.slice (some ⟨w.heap.size,0,none⟩) n n) (w.alloc (.cells (madeCells #[.bool false,.slice none 0 0] (n*2)) 84)):=by
 obtain⟨i,M,E,I,J⟩:=info_parts Xw;have hr:=run_make (P:=prog) w 97 84 i _ underlying97 M E .i64 .i64 n n (by omega) (Int.le_refl _) (by rw[J];omega) (by omega);rw[Int.toNat_natCast,I]at hr;exact hr
theorem kK {n i:Nat} {v:Value} (h:(madeCells #[.bool false,.slice none 0 0] n)[i]?=some v):NotInt v:=by
 unfold madeCells at h;simp only[Array.getElem?_map,Array.getElem?_range]at h;split at h
 ·simp only[Option.map_some]at h
  injection h with h
  rw[<-h];have E:i % 2=0∨i % 2=1:=by omega
  show NotInt ((#[.bool false,.slice none 0 0]:Array Value)[i % 2]!);rcases E with E|E <;> rw[E] <;> first|exact NotInt.bool _|exact NotInt.slice _ _ _
 ·cases h
theorem ZRow.made (f:Nat->Int) (w:World) (n:Nat):ZRow f (w.alloc (.cells (madeCells #[.bool false,.slice none 0 0] (n*2)) 84)) w.heap.size n 0:=by
 have E:=Blk.new w 84 (madeCells #[.bool false,.slice none 0 0] (n*2));refine⟨Sts.of E ?_,λi _=>E.free_ i,λi I=>?_,λj J=>absurd J (Nat.not_lt_zero _)⟩
 ·intro v M
  obtain⟨i,I⟩:=Array.getElem?_of_mem M;exact kK I
 ·rw[E.cell_ i,Array.getElem?_eq_getElem (by rw[size_madeCells];exact I)];rfl
def fG (w:World) (R:Nat) (z:Int):Prop:=∃s p n c,Blk w R 84 #[.bool s,.slice p n c]/\Zs w s p n c z
theorem C4 {g:Nat} {w w':World} (h:Below g w w') {R i j:Nat} (E:g<=R) {v0 v1:Value}:Below g w ((w'.setCell ⟨R,i,none⟩ v0).setCell ⟨R,j,none⟩ v1):=
 (h.setCell (p:=⟨R,i,none⟩) E v0).setCell (p:=⟨R,j,none⟩) E v1
theorem ZRow.var {f:Nat->Int} {w:World} {g N k R:Nat} {s:Bool} {p:Option Addr} {n c:Nat} {s':Bool} {p':Option Addr} {n' O:Nat} (h:ZRow f w g N k) (hR:Blk w R 84 #[.bool s',.slice p' n' O]) (M:g≠R):ZRow f ((w.setCell ⟨R,0,none⟩ (.bool s)).setCell ⟨R,1,none⟩ (.slice p n c)) g N k:=by
 have hg:=Jv w R 0 1 (.bool s) (.slice p n c);have E:((w.setCell ⟨R,0,none⟩ (.bool s)).setCell ⟨R,1,none⟩ (.slice p n c)).heap[g]?=w.heap[g]?:=hg.block g h.sts.1 (λe=>by injection e with e;exact M e);have I:=I32.put2 (Sts.box hR) 0 1 (.bool s) (.slice p n c) (NotInt.bool _);refine⟨⟨nN h.sts.1 hg.size,λi v hv=>h.sts.2 i v ((World.cell?_of_block (a:=⟨g,i,none⟩) E).symm.trans hv)⟩,λi J=>(World.frozen?_of_block (a:=⟨g,i,none⟩) E).trans (h.free i J),λi J=>by rw[World.cell?_of_block (a:=⟨g,i,none⟩) E];exact h.has i J,λj hj=>?_⟩;obtain⟨s,p,n,c,U,V,Z⟩:=h.val j hj;exact⟨s,p,n,c,(World.cell?_of_block (a:=⟨g,_,none⟩) E).trans U,(World.cell?_of_block (a:=⟨g,_,none⟩) E).trans V,Z.i32 I⟩
theorem Ov (v:Value) (m:Nat) (f:Nat->Int) (s:Bool) (p:Option Addr) (n c:Nat) (a:Int) (t:Bool) (q:Option Addr) (m' d:Nat) (b:Int) (w:World) (h:ZL f w v m) (ha:Zs w s p n c a) (E:Zs w t q m' d b) (h0:0<m) (hm:m<=1000) (hn:n<=10) (oI:m'<=10) (hf:∀j,nd (f j).natAbs<=1000) (hz:∀j,m<=j->f j=0):
  Calls prog 145 #[v,.agg #[.bool s,.slice p n c],.agg #[.bool t,.slice q m' d]] w λe w'=>(∃g,e=.returned (.slice (some ⟨g,0,none⟩) ((m+1:Nat)) ((m+1:Nat)))/\w.heap.size<=g/\ZRow (lin a b f) w' g (m+1) (m+1))/\Below w.heap.size w w':=by
 obtain⟨g1,o1,l1,rfl,gS,r1⟩:=h.resolve_left (λh=>by omega);have hS:=Kh r1;have HF:=Kh hf;have oF:=Kh hz;have HA:=Kh ha;have HB:=Kh E;obtain⟨N,hN⟩:∃N,m+1=N:=⟨_,rfl⟩
 have pN:(m:Int)+1=(N:Nat):=by omega
 have oH:=Yi N (by omega);rw[hN];clear h r1 hf ha E hz;go_enter func145,ntmps145
 go_wp2_with fail
 obtain⟨w0,eF⟩:∃w0,(w.alloc (.cells #[.bool s,.slice p n c] 84)).alloc (.cells #[.bool t,.slice q m' d] 84)=w0:=⟨_,rfl⟩
 obtain⟨X0,X1,bC⟩:=T8 w #[.bool s,.slice p n c] 84 #[.bool t,.slice q m' d] 84;rw[eF]at X0 X1 bC;have dY:w0.heap.size=w.heap.size+1+1:=by rw[<-eF];simp
 have dE:=ZRow.made (lin a b f) w0 N;obtain⟨wn,eP⟩:∃wn,w0.alloc (.cells (madeCells #[.bool false,.slice none 0 0] (N*2)) 84)=wn:=⟨_,rfl⟩
 have gP:Below w0.heap.size w0 wn:=eP▸(Below.refl _ _).alloc (nL _) _;rw[eP]at dE;rw[eF,eP];obtain⟨gx,cX⟩:∃gx,w.heap.size=gx:=⟨_,rfl⟩
 obtain⟨gy,dC⟩:∃gy,gx+1=gy:=⟨_,rfl⟩
 obtain⟨g,hg⟩:∃g,gy+1=g:=⟨_,rfl⟩
 rw[cX,dC,hg]at dY;rw[cX]at X0 X1;rw[dC]at X1;rw[dY]at dE gP;rw[cX,dC,hg];have hW:=Kh X0;have hX:=Kh X1;have hM:=Kh gP;have hT:=Kh dE;have mD:w.heap.size<=g:=by omega
 have nB:gx<g:=by omega
 have nC:gy<g:=by omega
 have HW:=Kh bC;have hP:=Kh (show g1<g by omega);have HR:=Kh (λj (hj:j<m)=>ZE.keep (hS.1 j hj) bC);have hL:=Kh (HA.1.keep bC);have hO:=Kh (HB.1.keep bC);have hU:=Kh dY;clear X0 X1 bC eF eP dE gP gS cX dC hg dY oH hS HA HB;go_loopw [16] (λi wr=>∃k:Nat,k<=N/\i=.int .i64 k/\ZRow (lin a b f) wr g N k/\Below g w0 wr) (λi _=>N - (intOf i).toNat)
 case atStart=>exact⟨0,Nat.zero_le _,rfl,hT.1,hM.1⟩
 case round=>
  obtain⟨k,hk,rfl,gA,cT⟩:=hrel;obtain⟨w1,rfl⟩:∃w1:World,w1=wr:=⟨_,rfl⟩
  have aN:=Kh gA;have cF:=Kh cT;clear gA cT hM hT;by_cases hlt:k<N
  ·have pP:(k:Int)<(N:Int):=by omega
   go_wp2_with fail
   refine(Ge 0 w1 (by omega) (by omega)).mono ?_;rintro e w2 ⟨⟨s3,p3,n3,c3,rfl,nD⟩,aD⟩;have gF:g<w2.heap.size:=nN aN.1.sts.1 aD.size;have bY:=Kh (ZRow.keep aN.1 aD);have eX:=Kh (cF.1.trans (aD.mono (Nat.le_of_lt aN.1.sts.1)));have hY:=Kh nD;clear nD aD aN cF;go_upto_if 21 with(fail)
   obtain⟨w3,eG⟩:∃w3,w2.alloc (.cells #[.bool s3,.slice p3 n3 c3] 84)=w3:=⟨_,rfl⟩
   have aD:Below w2.heap.size w2 w3:=eG▸(Below.refl _ _).alloc (nL _) _;have I:=eG▸Blk.new w2 84 #[.bool s3,.slice p3 n3 c3];rw[eG];obtain⟨R,hR⟩:∃R,w2.heap.size=R:=⟨_,rfl⟩
   rw[hR]at I ⊢;have cS:g<R:=by omega
   have gI:=Kh (show fG w3 R 0 from⟨s3,p3,n3,c3,I,hY.1.keep aD⟩);have V:=Kh (ZRow.keep bY.1 aD);have O:=Kh (eX.1.trans (aD.mono (Nat.le_of_lt gF)));clear eG aD I hR gF bY eX hY;obtain⟨u1,nA⟩:∃u1,(if 0<k then a*f (k - 1)else 0)=u1:=⟨_,rfl⟩
   have aX:=Kh nA;clear nA;go_cut []from 20 to 28 (λwd=>fG wd R u1/\ZRow (lin a b f) wd g N k/\Below g w0 wd)
   case first=>
    by_cases hk0:0<k
    ·obtain⟨k1,mE⟩:∃k1,k=k1+1:=⟨k - 1,by omega⟩
     have HU:=Kh (show a*f k1=u1 by rw[<-aX.1,if_pos hk0,mE,Nat.add_sub_cancel]);obtain⟨J,rfl⟩:∃J:World,J=w3:=⟨_,rfl⟩
     have bA:Below w0.heap.size w0 J:=hU.1▸O.1;obtain⟨s',p',i',c',a0,a1,hx⟩:=(HR.1 k1 (by omega)).keep bA;have HP:=Kh (show Zs J s' p' i' c' (f k1)from hx);have x0:=(hW.1.below_ O.1 nB).at_ 0 rfl;have x1:=(hW.1.below_ O.1 nB).at_ 1 rfl;have HX:=Kh (hL.1.keep bA);have HI:=Kh (show i'<=1000 by rw[<-hx.2.1];exact HF.1 k1);have cG:=Kh (λW (E:Below J.heap.size J W)=>Gs s p n c a s' p' i' c' (f k1) W (HX.1.keep E).raw (HP.1.keep E).raw (by omega) (by have:=HI.1;omega));rw[HU.1]at cG;obtain⟨s5,p5,n5,c5,I,_⟩:=gI.1;have cA:=Kh I;have pB:(k:Int) - 1=(k1:Nat):=by omega
     have pA:k1<m:=by omega
     have oZ:(k1:Int)<(m:Int):=by omega
     have pQ:IntKind.i64.wrap (k1:Int)=(k1:Nat):=IntWalk.i64_in _ (by omega);have oX:(0:Int)<=(k1:Int):=by omega
     have gS:=hP.1;have oY:(0:Int)<(k:Int):=by omega
     clear hx bA HX HP mE HU aX;go_upto_region 7 with(fail)
     refine Lg (λW=>W.cell? ⟨gx,0,none⟩=some (.bool s)/\W.cell? ⟨gx,1,none⟩=some (.slice p n c)/\W.cell? ⟨g1,o1+k1*2,none⟩=some (.bool s')/\W.cell? ⟨g1,o1+k1*2+1,none⟩=some (.slice p' i' c')/\W.cell? ⟨R,0,none⟩=some (.bool s5)/\W.frozen? ⟨R,0,none⟩=false/\W.cell? ⟨R,1,none⟩=some (.slice p5 n5 c5)/\W.frozen? ⟨R,1,none⟩=false) (λW E=>⟨Av E x0,Av E x1,Av E a0,Av E a1,Av E (I.at_ 0 rfl),Ab E (by rw[(I.at_ 0 rfl)];rfl) (I.free_ 0),Av E (I.at_ 1 rfl),Ab E (by rw[(I.at_ 1 rfl)];rfl) (I.free_ 1)⟩) (λcI hHeld0=>?_);clear x0 x1 a0 a1 I;refine Ap 0 ?_;refine Ap 1 ?_;refine Ap 2 ?_;refine Ap 3 ?_;refine Ap 4 ?_;refine Ap 5 ?_;refine Hq 6 rfl (λK hK=>?_);focus(go_simp;refine(cG.1 _ (Below.refl _ J).drew).mono ?_;rintro e w4 ⟨⟨s4,p4,n4,c4,rfl,cC⟩,cB⟩;have M:=Kh ((Below.refl _ J).drew.trans cB:Below J.heap.size J w4);have cM:=Kh cC;clear cC cB;(first|with_reducible refine hK.out _ _ ?_ (λhHeld1=>?_) |(go_wp2_with fail;with_reducible refine hK.out _ _ ?_ (λhHeld1=>?_))))
     focus((try dsimp only);exact cI.1 _ M.1)
     focus(clear hK K;(try simp only[Act.put,Bn,Bp,Bo]))
     refine Le 7 rfl (λK hK=>?_);go_simp
     refine hK.out _ _ ?_;clear hK K
     (try simp only[Act.put,Bn,Bp,Bo])
     all_goals go_wp2
     all_goals go_meet
     all_goals have aK:=M.1
     all_goals obtain⟨hv1,hv2⟩:=Fy (bk cA aK) cM.1
     all_goals exact⟨⟨_,_,_,_,hv1,hv2⟩,ZRow.var (ZRow.keep V.1 aK) (bk cA aK) (Nat.ne_of_lt cS),C4 (O.1.trans (aK.mono (Nat.le_of_lt V.1.sts.1))) (Nat.le_of_lt cS)⟩
    ·have HU:=Kh (show 0=u1 by rw[<-aX.1,if_neg hk0])
     obtain rfl:k=0:=by omega
     go_wp2;go_meet
     exact⟨HU.1▸gI.1,V.1,O.1⟩
   case rest=>
    obtain⟨hv,hr,E⟩:=hcut;obtain⟨J,rfl⟩:∃J:World,J=wc:=⟨_,rfl⟩
    have gL:=Kh hv;have Z:=Kh hr;have U:=Kh E;clear hv hr E gI V O;go_upto_if 32 with(fail)
    go_cut []from 29 to 40 (λwd=>fG wd R (lin a b f k)/\ZRow (lin a b f) wd g N k/\Below g w0 wd)
    case first=>
     by_cases hkm:k<m
     ·have HU:=Kh (show u1+b*f k=lin a b f k by unfold lin;rw[aX.1])
      have bA:Below w0.heap.size w0 J:=hU.1▸U.1;obtain⟨s',p',i',c',a0,a1,hx⟩:=(HR.1 k hkm).keep bA;have HP:=Kh (show Zs J s' p' i' c' (f k)from hx);have x0:=(hX.1.below_ U.1 nC).at_ 0 rfl;have x1:=(hX.1.below_ U.1 nC).at_ 1 rfl;have HX:=Kh (hO.1.keep bA);have HI:=Kh (show i'<=1000 by rw[<-hx.2.1];exact HF.1 k);have cG:=Kh (λW (E:Below J.heap.size J W)=>Gs t q m' d b s' p' i' c' (f k) W (HX.1.keep E).raw (HP.1.keep E).raw (by omega) (by have:=HI.1;omega));obtain⟨s5,p5,n5,c5,I,bE⟩:=gL.1;have cA:=Kh I;have oE:=Kh bE
      have oD:=Kh (show n5<=2000 by
       rw[<-bE.2.1,<-aX.1];split
       ·rw[Int.natAbs_mul]
        have h1:=Cf a.natAbs (f (k - 1)).natAbs;have h2:=HF.1 (k - 1);have h3:nd a.natAbs<=10:=by rw[hL.1.2.1];exact hn
        omega
       ·simp[Cr])
      have oC:=Kh (show nd (b*f k).natAbs<=2000 by
       rw[Int.natAbs_mul];have h1:=Cf b.natAbs (f k).natAbs;have h2:=HF.1 k;have h3:nd b.natAbs<=10:=by rw[hO.1.2.1];exact oI
       omega)
      have pC:(k:Int)<(m:Int):=by omega
      have gS:=hP.1;clear hx bA HX HP aX bE;go_upto_region 9 with(fail)
      refine Lg (λW=>W.cell? ⟨gy,0,none⟩=some (.bool t)/\W.cell? ⟨gy,1,none⟩=some (.slice q m' d)/\W.cell? ⟨g1,o1+k*2,none⟩=some (.bool s')/\W.cell? ⟨g1,o1+k*2+1,none⟩=some (.slice p' i' c')/\W.cell? ⟨R,0,none⟩=some (.bool s5)/\W.frozen? ⟨R,0,none⟩=false/\W.cell? ⟨R,1,none⟩=some (.slice p5 n5 c5)/\W.frozen? ⟨R,1,none⟩=false) (λW E=>⟨Av E x0,Av E x1,Av E a0,Av E a1,Av E (I.at_ 0 rfl),Ab E (by rw[(I.at_ 0 rfl)];rfl) (I.free_ 0),Av E (I.at_ 1 rfl),Ab E (by rw[(I.at_ 1 rfl)];rfl) (I.free_ 1)⟩) (λcI hHeld0=>?_);clear x0 x1 a0 a1 I;refine Ap 0 ?_;refine Ap 1 ?_;refine Ap 2 ?_;refine Ap 3 ?_;refine Ap 4 ?_;refine Ap 5 ?_;refine Hq 6 rfl (λK hK=>?_);focus(go_simp;refine(cG.1 _ (Below.refl _ J).drew).mono ?_;rintro e w4 ⟨⟨s4,p4,n4,c4,rfl,cC⟩,cB⟩;have M:=Kh ((Below.refl _ J).drew.trans cB:Below J.heap.size J w4);have cM:=Kh cC;clear cC cB;(first|with_reducible refine hK.out _ _ ?_ (λhHeld1=>?_) |(go_wp2_with fail;with_reducible refine hK.out _ _ ?_ (λhHeld1=>?_))))
      focus((try dsimp only);exact cI.1 _ M.1)
      focus(clear hK K;(try simp only[Act.put,Bn,Bp,Bo]))
      refine Hq 7 rfl (λK hK=>?_);focus(go_simp;refine(R7 s5 p5 n5 c5 u1 s4 p4 n4 c4 (b*f k) _ (oE.1.keep M.1).raw cM.1.raw (by have:=oD.1;omega) (by rw[<-cM.1.2.1];have:=oC.1;omega)).mono ?_;rintro e w6 ⟨⟨s6,p6,n6,c6,rfl,nQ⟩,mC⟩;have eT:=bt M mC;have oG:=Kh nQ;clear nQ mC;(first|with_reducible refine hK.out _ _ ?_ (λhHeld2=>?_) |(go_wp2_with fail;with_reducible refine hK.out _ _ ?_ (λhHeld2=>?_))))
      focus((try dsimp only);exact cI.1 _ eT.1)
      focus(clear hK K;(try simp only[Act.put,Bn,Bp,Bo]))
      refine Le 8 rfl (λK hK=>?_);go_simp
      refine hK.out _ _ ?_;clear hK K
      (try simp only[Act.put,Bn,Bp,Bo])
      all_goals go_wp2
      all_goals go_meet
      all_goals have aK:=eT.1
      all_goals obtain⟨hv1,hv2⟩:=Fy (bk cA aK) oG.1
      all_goals exact⟨⟨_,_,_,_,hv1,HU.1▸hv2⟩,ZRow.var (ZRow.keep Z.1 aK) (bk cA aK) (Nat.ne_of_lt cS),C4 (U.1.trans (aK.mono (Nat.le_of_lt Z.1.sts.1))) (Nat.le_of_lt cS)⟩
     ·have HU:=Kh (show u1=lin a b f k by unfold lin;rw[aX.1,oF.1 k (by omega),Int.mul_zero,Int.add_zero])
      go_wp2;go_meet
      exact⟨HU.1▸gL.1,Z.1,U.1⟩
    case rest=>
     obtain⟨⟨s5,p5,n5,c5,I,bE⟩,hr,E⟩:=hcut;obtain⟨w7,rfl⟩:∃w7:World,w7=wc:=⟨_,rfl⟩
     have y0:=I.at_ 0 rfl;have y1:=I.at_ 1 rfl;have oB:=Kh (ZRow.set (k':=k+1) hr k hlt (lin a b f) (λi' h1 h2=>⟨by omega,rfl⟩) bE);have nZ:=Kh E;obtain⟨u0,pR⟩:=nP (hr.has (k*2) (by omega));obtain⟨u2,hu2⟩:=nP (hr.has (k*2+1) (by omega));have f0:=hr.free (k*2) (by omega);have f1:=hr.free (k*2+1) (by omega);clear I bE hr E gL Z U;go_wp2;go_roundw
     case rel=>exact⟨k+1,by omega,by go_num,oB.1,C4 nZ.1 (nL _)⟩
     case measure=>simp[intOf];omega
  ·obtain rfl:N=k:=by omega
   have cT:=cF.1;clear cT;go_wp2;go_ret;exact⟨⟨g,rfl,mD,aN.1⟩,HW.1.trans (cF.1.mono mD)⟩
theorem K5 {P:Program} {W:World} {bB:Array Oper} {rest:List Oper} {o:Oper} {a:Act} {Q:Exit->Act->World->Prop} (K:Value->Prop) (cB:o.guard=none) (s x:Operand) (t E:TypeId)
  (ho:o.op=.call { callee:=.builtin .append,args:=#[s,x],argTypes:=#[t,t] }) {z:Value} {sz J:Nat} (hU:P.underlying t=some (.slice E))
  (V:(P.info? E).map (λi=>(i.zero,i.size,i.bytes))=some (some z,sz,J)) (bA:z.cells.size=sz) (aD:0<sz) (B n m g c:Nat) (v:Value) (xs I:List Value)
  (hs:a.eval s=v) (O:OwnK K W B E sz v n xs) (hx:a.eval x=.slice (some ⟨g,0,none⟩) m c) (hn:I.length=m*sz) (U:∀(j:Nat) (u:Value),I[j]?=some u->W.cell? ⟨g,j,none⟩=some u) (h1:∀u∈I,u.oneCell'=true)
  (hb:(n+m)*J<=140737488355328) (hm:n+m<=9223372036854775807) (cC:0<m) (hB:B<=W.heap.size) (bY:∀u∈I,K u) (cA:∀u∈z.cells.toList,K u)
  (h:∀Z w',OwnK K w' B E sz Z (n+m) (xs++I)->W.grownBy w' v.ownBlock->(Z.ownBlock=v.ownBlock∨Z.ownBlock=some W.heap.size)->wpList P bB Q rest (a.put o.dst Z) w'):
  wpList P bB Q (o :: rest) a W:=by
 obtain⟨i0,hi,aK,aN,aX⟩:=info_parts V
 have M:∀(j:Nat) (u:Value),I[j]?=some u->W.cell? ((⟨g,0,none⟩:Addr).add j)=some u:=by
  intro j u hu
  have e:(⟨g,0,none⟩:Addr).add j=⟨g,j,none⟩:=by
   unfold Addr.add;split
   ·rename_i h0;rw[h0]
   ·simp
  rw[e];exact U j u hu
 obtain⟨Z,w',hr,g1,g2,_,g3⟩:=run_append_own_at (P:=P) W B t o.type E i0 z sz J hU hi aK aN aX bA aD v n xs O.1 ⟨g,0,none⟩ m c I hn M h1 hm hb hB;have g4:=Ep K W B t o.type E i0 z sz J hU hi aK aN aX bA aD v n xs O.1 ⟨g,0,none⟩ m c I hn M h1 hm hb cC O.2 bY cA hr;refine wpList_plain cB λK' bE=>?_
 unfold Oper.wp execOp;simp only[ho,resolve,invoke,builtin,Sem.run_bind,Sem.run_pure,Result.andThen_ok,List.map_toArray,List.map_cons,List.map_nil,hs,hx,hr];exact bE _ _ (h Z w' ⟨g1,g4⟩ g2 g3)
def Ax (w:World) (g n:Nat):List Value:=(List.range n).map λi=>cellOf w ⟨g,i,none⟩
theorem Ci (w:World) (g n:Nat):(Ax w g n).length=n:=by unfold Ax;rw[List.length_map,List.length_range]
theorem Bc {w:World} {g n j:Nat} (E:j<n):(Ax w g n)[j]?=some (cellOf w ⟨g,j,none⟩):=by
 unfold Ax;rw[List.getElem?_map,List.getElem?_range E];rfl
theorem D3 {w:World} {g n j:Nat} {u:Value} (h:(Ax w g n)[j]?=some u):j<n:=by
 rcases Nat.lt_or_ge j n with E|E
 ·exact E
 ·rw[List.getElem?_eq_none (by rw[Ci];exact E)]at h;cases h
theorem ZRow.cellOf {f:Nat->Int} {w:World} {g N:Nat} (h:ZRow f w g N N) {i:Nat} (I:i<N*2):w.cell? ⟨g,i,none⟩=some (cellOf w ⟨g,i,none⟩):=by
 obtain⟨u,E⟩:=nP (h.has i I);rw[E,Af E]
theorem ZRow.shape {f:Nat->Int} {w:World} {g N:Nat} (h:ZRow f w g N N) {i:Nat} (M:i<N*2):(∃s,Go.Proofs.YtenlbhlllgppmaaGreatDoor.cellOf w ⟨g,i,none⟩=.bool s)∨∃p n c,Go.Proofs.YtenlbhlllgppmaaGreatDoor.cellOf w ⟨g,i,none⟩=.slice p n c:=by
 obtain⟨s,p,n,c,E,I,_⟩:=h.val (i / 2) (by omega);rcases Nat.mod_two_eq_zero_or_one i with J|J
 ·rw[show i / 2*2=i by omega]at E
  exact .inl ⟨s,Af E⟩
 ·rw[show i / 2*2+1=i by omega]at I
  exact .inr ⟨p,n,c,Af I⟩
theorem Hi {f:Nat->Int} {w:World} {g N:Nat} (h:ZRow f w g N N) {u:Value} (J:u∈Ax w g (N*2)):(∃s,u=.bool s)∨∃p n c,u=.slice p n c:=by
 obtain⟨j,E⟩:=List.getElem?_of_mem J;have I:=D3 E;rw[Bc I]at E;injection E with E
 subst E;exact h.shape I
theorem Nu {f:Nat->Int} {w:World} {g N:Nat} (h:ZRow f w g N N):∀u∈Ax w g (N*2),u.oneCell'=true:=by
 intro u E;rcases Hi h E with⟨s,rfl⟩ |⟨p,n,c,rfl⟩ <;> rfl
theorem Py {f:Nat->Int} {w:World} {g N:Nat} (h:ZRow f w g N N):∀u∈Ax w g (N*2),NotInt u:=by
 intro u E;rcases Hi h E with⟨s,rfl⟩ |⟨p,n,c,rfl⟩
 ·exact NotInt.bool _
 ·exact NotInt.slice _ _ _
theorem Lh {f:Nat->Int} {w:World} {g N:Nat} (h:ZRow f w g N N):∀(j:Nat) (u:Value),(Ax w g (N*2))[j]?=some u->w.cell? ⟨g,j,none⟩=some u:=by
 intro j u E;have I:=D3 E;rw[Bc I]at E;rw[h.cellOf I,E]
theorem OwnZ.more {f r:Nat->Int} {W w':World} {B n m g:Nat} {v U:Value} {I:List Value} (J:OwnK NotInt W B 84 2 v n I) (h:∀j,j<n->ZX (f j) W I (j*2))
  (hr:ZRow r W g m m) (h3:OwnK NotInt w' B 84 2 U (n+m) (I++Ax W g (m*2))) (hg:W.grownBy w' v.ownBlock) (f':Nat->Int) (V:∀j,j<n->f' j=f j) (Z:∀j,j<m->f' (n+j)=r j):OwnZ f' w' B U (n+m):=by
 have E:=I32.grown (K:=NotInt) (λx=>Fx x) J.2 hg;refine⟨_,h3,λj hj=>?_⟩;by_cases hjn:j<n
 ·rw[V j hjn];exact((h j hjn).i32 E).app
 ·obtain⟨k,rfl⟩:∃k,j=n+k:=⟨j - n,by omega⟩
  have M:k<m:=by omega
  have O:I.length=n*2:=J.1.1;rw[Z k M];obtain⟨s,p,c,d,c0,c1,hz⟩:=hr.val k M;refine⟨s,p,c,d,?_,?_,hz.i32 E⟩
  ·rw[List.getElem?_append_right (by omega),O,show(n+k)*2 - n*2=k*2 by omega,Bc (by omega),Af c0]
  ·rw[List.getElem?_append_right (by omega),O,show(n+k)*2+1 - n*2=k*2+1 by omega,Bc (by omega),Af c1]
end
section
open Go.RowKit Eli Tryz
theorem Qy (s:Bool) (p:Option Addr) (n c:Nat) (t:Bool) (q:Option Addr) (m d:Nat) (x:Rat) (w:World) (h:Qs w s p n c t q m d x) (I:hq x<=1000000000):
  Calls prog 80 #[.agg #[.bool s,.slice p n c,.bool t,.slice q m d]] w λe w'=>F6 w' e x/\Below w.heap.size w w':=by
 have E:=Hv s p n c x.num t q m d x.den w h.1.raw h.2.raw (by have:=h.sizes;omega) (by have:=h.sizes;omega);rw[Bj]at E;exact E
theorem Wy (s:Bool) (p:Option Addr) (n c:Nat) (t:Bool) (q:Option Addr) (m d:Nat) (x:Rat) (w:World) (h:Qs w s p n c t q m d x) (I:hq x<=1000000000000):
  Calls prog 80 #[.agg #[.bool s,.slice p n c,.bool t,.slice q m d]] w λe w'=>F6 w' e x/\Below w.heap.size w w':=by
 have E:=Hv s p n c x.num t q m d x.den w h.1.raw h.2.raw (by have:=h.sizes;omega) (by have:=h.sizes;omega);rw[Bj]at E;exact E
theorem Qa {P:Program} {W:World} {O:Array Oper} {rest:List Oper} {o:Oper} {a:Act} {Q:Exit->Act->World->Prop} (V:o.guard=none) (s x:Operand) (t E:TypeId)
  (ho:o.op=.call { callee:=.builtin .append,args:=#[s,x],argTypes:=#[t,t] }) {z:Value} {sz I:Nat} (hU:P.underlying t=some (.slice E))
  (J:(P.info? E).map (λi=>(i.zero,i.size,i.bytes))=some (some z,sz,I)) (p:Option Addr) (c:Nat)
  (hs:a.eval s=.slice none 0 0) (hx:a.eval x=.slice p 0 c)
  (h:wpList P O Q rest (a.put o.dst (.slice none 0 0)) W):
  wpList P O Q (o :: rest) a W:=by
 obtain⟨Z,hi,bA,bB,bC⟩:=info_parts J
 have M:Src P Z.size t (.slice p 0 c) 0 [] W:=by
  cases p with
  | none=>exact Src.ofNil W hU c
  | some a=>exact Src.ofSlice W hU a 0 c [] (by simp) (λj u h=>by simp at h) (λu h=>by cases h)
 have hr:=run_append_nothing (P:=P) W t t o.type E Z hU hi none 0 0 (nL _) (.slice p 0 c) M;refine wpList_plain V λK' U=>?_
 unfold Oper.wp execOp;simp only[ho,resolve,invoke,builtin,Sem.run_bind,Sem.run_pure,Result.andThen_ok,List.map_toArray,List.map_cons,List.map_nil,hs,hx,hr];exact U _ _ h
theorem bI (g N:Nat) (F:Nat->Rat) (w:World) (h:∀i,i<N->QE (IsQ (F i)) w g (i*4)) (hN:N<=1000000) (hF:∀i,i<N->hq (F i)<=1000000000):
  Calls prog 159 #[.slice (some ⟨g,0,none⟩) N N] w λe w'=>(∃g',e=.returned (.slice (some ⟨g',0,none⟩) N N)/\w.heap.size<=g'/\QRow (λi=>IsQ (F i)) w' g' N N)/\Below w.heap.size w w':=by
 have HR:=Kh h;have HF:=Kh hF;have cG:=G4 N (by omega);clear h hF;go_enter func159,ntmps159
 go_wp2_with fail
 have aK:=QRow.made (λi=>IsQ (F i)) w N;obtain⟨w0,aN⟩:∃w0,w.alloc (.cells (madeCells #[.bool false,.slice none 0 0,.bool false,.slice none 0 0] (N*4)) 86)=w0:=⟨_,rfl⟩
 have bC:Below w.heap.size w w0:=aN▸(Below.refl _ _).alloc (nL _) _;rw[aN]at aK ⊢;have aD:=Kh aK;have V:=Kh bC;obtain⟨G,hG⟩:∃G,w.heap.size=G:=⟨_,rfl⟩
 rw[hG]at aD V ⊢;have bB:=Kh hG;clear aK bC aN hG cG;go_loopw [11] (λii wr=>∃k:Nat,k<=N/\ii=.int .i64 k/\QRow (λi=>IsQ (F i)) wr G N k/\Below G w wr) (λii _=>N - (intOf ii).toNat)
 case atStart=>exact⟨0,Nat.zero_le _,rfl,aD.1,V.1⟩
 case round=>
  obtain⟨k,hk,rfl,U,I⟩:=hrel;obtain⟨w1,rfl⟩:∃w1:World,w1=wr:=⟨_,rfl⟩
  have J:=Kh U;have Z:=Kh I;clear U I aD V;by_cases hlt:k<N
  ·have eP:(k:Int)<(N:Int):=by omega
   have I:=Z.1;rw[<-bB.1]at I;obtain⟨s,p,n,c,t,q,m,d,a0,a1,a2,a3,hx⟩:=(HR.1 k hlt).keep (IsQ.solid _) I;have HX:=Kh (show Qs w1 s p n c t q m d (F k)from hx);clear hx I;go_wp2_with fail
   obtain⟨w2,aX⟩:∃w2,w1.alloc (.cells #[.bool s,.slice p n c,.bool t,.slice q m d] 86)=w2:=⟨_,rfl⟩
   have O:Below w1.heap.size w1 w2:=aX▸(Below.refl _ _).alloc (nL _) _;rw[aX];refine(Qy s p n c t q m d (F k) w2 (HX.1.keep O) (HF.1 k hlt)).mono ?_;rintro e w3 ⟨⟨s3,p3,n3,c3,t3,q3,m3,d3,rfl,bY⟩,bE⟩;have M:=O.trans (bE.mono O.size);have E:=QRow.keep (λ_=>IsQ.solid _) J.1 M;have cC:=Kh (QRow.set (k':=k+1) (λ_=>IsQ.solid _) E k hlt (λi=>IsQ (F i)) (IsQ.solid _) (λi' h1 h2=>⟨by omega,rfl⟩) (show IsQ (F k) w3 s3 p3 n3 c3 t3 q3 m3 d3 from bY));have cB:=Kh (Z.1.trans (M.mono (Nat.le_of_lt J.1.sts.1)));obtain⟨u0,eT⟩:=nP (E.has (k*4) (by omega));obtain⟨u1,eX⟩:=nP (E.has (k*4+1) (by omega));obtain⟨u2,hu2⟩:=nP (E.has (k*4+2) (by omega));obtain⟨u3,eY⟩:=nP (E.has (k*4+3) (by omega));have f0:=E.free (k*4) (by omega);have f1:=E.free (k*4+1) (by omega);have f2:=E.free (k*4+2) (by omega);have f3:=E.free (k*4+3) (by omega);clear bY O bE M E aX a0 a1 a2 a3;go_wp2;go_roundw
   case rel=>exact⟨k+1,by omega,by go_num,cC.1,A3 cB.1⟩
   case measure=>simp[intOf];omega
  ·obtain rfl:N=k:=by omega
   have hE:=bB.1;go_wp2;go_ret;exact⟨⟨G,rfl,Nat.le_of_eq hE,J.1⟩,hE▸Z.1⟩
theorem Wn (M B:Nat) (N k D:Int) (F:List Nat) (C:Nat) (X:Nat->Nat->Rat) (n:Nat) (w:World) (h:ModAt w M B N k D F C X) (hn:n<C) (Z:F.length<=1000000) (hX:∀f,f∈F->hq (X n f)<=1000000000):
  Calls prog 116 #[.pointer (some ⟨M,0,none⟩),.int .i64 n] w λe w'=>(∃g,e=.returned (.tuple #[.slice (some ⟨g,0,none⟩) F.length F.length,.int .i64 0])/\w.heap.size<=g/\QRow (λi=>IsQ (X n (F.getD i 0))) w' g F.length F.length)/\Below w.heap.size w w':=by
 obtain⟨GR,c4,_,E⟩:=h.c4;obtain⟨g,r0,hg,hq⟩:=E n hn
 have HC:=Kh (bI g F.length (λi=>X n (F.getD i 0)) w (λi U=>by
  have e:F[i]?=some (F.getD i 0):=by rw[List.getD_eq_getElem?_getD,List.getElem?_eq_getElem U];rfl
  exact hq i _ e) Z (λi U=>hX _ (by rw[List.getD_eq_getElem?_getD,List.getElem?_eq_getElem U];exact List.getElem_mem U)))
 have bA:(n:Int)<(C:Int):=by omega
 have aX:(0:Int)<=(n:Int):=by omega
 clear h E hq hX hg;go_enter func116,ntmps116
 go_wp2_with fail
 refine HC.1.mono ?_;rintro e w1 ⟨⟨g1,rfl,O,I⟩,J⟩;have V:=Kh (And.intro O (And.intro I J));clear O I J HC;go_wp2
 (first|go_ret2|go_ret)
 exact⟨⟨g1,rfl,V.1.1,V.1.2.1⟩,V.1.2.2⟩
theorem NL.val {F:List Nat} {w:World} {B:Nat} {v:Value} (h:NL F w B v):∃p c,v=.slice p F.length c:=by
 rcases h with⟨rfl,a,c,rfl⟩ |⟨g,cap,e,_⟩
 ·exact⟨a,c,rfl⟩
 ·exact⟨_,_,e⟩
theorem Wd (M B:Nat) (N k D:Int) (F:List Nat) (C:Nat) (X:Nat->Nat->Rat) (w:World) (h:ModAt w M B N k D F C X):
  Calls prog 14 #[.pointer (some ⟨M,0,none⟩)] w λe w'=>e=.returned (.int .i64 (F.length:Int))/\w'=w:=by
 obtain⟨v,c3,E⟩:=h.c3;obtain⟨p,c,rfl⟩:=E.val;clear h E;go_enter func14,ntmps14
 go_wp2;go_ret;exact⟨rfl,rfl⟩
theorem Mt (M B:Nat) (N k D:Int) (F:List Nat) (C:Nat) (X:Nat->Nat->Rat) (w:World) (h:ModAt w M B N k D F C X) (hB:B<=w.heap.size):
  Calls prog 59 #[.pointer (some ⟨M,0,none⟩)] w λe w'=>e=.returned (.agg #[.int .i64 N,.int .i64 k,.int .i64 D])/\Below w.heap.size w w':=by
 have hM:=nN h.lt hB;have c0:=h.c0;have c1:=h.c1;have c2:=h.c2;clear h;go_enter func59,ntmps59
 go_upto_if 4 with(fail)
 obtain⟨w0,O,I,E⟩:=bx1 w #[.int .i64 0,.int .i64 0,.int .i64 0] 23;rw[O];have c0:=Ad E c0;have c1:=Ad E c1;have c2:=Ad E c2;have r0:=I.at_ 0 rfl;have r1:=I.at_ 1 rfl;have r2:=I.at_ 2 rfl;have f0:=I.free_ 0;have f1:=I.free_ 1;have f2:=I.free_ 2;go_wp2;have J:=((I.set_ 0 (.int .i64 N)).set_ 1 (.int .i64 k)).set_ 2 (.int .i64 D);have U:=J.at_ 0 rfl;have V:=J.at_ 1 rfl;have Z:=J.at_ 2 rfl;try simp only[Exit.inBlock,Exit.then]
 refine bodyPost_ret (by simp[results,results59,go_sem,U,V,Z];try rfl) rfl ?_;exact⟨rfl,((E.setCell (p:=⟨w.heap.size,0,none⟩) (nL _) _).setCell (p:=⟨w.heap.size,1,none⟩) (nL _) _).setCell (p:=⟨w.heap.size,2,none⟩) (nL _) _⟩
theorem fJ (M B:Nat) (N k D:Int) (F:List Nat) (C:Nat) (X:Nat->Nat->Rat) (w:World) (h:ModAt w M B N k D F C X) (aN:F.length<=1000000):
  Calls prog 60 #[.pointer (some ⟨M,0,none⟩)] w λe w'=>(∃v,e=.returned v/\OwnN F w' w.heap.size v)/\Below w.heap.size w w':=by
 obtain⟨v,c3,h3⟩:=h.c3;clear h;rcases h3 with⟨rfl,a,c,rfl⟩ |⟨g,cap,rfl,hc,cA,hg,Z⟩
 ·have HN:=Kh (OwnN.nil w w.heap.size)
  go_enter func60,ntmps60
  go_wp2_with (at_builtin;refine Qa rfl (.const (.slice none 0 0)) (.tmp 8) _ 3 rfl underlying93 Es a c rfl rfl ?_)
  go_ret;exact⟨⟨_,rfl,HN.1⟩,Below.refl _ _⟩
 ·rcases Nat.eq_zero_or_pos F.length with h0|V
  ·have HN:=Kh (OwnN.nil w w.heap.size)
   obtain rfl:F=[]:=List.eq_nil_of_length_eq_zero h0;rw[List.length_nil]at c3;clear hc Z aN h0;go_enter func60,ntmps60
   go_wp2_with (at_builtin;refine Qa rfl (.const (.slice none 0 0)) (.tmp 8) _ 3 rfl underlying93 Es (some ⟨g,0,none⟩) cap rfl rfl ?_)
   go_ret;exact⟨⟨_,rfl,HN.1⟩,Below.refl _ _⟩
  ·have HX:=Kh Z
   have E:∀(j:Nat) (u:Value),(F.map λn:Nat=>Value.int .i64 (n:Int))[j]?=some u->w.cell? ⟨g,j,none⟩=some u:=by
    intro j u J;rw[List.getElem?_map]at J;cases hF:F[j]? with
    | none=>rw[hF]at J;cases J
    | some x=>rw[hF]at J;injection J with J;rw[<-J];exact Z j x hF
   have aK:=Kh E;clear Z E;go_enter func60,ntmps60
   go_wp2_with (at_builtin;refine K5 NotU32 rfl (.const (.slice none 0 0)) (.tmp 8) _ 3 rfl underlying93 Es rfl (by decide) w.heap.size 0 F.length g cap (.slice none 0 0) [] (F.map λn:Nat=>Value.int .i64 (n:Int)) rfl (OwnK.nil _ _ _ _ _) rfl (by rw[List.length_map,Nat.mul_one]) aK.1 (by intro u O;obtain⟨x,_,rfl⟩:=List.mem_map.1 O;rfl) (by omega) (by omega) V (nL _) (by intro u O;obtain⟨x,_,rfl⟩:=List.mem_map.1 O;exact λ_ h=>by cases h) (by intro u O;simp[Value.cells]at O;subst O;exact λ_ h=>by cases h) ?_;intro v' w' I U aX;have HO:=Kh (show OwnN F w' w.heap.size v' by have h:=I;rw[Nat.zero_add,List.nil_append]at h;exact h);have HB:=Kh (At (Below.refl w.heap.size w) (OwnK.nil NotU32 w w.heap.size 3 1).1 U (nL _) (nL _));clear I U aX)
   go_ret;exact⟨⟨_,rfl,HO.1⟩,HB.1⟩
end
end Go.Proofs.YtenlbhlllgppmaaGreatDoor
