/- Contracts of Fundamental and Psi of package arith, for numbers of at most 120. -/
import Derived.Test.YtenlbhlllgppmaaGreatDoorA03
set_option maxRecDepth 100000
set_option maxHeartbeats 8000000
namespace Go.Proofs.YtenlbhlllgppmaaGreatDoor
open Go.RowKit Tryz
def One (w:World) (b:Nat) (x:Int):Prop:=w.heap[b]?=some (.cells #[.int .i64 x] 3 (0,0))
theorem One.cell {w:World} {b:Nat} {x:Int} (h:One w b x):w.cell? ⟨b,0,none⟩=some (.int .i64 x):=by unfold One at h;simp[World.cell?,h]
theorem One.free {w:World} {b:Nat} {x:Int} (h:One w b x):w.frozen? ⟨b,0,none⟩=false:=by unfold One at h;simp[World.frozen?,h]
theorem One.lt {w:World} {b:Nat} {x:Int} (h:One w b x):b<w.heap.size:=by
 rcases Nat.lt_or_ge b w.heap.size with hlt|I
 ·exact hlt
 ·unfold One at h;rw[Array.getElem?_eq_none I]at h;cases h
theorem One.drew {w:World} {b:Nat} {x:Int} (h:One w b x) (n:Nat):One (w.drewN n) b x:=h
theorem One.set_ {w:World} {b:Nat} {x:Int} (h:One w b x) (y:Int):One (w.setCell ⟨b,0,none⟩ (.int .i64 y)) b y:=by
 unfold One at h ⊢;simp[World.setCell,Array.getElem?_modify,h]
theorem One.far {w:World} {b c:Nat} {x:Int} (h:One w b x) (I:b≠c) (v:Value):One (w.setCell ⟨c,0,none⟩ v) b x:=(Below.heap_setCell w ⟨c,0,none⟩ v b I).trans h
theorem One.new (w:World) (x:Int):One (w.alloc (.cells #[.int .i64 x] 3)) w.heap.size x:=heap_alloc_new w _
theorem One.alloc {w:World} {b:Nat} {x:Int} (h:One w b x) (o:Obj):One (w.alloc o) b x:=(Below.heap_alloc w o b h.lt).trans h
theorem Jy (p e r:Nat) (w:World) (J:0<p) (M:e<=64) (hr:p ^ e=r) (h:r<9223372036854775808):
  Calls prog 198 #[.int .i64 p,.int .i64 e] w λI w'=>I=.returned (.int .i64 (r:Int))/\w'=w:=by
 subst hr;refine(Z3 p e w J (by omega) (by omega) (by simpa using h)).mono ?_;rintro I w' ⟨rfl,rfl⟩;exact⟨by simp,rfl⟩
theorem K4 {x r:Nat} (h:x*r<9223372036854775808):IntKind.i64.wrap ((x:Int)*(r:Int))=((x*r:Nat):Int):=by
 rw[<-Int.natCast_mul];exact IntWalk.i64_in _ (by omega)
theorem Zn (p e I O B:Nat) (x y:Nat) (w:World) (hp:0<p) (he:e<=60) (h1:One w I x) (h2:One w O y) (aX:I≠O) (cX:B<=I) (cY:B<=O)
  (hx:x*p ^ (e % 2)<9223372036854775808) (hy:y*p ^ (e / 2)<9223372036854775808) (U:p ^ (e % 2)<9223372036854775808) (V:p ^ (e / 2)<9223372036854775808):
  Calls prog 197 #[.int .i64 p,.int .i64 e,.pointer (some ⟨I,0,none⟩),.pointer (some ⟨O,0,none⟩)] w λen w'=>
   en=.returned (.tuple #[])/\One w' I ((x*p ^ (e % 2):Nat):Int)/\One w' O ((y*p ^ (e / 2):Nat):Int)/\Below B w w':=by
 generalize hr:p ^ (e % 2)=r at hx U;generalize hs:p ^ (e / 2)=s at hy V;have ht:(e:Int).tmod 2=((e % 2:Nat):Int):=by rw[Int.tmod_eq_emod_of_nonneg (by omega)];rfl
 have hd:IntKind.i64.wrap ((e:Int) / 2)=((e / 2:Nat):Int):=IntWalk.i64_in _ (by omega);have dC:=K4 hx;have hG:=K4 hy;have aK:=λw=>Jy p (e % 2) r w hp (by omega) hr U
 have aN:=λw=>Jy p (e / 2) s w hp (by omega) hs V
 have HR:=Kh hr;have HS:=Kh hs;clear hr hs;have c1:=h1.cell;have f1:=h1.free;have H1:=Kh h1;have H2:=Kh h2;have bH:=Kh aK;have bY:=Kh aN;clear h1 h2 aK aN;go_enter func197,ntmps197
 go_wp2;go_still_tail 6,(by kernel_rfl)
 still_call (bH.1 _)
 repeat still_step
 refine wpStill_nil ?_;obtain⟨w1,J,K1,B1⟩:∃w1,w1=w.drew/\One w1 I x/\Below B w w1:=⟨_,rfl,H1.1,(Below.refl _ _).drew⟩
 have K2:One w1 O y:=by rw[J];exact H2.1
 change wpList _ _ _ _ _ w.drew;rw[<-J];have cT:=K1.cell;have cV:=K1.free;have cA:=Kh K1;have cB:=Kh K2;have HW:=Kh J;clear J K1 K2 c1 f1;go_wp2
 obtain⟨Z,Y,L1,L2,B2⟩:∃Z,Z=w1.setCell ⟨I,0,none⟩ (.int .i64 ((x:Int)*(r:Int)))/\One Z I ((x*r:Nat):Int)/\One Z O y/\Below B w Z:=
  ⟨_,rfl,by rw[Int.natCast_mul];exact cA.1.set_ _,cB.1.far (λh=>aX h.symm) _,B1.setCell cX _⟩
 rw[<-Y];have c2:=L2.cell;have f2:=L2.free;have cC:=Kh L1;have cD:=Kh L2;have gX:=Kh Y;clear cT cV L1 L2 Y dC;go_still_tail 6,(by kernel_rfl)
 still_call (bY.1 _)
 repeat still_step
 refine wpStill_nil ?_;obtain⟨w3,M,M1,B3⟩:∃w3,w3=Z.drew/\One w3 I ((x*r:Nat):Int)/\Below B w w3:=⟨_,rfl,cC.1,B2.drew⟩
 have M2:One w3 O y:=by rw[M];exact cD.1
 change wpList _ _ _ _ _ Z.drew;rw[<-M];have c3:=M2.cell;have f3:=M2.free;have cF:=Kh M1;have cG:=Kh M2;have gY:=Kh M;clear M M1 M2 c2 f2;go_wp2;go_end0;refine⟨rfl,?_,?_,B3.setCell cY _⟩
 ·exact cF.1.far aX _
 ·rw[Int.natCast_mul];exact cG.1.set_ _
def N5 (w0:World) (b1 b2:Nat) (n:Nat) (k:Nat) (w:World):Prop:=
 One w b1 (Pl.fundFold ((Pl.facs n).take k)).1/\One w b2 (Pl.fundFold ((Pl.facs n).take k)).2/\Below w0.heap.size w0 w
theorem Sw {q e m:Nat} (hq:1<q) (h:m<=e) (I:q ^ e<=120):q ^ m<9223372036854775808:=by
 have:=Nat.pow_le_pow_right (show 0<q by omega) h;omega
theorem L4 {w0:World} {I J n k q e:Nat} {w:World} (hn:n<121) (h:(Pl.facs n)[k]?=some (q,e)) (hI:N5 w0 I J n k w) (M:I≠J) (Y:w0.heap.size<=I) (Z:w0.heap.size<=J):
  Calls prog 197 #[.int .i64 q,.int .i64 e,.pointer (some ⟨I,0,none⟩),.pointer (some ⟨J,0,none⟩)] w λV w'=>V=.returned (.tuple #[])/\N5 w0 I J n (k+1) w':=by
 obtain⟨i1,i2,i3⟩:=hI;obtain⟨O,a2,a3,a4,U,a6,a7,a8⟩:=Pl.facs_at hn h;refine(Zn q e I J w0.heap.size _ _ w (by omega) (by omega) i1 i2 M Y Z (by omega) (by omega) (Sw O (by omega) U) (Sw O (by omega) U)).mono ?_;rintro V w' ⟨rfl,j1,j2,j3⟩;refine⟨rfl,?_,?_,i3.trans j3⟩
 ·rw[Pl.fundFold_snoc h];exact j1
 ·rw[Pl.fundFold_snoc h];exact j2
theorem callFund (args:Array Value) (w:World):(callFunc 197 args).run prog w=.ok (.enter 197 args) w:=by
 kernel_rfl
theorem Ip (w:World) (n:Nat):N5 w (w.heap.size+1) w.heap.size n 0 ((w.alloc (.cells #[.int .i64 1] 3)).alloc (.cells #[.int .i64 1] 3)):=by
 refine⟨?_,(One.new w 1).alloc _,((Below.refl _ _).alloc (mG _) _).alloc (by simp) _⟩;have:=One.new (w.alloc (.cells #[.int .i64 1] 3)) 1;rw[show(w.alloc (.cells #[.int .i64 1] 3)).heap.size=w.heap.size+1 from by simp]at this;exact this
theorem T3 {n x y:Nat} (I:(Pl.fundFold (Pl.facs n)).1=x) (J:(Pl.fundFold (Pl.facs n)).2=y):Pl.fundP n=if(x:Int) % 4≠1 then(4*(x:Int),((y / 2:Nat):Int))else((x:Int),(y:Int)):=by
 subst I J;unfold Pl.fundP;have:¬(n:Int)<0:=by omega
 simp only[this,if_false,Int.natAbs_natCast]
theorem Tz {n x y:Nat} (h:0<n) (I:(Pl.fundFold (Pl.facs n)).1=x) (J:(Pl.fundFold (Pl.facs n)).2=y):Pl.fundP (-(n:Int))=if(-(x:Int)) % 4≠1 then(4 * -(x:Int),((y / 2:Nat):Int))else(-(x:Int),(y:Int)):=by
 subst I J;unfold Pl.fundP;have:-(n:Int)<0:=by omega
 simp only[this,if_true,Int.natAbs_neg,Int.natAbs_natCast]
theorem Qh (n:Nat) (w:World) (h0:0<n) (bH:n<=120) (hm:(n:Int) % 4<=1):
  Calls prog 161 #[.int .i64 n] w λV w'=>V=.returned (.tuple #[.int .i64 (Pl.fundP n).1,.int .i64 (Pl.fundP n).2,.int .i64 0])/\Below w.heap.size w w':=by
 obtain⟨x,J⟩:∃x,(Pl.fundFold (Pl.facs n)).1=x:=⟨_,rfl⟩
 obtain⟨y,M⟩:∃y,(Pl.fundFold (Pl.facs n)).2=y:=⟨_,rfl⟩
 have Y:=Pl.fund_bound n (by omega);rw[J,M]at Y;obtain⟨bE,bG⟩:=Y;have U:=Kh (T3 J M);have HX:=Kh J;have HY:=Kh M;clear J M;go_enter func161,ntmps161
 go_wp2_with (first |(go_at_call 126;refine(c_residue _ _ _ (by omega) (by omega)).mono ?_;rintro e w' ⟨rfl,rfl⟩))
 refine(Hu n 197 _ _ _ (N5 w (w.heap.size+1) w.heap.size n) h0 (by omega) (Ip w n) callFund (λk q e wk h hI=>L4 (by omega) h hI (by omega) (by omega) (by omega))).mono ?_;rintro V w1 ⟨rfl,O,I,j3⟩;rw[List.take_length,HX.1]at O;rw[List.take_length,HY.1]at I;have c1:=O.cell;have c2:=I.cell;have f2:=I.free;have aK:=Kh O;have aN:=Kh I;clear O I;by_cases hx4:(x:Int) % 4=1
 ·go_wp2_with (first |(go_at_call 126;refine(c_residue _ _ _ (by omega) (by omega)).mono ?_;rintro e w' ⟨rfl,rfl⟩))
  go_region
  all_goals go_wp2
  all_goals (refine bodyPost_ret (v:=.tuple #[.int .i64 (x:Int),.int .i64 (y:Int),.int .i64 0]) (by simp[results,results161,go_sem,c2]) rfl ⟨?_,?_⟩)
  ·rw[U.1,if_neg (by omega)]
  ·exact(j3.setCell (mG _) _).drew
 ·have Z:((x:Int) % 4 != 1)=true:=by simp;omega
  go_wp2_with (first |(go_at_call 126;refine(c_residue _ _ _ (by omega) (by omega)).mono ?_;rintro e w' ⟨rfl,rfl⟩))
  go_region
  all_goals go_wp2
  all_goals (refine bodyPost_ret (v:=.tuple #[.int .i64 (4*(x:Int)),.int .i64 ((y / 2:Nat):Int),.int .i64 0]) (by simp[results,results161,go_sem,c2]) rfl ⟨?_,?_⟩)
  ·rw[U.1,if_pos (by omega)]
  ·exact(j3.setCell (mG _) _).drew
theorem Qg (n:Nat) (w:World) (h0:0<n) (cF:n<=120) (hm:(-(n:Int)) % 4<=1):
  Calls prog 161 #[.int .i64 (-(n:Int))] w λen w'=>en=.returned (.tuple #[.int .i64 (Pl.fundP (-(n:Int))).1,.int .i64 (Pl.fundP (-(n:Int))).2,.int .i64 0])/\Below w.heap.size w w':=by
 obtain⟨x,O⟩:∃x,(Pl.fundFold (Pl.facs n)).1=x:=⟨_,rfl⟩
 obtain⟨y,U⟩:∃y,(Pl.fundFold (Pl.facs n)).2=y:=⟨_,rfl⟩
 have hb:=Pl.fund_bound n (by omega);rw[O,U]at hb;obtain⟨cC,cD⟩:=hb;have HP:=Kh (Tz h0 O U);have HX:=Kh O;have HY:=Kh U;clear O U;have hz:((-(n:Int))==0)=false:=by simp;omega
 go_enter func161,ntmps161
 go_wp2_with (first |(go_at_call 126;refine(c_residue _ _ _ (by omega) (by omega)).mono ?_;rintro e w' ⟨rfl,rfl⟩))
 all_goals try(exfalso;omega)
 refine(Hu n 197 _ _ _ (N5 w (w.heap.size+1) w.heap.size n) h0 (by omega) (Ip w n) callFund (λk q e wk h hI=>L4 (by omega) h hI (by omega) (by omega) (by omega))).mono ?_;rintro en w1 ⟨rfl,J,j2,j3⟩;rw[List.take_length,HX.1]at J;rw[List.take_length,HY.1]at j2;have c1:=J.cell;have f1:=J.free;have Y:=Kh J;have Z:=Kh j2;clear J j2;have hlt:-(n:Int)<0:=by omega
 go_upto_if 33 with(first |(go_at_call 126;refine(c_residue _ _ _ (by omega) (by omega)).mono ?_;rintro e w' ⟨rfl,rfl⟩))
 obtain⟨M,I,k1,V,k3⟩:∃M,M=w1.setCell ⟨w.heap.size+1,0,none⟩ (.int .i64 (-(x:Int)))/\One M (w.heap.size+1) (-(x:Int))/\One M w.heap.size y/\Below w.heap.size w M:=
  ⟨_,rfl,Y.1.set_ _,Z.1.far (by omega) _,j3.setCell (by show w.heap.size<=w.heap.size+1;omega) _⟩
 rw[<-I];have bG:=Kh I;have c3:=k1.cell;have c2:=V.cell;have f2:=V.free;have K1:=Kh k1;have K2:=Kh V;clear I k1 V c1 f1;by_cases hx4:(-(x:Int)) % 4=1
 ·go_wp2
  go_region
  all_goals go_wp2
  all_goals (refine bodyPost_ret (v:=.tuple #[.int .i64 (-(x:Int)),.int .i64 (y:Int),.int .i64 0]) (by simp[results,results161,go_sem,c2]) rfl ⟨?_,?_⟩)
  ·rw[HP.1,if_neg (by omega)]
  ·exact(k3.setCell (mG _) _).drew
 ·have bC:((-(x:Int)) % 4 != 1)=true:=by simp;omega
  go_wp2;go_region
  all_goals go_wp2
  all_goals (refine bodyPost_ret (v:=.tuple #[.int .i64 (4 * -(x:Int)),.int .i64 ((y / 2:Nat):Int),.int .i64 0]) (by simp[results,results161,go_sem,c2]) rfl ⟨?_,?_⟩)
  ·rw[HP.1,if_pos (by omega)]
  ·exact(k3.setCell (mG _) _).drew
theorem Qf (d:Int) (w:World) (M:d≠0) (O:-120<=d) (J:d<=120) (U:1<d % 4):
  Calls prog 161 #[.int .i64 d] w λI w'=>I=.returned (.tuple #[.int .i64 0,.int .i64 0,.int .i64 15])/\Below w.heap.size w w':=by
 have V:(d==0)=false:=by simp;omega
 go_enter func161,ntmps161
 go_wp2_with (first |(go_at_call 126;refine(c_residue _ _ _ (by omega) (by omega)).mono ?_;rintro e w' ⟨rfl,rfl⟩))
 all_goals try(exfalso;omega)
 refine bodyPost_ret (v:=.tuple #[.int .i64 0,.int .i64 0,.int .i64 15]) (by simp[results,results161,go_sem]) rfl ⟨rfl,?_⟩;go_grown
theorem Og (w:World):
  Calls prog 161 #[.int .i64 0] w λI w'=>I=.returned (.tuple #[.int .i64 0,.int .i64 0,.int .i64 2])/\Below w.heap.size w w':=by
 go_enter func161,ntmps161
 go_wp2;refine bodyPost_ret (v:=.tuple #[.int .i64 0,.int .i64 0,.int .i64 2]) (by simp[results,results161,go_sem]) rfl ⟨rfl,?_⟩;go_grown
/-! Psi -/
theorem dU (q e:Nat) (w:World) (hq:0<q) (Z:q<=1000) (he:0<e) (V:e<=60) (h:q ^ (e - 1)*(q+1)<9223372036854775808):
  Calls prog 200 #[.int .i64 q,.int .i64 e] w λM w'=>M=.returned (.int .i64 ((q ^ (e - 1)*(q+1):Nat):Int))/\w=w':=by
 obtain⟨r,hr⟩:∃r,q ^ (e - 1)=r:=⟨_,rfl⟩
 rw[hr]at h ⊢;have I:r<9223372036854775808:=Nat.lt_of_le_of_lt (Nat.le_mul_of_pos_right _ (by omega)) h;have O:0<=(r:Int)*((q:Int)+1):=by rw[show(r:Int)*((q:Int)+1)=((r*(q+1):Nat):Int)from by simp];omega
 have U:(r:Int)*((q:Int)+1)<9223372036854775808:=by rw[show(r:Int)*((q:Int)+1)=((r*(q+1):Nat):Int)from by simp];omega
 have Y:(e:Int) - 1=((e - 1:Nat):Int):=by omega
 have J:=Kh hr;clear hr;go_enter func200,ntmps200
 go_wp2_with (first |(go_at_call 198;refine(Jy q (e - 1) r _ hq (by omega) J.1 I).mono ?_;rintro e w' ⟨rfl,rfl⟩))
 go_ret;exact⟨A3 (by simp),rfl⟩
theorem Qm (q e J M B x:Nat) (w:World) (hq:0<q) (bA:q<=1000) (he:0<e) (aN:e<=60) (O:One w J x) (Y:w.heap[M]?=some (.cells #[.func (.func 200) #[] #[]] 88 (0,0))) (aK:B<=J)
  (h:q ^ (e - 1)*(q+1)<9223372036854775808) (hx:x*(q ^ (e - 1)*(q+1))<9223372036854775808):
  Calls prog 213 #[.int .i64 q,.int .i64 e,.pointer (some ⟨J,0,none⟩),.pointer (some ⟨M,0,none⟩)] w λen w'=>
   en=.returned (.tuple #[])/\One w' J ((x*(q ^ (e - 1)*(q+1)):Nat):Int)/\w'.heap[M]?=some (.cells #[.func (.func 200) #[] #[]] 88 (0,0))/\Below B w w':=by
 have c1:=O.cell;have f1:=O.free;have c2:w.cell? ⟨M,0,none⟩=some (.func (.func 200) #[] #[]):=by simp[World.cell?,Y]
 have aX:J≠M:=by
  rintro rfl;unfold One at O;rw[Y]at O;simp at O
 have CP:=λw=>(dU q e w hq bA he aN h).mono λ_ _ h=>(⟨h.1,h.2.symm⟩:_/\_=w)
 have cF:=K4 hx;generalize q ^ (e - 1)*(q+1)=r at *;have HC:=Kh CP;have H1:=Kh O;have H2:=Kh Y;clear CP O Y;go_enter func213,ntmps213
 go_wp2;go_still_tail 6,(by kernel_rfl)
 still_call (HC.1 _)
 repeat still_step
 refine wpStill_nil ?_;obtain⟨U,I,V,B3⟩:∃U,U=w.drew/\One U J x/\Below B w U:=⟨_,rfl,H1.1,(Below.refl _ _).drew⟩
 have M2:U.heap[M]?=some (.cells #[.func (.func 200) #[] #[]] 88 (0,0)):=by rw[I];exact H2.1
 change wpList _ _ _ _ _ w.drew;rw[<-I];have c3:=V.cell;have f3:=V.free;have Z:=Kh V;have aD:=Kh M2;have cA:=Kh I;clear I V M2 c2 c1 f1;go_wp2;go_end0;refine⟨rfl,?_,(Below.heap_setCell U ⟨J,0,none⟩ _ M (λh=>aX h.symm)).trans aD.1,B3.setCell aK _⟩;rw[Int.natCast_mul];exact Z.1.set_ _
def Zd (w0:World) (b1 b2:Nat) (n:Nat) (k:Nat) (w:World):Prop:=
 One w b1 (Pl.psiFold ((Pl.facs n).take k))/\w.heap[b2]?=some (.cells #[.func (.func 200) #[] #[]] 88 (0,0))/\Below w0.heap.size w0 w
theorem Xz {w0:World} {I J n k q e:Nat} {w:World} (hn:n<121) (h:(Pl.facs n)[k]?=some (q,e)) (V:Zd w0 I J n k w) (U:w0.heap.size<=I):
  Calls prog 213 #[.int .i64 q,.int .i64 e,.pointer (some ⟨I,0,none⟩),.pointer (some ⟨J,0,none⟩)] w λM w'=>M=.returned (.tuple #[])/\Zd w0 I J n (k+1) w':=by
 obtain⟨Y,Z,i3⟩:=V;obtain⟨a1,a2,O,a4,a5,a6,a7,a8⟩:=Pl.facs_at hn h
 have h9:q ^ (e - 1)*(q+1)<=1000*1000:=by
  have e1:=Nat.pow_le_pow_right (show 0<q by omega) (show e - 1<=e by omega);exact Nat.mul_le_mul (by omega) (by omega)
 refine(Qm q e I J w0.heap.size _ w (by omega) (by omega) O (by omega) Y Z U (by omega) (by omega)).mono ?_;rintro M w' ⟨rfl,j1,j2,j3⟩;refine⟨rfl,?_,j2,i3.trans j3⟩;rw[Pl.psiFold_snoc h];exact j1
theorem V8 (args:Array Value) (w:World):(callFunc 213 args).run prog w=.ok (.enter 213 args) w:=by
 kernel_rfl
theorem Q8 (w:World) (n:Nat):Zd w (w.heap.size+1) w.heap.size n 0 ((w.alloc (.cells #[.func (.func 200) #[] #[]] 88)).alloc (.cells #[.int .i64 1] 3)):=by
 refine⟨?_,?_,((Below.refl _ _).alloc (mG _) _).alloc (by simp) _⟩
 ·have:=One.new (w.alloc (.cells #[.func (.func 200) #[] #[]] 88)) 1
  rw[show(w.alloc (.cells #[.func (.func 200) #[] #[]] 88)).heap.size=w.heap.size+1 from by simp]at this;exact this
 ·exact(Below.heap_alloc _ _ _ (by simp)).trans (heap_alloc_new w _)
theorem Lc (n:Int) (w:World) (h:1<=n) (J:n<=2147483647):
  Calls prog 124 #[.int .i64 n] w λI w'=>I=.returned (.bool true)/\w=w':=by
 have M:decide (n<=2147483647)=true:=by simpa using J
 go_enter func124,ntmps124
 go_wp2;go_ret;exact⟨by simp,rfl⟩
theorem gH (n:Nat) (w:World) (V:0<n) (hn:n<=120):
  Calls prog 162 #[.int .i64 n] w λI w'=>I=.returned (.tuple #[.int .i64 (Pl.psi n),.int .i64 0])/\Below w.heap.size w w':=by
 have hp:Calls prog 199 #[.int .i64 n,.func (.func 200) #[] #[]] w λI w'=>I=.returned (.tuple #[.int .i64 (Pl.psi n),.int .i64 0])/\Below w.heap.size w w':=by
  go_enter func199,ntmps199
  go_wp2_with (go_at_call 124;refine(Lc _ _ (by omega) (by omega)).mono ?_;rintro e w' ⟨rfl,rfl⟩)
  refine(Hu n 213 _ _ _ (Zd w (w.heap.size+1) w.heap.size n) V (by omega) (Q8 w n) V8 (λk q e wk h Y=>Xz (by omega) h Y (by omega))).mono ?_;rintro I w1 ⟨rfl,J,M,j3⟩;rw[List.take_length]at J;have c1:=J.cell;have O:=Kh J;have U:=Kh M;clear J M;go_wp2;go_ret2
  exact⟨rfl,j3⟩
 go_enter func162,ntmps162
 go_wp2_with (go_at_call 199;refine hp.mono ?_;rintro I w1 ⟨rfl,Z⟩)
 go_ret2
 exact⟨rfl,Z⟩
abbrev Uu (N k D:Int):Value:=.agg #[.int .i64 N,.int .i64 k,.int .i64 D]
theorem Fa {N k D:Int} (h:N<1∨120<N∨k<2∨24<k∨D < -120∨120<D):Pl.check N k D=2:=by unfold Pl.check;rw[if_pos h]
theorem fund_yes {D:Int} (h:Pl.fund D=true):D≠0/\D % 4<=1/\(Pl.fundP D).2=1:=by
 simp only[Pl.fund,Bool.and_eq_true,decide_eq_true_eq]at h;exact⟨h.1.1,h.1.2,h.2⟩
theorem Lb (d:Int) (w:World) (U:-120<=d) (M:d<=120):
  Calls prog 161 #[.int .i64 d] w λI w'=>(∃a b c:Int,I=.returned (.tuple #[.int .i64 a,.int .i64 b,.int .i64 c])/\(Pl.fund d=true↔c=0/\b=1))/\Below w.heap.size w w':=by
 by_cases h0:d=0
 ·subst h0
  refine(Og w).mono ?_;rintro I w' ⟨rfl,J⟩;exact⟨⟨0,0,2,rfl,by decide⟩,J⟩
 ·by_cases h1:1<d % 4
  ·refine(Qf d w h0 U M h1).mono ?_
   rintro I w' ⟨rfl,J⟩;refine⟨⟨0,0,15,rfl,?_⟩,J⟩;constructor
   ·intro h;have:=fund_yes h;omega
   ·intro h;omega
  ·have O:Calls prog 161 #[.int .i64 d] w λI w'=>I=.returned (.tuple #[.int .i64 (Pl.fundP d).1,.int .i64 (Pl.fundP d).2,.int .i64 0])/\Below w.heap.size w w':=by
    by_cases h2:0<=d
    ·obtain⟨n,rfl⟩:=Int.eq_ofNat_of_zero_le h2
     exact Qh n w (by omega) (by omega) (by omega)
    ·obtain⟨n,rfl⟩:∃n:Nat,d=-(n:Int):=⟨d.natAbs,by omega⟩
     exact Qg n w (by omega) (by omega) (by omega)
   refine O.mono ?_;rintro I w' ⟨rfl,J⟩;refine⟨⟨_,_,0,rfl,?_⟩,J⟩;constructor
   ·intro h;exact⟨rfl,(fund_yes h).2.2⟩
   ·intro h
    simp only[Pl.fund,Bool.and_eq_true,decide_eq_true_eq];exact⟨⟨h0,by omega⟩,h.2⟩
theorem K9 (N k D:Int) (w:World) (h:N<1∨120<N∨k<2∨24<k∨D < -120∨120<D):
  Calls prog 127 #[Uu N k D] w λI w'=>I=.returned (.int .i64 (Pl.check N k D))/\Below w.heap.size w w':=by
 rw[Fa h];by_cases h1:N<1
 ·go_enter func127,ntmps127
  go_wp2;go_ret;exact⟨rfl,by go_grown⟩
 ·by_cases h2:120<N
  ·go_enter func127,ntmps127
   go_wp2;go_ret;exact⟨rfl,by go_grown⟩
  ·by_cases h3:k<2
   ·go_enter func127,ntmps127
    go_wp2;go_ret;exact⟨rfl,by go_grown⟩
   ·by_cases h4:24<k
    ·go_enter func127,ntmps127
     go_wp2;go_ret;exact⟨rfl,by go_grown⟩
    ·by_cases h5:D < -120
     ·go_enter func127,ntmps127
      go_wp2;go_ret;exact⟨rfl,by go_grown⟩
     ·have J:120<D:=by omega
      go_enter func127,ntmps127
      go_wp2;go_ret;exact⟨rfl,by go_grown⟩
theorem Ia (D k:Int) (I:D≠0):((decide (D<0) !=(k % 2==1))=true)↔((D<0/\k % 2=0)∨(0<D/\k % 2=1)):=by
 by_cases h1:D<0 <;> by_cases h2:k % 2=1 <;> simp[h1,h2] <;> omega
theorem Qb (N k D:Int) (w:World) (hN:1<=N) (dC:N<=120) (hk:2<=k) (dX:k<=24) (hD:-120<=D) (bG:D<=120):
  Calls prog 127 #[Uu N k D] w λen w'=>en=.returned (.int .i64 (Pl.check N k D))/\Below w.heap.size w w':=by
 have HF:Pl.check N k D=if Pl.fund D=false then 15 else if N % D≠0 then 14 else if(D<0/\k % 2=0)∨(0<D/\k % 2=1)then 16 else if 512<(Pl.psi N.toNat:Int)*(k - 1)then 7 else 0:=by
  unfold Pl.check;rw[if_neg (by omega)]
 obtain⟨n,rfl⟩:=Int.eq_ofNat_of_zero_le (show 0<=N by omega);have bY:=Pl.psi_small n (by omega) (by omega);rw[Int.toNat_natCast]at HF;obtain⟨q,hq⟩:∃q,Pl.psi n=q:=⟨_,rfl⟩
 rw[hq]at HF bY;have U:=Kh HF;clear HF;have HQ:=Kh hq;clear hq;go_enter func127,ntmps127
 go_wp2_with fail
 refine(Lb D _ hD bG).mono ?_;rintro en w1 ⟨⟨a,b,c,rfl,I⟩,J⟩;simp only[World.size_alloc]at J;have B1:Blk w1 w.heap.size 23 #[.int .i64 n,.int .i64 k,.int .i64 D]:=(Blk.new w _ _).below_ J (by omega);have W1:Below w.heap.size w w1:=((Below.refl _ _).alloc (mG _) _).trans (J.mono (by omega));by_cases hfd:Pl.fund D=false
 ·have bH:c≠0∨b≠1:=by
   by_cases O:c=0
   ·by_cases Y:b=1
    ·rw[I.2 ⟨O,Y⟩]at hfd;cases hfd
    ·exact .inr Y
   ·exact .inl O
  have HR:Pl.check n k D=15:=by rw[U.1,if_pos hfd]
  have aX:=Kh HR;clear HR U hfd I;rcases bH with h|h
  ·go_wp2
   all_goals go_ret
   all_goals exact⟨A3 aX.1.symm,W1⟩
  ·go_wp2
   all_goals go_ret
   all_goals exact⟨A3 aX.1.symm,W1⟩
 ·have M:Pl.fund D=true:=by simpa using hfd
  obtain⟨rfl,rfl⟩:=I.1 M;have Z:D≠0:=(fund_yes M).1;have c0:=B1.at_ 0 rfl;have aN:Pl.check n k D=if(n:Int) % D≠0 then 14 else if(D<0/\k % 2=0)∨(0<D/\k % 2=1)then 16 else if 512<(q:Int)*(k - 1)then 7 else 0:=by rw[U.1,if_neg hfd]
  have bC:=Kh aN;clear aN U hfd M I;go_wp2_with fail
  refine(gH n _ (by omega) (by omega)).mono ?_;rintro en w2 ⟨rfl,V⟩;rw[HQ.1];have B2:Blk w2 w.heap.size 23 #[.int .i64 n,.int .i64 k,.int .i64 D]:=B1.below_ V B1.lt;have W2:Below w.heap.size w w2:=W1.trans (V.mono (Nat.le_of_lt B1.lt));have d0:=B2.at_ 0 rfl;have d1:=B2.at_ 1 rfl;have d2:=B2.at_ 2 rfl;have cD:=Kh B1;have cF:=Kh B2;have cT:=Kh J;have cV:=Kh V;clear c0 B1 B2 J V W1;have dE:0<=(q:Int)*(k - 1):=Int.mul_nonneg (by omega) (by omega);have J:(q:Int)*(k - 1)<=1000*23:=Int.mul_le_mul (by omega) (by omega) (by omega) (by omega);go_wp2;all_goals go_ret
  all_goals refine⟨A3 ?_,W2⟩
  all_goals rw[bC.1]
  ·have O:((n:Int) % D != 0)=true:=by assumption
   rw[if_pos (bne_iff_ne.1 O)]
  ·have O:((n:Int) % D != 0)=false:=by assumption
   have Y:(!decide (D<0)==(k % 2==1))=true:=by assumption
   rw[if_neg (by simpa using O),if_pos ((Ia D k Z).1 (by rw[bne];revert Y;cases decide (D<0) <;> cases (k % 2==1) <;> simp))]
  ·have O:((n:Int) % D != 0)=false:=by assumption
   have Y:(!decide (D<0)==(k % 2==1))=false:=by assumption
   rw[if_neg (by simpa using O),if_neg (λh=>by have:=(Ia D k Z).2 h;rw[bne]at this;revert Y this;cases decide (D<0) <;> cases (k % 2==1) <;> simp),if_pos (by assumption)]
  ·have O:((n:Int) % D != 0)=false:=by assumption
   have Y:(!decide (D<0)==(k % 2==1))=false:=by assumption
   rw[if_neg (by simpa using O),if_neg (λh=>by have:=(Ia D k Z).2 h;rw[bne]at this;revert Y this;cases decide (D<0) <;> cases (k % 2==1) <;> simp),if_neg (by omega)]
theorem Zj (N k D:Int) (w:World):
  Calls prog 127 #[Uu N k D] w λI w'=>I=.returned (.int .i64 (Pl.check N k D))/\Below w.heap.size w w':=by
 by_cases h:N<1∨120<N∨k<2∨24<k∨D < -120∨120<D
 ·exact K9 N k D w h
 ·exact Qb N k D w (by omega) (by omega) (by omega) (by omega) (by omega) (by omega)
end Go.Proofs.YtenlbhlllgppmaaGreatDoor
