/- Contracts of Fundamental and Psi of package arith, for numbers of at most 120. -/
import Derived.Test.YtenlbhlllgppmaaGreatDoorB03
set_option maxRecDepth 100000
set_option maxHeartbeats 8000000
namespace Go.Proofs.YtenlbhlllgppmaaGreatDoor
open Go.RowKit Tryz
def One (w:World) (b:Nat) (x:Int):Prop:=w.heap[b]?=some (.cells #[.int .i64 x] 3 (0,0))
theorem One.cell {w:World} {b:Nat} {x:Int} (h:One w b x):w.cell? ⟨b,0,none⟩=some (.int .i64 x):=by unfold One at h;simp[World.cell?,h]
theorem One.free {w:World} {b:Nat} {x:Int} (h:One w b x):w.frozen? ⟨b,0,none⟩=false:=by unfold One at h;simp[World.frozen?,h]
theorem One.lt {w:World} {b:Nat} {x:Int} (h:One w b x):b<w.heap.size:=by
 rcases Nat.lt_or_ge b w.heap.size with hlt|I
 ·exact hlt
 ·unfold One at h;rw[Array.getElem?_eq_none I]at h;cases h
theorem One.drew {w:World} {b:Nat} {x:Int} (h:One w b x) (n:Nat):One (w.drewN n) b x:=h
theorem One.set_ {w:World} {b:Nat} {x:Int} (h:One w b x) (y:Int):One (w.setCell ⟨b,0,none⟩ (.int .i64 y)) b y:=by
 unfold One at h ⊢;simp[World.setCell,Array.getElem?_modify,h]
theorem One.far {w:World} {b c:Nat} {x:Int} (h:One w b x) (I:b≠c) (v:Value):One (w.setCell ⟨c,0,none⟩ v) b x:=(Below.heap_setCell w ⟨c,0,none⟩ v b I).trans h
theorem One.new (w:World) (x:Int):One (w.alloc (.cells #[.int .i64 x] 3)) w.heap.size x:=heap_alloc_new w _
theorem One.alloc {w:World} {b:Nat} {x:Int} (h:One w b x) (o:Obj):One (w.alloc o) b x:=(Below.heap_alloc w o b h.lt).trans h
theorem Kq (p e r:Nat) (w:World) (J:0<p) (O:e<=64) (hr:p ^ e=r) (h:r<9223372036854775808):
  Calls prog 198 #[.int .i64 p,.int .i64 e] w λI w'=>I=.returned (.int .i64 (r:Int))/\w'=w:=by
 subst hr;refine(cH p e w J (by omega) (by omega) (by simpa using h)).mono ?_;rintro I w' ⟨rfl,rfl⟩;exact⟨by simp,rfl⟩
theorem Lv {x r:Nat} (h:x*r<9223372036854775808):IntKind.i64.wrap ((x:Int)*(r:Int))=((x*r:Nat):Int):=by
 rw[<-Int.natCast_mul];exact IntWalk.i64_in _ (by omega)
theorem bL (p e I U B:Nat) (x y:Nat) (w:World) (hp:0<p) (he:e<=60) (h1:One w I x) (h2:One w U y) (bE:I≠U) (gL:B<=I) (gN:B<=U)
  (hx:x*p ^ (e % 2)<9223372036854775808) (hy:y*p ^ (e / 2)<9223372036854775808) (V:p ^ (e % 2)<9223372036854775808) (Y:p ^ (e / 2)<9223372036854775808):
  Calls prog 197 #[.int .i64 p,.int .i64 e,.pointer (some ⟨I,0,none⟩),.pointer (some ⟨U,0,none⟩)] w λen w'=>
   en=.returned (.tuple #[])/\One w' I ((x*p ^ (e % 2):Nat):Int)/\One w' U ((y*p ^ (e / 2):Nat):Int)/\Below B w w':=by
 generalize hr:p ^ (e % 2)=r at hx V;generalize hs:p ^ (e / 2)=s at hy Y;have ht:(e:Int).tmod 2=((e % 2:Nat):Int):=by rw[Int.tmod_eq_emod_of_nonneg (by omega)];rfl
 have hd:IntKind.i64.wrap ((e:Int) / 2)=((e / 2:Nat):Int):=IntWalk.i64_in _ (by omega);have gP:=Lv hx;have hT:=Lv hy;have bB:=λw=>Kq p (e % 2) r w hp (by omega) hr V
 have bC:=λw=>Kq p (e / 2) s w hp (by omega) hs Y
 have HR:=Kh hr;have HS:=Kh hs;clear hr hs;have c1:=h1.cell;have f1:=h1.free;have H1:=Kh h1;have H2:=Kh h2;have cF:=Kh bB;have cG:=Kh bC;clear h1 h2 bB bC;go_enter func197,ntmps197
 go_wp2;go_still_tail 6,(by kernel_rfl)
 still_call (cF.1 _)
 repeat still_step
 refine wpStill_nil ?_;obtain⟨w1,J,K1,B1⟩:∃w1,w1=w.drew/\One w1 I x/\Below B w w1:=⟨_,rfl,H1.1,(Below.refl _ _).drew⟩
 have K2:One w1 U y:=by rw[J];exact H2.1
 change wpList _ _ _ _ _ w.drew;rw[<-J];have gA:=K1.cell;have gF:=K1.free;have cT:=Kh K1;have cX:=Kh K2;have HW:=Kh J;clear J K1 K2 c1 f1;go_wp2
 obtain⟨w2,Z,L1,L2,B2⟩:∃w2,w2=w1.setCell ⟨I,0,none⟩ (.int .i64 ((x:Int)*(r:Int)))/\One w2 I ((x*r:Nat):Int)/\One w2 U y/\Below B w w2:=
  ⟨_,rfl,by rw[Int.natCast_mul];exact cT.1.set_ _,cX.1.far (λh=>bE h.symm) _,B1.setCell gL _⟩
 rw[<-Z];have c2:=L2.cell;have f2:=L2.free;have dC:=Kh L1;have dE:=Kh L2;have hO:=Kh Z;clear gA gF L1 L2 Z gP;go_still_tail 6,(by kernel_rfl)
 still_call (cG.1 _)
 repeat still_step
 refine wpStill_nil ?_;obtain⟨w3,O,M1,B3⟩:∃w3,w3=w2.drew/\One w3 I ((x*r:Nat):Int)/\Below B w w3:=⟨_,rfl,dC.1,B2.drew⟩
 have M2:One w3 U y:=by rw[O];exact dE.1
 change wpList _ _ _ _ _ w2.drew;rw[<-O];have c3:=M2.cell;have f3:=M2.free;have dY:=Kh M1;have eP:=Kh M2;have hP:=Kh O;clear O M1 M2 c2 f2;go_wp2;go_end0;refine⟨rfl,?_,?_,B3.setCell gN _⟩
 ·exact dY.1.far bE _
 ·rw[Int.natCast_mul];exact eP.1.set_ _
def Ou (w0:World) (b1 b2:Nat) (n:Nat) (k:Nat) (w:World):Prop:=
 One w b1 (Pl.fundFold ((Pl.facs n).take k)).1/\One w b2 (Pl.fundFold ((Pl.facs n).take k)).2/\Below w0.heap.size w0 w
theorem Tt {q e m:Nat} (hq:1<q) (h:m<=e) (I:q ^ e<=120):q ^ m<9223372036854775808:=by
 have:=Nat.pow_le_pow_right (show 0<q by omega) h;omega
theorem Mr {w0:World} {I J n k q e:Nat} {w:World} (hn:n<121) (h:(Pl.facs n)[k]?=some (q,e)) (hI:Ou w0 I J n k w) (O:I≠J) (Z:w0.heap.size<=I) (h2:w0.heap.size<=J):
  Calls prog 197 #[.int .i64 q,.int .i64 e,.pointer (some ⟨I,0,none⟩),.pointer (some ⟨J,0,none⟩)] w λY w'=>Y=.returned (.tuple #[])/\Ou w0 I J n (k+1) w':=by
 obtain⟨i1,i2,i3⟩:=hI;obtain⟨U,a2,a3,a4,V,a6,a7,a8⟩:=Pl.facs_at hn h;refine(bL q e I J w0.heap.size _ _ w (by omega) (by omega) i1 i2 O Z h2 (by omega) (by omega) (Tt U (by omega) V) (Tt U (by omega) V)).mono ?_;rintro Y w' ⟨rfl,j1,j2,j3⟩;refine⟨rfl,?_,?_,i3.trans j3⟩
 ·rw[Pl.fundFold_snoc h];exact j1
 ·rw[Pl.fundFold_snoc h];exact j2
theorem callFund (args:Array Value) (w:World):(callFunc 197 args).run prog w=.ok (.enter 197 args) w:=by
 kernel_rfl
theorem Jc (w:World) (n:Nat):Ou w (w.heap.size+1) w.heap.size n 0 ((w.alloc (.cells #[.int .i64 1] 3)).alloc (.cells #[.int .i64 1] 3)):=by
 refine⟨?_,(One.new w 1).alloc _,((Below.refl _ _).alloc (nR _) _).alloc (by simp) _⟩;have:=One.new (w.alloc (.cells #[.int .i64 1] 3)) 1;rw[show(w.alloc (.cells #[.int .i64 1] 3)).heap.size=w.heap.size+1 from by simp]at this;exact this
theorem U5 {n x y:Nat} (I:(Pl.fundFold (Pl.facs n)).1=x) (J:(Pl.fundFold (Pl.facs n)).2=y):Pl.fundP n=if(x:Int) % 4≠1 then(4*(x:Int),((y / 2:Nat):Int))else((x:Int),(y:Int)):=by
 subst I J;unfold Pl.fundP;have:¬(n:Int)<0:=by omega
 simp only[this,if_false,Int.natAbs_natCast]
theorem U4 {n x y:Nat} (h:0<n) (I:(Pl.fundFold (Pl.facs n)).1=x) (J:(Pl.fundFold (Pl.facs n)).2=y):Pl.fundP (-(n:Int))=if(-(x:Int)) % 4≠1 then(4 * -(x:Int),((y / 2:Nat):Int))else(-(x:Int),(y:Int)):=by
 subst I J;unfold Pl.fundP;have:-(n:Int)<0:=by omega
 simp only[this,if_true,Int.natAbs_neg,Int.natAbs_natCast]
theorem Rh (n:Nat) (w:World) (h0:0<n) (cF:n<=120) (hm:(n:Int) % 4<=1):
  Calls prog 161 #[.int .i64 n] w λY w'=>Y=.returned (.tuple #[.int .i64 (Pl.fundP n).1,.int .i64 (Pl.fundP n).2,.int .i64 0])/\Below w.heap.size w w':=by
 obtain⟨x,J⟩:∃x,(Pl.fundFold (Pl.facs n)).1=x:=⟨_,rfl⟩
 obtain⟨y,O⟩:∃y,(Pl.fundFold (Pl.facs n)).2=y:=⟨_,rfl⟩
 have Z:=Pl.fund_bound n (by omega);rw[J,O]at Z;obtain⟨cC,cD⟩:=Z;have V:=Kh (U5 J O);have HX:=Kh J;have HY:=Kh O;clear J O;go_enter func161,ntmps161
 go_wp2_with (first |(go_at_call 126;refine(c_residue _ _ _ (by omega) (by omega)).mono ?_;rintro e w' ⟨rfl,rfl⟩))
 refine(It n 197 _ _ _ (Ou w (w.heap.size+1) w.heap.size n) h0 (by omega) (Jc w n) callFund (λk q e wk h hI=>Mr (by omega) h hI (by omega) (by omega) (by omega))).mono ?_;rintro Y w1 ⟨rfl,U,I,j3⟩;rw[List.take_length,HX.1]at U;rw[List.take_length,HY.1]at I;have c1:=U.cell;have c2:=I.cell;have f2:=I.free;have bB:=Kh U;have bC:=Kh I;clear U I;by_cases hx4:(x:Int) % 4=1
 ·go_wp2_with (first |(go_at_call 126;refine(c_residue _ _ _ (by omega) (by omega)).mono ?_;rintro e w' ⟨rfl,rfl⟩))
  go_region
  all_goals go_wp2
  all_goals (refine bodyPost_ret (v:=.tuple #[.int .i64 (x:Int),.int .i64 (y:Int),.int .i64 0]) (by simp[results,results161,go_sem,c2]) rfl ⟨?_,?_⟩)
  ·rw[V.1,if_neg (by omega)]
  ·exact(j3.setCell (nR _) _).drew
 ·have aX:((x:Int) % 4 != 1)=true:=by simp;omega
  go_wp2_with (first |(go_at_call 126;refine(c_residue _ _ _ (by omega) (by omega)).mono ?_;rintro e w' ⟨rfl,rfl⟩))
  go_region
  all_goals go_wp2
  all_goals (refine bodyPost_ret (v:=.tuple #[.int .i64 (4*(x:Int)),.int .i64 ((y / 2:Nat):Int),.int .i64 0]) (by simp[results,results161,go_sem,c2]) rfl ⟨?_,?_⟩)
  ·rw[V.1,if_pos (by omega)]
  ·exact(j3.setCell (nR _) _).drew
theorem Rg (n:Nat) (w:World) (h0:0<n) (dY:n<=120) (hm:(-(n:Int)) % 4<=1):
  Calls prog 161 #[.int .i64 (-(n:Int))] w λen w'=>en=.returned (.tuple #[.int .i64 (Pl.fundP (-(n:Int))).1,.int .i64 (Pl.fundP (-(n:Int))).2,.int .i64 0])/\Below w.heap.size w w':=by
 obtain⟨x,U⟩:∃x,(Pl.fundFold (Pl.facs n)).1=x:=⟨_,rfl⟩
 obtain⟨y,V⟩:∃y,(Pl.fundFold (Pl.facs n)).2=y:=⟨_,rfl⟩
 have hb:=Pl.fund_bound n (by omega);rw[U,V]at hb;obtain⟨dC,dE⟩:=hb;have HP:=Kh (U4 h0 U V);have HX:=Kh U;have HY:=Kh V;clear U V;have hz:((-(n:Int))==0)=false:=by simp;omega
 go_enter func161,ntmps161
 go_wp2_with (first |(go_at_call 126;refine(c_residue _ _ _ (by omega) (by omega)).mono ?_;rintro e w' ⟨rfl,rfl⟩))
 all_goals try(exfalso;omega)
 refine(It n 197 _ _ _ (Ou w (w.heap.size+1) w.heap.size n) h0 (by omega) (Jc w n) callFund (λk q e wk h hI=>Mr (by omega) h hI (by omega) (by omega) (by omega))).mono ?_;rintro en w1 ⟨rfl,J,j2,j3⟩;rw[List.take_length,HX.1]at J;rw[List.take_length,HY.1]at j2;have c1:=J.cell;have f1:=J.free;have Z:=Kh J;have aX:=Kh j2;clear J j2;have hlt:-(n:Int)<0:=by omega
 go_upto_if 33 with(first |(go_at_call 126;refine(c_residue _ _ _ (by omega) (by omega)).mono ?_;rintro e w' ⟨rfl,rfl⟩))
 obtain⟨O,I,k1,Y,k3⟩:∃O,O=w1.setCell ⟨w.heap.size+1,0,none⟩ (.int .i64 (-(x:Int)))/\One O (w.heap.size+1) (-(x:Int))/\One O w.heap.size y/\Below w.heap.size w O:=
  ⟨_,rfl,Z.1.set_ _,aX.1.far (by omega) _,j3.setCell (by show w.heap.size<=w.heap.size+1;omega) _⟩
 rw[<-I];have cD:=Kh I;have c3:=k1.cell;have c2:=Y.cell;have f2:=Y.free;have K1:=Kh k1;have K2:=Kh Y;clear I k1 Y c1 f1;by_cases hx4:(-(x:Int)) % 4=1
 ·go_wp2
  go_region
  all_goals go_wp2
  all_goals (refine bodyPost_ret (v:=.tuple #[.int .i64 (-(x:Int)),.int .i64 (y:Int),.int .i64 0]) (by simp[results,results161,go_sem,c2]) rfl ⟨?_,?_⟩)
  ·rw[HP.1,if_neg (by omega)]
  ·exact(k3.setCell (nR _) _).drew
 ·have cB:((-(x:Int)) % 4 != 1)=true:=by simp;omega
  go_wp2;go_region
  all_goals go_wp2
  all_goals (refine bodyPost_ret (v:=.tuple #[.int .i64 (4 * -(x:Int)),.int .i64 ((y / 2:Nat):Int),.int .i64 0]) (by simp[results,results161,go_sem,c2]) rfl ⟨?_,?_⟩)
  ·rw[HP.1,if_pos (by omega)]
  ·exact(k3.setCell (nR _) _).drew
theorem Rf (d:Int) (w:World) (O:d≠0) (U:-120<=d) (J:d<=120) (V:1<d % 4):
  Calls prog 161 #[.int .i64 d] w λI w'=>I=.returned (.tuple #[.int .i64 0,.int .i64 0,.int .i64 15])/\Below w.heap.size w w':=by
 have Y:(d==0)=false:=by simp;omega
 go_enter func161,ntmps161
 go_wp2_with (first |(go_at_call 126;refine(c_residue _ _ _ (by omega) (by omega)).mono ?_;rintro e w' ⟨rfl,rfl⟩))
 all_goals try(exfalso;omega)
 refine bodyPost_ret (v:=.tuple #[.int .i64 0,.int .i64 0,.int .i64 15]) (by simp[results,results161,go_sem]) rfl ⟨rfl,?_⟩;go_grown
theorem O3 (w:World):
  Calls prog 161 #[.int .i64 0] w λI w'=>I=.returned (.tuple #[.int .i64 0,.int .i64 0,.int .i64 2])/\Below w.heap.size w w':=by
 go_enter func161,ntmps161
 go_wp2;refine bodyPost_ret (v:=.tuple #[.int .i64 0,.int .i64 0,.int .i64 2]) (by simp[results,results161,go_sem]) rfl ⟨rfl,?_⟩;go_grown
/-! Psi -/
theorem fY (q e:Nat) (w:World) (hq:0<q) (aX:q<=1000) (he:0<e) (Y:e<=60) (h:q ^ (e - 1)*(q+1)<9223372036854775808):
  Calls prog 200 #[.int .i64 q,.int .i64 e] w λO w'=>O=.returned (.int .i64 ((q ^ (e - 1)*(q+1):Nat):Int))/\w=w':=by
 obtain⟨r,hr⟩:∃r,q ^ (e - 1)=r:=⟨_,rfl⟩
 rw[hr]at h ⊢;have I:r<9223372036854775808:=Nat.lt_of_le_of_lt (Nat.le_mul_of_pos_right _ (by omega)) h;have U:0<=(r:Int)*((q:Int)+1):=by rw[show(r:Int)*((q:Int)+1)=((r*(q+1):Nat):Int)from by simp];omega
 have V:(r:Int)*((q:Int)+1)<9223372036854775808:=by rw[show(r:Int)*((q:Int)+1)=((r*(q+1):Nat):Int)from by simp];omega
 have Z:(e:Int) - 1=((e - 1:Nat):Int):=by omega
 have J:=Kh hr;clear hr;go_enter func200,ntmps200
 go_wp2_with (first |(go_at_call 198;refine(Kq q (e - 1) r _ hq (by omega) J.1 I).mono ?_;rintro e w' ⟨rfl,rfl⟩))
 go_ret;exact⟨A5 (by simp),rfl⟩
theorem Ro (q e J O B x:Nat) (w:World) (hq:0<q) (bY:q<=1000) (he:0<e) (bC:e<=60) (U:One w J x) (Z:w.heap[O]?=some (.cells #[.func (.func 200) #[] #[]] 88 (0,0))) (bB:B<=J)
  (h:q ^ (e - 1)*(q+1)<9223372036854775808) (hx:x*(q ^ (e - 1)*(q+1))<9223372036854775808):
  Calls prog 213 #[.int .i64 q,.int .i64 e,.pointer (some ⟨J,0,none⟩),.pointer (some ⟨O,0,none⟩)] w λen w'=>
   en=.returned (.tuple #[])/\One w' J ((x*(q ^ (e - 1)*(q+1)):Nat):Int)/\w'.heap[O]?=some (.cells #[.func (.func 200) #[] #[]] 88 (0,0))/\Below B w w':=by
 have c1:=U.cell;have f1:=U.free;have c2:w.cell? ⟨O,0,none⟩=some (.func (.func 200) #[] #[]):=by simp[World.cell?,Z]
 have bE:J≠O:=by
  rintro rfl;unfold One at U;rw[Z]at U;simp at U
 have CP:=λw=>(fY q e w hq bY he bC h).mono λ_ _ h=>(⟨h.1,h.2.symm⟩:_/\_=w)
 have dY:=Lv hx;generalize q ^ (e - 1)*(q+1)=r at *;have HC:=Kh CP;have H1:=Kh U;have H2:=Kh Z;clear CP U Z;go_enter func213,ntmps213
 go_wp2;go_still_tail 6,(by kernel_rfl)
 still_call (HC.1 _)
 repeat still_step
 refine wpStill_nil ?_;obtain⟨V,I,Y,B3⟩:∃V,V=w.drew/\One V J x/\Below B w V:=⟨_,rfl,H1.1,(Below.refl _ _).drew⟩
 have M2:V.heap[O]?=some (.cells #[.func (.func 200) #[] #[]] 88 (0,0)):=by rw[I];exact H2.1
 change wpList _ _ _ _ _ w.drew;rw[<-I];have c3:=Y.cell;have f3:=Y.free;have aX:=Kh Y;have bA:=Kh M2;have cT:=Kh I;clear I Y M2 c2 c1 f1;go_wp2;go_end0;refine⟨rfl,?_,(Below.heap_setCell V ⟨J,0,none⟩ _ O (λh=>bE h.symm)).trans bA.1,B3.setCell bB _⟩;rw[Int.natCast_mul];exact aX.1.set_ _
def aY (w0:World) (b1 b2:Nat) (n:Nat) (k:Nat) (w:World):Prop:=
 One w b1 (Pl.psiFold ((Pl.facs n).take k))/\w.heap[b2]?=some (.cells #[.func (.func 200) #[] #[]] 88 (0,0))/\Below w0.heap.size w0 w
theorem Zw {w0:World} {I J n k q e:Nat} {w:World} (hn:n<121) (h:(Pl.facs n)[k]?=some (q,e)) (Y:aY w0 I J n k w) (V:w0.heap.size<=I):
  Calls prog 213 #[.int .i64 q,.int .i64 e,.pointer (some ⟨I,0,none⟩),.pointer (some ⟨J,0,none⟩)] w λO w'=>O=.returned (.tuple #[])/\aY w0 I J n (k+1) w':=by
 obtain⟨Z,i2,i3⟩:=Y;obtain⟨a1,a2,U,a4,a5,a6,a7,a8⟩:=Pl.facs_at hn h
 have h9:q ^ (e - 1)*(q+1)<=1000*1000:=by
  have e1:=Nat.pow_le_pow_right (show 0<q by omega) (show e - 1<=e by omega);exact Nat.mul_le_mul (by omega) (by omega)
 refine(Ro q e I J w0.heap.size _ w (by omega) (by omega) U (by omega) Z i2 V (by omega) (by omega)).mono ?_;rintro O w' ⟨rfl,j1,j2,j3⟩;refine⟨rfl,?_,j2,i3.trans j3⟩;rw[Pl.psiFold_snoc h];exact j1
theorem Xr (args:Array Value) (w:World):(callFunc 213 args).run prog w=.ok (.enter 213 args) w:=by
 kernel_rfl
theorem R8 (w:World) (n:Nat):aY w (w.heap.size+1) w.heap.size n 0 ((w.alloc (.cells #[.func (.func 200) #[] #[]] 88)).alloc (.cells #[.int .i64 1] 3)):=by
 refine⟨?_,?_,((Below.refl _ _).alloc (nR _) _).alloc (by simp) _⟩
 ·have:=One.new (w.alloc (.cells #[.func (.func 200) #[] #[]] 88)) 1
  rw[show(w.alloc (.cells #[.func (.func 200) #[] #[]] 88)).heap.size=w.heap.size+1 from by simp]at this;exact this
 ·exact(Below.heap_alloc _ _ _ (by simp)).trans (heap_alloc_new w _)
theorem L6 (n:Int) (w:World) (h:1<=n) (J:n<=2147483647):
  Calls prog 124 #[.int .i64 n] w λI w'=>I=.returned (.bool true)/\w=w':=by
 have O:decide (n<=2147483647)=true:=by simpa using J
 go_enter func124,ntmps124
 go_wp2;go_ret;exact⟨by simp,rfl⟩
theorem kA (n:Nat) (w:World) (Y:0<n) (hn:n<=120):
  Calls prog 162 #[.int .i64 n] w λI w'=>I=.returned (.tuple #[.int .i64 (Pl.psi n),.int .i64 0])/\Below w.heap.size w w':=by
 have hp:Calls prog 199 #[.int .i64 n,.func (.func 200) #[] #[]] w λI w'=>I=.returned (.tuple #[.int .i64 (Pl.psi n),.int .i64 0])/\Below w.heap.size w w':=by
  go_enter func199,ntmps199
  go_wp2_with (go_at_call 124;refine(L6 _ _ (by omega) (by omega)).mono ?_;rintro e w' ⟨rfl,rfl⟩)
  refine(It n 213 _ _ _ (aY w (w.heap.size+1) w.heap.size n) Y (by omega) (R8 w n) Xr (λk q e wk h Z=>Zw (by omega) h Z (by omega))).mono ?_;rintro I w1 ⟨rfl,J,O,j3⟩;rw[List.take_length]at J;have c1:=J.cell;have U:=Kh J;have V:=Kh O;clear J O;go_wp2;go_ret2
  exact⟨rfl,j3⟩
 go_enter func162,ntmps162
 go_wp2_with (go_at_call 199;refine hp.mono ?_;rintro I w1 ⟨rfl,hb⟩)
 go_ret2
 exact⟨rfl,hb⟩
abbrev Ll (N k D:Int):Value:=.agg #[.int .i64 N,.int .i64 k,.int .i64 D]
theorem Fz {N k D:Int} (h:N<1∨120<N∨k<2∨24<k∨D < -120∨120<D):Pl.check N k D=2:=by unfold Pl.check;rw[if_pos h]
theorem fund_yes {D:Int} (h:Pl.fund D=true):D≠0/\D % 4<=1/\(Pl.fundP D).2=1:=by
 simp only[Pl.fund,Bool.and_eq_true,decide_eq_true_eq]at h;exact⟨h.1.1,h.1.2,h.2⟩
theorem L4 (d:Int) (w:World) (V:-120<=d) (O:d<=120):
  Calls prog 161 #[.int .i64 d] w λI w'=>(∃a b c:Int,I=.returned (.tuple #[.int .i64 a,.int .i64 b,.int .i64 c])/\(Pl.fund d=true↔c=0/\b=1))/\Below w.heap.size w w':=by
 by_cases h0:d=0
 ·subst h0
  refine(O3 w).mono ?_;rintro I w' ⟨rfl,J⟩;exact⟨⟨0,0,2,rfl,by decide⟩,J⟩
 ·by_cases h1:1<d % 4
  ·refine(Rf d w h0 V O h1).mono ?_
   rintro I w' ⟨rfl,J⟩;refine⟨⟨0,0,15,rfl,?_⟩,J⟩;constructor
   ·intro h;have:=fund_yes h;omega
   ·intro h;omega
  ·have U:Calls prog 161 #[.int .i64 d] w λI w'=>I=.returned (.tuple #[.int .i64 (Pl.fundP d).1,.int .i64 (Pl.fundP d).2,.int .i64 0])/\Below w.heap.size w w':=by
    by_cases h2:0<=d
    ·obtain⟨n,rfl⟩:=Int.eq_ofNat_of_zero_le h2
     exact Rh n w (by omega) (by omega) (by omega)
    ·obtain⟨n,rfl⟩:∃n:Nat,d=-(n:Int):=⟨d.natAbs,by omega⟩
     exact Rg n w (by omega) (by omega) (by omega)
   refine U.mono ?_;rintro I w' ⟨rfl,J⟩;refine⟨⟨_,_,0,rfl,?_⟩,J⟩;constructor
   ·intro h;exact⟨rfl,(fund_yes h).2.2⟩
   ·intro h
    simp only[Pl.fund,Bool.and_eq_true,decide_eq_true_eq];exact⟨⟨h0,by omega⟩,h.2⟩
theorem Lz (N k D:Int) (w:World) (h:N<1∨120<N∨k<2∨24<k∨D < -120∨120<D):
  Calls prog 127 #[Ll N k D] w λI w'=>I=.returned (.int .i64 (Pl.check N k D))/\Below w.heap.size w w':=by
 rw[Fz h];by_cases h1:N<1
 ·go_enter func127,ntmps127
  go_wp2;go_ret;exact⟨rfl,by go_grown⟩
 ·by_cases h2:120<N
  ·go_enter func127,ntmps127
   go_wp2;go_ret;exact⟨rfl,by go_grown⟩
  ·by_cases h3:k<2
   ·go_enter func127,ntmps127
    go_wp2;go_ret;exact⟨rfl,by go_grown⟩
   ·by_cases h4:24<k
    ·go_enter func127,ntmps127
     go_wp2;go_ret;exact⟨rfl,by go_grown⟩
    ·by_cases h5:D < -120
     ·go_enter func127,ntmps127
      go_wp2;go_ret;exact⟨rfl,by go_grown⟩
     ·have J:120<D:=by omega
      go_enter func127,ntmps127
      go_wp2;go_ret;exact⟨rfl,by go_grown⟩
theorem I1 (D k:Int) (I:D≠0):((decide (D<0) !=(k % 2==1))=true)↔((D<0/\k % 2=0)∨(0<D/\k % 2=1)):=by
 by_cases h1:D<0 <;> by_cases h2:k % 2=1 <;> simp[h1,h2] <;> omega
theorem Rc (N k D:Int) (w:World) (hN:1<=N) (gP:N<=120) (hk:2<=k) (gU:k<=24) (hD:-120<=D) (cD:D<=120):
  Calls prog 127 #[Ll N k D] w λen w'=>en=.returned (.int .i64 (Pl.check N k D))/\Below w.heap.size w w':=by
 have HF:Pl.check N k D=if Pl.fund D=false then 15 else if N % D≠0 then 14 else if(D<0/\k % 2=0)∨(0<D/\k % 2=1)then 16 else if 512<(Pl.psi N.toNat:Int)*(k - 1)then 7 else 0:=by
  unfold Pl.check;rw[if_neg (by omega)]
 obtain⟨n,rfl⟩:=Int.eq_ofNat_of_zero_le (show 0<=N by omega);have cG:=Pl.psi_small n (by omega) (by omega);rw[Int.toNat_natCast]at HF;obtain⟨q,hq⟩:∃q,Pl.psi n=q:=⟨_,rfl⟩
 rw[hq]at HF cG;have V:=Kh HF;clear HF;have HQ:=Kh hq;clear hq;go_enter func127,ntmps127
 go_wp2_with fail
 refine(L4 D _ hD cD).mono ?_;rintro en w1 ⟨⟨a,b,c,rfl,I⟩,J⟩;simp only[World.size_alloc]at J;have B1:Blk w1 w.heap.size 23 #[.int .i64 n,.int .i64 k,.int .i64 D]:=(Blk.new w _ _).below_ J (by omega);have W1:Below w.heap.size w w1:=((Below.refl _ _).alloc (nR _) _).trans (J.mono (by omega));by_cases hfd:Pl.fund D=false
 ·have cF:c≠0∨b≠1:=by
   by_cases U:c=0
   ·by_cases Z:b=1
    ·rw[I.2 ⟨U,Z⟩]at hfd;cases hfd
    ·exact .inr Z
   ·exact .inl U
  have HR:Pl.check n k D=15:=by rw[V.1,if_pos hfd]
  have bE:=Kh HR;clear HR V hfd I;rcases cF with h|h
  ·go_wp2
   all_goals go_ret
   all_goals exact⟨A5 bE.1.symm,W1⟩
  ·go_wp2
   all_goals go_ret
   all_goals exact⟨A5 bE.1.symm,W1⟩
 ·have O:Pl.fund D=true:=by simpa using hfd
  obtain⟨rfl,rfl⟩:=I.1 O;have aX:D≠0:=(fund_yes O).1;have c0:=B1.at_ 0 rfl;have bC:Pl.check n k D=if(n:Int) % D≠0 then 14 else if(D<0/\k % 2=0)∨(0<D/\k % 2=1)then 16 else if 512<(q:Int)*(k - 1)then 7 else 0:=by rw[V.1,if_neg hfd]
  have cB:=Kh bC;clear bC V hfd O I;go_wp2_with fail
  refine(kA n _ (by omega) (by omega)).mono ?_;rintro en w2 ⟨rfl,Y⟩;rw[HQ.1];have B2:Blk w2 w.heap.size 23 #[.int .i64 n,.int .i64 k,.int .i64 D]:=B1.below_ Y B1.lt;have W2:Below w.heap.size w w2:=W1.trans (Y.mono (Nat.le_of_lt B1.lt));have d0:=B2.at_ 0 rfl;have d1:=B2.at_ 1 rfl;have d2:=B2.at_ 2 rfl;have dE:=Kh B1;have dY:=Kh B2;have gA:=Kh J;have gF:=Kh Y;clear c0 B1 B2 J Y W1;have gS:0<=(q:Int)*(k - 1):=Int.mul_nonneg (by omega) (by omega);have J:(q:Int)*(k - 1)<=1000*23:=Int.mul_le_mul (by omega) (by omega) (by omega) (by omega);go_wp2;all_goals go_ret
  all_goals refine⟨A5 ?_,W2⟩
  all_goals rw[cB.1]
  ·have U:((n:Int) % D != 0)=true:=by assumption
   rw[if_pos (bne_iff_ne.1 U)]
  ·have U:((n:Int) % D != 0)=false:=by assumption
   have Z:(!decide (D<0)==(k % 2==1))=true:=by assumption
   rw[if_neg (by simpa using U),if_pos ((I1 D k aX).1 (by rw[bne];revert Z;cases decide (D<0) <;> cases (k % 2==1) <;> simp))]
  ·have U:((n:Int) % D != 0)=false:=by assumption
   have Z:(!decide (D<0)==(k % 2==1))=false:=by assumption
   rw[if_neg (by simpa using U),if_neg (λh=>by have:=(I1 D k aX).2 h;rw[bne]at this;revert Z this;cases decide (D<0) <;> cases (k % 2==1) <;> simp),if_pos (by assumption)]
  ·have U:((n:Int) % D != 0)=false:=by assumption
   have Z:(!decide (D<0)==(k % 2==1))=false:=by assumption
   rw[if_neg (by simpa using U),if_neg (λh=>by have:=(I1 D k aX).2 h;rw[bne]at this;revert Z this;cases decide (D<0) <;> cases (k % 2==1) <;> simp),if_neg (by omega)]
theorem Ss (N k D:Int) (w:World):
  Calls prog 127 #[Ll N k D] w λI w'=>I=.returned (.int .i64 (Pl.check N k D))/\Below w.heap.size w w':=by
 by_cases h:N<1∨120<N∨k<2∨24<k∨D < -120∨120<D
 ·exact Lz N k D w h
 ·exact Rc N k D w (by omega) (by omega) (by omega) (by omega) (by omega) (by omega)
end Go.Proofs.YtenlbhlllgppmaaGreatDoor
