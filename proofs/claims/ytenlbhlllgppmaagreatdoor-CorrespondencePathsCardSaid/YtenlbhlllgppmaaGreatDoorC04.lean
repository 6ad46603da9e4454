/- Contracts of Fundamental and Psi of package arith, for numbers of at most 120. -/
import Derived.Test.YtenlbhlllgppmaaGreatDoorC03
set_option maxRecDepth 100000
set_option maxHeartbeats 8000000
namespace Go.Proofs.YtenlbhlllgppmaaGreatDoor
open Go.RowKit Tryz
def One (w:World) (b:Nat) (x:Int):Prop:=w.heap[b]?=some (.cells #[.int .i64 x] 3 (0,0))
theorem One.cell {w:World} {b:Nat} {x:Int} (h:One w b x):w.cell? ⟨b,0,none⟩=some (.int .i64 x):=by unfold One at h;simp[World.cell?,h]
theorem One.free {w:World} {b:Nat} {x:Int} (h:One w b x):w.frozen? ⟨b,0,none⟩=false:=by unfold One at h;simp[World.frozen?,h]
theorem One.lt {w:World} {b:Nat} {x:Int} (h:One w b x):b<w.heap.size:=by
 rcases Nat.lt_or_ge b w.heap.size with hlt|E
 ·exact hlt
 ·unfold One at h;rw[Array.getElem?_eq_none E]at h;cases h
theorem One.drew {w:World} {b:Nat} {x:Int} (h:One w b x) (n:Nat):One (w.drewN n) b x:=h
theorem One.set_ {w:World} {b:Nat} {x:Int} (h:One w b x) (y:Int):One (w.setCell ⟨b,0,none⟩ (.int .i64 y)) b y:=by
 unfold One at h ⊢;simp[World.setCell,Array.getElem?_modify,h]
theorem One.far {w:World} {b c:Nat} {x:Int} (h:One w b x) (E:b≠c) (v:Value):One (w.setCell ⟨c,0,none⟩ v) b x:=(Below.heap_setCell w ⟨c,0,none⟩ v b E).trans h
theorem One.new (w:World) (x:Int):One (w.alloc (.cells #[.int .i64 x] 3)) w.heap.size x:=heap_alloc_new w _
theorem One.alloc {w:World} {b:Nat} {x:Int} (h:One w b x) (o:Obj):One (w.alloc o) b x:=(Below.heap_alloc w o b h.lt).trans h
theorem J2 (p e r:Nat) (w:World) (I:0<p) (J:e<=64) (hr:p ^ e=r) (h:r<9223372036854775808):
  Calls prog 198 #[.int .i64 p,.int .i64 e] w λE w'=>E=.returned (.int .i64 (r:Int))/\w'=w:=by
 subst hr;refine(bM p e w I (by omega) (by omega) (by simpa using h)).mono ?_;rintro E w' ⟨rfl,rfl⟩;exact⟨by simp,rfl⟩
theorem K6 {x r:Nat} (h:x*r<9223372036854775808):IntKind.i64.wrap ((x:Int)*(r:Int))=((x*r:Nat):Int):=by
 rw[<-Int.natCast_mul];exact IntWalk.i64_in _ (by omega)
theorem aT (p e E M B:Nat) (x y:Nat) (w:World) (hp:0<p) (he:e<=60) (h1:One w E x) (h2:One w M y) (aX:E≠M) (cX:B<=E) (dC:B<=M)
  (hx:x*p ^ (e % 2)<9223372036854775808) (hy:y*p ^ (e / 2)<9223372036854775808) (O:p ^ (e % 2)<9223372036854775808) (U:p ^ (e / 2)<9223372036854775808):
  Calls prog 197 #[.int .i64 p,.int .i64 e,.pointer (some ⟨E,0,none⟩),.pointer (some ⟨M,0,none⟩)] w λen w'=>
   en=.returned (.tuple #[])/\One w' E ((x*p ^ (e % 2):Nat):Int)/\One w' M ((y*p ^ (e / 2):Nat):Int)/\Below B w w':=by
 generalize hr:p ^ (e % 2)=r at hx O;generalize hs:p ^ (e / 2)=s at hy U;have ht:(e:Int).tmod 2=((e % 2:Nat):Int):=by rw[Int.tmod_eq_emod_of_nonneg (by omega)];rfl
 have hd:IntKind.i64.wrap ((e:Int) / 2)=((e / 2:Nat):Int):=IntWalk.i64_in _ (by omega);have dE:=K6 hx;have hE:=K6 hy;have aK:=λw=>J2 p (e % 2) r w hp (by omega) hr O
 have aN:=λw=>J2 p (e / 2) s w hp (by omega) hs U
 have HR:=Kh hr;have HS:=Kh hs;clear hr hs;have c1:=h1.cell;have f1:=h1.free;have H1:=Kh h1;have H2:=Kh h2;have cA:=Kh aK;have cB:=Kh aN;clear h1 h2 aK aN;go_enter func197,ntmps197
 go_wp2;go_still_tail 6,(by kernel_rfl)
 still_call (cA.1 _)
 repeat still_step
 refine wpStill_nil ?_;obtain⟨w1,I,K1,B1⟩:∃w1,w1=w.drew/\One w1 E x/\Below B w w1:=⟨_,rfl,H1.1,(Below.refl _ _).drew⟩
 have K2:One w1 M y:=by rw[I];exact H2.1
 change wpList _ _ _ _ _ w.drew;rw[<-I];have cS:=K1.cell;have cT:=K1.free;have cC:=Kh K1;have cD:=Kh K2;have HW:=Kh I;clear I K1 K2 c1 f1;go_wp2
 obtain⟨Z,V,L1,L2,B2⟩:∃Z,Z=w1.setCell ⟨E,0,none⟩ (.int .i64 ((x:Int)*(r:Int)))/\One Z E ((x*r:Nat):Int)/\One Z M y/\Below B w Z:=
  ⟨_,rfl,by rw[Int.natCast_mul];exact cC.1.set_ _,cD.1.far (λh=>aX h.symm) _,B1.setCell cX _⟩
 rw[<-V];have c2:=L2.cell;have f2:=L2.free;have cF:=Kh L1;have cG:=Kh L2;have gP:=Kh V;clear cS cT L1 L2 V dE;go_still_tail 6,(by kernel_rfl)
 still_call (cB.1 _)
 repeat still_step
 refine wpStill_nil ?_;obtain⟨w3,J,M1,B3⟩:∃w3,w3=Z.drew/\One w3 E ((x*r:Nat):Int)/\Below B w w3:=⟨_,rfl,cF.1,B2.drew⟩
 have M2:One w3 M y:=by rw[J];exact cG.1
 change wpList _ _ _ _ _ Z.drew;rw[<-J];have c3:=M2.cell;have f3:=M2.free;have cI:=Kh M1;have cM:=Kh M2;have gS:=Kh J;clear J M1 M2 c2 f2;go_wp2;go_end0;refine⟨rfl,?_,?_,B3.setCell dC _⟩
 ·exact cI.1.far aX _
 ·rw[Int.natCast_mul];exact cM.1.set_ _
def N5 (w0:World) (b1 b2:Nat) (n:Nat) (k:Nat) (w:World):Prop:=
 One w b1 (Pl.fundFold ((Pl.facs n).take k)).1/\One w b2 (Pl.fundFold ((Pl.facs n).take k)).2/\Below w0.heap.size w0 w
theorem S9 {q e m:Nat} (hq:1<q) (h:m<=e) (E:q ^ e<=120):q ^ m<9223372036854775808:=by
 have:=Nat.pow_le_pow_right (show 0<q by omega) h;omega
theorem L3 {w0:World} {E I n k q e:Nat} {w:World} (hn:n<121) (h:(Pl.facs n)[k]?=some (q,e)) (hI:N5 w0 E I n k w) (J:E≠I) (V:w0.heap.size<=E) (Z:w0.heap.size<=I):
  Calls prog 197 #[.int .i64 q,.int .i64 e,.pointer (some ⟨E,0,none⟩),.pointer (some ⟨I,0,none⟩)] w λU w'=>U=.returned (.tuple #[])/\N5 w0 E I n (k+1) w':=by
 obtain⟨i1,i2,i3⟩:=hI;obtain⟨M,a2,a3,a4,O,a6,a7,a8⟩:=Pl.facs_at hn h;refine(aT q e E I w0.heap.size _ _ w (by omega) (by omega) i1 i2 J V Z (by omega) (by omega) (S9 M (by omega) O) (S9 M (by omega) O)).mono ?_;rintro U w' ⟨rfl,j1,j2,j3⟩;refine⟨rfl,?_,?_,i3.trans j3⟩
 ·rw[Pl.fundFold_snoc h];exact j1
 ·rw[Pl.fundFold_snoc h];exact j2
theorem callFund (args:Array Value) (w:World):(callFunc 197 args).run prog w=.ok (.enter 197 args) w:=by
 kernel_rfl
theorem Iu (w:World) (n:Nat):N5 w (w.heap.size+1) w.heap.size n 0 ((w.alloc (.cells #[.int .i64 1] 3)).alloc (.cells #[.int .i64 1] 3)):=by
 refine⟨?_,(One.new w 1).alloc _,((Below.refl _ _).alloc (nL _) _).alloc (by simp) _⟩;have:=One.new (w.alloc (.cells #[.int .i64 1] 3)) 1;rw[show(w.alloc (.cells #[.int .i64 1] 3)).heap.size=w.heap.size+1 from by simp]at this;exact this
theorem Ur {n x y:Nat} (E:(Pl.fundFold (Pl.facs n)).1=x) (I:(Pl.fundFold (Pl.facs n)).2=y):Pl.fundP n=if(x:Int) % 4≠1 then(4*(x:Int),((y / 2:Nat):Int))else((x:Int),(y:Int)):=by
 subst E I;unfold Pl.fundP;have:¬(n:Int)<0:=by omega
 simp only[this,if_false,Int.natAbs_natCast]
theorem Uq {n x y:Nat} (h:0<n) (E:(Pl.fundFold (Pl.facs n)).1=x) (I:(Pl.fundFold (Pl.facs n)).2=y):Pl.fundP (-(n:Int))=if(-(x:Int)) % 4≠1 then(4 * -(x:Int),((y / 2:Nat):Int))else(-(x:Int),(y:Int)):=by
 subst E I;unfold Pl.fundP;have:-(n:Int)<0:=by omega
 simp only[this,if_true,Int.natAbs_neg,Int.natAbs_natCast]
theorem Qp (n:Nat) (w:World) (h0:0<n) (cA:n<=120) (hm:(n:Int) % 4<=1):
  Calls prog 161 #[.int .i64 n] w λU w'=>U=.returned (.tuple #[.int .i64 (Pl.fundP n).1,.int .i64 (Pl.fundP n).2,.int .i64 0])/\Below w.heap.size w w':=by
 obtain⟨x,I⟩:∃x,(Pl.fundFold (Pl.facs n)).1=x:=⟨_,rfl⟩
 obtain⟨y,J⟩:∃y,(Pl.fundFold (Pl.facs n)).2=y:=⟨_,rfl⟩
 have V:=Pl.fund_bound n (by omega);rw[I,J]at V;obtain⟨bE,bY⟩:=V;have O:=Kh (Ur I J);have HX:=Kh I;have HY:=Kh J;clear I J;go_enter func161,ntmps161
 go_wp2_with (first |(go_at_call 126;refine(c_residue _ _ _ (by omega) (by omega)).mono ?_;rintro e w' ⟨rfl,rfl⟩))
 refine(Hu n 197 _ _ _ (N5 w (w.heap.size+1) w.heap.size n) h0 (by omega) (Iu w n) callFund (λk q e wk h hI=>L3 (by omega) h hI (by omega) (by omega) (by omega))).mono ?_;rintro U w1 ⟨rfl,M,E,j3⟩;rw[List.take_length,HX.1]at M;rw[List.take_length,HY.1]at E;have c1:=M.cell;have c2:=E.cell;have f2:=E.free;have aK:=Kh M;have aN:=Kh E;clear M E;by_cases hx4:(x:Int) % 4=1
 ·go_wp2_with (first |(go_at_call 126;refine(c_residue _ _ _ (by omega) (by omega)).mono ?_;rintro e w' ⟨rfl,rfl⟩))
  go_region
  all_goals go_wp2
  all_goals (refine bodyPost_ret (v:=.tuple #[.int .i64 (x:Int),.int .i64 (y:Int),.int .i64 0]) (by simp[results,results161,go_sem,c2]) rfl ⟨?_,?_⟩)
  ·rw[O.1,if_neg (by omega)]
  ·exact(j3.setCell (nL _) _).drew
 ·have Z:((x:Int) % 4 != 1)=true:=by simp;omega
  go_wp2_with (first |(go_at_call 126;refine(c_residue _ _ _ (by omega) (by omega)).mono ?_;rintro e w' ⟨rfl,rfl⟩))
  go_region
  all_goals go_wp2
  all_goals (refine bodyPost_ret (v:=.tuple #[.int .i64 (4*(x:Int)),.int .i64 ((y / 2:Nat):Int),.int .i64 0]) (by simp[results,results161,go_sem,c2]) rfl ⟨?_,?_⟩)
  ·rw[O.1,if_pos (by omega)]
  ·exact(j3.setCell (nL _) _).drew
theorem Qo (n:Nat) (w:World) (h0:0<n) (cI:n<=120) (hm:(-(n:Int)) % 4<=1):
  Calls prog 161 #[.int .i64 (-(n:Int))] w λen w'=>en=.returned (.tuple #[.int .i64 (Pl.fundP (-(n:Int))).1,.int .i64 (Pl.fundP (-(n:Int))).2,.int .i64 0])/\Below w.heap.size w w':=by
 obtain⟨x,M⟩:∃x,(Pl.fundFold (Pl.facs n)).1=x:=⟨_,rfl⟩
 obtain⟨y,O⟩:∃y,(Pl.fundFold (Pl.facs n)).2=y:=⟨_,rfl⟩
 have hb:=Pl.fund_bound n (by omega);rw[M,O]at hb;obtain⟨cF,cG⟩:=hb;have HP:=Kh (Uq h0 M O);have HX:=Kh M;have HY:=Kh O;clear M O;have hz:((-(n:Int))==0)=false:=by simp;omega
 go_enter func161,ntmps161
 go_wp2_with (first |(go_at_call 126;refine(c_residue _ _ _ (by omega) (by omega)).mono ?_;rintro e w' ⟨rfl,rfl⟩))
 all_goals try(exfalso;omega)
 refine(Hu n 197 _ _ _ (N5 w (w.heap.size+1) w.heap.size n) h0 (by omega) (Iu w n) callFund (λk q e wk h hI=>L3 (by omega) h hI (by omega) (by omega) (by omega))).mono ?_;rintro en w1 ⟨rfl,I,j2,j3⟩;rw[List.take_length,HX.1]at I;rw[List.take_length,HY.1]at j2;have c1:=I.cell;have f1:=I.free;have V:=Kh I;have Z:=Kh j2;clear I j2;have hlt:-(n:Int)<0:=by omega
 go_upto_if 33 with(first |(go_at_call 126;refine(c_residue _ _ _ (by omega) (by omega)).mono ?_;rintro e w' ⟨rfl,rfl⟩))
 obtain⟨J,E,k1,U,k3⟩:∃J,J=w1.setCell ⟨w.heap.size+1,0,none⟩ (.int .i64 (-(x:Int)))/\One J (w.heap.size+1) (-(x:Int))/\One J w.heap.size y/\Below w.heap.size w J:=
  ⟨_,rfl,V.1.set_ _,Z.1.far (by omega) _,j3.setCell (by show w.heap.size<=w.heap.size+1;omega) _⟩
 rw[<-E];have bY:=Kh E;have c3:=k1.cell;have c2:=U.cell;have f2:=U.free;have K1:=Kh k1;have K2:=Kh U;clear E k1 U c1 f1;by_cases hx4:(-(x:Int)) % 4=1
 ·go_wp2
  go_region
  all_goals go_wp2
  all_goals (refine bodyPost_ret (v:=.tuple #[.int .i64 (-(x:Int)),.int .i64 (y:Int),.int .i64 0]) (by simp[results,results161,go_sem,c2]) rfl ⟨?_,?_⟩)
  ·rw[HP.1,if_neg (by omega)]
  ·exact(k3.setCell (nL _) _).drew
 ·have bC:((-(x:Int)) % 4 != 1)=true:=by simp;omega
  go_wp2;go_region
  all_goals go_wp2
  all_goals (refine bodyPost_ret (v:=.tuple #[.int .i64 (4 * -(x:Int)),.int .i64 ((y / 2:Nat):Int),.int .i64 0]) (by simp[results,results161,go_sem,c2]) rfl ⟨?_,?_⟩)
  ·rw[HP.1,if_pos (by omega)]
  ·exact(k3.setCell (nL _) _).drew
theorem Qn (d:Int) (w:World) (J:d≠0) (M:-120<=d) (I:d<=120) (O:1<d % 4):
  Calls prog 161 #[.int .i64 d] w λE w'=>E=.returned (.tuple #[.int .i64 0,.int .i64 0,.int .i64 15])/\Below w.heap.size w w':=by
 have U:(d==0)=false:=by simp;omega
 go_enter func161,ntmps161
 go_wp2_with (first |(go_at_call 126;refine(c_residue _ _ _ (by omega) (by omega)).mono ?_;rintro e w' ⟨rfl,rfl⟩))
 all_goals try(exfalso;omega)
 refine bodyPost_ret (v:=.tuple #[.int .i64 0,.int .i64 0,.int .i64 15]) (by simp[results,results161,go_sem]) rfl ⟨rfl,?_⟩;go_grown
theorem Oh (w:World):
  Calls prog 161 #[.int .i64 0] w λE w'=>E=.returned (.tuple #[.int .i64 0,.int .i64 0,.int .i64 2])/\Below w.heap.size w w':=by
 go_enter func161,ntmps161
 go_wp2;refine bodyPost_ret (v:=.tuple #[.int .i64 0,.int .i64 0,.int .i64 2]) (by simp[results,results161,go_sem]) rfl ⟨rfl,?_⟩;go_grown
/-! Psi -/
theorem fQ (q e:Nat) (w:World) (hq:0<q) (Z:q<=1000) (he:0<e) (U:e<=60) (h:q ^ (e - 1)*(q+1)<9223372036854775808):
  Calls prog 200 #[.int .i64 q,.int .i64 e] w λJ w'=>J=.returned (.int .i64 ((q ^ (e - 1)*(q+1):Nat):Int))/\w=w':=by
 obtain⟨r,hr⟩:∃r,q ^ (e - 1)=r:=⟨_,rfl⟩
 rw[hr]at h ⊢;have E:r<9223372036854775808:=Nat.lt_of_le_of_lt (Nat.le_mul_of_pos_right _ (by omega)) h;have M:0<=(r:Int)*((q:Int)+1):=by rw[show(r:Int)*((q:Int)+1)=((r*(q+1):Nat):Int)from by simp];omega
 have O:(r:Int)*((q:Int)+1)<9223372036854775808:=by rw[show(r:Int)*((q:Int)+1)=((r*(q+1):Nat):Int)from by simp];omega
 have V:(e:Int) - 1=((e - 1:Nat):Int):=by omega
 have I:=Kh hr;clear hr;go_enter func200,ntmps200
 go_wp2_with (first |(go_at_call 198;refine(J2 q (e - 1) r _ hq (by omega) I.1 E).mono ?_;rintro e w' ⟨rfl,rfl⟩))
 go_ret;exact⟨A5 (by simp),rfl⟩
theorem Qx (q e I J B x:Nat) (w:World) (hq:0<q) (bA:q<=1000) (he:0<e) (aN:e<=60) (M:One w I x) (V:w.heap[J]?=some (.cells #[.func (.func 200) #[] #[]] 88 (0,0))) (aK:B<=I)
  (h:q ^ (e - 1)*(q+1)<9223372036854775808) (hx:x*(q ^ (e - 1)*(q+1))<9223372036854775808):
  Calls prog 213 #[.int .i64 q,.int .i64 e,.pointer (some ⟨I,0,none⟩),.pointer (some ⟨J,0,none⟩)] w λen w'=>
   en=.returned (.tuple #[])/\One w' I ((x*(q ^ (e - 1)*(q+1)):Nat):Int)/\w'.heap[J]?=some (.cells #[.func (.func 200) #[] #[]] 88 (0,0))/\Below B w w':=by
 have c1:=M.cell;have f1:=M.free;have c2:w.cell? ⟨J,0,none⟩=some (.func (.func 200) #[] #[]):=by simp[World.cell?,V]
 have aX:I≠J:=by
  rintro rfl;unfold One at M;rw[V]at M;simp at M
 have CP:=λw=>(fQ q e w hq bA he aN h).mono λ_ _ h=>(⟨h.1,h.2.symm⟩:_/\_=w)
 have cI:=K6 hx;generalize q ^ (e - 1)*(q+1)=r at *;have HC:=Kh CP;have H1:=Kh M;have H2:=Kh V;clear CP M V;go_enter func213,ntmps213
 go_wp2;go_still_tail 6,(by kernel_rfl)
 still_call (HC.1 _)
 repeat still_step
 refine wpStill_nil ?_;obtain⟨O,E,U,B3⟩:∃O,O=w.drew/\One O I x/\Below B w O:=⟨_,rfl,H1.1,(Below.refl _ _).drew⟩
 have M2:O.heap[J]?=some (.cells #[.func (.func 200) #[] #[]] 88 (0,0)):=by rw[E];exact H2.1
 change wpList _ _ _ _ _ w.drew;rw[<-E];have c3:=U.cell;have f3:=U.free;have Z:=Kh U;have aD:=Kh M2;have cC:=Kh E;clear E U M2 c2 c1 f1;go_wp2;go_end0;refine⟨rfl,?_,(Below.heap_setCell O ⟨I,0,none⟩ _ J (λh=>aX h.symm)).trans aD.1,B3.setCell aK _⟩;rw[Int.natCast_mul];exact Z.1.set_ _
def aG (w0:World) (b1 b2:Nat) (n:Nat) (k:Nat) (w:World):Prop:=
 One w b1 (Pl.psiFold ((Pl.facs n).take k))/\w.heap[b2]?=some (.cells #[.func (.func 200) #[] #[]] 88 (0,0))/\Below w0.heap.size w0 w
theorem Zd {w0:World} {E I n k q e:Nat} {w:World} (hn:n<121) (h:(Pl.facs n)[k]?=some (q,e)) (U:aG w0 E I n k w) (O:w0.heap.size<=E):
  Calls prog 213 #[.int .i64 q,.int .i64 e,.pointer (some ⟨E,0,none⟩),.pointer (some ⟨I,0,none⟩)] w λJ w'=>J=.returned (.tuple #[])/\aG w0 E I n (k+1) w':=by
 obtain⟨V,Z,i3⟩:=U;obtain⟨a1,a2,M,a4,a5,a6,a7,a8⟩:=Pl.facs_at hn h
 have h9:q ^ (e - 1)*(q+1)<=1000*1000:=by
  have e1:=Nat.pow_le_pow_right (show 0<q by omega) (show e - 1<=e by omega);exact Nat.mul_le_mul (by omega) (by omega)
 refine(Qx q e E I w0.heap.size _ w (by omega) (by omega) M (by omega) V Z O (by omega) (by omega)).mono ?_;rintro J w' ⟨rfl,j1,j2,j3⟩;refine⟨rfl,?_,j2,i3.trans j3⟩;rw[Pl.psiFold_snoc h];exact j1
theorem W5 (args:Array Value) (w:World):(callFunc 213 args).run prog w=.ok (.enter 213 args) w:=by
 kernel_rfl
theorem Rl (w:World) (n:Nat):aG w (w.heap.size+1) w.heap.size n 0 ((w.alloc (.cells #[.func (.func 200) #[] #[]] 88)).alloc (.cells #[.int .i64 1] 3)):=by
 refine⟨?_,?_,((Below.refl _ _).alloc (nL _) _).alloc (by simp) _⟩
 ·have:=One.new (w.alloc (.cells #[.func (.func 200) #[] #[]] 88)) 1
  rw[show(w.alloc (.cells #[.func (.func 200) #[] #[]] 88)).heap.size=w.heap.size+1 from by simp]at this;exact this
 ·exact(Below.heap_alloc _ _ _ (by simp)).trans (heap_alloc_new w _)
theorem Ld (n:Int) (w:World) (h:1<=n) (I:n<=2147483647):
  Calls prog 124 #[.int .i64 n] w λE w'=>E=.returned (.bool true)/\w=w':=by
 have J:decide (n<=2147483647)=true:=by simpa using I
 go_enter func124,ntmps124
 go_wp2;go_ret;exact⟨by simp,rfl⟩
theorem jS (n:Nat) (w:World) (U:0<n) (hn:n<=120):
  Calls prog 162 #[.int .i64 n] w λE w'=>E=.returned (.tuple #[.int .i64 (Pl.psi n),.int .i64 0])/\Below w.heap.size w w':=by
 have hp:Calls prog 199 #[.int .i64 n,.func (.func 200) #[] #[]] w λE w'=>E=.returned (.tuple #[.int .i64 (Pl.psi n),.int .i64 0])/\Below w.heap.size w w':=by
  go_enter func199,ntmps199
  go_wp2_with (go_at_call 124;refine(Ld _ _ (by omega) (by omega)).mono ?_;rintro e w' ⟨rfl,rfl⟩)
  refine(Hu n 213 _ _ _ (aG w (w.heap.size+1) w.heap.size n) U (by omega) (Rl w n) W5 (λk q e wk h V=>Zd (by omega) h V (by omega))).mono ?_;rintro E w1 ⟨rfl,I,J,j3⟩;rw[List.take_length]at I;have c1:=I.cell;have M:=Kh I;have O:=Kh J;clear I J;go_wp2;go_ret2
  exact⟨rfl,j3⟩
 go_enter func162,ntmps162
 go_wp2_with (go_at_call 199;refine hp.mono ?_;rintro E w1 ⟨rfl,Z⟩)
 go_ret2
 exact⟨rfl,Z⟩
abbrev Ku (N k D:Int):Value:=.agg #[.int .i64 N,.int .i64 k,.int .i64 D]
theorem Fa {N k D:Int} (h:N<1∨120<N∨k<2∨24<k∨D < -120∨120<D):Pl.check N k D=2:=by unfold Pl.check;rw[if_pos h]
theorem fund_yes {D:Int} (h:Pl.fund D=true):D≠0/\D % 4<=1/\(Pl.fundP D).2=1:=by
 simp only[Pl.fund,Bool.and_eq_true,decide_eq_true_eq]at h;exact⟨h.1.1,h.1.2,h.2⟩
theorem Lb (d:Int) (w:World) (O:-120<=d) (J:d<=120):
  Calls prog 161 #[.int .i64 d] w λE w'=>(∃a b c:Int,E=.returned (.tuple #[.int .i64 a,.int .i64 b,.int .i64 c])/\(Pl.fund d=true↔c=0/\b=1))/\Below w.heap.size w w':=by
 by_cases h0:d=0
 ·subst h0
  refine(Oh w).mono ?_;rintro E w' ⟨rfl,I⟩;exact⟨⟨0,0,2,rfl,by decide⟩,I⟩
 ·by_cases h1:1<d % 4
  ·refine(Qn d w h0 O J h1).mono ?_
   rintro E w' ⟨rfl,I⟩;refine⟨⟨0,0,15,rfl,?_⟩,I⟩;constructor
   ·intro h;have:=fund_yes h;omega
   ·intro h;omega
  ·have M:Calls prog 161 #[.int .i64 d] w λE w'=>E=.returned (.tuple #[.int .i64 (Pl.fundP d).1,.int .i64 (Pl.fundP d).2,.int .i64 0])/\Below w.heap.size w w':=by
    by_cases h2:0<=d
    ·obtain⟨n,rfl⟩:=Int.eq_ofNat_of_zero_le h2
     exact Qp n w (by omega) (by omega) (by omega)
    ·obtain⟨n,rfl⟩:∃n:Nat,d=-(n:Int):=⟨d.natAbs,by omega⟩
     exact Qo n w (by omega) (by omega) (by omega)
   refine M.mono ?_;rintro E w' ⟨rfl,I⟩;refine⟨⟨_,_,0,rfl,?_⟩,I⟩;constructor
   ·intro h;exact⟨rfl,(fund_yes h).2.2⟩
   ·intro h
    simp only[Pl.fund,Bool.and_eq_true,decide_eq_true_eq];exact⟨⟨h0,by omega⟩,h.2⟩
theorem K8 (N k D:Int) (w:World) (h:N<1∨120<N∨k<2∨24<k∨D < -120∨120<D):
  Calls prog 127 #[Ku N k D] w λE w'=>E=.returned (.int .i64 (Pl.check N k D))/\Below w.heap.size w w':=by
 rw[Fa h];by_cases h1:N<1
 ·go_enter func127,ntmps127
  go_wp2;go_ret;exact⟨rfl,by go_grown⟩
 ·by_cases h2:120<N
  ·go_enter func127,ntmps127
   go_wp2;go_ret;exact⟨rfl,by go_grown⟩
  ·by_cases h3:k<2
   ·go_enter func127,ntmps127
    go_wp2;go_ret;exact⟨rfl,by go_grown⟩
   ·by_cases h4:24<k
    ·go_enter func127,ntmps127
     go_wp2;go_ret;exact⟨rfl,by go_grown⟩
    ·by_cases h5:D < -120
     ·go_enter func127,ntmps127
      go_wp2;go_ret;exact⟨rfl,by go_grown⟩
     ·have I:120<D:=by omega
      go_enter func127,ntmps127
      go_wp2;go_ret;exact⟨rfl,by go_grown⟩
theorem Ie (D k:Int) (E:D≠0):((decide (D<0) !=(k % 2==1))=true)↔((D<0/\k % 2=0)∨(0<D/\k % 2=1)):=by
 by_cases h1:D<0 <;> by_cases h2:k % 2=1 <;> simp[h1,h2] <;> omega
theorem Ql (N k D:Int) (w:World) (hN:1<=N) (dE:N<=120) (hk:2<=k) (eF:k<=24) (hD:-120<=D) (bY:D<=120):
  Calls prog 127 #[Ku N k D] w λen w'=>en=.returned (.int .i64 (Pl.check N k D))/\Below w.heap.size w w':=by
 have HF:Pl.check N k D=if Pl.fund D=false then 15 else if N % D≠0 then 14 else if(D<0/\k % 2=0)∨(0<D/\k % 2=1)then 16 else if 512<(Pl.psi N.toNat:Int)*(k - 1)then 7 else 0:=by
  unfold Pl.check;rw[if_neg (by omega)]
 obtain⟨n,rfl⟩:=Int.eq_ofNat_of_zero_le (show 0<=N by omega);have cB:=Pl.psi_small n (by omega) (by omega);rw[Int.toNat_natCast]at HF;obtain⟨q,hq⟩:∃q,Pl.psi n=q:=⟨_,rfl⟩
 rw[hq]at HF cB;have O:=Kh HF;clear HF;have HQ:=Kh hq;clear hq;go_enter func127,ntmps127
 go_wp2_with fail
 refine(Lb D _ hD bY).mono ?_;rintro en w1 ⟨⟨a,b,c,rfl,E⟩,I⟩;simp only[World.size_alloc]at I;have B1:Blk w1 w.heap.size 23 #[.int .i64 n,.int .i64 k,.int .i64 D]:=(Blk.new w _ _).below_ I (by omega);have W1:Below w.heap.size w w1:=((Below.refl _ _).alloc (nL _) _).trans (I.mono (by omega));by_cases hfd:Pl.fund D=false
 ·have cA:c≠0∨b≠1:=by
   by_cases M:c=0
   ·by_cases V:b=1
    ·rw[E.2 ⟨M,V⟩]at hfd;cases hfd
    ·exact .inr V
   ·exact .inl M
  have HR:Pl.check n k D=15:=by rw[O.1,if_pos hfd]
  have aX:=Kh HR;clear HR O hfd E;rcases cA with h|h
  ·go_wp2
   all_goals go_ret
   all_goals exact⟨A5 aX.1.symm,W1⟩
  ·go_wp2
   all_goals go_ret
   all_goals exact⟨A5 aX.1.symm,W1⟩
 ·have J:Pl.fund D=true:=by simpa using hfd
  obtain⟨rfl,rfl⟩:=E.1 J;have Z:D≠0:=(fund_yes J).1;have c0:=B1.at_ 0 rfl;have aN:Pl.check n k D=if(n:Int) % D≠0 then 14 else if(D<0/\k % 2=0)∨(0<D/\k % 2=1)then 16 else if 512<(q:Int)*(k - 1)then 7 else 0:=by rw[O.1,if_neg hfd]
  have bC:=Kh aN;clear aN O hfd J E;go_wp2_with fail
  refine(jS n _ (by omega) (by omega)).mono ?_;rintro en w2 ⟨rfl,U⟩;rw[HQ.1];have B2:Blk w2 w.heap.size 23 #[.int .i64 n,.int .i64 k,.int .i64 D]:=B1.below_ U B1.lt;have W2:Below w.heap.size w w2:=W1.trans (U.mono (Nat.le_of_lt B1.lt));have d0:=B2.at_ 0 rfl;have d1:=B2.at_ 1 rfl;have d2:=B2.at_ 2 rfl;have cG:=Kh B1;have cI:=Kh B2;have cS:=Kh I;have cT:=Kh U;clear c0 B1 B2 I U W1;have dY:0<=(q:Int)*(k - 1):=Int.mul_nonneg (by omega) (by omega);have I:(q:Int)*(k - 1)<=1000*23:=Int.mul_le_mul (by omega) (by omega) (by omega) (by omega);go_wp2;all_goals go_ret
  all_goals refine⟨A5 ?_,W2⟩
  all_goals rw[bC.1]
  ·have M:((n:Int) % D != 0)=true:=by assumption
   rw[if_pos (bne_iff_ne.1 M)]
  ·have M:((n:Int) % D != 0)=false:=by assumption
   have V:(!decide (D<0)==(k % 2==1))=true:=by assumption
   rw[if_neg (by simpa using M),if_pos ((Ie D k Z).1 (by rw[bne];revert V;cases decide (D<0) <;> cases (k % 2==1) <;> simp))]
  ·have M:((n:Int) % D != 0)=false:=by assumption
   have V:(!decide (D<0)==(k % 2==1))=false:=by assumption
   rw[if_neg (by simpa using M),if_neg (λh=>by have:=(Ie D k Z).2 h;rw[bne]at this;revert V this;cases decide (D<0) <;> cases (k % 2==1) <;> simp),if_pos (by assumption)]
  ·have M:((n:Int) % D != 0)=false:=by assumption
   have V:(!decide (D<0)==(k % 2==1))=false:=by assumption
   rw[if_neg (by simpa using M),if_neg (λh=>by have:=(Ie D k Z).2 h;rw[bne]at this;revert V this;cases decide (D<0) <;> cases (k % 2==1) <;> simp),if_neg (by omega)]
theorem Fo (N k D:Int) (w:World):
  Calls prog 127 #[Ku N k D] w λE w'=>E=.returned (.int .i64 (Pl.check N k D))/\Below w.heap.size w w':=by
 by_cases h:N<1∨120<N∨k<2∨24<k∨D < -120∨120<D
 ·exact K8 N k D w h
 ·exact Ql N k D w (by omega) (by omega) (by omega) (by omega) (by omega) (by omega)
end Go.Proofs.YtenlbhlllgppmaaGreatDoor
