/- Contracts of halfplaneref40.Count and Large. -/
import Derived.Test.YtenlbhlllgppmaaGreatDoorA25
set_option linter.unusedSimpArgs false
set_option maxRecDepth 100000
set_option maxHeartbeats 8000000
namespace Go.Proofs.YtenlbhlllgppmaaGreatDoor
section
open Go.RowKit Tryz
theorem Aj {N k D:Int} (h:Pl.check N k D=0):1<=N/\N<=120/\2<=k/\k<=24/\-120<=D/\D<=120:=by
 by_cases hr:N<1∨120<N∨k<2∨24<k∨D < -120∨120<D
 ·rw[Fa hr]at h;cases h
 ·omega
theorem Lm (n wt:Nat) (D:Int) (w:World) (U:Pl.check n ((wt:Int)+2) D=0):
  Calls prog 46 #[.agg #[.int .i64 n,.int .i64 ((wt:Int)+2),.int .i64 D]] w λe w'=>e=.returned (.tuple #[.int .i64 (((wt+1)*(pts n (n*n)).length:Nat):Int),.int .i64 0])/\Below w.heap.size w w':=by
 obtain⟨h1,h2,h3,h4,h5,h6⟩:=Aj U;have h:=Kh (λW=>Zt n W (by omega) (by omega));have aX:(pts n (n*n)).length<=14400:=mH (B6 n (n*n)) (by have:n*n<=120*120:=Nat.mul_le_mul (by omega) (by omega);omega);obtain⟨P,hP⟩:∃P,(pts n (n*n)).length=P:=⟨_,rfl⟩
 rw[hP]at h aX ⊢;obtain⟨C,hC⟩:∃C,(wt+1)*P=C:=⟨_,rfl⟩
 have cT:C<=331200:=by rw[<-hC];exact Nat.mul_le_mul (by omega:wt+1<=23) aX
 obtain⟨W1,aK⟩:∃x,wt+1=x:=⟨_,rfl⟩
 have v0:IntKind.i64.wrap ((wt:Int)+2 - 1)=(W1:Nat):=by rw[show(wt:Int)+2 - 1=(W1:Nat)by omega];exact IntWalk.i64_in _ (by omega)
 have e1:(W1:Int)*(P:Int)=(C:Nat):=by rw[<-hC,<-aK];push_cast;rfl
 have v1:IntKind.i64.wrap (C:Int)=(C:Nat):=IntWalk.i64_in _ (by omega);rw[hC];have bG:=Kh U;clear U hP hC aK;go_enter func46,ntmps46
 go_wp2_with fail
 obtain⟨w0,bA,X0,M⟩:=bx1 w #[.int .i64 n,.int .i64 ((wt:Int)+2),.int .i64 D] 23;rw[bA];refine(Ll n ((wt:Int)+2) D w0).mono ?_;rintro e I ⟨rfl,O⟩;rw[bG.1];have J:=Kh (X0.below_ O X0.lt);have Z:=Kh (M.trans (O.mono M.size));obtain⟨gs,V⟩:∃x,w.heap.size=x:=⟨_,rfl⟩
 rw[V]at J ⊢;have x0:=J.1.at_ 0 rfl;have x1:=J.1.at_ 1 rfl;have cG:=Kh V;clear bA X0 M O V;have aD:=Kh (show ∀Y,Below I.heap.size I Y->(Y.cell? ⟨gs,0,none⟩=some (.int .i64 (n:Int))/\Y.cell? ⟨gs,1,none⟩=some (.int .i64 ((wt:Int)+2)))from λY hb=>⟨cell_next hb x0,cell_next hb x1⟩);have cB:=aD.1 _ (Below.refl _ I).drew;have bH:=Kh (show ∀wb,Below I.drew.heap.size I.drew wb->Below I.heap.size I wb from λwb hb=>(Below.refl _ I).drew.trans hb);go_upto_region 4 with(fail)
 go_region_held3 (λY=>Y.cell? ⟨gs,0,none⟩=some (.int .i64 (n:Int))/\Y.cell? ⟨gs,1,none⟩=some (.int .i64 ((wt:Int)+2)))
  (first|with_reducible exact cB|with_reducible exact aD.1 _ aN |(exfalso;assumption))
  (first
   |(go_at_call 90;with_reducible refine(h.1 _).mono ?_;rintro e w5 ⟨rfl,cC⟩;have aN:Below I.heap.size I w5:=bH.1 _ cC))
 all_goals have bE:=Kh aN
 all_goals go_wp2
 all_goals (first|go_ret2|go_ret)
 all_goals exact⟨rfl,Z.1.trans (bE.1.mono Z.1.size)⟩
theorem F6 (N k D:Int) (w:World) (O:Pl.check N k D≠0):
  Calls prog 46 #[.agg #[.int .i64 N,.int .i64 k,.int .i64 D]] w λe w'=>e=.returned (.tuple #[.int .i64 0,.int .i64 (Pl.check N k D)])/\Below w.heap.size w w':=by
 obtain⟨Y,J⟩:∃Y,Pl.check N k D=Y:=⟨_,rfl⟩
 have V:=Kh J;rw[J]at O ⊢;clear J;go_enter func46,ntmps46
 go_wp2_with fail
 obtain⟨w0,U,h,I⟩:=bx1 w #[.int .i64 N,.int .i64 k,.int .i64 D] 23;rw[U];refine(Ll N k D w0).mono ?_;rintro e w1 ⟨rfl,M⟩;have Z:=Kh (I.trans (M.mono I.size));rw[V.1];have aD:(Y != 0)=true:=by simpa using O
 clear U h I M;go_wp2
 (first|go_ret2|go_ret)
 exact⟨rfl,Z.1⟩
theorem Zp (n wt:Nat) (D:Int) (w:World) (O:Pl.check n ((wt:Int)+2) D=0):
  Calls prog 10 #[.agg #[.int .i64 n,.int .i64 ((wt:Int)+2),.int .i64 D]] w λe w'=>e=.returned (.bool (decide (72<(wt+1)*(pts n (n*n)).length)))/\Below w.heap.size w w':=by
 have J:=Kh (λW=>Lm n wt D W O);obtain⟨C,V⟩:∃C,(wt+1)*(pts n (n*n)).length=C:=⟨_,rfl⟩
 rw[V]at J ⊢;clear O V;go_enter func10,ntmps10
 go_wp2_with fail
 have I:Below w.heap.size w (w.alloc (.cells #[.int .i64 n,.int .i64 ((wt:Int)+2),.int .i64 D] 23)):=(Below.refl _ _).alloc (mG _) _;refine(J.1 _).mono ?_;rintro e Z ⟨rfl,M⟩;have U:=Kh (I.trans (M.mono I.size));clear I M;by_cases h:72<C
 ·have Y:(72:Int)<(C:Int):=by omega
  go_wp2;go_ret;exact⟨Ca (by simp[h]),U.1⟩
 ·have Y:¬((72:Int)<(C:Int)):=by omega
  go_wp2;go_ret;exact⟨Ca (by simp;omega),U.1⟩
theorem Oi (N k D:Int) (w:World) (J:Pl.check N k D≠0):
  Calls prog 10 #[.agg #[.int .i64 N,.int .i64 k,.int .i64 D]] w λe w'=>e=.returned (.bool false)/\Below w.heap.size w w':=by
 have O:=Kh (λW=>F6 N k D W J);have V:(Pl.check N k D==0)=false:=by simpa using J
 clear J;go_enter func10,ntmps10
 go_wp2_with fail
 have I:Below w.heap.size w (w.alloc (.cells #[.int .i64 N,.int .i64 k,.int .i64 D] 23)):=(Below.refl _ _).alloc (mG _) _;refine(O.1 _).mono ?_;rintro e Y ⟨rfl,M⟩;have U:=Kh (I.trans (M.mono I.size));clear I M;go_wp2;go_ret;exact⟨rfl,U.1⟩
end
section
open Go.RowKit Eli Tryz
theorem W0 (D:Int) (l:Nat):Pl.kroP D l=0∨Pl.kroP D l=1∨Pl.kroP D l=-1:=by
 have h:-1<=Pl.kroP D l/\Pl.kroP D l<=1:=by
  unfold Pl.kroP;dsimp only;split
  ·omega
  ·have h:=Qz (l / 2 ^ Lib.ctz 64 l+1) (D % (l / 2 ^ Lib.ctz 64 l:Nat)).toNat (l / 2 ^ Lib.ctz 64 l) 1 (.inl rfl)
   split <;> omega
 omega
def Iv (n wt:Nat) (D:Int) (p:Nat):Int:=Ks n wt D (p / ((wt+1)*(pts n (n*n)).length)) (p % ((wt+1)*(pts n (n*n)).length))
def cntF (n wt:Nat):Nat:=(wt+1)*(pts n (n*n)).length
def Cb (n wt:Nat) (D:Int):Nat->List (Nat×Rat):=elim (cntF n wt) (Bv (cntF n wt) (Iv n wt D)) (2*cntF n wt)
theorem Eu {n wt:Nat} {D:Int} (I:wt<=22) (p:Nat):(Iv n wt D p).natAbs<=16777216:=Rc (Fi (W0 D) n) I _ _
theorem Gz {n wt:Nat} {D:Int} (I:wt<=22):Eli.Good (cntF n wt) 16777216 (Cb n wt D):=Eli.Good.elim (by omega) (Cv (Eu I)) (Dl _ _) _
theorem Yc {n:Nat} (hn:0<n):0<(pts n (n*n)).length:=by
 have I:∀a,a<n*n->E4 n a=true->Fj n a=true->0<(pts n (n*n)).length:=by
  intro a J M O;refine List.length_pos_of_mem (a:=a) ?_;rw[B5 hn _ (mG _),List.mem_filter];exact⟨List.mem_range.2 J,by rw[M,O];rfl⟩
 rcases Nat.eq_or_lt_of_le (show 1<=n from hn)with rfl|h
 ·exact I 0 (by omega) (by decide) (by decide)
 ·have J:1<n*n:=mI h (Nat.le_mul_of_pos_left n hn)
  have V:1 / n=0:=Nat.div_eq_of_lt h;have Y:1 % n=1:=Nat.mod_eq_of_lt h;refine I 1 J ?_ ?_
  ·unfold E4;rw[V,Y];simp
  ·rw[Cl]
   intro s M O U
   have Z:s≠n:=λe=>by
    subst e;unfold pun at U;simp only[beq_iff_eq,Nat.gcd_self]at U;omega
   unfold Az;rw[V,Y,Nat.mul_zero,Nat.zero_mod,Nat.zero_mul,Nat.zero_add,Nat.mul_one,Nat.mod_eq_of_lt (by omega)];exact M
theorem Oz {n wt:Nat} (hn:0<n):0<cntF n wt:=Nat.mul_pos (by omega) (Yc hn)
theorem gE (n wt:Nat) (D:Int) (w:World) (O:Tab w) (I:Pl.check n ((wt:Int)+2) D=0) (J:cntF n wt<=72):
  Calls prog 11 #[.agg #[.int .i64 n,.int .i64 ((wt:Int)+2),.int .i64 D]] w λe w'=>(∃M,e=.returned (.tuple #[.pointer (some ⟨M,0,none⟩),.int .i64 0])/\(w.heap.size<=M/\∀v g,w'.cell? ⟨M,3,none⟩=some v->v.ownBlock=some g->w.heap.size<=g)/\ModAt w' M w'.heap.size n ((wt:Int)+2) D (frs (Cb n wt D) (cntF n wt)) (cntF n wt) (Bk (Cb n wt D) (cntF n wt) (cntF n wt)))/\Below w.heap.size w w':=by
 obtain⟨Y,Z,h,h4,h5,h6⟩:=Aj I;exact Vp n ((wt:Int)+2) D (2*cntF n wt) (cntF n wt) (Iv n wt D) w (λV U=>Ju n wt D (pts n (n*n)) (cntF n wt) V (O.below U) (by omega) (by omega) (by omega) (by omega) (by omega) I (W0 D) rfl rfl (Oz (by omega)) J) (by omega) (Oz (by omega)) J (Eu (by omega))
theorem Qu {n wt:Nat} {D:Int} (V:wt<=22) (M:cntF n wt<=72) {j f:Nat} (U:j<cntF n wt) (O:f∈frs (Cb n wt D) (cntF n wt)):hq (Bk (Cb n wt D) (cntF n wt) (cntF n wt) j f)<=80:=by
 obtain⟨I,J⟩:=G1.1 O;exact mH (O1 (by omega) (Gz V) (by omega) (mG _) U I J) (Ny M (mG _))
theorem Lw (N k D:Int) (w:World) (J:Pl.check N k D≠0):
  Calls prog 47 #[.agg #[.int .i64 N,.int .i64 k,.int .i64 D]] w λe w'=>e=.returned (.tuple #[.agg #[.int .i64 0,.int .i64 0,.slice none 0 0],.int .i64 (Pl.check N k D)])/\Below w.heap.size w w':=by
 have O:=Kh (λW=>Vt N k D W J);obtain⟨er,aD⟩:∃er,Pl.check N k D=er:=⟨_,rfl⟩
 rw[aD]at J O ⊢;have bH:(er != 0)=true:=by simpa using J
 clear aD J;go_enter func47,ntmps47
 go_wp2_with fail
 obtain⟨w0,aK,X0,X1,Y⟩:=bx2 w #[.int .i64 N,.int .i64 k,.int .i64 D] 23 #[.int .i64 0,.int .i64 0,.slice none 0 0] 99;rw[aK];refine(O.1 w0).mono ?_;rintro e w1 ⟨rfl,Z⟩;have I:=Kh (X1.below_ Z X1.lt);have aN:=Kh (Y.trans (Z.mono Y.size));obtain⟨V,h⟩:∃x,w.heap.size+1=x:=⟨_,rfl⟩
 have U:=Kh h;rw[h]at I ⊢;have r0:=I.1.at_ 0 rfl;have r1:=I.1.at_ 1 rfl;have r2:=I.1.at_ 2 rfl;have f0:=I.1.free_ 0;have f1:=I.1.free_ 1;have f2:=I.1.free_ 2;have M:=Kh (Hy (w:=w1) (R:=V) (v0:=.int .i64 0) (v1:=.int .i64 0) (v2:=.slice none 0 0) (by rw[r0];rfl) (by rw[r1];rfl) (by rw[r2];rfl));clear aK X0 X1 Y Z h O;go_wp2;have e0:=M.1.1;have e1:=M.1.2.1;have e2:=M.1.2.2;try simp only[Exit.inBlock,Exit.then]
 refine bodyPost_ret (by simp[results,results47,go_sem,e0,e1,e2];try rfl) rfl ?_;exact⟨rfl,((aN.1.setCell (p:=⟨V,0,none⟩) (by have:=U.1;show w.heap.size<=V;omega) _).setCell (p:=⟨V,1,none⟩) (by have:=U.1;show w.heap.size<=V;omega) _).setCell (p:=⟨V,2,none⟩) (by have:=U.1;show w.heap.size<=V;omega) _⟩
theorem Uz (N k D:Int) (w:World) (I:Pl.check N k D≠0):
  Calls prog 11 #[.agg #[.int .i64 N,.int .i64 k,.int .i64 D]] w λe w'=>e=.returned (.tuple #[.pointer none,.int .i64 (Pl.check N k D)])/\Below w.heap.size w w':=
 dQ N k D (Pl.check N k D) w (λJ _=>(Lw N k D J I).mono (λ_ _ h=>⟨⟨0,0,h.1⟩,h.2⟩)) I
end
section
open Go.RowKit Tryz
theorem Vq (n wt:Nat) (D:Int) (i:Nat) (u v:Int) (w:World) (hT:Tab w) (bB:Pl.check n ((wt:Int)+2) D=0) (hi:i<=wt) (hs:(Ao n D u v).2≠0):
  Calls prog 115 #[.agg #[.int .i64 n,.int .i64 ((wt:Int)+2),.int .i64 D],.agg #[.int .i64 i,.int .i64 u,.int .i64 v]] w λe w'=>e=.returned (.tuple #[.int .i64 ((i*(pts n (n*n)).length+(Ao n D u v).1:Nat):Int),.int .i64 (Ao n D u v).2,.int .i64 0])/\Below w.heap.size w w':=by
 obtain⟨h1,h2,h3,h4,h5,h6⟩:=Aj bB;have cG:(pts n (n*n)).length<=14400:=mH (B6 n (n*n)) (by have:n*n<=120*120:=Nat.mul_le_mul (by omega) (by omega);omega);have U:=Kh (λW (hb:Below w.heap.size w W)=>Gf n wt D W (hT.below hb) (by omega) (by omega) (by omega) (by omega) (by omega) bB);have O:=Kh (λT B W h hB=>cO T B n wt (pts n (n*n)) (Bb n D (pts n (n*n)) n) u v W h hB (by omega) (by omega))
 have aX:=Kh (show(Ao n D u v).1<(pts n (n*n)).length from by
  rcases Fi (W0 D) n ((u % n).toNat*n+(v % n).toNat)with h|h
  ·exact absurd (by unfold Ao;rw[h]) hs
  ·exact h.1)
 obtain⟨pc,bC⟩:∃p,Ao n D u v=p:=⟨_,rfl⟩
 have aN:Bb n D (pts n (n*n)) n ((u % n).toNat*n+(v % n).toNat)=pc:=bC;rw[aN]at O;rw[bC]at hs aX ⊢;obtain⟨L,hL⟩:∃L,pts n (n*n)=L:=⟨_,rfl⟩
 rw[hL]at U O aX cG ⊢;obtain⟨f,hf⟩:∃f,Bb n D L n=f:=⟨_,rfl⟩
 rw[hf]at U O;have hS:wt<=22:=by omega
 have hR:(pc.2==0)=false:=by rw[beq_eq_false_iff_ne];exact hs
 obtain⟨iL,aK⟩:∃x,i*L.length=x:=⟨_,rfl⟩
 have e1:(i:Int)*(L.length:Int)=(iL:Nat):=by rw[<-aK];push_cast;rfl
 have Y:iL<=22*14400:=by rw[<-aK];exact Nat.mul_le_mul (by omega) cG
 have hQ:pc.1<14400:=by have:=aX.1;omega
 rw[aK];have HS:=Kh hs;clear hT bB h1 h2 h3 h4 h5 h6 hs bC aN hL hf aK;have gA:¬((i:Int)<0):=by omega
 have hO:decide ((i:Int)<0)=false:=decide_eq_false gA;have gF:¬((wt:Int)<(i:Int)):=by omega
 have hP:decide ((wt:Int)<(i:Int))=false:=decide_eq_false gF;go_enter func115,ntmps115
 go_wp2_with fail
 obtain⟨w0,cV,_,XB,V⟩:=bx2 w #[.int .i64 n,.int .i64 ((wt:Int)+2),.int .i64 D] 23 #[.int .i64 i,.int .i64 u,.int .i64 v] 180;rw[cV];refine(U.1 w0 V).mono ?_;rintro e w1 ⟨⟨T,rfl,bE⟩,Y⟩;have M:=XB.below_ Y XB.lt;have x0:=M.at_ 0 rfl;have x1:=M.at_ 1 rfl;have x2:=M.at_ 2 rfl;have t1:=bE.c1;have cC:=Kh bE;have cD:=Kh M;have bG:=Kh (V.trans (Y.mono V.size));clear cV XB V Y bE M U;go_upto_region 4 with(fail)
 go_quiet (fail)
 have I:Below w1.heap.size w1 (w1.drewN nq):=Aa (Below.refl _ _) nq;generalize w1.drewN nq=w2 at I ⊢;have bA:=Kh (cC.1.keep (mG _) I);have J:=Kh (bk cD I);have bH:=bt bG I;have cA:=Kh I.size;clear x0 x1 x2 t1 I cD bG cC;have x0:=J.1.at_ 0 rfl;have x1:=J.1.at_ 1 rfl;have x2:=J.1.at_ 2 rfl;go_wp2_with fail
 refine(O.1 T w1.heap.size w2 bA.1 cA.1).mono ?_;rintro e w3 ⟨rfl,Z⟩;have cB:=Kh (bA.1.keep cA.1 Z);have cF:=Kh (bk J Z);have bY:=bt bH Z;clear x0 x1 x2 Z J bH bA;go_upto_region 7 with(fail)
 obtain⟨w4,cX,X4,aD⟩:=bx1 w3 #[.int .i64 (pc.1:Int),.int .i64 pc.2] 215;rw[cX];have y0:=X4.at_ 0 rfl;have y1:=X4.at_ 1 rfl;have x0:=(bk cF aD).at_ 0 rfl;obtain⟨pl,cl,t2,_⟩:=cB.1.c2;have t2:=cell_next aD t2;have dX:=bt bY aD;clear cX X4 aD cF bY cB;go_upto_region 9 with(fail)
 go_quiet (fail)
 have dY:=Kh (show Below w.heap.size w (w4.drewN nq)from Aa dX.1 nq);go_wp2;go_ret3
 exact⟨by push_cast;rfl,dY.1⟩
def Ak (x y:Int×Int):(Int×Int)×(Int×Int):=if y.1*x.2 - x.1*y.2=1 then((y.1,x.1),(y.2,x.2))else((y.1,-x.1),(y.2,-x.2))
theorem eD (a b c d:Int) (w:World) (ha:-1073741824<=a) (V:a<=1073741824) (hb:-1073741824<=b) (Y:b<=1073741824) (hc:-1073741824<=c) (Z:c<=1073741824) (hd:-1073741824<=d) (aD:d<=1073741824)
  (M:c*b - a*d=1∨c*b - a*d=-1):
  Calls prog 114 #[.agg #[.int .i64 a,.int .i64 b],.agg #[.int .i64 c,.int .i64 d]] w λe w'=>e=.returned (.tuple #[.agg #[.int .i64 (Ak (a,b) (c,d)).1.1,.int .i64 (Ak (a,b) (c,d)).1.2,.int .i64 (Ak (a,b) (c,d)).2.1,.int .i64 (Ak (a,b) (c,d)).2.2],.bool true])/\Below w.heap.size w w':=by
 have O:=mul_b hc Z hb Y;have U:=mul_b ha V hd aD;obtain⟨cb,J⟩:∃x,c*b=x:=⟨_,rfl⟩
 obtain⟨ad,I⟩:∃x,a*d=x:=⟨_,rfl⟩
 rcases M with h|h
 ·rw[show Ak (a,b) (c,d)=((c,a),(d,b))by unfold Ak;rw[if_pos h]]
  rw[J]at h O;rw[I]at h U;go_enter func114,ntmps114
  go_wp2;try simp only[Exit.inBlock,Exit.then]
  refine bodyPost_ret (by simp[results,results114,go_sem];try rfl) rfl ?_;exact⟨rfl,((((Below.refl _ w).alloc (mG _) _).alloc (by simp) _).alloc (by simp;omega) _).alloc (by simp;omega) _⟩
 ·rw[show Ak (a,b) (c,d)=((c,-a),(d,-b))by unfold Ak;rw[if_neg (by show ¬(c*b - a*d=1);omega)]]
  rw[J]at h O;rw[I]at h U;go_enter func114,ntmps114
  go_wp2;try simp only[Exit.inBlock,Exit.then]
  refine bodyPost_ret (by simp[results,results114,go_sem];try rfl) rfl ?_;exact⟨rfl,((((Below.refl _ w).alloc (mG _) _).alloc (by simp) _).alloc (by simp;omega) _).alloc (by simp;omega) _⟩
end
section
open Go.RowKit Eli Tryz
def bP (Q:Nat->Rat) (n wt:Nat) (D:Int) (X:Nat->Nat->Rat) (a b:Int×Int) (f i:Nat):Rat:=
 subst Q wt (Ak a b).1.1 (Ak a b).1.2 (Ak a b).2.1 (Ak a b).2.2 (wt+1) i*((Ao n D (Ak a b).2.1 (Ak a b).2.2).2:Rat)*X (i*(pts n (n*n)).length+(Ao n D (Ak a b).2.1 (Ak a b).2.2).1) f
def U5 (Q:Nat->Rat) (n wt:Nat) (D:Int) (X:Nat->Nat->Rat) (a b:Int×Int) (f i:Nat):Rat:=sumQ (bP Q n wt D X a b f) i
def N4 (Q:Nat->Rat) (n wt:Nat) (D:Int) (X:Nat->Nat->Rat) (ch:List (Int×Int)) (f k:Nat):Rat:=sumQ (λj=>U5 Q n wt D X (ch.getD j (0,0)) (ch.getD (j+1) (0,0)) f (wt+1)) k
theorem Tw (M B n wt:Nat) (D:Int) (F:List Nat) (C:Nat) (X:Nat->Nat->Rat) (ch:List (Int×Int)) (gc oc cc:Nat) (v:Value) (x y:Nat->Int) (w:World) (hT:Tab w) (oS:Pl.check n ((wt:Int)+2) D=0) (sP:cntF n wt=C) (hF:F.length<=72)
  (eV:ModAt w M B n ((wt:Int)+2) D F C X) (hB:B<=w.heap.size) (hX:∀j f,j<C->f∈F->hq (X j f)<=10000) (hp:QL (λj=>IsB 4000 (x j) (y j)) w v (wt+1)) (mX:gc<w.heap.size) (sY:ch.length<=130)
  (mV:∀k c,ch[k]?=some c->w.cell? ⟨gc,oc+k*2,none⟩=some (.int .i64 c.1)/\w.cell? ⟨gc,oc+k*2+1,none⟩=some (.int .i64 c.2)/\(-1073741824<=c.1/\c.1<=1073741824/\-1073741824<=c.2/\c.2<=1073741824))
  (tB:∀k a b,ch[k]?=some a->ch[k+1]?=some b->(b.1*a.2 - a.1*b.2=1∨b.1*a.2 - a.1*b.2=-1)/\(Ao n D (Ak a b).2.1 (Ak a b).2.2).2≠0):
  Calls prog 66 #[.pointer (some ⟨M,0,none⟩),v,.slice (some ⟨gc,oc,none⟩) ch.length cc] w λe w'=>(∃g,e=.returned (.tuple #[.slice (some ⟨g,0,none⟩) F.length F.length,.int .i64 0])/\w.heap.size<=g/\QRow (λj=>IsQ (N4 (λi=>Rat.divInt (x i) (y i)) n wt D X ch (F.getD j 0) (ch.length - 1))) w' g F.length F.length)/\Below w.heap.size w w':=by
 obtain⟨h1,h2,h3,h4,h5,h6⟩:=Aj oS;have yC:wt<=22:=by omega
 obtain⟨Q,hQ⟩:∃Q:Nat->Rat,(λi=>Rat.divInt (x i) (y i))=Q:=⟨_,rfl⟩
 have HQ:=Kh hQ
 have qS:=Kh (show ∀i,i<wt+1->hq (Q i)<=4000 from λi hi=>by
  obtain⟨_,_,_,_,hr⟩:=hp.resolve_left (λh=>by omega);obtain⟨_,_,_,_,_,_,_,_,_,_,_,_,h5,h6,h7,h8⟩:=hr.2 i hi;rw[<-hQ];exact Kf (by decide) (mH h5.size h7) (mH h6.size h8))
 rw[hQ];have rD:=Kh (λW (I:Below w.heap.size w W)=>Ge M B n ((wt:Int)+2) D F C X W (eV.keep hB I) (mH hB I.size));have nY:=Kh (λW (I:Below w.heap.size w W)=>Ln M B n ((wt:Int)+2) D F C X W (eV.keep hB I));have uT:=Kh (λW a b c d (I:Below w.heap.size w W) (ha:-1073741824<=a) (vJ:a<=1073741824) (hJ:-1073741824<=b) (vK:b<=1073741824) (hc:-1073741824<=c) (vL:c<=1073741824) (hd:-1073741824<=d) (vM:d<=1073741824)=>Ou 4000 (by decide) (by decide) v (wt+1) x y a b c d W (hp.keep (λ_=>IsB.solid _ _ _) I) (by omega) (by omega) ha vJ hJ vK hc vL hd vM);have uL:=Kh (λW i u z (I:Below w.heap.size w W) (hi:i<=wt) (hs:(Ao n D u z).2≠0)=>Vq n wt D i u z W (hT.below I) oS hi hs);have qX:=Kh (λW i (I:Below w.heap.size w W) (hi:i<C)=>Vu M B n ((wt:Int)+2) D F C X i W (eV.keep hB I) hi (by omega) (λf hf=>mH (hX i f hi hf) (by omega)))
 have oE:=Kh (show ∀u z,(Ao n D u z).2≠0->(Ao n D u z).1<(pts n (n*n)).length/\-1<=(Ao n D u z).2/\(Ao n D u z).2<=1 from λu z hs=>by
  rcases Fi (W0 D) n ((u % n).toNat*n+(z % n).toNat)with h|h
  ·exact absurd (by unfold Ao;rw[h]) hs
  ·exact⟨h.1,by unfold Ao;omega,by unfold Ao;omega⟩)
 have oK:=Kh (show ∀j i,j<C->i<F.length->hq (X j (F.getD i 0))<=10000 from λj i hj hi=>hX j _ hj (by rw[List.getD_eq_getElem?_getD,List.getElem?_eq_getElem hi];exact List.getElem_mem hi));obtain⟨L,hL⟩:∃L,(pts n (n*n)).length=L:=⟨_,rfl⟩
 have HL:=Kh hL;have qJ:=Kh (show(wt+1)*L=C by rw[<-sP,<-hL];rfl);rw[hL]at oE;have qI:=Kh (show ∀W,Below w.heap.size w W->∀k c,ch[k]?=some c->W.cell? ⟨gc,oc+k*2,none⟩=some (.int .i64 c.1)/\W.cell? ⟨gc,oc+k*2+1,none⟩=some (.int .i64 c.2)from λW I k c hk=>⟨(I.cell (p:=⟨gc,oc+k*2,none⟩) mX).trans (mV k c hk).1,(I.cell (p:=⟨gc,oc+k*2+1,none⟩) mX).trans (mV k c hk).2.1⟩);have mL:=Kh (show ∀(k:Nat) (c:Int×Int),ch[k]?=some c->-1073741824<=c.1/\c.1<=1073741824/\-1073741824<=c.2/\c.2<=1073741824 from λk c hk=>(mV k c hk).2.2);have rF:=Kh tB;have xE:=Kh mX
 obtain⟨pv,cv,vF⟩:∃p c,v=.slice p (wt+1) c:=by
  obtain⟨_,_,_,e',_⟩:=hp.resolve_left (λh=>by omega);exact⟨_,_,e'⟩
 obtain⟨J,oO⟩:∃J,F.length=J:=⟨_,rfl⟩
 rw[oO]at hF nY qX oK ⊢
 have rK:=Kh (show ∀k a b i j,ch[k]?=some a->ch[k+1]?=some b->i<wt+1->j<J->hq (bP Q n wt D X a b (F.getD j 0) i)<=140000 from λk a b i j ha I hi hj=>by
  obtain⟨a1,a2,a3,a4⟩:=mL.1 k a ha;obtain⟨b1,b2,b3,b4⟩:=mL.1 (k+1) b I;obtain⟨p1,p2,p3⟩:=oE.1 _ _ (rF.1 k a b ha I).2
  have sX:i*L+(Ao n D (Ak a b).2.1 (Ak a b).2.2).1<C:=by
   rw[<-qJ.1];have h7:=Nat.mul_le_mul_right L (show i+1<=wt+1 by omega);rw[Nat.succ_mul]at h7;omega
  have xX:hq (subst Q wt (Ak a b).1.1 (Ak a b).1.2 (Ak a b).2.1 (Ak a b).2.2 (wt+1) i)<=123880:=by
   refine Cs (K:=4000) (λq hq=>qS.1 q hq) (Dd ?_ ?_) (Dd ?_ ?_) (Dd ?_ ?_) (Dd ?_ ?_) (by omega) (by omega) <;>(unfold Ak;split <;>(dsimp only;omega))
  have pA:hq (((Ao n D (Ak a b).2.1 (Ak a b).2.2).2:Int):Rat)<=1:=by
   rw[Gj];have:nd ((Ao n D (Ak a b).2.1 (Ak a b).2.2).2).natAbs<=1:=Be.2 (by omega);omega
  have xY:=oK.1 _ j sX hj;have h7:=Cc (subst Q wt (Ak a b).1.1 (Ak a b).1.2 (Ak a b).2.1 (Ak a b).2.2 (wt+1) i*((Ao n D (Ak a b).2.1 (Ak a b).2.2).2:Rat)) (X (i*L+(Ao n D (Ak a b).2.1 (Ak a b).2.2).1) (F.getD j 0));have h8:=Cc (subst Q wt (Ak a b).1.1 (Ak a b).1.2 (Ak a b).2.1 (Ak a b).2.2 (wt+1) i) ((Ao n D (Ak a b).2.1 (Ak a b).2.2).2:Rat);unfold bP;rw[HL.1];omega)
 have rE:=Kh (show ∀k a b i j,ch[k]?=some a->ch[k+1]?=some b->i<=wt+1->j<J->hq (U5 Q n wt D X a b (F.getD j 0) i)<=3300000 from λk a b i j ha I hi hj=>by
  have h7:=Dm (bP Q n wt D X a b (F.getD j 0)) 140000 i (λq hq=>rK.1 k a b q j ha I (by omega) hj);have h8:i*(140000+1)<=23*140001:=Nat.mul_le_mul (by omega) (mG _);unfold U5;omega)
 have qO:=Kh (show ∀k j,k+1<=ch.length->j<J->hq (N4 Q n wt D X ch (F.getD j 0) k)<=430000000 from λk j hk hj=>by
  have h7:=Dm (λj'=>U5 Q n wt D X (ch.getD j' (0,0)) (ch.getD (j'+1) (0,0)) (F.getD j 0) (wt+1)) 3300000 k (λq hq=>rE.1 q _ _ (wt+1) j (by rw[List.getD_eq_getElem?_getD,List.getElem?_eq_getElem (show q<ch.length by omega)];rfl) (by rw[List.getD_eq_getElem?_getD,List.getElem?_eq_getElem (show q+1<ch.length by omega)];rfl) (mG _) hj);have h8:k*(3300000+1)<=130*3300001:=Nat.mul_le_mul (by omega) (mG _);unfold N4;omega)
 subst vF;have xD:=Kh oO;clear hT eV hX hp mV tB oS sP mX hQ hL oO h1 h2 h3 h4 h5 h6 hB;obtain⟨K,hK⟩:∃K,ch.length=K:=⟨_,rfl⟩
 have HK:=Kh hK;rw[hK]at sY qO ⊢;clear hK;go_enter func66,ntmps66
 have vP:=Ir J (by omega);go_wp2_with fail
 refine(rD.1 w (Below.refl _ w)).mono ?_;rintro e w1 ⟨rfl,hJ⟩;go_wp2_with fail
 obtain⟨w2,pB,X2,sS⟩:=bx1 w1 #[.int .i64 n,.int .i64 ((wt:Int)+2),.int .i64 D] 23;rw[pB];have oH:=Kh (hJ.trans (sS.mono hJ.size));have pA:w2.heap.size=w1.heap.size+1:=by rw[<-pB];simp
 refine(nY.1 w2 oH.1).mono ?_;rintro e w' ⟨rfl,vT⟩;obtain rfl:w2=w':=vT.symm;go_wp2_with fail
 have mQ:=Kh (QRow.made (λ_=>IsQ 0) w2 J);obtain⟨wn,pC⟩:∃wn,w2.alloc (.cells (madeCells #[.bool false,.slice none 0 0,.bool false,.slice none 0 0] (J*4)) 86)=wn:=⟨_,rfl⟩
 have nW:=Kh (show Below w2.heap.size w2 wn from pC▸(Below.refl _ _).alloc (mG _) _);rw[pC]at mQ ⊢;obtain⟨g,oT⟩:∃g,w1.heap.size+1=g:=⟨_,rfl⟩
 have hg:w2.heap.size=g:=pA.trans oT;rw[hg]at nW mQ;try rw[hg]
 try rw[oT]
 obtain⟨gs,oW⟩:∃gs,w1.heap.size=gs:=⟨_,rfl⟩
 rw[oW]at X2;try rw[oW]
 have rS:=Kh X2;have oA:=Kh hg;have rQ:=Kh (show w.heap.size<=g from hg▸oH.1.size);have rP:=Kh (show ∀W,Below g w2 W->Below w.heap.size w W from λW I=>oH.1.trans (I.mono rQ.1));have uG:=Kh (show gs<g by omega);clear hJ pB X2 sS pA pC oT hg oW vP rD nY;go_loopw [28] (λi wr=>∃k:Nat,k<=J/\i=.int .i64 k/\QRow (λ_=>IsQ 0) wr g J k/\Below g w2 wr) (λi _=>J - (intOf i).toNat)
 case atStart=>exact⟨0,Nat.zero_le _,rfl,mQ.1,nW.1⟩
 case round=>
  obtain⟨k,hk,rfl,V,cV⟩:=hrel;obtain⟨wi,rfl⟩:∃wi:World,wi=wr:=⟨_,rfl⟩
  have O:=Kh V;have mN:=Kh cV;have rC:=Kh (show g<=wi.heap.size from oA.1▸cV.size);clear V cV nW mQ;by_cases hlt:k<J
  ·go_wp2_with fail
   refine(Ey 0 wi (by omega) (by omega)).mono ?_;rintro e w3 ⟨⟨s3,p3,n3,c3,t3,q3,m3,d3,rfl,sZ⟩,gF⟩;have bE:=QRow.keep (λ_=>IsQ.solid _) O.1 gF;have uO:=Kh (QRow.set (k':=k+1) (λ_=>IsQ.solid _) bE k hlt (λ_=>IsQ 0) (IsQ.solid _) (λi h1 h2=>⟨by omega,rfl⟩) sZ);have hD:=Kh (mN.1.trans (gF.mono rC.1));obtain⟨u0,xZ⟩:=mK (bE.has (k*4) (by omega));obtain⟨u1,yA⟩:=mK (bE.has (k*4+1) (by omega));obtain⟨u2,hu2⟩:=mK (bE.has (k*4+2) (by omega));obtain⟨u3,yB⟩:=mK (bE.has (k*4+3) (by omega));have f0:=bE.free (k*4) (by omega);have f1:=bE.free (k*4+1) (by omega);have f2:=bE.free (k*4+2) (by omega);have f3:=bE.free (k*4+3) (by omega);clear sZ gF bE O mN;go_wp2;go_roundw
   case rel=>exact⟨k+1,by omega,by go_num,uO.1,A5 hD.1⟩
   case measure=>simp[intOf];omega
  ·obtain rfl:J=k:=by omega
   have rA:=Kh (O.1.congr (G:=λj=>IsQ (N4 Q n wt D X ch (F.getD j 0) 0)) (λj _=>rfl));clear O hlt hk;go_wp2;go_loopw [11] (λkk wx=>∃k:Nat,(k=0∨k+1<=K)/\kk=.int .i64 k/\QRow (λj=>IsQ (N4 Q n wt D X ch (F.getD j 0) k)) wx g J J/\Below g w2 wx) (λkk _=>K - (intOf kk).toNat)
   case atStart=>exact⟨0,.inl rfl,rfl,rA.1,mN.1⟩
   case round=>
    obtain⟨k,hk,rfl,V,cV⟩:=hrel;obtain⟨wk,rfl⟩:∃wk:World,wk=wr:=⟨_,rfl⟩
    have O:=Kh V;have tY:=Kh cV;have hG:=Kh (rP.1 wk cV);have uR:=Kh (show g<=wk.heap.size from oA.1▸cV.size);have xS:k<=130:=by omega
    have uI:=Kh hk;clear V cV rA mN rC hk;by_cases hlt:k+1<K
    ·have vO:(k:Int)+1<(K:Int):=by omega
     have wW:(k:Int)<(K:Int):=by omega
     obtain⟨a,ha⟩:∃a,ch[k]?=some a:=⟨_,List.getElem?_eq_getElem (by rw[HK.1];omega)⟩
     obtain⟨b,I⟩:∃b,ch[k+1]?=some b:=⟨_,List.getElem?_eq_getElem (by rw[HK.1];omega)⟩
     obtain⟨l0,l1⟩:=qI.1 wk hG.1 k a ha;obtain⟨l2,l3⟩:=qI.1 wk hG.1 (k+1) b I;obtain⟨sB,sC,sD,sE⟩:=mL.1 k a ha;obtain⟨sF,sG,sH,sI⟩:=mL.1 (k+1) b I;obtain⟨sT,cX⟩:=rF.1 k a b ha I;have cG:=Kh (λW=>eD a.1 a.2 b.1 b.2 W sB sC sD sE sF sG sH sI sT);have rL:=Kh (λi j (hi:i<wt+1) (hj:j<J)=>rK.1 k a b i j ha I hi hj);have nI:=Kh (λi j (hi:i<=wt+1) (hj:j<J)=>rE.1 k a b i j ha I hi hj);have nG:=Kh (λj (hj:j<J)=>qO.1 k j (by omega) hj)
     have oD:=Kh (show ∀f,N4 Q n wt D X ch f (k+1)=N4 Q n wt D X ch f k+U5 Q n wt D X a b f (wt+1)from λf=>by
      unfold N4;rw[sumQ,List.getD_eq_getElem?_getD,ha,List.getD_eq_getElem?_getD,I];rfl)
     have oG:=Kh cX;have mP:=Kh (show(-1073741824<=(Ak a b).1.1/\(Ak a b).1.1<=1073741824)/\(-1073741824<=(Ak a b).1.2/\(Ak a b).1.2<=1073741824)/\(-1073741824<=(Ak a b).2.1/\(Ak a b).2.1<=1073741824)/\(-1073741824<=(Ak a b).2.2/\(Ak a b).2.2<=1073741824)from by unfold Ak;split <;>(dsimp only;omega));obtain⟨T,hT⟩:∃T:Nat->Nat->Rat,(λf i=>bP Q n wt D X a b f i)=T:=⟨_,rfl⟩
     obtain⟨S,hS⟩:∃S:Nat->Nat->Rat,(λf i=>U5 Q n wt D X a b f i)=S:=⟨_,rfl⟩
     obtain⟨A0,hA0⟩:∃A0:Nat->Rat,(λf=>N4 Q n wt D X ch f k)=A0:=⟨_,rfl⟩
     have rH:=Kh (show ∀f i,S f (i+1)=S f i+T f i from λf i=>by rw[<-hS,<-hT];rfl);have rI:=Kh (show ∀f,S f 0=0 from λf=>by rw[<-hS];rfl);have cY:=Kh (show ∀f i,T f i=subst Q wt (Ak a b).1.1 (Ak a b).1.2 (Ak a b).2.1 (Ak a b).2.2 (wt+1) i*((Ao n D (Ak a b).2.1 (Ak a b).2.2).2:Rat)*X (i*L+(Ao n D (Ak a b).2.1 (Ak a b).2.2).1) f from λf i=>by rw[<-hT,<-HL.1];rfl);have oF:=Kh (show QRow (λj=>IsQ (A0 (F.getD j 0))) wk g J J from O.1.congr (λj _=>by rw[<-hA0]));have oD:=Kh (show ∀f,N4 Q n wt D X ch f (k+1)=A0 f+S f (wt+1)from λf=>by rw[oD.1,<-hA0,<-hS])
     have tU:=Kh (show ∀i j,i<=wt+1->j<J->hq (A0 (F.getD j 0)+S (F.getD j 0) i)<=440000000 from λi j hi hj=>by
      have h7:=nG.1 j hj;have h8:=nI.1 i j hi hj;rw[<-hA0,<-hS];have h9:=Nc (N4 Q n wt D X ch (F.getD j 0) k) (U5 Q n wt D X a b (F.getD j 0) i);dsimp only;omega)
     have aN:=Kh (show ∀i,hq (subst Q wt (Ak a b).1.1 (Ak a b).1.2 (Ak a b).2.1 (Ak a b).2.2 (wt+1) i)<=123880 from λi=>by
      obtain⟨⟨m1,m2⟩,⟨m3,m4⟩,⟨m5,m6⟩,m7,m8⟩:=mP.1;exact Cs (K:=4000) (λq hq=>qS.1 q hq) (Dd m1 m2) (Dd m3 m4) (Dd m5 m6) (Dd m7 m8) (by omega) (by omega))
     obtain⟨p1,p2,p3⟩:=oE.1 _ _ cX;obtain⟨MM,sQ⟩:∃MM,Ak a b=MM:=⟨_,rfl⟩
     obtain⟨⟨mA,mB⟩,⟨mC,mD⟩⟩:=MM;rw[sQ]at cG oG mP cY aN p1 p2 p3;dsimp only at cG oG mP cY aN p1 p2 p3;obtain⟨pc,oY⟩:∃pc,Ao n D mC mD=pc:=⟨_,rfl⟩
     have uN:=Kh oY;rw[oY]at cY p1 p2 p3;have uM:=Kh p1;clear ha I sT cX hT hS hA0 sB sC sD sE sF sG sH sI O sQ oY p1 rL nI nG;obtain⟨k1,gL⟩:∃k1,k+1=k1:=⟨_,rfl⟩
     rw[gL]at l2 l3;have xT:IntKind.i64.wrap ((k:Int)+1)=(k1:Nat):=by rw[show(k:Int)+1=(k1:Nat)by omega];exact IntWalk.i64_in _ (by omega)
     have wV:(k1:Int)<(K:Int):=by omega
     have oB:=Kh gL;clear gL;have sU:g<wk.heap.size:=oF.1.sts.1;go_upto_region 11 with(fail)
     go_cut [12,13]from 43 to 55 (λwH wI wx=>∃gm,wH=.pointer (some ⟨gm,0,none⟩)/\wI=.bool true/\Blk wx gm 63 #[.int .i64 mA,.int .i64 mB,.int .i64 mC,.int .i64 mD]/\g<gm/\Below wk.heap.size wk wx)
     case first=>
      refine iW [12,15] (λW=>W.cell? ⟨gc,oc+k*2,none⟩=some (.int .i64 a.1)/\W.cell? ⟨gc,oc+k*2+1,none⟩=some (.int .i64 a.2)/\W.cell? ⟨gc,oc+k1*2,none⟩=some (.int .i64 b.1)/\W.cell? ⟨gc,oc+k1*2+1,none⟩=some (.int .i64 b.2)) (λW I=>⟨Au I l0,Au I l1,Au I l2,Au I l3⟩) (λaX hHeld0=>?_);clear l0 l1 l2 l3;refine De 0 ?_;refine De 1 ?_;refine De 2 ?_;refine De 3 ?_;refine De 4 ?_;refine De 5 ?_;refine De 6 ?_;refine De 7 ?_;refine De 8 ?_;refine iN 9 13 rfl rfl (λK hK=>?_) (λK hK=>?_)
      ·focus(go_simp;refine(cG.1 _).mono ?_;rintro e w5 ⟨rfl,cA⟩;have bH:=Kh ((Below.refl _ wk).drew.trans cA:Below wk.heap.size wk w5);clear cA;(first|with_reducible refine hK.out _ _ ?_ (λhHeld1=>?_) |(go_wp2_with fail;with_reducible refine hK.out _ _ ?_ (λhHeld1=>?_))))
       focus((try dsimp only);exact aX.1 _ bH.1)
       focus(clear hK K;(try simp only[Act.put,Br,Bt,Bs]))
       refine De 10 ?_;refine De 11 ?_;refine kL 12 ?_;refine iY 13 rfl (λK hK=>?_);focus(go_simp;refine hK.out _ _ ?_ (λhHeld2=>?_))
       focus((try dsimp only);exact aX.1 _ (bH.1.alloc bH.1.size _))
       focus(clear hK K;(try simp only[Act.put,Br,Bt,Bs]))
       refine iX 14 rfl (λK hK=>?_);go_simp
       refine hK.out _ _ ?_;clear hK K
       (try simp only[Act.put,Br,Bt,Bs])
       refine jA 15 ?_;refine iT ?_;go_wp2;go_meet
       exact⟨w5.heap.size,rfl,rfl,Blk.new w5 63 #[.int .i64 mA,.int .i64 mB,.int .i64 mC,.int .i64 mD],by have:=bH.1.size;omega,bH.1.alloc bH.1.size _⟩
      ·focus(go_simp;refine hK.out _ _ ?_ (λhHeld1=>?_))
       focus((try dsimp only);exact aX.1 _ ((Below.refl _ wk).drew.alloc (mG _) _))
       focus(clear hK K;(try simp only[Act.put,Br,Bt,Bs]))
       refine iY 9 rfl (λK hK=>?_);focus(go_simp;refine(cG.1 _).mono ?_;rintro e w5 ⟨rfl,cA⟩;have bH:=Kh (((Below.refl _ wk).drew.alloc (mG _) _).trans (cA.mono (by simp)):Below wk.heap.size wk w5);have bY:=Kh (show Blk w5 wk.heap.size 63 #[.int .i64 0,.int .i64 0,.int .i64 0,.int .i64 0]from(Blk.new wk.drew 63 #[.int .i64 0,.int .i64 0,.int .i64 0,.int .i64 0]).below_ cA (by simp));clear cA;(first|with_reducible refine hK.out _ _ ?_ (λhHeld2=>?_) |(go_wp2_with fail;with_reducible refine hK.out _ _ ?_ (λhHeld2=>?_))))
       focus((try dsimp only);exact aX.1 _ bH.1)
       focus(clear hK K;(try simp only[Act.put,Br,Bt,Bs]))
       refine De 10 ?_;refine De 11 ?_;refine kL 12 ?_;have n0:=bY.1.at_ 0 rfl;have n1:=bY.1.at_ 1 rfl;have n2:=bY.1.at_ 2 rfl;have n3:=bY.1.at_ 3 rfl;have yE:=bY.1.free_ 0;have yF:=bY.1.free_ 1;have yG:=bY.1.free_ 2;have yH:=bY.1.free_ 3;refine iX 14 rfl (λK hK=>?_);go_simp
       refine hK.out _ _ ?_;clear hK K
       (try simp only[Act.put,Br,Bt,Bs])
       refine jA 15 ?_;refine iT ?_;go_wp2;go_meet
       exact⟨wk.heap.size,rfl,rfl,(((bY.1.set_ 0 (.int .i64 mA)).set_ 1 (.int .i64 mB)).set_ 2 (.int .i64 mC)).set_ 3 (.int .i64 mD),sU,(((bH.1.setCell (p:=⟨wk.heap.size,0,none⟩) (mG _) _).setCell (p:=⟨wk.heap.size,1,none⟩) (mG _) _).setCell (p:=⟨wk.heap.size,2,none⟩) (mG _) _).setCell (p:=⟨wk.heap.size,3,none⟩) (mG _) _⟩
     case rest=>
     obtain⟨gm,rfl,rfl,XM,sV,cT⟩:=hcut;obtain⟨w6,rfl⟩:∃w6:World,w6=wc:=⟨_,rfl⟩
     have mO:=Kh cT;have uC:=Kh sV;have gA:=Kh XM;have rM:=Kh (hG.1.trans (mO.1.mono hG.1.size));clear XM cT sV cG l0 l1 l2 l3;have q0:=gA.1.at_ 0 rfl;have q1:=gA.1.at_ 1 rfl;have q2:=gA.1.at_ 2 rfl;have q3:=gA.1.at_ 3 rfl;go_wp2_with fail
     obtain⟨⟨m1,m2⟩,⟨m3,m4⟩,⟨m5,m6⟩,m7,m8⟩:=mP.1;refine(uT.1 w6 mA mB mC mD rM.1 m1 m2 m3 m4 m5 m6 m7 m8).mono ?_;rintro e w7 ⟨⟨gq,rfl,vN,hO⟩,oP⟩;rw[HQ.1,Nat.add_sub_cancel]at hO;obtain⟨SB,mT⟩:∃SB:Nat->Rat,(λi=>subst Q wt mA mB mC mD (wt+1) i)=SB:=⟨_,rfl⟩
     have rG:=Kh (show QRow (λj=>IsQ (SB j)) w7 gq (wt+1) (wt+1)from hO.congr (λj _=>by rw[<-mT]));have cY:=Kh (show ∀f i,T f i=SB i*(pc.2:Rat)*X (i*L+pc.1) f from λf i=>by rw[cY.1,<-mT]);have aN:=Kh (show ∀i,hq (SB i)<=123880 from λi=>by rw[<-mT];exact aN.1 i);have oC:=bt mO oP;have nJ:=Kh (bk gA oP);have qH:=Kh (tY.1.trans (oC.1.mono uR.1));have oI:=Kh (rS.1.below_ (show Below w2.heap.size w2 w7 from by rw[oA.1];exact qH.1) rS.1.lt);have qV:=Kh (show QRow (λj=>IsQ (A0 (F.getD j 0)+S (F.getD j 0) 0)) w7 g J J from(oF.1.keep (λ_=>IsQ.solid _) oC.1).congr (λj _=>by rw[rI.1,Rat.add_zero]));have uE:=Kh (show g<gq by have:=mO.1.size;omega);have uQ:=Kh (show g<=w7.heap.size by have:=oC.1.size;omega);clear vN hO oP mT oF mO gA rM rI q0 q1 q2 q3;go_wp2_with fail
     go_loopw [62] (λii wx=>∃i:Nat,i<=wt+1/\ii=.int .i64 i/\QRow (λj=>IsQ (A0 (F.getD j 0)+S (F.getD j 0) i)) wx g J J/\w7.grownBy wx (some g)/\I32 w7 wx) (λii _=>wt+1 - (intOf ii).toNat)
     case atStart=>exact⟨0,Nat.zero_le _,rfl,qV.1,Af g (Below.refl _ _),I32.refl _⟩
     case round=>
      obtain⟨i,hi,rfl,V,oV,sO⟩:=hrel;obtain⟨wi,rfl⟩:∃wi:World,wi=wr:=⟨_,rfl⟩
      have O:=Kh V;have cF:=Kh oV;have nV:=Kh sO;have qG:=Kh (An qH.1 oV uQ.1 (mG _));have rR:=Kh (rP.1 wi qG.1);have xP:g<wi.heap.size:=V.sts.1;clear V oV sO qV;by_cases hlt:i<wt+1
      ·have xQ:(i:Int)<((wt+1:Nat):Int):=by omega
       have wU:(i:Int)<(wt:Int)+1:=by omega
       obtain⟨s1,p1,n1,c1,t1,q1,m1,d1,a0,a1,a2,a3,hx⟩:=(rG.1.i32 (λ_=>IsQ.solid _) nV.1 cF.1 (by have:=uE.1;omega)).val i hlt;have HP:=Kh (show Qs wi s1 p1 n1 c1 t1 q1 m1 d1 (SB i)from hx);have oX:(some gm:Option Nat)≠some g:=λe=>by injection e with e;have:=uC.1;omega
       have mZ:(some gs:Option Nat)≠some g:=λe=>by injection e with e;have:=uG.1;omega
       have c2:=cF.1.cell (nJ.1.at_ 2 rfl) oX;have c3:=cF.1.cell (nJ.1.at_ 3 rfl) oX;have nB:=cF.1.cell (oI.1.at_ 0 rfl) mZ;have nC:=cF.1.cell (oI.1.at_ 1 rfl) mZ;have nD:=cF.1.cell (oI.1.at_ 2 rfl) mZ;have nH:=Kh (λw1 (I:Below wi.heap.size wi w1)=>E8 s1 p1 n1 c1 t1 q1 m1 d1 (SB i) w1 (HP.1.keep I) (by have:=aN.1 i;omega));clear hx oX mZ;go_wp2_with fail
       refine(nH.1 _ ((Below.refl _ _).alloc (mG _) _)).mono ?_;rintro e w8 ⟨⟨sg,rfl,cX⟩,oQ⟩;have bA:=Kh (((Below.refl _ wi).alloc (mG _) (.cells #[.bool s1,.slice p1 n1 c1,.bool t1,.slice q1 m1 d1] 86)).trans (oQ.mono (by simp)));have pD:=(Blk.new wi 86 #[.bool s1,.slice p1 n1 c1,.bool t1,.slice q1 m1 d1]).below_ oQ (by simp);obtain⟨gb,oU⟩:∃x,wi.heap.size=x:=⟨_,rfl⟩
       have nZ:=Kh oU;rw[oU]at pD ⊢;have rT:=Kh pD;have c2:=cell_next bA.1 c2;have c3:=cell_next bA.1 c3;have nB:=cell_next bA.1 nB;have nC:=cell_next bA.1 nC;have nD:=cell_next bA.1 nD;clear oQ nH a0 a1 a2 a3 pD oU;by_cases hz:SB i=0
       ·obtain rfl:sg=0:=cX.2 hz
        have hE:=Kh (QRow.congr (G:=λj=>IsQ (A0 (F.getD j 0)+S (F.getD j 0) (i+1))) (O.1.keep (λ_=>IsQ.solid _) bA.1) (λj _=>by rw[rH.1,cY.1,hz,Rat.zero_mul,Rat.zero_mul,Rat.add_zero]));have uD:=Kh (cF.1.trans (Af g bA.1));have uH:=Kh (nV.1.trans (I32.below bA.1));clear hz cX c2 c3 nB nC nD;go_wp2;go_roundw
        case rel=>exact⟨i+1,by omega,by go_num,hE.1,uD.1,uH.1⟩
        case measure=>simp[intOf];omega
       ·have vS:(sg==0)=false:=by rw[beq_eq_false_iff_ne];exact λe=>hz (cX.1 e)
        obtain⟨ix,mY⟩:∃x,i*L+pc.1=x:=⟨_,rfl⟩
        have qN:=Kh (show ix<C by
         rw[<-mY,<-qJ.1];have h7:=Nat.mul_le_mul_right L (show i+1<=wt+1 by omega);have h8:=uM.1;rw[Nat.succ_mul]at h7;omega)
        have qQ:=Kh (λW (I:Below w.heap.size w W)=>show Calls prog 115 #[.agg #[.int .i64 n,.int .i64 ((wt:Int)+2),.int .i64 D],.agg #[.int .i64 i,.int .i64 mC,.int .i64 mD]] W λe w'=>e=.returned (.tuple #[.int .i64 (ix:Int),.int .i64 pc.2,.int .i64 0])/\Below W.heap.size W w' from by
         have h:=uL.1 W i mC mD I (by omega) oG.1;rw[HL.1,uN.1,mY]at h;exact h)
        have rJ:=Kh (show ∀f,T f i=SB i*(pc.2:Rat)*X ix f from λf=>by rw[cY.1,mY]);have rN:=Kh (rR.1.trans (bA.1.mono rR.1.size));clear hz cX mY;go_wp2_with fail
        refine(qQ.1 w8 rN.1).mono ?_;rintro e w9 ⟨rfl,mU⟩;have rO:=bt rN mU;have qF:=bt bA mU;have oJ:=Kh (bk rT mU);clear c2 c3 nB nC nD mU vS rT;go_wp2_with fail
        refine(qX.1 w9 ix rO.1 qN.1).mono ?_;rintro e wd ⟨⟨gx,rfl,sW,tA⟩,oR⟩;have rB:=Kh tA;have cD:=bt qF oR;have aD:=Kh (bk oJ oR);have qL:=Kh (show gb<gx from mI oJ.1.lt sW);have y0:=aD.1.at_ 0 rfl;have y1:=aD.1.at_ 1 rfl;have y2:=aD.1.at_ 2 rfl;have y3:=aD.1.at_ 3 rfl;have sJ:=aD.1.free_ 0;have sK:=aD.1.free_ 1;have sL:=aD.1.free_ 2;have sM:=aD.1.free_ 3;have qP:=Kh (λs5 p5 n5 c5 t5 q5 m5 d5 W (I:Below wd.heap.size wd W) (vQ:Qs W s5 p5 n5 c5 t5 q5 m5 d5 ((pc.2:Int):Rat))=>Cy s1 p1 n1 c1 t1 q1 m1 d1 (SB i) s5 p5 n5 c5 t5 q5 m5 d5 ((pc.2:Int):Rat) W ((HP.1.keep cD.1).keep I) vQ (by have:=aN.1 i;omega) (by rw[Gj];have:nd pc.2.natAbs<=1:=Be.2 (by omega);omega));clear sW tA oR rO oJ qF;go_upto_region 24 with(fail)
        refine K6 (λW=>W.cell? ⟨gb,0,none⟩=some (.bool s1)/\W.frozen? ⟨gb,0,none⟩=false/\W.cell? ⟨gb,1,none⟩=some (.slice p1 n1 c1)/\W.frozen? ⟨gb,1,none⟩=false/\W.cell? ⟨gb,2,none⟩=some (.bool t1)/\W.frozen? ⟨gb,2,none⟩=false/\W.cell? ⟨gb,3,none⟩=some (.slice q1 m1 d1)/\W.frozen? ⟨gb,3,none⟩=false) (λW I=>⟨Au I y0,Ac I (by rw[y0];rfl) (sJ),Au I y1,Ac I (by rw[y1];rfl) (sK),Au I y2,Ac I (by rw[y2];rfl) (sL),Au I y3,Ac I (by rw[y3];rfl) (sM)⟩) (λaX hHeld0=>?_);clear y0 y1 y2 y3 sJ sK sL sM;refine Al 0 ?_;refine Al 1 ?_;refine F9 2 rfl (λK hK=>?_);focus(go_simp;refine(Ey pc.2 _ (by omega) (by omega)).mono ?_;rintro e v5 ⟨⟨s5,p5,n5,c5,t5,q5,m5,d5,rfl,tG⟩,cA⟩;have mR:=Kh ((Below.refl _ wd).drew.trans cA:Below wd.heap.size wd v5);have rV:=Kh tG;clear tG cA;(first|with_reducible refine hK.out _ _ ?_ (λhHeld1=>?_) |(go_wp2_with fail;with_reducible refine hK.out _ _ ?_ (λhHeld1=>?_))))
        focus((try dsimp only);exact aX.1 _ mR.1)
        focus(clear hK K;(try simp only[Act.put,Br,Bt,Bs]))
        refine F9 3 rfl (λK hK=>?_);focus(go_simp;refine(qP.1 _ _ _ _ _ _ _ _ _ mR.1 rV.1).mono ?_;rintro e v6 ⟨⟨s6,p6,n6,c6,t6,q6,m6,d6,rfl,hP⟩,cT⟩;have dC:=bt mR cT;have rW:=Kh hP;clear hP cT;(first|with_reducible refine hK.out _ _ ?_ (λhHeld2=>?_) |(go_wp2_with fail;with_reducible refine hK.out _ _ ?_ (λhHeld2=>?_))))
        focus((try dsimp only);exact aX.1 _ dC.1)
        focus(clear hK K;(try simp only[Act.put,Br,Bt,Bs]))
        refine K5 4 rfl (λK hK=>?_);go_simp
        refine hK.out _ _ ?_;clear hK K
        (try simp only[Act.put,Br,Bt,Bs])
        have XQ:=((((aD.1.below_ dC.1 aD.1.lt).set_ 0 (.bool s6)).set_ 1 (.slice p6 n6 c6)).set_ 2 (.bool t6)).set_ 3 (.slice q6 m6 d6);have nP:Sts v6 gb:=Sts.of (aD.1.below_ dC.1 aD.1.lt) (by intro v hv;simp at hv;rcases hv with rfl|rfl|rfl|rfl <;> first|exact NotInt.bool _|exact NotInt.slice _ _ _);have dY:=I32.put4 nP 0 1 2 3 (.bool s6) (.slice p6 n6 c6) (.bool t6) (.slice q6 m6 d6) (NotInt.bool _) (NotInt.slice _ _ _) (NotInt.bool _);have mW:=Gt v6 gb 0 1 2 3 (.bool s6) (.slice p6 n6 c6) (.bool t6) (.slice q6 m6 d6);obtain⟨wq,tC⟩:∃wq,((((v6.setCell ⟨gb,0,none⟩ (.bool s6)).setCell ⟨gb,1,none⟩ (.slice p6 n6 c6)).setCell ⟨gb,2,none⟩ (.bool t6)).setCell ⟨gb,3,none⟩ (.slice q6 m6 d6))=wq:=⟨_,rfl⟩
        rw[tC]at XQ dY mW ⊢;have nX:=Kh (show Below wi.heap.size wi wq from An (cD.1.trans (dC.1.mono cD.1.size)) mW (by have:=cD.1.size;have:=dC.1.size;omega) (by have:=nZ.1;omega));have mS:=Kh XQ;have qT:=Kh (rW.1.i32 dY);have qZ:=Kh (((rB.1.keep (λ_=>IsQ.solid _) dC.1).i32 (λ_=>IsQ.solid _) dY mW (by have:=qL.1;omega)));obtain⟨z,hz⟩:∃z,SB i*((pc.2:Int):Rat)=z:=⟨_,rfl⟩
        rw[hz]at qT rJ
        have rX:=Kh (show hq z<=125000 by
         rw[<-hz];have h7:=Cc (SB i) ((pc.2:Int):Rat);have h8:=aN.1 i;have h9:hq ((pc.2:Int):Rat)<=1:=by rw[Gj];have:nd pc.2.natAbs<=1:=Be.2 (by omega);omega
         omega)
        obtain⟨A,hA⟩:∃A:Nat->Rat,(λj=>A0 (F.getD j 0)+S (F.getD j 0) i)=A:=⟨_,rfl⟩
        obtain⟨Y,hY⟩:∃Y:Nat->Rat,(λj=>X ix (F.getD j 0))=Y:=⟨_,rfl⟩
        have tV:=Kh hA;have uU:=Kh hY;have tX:=Kh (show ∀j,j<J->hq (A j)<=440000000 from λj hj=>by rw[<-hA];exact tU.1 i j hi hj);have rU:=Kh (show ∀j,j<J->hq (Y j)<=10000 from λj hj=>by rw[<-hY];exact oK.1 ix j qN.1 hj);have uP:=Kh (show QRow (λj=>IsQ (Y j)) wq gx J J from qZ.1.congr (λj _=>by rw[<-hY]));have qW:=Kh (show QRow (addQ A Y z 0) wq g J J from(O.1.keep (λ_=>IsQ.solid _) nX.1).congr (λj _=>by unfold addQ;rw[if_neg (Nat.not_lt_zero j),<-hA]));have nO:gx≠g:=by have:=qL.1;have:=nZ.1;omega
        have nM:gb≠g:=by have:=nZ.1;omega
        have nF:=Kh nO;have nE:=Kh nM;clear XQ nP dY mW tC hz hA hY nO nM aX qP mR dC rV rW rB cD aD qZ hHeld0 hHeld1 hHeld2;go_wp2_with fail
        go_loopw [100] (λjj wx=>∃j:Nat,j<=J/\jj=.int .i64 j/\QRow (addQ A Y z j) wx g J J/\wq.grownBy wx (some g)/\I32 wq wx) (λjj _=>J - (intOf jj).toNat)
        case atStart=>exact⟨0,Nat.zero_le _,rfl,qW.1,Af g (Below.refl _ _),I32.refl _⟩
        case round=>
         obtain⟨j,hj,rfl,hN,nN,nK⟩:=hrel;obtain⟨we,rfl⟩:∃we:World,we=wr:=⟨_,rfl⟩
         have Z:=Kh hN;have U:=Kh nN;have bG:=Kh nK;clear hN nN nK qW;by_cases hlj:j<J
         ·have xR:(j:Int)<(J:Int):=by omega
          have hM:(some gb:Option Nat)≠some g:=λe=>by injection e with e;exact nE.1 e
          have y0:=U.1.cell (mS.1.at_ 0 rfl) hM;have y1:=U.1.cell (mS.1.at_ 1 rfl) hM;have y2:=U.1.cell (mS.1.at_ 2 rfl) hM;have y3:=U.1.cell (mS.1.at_ 3 rfl) hM;obtain⟨s7,p7,n7,c7,t7,q7,m7,d7,a0,a1,a2,a3,tE⟩:=(uP.1.i32 (λ_=>IsQ.solid _) bG.1 U.1 nF.1).val j hlj;obtain⟨s5,p5,n5,c5,t5,q5,m5,d5,e0,e1,e2,e3,tD⟩:=addQ.elem Z.1 hlj;have tZ:=Kh (show Qs we s5 p5 n5 c5 t5 q5 m5 d5 (A j)from tD);have uA:=Kh (show Qs we s7 p7 n7 c7 t7 q7 m7 d7 (Y j)from tE);have qU:=Kh (qT.1.i32 bG.1);have tW:=Kh (tX.1 j hlj)
          have uS:=Kh (show hq (z*Y j)<=140000 by
           have h7:=Cc z (Y j);have h8:=rX.1;have h9:=rU.1 j hlj;omega)
          have uK:=Kh (λw1 (I:Below we.heap.size we w1)=>Cy s6 p6 n6 c6 t6 q6 m6 d6 z s7 p7 n7 c7 t7 q7 m7 d7 (Y j) w1 (qU.1.keep I) (uA.1.keep I) (by have:=rX.1;omega) (by have:=rU.1 j hlj;omega));have gN:=Z.1;have xU:=nF.1;have xV:=nE.1;have xW:g<we.heap.size:=gN.sts.1;clear tE tD hM;go_upto_region 28 with(fail)
          refine K6 (λW=>W.cell? ⟨gb,0,none⟩=some (.bool s6)/\W.cell? ⟨gb,1,none⟩=some (.slice p6 n6 c6)/\W.cell? ⟨gb,2,none⟩=some (.bool t6)/\W.cell? ⟨gb,3,none⟩=some (.slice q6 m6 d6)/\W.cell? ⟨gx,j*4,none⟩=some (.bool s7)/\W.cell? ⟨gx,j*4+1,none⟩=some (.slice p7 n7 c7)/\W.cell? ⟨gx,j*4+2,none⟩=some (.bool t7)/\W.cell? ⟨gx,j*4+3,none⟩=some (.slice q7 m7 d7)/\W.cell? ⟨g,j*4,none⟩=some (.bool s5)/\W.frozen? ⟨g,j*4,none⟩=false/\W.cell? ⟨g,j*4+1,none⟩=some (.slice p5 n5 c5)/\W.frozen? ⟨g,j*4+1,none⟩=false/\W.cell? ⟨g,j*4+2,none⟩=some (.bool t5)/\W.frozen? ⟨g,j*4+2,none⟩=false/\W.cell? ⟨g,j*4+3,none⟩=some (.slice q5 m5 d5)/\W.frozen? ⟨g,j*4+3,none⟩=false) (λW I=>⟨Au I y0,Au I y1,Au I y2,Au I y3,Au I a0,Au I a1,Au I a2,Au I a3,Au I e0,Ac I (by rw[e0];rfl) (gN.free _ (by omega)),Au I e1,Ac I (by rw[e1];rfl) (gN.free _ (by omega)),Au I e2,Ac I (by rw[e2];rfl) (gN.free _ (by omega)),Au I e3,Ac I (by rw[e3];rfl) (gN.free _ (by omega))⟩) (λaX hHeld0=>?_);clear y0 y1 y2 y3 a0 a1 a2 a3 e0 e1 e2 e3 gN;refine Al 0 ?_;refine Al 1 ?_;refine Al 2 ?_;refine Al 3 ?_;refine Al 4 ?_;refine Al 5 ?_;refine Al 6 ?_;refine Al 7 ?_;refine Al 8 ?_;refine Al 9 ?_;refine Al 10 ?_;refine F9 11 rfl (λK hK=>?_);focus(go_simp;refine(uK.1 _ (Below.refl _ we).drew).mono ?_;rintro e w2 ⟨⟨s3,p3,n3,c3,t3,q3,m3,d3,rfl,tF⟩,gF⟩;have hD:=Kh ((Below.refl _ we).drew.trans gF:Below we.heap.size we w2);have uV:=Kh tF;clear tF gF;(first|with_reducible refine hK.out _ _ ?_ (λhHeld1=>?_) |(go_wp2_with fail;with_reducible refine hK.out _ _ ?_ (λhHeld1=>?_))))
          focus((try dsimp only);exact aX.1 _ hD.1)
          focus(clear hK K;(try simp only[Act.put,Br,Bt,Bs]))
          refine F9 12 rfl (λK hK=>?_);focus(go_simp;refine(Fo s5 p5 n5 c5 t5 q5 m5 d5 (A j) s3 p3 n3 c3 t3 q3 m3 d3 (z*Y j) _ (tZ.1.keep hD.1) uV.1 (by have:=tW.1;omega) (by have:=uS.1;omega)).mono ?_;rintro e w4 ⟨⟨s8,p8,n8,c8,t8,q8,m8,d8,rfl,hP⟩,cT⟩;have mM:=bt hD cT;have oZ:=QRow.keep (λi=>(IsQ.solid _:Bh (addQ A Y z j i))) Z.1 mM.1;have qR:=Kh (addQ.put oZ hlj hP);have uB:=Kh (show ∀v0 v1 v2 v3,wq.grownBy ((((w4.setCell ⟨g,j*4,none⟩ v0).setCell ⟨g,j*4+1,none⟩ v1).setCell ⟨g,j*4+2,none⟩ v2).setCell ⟨g,j*4+3,none⟩ v3) (some g)from λ_ _ _ _=>Fm U.1 mM.1);have H4:=Kh ((bG.1.trans (I32.below mM.1)).trans (I32.put4 oZ.sts (j*4) (j*4+1) (j*4+2) (j*4+3) (.bool s8) (.slice p8 n8 c8) (.bool t8) (.slice q8 m8 d8) (NotInt.bool _) (NotInt.slice _ _ _) (NotInt.bool _)));clear hP cT oZ;(first|with_reducible refine hK.out _ _ ?_ (λhHeld2=>?_) |(go_wp2_with fail;with_reducible refine hK.out _ _ ?_ (λhHeld2=>?_))))
          focus((try dsimp only);exact aX.1 _ mM.1)
          focus(clear hK K;(try simp only[Act.put,Br,Bt,Bs]))
          refine Al 13 ?_;refine K5 14 rfl (λK hK=>?_);go_simp
          refine hK.out _ _ ?_;clear hK K
          (try simp only[Act.put,Br,Bt,Bs])
          all_goals clear Z U bG
          all_goals go_wp2
          all_goals go_roundw
          all_goals first
           | exact⟨j+1,by omega,by go_num,qR.1,uB.1 _ _ _ _,H4.1⟩
           |(simp[intOf];omega)
         ·obtain rfl:j=J:=by omega
          have qY:=Kh (show QRow (λq=>IsQ (A0 (F.getD q 0)+S (F.getD q 0) (i+1))) we g j j from Z.1.congr (λq hq=>by
           unfold addQ;rw[if_pos hq,rH.1,rJ.1,<-tV.1,<-uU.1];congr 1;grind))
          have qK:=Kh ((cF.1.trans (Af g nX.1)).trans U.1);have qM:=Kh ((nV.1.trans (I32.below nX.1)).trans bG.1);clear Z U bG;go_wp2;go_roundw
          case rel=>exact⟨i+1,by omega,by go_num,qY.1,qK.1,qM.1⟩
          case measure=>simp[intOf];omega
      ·obtain rfl:i=wt+1:=by omega
       have hE:=Kh (show QRow (λj=>IsQ (N4 Q n wt D X ch (F.getD j 0) (k+1))) wi g J J from O.1.congr (λj _=>by rw[oD.1]));go_wp2;go_roundw
       case rel=>exact⟨k1,.inr (by have:=oB.1;omega),by first|rfl|go_num,by rw[<-oB.1];exact hE.1,qG.1⟩
       case measure=>have:=oB.1;simp[intOf];omega
    ·have gL:k=K - 1:=by have:=uI.1;omega
     have hE:=Kh (show QRow (λj=>IsQ (N4 Q n wt D X ch (F.getD j 0) (K - 1))) wk g J J from by rw[<-gL];exact O.1);have vO:¬((k:Int)+1<(K:Int)):=by omega
     clear gL;go_wp2
     (first|go_ret2|go_ret)
     exact⟨⟨g,rfl,rQ.1,hE.1⟩,hG.1⟩
end
section
open Go.RowKit Tryz
theorem Vx (n:Int) (w:World):Calls prog 195 #[.int .i64 n] w λe w'=>e=.returned (.bool (Hq n))/\w'=w:=by
 go_enter func195,ntmps195
 go_wp2;all_goals (go_ret;exact⟨Ca (by rw[Bool.eq_iff_iff];simp[Hq];omega),rfl⟩)
theorem Fb:(prog.info? 47).map (λi=>(i.zero,i.size,i.bytes))=some (some (.agg #[.int .i64 0,.int .i64 0]),2,16):=by kernel_rfl
theorem int_i64 (n:Int):NotU32 (.int .i64 n):=λ_ h=>by cases h
theorem Xl:∀u∈(Value.int .i64 0).cells.toList,NotU32 u:=by
 intro u I;simp[Value.cells]at I;subst I;exact int_i64 _
theorem Sk:∀u∈(Value.agg #[.int .i64 0,.int .i64 0]).cells.toList,NotU32 u:=by
 intro u I;simp[Value.cells]at I;subst I;exact int_i64 _
theorem bV (a b:Int):∀u∈[Value.int .i64 a,.int .i64 b],NotU32 u:=by
 intro u I;simp at I;rcases I with rfl|rfl <;> exact int_i64 _
theorem bW (a b:Int):∀u∈[Value.int .i64 a,.int .i64 b],u.oneCell'=true:=by
 intro u I;simp at I;rcases I with rfl|rfl <;> rfl
theorem Sl (a:Int):∀u∈[Value.int .i64 a],NotU32 u:=by
 intro u I;simp at I;subst I;exact int_i64 _
theorem Sm (a:Int):∀u∈[Value.int .i64 a],u.oneCell'=true:=by
 intro u I;simp at I;subst I;rfl
theorem Qe (w:World):
  Calls prog 157 #[.agg #[.int .i64 1,.int .i64 0]] w λe w'=>e=.returned (.tuple #[.slice none 0 0,.int .i64 5])/\Below w.heap.size w w':=by
 go_enter func157,ntmps157
 go_wp2_with fail
 obtain⟨w0,M,U,I⟩:=bx1 w #[.int .i64 1,.int .i64 0] 47;rw[M];refine(C3 1 0 w0 (by omega) (by omega) (by omega) (by omega)).mono ?_;rintro e Y ⟨rfl,J⟩;rw[show Av 1 0=0 by decide];have V:=U.below_ J U.lt;have Z:=V.at_ 0 rfl;have h:=V.at_ 1 rfl;have O:=Kh (I.trans (J.mono I.size));clear M U I J V;go_wp2
 (first|go_ret2|go_ret)
 exact⟨rfl,O.1⟩
theorem Xo {K:Value->Prop} {w:World} {B E Z n:Nat} {v:Value} {M:List Value} (h:OwnK K w B E Z v n M) (hn:0<n):∃g cap,v=.slice (some ⟨g,0,none⟩) n cap/\n<=cap/\cap<=9223372036854775807/\B<=g/\g<w.heap.size/\(∀i,w.frozen? ⟨g,i,none⟩=false)/\∀(j:Nat) u,M[j]?=some u->w.cell? ⟨g,j,none⟩=some u:=by
 rcases h.1.2 with⟨_,e2⟩ |⟨g,cap,cs,J,hB,hg,O,I,U,_⟩
 ·omega
 ·have V:=h.2 g (by rw[J];rfl)
  subst J;exact⟨g,cap,rfl,O,by simp only[maxLen]at I;omega,hB,V.1,λi=>Blk.free_ hg i,λj u Y=>Aq h.1 Y⟩
theorem Sq {w:World} {B g:Nat} (X:Blk w g 47 #[.int .i64 1,.int .i64 0]) (hB:B<=g):OwnK NotU32 w B 47 2 (.slice (some ⟨g,0,none⟩) 1 1) 1 [.int .i64 1,.int .i64 0]:=by
 refine⟨⟨rfl,.inr ⟨g,1,#[.int .i64 1,.int .i64 0],rfl,hB,X,mG _,by decide,rfl,rfl⟩⟩,λM e=>?_⟩;have J:g=M:=by simpa [Value.ownBlock] using e
 subst J;exact Stk.of X (by intro v I;simp at I;rcases I with rfl|rfl <;> exact int_i64 _)
theorem Vs (w:World):
  Calls prog 112 #[.agg #[.int .i64 1,.int .i64 0]] w λe w'=>(∃v,e=.returned (.tuple #[v,.int .i64 0])/\OwnK NotU32 w' w.heap.size 47 2 v 1 [.int .i64 1,.int .i64 0])/\Below w.heap.size w w':=by
 go_enter func112,ntmps112
 go_wp2_with fail
 obtain⟨Y,M,_,O,I⟩:=bx2 w #[.int .i64 1,.int .i64 0] 47 #[.int .i64 1,.int .i64 0] 47;rw[M];refine(Qe Y).mono ?_;rintro e Z ⟨rfl,J⟩;have V:=Kh (Sq (B:=w.heap.size) (O.below_ J O.lt) (by omega));have U:=Kh (I.trans (J.mono I.size));clear M O I J;go_wp2
 (first|go_ret2|go_ret)
 exact⟨⟨_,rfl,V.1⟩,U.1⟩
theorem bT {P:Program} {M:Region.Mode} {J:Array Oper} {Q:Exit->Act->World->Prop} {S:World->Prop} (i:Nat) {O:Oper} {n d:Nat} {I:Array Bool} {a U:Act} {w:World} (h:wpE P M J Q S n (I.setIfInBounds i true) U w)
  (V:J[i]?=some O:=by rfl) (hS:S w:=by assumption) (hw:Region.wanted O (yielded J a.tmps)=false:=by rfl)
  (hd:O.dst=some d:=by rfl) (ha:a.put (some d) undef=U:=by(try simp only[Act.put,List.setIfInBounds_toArray,List.set_cons_zero,List.set_cons_succ]);rfl)
  (hs:Region.noSelect J=true:=by kernel_rfl) (hf:Region.free M J I i=true:=by kernel_rfl) (hr:(Region.ready M J I).contains i=true:=by kernel_rfl) (hk:Tf M J I i=true:=by kernel_rfl)
  (hQ:∀c a w,Q (.panic c) (a.put O.dst undef) w->Q (.panic c) a w:=by exact λ_ _ _ h=>h):wpE P M J Q S (n+1) I a w:=by
 subst ha;rw[<-hd]at h;obtain⟨k,ok,Y,Z,h3,h4⟩:=K0 hk;exact wpE.first V Y Z h4 (Region.noSelect_spec hs) hQ n I a w (Region.free_spec V hf) h3 (by simpa using hr) (.inr ⟨hw,rfl⟩) hS h
theorem Xu {P:Program} {W:World} {O:Array Oper} {rest:List Oper} {o:Oper} {a:Act} {Q:Exit->Act->World->Prop} (V:o.guard=none) (s x:Operand) (t E:TypeId)
  (ho:o.op=.call { callee:=.builtin .append,args:=#[s,x],argTypes:=#[t,t] }) {z:Value} {sz I:Nat} (hU:P.underlying t=some (.slice E))
  (J:(P.info? E).map (λi=>(i.zero,i.size,i.bytes))=some (some z,sz,I)) (q p:Option Addr) (n k c:Nat) (Y:n<=k)
  (hs:a.eval s=.slice q n k) (hx:a.eval x=.slice p 0 c)
  (h:wpList P O Q rest (a.put o.dst (.slice q n k)) W):
  wpList P O Q (o :: rest) a W:=by
 obtain⟨Z,hi,bA,bB,bC⟩:=info_parts J
 have M:Src P Z.size t (.slice p 0 c) 0 [] W:=by
  cases p with
  | none=>exact Src.ofNil W hU c
  | some a=>exact Src.ofSlice W hU a 0 c [] (by simp) (λj u h=>by simp at h) (λu h=>by cases h)
 have hr:=run_append_nothing (P:=P) W t t o.type E Z hU hi q n k Y (.slice p 0 c) M;refine wpList_plain V λK' U=>?_
 unfold Oper.wp execOp;simp only[ho,resolve,invoke,builtin,Sem.run_bind,Sem.run_pure,Result.andThen_ok,List.map_toArray,List.map_cons,List.map_nil,hs,hx,hr];exact U _ _ h
end
section
open Go.RowKit Eli
theorem QL.r4 {x y:Nat->Int} {w:World} {v:Value} {n:Nat} (h:QL (λj=>IsR (x j) (y j)) w v n):QL (λj=>IsB 4000 (x j) (y j)) w v n:=by
 rcases h with h |⟨g,o,c,Y,Z,h3⟩
 ·exact .inl h
 ·exact .inr ⟨g,o,c,Y,Z,λj hj=>by
   obtain⟨s,p,k,J,t,q,m,d,M,O,U,V,I⟩:=h3 j hj;exact⟨s,p,k,J,t,q,m,d,M,O,U,V,I.1,I.2.1,mH I.2.2.1 (by decide),mH I.2.2.2 (by decide)⟩⟩
theorem QL.boxed {F:Nat->FP} (hF:∀j,Bh (F j)) {w w':World} {p:Option Addr} {n c R:Nat} (h:QL F w (.slice p n c) n) (I:I32 w w') (hg:w.grownBy w' (some R)) (J:∀a,p=some a->a.block≠R):QL F w' (.slice p n c) n:=by
 rcases h with h |⟨g,o,cap,e,hlt,hq⟩
 ·exact .inl h
 ·injection e with e1 e2 e3
  subst e1;have hn:(some g:Option Nat)≠some R:=λe=>J _ rfl (by injection e)
  refine .inr ⟨g,o,c,rfl,mI hlt hg.size,λj Z=>?_⟩;obtain⟨s,p,k,c,t,q,m,d,M,O,U,V,Y⟩:=hq j Z;exact⟨s,p,k,c,t,q,m,d,hg.cell M hn,hg.cell O hn,hg.cell U hn,hg.cell V hn,hF j _ _ _ _ _ _ _ _ _ _ I Y⟩
theorem Xp {F:Nat->FP} {w:World} {B n:Nat} {p:Option Addr} {c:Nat} (h:OwnQ F w B (.slice p n c) n):∀a,p=some a->B<=a.block:=by
 intro a J;rcases h.row with⟨_,I⟩ |⟨g,cap,I,hB,_⟩
 ·injection I with h2
  rw[J]at h2;cases h2
 ·injection I with h2
  rw[J]at h2;injection h2 with h2
  rw[h2];exact hB
theorem RowsOwn.made (F:Nat->Nat->Rat) (C n:Nat) (w:World) (B:Nat) (hB:B<=w.heap.size) (hn:n<=1000000):RowsOwn F 0 C (w.alloc (.cells (madeCells #[.slice none 0 0] n) 30)) B (.slice (some ⟨w.heap.size,0,none⟩) 0 n):=by
 have M:=Blk.new w 30 (madeCells #[.slice none 0 0] n);refine⟨λ_=>0,⟨⟨rfl,.inr ⟨w.heap.size,n,madeCells #[.slice none 0 0] n,rfl,hB,?_,Nat.zero_le _,by simp only[maxLen];omega,by simp[madeCells],rfl⟩⟩,λg hg=>?_⟩,λ_ O=>absurd O (Nat.not_lt_zero _)⟩
 ·exact M
 ·injection hg with hg
  subst hg;refine Stk.of M (λv U=>?_);have I:v∈(madeCells #[.slice none 0 0] n).toList:=by simpa using U
  simp[madeCells]at I;obtain⟨k,_,J⟩:=I;rw[Nat.mod_one]at J;exact⟨none,0,0,J.symm⟩
end
end Go.Proofs.YtenlbhlllgppmaaGreatDoor
