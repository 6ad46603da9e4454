/- Contracts of halfplaneref40.Count and Large. -/
import Derived.Test.YtenlbhlllgppmaaGreatDoorC26
set_option linter.unusedSimpArgs false
set_option maxRecDepth 100000
set_option maxHeartbeats 8000000
namespace Go.Proofs.YtenlbhlllgppmaaGreatDoor
section
open Go.RowKit Tryz
theorem Ba {N k D:Int} (h:Pl.check N k D=0):1<=N/\N<=120/\2<=k/\k<=24/\-120<=D/\D<=120:=by
 by_cases hr:N<1∨120<N∨k<2∨24<k∨D < -120∨120<D
 ·rw[Fa hr]at h;cases h
 ·omega
theorem Ub (n wt:Nat) (D:Int) (w:World) (O:Pl.check n ((wt:Int)+2) D=0):
  Calls prog 46 #[.agg #[.int .i64 n,.int .i64 ((wt:Int)+2),.int .i64 D]] w λe w'=>e=.returned (.tuple #[.int .i64 (((wt+1)*(pts n (n*n)).length:Nat):Int),.int .i64 0])/\Below w.heap.size w w':=by
 obtain⟨h1,h2,h3,h4,h5,h6⟩:=Ba O;have h:=Kh (λW=>aY n W (by omega) (by omega));have aX:(pts n (n*n)).length<=14400:=nM (B9 n (n*n)) (by have:n*n<=120*120:=Nat.mul_le_mul (by omega) (by omega);omega);obtain⟨P,hP⟩:∃P,(pts n (n*n)).length=P:=⟨_,rfl⟩
 rw[hP]at h aX ⊢;obtain⟨C,hC⟩:∃C,(wt+1)*P=C:=⟨_,rfl⟩
 have cS:C<=331200:=by rw[<-hC];exact Nat.mul_le_mul (by omega:wt+1<=23) aX
 obtain⟨W1,aK⟩:∃x,wt+1=x:=⟨_,rfl⟩
 have v0:IntKind.i64.wrap ((wt:Int)+2 - 1)=(W1:Nat):=by rw[show(wt:Int)+2 - 1=(W1:Nat)by omega];exact IntWalk.i64_in _ (by omega)
 have e1:(W1:Int)*(P:Int)=(C:Nat):=by rw[<-hC,<-aK];push_cast;rfl
 have v1:IntKind.i64.wrap (C:Int)=(C:Nat):=IntWalk.i64_in _ (by omega);rw[hC];have bY:=Kh O;clear O hP hC aK;go_enter func46,ntmps46
 go_wp2_with fail
 obtain⟨w0,bA,X0,J⟩:=bx1 w #[.int .i64 n,.int .i64 ((wt:Int)+2),.int .i64 D] 23;rw[bA];refine(Lp n ((wt:Int)+2) D w0).mono ?_;rintro e E ⟨rfl,M⟩;rw[bY.1];have I:=Kh (X0.below_ M X0.lt);have Z:=Kh (J.trans (M.mono J.size));obtain⟨gs,U⟩:∃x,w.heap.size=x:=⟨_,rfl⟩
 rw[U]at I ⊢;have x0:=I.1.at_ 0 rfl;have x1:=I.1.at_ 1 rfl;have cM:=Kh U;clear bA X0 J M U;have aD:=Kh (show ∀V,Below E.heap.size E V->(V.cell? ⟨gs,0,none⟩=some (.int .i64 (n:Int))/\V.cell? ⟨gs,1,none⟩=some (.int .i64 ((wt:Int)+2)))from λV hb=>⟨Ad hb x0,Ad hb x1⟩);have cD:=aD.1 _ (Below.refl _ E).drew;have cA:=Kh (show ∀wb,Below E.drew.heap.size E.drew wb->Below E.heap.size E wb from λwb hb=>(Below.refl _ E).drew.trans hb);go_upto_region 4 with(fail)
 go_region_held3 (λV=>V.cell? ⟨gs,0,none⟩=some (.int .i64 (n:Int))/\V.cell? ⟨gs,1,none⟩=some (.int .i64 ((wt:Int)+2)))
  (first|with_reducible exact cD|with_reducible exact aD.1 _ aN |(exfalso;assumption))
  (first
   |(go_at_call 90;with_reducible refine(h.1 _).mono ?_;rintro e w5 ⟨rfl,cF⟩;have aN:Below E.heap.size E w5:=cA.1 _ cF))
 all_goals have bE:=Kh aN
 all_goals go_wp2
 all_goals (first|go_ret2|go_ret)
 all_goals exact⟨rfl,Z.1.trans (bE.1.mono Z.1.size)⟩
theorem La (N k D:Int) (w:World) (M:Pl.check N k D≠0):
  Calls prog 46 #[.agg #[.int .i64 N,.int .i64 k,.int .i64 D]] w λe w'=>e=.returned (.tuple #[.int .i64 0,.int .i64 (Pl.check N k D)])/\Below w.heap.size w w':=by
 obtain⟨V,I⟩:∃V,Pl.check N k D=V:=⟨_,rfl⟩
 have U:=Kh I;rw[I]at M ⊢;clear I;go_enter func46,ntmps46
 go_wp2_with fail
 obtain⟨w0,O,h,E⟩:=bx1 w #[.int .i64 N,.int .i64 k,.int .i64 D] 23;rw[O];refine(Lp N k D w0).mono ?_;rintro e w1 ⟨rfl,J⟩;have Z:=Kh (E.trans (J.mono E.size));rw[U.1];have aD:(V != 0)=true:=by simpa using M
 clear O h E J;go_wp2
 (first|go_ret2|go_ret)
 exact⟨rfl,Z.1⟩
theorem aV (n wt:Nat) (D:Int) (w:World) (M:Pl.check n ((wt:Int)+2) D=0):
  Calls prog 10 #[.agg #[.int .i64 n,.int .i64 ((wt:Int)+2),.int .i64 D]] w λe w'=>e=.returned (.bool (decide (72<(wt+1)*(pts n (n*n)).length)))/\Below w.heap.size w w':=by
 have I:=Kh (λW=>Ub n wt D W M);obtain⟨C,U⟩:∃C,(wt+1)*(pts n (n*n)).length=C:=⟨_,rfl⟩
 rw[U]at I ⊢;clear M U;go_enter func10,ntmps10
 go_wp2_with fail
 have E:Below w.heap.size w (w.alloc (.cells #[.int .i64 n,.int .i64 ((wt:Int)+2),.int .i64 D] 23)):=(Below.refl _ _).alloc (nL _) _;refine(I.1 _).mono ?_;rintro e Z ⟨rfl,J⟩;have O:=Kh (E.trans (J.mono E.size));clear E J;by_cases h:72<C
 ·have V:(72:Int)<(C:Int):=by omega
  go_wp2;go_ret;exact⟨Cx (by simp[h]),O.1⟩
 ·have V:¬((72:Int)<(C:Int)):=by omega
  go_wp2;go_ret;exact⟨Cx (by simp;omega),O.1⟩
theorem Oi (N k D:Int) (w:World) (I:Pl.check N k D≠0):
  Calls prog 10 #[.agg #[.int .i64 N,.int .i64 k,.int .i64 D]] w λe w'=>e=.returned (.bool false)/\Below w.heap.size w w':=by
 have M:=Kh (λW=>La N k D W I);have U:(Pl.check N k D==0)=false:=by simpa using I
 clear I;go_enter func10,ntmps10
 go_wp2_with fail
 have E:Below w.heap.size w (w.alloc (.cells #[.int .i64 N,.int .i64 k,.int .i64 D] 23)):=(Below.refl _ _).alloc (nL _) _;refine(M.1 _).mono ?_;rintro e V ⟨rfl,J⟩;have O:=Kh (E.trans (J.mono E.size));clear E J;go_wp2;go_ret;exact⟨rfl,O.1⟩
end
section
open Go.RowKit Eli Tryz
theorem Xz (D:Int) (l:Nat):Pl.kroP D l=0∨Pl.kroP D l=1∨Pl.kroP D l=-1:=by
 have h:-1<=Pl.kroP D l/\Pl.kroP D l<=1:=by
  unfold Pl.kroP;dsimp only;split
  ·omega
  ·have h:=Ng (l / 2 ^ Lib.ctz 64 l+1) (D % (l / 2 ^ Lib.ctz 64 l:Nat)).toNat (l / 2 ^ Lib.ctz 64 l) 1 (.inl rfl)
   split <;> omega
 omega
def I1 (n wt:Nat) (D:Int) (p:Nat):Int:=Kt n wt D (p / ((wt+1)*(pts n (n*n)).length)) (p % ((wt+1)*(pts n (n*n)).length))
def cntF (n wt:Nat):Nat:=(wt+1)*(pts n (n*n)).length
def Gp (n wt:Nat) (D:Int):Nat->List (Nat×Rat):=elim (cntF n wt) (Bx (cntF n wt) (I1 n wt D)) (2*cntF n wt)
theorem Ew {n wt:Nat} {D:Int} (E:wt<=22) (p:Nat):(I1 n wt D p).natAbs<=16777216:=Rp (Fi (Xz D) n) E _ _
theorem Gv {n wt:Nat} {D:Int} (E:wt<=22):Eli.Good (cntF n wt) 16777216 (Gp n wt D):=Eli.Good.elim (by omega) (C6 (Ew E)) (Dt _ _) _
theorem Ps {n:Nat} (hn:0<n):0<(pts n (n*n)).length:=by
 have E:∀a,a<n*n->E5 n a=true->Fj n a=true->0<(pts n (n*n)).length:=by
  intro a I J M;refine List.length_pos_of_mem (a:=a) ?_;rw[B8 hn _ (nL _),List.mem_filter];exact⟨List.mem_range.2 I,by rw[J,M];rfl⟩
 rcases Nat.eq_or_lt_of_le (show 1<=n from hn)with rfl|h
 ·exact E 0 (by omega) (by decide) (by decide)
 ·have I:1<n*n:=nN h (Nat.le_mul_of_pos_left n hn)
  have U:1 / n=0:=Nat.div_eq_of_lt h;have V:1 % n=1:=Nat.mod_eq_of_lt h;refine E 1 I ?_ ?_
  ·unfold E5;rw[U,V];simp
  ·rw[Cs]
   intro s J M O
   have Z:s≠n:=λe=>by
    subst e;unfold pun at O;simp only[beq_iff_eq,Nat.gcd_self]at O;omega
   unfold Az;rw[U,V,Nat.mul_zero,Nat.zero_mod,Nat.zero_mul,Nat.zero_add,Nat.mul_one,Nat.mod_eq_of_lt (by omega)];exact J
theorem Oz {n wt:Nat} (hn:0<n):0<cntF n wt:=Nat.mul_pos (by omega) (Ps hn)
theorem jQ (n wt:Nat) (D:Int) (w:World) (J:Tab w) (E:Pl.check n ((wt:Int)+2) D=0) (I:cntF n wt<=72):
  Calls prog 11 #[.agg #[.int .i64 n,.int .i64 ((wt:Int)+2),.int .i64 D]] w λe w'=>(∃M,e=.returned (.tuple #[.pointer (some ⟨M,0,none⟩),.int .i64 0])/\(w.heap.size<=M/\∀v g,w'.cell? ⟨M,3,none⟩=some v->v.ownBlock=some g->w.heap.size<=g)/\ModAt w' M w'.heap.size n ((wt:Int)+2) D (frs (Gp n wt D) (cntF n wt)) (cntF n wt) (B6 (Gp n wt D) (cntF n wt) (cntF n wt)))/\Below w.heap.size w w':=by
 obtain⟨V,Z,h,h4,h5,h6⟩:=Ba E;exact Wj n ((wt:Int)+2) D (2*cntF n wt) (cntF n wt) (I1 n wt D) w (λU O=>Jz n wt D (pts n (n*n)) (cntF n wt) U (J.below O) (by omega) (by omega) (by omega) (by omega) (by omega) E (Xz D) rfl rfl (Oz (by omega)) I) (by omega) (Oz (by omega)) I (Ew (by omega))
theorem Q4 {n wt:Nat} {D:Int} (U:wt<=22) (J:cntF n wt<=72) {j f:Nat} (O:j<cntF n wt) (M:f∈frs (Gp n wt D) (cntF n wt)):hq (B6 (Gp n wt D) (cntF n wt) (cntF n wt) j f)<=80:=by
 obtain⟨E,I⟩:=Gw.1 M;exact nM (O5 (by omega) (Gv U) (by omega) (nL _) O E I) (Nx J (nL _))
theorem Iy (N k D:Int) (w:World) (I:Pl.check N k D≠0):
  Calls prog 47 #[.agg #[.int .i64 N,.int .i64 k,.int .i64 D]] w λe w'=>e=.returned (.tuple #[.agg #[.int .i64 0,.int .i64 0,.slice none 0 0],.int .i64 (Pl.check N k D)])/\Below w.heap.size w w':=by
 have M:=Kh (λW=>Oq N k D W I);obtain⟨er,aD⟩:∃er,Pl.check N k D=er:=⟨_,rfl⟩
 rw[aD]at I M ⊢;have cA:(er != 0)=true:=by simpa using I
 clear aD I;go_enter func47,ntmps47
 go_wp2_with fail
 obtain⟨w0,aK,X0,X1,V⟩:=bx2 w #[.int .i64 N,.int .i64 k,.int .i64 D] 23 #[.int .i64 0,.int .i64 0,.slice none 0 0] 99;rw[aK];refine(M.1 w0).mono ?_;rintro e w1 ⟨rfl,Z⟩;have E:=Kh (X1.below_ Z X1.lt);have aN:=Kh (V.trans (Z.mono V.size));obtain⟨U,h⟩:∃x,w.heap.size+1=x:=⟨_,rfl⟩
 have O:=Kh h;rw[h]at E ⊢;have r0:=E.1.at_ 0 rfl;have r1:=E.1.at_ 1 rfl;have r2:=E.1.at_ 2 rfl;have f0:=E.1.free_ 0;have f1:=E.1.free_ 1;have f2:=E.1.free_ 2;have J:=Kh (Dm (w:=w1) (R:=U) (v0:=.int .i64 0) (v1:=.int .i64 0) (v2:=.slice none 0 0) (by rw[r0];rfl) (by rw[r1];rfl) (by rw[r2];rfl));clear aK X0 X1 V Z h M;go_wp2;have e0:=J.1.1;have e1:=J.1.2.1;have e2:=J.1.2.2;try simp only[Exit.inBlock,Exit.then]
 refine bodyPost_ret (by simp[results,results47,go_sem,e0,e1,e2];try rfl) rfl ?_;exact⟨rfl,((aN.1.setCell (p:=⟨U,0,none⟩) (by have:=O.1;show w.heap.size<=U;omega) _).setCell (p:=⟨U,1,none⟩) (by have:=O.1;show w.heap.size<=U;omega) _).setCell (p:=⟨U,2,none⟩) (by have:=O.1;show w.heap.size<=U;omega) _⟩
theorem Oj (N k D:Int) (w:World) (E:Pl.check N k D≠0):
  Calls prog 11 #[.agg #[.int .i64 N,.int .i64 k,.int .i64 D]] w λe w'=>e=.returned (.tuple #[.pointer none,.int .i64 (Pl.check N k D)])/\Below w.heap.size w w':=
 Uc N k D (Pl.check N k D) w (λI _=>(Iy N k D I E).mono (λ_ _ h=>⟨⟨0,0,h.1⟩,h.2⟩)) E
end
section
open Go.RowKit Tryz
theorem Wk (n wt:Nat) (D:Int) (i:Nat) (u v:Int) (w:World) (hT:Tab w) (bB:Pl.check n ((wt:Int)+2) D=0) (hi:i<=wt) (hs:(Ao n D u v).2≠0):
  Calls prog 115 #[.agg #[.int .i64 n,.int .i64 ((wt:Int)+2),.int .i64 D],.agg #[.int .i64 i,.int .i64 u,.int .i64 v]] w λe w'=>e=.returned (.tuple #[.int .i64 ((i*(pts n (n*n)).length+(Ao n D u v).1:Nat):Int),.int .i64 (Ao n D u v).2,.int .i64 0])/\Below w.heap.size w w':=by
 obtain⟨h1,h2,h3,h4,h5,h6⟩:=Ba bB;have cM:(pts n (n*n)).length<=14400:=nM (B9 n (n*n)) (by have:n*n<=120*120:=Nat.mul_le_mul (by omega) (by omega);omega);have O:=Kh (λW (hb:Below w.heap.size w W)=>Gf n wt D W (hT.below hb) (by omega) (by omega) (by omega) (by omega) (by omega) bB);have M:=Kh (λT B W h hB=>eN T B n wt (pts n (n*n)) (Bd n D (pts n (n*n)) n) u v W h hB (by omega) (by omega))
 have aX:=Kh (show(Ao n D u v).1<(pts n (n*n)).length from by
  rcases Fi (Xz D) n ((u % n).toNat*n+(v % n).toNat)with h|h
  ·exact absurd (by unfold Ao;rw[h]) hs
  ·exact h.1)
 obtain⟨pc,bC⟩:∃p,Ao n D u v=p:=⟨_,rfl⟩
 have aN:Bd n D (pts n (n*n)) n ((u % n).toNat*n+(v % n).toNat)=pc:=bC;rw[aN]at M;rw[bC]at hs aX ⊢;obtain⟨L,hL⟩:∃L,pts n (n*n)=L:=⟨_,rfl⟩
 rw[hL]at O M aX cM ⊢;obtain⟨f,hf⟩:∃f,Bd n D L n=f:=⟨_,rfl⟩
 rw[hf]at O M;have hQ:wt<=22:=by omega
 have hP:(pc.2==0)=false:=by rw[beq_eq_false_iff_ne];exact hs
 obtain⟨iL,aK⟩:∃x,i*L.length=x:=⟨_,rfl⟩
 have e1:(i:Int)*(L.length:Int)=(iL:Nat):=by rw[<-aK];push_cast;rfl
 have V:iL<=22*14400:=by rw[<-aK];exact Nat.mul_le_mul (by omega) cM
 have hO:pc.1<14400:=by have:=aX.1;omega
 rw[aK];have HS:=Kh hs;clear hT bB h1 h2 h3 h4 h5 h6 hs bC aN hL hf aK;have eX:¬((i:Int)<0):=by omega
 have hM:decide ((i:Int)<0)=false:=decide_eq_false eX;have eY:¬((wt:Int)<(i:Int)):=by omega
 have hN:decide ((wt:Int)<(i:Int))=false:=decide_eq_false eY;go_enter func115,ntmps115
 go_wp2_with fail
 obtain⟨w0,cT,_,XB,U⟩:=bx2 w #[.int .i64 n,.int .i64 ((wt:Int)+2),.int .i64 D] 23 #[.int .i64 i,.int .i64 u,.int .i64 v] 180;rw[cT];refine(O.1 w0 U).mono ?_;rintro e w1 ⟨⟨T,rfl,bE⟩,V⟩;have J:=XB.below_ V XB.lt;have x0:=J.at_ 0 rfl;have x1:=J.at_ 1 rfl;have x2:=J.at_ 2 rfl;have t1:=bE.c1;have cF:=Kh bE;have cG:=Kh J;have bY:=Kh (U.trans (V.mono U.size));clear cT XB U V bE J O;go_upto_region 4 with(fail)
 go_quiet (fail)
 have E:Below w1.heap.size w1 (w1.drewN nq):=Aa (Below.refl _ _) nq;generalize w1.drewN nq=w2 at E ⊢;have bA:=Kh (cF.1.keep (nL _) E);have I:=Kh (bk cG E);have cA:=bt bY E;have cC:=Kh E.size;clear x0 x1 x2 t1 E cG bY cF;have x0:=I.1.at_ 0 rfl;have x1:=I.1.at_ 1 rfl;have x2:=I.1.at_ 2 rfl;go_wp2_with fail
 refine(M.1 T w1.heap.size w2 bA.1 cC.1).mono ?_;rintro e w3 ⟨rfl,Z⟩;have cD:=Kh (bA.1.keep cC.1 Z);have cI:=Kh (bk I Z);have cB:=bt cA Z;clear x0 x1 x2 Z I cA bA;go_upto_region 7 with(fail)
 obtain⟨w4,cX,X4,aD⟩:=bx1 w3 #[.int .i64 (pc.1:Int),.int .i64 pc.2] 215;rw[cX];have y0:=X4.at_ 0 rfl;have y1:=X4.at_ 1 rfl;have x0:=(bk cI aD).at_ 0 rfl;obtain⟨pl,cl,t2,_⟩:=cD.1.c2;have t2:=Ad aD t2;have eF:=bt cB aD;clear cX X4 aD cI cB cD;go_upto_region 9 with(fail)
 go_quiet (fail)
 have eG:=Kh (show Below w.heap.size w (w4.drewN nq)from Aa eF.1 nq);go_wp2;go_ret3
 exact⟨by push_cast;rfl,eG.1⟩
def An (x y:Int×Int):(Int×Int)×(Int×Int):=if y.1*x.2 - x.1*y.2=1 then((y.1,x.1),(y.2,x.2))else((y.1,-x.1),(y.2,-x.2))
theorem fX (a b c d:Int) (w:World) (ha:-1073741824<=a) (U:a<=1073741824) (hb:-1073741824<=b) (V:b<=1073741824) (hc:-1073741824<=c) (Z:c<=1073741824) (hd:-1073741824<=d) (aD:d<=1073741824)
  (J:c*b - a*d=1∨c*b - a*d=-1):
  Calls prog 114 #[.agg #[.int .i64 a,.int .i64 b],.agg #[.int .i64 c,.int .i64 d]] w λe w'=>e=.returned (.tuple #[.agg #[.int .i64 (An (a,b) (c,d)).1.1,.int .i64 (An (a,b) (c,d)).1.2,.int .i64 (An (a,b) (c,d)).2.1,.int .i64 (An (a,b) (c,d)).2.2],.bool true])/\Below w.heap.size w w':=by
 have M:=mul_b hc Z hb V;have O:=mul_b ha U hd aD;obtain⟨cb,I⟩:∃x,c*b=x:=⟨_,rfl⟩
 obtain⟨ad,E⟩:∃x,a*d=x:=⟨_,rfl⟩
 rcases J with h|h
 ·rw[show An (a,b) (c,d)=((c,a),(d,b))by unfold An;rw[if_pos h]]
  rw[I]at h M;rw[E]at h O;go_enter func114,ntmps114
  go_wp2;try simp only[Exit.inBlock,Exit.then]
  refine bodyPost_ret (by simp[results,results114,go_sem];try rfl) rfl ?_;exact⟨rfl,((((Below.refl _ w).alloc (nL _) _).alloc (by simp) _).alloc (by simp;omega) _).alloc (by simp;omega) _⟩
 ·rw[show An (a,b) (c,d)=((c,-a),(d,-b))by unfold An;rw[if_neg (by show ¬(c*b - a*d=1);omega)]]
  rw[I]at h M;rw[E]at h O;go_enter func114,ntmps114
  go_wp2;try simp only[Exit.inBlock,Exit.then]
  refine bodyPost_ret (by simp[results,results114,go_sem];try rfl) rfl ?_;exact⟨rfl,((((Below.refl _ w).alloc (nL _) _).alloc (by simp) _).alloc (by simp;omega) _).alloc (by simp;omega) _⟩
end
section
open Go.RowKit Eli Tryz
def dT (Q:Nat->Rat) (n wt:Nat) (D:Int) (X:Nat->Nat->Rat) (a b:Int×Int) (f i:Nat):Rat:=
 subst Q wt (An a b).1.1 (An a b).1.2 (An a b).2.1 (An a b).2.2 (wt+1) i*((Ao n D (An a b).2.1 (An a b).2.2).2:Rat)*X (i*(pts n (n*n)).length+(Ao n D (An a b).2.1 (An a b).2.2).1) f
def Vv (Q:Nat->Rat) (n wt:Nat) (D:Int) (X:Nat->Nat->Rat) (a b:Int×Int) (f i:Nat):Rat:=sumQ (dT Q n wt D X a b f) i
def N4 (Q:Nat->Rat) (n wt:Nat) (D:Int) (X:Nat->Nat->Rat) (ch:List (Int×Int)) (f k:Nat):Rat:=sumQ (λj=>Vv Q n wt D X (ch.getD j (0,0)) (ch.getD (j+1) (0,0)) f (wt+1)) k
theorem Ui (M B n wt:Nat) (D:Int) (F:List Nat) (C:Nat) (X:Nat->Nat->Rat) (ch:List (Int×Int)) (gc oc cc:Nat) (v:Value) (x y:Nat->Int) (w:World) (hT:Tab w) (pQ:Pl.check n ((wt:Int)+2) D=0) (tO:cntF n wt=C) (hF:F.length<=72)
  (eP:ModAt w M B n ((wt:Int)+2) D F C X) (hB:B<=w.heap.size) (hX:∀j f,j<C->f∈F->hq (X j f)<=10000) (hp:QL (λj=>IsB 4000 (x j) (y j)) w v (wt+1)) (nV:gc<w.heap.size) (tX:ch.length<=130)
  (nT:∀k c,ch[k]?=some c->w.cell? ⟨gc,oc+k*2,none⟩=some (.int .i64 c.1)/\w.cell? ⟨gc,oc+k*2+1,none⟩=some (.int .i64 c.2)/\(-1073741824<=c.1/\c.1<=1073741824/\-1073741824<=c.2/\c.2<=1073741824))
  (uA:∀k a b,ch[k]?=some a->ch[k+1]?=some b->(b.1*a.2 - a.1*b.2=1∨b.1*a.2 - a.1*b.2=-1)/\(Ao n D (An a b).2.1 (An a b).2.2).2≠0):
  Calls prog 66 #[.pointer (some ⟨M,0,none⟩),v,.slice (some ⟨gc,oc,none⟩) ch.length cc] w λe w'=>(∃g,e=.returned (.tuple #[.slice (some ⟨g,0,none⟩) F.length F.length,.int .i64 0])/\w.heap.size<=g/\QRow (λj=>IsQ (N4 (λi=>Rat.divInt (x i) (y i)) n wt D X ch (F.getD j 0) (ch.length - 1))) w' g F.length F.length)/\Below w.heap.size w w':=by
 obtain⟨h1,h2,h3,h4,h5,h6⟩:=Ba pQ;have yZ:wt<=22:=by omega
 obtain⟨Q,hQ⟩:∃Q:Nat->Rat,(λi=>Rat.divInt (x i) (y i))=Q:=⟨_,rfl⟩
 have HQ:=Kh hQ
 have rQ:=Kh (show ∀i,i<wt+1->hq (Q i)<=4000 from λi hi=>by
  obtain⟨_,_,_,_,hr⟩:=hp.resolve_left (λh=>by omega);obtain⟨_,_,_,_,_,_,_,_,_,_,_,_,h5,h6,h7,h8⟩:=hr.2 i hi;rw[<-hQ];exact Gy (by decide) (nM h5.size h7) (nM h6.size h8))
 rw[hQ];have sB:=Kh (λW (E:Below w.heap.size w W)=>Mt M B n ((wt:Int)+2) D F C X W (eP.keep hB E) (nM hB E.size));have oW:=Kh (λW (E:Below w.heap.size w W)=>Wd M B n ((wt:Int)+2) D F C X W (eP.keep hB E));have vQ:=Kh (λW a b c d (E:Below w.heap.size w W) (ha:-1073741824<=a) (wG:a<=1073741824) (hG:-1073741824<=b) (wH:b<=1073741824) (hc:-1073741824<=c) (wI:c<=1073741824) (hd:-1073741824<=d) (wJ:d<=1073741824)=>Ou 4000 (by decide) (by decide) v (wt+1) x y a b c d W (hp.keep (λ_=>IsB.solid _ _ _) E) (by omega) (by omega) ha wG hG wH hc wI hd wJ);have vI:=Kh (λW i u z (E:Below w.heap.size w W) (hi:i<=wt) (hs:(Ao n D u z).2≠0)=>Wk n wt D i u z W (hT.below E) pQ hi hs);have rV:=Kh (λW i (E:Below w.heap.size w W) (hi:i<C)=>Wn M B n ((wt:Int)+2) D F C X i W (eP.keep hB E) hi (by omega) (λf hf=>nM (hX i f hi hf) (by omega)))
 have pC:=Kh (show ∀u z,(Ao n D u z).2≠0->(Ao n D u z).1<(pts n (n*n)).length/\-1<=(Ao n D u z).2/\(Ao n D u z).2<=1 from λu z hs=>by
  rcases Fi (Xz D) n ((u % n).toNat*n+(z % n).toNat)with h|h
  ·exact absurd (by unfold Ao;rw[h]) hs
  ·exact⟨h.1,by unfold Ao;omega,by unfold Ao;omega⟩)
 have pI:=Kh (show ∀j i,j<C->i<F.length->hq (X j (F.getD i 0))<=10000 from λj i hj hi=>hX j _ hj (by rw[List.getD_eq_getElem?_getD,List.getElem?_eq_getElem hi];exact List.getElem_mem hi));obtain⟨L,hL⟩:∃L,(pts n (n*n)).length=L:=⟨_,rfl⟩
 have HL:=Kh hL;have rH:=Kh (show(wt+1)*L=C by rw[<-tO,<-hL];rfl);rw[hL]at pC;have rG:=Kh (show ∀W,Below w.heap.size w W->∀k c,ch[k]?=some c->W.cell? ⟨gc,oc+k*2,none⟩=some (.int .i64 c.1)/\W.cell? ⟨gc,oc+k*2+1,none⟩=some (.int .i64 c.2)from λW E k c hk=>⟨(E.cell (p:=⟨gc,oc+k*2,none⟩) nV).trans (nT k c hk).1,(E.cell (p:=⟨gc,oc+k*2+1,none⟩) nV).trans (nT k c hk).2.1⟩);have hZ:=Kh (show ∀(k:Nat) (c:Int×Int),ch[k]?=some c->-1073741824<=c.1/\c.1<=1073741824/\-1073741824<=c.2/\c.2<=1073741824 from λk c hk=>(nT k c hk).2.2);have sD:=Kh uA;have yB:=Kh nV
 obtain⟨pv,cv,wC⟩:∃p c,v=.slice p (wt+1) c:=by
  obtain⟨_,_,_,e',_⟩:=hp.resolve_left (λh=>by omega);exact⟨_,_,e'⟩
 obtain⟨I,pM⟩:∃I,F.length=I:=⟨_,rfl⟩
 rw[pM]at hF oW rV pI ⊢
 have sI:=Kh (show ∀k a b i j,ch[k]?=some a->ch[k+1]?=some b->i<wt+1->j<I->hq (dT Q n wt D X a b (F.getD j 0) i)<=140000 from λk a b i j ha E hi hj=>by
  obtain⟨a1,a2,a3,a4⟩:=hZ.1 k a ha;obtain⟨b1,b2,b3,b4⟩:=hZ.1 (k+1) b E;obtain⟨p1,p2,p3⟩:=pC.1 _ _ (sD.1 k a b ha E).2
  have tW:i*L+(Ao n D (An a b).2.1 (An a b).2.2).1<C:=by
   rw[<-rH.1];have h7:=Nat.mul_le_mul_right L (show i+1<=wt+1 by omega);rw[Nat.succ_mul]at h7;omega
  have yU:hq (subst Q wt (An a b).1.1 (An a b).1.2 (An a b).2.1 (An a b).2.2 (wt+1) i)<=123880:=by
   refine Cm (K:=4000) (λq hq=>rQ.1 q hq) (Cq ?_ ?_) (Cq ?_ ?_) (Cq ?_ ?_) (Cq ?_ ?_) (by omega) (by omega) <;>(unfold An;split <;>(dsimp only;omega))
  have pY:hq (((Ao n D (An a b).2.1 (An a b).2.2).2:Int):Rat)<=1:=by
   rw[Dw];have:nd ((Ao n D (An a b).2.1 (An a b).2.2).2).natAbs<=1:=Bf.2 (by omega);omega
  have yV:=pI.1 _ j tW hj;have h7:=Ce (subst Q wt (An a b).1.1 (An a b).1.2 (An a b).2.1 (An a b).2.2 (wt+1) i*((Ao n D (An a b).2.1 (An a b).2.2).2:Rat)) (X (i*L+(Ao n D (An a b).2.1 (An a b).2.2).1) (F.getD j 0));have h8:=Ce (subst Q wt (An a b).1.1 (An a b).1.2 (An a b).2.1 (An a b).2.2 (wt+1) i) ((Ao n D (An a b).2.1 (An a b).2.2).2:Rat);unfold dT;rw[HL.1];omega)
 have sC:=Kh (show ∀k a b i j,ch[k]?=some a->ch[k+1]?=some b->i<=wt+1->j<I->hq (Vv Q n wt D X a b (F.getD j 0) i)<=3300000 from λk a b i j ha E hi hj=>by
  have h7:=C8 (dT Q n wt D X a b (F.getD j 0)) 140000 i (λq hq=>sI.1 k a b q j ha E (by omega) hj);have h8:i*(140000+1)<=23*140001:=Nat.mul_le_mul (by omega) (nL _);unfold Vv;omega)
 have rM:=Kh (show ∀k j,k+1<=ch.length->j<I->hq (N4 Q n wt D X ch (F.getD j 0) k)<=430000000 from λk j hk hj=>by
  have h7:=C8 (λj'=>Vv Q n wt D X (ch.getD j' (0,0)) (ch.getD (j'+1) (0,0)) (F.getD j 0) (wt+1)) 3300000 k (λq hq=>sC.1 q _ _ (wt+1) j (by rw[List.getD_eq_getElem?_getD,List.getElem?_eq_getElem (show q<ch.length by omega)];rfl) (by rw[List.getD_eq_getElem?_getD,List.getElem?_eq_getElem (show q+1<ch.length by omega)];rfl) (nL _) hj);have h8:k*(3300000+1)<=130*3300001:=Nat.mul_le_mul (by omega) (nL _);unfold N4;omega)
 subst wC;have yA:=Kh pM;clear hT eP hX hp nT uA pQ tO nV hQ hL pM h1 h2 h3 h4 h5 h6 hB;obtain⟨K,hK⟩:∃K,ch.length=K:=⟨_,rfl⟩
 have HK:=Kh hK;rw[hK]at tX rM ⊢;clear hK;go_enter func66,ntmps66
 have wM:=G4 I (by omega);go_wp2_with fail
 refine(sB.1 w (Below.refl _ w)).mono ?_;rintro e w1 ⟨rfl,hG⟩;go_wp2_with fail
 obtain⟨w2,pZ,X2,tR⟩:=bx1 w1 #[.int .i64 n,.int .i64 ((wt:Int)+2),.int .i64 D] 23;rw[pZ];have pF:=Kh (hG.trans (tR.mono hG.size));have pY:w2.heap.size=w1.heap.size+1:=by rw[<-pZ];simp
 refine(oW.1 w2 pF.1).mono ?_;rintro e w' ⟨rfl,wQ⟩;obtain rfl:w2=w':=wQ.symm;go_wp2_with fail
 have nC:=Kh (QRow.made (λ_=>IsQ 0) w2 I);obtain⟨wn,qA⟩:∃wn,w2.alloc (.cells (madeCells #[.bool false,.slice none 0 0,.bool false,.slice none 0 0] (I*4)) 86)=wn:=⟨_,rfl⟩
 have oU:=Kh (show Below w2.heap.size w2 wn from qA▸(Below.refl _ _).alloc (nL _) _);rw[qA]at nC ⊢;obtain⟨g,pR⟩:∃g,w1.heap.size+1=g:=⟨_,rfl⟩
 have hg:w2.heap.size=g:=pY.trans pR;rw[hg]at oU nC;try rw[hg]
 try rw[pR]
 obtain⟨gs,pU⟩:∃gs,w1.heap.size=gs:=⟨_,rfl⟩
 rw[pU]at X2;try rw[pU]
 have sQ:=Kh X2;have oY:=Kh hg;have sO:=Kh (show w.heap.size<=g from hg▸pF.1.size);have sN:=Kh (show ∀W,Below g w2 W->Below w.heap.size w W from λW E=>pF.1.trans (E.mono sO.1));have vD:=Kh (show gs<g by omega);clear hG pZ X2 tR pY qA pR hg pU wM sB oW;go_loopw [28] (λi wr=>∃k:Nat,k<=I/\i=.int .i64 k/\QRow (λ_=>IsQ 0) wr g I k/\Below g w2 wr) (λi _=>I - (intOf i).toNat)
 case atStart=>exact⟨0,Nat.zero_le _,rfl,nC.1,oU.1⟩
 case round=>
  obtain⟨k,hk,rfl,U,cS⟩:=hrel;obtain⟨wi,rfl⟩:∃wi:World,wi=wr:=⟨_,rfl⟩
  have J:=Kh U;have mE:=Kh cS;have sA:=Kh (show g<=wi.heap.size from oY.1▸cS.size);clear U cS oU nC;by_cases hlt:k<I
  ·go_wp2_with fail
   refine(Du 0 wi (by omega) (by omega)).mono ?_;rintro e w3 ⟨⟨s3,p3,n3,c3,t3,q3,m3,d3,rfl,tY⟩,eX⟩;have bC:=QRow.keep (λ_=>IsQ.solid _) J.1 eX;have vL:=Kh (QRow.set (k':=k+1) (λ_=>IsQ.solid _) bC k hlt (λ_=>IsQ 0) (IsQ.solid _) (λi h1 h2=>⟨by omega,rfl⟩) tY);have gS:=Kh (mE.1.trans (eX.mono sA.1));obtain⟨u0,yW⟩:=nP (bC.has (k*4) (by omega));obtain⟨u1,yX⟩:=nP (bC.has (k*4+1) (by omega));obtain⟨u2,hu2⟩:=nP (bC.has (k*4+2) (by omega));obtain⟨u3,yY⟩:=nP (bC.has (k*4+3) (by omega));have f0:=bC.free (k*4) (by omega);have f1:=bC.free (k*4+1) (by omega);have f2:=bC.free (k*4+2) (by omega);have f3:=bC.free (k*4+3) (by omega);clear tY eX bC J mE;go_wp2;go_roundw
   case rel=>exact⟨k+1,by omega,by go_num,vL.1,A3 gS.1⟩
   case measure=>simp[intOf];omega
  ·obtain rfl:I=k:=by omega
   have rY:=Kh (J.1.congr (G:=λj=>IsQ (N4 Q n wt D X ch (F.getD j 0) 0)) (λj _=>rfl));clear J hlt hk;go_wp2;go_loopw [11] (λkk wx=>∃k:Nat,(k=0∨k+1<=K)/\kk=.int .i64 k/\QRow (λj=>IsQ (N4 Q n wt D X ch (F.getD j 0) k)) wx g I I/\Below g w2 wx) (λkk _=>K - (intOf kk).toNat)
   case atStart=>exact⟨0,.inl rfl,rfl,rY.1,mE.1⟩
   case round=>
    obtain⟨k,hk,rfl,U,cS⟩:=hrel;obtain⟨wk,rfl⟩:∃wk:World,wk=wr:=⟨_,rfl⟩
    have J:=Kh U;have uW:=Kh cS;have hD:=Kh (sN.1 wk cS);have vO:=Kh (show g<=wk.heap.size from oY.1▸cS.size);have yP:k<=130:=by omega
    have vF:=Kh hk;clear U cS rY mE sA hk;by_cases hlt:k+1<K
    ·have wL:(k:Int)+1<(K:Int):=by omega
     have xT:(k:Int)<(K:Int):=by omega
     obtain⟨a,ha⟩:∃a,ch[k]?=some a:=⟨_,List.getElem?_eq_getElem (by rw[HK.1];omega)⟩
     obtain⟨b,E⟩:∃b,ch[k+1]?=some b:=⟨_,List.getElem?_eq_getElem (by rw[HK.1];omega)⟩
     obtain⟨l0,l1⟩:=rG.1 wk hD.1 k a ha;obtain⟨l2,l3⟩:=rG.1 wk hD.1 (k+1) b E;obtain⟨sZ,tA,tB,tC⟩:=hZ.1 k a ha;obtain⟨tD,tF,tG,tH⟩:=hZ.1 (k+1) b E;obtain⟨tS,cT⟩:=sD.1 k a b ha E;have cI:=Kh (λW=>fX a.1 a.2 b.1 b.2 W sZ tA tB tC tD tF tG tH tS);have sJ:=Kh (λi j (hi:i<wt+1) (hj:j<I)=>sI.1 k a b i j ha E hi hj);have oG:=Kh (λi j (hi:i<=wt+1) (hj:j<I)=>sC.1 k a b i j ha E hi hj);have oE:=Kh (λj (hj:j<I)=>rM.1 k j (by omega) hj)
     have pB:=Kh (show ∀f,N4 Q n wt D X ch f (k+1)=N4 Q n wt D X ch f k+Vv Q n wt D X a b f (wt+1)from λf=>by
      unfold N4;rw[sumQ,List.getD_eq_getElem?_getD,ha,List.getD_eq_getElem?_getD,E];rfl)
     have pE:=Kh cT;have nB:=Kh (show(-1073741824<=(An a b).1.1/\(An a b).1.1<=1073741824)/\(-1073741824<=(An a b).1.2/\(An a b).1.2<=1073741824)/\(-1073741824<=(An a b).2.1/\(An a b).2.1<=1073741824)/\(-1073741824<=(An a b).2.2/\(An a b).2.2<=1073741824)from by unfold An;split <;>(dsimp only;omega));obtain⟨T,hT⟩:∃T:Nat->Nat->Rat,(λf i=>dT Q n wt D X a b f i)=T:=⟨_,rfl⟩
     obtain⟨S,hS⟩:∃S:Nat->Nat->Rat,(λf i=>Vv Q n wt D X a b f i)=S:=⟨_,rfl⟩
     obtain⟨A0,hA0⟩:∃A0:Nat->Rat,(λf=>N4 Q n wt D X ch f k)=A0:=⟨_,rfl⟩
     have sF:=Kh (show ∀f i,S f (i+1)=S f i+T f i from λf i=>by rw[<-hS,<-hT];rfl);have sG:=Kh (show ∀f,S f 0=0 from λf=>by rw[<-hS];rfl);have cX:=Kh (show ∀f i,T f i=subst Q wt (An a b).1.1 (An a b).1.2 (An a b).2.1 (An a b).2.2 (wt+1) i*((Ao n D (An a b).2.1 (An a b).2.2).2:Rat)*X (i*L+(Ao n D (An a b).2.1 (An a b).2.2).1) f from λf i=>by rw[<-hT,<-HL.1];rfl);have pD:=Kh (show QRow (λj=>IsQ (A0 (F.getD j 0))) wk g I I from J.1.congr (λj _=>by rw[<-hA0]));have pB:=Kh (show ∀f,N4 Q n wt D X ch f (k+1)=A0 f+S f (wt+1)from λf=>by rw[pB.1,<-hA0,<-hS])
     have uS:=Kh (show ∀i j,i<=wt+1->j<I->hq (A0 (F.getD j 0)+S (F.getD j 0) i)<=440000000 from λi j hi hj=>by
      have h7:=oE.1 j hj;have h8:=oG.1 i j hi hj;rw[<-hA0,<-hS];have h9:=H8 (N4 Q n wt D X ch (F.getD j 0) k) (Vv Q n wt D X a b (F.getD j 0) i);dsimp only;omega)
     have aK:=Kh (show ∀i,hq (subst Q wt (An a b).1.1 (An a b).1.2 (An a b).2.1 (An a b).2.2 (wt+1) i)<=123880 from λi=>by
      obtain⟨⟨m1,m2⟩,⟨m3,m4⟩,⟨m5,m6⟩,m7,m8⟩:=nB.1;exact Cm (K:=4000) (λq hq=>rQ.1 q hq) (Cq m1 m2) (Cq m3 m4) (Cq m5 m6) (Cq m7 m8) (by omega) (by omega))
     obtain⟨p1,p2,p3⟩:=pC.1 _ _ cT;obtain⟨MM,tP⟩:∃MM,An a b=MM:=⟨_,rfl⟩
     obtain⟨⟨mA,mB⟩,⟨mC,mD⟩⟩:=MM;rw[tP]at cI pE nB cX aK p1 p2 p3;dsimp only at cI pE nB cX aK p1 p2 p3;obtain⟨pc,pW⟩:∃pc,Ao n D mC mD=pc:=⟨_,rfl⟩
     have vK:=Kh pW;rw[pW]at cX p1 p2 p3;have vJ:=Kh p1;clear ha E tS cT hT hS hA0 sZ tA tB tC tD tF tG tH J tP pW p1 sJ oG oE;obtain⟨k1,eY⟩:∃k1,k+1=k1:=⟨_,rfl⟩
     rw[eY]at l2 l3;have yQ:IntKind.i64.wrap ((k:Int)+1)=(k1:Nat):=by rw[show(k:Int)+1=(k1:Nat)by omega];exact IntWalk.i64_in _ (by omega)
     have xS:(k1:Int)<(K:Int):=by omega
     have oZ:=Kh eY;clear eY;have tT:g<wk.heap.size:=pD.1.sts.1;go_upto_region 11 with(fail)
     go_cut [12,13]from 43 to 55 (λxE xF wx=>∃gm,xE=.pointer (some ⟨gm,0,none⟩)/\xF=.bool true/\Blk wx gm 63 #[.int .i64 mA,.int .i64 mB,.int .i64 mC,.int .i64 mD]/\g<gm/\Below wk.heap.size wk wx)
     case first=>
      refine kX [12,15] (λW=>W.cell? ⟨gc,oc+k*2,none⟩=some (.int .i64 a.1)/\W.cell? ⟨gc,oc+k*2+1,none⟩=some (.int .i64 a.2)/\W.cell? ⟨gc,oc+k1*2,none⟩=some (.int .i64 b.1)/\W.cell? ⟨gc,oc+k1*2+1,none⟩=some (.int .i64 b.2)) (λW E=>⟨Av E l0,Av E l1,Av E l2,Av E l3⟩) (λaN hHeld0=>?_);clear l0 l1 l2 l3;refine Dh 0 ?_;refine Dh 1 ?_;refine Dh 2 ?_;refine Dh 3 ?_;refine Dh 4 ?_;refine Dh 5 ?_;refine Dh 6 ?_;refine Dh 7 ?_;refine Dh 8 ?_;refine kV 9 13 rfl rfl (λK hK=>?_) (λK hK=>?_)
      ·focus(go_simp;refine(cI.1 _).mono ?_;rintro e w5 ⟨rfl,cB⟩;have bY:=Kh ((Below.refl _ wk).drew.trans cB:Below wk.heap.size wk w5);clear cB;(first|with_reducible refine hK.out _ _ ?_ (λhHeld1=>?_) |(go_wp2_with fail;with_reducible refine hK.out _ _ ?_ (λhHeld1=>?_))))
       focus((try dsimp only);exact aN.1 _ bY.1)
       focus(clear hK K;(try simp only[Act.put,Bn,Bp,Bo]))
       refine Dh 10 ?_;refine Dh 11 ?_;refine mX 12 ?_;refine lB 13 rfl (λK hK=>?_);focus(go_simp;refine hK.out _ _ ?_ (λhHeld2=>?_))
       focus((try dsimp only);exact aN.1 _ (bY.1.alloc bY.1.size _))
       focus(clear hK K;(try simp only[Act.put,Bn,Bp,Bo]))
       refine kZ 14 rfl (λK hK=>?_);go_simp
       refine hK.out _ _ ?_;clear hK K
       (try simp only[Act.put,Bn,Bp,Bo])
       refine dW 15 ?_;refine kA ?_;go_wp2;go_meet
       exact⟨w5.heap.size,rfl,rfl,Blk.new w5 63 #[.int .i64 mA,.int .i64 mB,.int .i64 mC,.int .i64 mD],by have:=bY.1.size;omega,bY.1.alloc bY.1.size _⟩
      ·focus(go_simp;refine hK.out _ _ ?_ (λhHeld1=>?_))
       focus((try dsimp only);exact aN.1 _ ((Below.refl _ wk).drew.alloc (nL _) _))
       focus(clear hK K;(try simp only[Act.put,Bn,Bp,Bo]))
       refine lB 9 rfl (λK hK=>?_);focus(go_simp;refine(cI.1 _).mono ?_;rintro e w5 ⟨rfl,cB⟩;have bY:=Kh (((Below.refl _ wk).drew.alloc (nL _) _).trans (cB.mono (by simp)):Below wk.heap.size wk w5);have cA:=Kh (show Blk w5 wk.heap.size 63 #[.int .i64 0,.int .i64 0,.int .i64 0,.int .i64 0]from(Blk.new wk.drew 63 #[.int .i64 0,.int .i64 0,.int .i64 0,.int .i64 0]).below_ cB (by simp));clear cB;(first|with_reducible refine hK.out _ _ ?_ (λhHeld2=>?_) |(go_wp2_with fail;with_reducible refine hK.out _ _ ?_ (λhHeld2=>?_))))
       focus((try dsimp only);exact aN.1 _ bY.1)
       focus(clear hK K;(try simp only[Act.put,Bn,Bp,Bo]))
       refine Dh 10 ?_;refine Dh 11 ?_;refine mX 12 ?_;have n0:=cA.1.at_ 0 rfl;have n1:=cA.1.at_ 1 rfl;have n2:=cA.1.at_ 2 rfl;have n3:=cA.1.at_ 3 rfl;have zB:=cA.1.free_ 0;have zC:=cA.1.free_ 1;have zD:=cA.1.free_ 2;have zE:=cA.1.free_ 3;refine kZ 14 rfl (λK hK=>?_);go_simp
       refine hK.out _ _ ?_;clear hK K
       (try simp only[Act.put,Bn,Bp,Bo])
       refine dW 15 ?_;refine kA ?_;go_wp2;go_meet
       exact⟨wk.heap.size,rfl,rfl,(((cA.1.set_ 0 (.int .i64 mA)).set_ 1 (.int .i64 mB)).set_ 2 (.int .i64 mC)).set_ 3 (.int .i64 mD),tT,(((bY.1.setCell (p:=⟨wk.heap.size,0,none⟩) (nL _) _).setCell (p:=⟨wk.heap.size,1,none⟩) (nL _) _).setCell (p:=⟨wk.heap.size,2,none⟩) (nL _) _).setCell (p:=⟨wk.heap.size,3,none⟩) (nL _) _⟩
     case rest=>
     obtain⟨gm,rfl,rfl,XM,tU,cM⟩:=hcut;obtain⟨w6,rfl⟩:∃w6:World,w6=wc:=⟨_,rfl⟩
     have nA:=Kh cM;have vA:=Kh tU;have eT:=Kh XM;have sK:=Kh (hD.1.trans (nA.1.mono hD.1.size));clear XM cM tU cI l0 l1 l2 l3;have q0:=eT.1.at_ 0 rfl;have q1:=eT.1.at_ 1 rfl;have q2:=eT.1.at_ 2 rfl;have q3:=eT.1.at_ 3 rfl;go_wp2_with fail
     obtain⟨⟨m1,m2⟩,⟨m3,m4⟩,⟨m5,m6⟩,m7,m8⟩:=nB.1;refine(vQ.1 w6 mA mB mC mD sK.1 m1 m2 m3 m4 m5 m6 m7 m8).mono ?_;rintro e w7 ⟨⟨gq,rfl,wK,hJ⟩,pN⟩;rw[HQ.1,Nat.add_sub_cancel]at hJ;obtain⟨SB,nR⟩:∃SB:Nat->Rat,(λi=>subst Q wt mA mB mC mD (wt+1) i)=SB:=⟨_,rfl⟩
     have sE:=Kh (show QRow (λj=>IsQ (SB j)) w7 gq (wt+1) (wt+1)from hJ.congr (λj _=>by rw[<-nR]));have cX:=Kh (show ∀f i,T f i=SB i*(pc.2:Rat)*X (i*L+pc.1) f from λf i=>by rw[cX.1,<-nR]);have aK:=Kh (show ∀i,hq (SB i)<=123880 from λi=>by rw[<-nR];exact aK.1 i);have pA:=bt nA pN;have oH:=Kh (bk eT pN);have rF:=Kh (uW.1.trans (pA.1.mono vO.1));have pG:=Kh (sQ.1.below_ (show Below w2.heap.size w2 w7 from by rw[oY.1];exact rF.1) sQ.1.lt);have rT:=Kh (show QRow (λj=>IsQ (A0 (F.getD j 0)+S (F.getD j 0) 0)) w7 g I I from(pD.1.keep (λ_=>IsQ.solid _) pA.1).congr (λj _=>by rw[sG.1,Rat.add_zero]));have vC:=Kh (show g<gq by have:=nA.1.size;omega);have vN:=Kh (show g<=w7.heap.size by have:=pA.1.size;omega);clear wK hJ pN nR pD nA eT sK sG q0 q1 q2 q3;go_wp2_with fail
     go_loopw [62] (λii wx=>∃i:Nat,i<=wt+1/\ii=.int .i64 i/\QRow (λj=>IsQ (A0 (F.getD j 0)+S (F.getD j 0) i)) wx g I I/\w7.grownBy wx (some g)/\I32 w7 wx) (λii _=>wt+1 - (intOf ii).toNat)
     case atStart=>exact⟨0,Nat.zero_le _,rfl,rT.1,Ag g (Below.refl _ _),I32.refl _⟩
     case round=>
      obtain⟨i,hi,rfl,U,pT,tN⟩:=hrel;obtain⟨wi,rfl⟩:∃wi:World,wi=wr:=⟨_,rfl⟩
      have J:=Kh U;have cG:=Kh pT;have oT:=Kh tN;have rE:=Kh (Aq rF.1 pT vN.1 (nL _));have sP:=Kh (sN.1 wi rE.1);have yM:g<wi.heap.size:=U.sts.1;clear U pT tN rT;by_cases hlt:i<wt+1
      ·have yN:(i:Int)<((wt+1:Nat):Int):=by omega
       have xR:(i:Int)<(wt:Int)+1:=by omega
       obtain⟨s1,p1,n1,c1,t1,q1,m1,d1,a0,a1,a2,a3,hx⟩:=(sE.1.i32 (λ_=>IsQ.solid _) oT.1 cG.1 (by have:=vC.1;omega)).val i hlt;have HP:=Kh (show Qs wi s1 p1 n1 c1 t1 q1 m1 d1 (SB i)from hx);have pV:(some gm:Option Nat)≠some g:=λe=>by injection e with e;have:=vA.1;omega
       have nX:(some gs:Option Nat)≠some g:=λe=>by injection e with e;have:=vD.1;omega
       have c2:=cG.1.cell (oH.1.at_ 2 rfl) pV;have c3:=cG.1.cell (oH.1.at_ 3 rfl) pV;have nZ:=cG.1.cell (pG.1.at_ 0 rfl) nX;have oA:=cG.1.cell (pG.1.at_ 1 rfl) nX;have oB:=cG.1.cell (pG.1.at_ 2 rfl) nX;have oF:=Kh (λw1 (E:Below wi.heap.size wi w1)=>Gu s1 p1 n1 c1 t1 q1 m1 d1 (SB i) w1 (HP.1.keep E) (by have:=aK.1 i;omega));clear hx pV nX;go_wp2_with fail
       refine(oF.1 _ ((Below.refl _ _).alloc (nL _) _)).mono ?_;rintro e w8 ⟨⟨sg,rfl,cT⟩,pO⟩;have aX:=Kh (((Below.refl _ wi).alloc (nL _) (.cells #[.bool s1,.slice p1 n1 c1,.bool t1,.slice q1 m1 d1] 86)).trans (pO.mono (by simp)));have qB:=(Blk.new wi 86 #[.bool s1,.slice p1 n1 c1,.bool t1,.slice q1 m1 d1]).below_ pO (by simp);obtain⟨gb,pS⟩:∃x,wi.heap.size=x:=⟨_,rfl⟩
       have oX:=Kh pS;rw[pS]at qB ⊢;have sR:=Kh qB;have c2:=Ad aX.1 c2;have c3:=Ad aX.1 c3;have nZ:=Ad aX.1 nZ;have oA:=Ad aX.1 oA;have oB:=Ad aX.1 oB;clear pO oF a0 a1 a2 a3 qB pS;by_cases hz:SB i=0
       ·obtain rfl:sg=0:=cT.2 hz
        have gU:=Kh (QRow.congr (G:=λj=>IsQ (A0 (F.getD j 0)+S (F.getD j 0) (i+1))) (J.1.keep (λ_=>IsQ.solid _) aX.1) (λj _=>by rw[sF.1,cX.1,hz,Rat.zero_mul,Rat.zero_mul,Rat.add_zero]));have vB:=Kh (cG.1.trans (Ag g aX.1));have vE:=Kh (oT.1.trans (I32.below aX.1));clear hz cT c2 c3 nZ oA oB;go_wp2;go_roundw
        case rel=>exact⟨i+1,by omega,by go_num,gU.1,vB.1,vE.1⟩
        case measure=>simp[intOf];omega
       ·have wP:(sg==0)=false:=by rw[beq_eq_false_iff_ne];exact λe=>hz (cT.1 e)
        obtain⟨ix,nW⟩:∃x,i*L+pc.1=x:=⟨_,rfl⟩
        have rL:=Kh (show ix<C by
         rw[<-nW,<-rH.1];have h7:=Nat.mul_le_mul_right L (show i+1<=wt+1 by omega);have h8:=vJ.1;rw[Nat.succ_mul]at h7;omega)
        have rO:=Kh (λW (E:Below w.heap.size w W)=>show Calls prog 115 #[.agg #[.int .i64 n,.int .i64 ((wt:Int)+2),.int .i64 D],.agg #[.int .i64 i,.int .i64 mC,.int .i64 mD]] W λe w'=>e=.returned (.tuple #[.int .i64 (ix:Int),.int .i64 pc.2,.int .i64 0])/\Below W.heap.size W w' from by
         have h:=vI.1 W i mC mD E (by omega) pE.1;rw[HL.1,vK.1,nW]at h;exact h)
        have sH:=Kh (show ∀f,T f i=SB i*(pc.2:Rat)*X ix f from λf=>by rw[cX.1,nW]);have sL:=Kh (sP.1.trans (aX.1.mono sP.1.size));clear hz cT nW;go_wp2_with fail
        refine(rO.1 w8 sL.1).mono ?_;rintro e w9 ⟨rfl,nS⟩;have sM:=bt sL nS;have rD:=bt aX nS;have pH:=Kh (bk sR nS);clear c2 c3 nZ oA oB nS wP sR;go_wp2_with fail
        refine(rV.1 w9 ix sM.1 rL.1).mono ?_;rintro e wd ⟨⟨gx,rfl,tV,tZ⟩,pP⟩;have rZ:=Kh tZ;have cF:=bt rD pP;have Z:=Kh (bk pH pP);have rJ:=Kh (show gb<gx from nN pH.1.lt tV);have y0:=Z.1.at_ 0 rfl;have y1:=Z.1.at_ 1 rfl;have y2:=Z.1.at_ 2 rfl;have y3:=Z.1.at_ 3 rfl;have tI:=Z.1.free_ 0;have tJ:=Z.1.free_ 1;have tK:=Z.1.free_ 2;have tL:=Z.1.free_ 3;have rN:=Kh (λs5 p5 n5 c5 t5 q5 m5 d5 W (E:Below wd.heap.size wd W) (wN:Qs W s5 p5 n5 c5 t5 q5 m5 d5 ((pc.2:Int):Rat))=>Co s1 p1 n1 c1 t1 q1 m1 d1 (SB i) s5 p5 n5 c5 t5 q5 m5 d5 ((pc.2:Int):Rat) W ((HP.1.keep cF.1).keep E) wN (by have:=aK.1 i;omega) (by rw[Dw];have:nd pc.2.natAbs<=1:=Bf.2 (by omega);omega));clear tV tZ pP sM pH rD;go_upto_region 24 with(fail)
        refine Lg (λW=>W.cell? ⟨gb,0,none⟩=some (.bool s1)/\W.frozen? ⟨gb,0,none⟩=false/\W.cell? ⟨gb,1,none⟩=some (.slice p1 n1 c1)/\W.frozen? ⟨gb,1,none⟩=false/\W.cell? ⟨gb,2,none⟩=some (.bool t1)/\W.frozen? ⟨gb,2,none⟩=false/\W.cell? ⟨gb,3,none⟩=some (.slice q1 m1 d1)/\W.frozen? ⟨gb,3,none⟩=false) (λW E=>⟨Av E y0,Ab E (by rw[y0];rfl) (tI),Av E y1,Ab E (by rw[y1];rfl) (tJ),Av E y2,Ab E (by rw[y2];rfl) (tK),Av E y3,Ab E (by rw[y3];rfl) (tL)⟩) (λaN hHeld0=>?_);clear y0 y1 y2 y3 tI tJ tK tL;refine Ap 0 ?_;refine Ap 1 ?_;refine Hq 2 rfl (λK hK=>?_);focus(go_simp;refine(Du pc.2 _ (by omega) (by omega)).mono ?_;rintro e v5 ⟨⟨s5,p5,n5,c5,t5,q5,m5,d5,rfl,uF⟩,cB⟩;have nD:=Kh ((Below.refl _ wd).drew.trans cB:Below wd.heap.size wd v5);have sT:=Kh uF;clear uF cB;(first|with_reducible refine hK.out _ _ ?_ (λhHeld1=>?_) |(go_wp2_with fail;with_reducible refine hK.out _ _ ?_ (λhHeld1=>?_))))
        focus((try dsimp only);exact aN.1 _ nD.1)
        focus(clear hK K;(try simp only[Act.put,Bn,Bp,Bo]))
        refine Hq 3 rfl (λK hK=>?_);focus(go_simp;refine(rN.1 _ _ _ _ _ _ _ _ _ nD.1 sT.1).mono ?_;rintro e v6 ⟨⟨s6,p6,n6,c6,t6,q6,m6,d6,rfl,hM⟩,cM⟩;have dC:=bt nD cM;have sU:=Kh hM;clear hM cM;(first|with_reducible refine hK.out _ _ ?_ (λhHeld2=>?_) |(go_wp2_with fail;with_reducible refine hK.out _ _ ?_ (λhHeld2=>?_))))
        focus((try dsimp only);exact aN.1 _ dC.1)
        focus(clear hK K;(try simp only[Act.put,Bn,Bp,Bo]))
        refine Le 4 rfl (λK hK=>?_);go_simp
        refine hK.out _ _ ?_;clear hK K
        (try simp only[Act.put,Bn,Bp,Bo])
        have XQ:=((((Z.1.below_ dC.1 Z.1.lt).set_ 0 (.bool s6)).set_ 1 (.slice p6 n6 c6)).set_ 2 (.bool t6)).set_ 3 (.slice q6 m6 d6);have oN:Sts v6 gb:=Sts.of (Z.1.below_ dC.1 Z.1.lt) (by intro v hv;simp at hv;rcases hv with rfl|rfl|rfl|rfl <;> first|exact NotInt.bool _|exact NotInt.slice _ _ _);have eF:=I32.put4 oN 0 1 2 3 (.bool s6) (.slice p6 n6 c6) (.bool t6) (.slice q6 m6 d6) (NotInt.bool _) (NotInt.slice _ _ _) (NotInt.bool _);have nU:=E8 v6 gb 0 1 2 3 (.bool s6) (.slice p6 n6 c6) (.bool t6) (.slice q6 m6 d6);obtain⟨wq,uB⟩:∃wq,((((v6.setCell ⟨gb,0,none⟩ (.bool s6)).setCell ⟨gb,1,none⟩ (.slice p6 n6 c6)).setCell ⟨gb,2,none⟩ (.bool t6)).setCell ⟨gb,3,none⟩ (.slice q6 m6 d6))=wq:=⟨_,rfl⟩
        rw[uB]at XQ eF nU ⊢;have oV:=Kh (show Below wi.heap.size wi wq from Aq (cF.1.trans (dC.1.mono cF.1.size)) nU (by have:=cF.1.size;have:=dC.1.size;omega) (by have:=oX.1;omega));have nQ:=Kh XQ;have rR:=Kh (sU.1.i32 eF);have rX:=Kh (((rZ.1.keep (λ_=>IsQ.solid _) dC.1).i32 (λ_=>IsQ.solid _) eF nU (by have:=rJ.1;omega)));obtain⟨z,hz⟩:∃z,SB i*((pc.2:Int):Rat)=z:=⟨_,rfl⟩
        rw[hz]at rR sH
        have sV:=Kh (show hq z<=125000 by
         rw[<-hz];have h7:=Ce (SB i) ((pc.2:Int):Rat);have h8:=aK.1 i;have h9:hq ((pc.2:Int):Rat)<=1:=by rw[Dw];have:nd pc.2.natAbs<=1:=Bf.2 (by omega);omega
         omega)
        obtain⟨A,hA⟩:∃A:Nat->Rat,(λj=>A0 (F.getD j 0)+S (F.getD j 0) i)=A:=⟨_,rfl⟩
        obtain⟨Y,hY⟩:∃Y:Nat->Rat,(λj=>X ix (F.getD j 0))=Y:=⟨_,rfl⟩
        have uT:=Kh hA;have vR:=Kh hY;have uV:=Kh (show ∀j,j<I->hq (A j)<=440000000 from λj hj=>by rw[<-hA];exact uS.1 i j hi hj);have sS:=Kh (show ∀j,j<I->hq (Y j)<=10000 from λj hj=>by rw[<-hY];exact pI.1 ix j rL.1 hj);have vM:=Kh (show QRow (λj=>IsQ (Y j)) wq gx I I from rX.1.congr (λj _=>by rw[<-hY]));have rU:=Kh (show QRow (addQ A Y z 0) wq g I I from(J.1.keep (λ_=>IsQ.solid _) oV.1).congr (λj _=>by unfold addQ;rw[if_neg (Nat.not_lt_zero j),<-hA]));have oM:gx≠g:=by have:=rJ.1;have:=oX.1;omega
        have oK:gb≠g:=by have:=oX.1;omega
        have oD:=Kh oM;have oC:=Kh oK;clear XQ oN eF nU uB hz hA hY oM oK aN rN nD dC sT sU rZ cF Z rX hHeld0 hHeld1 hHeld2;go_wp2_with fail
        go_loopw [100] (λjj wx=>∃j:Nat,j<=I/\jj=.int .i64 j/\QRow (addQ A Y z j) wx g I I/\wq.grownBy wx (some g)/\I32 wq wx) (λjj _=>I - (intOf jj).toNat)
        case atStart=>exact⟨0,Nat.zero_le _,rfl,rU.1,Ag g (Below.refl _ _),I32.refl _⟩
        case round=>
         obtain⟨j,hj,rfl,hI,oL,oI⟩:=hrel;obtain⟨we,rfl⟩:∃we:World,we=wr:=⟨_,rfl⟩
         have V:=Kh hI;have O:=Kh oL;have bE:=Kh oI;clear hI oL oI rU;by_cases hlj:j<I
         ·have yO:(j:Int)<(I:Int):=by omega
          have hH:(some gb:Option Nat)≠some g:=λe=>by injection e with e;exact oC.1 e
          have y0:=O.1.cell (nQ.1.at_ 0 rfl) hH;have y1:=O.1.cell (nQ.1.at_ 1 rfl) hH;have y2:=O.1.cell (nQ.1.at_ 2 rfl) hH;have y3:=O.1.cell (nQ.1.at_ 3 rfl) hH;obtain⟨s7,p7,n7,c7,t7,q7,m7,d7,a0,a1,a2,a3,uD⟩:=(vM.1.i32 (λ_=>IsQ.solid _) bE.1 O.1 oD.1).val j hlj;obtain⟨s5,p5,n5,c5,t5,q5,m5,d5,e0,e1,e2,e3,uC⟩:=addQ.elem V.1 hlj;have uX:=Kh (show Qs we s5 p5 n5 c5 t5 q5 m5 d5 (A j)from uC);have uY:=Kh (show Qs we s7 p7 n7 c7 t7 q7 m7 d7 (Y j)from uD);have rS:=Kh (rR.1.i32 bE.1);have uU:=Kh (uV.1 j hlj)
          have vP:=Kh (show hq (z*Y j)<=140000 by
           have h7:=Ce z (Y j);have h8:=sV.1;have h9:=sS.1 j hlj;omega)
          have vH:=Kh (λw1 (E:Below we.heap.size we w1)=>Co s6 p6 n6 c6 t6 q6 m6 d6 z s7 p7 n7 c7 t7 q7 m7 d7 (Y j) w1 (rS.1.keep E) (uY.1.keep E) (by have:=sV.1;omega) (by have:=sS.1 j hlj;omega));have gA:=V.1;have yR:=oD.1;have yS:=oC.1;have yT:g<we.heap.size:=gA.sts.1;clear uD uC hH;go_upto_region 28 with(fail)
          refine Lg (λW=>W.cell? ⟨gb,0,none⟩=some (.bool s6)/\W.cell? ⟨gb,1,none⟩=some (.slice p6 n6 c6)/\W.cell? ⟨gb,2,none⟩=some (.bool t6)/\W.cell? ⟨gb,3,none⟩=some (.slice q6 m6 d6)/\W.cell? ⟨gx,j*4,none⟩=some (.bool s7)/\W.cell? ⟨gx,j*4+1,none⟩=some (.slice p7 n7 c7)/\W.cell? ⟨gx,j*4+2,none⟩=some (.bool t7)/\W.cell? ⟨gx,j*4+3,none⟩=some (.slice q7 m7 d7)/\W.cell? ⟨g,j*4,none⟩=some (.bool s5)/\W.frozen? ⟨g,j*4,none⟩=false/\W.cell? ⟨g,j*4+1,none⟩=some (.slice p5 n5 c5)/\W.frozen? ⟨g,j*4+1,none⟩=false/\W.cell? ⟨g,j*4+2,none⟩=some (.bool t5)/\W.frozen? ⟨g,j*4+2,none⟩=false/\W.cell? ⟨g,j*4+3,none⟩=some (.slice q5 m5 d5)/\W.frozen? ⟨g,j*4+3,none⟩=false) (λW E=>⟨Av E y0,Av E y1,Av E y2,Av E y3,Av E a0,Av E a1,Av E a2,Av E a3,Av E e0,Ab E (by rw[e0];rfl) (gA.free _ (by omega)),Av E e1,Ab E (by rw[e1];rfl) (gA.free _ (by omega)),Av E e2,Ab E (by rw[e2];rfl) (gA.free _ (by omega)),Av E e3,Ab E (by rw[e3];rfl) (gA.free _ (by omega))⟩) (λaN hHeld0=>?_);clear y0 y1 y2 y3 a0 a1 a2 a3 e0 e1 e2 e3 gA;refine Ap 0 ?_;refine Ap 1 ?_;refine Ap 2 ?_;refine Ap 3 ?_;refine Ap 4 ?_;refine Ap 5 ?_;refine Ap 6 ?_;refine Ap 7 ?_;refine Ap 8 ?_;refine Ap 9 ?_;refine Ap 10 ?_;refine Hq 11 rfl (λK hK=>?_);focus(go_simp;refine(vH.1 _ (Below.refl _ we).drew).mono ?_;rintro e w2 ⟨⟨s3,p3,n3,c3,t3,q3,m3,d3,rfl,uE⟩,eX⟩;have gS:=Kh ((Below.refl _ we).drew.trans eX:Below we.heap.size we w2);have vS:=Kh uE;clear uE eX;(first|with_reducible refine hK.out _ _ ?_ (λhHeld1=>?_) |(go_wp2_with fail;with_reducible refine hK.out _ _ ?_ (λhHeld1=>?_))))
          focus((try dsimp only);exact aN.1 _ gS.1)
          focus(clear hK K;(try simp only[Act.put,Bn,Bp,Bo]))
          refine Hq 12 rfl (λK hK=>?_);focus(go_simp;refine(Fp s5 p5 n5 c5 t5 q5 m5 d5 (A j) s3 p3 n3 c3 t3 q3 m3 d3 (z*Y j) _ (uX.1.keep gS.1) vS.1 (by have:=uU.1;omega) (by have:=vP.1;omega)).mono ?_;rintro e w4 ⟨⟨s8,p8,n8,c8,t8,q8,m8,d8,rfl,hM⟩,cM⟩;have iL:=bt gS cM;have pX:=QRow.keep (λi=>(IsQ.solid _:Bi (addQ A Y z j i))) V.1 iL.1;have rP:=Kh (addQ.put pX hlj hM);have uZ:=Kh (show ∀v0 v1 v2 v3,wq.grownBy ((((w4.setCell ⟨g,j*4,none⟩ v0).setCell ⟨g,j*4+1,none⟩ v1).setCell ⟨g,j*4+2,none⟩ v2).setCell ⟨g,j*4+3,none⟩ v3) (some g)from λ_ _ _ _=>Dr O.1 iL.1);have H4:=Kh ((bE.1.trans (I32.below iL.1)).trans (I32.put4 pX.sts (j*4) (j*4+1) (j*4+2) (j*4+3) (.bool s8) (.slice p8 n8 c8) (.bool t8) (.slice q8 m8 d8) (NotInt.bool _) (NotInt.slice _ _ _) (NotInt.bool _)));clear hM cM pX;(first|with_reducible refine hK.out _ _ ?_ (λhHeld2=>?_) |(go_wp2_with fail;with_reducible refine hK.out _ _ ?_ (λhHeld2=>?_))))
          focus((try dsimp only);exact aN.1 _ iL.1)
          focus(clear hK K;(try simp only[Act.put,Bn,Bp,Bo]))
          refine Ap 13 ?_;refine Le 14 rfl (λK hK=>?_);go_simp
          refine hK.out _ _ ?_;clear hK K
          (try simp only[Act.put,Bn,Bp,Bo])
          all_goals clear V O bE
          all_goals go_wp2
          all_goals go_roundw
          all_goals first
           | exact⟨j+1,by omega,by go_num,rP.1,uZ.1 _ _ _ _,H4.1⟩
           |(simp[intOf];omega)
         ·obtain rfl:j=I:=by omega
          have rW:=Kh (show QRow (λq=>IsQ (A0 (F.getD q 0)+S (F.getD q 0) (i+1))) we g j j from V.1.congr (λq hq=>by
           unfold addQ;rw[if_pos hq,sF.1,sH.1,<-uT.1,<-vR.1];congr 1;grind))
          have rI:=Kh ((cG.1.trans (Ag g oV.1)).trans O.1);have rK:=Kh ((oT.1.trans (I32.below oV.1)).trans bE.1);clear V O bE;go_wp2;go_roundw
          case rel=>exact⟨i+1,by omega,by go_num,rW.1,rI.1,rK.1⟩
          case measure=>simp[intOf];omega
      ·obtain rfl:i=wt+1:=by omega
       have gU:=Kh (show QRow (λj=>IsQ (N4 Q n wt D X ch (F.getD j 0) (k+1))) wi g I I from J.1.congr (λj _=>by rw[pB.1]));go_wp2;go_roundw
       case rel=>exact⟨k1,.inr (by have:=oZ.1;omega),by first|rfl|go_num,by rw[<-oZ.1];exact gU.1,rE.1⟩
       case measure=>have:=oZ.1;simp[intOf];omega
    ·have eY:k=K - 1:=by have:=vF.1;omega
     have gU:=Kh (show QRow (λj=>IsQ (N4 Q n wt D X ch (F.getD j 0) (K - 1))) wk g I I from by rw[<-eY];exact J.1);have wL:¬((k:Int)+1<(K:Int)):=by omega
     clear eY;go_wp2
     (first|go_ret2|go_ret)
     exact⟨⟨g,rfl,sO.1,gU.1⟩,hD.1⟩
end
section
open Go.RowKit Tryz
theorem Wq (n:Int) (w:World):Calls prog 195 #[.int .i64 n] w λe w'=>e=.returned (.bool (Hp n))/\w'=w:=by
 go_enter func195,ntmps195
 go_wp2;all_goals (go_ret;exact⟨Cx (by rw[Bool.eq_iff_iff];simp[Hp];omega),rfl⟩)
theorem Fb:(prog.info? 47).map (λi=>(i.zero,i.size,i.bytes))=some (some (.agg #[.int .i64 0,.int .i64 0]),2,16):=by kernel_rfl
theorem int_i64 (n:Int):NotU32 (.int .i64 n):=λ_ h=>by cases h
theorem Yt:∀u∈(Value.int .i64 0).cells.toList,NotU32 u:=by
 intro u E;simp[Value.cells]at E;subst E;exact int_i64 _
theorem St:∀u∈(Value.agg #[.int .i64 0,.int .i64 0]).cells.toList,NotU32 u:=by
 intro u E;simp[Value.cells]at E;subst E;exact int_i64 _
theorem eC (a b:Int):∀u∈[Value.int .i64 a,.int .i64 b],NotU32 u:=by
 intro u E;simp at E;rcases E with rfl|rfl <;> exact int_i64 _
theorem eD (a b:Int):∀u∈[Value.int .i64 a,.int .i64 b],u.oneCell'=true:=by
 intro u E;simp at E;rcases E with rfl|rfl <;> rfl
theorem Su (a:Int):∀u∈[Value.int .i64 a],NotU32 u:=by
 intro u E;simp at E;subst E;exact int_i64 _
theorem Sv (a:Int):∀u∈[Value.int .i64 a],u.oneCell'=true:=by
 intro u E;simp at E;subst E;rfl
theorem Qm (w:World):
  Calls prog 157 #[.agg #[.int .i64 1,.int .i64 0]] w λe w'=>e=.returned (.tuple #[.slice none 0 0,.int .i64 5])/\Below w.heap.size w w':=by
 go_enter func157,ntmps157
 go_wp2_with fail
 obtain⟨w0,J,O,E⟩:=bx1 w #[.int .i64 1,.int .i64 0] 47;rw[J];refine(Da 1 0 w0 (by omega) (by omega) (by omega) (by omega)).mono ?_;rintro e V ⟨rfl,I⟩;rw[show Al 1 0=0 by decide];have U:=O.below_ I O.lt;have Z:=U.at_ 0 rfl;have h:=U.at_ 1 rfl;have M:=Kh (E.trans (I.mono E.size));clear J O E I U;go_wp2
 (first|go_ret2|go_ret)
 exact⟨rfl,M.1⟩
theorem Yw {K:Value->Prop} {w:World} {B E sz n:Nat} {v:Value} {M:List Value} (h:OwnK K w B E sz v n M) (hn:0<n):∃g cap,v=.slice (some ⟨g,0,none⟩) n cap/\n<=cap/\cap<=9223372036854775807/\B<=g/\g<w.heap.size/\(∀i,w.frozen? ⟨g,i,none⟩=false)/\∀(j:Nat) u,M[j]?=some u->w.cell? ⟨g,j,none⟩=some u:=by
 rcases h.1.2 with⟨_,e2⟩ |⟨g,cap,cs,J,hB,hg,O,I,U,_⟩
 ·omega
 ·have V:=h.2 g (by rw[J];rfl)
  subst J;exact⟨g,cap,rfl,O,by simp only[maxLen]at I;omega,hB,V.1,λi=>Blk.free_ hg i,λj u Z=>Ai h.1 Z⟩
theorem Sz {w:World} {B g:Nat} (X:Blk w g 47 #[.int .i64 1,.int .i64 0]) (hB:B<=g):OwnK NotU32 w B 47 2 (.slice (some ⟨g,0,none⟩) 1 1) 1 [.int .i64 1,.int .i64 0]:=by
 refine⟨⟨rfl,.inr ⟨g,1,#[.int .i64 1,.int .i64 0],rfl,hB,X,nL _,by decide,rfl,rfl⟩⟩,λJ e=>?_⟩;have I:g=J:=by simpa [Value.ownBlock] using e
 subst I;exact Stk.of X (by intro v E;simp at E;rcases E with rfl|rfl <;> exact int_i64 _)
theorem Wm (w:World):
  Calls prog 112 #[.agg #[.int .i64 1,.int .i64 0]] w λe w'=>(∃v,e=.returned (.tuple #[v,.int .i64 0])/\OwnK NotU32 w' w.heap.size 47 2 v 1 [.int .i64 1,.int .i64 0])/\Below w.heap.size w w':=by
 go_enter func112,ntmps112
 go_wp2_with fail
 obtain⟨V,J,_,M,E⟩:=bx2 w #[.int .i64 1,.int .i64 0] 47 #[.int .i64 1,.int .i64 0] 47;rw[J];refine(Qm V).mono ?_;rintro e Z ⟨rfl,I⟩;have U:=Kh (Sz (B:=w.heap.size) (M.below_ I M.lt) (by omega));have O:=Kh (E.trans (I.mono E.size));clear J M E I;go_wp2
 (first|go_ret2|go_ret)
 exact⟨⟨_,rfl,U.1⟩,O.1⟩
theorem eA {P:Program} {J:Region.Mode} {I:Array Oper} {Q:Exit->Act->World->Prop} {S:World->Prop} (i:Nat) {M:Oper} {n d:Nat} {E:Array Bool} {a O:Act} {w:World} (h:wpE P J I Q S n (E.setIfInBounds i true) O w)
  (U:I[i]?=some M:=by rfl) (hS:S w:=by assumption) (hw:Region.wanted M (yielded I a.tmps)=false:=by rfl)
  (hd:M.dst=some d:=by rfl) (ha:a.put (some d) undef=O:=by(try simp only[Act.put,List.setIfInBounds_toArray,List.set_cons_zero,List.set_cons_succ]);rfl)
  (hs:Region.noSelect I=true:=by kernel_rfl) (hf:Region.free J I E i=true:=by kernel_rfl) (hr:(Region.ready J I E).contains i=true:=by kernel_rfl) (hk:Tq J I E i=true:=by kernel_rfl)
  (hQ:∀c a w,Q (.panic c) (a.put M.dst undef) w->Q (.panic c) a w:=by exact λ_ _ _ h=>h):wpE P J I Q S (n+1) E a w:=by
 subst ha;rw[<-hd]at h;obtain⟨k,ok,V,Z,h3,h4⟩:=K4 hk;exact wpE.first U V Z h4 (Region.noSelect_spec hs) hQ n E a w (Region.free_spec U hf) h3 (by simpa using hr) (.inr ⟨hw,rfl⟩) hS h
theorem Qc {P:Program} {W:World} {O:Array Oper} {rest:List Oper} {o:Oper} {a:Act} {Q:Exit->Act->World->Prop} (V:o.guard=none) (s x:Operand) (t E:TypeId)
  (ho:o.op=.call { callee:=.builtin .append,args:=#[s,x],argTypes:=#[t,t] }) {z:Value} {sz I:Nat} (hU:P.underlying t=some (.slice E))
  (J:(P.info? E).map (λi=>(i.zero,i.size,i.bytes))=some (some z,sz,I)) (q p:Option Addr) (n k c:Nat) (Z:n<=k)
  (hs:a.eval s=.slice q n k) (hx:a.eval x=.slice p 0 c)
  (h:wpList P O Q rest (a.put o.dst (.slice q n k)) W):
  wpList P O Q (o :: rest) a W:=by
 obtain⟨i0,hi,bB,bC,bE⟩:=info_parts J
 have M:Src P i0.size t (.slice p 0 c) 0 [] W:=by
  cases p with
  | none=>exact Src.ofNil W hU c
  | some a=>exact Src.ofSlice W hU a 0 c [] (by simp) (λj u h=>by simp at h) (λu h=>by cases h)
 have hr:=run_append_nothing (P:=P) W t t o.type E i0 hU hi q n k Z (.slice p 0 c) M;refine wpList_plain V λK' U=>?_
 unfold Oper.wp execOp;simp only[ho,resolve,invoke,builtin,Sem.run_bind,Sem.run_pure,Result.andThen_ok,List.map_toArray,List.map_cons,List.map_nil,hs,hx,hr];exact U _ _ h
end
section
open Go.RowKit Eli
theorem QL.r4 {x y:Nat->Int} {w:World} {v:Value} {n:Nat} (h:QL (λj=>IsR (x j) (y j)) w v n):QL (λj=>IsB 4000 (x j) (y j)) w v n:=by
 rcases h with h |⟨g,o,c,V,Z,h3⟩
 ·exact .inl h
 ·exact .inr ⟨g,o,c,V,Z,λj hj=>by
   obtain⟨s,p,k,I,t,q,m,d,J,M,O,U,E⟩:=h3 j hj;exact⟨s,p,k,I,t,q,m,d,J,M,O,U,E.1,E.2.1,nM E.2.2.1 (by decide),nM E.2.2.2 (by decide)⟩⟩
theorem QL.boxed {F:Nat->FP} (hF:∀j,Bi (F j)) {w w':World} {p:Option Addr} {n c R:Nat} (h:QL F w (.slice p n c) n) (E:I32 w w') (hg:w.grownBy w' (some R)) (I:∀a,p=some a->a.block≠R):QL F w' (.slice p n c) n:=by
 rcases h with h |⟨g,o,cap,e,hlt,hq⟩
 ·exact .inl h
 ·injection e with e1 e2 e3
  subst e1;have hn:(some g:Option Nat)≠some R:=λe=>I _ rfl (by injection e)
  refine .inr ⟨g,o,c,rfl,nN hlt hg.size,λj Z=>?_⟩;obtain⟨s,p,k,c,t,q,m,d,J,M,O,U,V⟩:=hq j Z;exact⟨s,p,k,c,t,q,m,d,hg.cell J hn,hg.cell M hn,hg.cell O hn,hg.cell U hn,hF j _ _ _ _ _ _ _ _ _ _ E V⟩
theorem Yx {F:Nat->FP} {w:World} {B n:Nat} {p:Option Addr} {c:Nat} (h:OwnQ F w B (.slice p n c) n):∀a,p=some a->B<=a.block:=by
 intro a I;rcases h.row with⟨_,E⟩ |⟨g,cap,E,hB,_⟩
 ·injection E with h2
  rw[I]at h2;cases h2
 ·injection E with h2
  rw[I]at h2;injection h2 with h2
  rw[h2];exact hB
end
theorem Ko {n l:Nat} {c:Int} {L:List Nat} {f:Nat->Nat×Int} {k:Nat}:∀j,(∀i,i<j->Az n l (L.getD i 0)≠k)->E4 n l c L j f k=f k
 | 0,_=>rfl
 | j+1,h=>by
  rw[E4,P8,if_neg (λe=>h j (nO _) e.symm)];exact Ko j (λi E=>h i (by omega))
theorem Mc {n l:Nat} {c:Int} {L:List Nat} {f:Nat->Nat×Int} {k i:Nat} (I:Az n l (L.getD i 0)=k):∀j,i<j->(∀E,E<j->Az n l (L.getD E 0)=k->E=i)->E4 n l c L j f k=(i,c)
 | 0,hi,_=>absurd hi (Nat.not_lt_zero _)
 | j+1,hi,h=>by
  rw[E4,P8];by_cases e:k=Az n l (L.getD j 0)
  ·rw[if_pos e,h j (nO _) e.symm]
  ·rw[if_neg e]
   refine Mc I j ?_ (λE O M=>h E (by omega) M);have:i≠j:=λJ=>e (by rw[<-J,I])
   omega
theorem Vf {n:Nat} (hn:0<n):(pts n (n*n)).Nodup:=by
 rw[B8 hn _ (nL _)];exact List.nodup_range.filter _
theorem Bl {L:List Nat} {i:Nat} (E:i<L.length):L.getD i 0∈L:=by
 rw[List.getD_eq_getElem?_getD,List.getElem?_eq_getElem E];exact List.getElem_mem E
theorem O9 {L:List Nat} (h:L.Nodup) {i j:Nat} (E:i<L.length) (I:j<L.length) (e:L.getD i 0=L.getD j 0):i=j:=by
 rw[List.getD_eq_getElem?_getD,List.getElem?_eq_getElem E,List.getD_eq_getElem?_getD,List.getElem?_eq_getElem I]at e;exact(List.getElem_inj h).1 (by simpa using e)
theorem Hc {n i j s t:Nat} (hn:0<n) (M:i<(pts n (n*n)).length) (O:j<(pts n (n*n)).length) (Z:pun n s=true) (h:pun n t=true)
  (e:Az n s ((pts n (n*n)).getD i 0)=Az n t ((pts n (n*n)).getD j 0)):i=j/\s % n=t % n:=by
 have J:=Bl M;have mj:=Bl O;have I:=Gm J;obtain⟨r,_,_,ru,re⟩:=Hf (k:=(pts n (n*n)).getD i 0) I Z;have U:Az n (r*t) ((pts n (n*n)).getD j 0)=(pts n (n*n)).getD i 0:=by rw[<-F1 hn,<-e,re]
 have V:=Rm mj J (Jh ru h) U;have E:=O9 (Vf hn) M O V.symm;subst E;exact⟨rfl,Vd hn (Ij J).1 e⟩
theorem Ig {n:Nat} {D:Int} {j s k:Nat} (hn:0<n) (J:j<(pts n (n*n)).length) (h1:1<=s) (U:s<=n) (I:pun n s=true) (e:Az n s ((pts n (n*n)).getD j 0)=k):∀m,s<=m->m<=n->Bd n D (pts n (n*n)) m k=(j,Pl.kroP D s)
 | 0,h,_=>by omega
 | m+1,h,hm=>by
  rw[Bd];by_cases hs:s=m+1
  ·subst hs
   rw[if_pos I];exact Mc e _ J (λi O M=>(Hc hn O J I I (M.trans e.symm)).1)
  ·have E:=Ig hn J h1 U I e m (by omega) (by omega) (D:=D)
   split
   ·rename_i hu2
    rw[Ko _ (λi O M=>?_)]
    ·exact E
    ·have V:=(Hc hn O J hu2 I (M.trans e.symm)).2
     rcases Nat.lt_or_ge (m+1) n with Z|Z
     ·rw[Nat.mod_eq_of_lt Z,Nat.mod_eq_of_lt (by omega)]at V
      omega
     ·obtain rfl:m+1=n:=by omega
      rw[Nat.mod_self,Nat.mod_eq_of_lt (by omega)]at V;omega
   ·exact E
theorem U9 (u v A C:Int) (n:Nat):(u*(A % n)+v*(C % n)) % n=(u*A+v*C) % n:=by
 rw[Int.add_emod,Int.mul_emod u (A % n),Int.mul_emod v (C % n),Int.emod_emod_of_dvd A (Int.dvd_refl _),Int.emod_emod_of_dvd C (Int.dvd_refl _),<-Int.mul_emod,<-Int.mul_emod,<-Int.add_emod]
end Go.Proofs.YtenlbhlllgppmaaGreatDoor
