/- Contracts of halfplaneref40.Count and Large. -/
import Derived.Test.YtenlbhlllgppmaaGreatDoorQ25
set_option linter.unusedSimpArgs false
set_option maxRecDepth 100000
set_option maxHeartbeats 8000000
namespace Go.Proofs.YtenlbhlllgppmaaGreatDoor
section
open Go.RowKit Tryz
theorem Aj {N k D:Int} (h:Pl.check N k D=0):1<=N/\N<=120/\2<=k/\k<=24/\-120<=D/\D<=120:=by
 by_cases hr:N<1∨120<N∨k<2∨24<k∨D < -120∨120<D
 ·rw[Fa hr]at h;cases h
 ·omega
theorem Lm (n wt:Nat) (D:Int) (w:World) (U:Pl.check n ((wt:Int)+2) D=0):
  Calls prog 46 #[.agg #[.int .i64 n,.int .i64 ((wt:Int)+2),.int .i64 D]] w λe w'=>e=.returned (.tuple #[.int .i64 (((wt+1)*(pts n (n*n)).length:Nat):Int),.int .i64 0])/\Below w.heap.size w w':=by
 obtain⟨h1,h2,h3,h4,h5,h6⟩:=Aj U;have h:=Kh (λW=>Zt n W (by omega) (by omega));have aL:(pts n (n*n)).length<=14400:=kU (B6 n (n*n)) (by have:n*n<=120*120:=Nat.mul_le_mul (by omega) (by omega);omega);obtain⟨P,hP⟩:∃P,(pts n (n*n)).length=P:=⟨_,rfl⟩
 rw[hP]at h aL ⊢;obtain⟨C,hC⟩:∃C,(wt+1)*P=C:=⟨_,rfl⟩
 have cF:C<=331200:=by rw[<-hC];exact Nat.mul_le_mul (by omega:wt+1<=23) aL
 obtain⟨W1,aJ⟩:∃x,wt+1=x:=⟨_,rfl⟩
 have v0:IntKind.i64.wrap ((wt:Int)+2 - 1)=(W1:Nat):=by rw[show(wt:Int)+2 - 1=(W1:Nat)by omega];exact IntWalk.i64_in _ (by omega)
 have e1:(W1:Int)*(P:Int)=(C:Nat):=by rw[<-hC,<-aJ];push_cast;rfl
 have v1:IntKind.i64.wrap (C:Int)=(C:Nat):=IntWalk.i64_in _ (by omega);rw[hC];have bA:=Kh U;clear U hP hC aJ;go_enter func46,ntmps46
 go_wp2_with fail
 obtain⟨w0,aN,X0,J⟩:=bx1 w #[.int .i64 n,.int .i64 ((wt:Int)+2),.int .i64 D] 23;rw[aN];refine(Ll n ((wt:Int)+2) D w0).mono ?_;rintro e H ⟨rfl,O⟩;rw[bA.1];have I:=Kh (X0.below_ O X0.lt);have Z:=Kh (J.trans (O.mono J.size));obtain⟨gs,V⟩:∃x,w.heap.size=x:=⟨_,rfl⟩
 rw[V]at I ⊢;have x0:=I.1.at_ 0 rfl;have x1:=I.1.at_ 1 rfl;have cD:=Kh V;clear aN X0 J O V;have aD:=Kh (show ∀Y,Below H.heap.size H Y->(Y.cell? ⟨gs,0,none⟩=some (.int .i64 (n:Int))/\Y.cell? ⟨gs,1,none⟩=some (.int .i64 ((wt:Int)+2)))from λY hb=>⟨Ac hb x0,Ac hb x1⟩);have bY:=aD.1 _ (Below.refl _ H).drew;have bB:=Kh (show ∀wb,Below H.drew.heap.size H.drew wb->Below H.heap.size H wb from λwb hb=>(Below.refl _ H).drew.trans hb);go_upto_region 4 with(fail)
 go_region_held3 (λY=>Y.cell? ⟨gs,0,none⟩=some (.int .i64 (n:Int))/\Y.cell? ⟨gs,1,none⟩=some (.int .i64 ((wt:Int)+2)))
  (first|with_reducible exact bY|with_reducible exact aD.1 _ aK |(exfalso;assumption))
  (first
   |(go_at_call 90;with_reducible refine(h.1 _).mono ?_;rintro e w5 ⟨rfl,cA⟩;have aK:Below H.heap.size H w5:=bB.1 _ cA))
 all_goals have aX:=Kh aK
 all_goals go_wp2
 all_goals (first|go_ret2|go_ret)
 all_goals exact⟨rfl,Z.1.trans (aX.1.mono Z.1.size)⟩
theorem F6 (N k D:Int) (w:World) (O:Pl.check N k D≠0):
  Calls prog 46 #[.agg #[.int .i64 N,.int .i64 k,.int .i64 D]] w λe w'=>e=.returned (.tuple #[.int .i64 0,.int .i64 (Pl.check N k D)])/\Below w.heap.size w w':=by
 obtain⟨Y,I⟩:∃Y,Pl.check N k D=Y:=⟨_,rfl⟩
 have V:=Kh I;rw[I]at O ⊢;clear I;go_enter func46,ntmps46
 go_wp2_with fail
 obtain⟨w0,U,h,H⟩:=bx1 w #[.int .i64 N,.int .i64 k,.int .i64 D] 23;rw[U];refine(Ll N k D w0).mono ?_;rintro e w1 ⟨rfl,J⟩;have Z:=Kh (H.trans (J.mono H.size));rw[V.1];have aD:(Y != 0)=true:=by simpa using O
 clear U h H J;go_wp2
 (first|go_ret2|go_ret)
 exact⟨rfl,Z.1⟩
theorem Zp (n wt:Nat) (D:Int) (w:World) (O:Pl.check n ((wt:Int)+2) D=0):
  Calls prog 10 #[.agg #[.int .i64 n,.int .i64 ((wt:Int)+2),.int .i64 D]] w λe w'=>e=.returned (.bool (decide (72<(wt+1)*(pts n (n*n)).length)))/\Below w.heap.size w w':=by
 have I:=Kh (λW=>Lm n wt D W O);obtain⟨C,V⟩:∃C,(wt+1)*(pts n (n*n)).length=C:=⟨_,rfl⟩
 rw[V]at I ⊢;clear O V;go_enter func10,ntmps10
 go_wp2_with fail
 have H:Below w.heap.size w (w.alloc (.cells #[.int .i64 n,.int .i64 ((wt:Int)+2),.int .i64 D] 23)):=(Below.refl _ _).alloc (kT _) _;refine(I.1 _).mono ?_;rintro e Z ⟨rfl,J⟩;have U:=Kh (H.trans (J.mono H.size));clear H J;by_cases h:72<C
 ·have Y:(72:Int)<(C:Int):=by omega
  go_wp2;go_ret;exact⟨Ca (by simp[h]),U.1⟩
 ·have Y:¬((72:Int)<(C:Int)):=by omega
  go_wp2;go_ret;exact⟨Ca (by simp;omega),U.1⟩
theorem Oi (N k D:Int) (w:World) (I:Pl.check N k D≠0):
  Calls prog 10 #[.agg #[.int .i64 N,.int .i64 k,.int .i64 D]] w λe w'=>e=.returned (.bool false)/\Below w.heap.size w w':=by
 have O:=Kh (λW=>F6 N k D W I);have V:(Pl.check N k D==0)=false:=by simpa using I
 clear I;go_enter func10,ntmps10
 go_wp2_with fail
 have H:Below w.heap.size w (w.alloc (.cells #[.int .i64 N,.int .i64 k,.int .i64 D] 23)):=(Below.refl _ _).alloc (kT _) _;refine(O.1 _).mono ?_;rintro e Y ⟨rfl,J⟩;have U:=Kh (H.trans (J.mono H.size));clear H J;go_wp2;go_ret;exact⟨rfl,U.1⟩
end
section
open Go.RowKit Eli Tryz
theorem W0 (D:Int) (l:Nat):Pl.kroP D l=0∨Pl.kroP D l=1∨Pl.kroP D l=-1:=by
 have h:-1<=Pl.kroP D l/\Pl.kroP D l<=1:=by
  unfold Pl.kroP;dsimp only;split
  ·omega
  ·have h:=Qz (l / 2 ^ Lib.ctz 64 l+1) (D % (l / 2 ^ Lib.ctz 64 l:Nat)).toNat (l / 2 ^ Lib.ctz 64 l) 1 (.inl rfl)
   split <;> omega
 omega
def Iv (n wt:Nat) (D:Int) (p:Nat):Int:=Ks n wt D (p / ((wt+1)*(pts n (n*n)).length)) (p % ((wt+1)*(pts n (n*n)).length))
def cntF (n wt:Nat):Nat:=(wt+1)*(pts n (n*n)).length
def Cb (n wt:Nat) (D:Int):Nat->List (Nat×Rat):=elim (cntF n wt) (Bv (cntF n wt) (Iv n wt D)) (2*cntF n wt)
theorem Eu {n wt:Nat} {D:Int} (H:wt<=22) (p:Nat):(Iv n wt D p).natAbs<=16777216:=Rc (Fi (W0 D) n) H _ _
theorem Gz {n wt:Nat} {D:Int} (H:wt<=22):Eli.Good (cntF n wt) 16777216 (Cb n wt D):=Eli.Good.elim (by omega) (Cv (Eu H)) (Dl _ _) _
theorem Yc {n:Nat} (O:0<n):0<(pts n (n*n)).length:=by
 have H:∀a,a<n*n->E4 n a=true->Fj n a=true->0<(pts n (n*n)).length:=by
  intro a I J U;refine List.length_pos_of_mem (a:=a) ?_;rw[B5 O _ (kT _),List.mem_filter];exact⟨List.mem_range.2 I,by rw[J,U];rfl⟩
 rcases Nat.eq_or_lt_of_le (show 1<=n from O)with rfl|h
 ·exact H 0 (by omega) (by decide) (by decide)
 ·have I:1<n*n:=kV h (Nat.le_mul_of_pos_left n O)
  have Y:1 / n=0:=Nat.div_eq_of_lt h;have Z:1 % n=1:=Nat.mod_eq_of_lt h;refine H 1 I ?_ ?_
  ·unfold E4;rw[Y,Z];simp
  ·rw[Cl]
   intro s J U V
   have h5:s≠n:=λe=>by
    subst e;unfold pun at V;simp only[beq_iff_eq,Nat.gcd_self]at V;omega
   unfold Az;rw[Y,Z,Nat.mul_zero,Nat.zero_mod,Nat.zero_mul,Nat.zero_add,Nat.mul_one,Nat.mod_eq_of_lt (by omega)];exact J
theorem Oz {n wt:Nat} (H:0<n):0<cntF n wt:=Nat.mul_pos (by omega) (Yc H)
theorem gE (n wt:Nat) (D:Int) (w:World) (J:Tab w) (H:Pl.check n ((wt:Int)+2) D=0) (I:cntF n wt<=72):
  Calls prog 11 #[.agg #[.int .i64 n,.int .i64 ((wt:Int)+2),.int .i64 D]] w λe w'=>(∃M,e=.returned (.tuple #[.pointer (some ⟨M,0,none⟩),.int .i64 0])/\(w.heap.size<=M/\∀v g,w'.cell? ⟨M,3,none⟩=some v->v.ownBlock=some g->w.heap.size<=g)/\ModAt w' M w'.heap.size n ((wt:Int)+2) D (frs (Cb n wt D) (cntF n wt)) (cntF n wt) (Bk (Cb n wt D) (cntF n wt) (cntF n wt)))/\Below w.heap.size w w':=by
 obtain⟨V,Y,Z,h,h5,h6⟩:=Aj H;exact Vp n ((wt:Int)+2) D (2*cntF n wt) (cntF n wt) (Iv n wt D) w (λU O=>Ju n wt D (pts n (n*n)) (cntF n wt) U (J.below O) (by omega) (by omega) (by omega) (by omega) (by omega) H (W0 D) rfl rfl (Oz (by omega)) I) (by omega) (Oz (by omega)) I (Eu (by omega))
theorem Qu {n wt:Nat} {D:Int} (V:wt<=22) (J:cntF n wt<=72) {j f:Nat} (U:j<cntF n wt) (O:f∈frs (Cb n wt D) (cntF n wt)):hq (Bk (Cb n wt D) (cntF n wt) (cntF n wt) j f)<=80:=by
 obtain⟨H,I⟩:=G1.1 O;exact kU (O1 (by omega) (Gz V) (by omega) (kT _) U H I) (Ny J (kT _))
theorem dL:frs (Cb 1 2 1) (cntF 1 2)=[2]:=by decide +kernel
theorem dK:cntF 1 2=3:=by decide +kernel
theorem Oa:Pl.check ((1:Nat):Int) (((2:Nat):Int)+2) 1=0:=by decide +kernel
end
section
open Go.RowKit Tryz
theorem Vq (n wt:Nat) (D:Int) (i:Nat) (u v:Int) (w:World) (hT:Tab w) (aT:Pl.check n ((wt:Int)+2) D=0) (hi:i<=wt) (hs:(Ao n D u v).2≠0):
  Calls prog 115 #[.agg #[.int .i64 n,.int .i64 ((wt:Int)+2),.int .i64 D],.agg #[.int .i64 i,.int .i64 u,.int .i64 v]] w λe w'=>e=.returned (.tuple #[.int .i64 ((i*(pts n (n*n)).length+(Ao n D u v).1:Nat):Int),.int .i64 (Ao n D u v).2,.int .i64 0])/\Below w.heap.size w w':=by
 obtain⟨h1,h2,h3,h4,h5,h6⟩:=Aj aT;have cD:(pts n (n*n)).length<=14400:=kU (B6 n (n*n)) (by have:n*n<=120*120:=Nat.mul_le_mul (by omega) (by omega);omega);have U:=Kh (λW (hb:Below w.heap.size w W)=>Gf n wt D W (hT.below hb) (by omega) (by omega) (by omega) (by omega) (by omega) aT);have O:=Kh (λT B W h hB=>cO T B n wt (pts n (n*n)) (Bb n D (pts n (n*n)) n) u v W h hB (by omega) (by omega))
 have aL:=Kh (show(Ao n D u v).1<(pts n (n*n)).length from by
  rcases Fi (W0 D) n ((u % n).toNat*n+(v % n).toNat)with h|h
  ·exact absurd (by unfold Ao;rw[h]) hs
  ·exact h.1)
 obtain⟨pc,aU⟩:∃p,Ao n D u v=p:=⟨_,rfl⟩
 have aK:Bb n D (pts n (n*n)) n ((u % n).toNat*n+(v % n).toNat)=pc:=aU;rw[aK]at O;rw[aU]at hs aL ⊢;obtain⟨L,hL⟩:∃L,pts n (n*n)=L:=⟨_,rfl⟩
 rw[hL]at U O aL cD ⊢;obtain⟨f,hf⟩:∃f,Bb n D L n=f:=⟨_,rfl⟩
 rw[hf]at U O;have hX:wt<=22:=by omega
 have hW:(pc.2==0)=false:=by rw[beq_eq_false_iff_ne];exact hs
 obtain⟨iL,aJ⟩:∃x,i*L.length=x:=⟨_,rfl⟩
 have e1:(i:Int)*(L.length:Int)=(iL:Nat):=by rw[<-aJ];push_cast;rfl
 have Y:iL<=22*14400:=by rw[<-aJ];exact Nat.mul_le_mul (by omega) cD
 have hV:pc.1<14400:=by have:=aL.1;omega
 rw[aJ];have HS:=Kh hs;clear hT aT h1 h2 h3 h4 h5 h6 hs aU aK hL hf aJ;have gL:¬((i:Int)<0):=by omega
 have hS:decide ((i:Int)<0)=false:=decide_eq_false gL;have gN:¬((wt:Int)<(i:Int)):=by omega
 have hU:decide ((wt:Int)<(i:Int))=false:=decide_eq_false gN;go_enter func115,ntmps115
 go_wp2_with fail
 obtain⟨w0,cG,_,XB,V⟩:=bx2 w #[.int .i64 n,.int .i64 ((wt:Int)+2),.int .i64 D] 23 #[.int .i64 i,.int .i64 u,.int .i64 v] 180;rw[cG];refine(U.1 w0 V).mono ?_;rintro e w1 ⟨⟨T,rfl,aX⟩,Y⟩;have J:=XB.below_ Y XB.lt;have x0:=J.at_ 0 rfl;have x1:=J.at_ 1 rfl;have x2:=J.at_ 2 rfl;have t1:=aX.c1;have cA:=Kh aX;have cB:=Kh J;have bA:=Kh (V.trans (Y.mono V.size));clear cG XB V Y aX J U;go_upto_region 4 with(fail)
 go_quiet (fail)
 have H:Below w1.heap.size w1 (w1.drewN nq):=Aa (Below.refl _ _) nq;generalize w1.drewN nq=w2 at H ⊢;have aN:=Kh (cA.1.keep (kT _) H);have I:=Kh (bk cB H);have bB:=bt bA H;have bE:=Kh H.size;clear x0 x1 x2 t1 H cB bA cA;have x0:=I.1.at_ 0 rfl;have x1:=I.1.at_ 1 rfl;have x2:=I.1.at_ 2 rfl;go_wp2_with fail
 refine(O.1 T w1.heap.size w2 aN.1 bE.1).mono ?_;rintro e w3 ⟨rfl,Z⟩;have bY:=Kh (aN.1.keep bE.1 Z);have cC:=Kh (bk I Z);have bC:=bt bB Z;clear x0 x1 x2 Z I bB aN;go_upto_region 7 with(fail)
 obtain⟨w4,cT,X4,aD⟩:=bx1 w3 #[.int .i64 (pc.1:Int),.int .i64 pc.2] 215;rw[cT];have y0:=X4.at_ 0 rfl;have y1:=X4.at_ 1 rfl;have x0:=(bk cC aD).at_ 0 rfl;obtain⟨pl,cl,t2,_⟩:=bY.1.c2;have t2:=Ac aD t2;have dY:=bt bC aD;clear cT X4 aD cC bC bY;go_upto_region 9 with(fail)
 go_quiet (fail)
 have eP:=Kh (show Below w.heap.size w (w4.drewN nq)from Aa dY.1 nq);go_wp2;go_ret3
 exact⟨by push_cast;rfl,eP.1⟩
def Ak (x y:Int×Int):(Int×Int)×(Int×Int):=if y.1*x.2 - x.1*y.2=1 then((y.1,x.1),(y.2,x.2))else((y.1,-x.1),(y.2,-x.2))
theorem eD (a b c d:Int) (w:World) (ha:-1073741824<=a) (V:a<=1073741824) (hb:-1073741824<=b) (Y:b<=1073741824) (hc:-1073741824<=c) (Z:c<=1073741824) (hd:-1073741824<=d) (aD:d<=1073741824)
  (J:c*b - a*d=1∨c*b - a*d=-1):
  Calls prog 114 #[.agg #[.int .i64 a,.int .i64 b],.agg #[.int .i64 c,.int .i64 d]] w λe w'=>e=.returned (.tuple #[.agg #[.int .i64 (Ak (a,b) (c,d)).1.1,.int .i64 (Ak (a,b) (c,d)).1.2,.int .i64 (Ak (a,b) (c,d)).2.1,.int .i64 (Ak (a,b) (c,d)).2.2],.bool true])/\Below w.heap.size w w':=by
 have O:=mul_b hc Z hb Y;have U:=mul_b ha V hd aD;obtain⟨cb,I⟩:∃x,c*b=x:=⟨_,rfl⟩
 obtain⟨ad,H⟩:∃x,a*d=x:=⟨_,rfl⟩
 rcases J with h|h
 ·rw[show Ak (a,b) (c,d)=((c,a),(d,b))by unfold Ak;rw[if_pos h]]
  rw[I]at h O;rw[H]at h U;go_enter func114,ntmps114
  go_wp2;try simp only[Exit.inBlock,Exit.then]
  refine bodyPost_ret (by simp[results,results114,go_sem];try rfl) rfl ?_;exact⟨rfl,((((Below.refl _ w).alloc (kT _) _).alloc (by simp) _).alloc (by simp;omega) _).alloc (by simp;omega) _⟩
 ·rw[show Ak (a,b) (c,d)=((c,-a),(d,-b))by unfold Ak;rw[if_neg (by show ¬(c*b - a*d=1);omega)]]
  rw[I]at h O;rw[H]at h U;go_enter func114,ntmps114
  go_wp2;try simp only[Exit.inBlock,Exit.then]
  refine bodyPost_ret (by simp[results,results114,go_sem];try rfl) rfl ?_;exact⟨rfl,((((Below.refl _ w).alloc (kT _) _).alloc (by simp) _).alloc (by simp;omega) _).alloc (by simp;omega) _⟩
end
section
open Go.RowKit Eli Tryz
def bP (Q:Nat->Rat) (n wt:Nat) (D:Int) (X:Nat->Nat->Rat) (a b:Int×Int) (f i:Nat):Rat:=
 subst Q wt (Ak a b).1.1 (Ak a b).1.2 (Ak a b).2.1 (Ak a b).2.2 (wt+1) i*((Ao n D (Ak a b).2.1 (Ak a b).2.2).2:Rat)*X (i*(pts n (n*n)).length+(Ao n D (Ak a b).2.1 (Ak a b).2.2).1) f
def U5 (Q:Nat->Rat) (n wt:Nat) (D:Int) (X:Nat->Nat->Rat) (a b:Int×Int) (f i:Nat):Rat:=sumQ (bP Q n wt D X a b f) i
def N4 (Q:Nat->Rat) (n wt:Nat) (D:Int) (X:Nat->Nat->Rat) (ch:List (Int×Int)) (f k:Nat):Rat:=sumQ (λj=>U5 Q n wt D X (ch.getD j (0,0)) (ch.getD (j+1) (0,0)) f (wt+1)) k
theorem Tw (M B n wt:Nat) (D:Int) (F:List Nat) (C:Nat) (X:Nat->Nat->Rat) (ch:List (Int×Int)) (gc oc cc:Nat) (v:Value) (x y:Nat->Int) (w:World) (hT:Tab w) (nN:Pl.check n ((wt:Int)+2) D=0) (rK:cntF n wt=C) (hF:F.length<=72)
  (gA:ModAt w M B n ((wt:Int)+2) D F C X) (hB:B<=w.heap.size) (hX:∀j f,j<C->f∈F->hq (X j f)<=10000) (hp:QL (λj=>IsB 4000 (x j) (y j)) w v (wt+1)) (lO:gc<w.heap.size) (rT:ch.length<=130)
  (lM:∀k c,ch[k]?=some c->w.cell? ⟨gc,oc+k*2,none⟩=some (.int .i64 c.1)/\w.cell? ⟨gc,oc+k*2+1,none⟩=some (.int .i64 c.2)/\(-1073741824<=c.1/\c.1<=1073741824/\-1073741824<=c.2/\c.2<=1073741824))
  (rW:∀k a b,ch[k]?=some a->ch[k+1]?=some b->(b.1*a.2 - a.1*b.2=1∨b.1*a.2 - a.1*b.2=-1)/\(Ao n D (Ak a b).2.1 (Ak a b).2.2).2≠0):
  Calls prog 66 #[.pointer (some ⟨M,0,none⟩),v,.slice (some ⟨gc,oc,none⟩) ch.length cc] w λe w'=>(∃g,e=.returned (.tuple #[.slice (some ⟨g,0,none⟩) F.length F.length,.int .i64 0])/\w.heap.size<=g/\QRow (λj=>IsQ (N4 (λi=>Rat.divInt (x i) (y i)) n wt D X ch (F.getD j 0) (ch.length - 1))) w' g F.length F.length)/\Below w.heap.size w w':=by
 obtain⟨h1,h2,h3,h4,h5,h6⟩:=Aj nN;have wW:wt<=22:=by omega
 obtain⟨Q,hQ⟩:∃Q:Nat->Rat,(λi=>Rat.divInt (x i) (y i))=Q:=⟨_,rfl⟩
 have HQ:=Kh hQ
 have pN:=Kh (show ∀i,i<wt+1->hq (Q i)<=4000 from λi hi=>by
  obtain⟨_,_,_,_,hr⟩:=hp.resolve_left (λh=>by omega);obtain⟨_,_,_,_,_,_,_,_,_,_,_,_,h5,h6,h7,h8⟩:=hr.2 i hi;rw[<-hQ];exact Kf (by decide) (kU h5.size h7) (kU h6.size h8))
 rw[hQ];have pY:=Kh (λW (H:Below w.heap.size w W)=>Ge M B n ((wt:Int)+2) D F C X W (gA.keep hB H) (kU hB H.size));have mT:=Kh (λW (H:Below w.heap.size w W)=>Ln M B n ((wt:Int)+2) D F C X W (gA.keep hB H));have tN:=Kh (λW a b c d (H:Below w.heap.size w W) (ha:-1073741824<=a) (uD:a<=1073741824) (hO:-1073741824<=b) (uE:b<=1073741824) (hc:-1073741824<=c) (uF:c<=1073741824) (hd:-1073741824<=d) (uG:d<=1073741824)=>Ou 4000 (by decide) (by decide) v (wt+1) x y a b c d W (hp.keep (λ_=>IsB.solid _ _ _) H) (by omega) (by omega) ha uD hO uE hc uF hd uG);have tF:=Kh (λW i u z (H:Below w.heap.size w W) (hi:i<=wt) (hs:(Ao n D u z).2≠0)=>Vq n wt D i u z W (hT.below H) nN hi hs);have pS:=Kh (λW i (H:Below w.heap.size w W) (hi:i<C)=>Vu M B n ((wt:Int)+2) D F C X i W (gA.keep hB H) hi (by omega) (λf hf=>kU (hX i f hi hf) (by omega)))
 have mZ:=Kh (show ∀u z,(Ao n D u z).2≠0->(Ao n D u z).1<(pts n (n*n)).length/\-1<=(Ao n D u z).2/\(Ao n D u z).2<=1 from λu z hs=>by
  rcases Fi (W0 D) n ((u % n).toNat*n+(z % n).toNat)with h|h
  ·exact absurd (by unfold Ao;rw[h]) hs
  ·exact⟨h.1,by unfold Ao;omega,by unfold Ao;omega⟩)
 have nF:=Kh (show ∀j i,j<C->i<F.length->hq (X j (F.getD i 0))<=10000 from λj i hj hi=>hX j _ hj (by rw[List.getD_eq_getElem?_getD,List.getElem?_eq_getElem hi];exact List.getElem_mem hi));obtain⟨L,hL⟩:∃L,(pts n (n*n)).length=L:=⟨_,rfl⟩
 have HL:=Kh hL;have pE:=Kh (show(wt+1)*L=C by rw[<-rK,<-hL];rfl);rw[hL]at mZ;have pD:=Kh (show ∀W,Below w.heap.size w W->∀k c,ch[k]?=some c->W.cell? ⟨gc,oc+k*2,none⟩=some (.int .i64 c.1)/\W.cell? ⟨gc,oc+k*2+1,none⟩=some (.int .i64 c.2)from λW H k c hk=>⟨(H.cell (p:=⟨gc,oc+k*2,none⟩) lO).trans (lM k c hk).1,(H.cell (p:=⟨gc,oc+k*2+1,none⟩) lO).trans (lM k c hk).2.1⟩);have lC:=Kh (show ∀(k:Nat) (c:Int×Int),ch[k]?=some c->-1073741824<=c.1/\c.1<=1073741824/\-1073741824<=c.2/\c.2<=1073741824 from λk c hk=>(lM k c hk).2.2);have qA:=Kh rW;have vY:=Kh lO
 obtain⟨pv,cv,tZ⟩:∃p c,v=.slice p (wt+1) c:=by
  obtain⟨_,_,_,e',_⟩:=hp.resolve_left (λh=>by omega);exact⟨_,_,e'⟩
 obtain⟨I,nJ⟩:∃I,F.length=I:=⟨_,rfl⟩
 rw[nJ]at hF mT pS nF ⊢
 have qF:=Kh (show ∀k a b i j,ch[k]?=some a->ch[k+1]?=some b->i<wt+1->j<I->hq (bP Q n wt D X a b (F.getD j 0) i)<=140000 from λk a b i j ha H hi hj=>by
  obtain⟨a1,a2,a3,a4⟩:=lC.1 k a ha;obtain⟨b1,b2,b3,b4⟩:=lC.1 (k+1) b H;obtain⟨p1,p2,p3⟩:=mZ.1 _ _ (qA.1 k a b ha H).2
  have rS:i*L+(Ao n D (Ak a b).2.1 (Ak a b).2.2).1<C:=by
   rw[<-pE.1];have h7:=Nat.mul_le_mul_right L (show i+1<=wt+1 by omega);rw[Nat.succ_mul]at h7;omega
  have wR:hq (subst Q wt (Ak a b).1.1 (Ak a b).1.2 (Ak a b).2.1 (Ak a b).2.2 (wt+1) i)<=123880:=by
   refine Cs (K:=4000) (λq hq=>pN.1 q hq) (Dd ?_ ?_) (Dd ?_ ?_) (Dd ?_ ?_) (Dd ?_ ?_) (by omega) (by omega) <;>(unfold Ak;split <;>(dsimp only;omega))
  have nV:hq (((Ao n D (Ak a b).2.1 (Ak a b).2.2).2:Int):Rat)<=1:=by
   rw[Gj];have:nd ((Ao n D (Ak a b).2.1 (Ak a b).2.2).2).natAbs<=1:=Be.2 (by omega);omega
  have wS:=nF.1 _ j rS hj;have h7:=Cc (subst Q wt (Ak a b).1.1 (Ak a b).1.2 (Ak a b).2.1 (Ak a b).2.2 (wt+1) i*((Ao n D (Ak a b).2.1 (Ak a b).2.2).2:Rat)) (X (i*L+(Ao n D (Ak a b).2.1 (Ak a b).2.2).1) (F.getD j 0));have h8:=Cc (subst Q wt (Ak a b).1.1 (Ak a b).1.2 (Ak a b).2.1 (Ak a b).2.2 (wt+1) i) ((Ao n D (Ak a b).2.1 (Ak a b).2.2).2:Rat);unfold bP;rw[HL.1];omega)
 have pZ:=Kh (show ∀k a b i j,ch[k]?=some a->ch[k+1]?=some b->i<=wt+1->j<I->hq (U5 Q n wt D X a b (F.getD j 0) i)<=3300000 from λk a b i j ha H hi hj=>by
  have h7:=Dm (bP Q n wt D X a b (F.getD j 0)) 140000 i (λq hq=>qF.1 k a b q j ha H (by omega) hj);have h8:i*(140000+1)<=23*140001:=Nat.mul_le_mul (by omega) (kT _);unfold U5;omega)
 have pJ:=Kh (show ∀k j,k+1<=ch.length->j<I->hq (N4 Q n wt D X ch (F.getD j 0) k)<=430000000 from λk j hk hj=>by
  have h7:=Dm (λj'=>U5 Q n wt D X (ch.getD j' (0,0)) (ch.getD (j'+1) (0,0)) (F.getD j 0) (wt+1)) 3300000 k (λq hq=>pZ.1 q _ _ (wt+1) j (by rw[List.getD_eq_getElem?_getD,List.getElem?_eq_getElem (show q<ch.length by omega)];rfl) (by rw[List.getD_eq_getElem?_getD,List.getElem?_eq_getElem (show q+1<ch.length by omega)];rfl) (kT _) hj);have h8:k*(3300000+1)<=130*3300001:=Nat.mul_le_mul (by omega) (kT _);unfold N4;omega)
 subst tZ;have vX:=Kh nJ;clear hT gA hX hp lM rW nN rK lO hQ hL nJ h1 h2 h3 h4 h5 h6 hB;obtain⟨K,hK⟩:∃K,ch.length=K:=⟨_,rfl⟩
 have HK:=Kh hK;rw[hK]at rT pJ ⊢;clear hK;go_enter func66,ntmps66
 have uJ:=Ir I (by omega);go_wp2_with fail
 refine(pY.1 w (Below.refl _ w)).mono ?_;rintro e w1 ⟨rfl,hO⟩;go_wp2_with fail
 obtain⟨w2,nW,X2,rN⟩:=bx1 w1 #[.int .i64 n,.int .i64 ((wt:Int)+2),.int .i64 D] 23;rw[nW];have nC:=Kh (hO.trans (rN.mono hO.size));have nV:w2.heap.size=w1.heap.size+1:=by rw[<-nW];simp
 refine(mT.1 w2 nC.1).mono ?_;rintro e w' ⟨rfl,uN⟩;obtain rfl:w2=w':=uN.symm;go_wp2_with fail
 have lH:=Kh (QRow.made (λ_=>IsQ 0) w2 I);obtain⟨wn,nX⟩:∃wn,w2.alloc (.cells (madeCells #[.bool false,.slice none 0 0,.bool false,.slice none 0 0] (I*4)) 86)=wn:=⟨_,rfl⟩
 have mR:=Kh (show Below w2.heap.size w2 wn from nX▸(Below.refl _ _).alloc (kT _) _);rw[nX]at lH ⊢;obtain⟨g,nO⟩:∃g,w1.heap.size+1=g:=⟨_,rfl⟩
 have hg:w2.heap.size=g:=nV.trans nO;rw[hg]at mR lH;try rw[hg]
 try rw[nO]
 obtain⟨gs,nR⟩:∃gs,w1.heap.size=gs:=⟨_,rfl⟩
 rw[nR]at X2;try rw[nR]
 have qN:=Kh X2;have mV:=Kh hg;have qL:=Kh (show w.heap.size<=g from hg▸nC.1.size);have qK:=Kh (show ∀W,Below g w2 W->Below w.heap.size w W from λW H=>nC.1.trans (H.mono qL.1));have tA:=Kh (show gs<g by omega);clear hO nW X2 rN nV nX nO hg nR uJ pY mT;go_loopw [28] (λi wr=>∃k:Nat,k<=I/\i=.int .i64 k/\QRow (λ_=>IsQ 0) wr g I k/\Below g w2 wr) (λi _=>I - (intOf i).toNat)
 case atStart=>exact⟨0,Nat.zero_le _,rfl,lH.1,mR.1⟩
 case round=>
  obtain⟨k,hk,rfl,U,cF⟩:=hrel;obtain⟨wi,rfl⟩:∃wi:World,wi=wr:=⟨_,rfl⟩
  have J:=Kh U;have lE:=Kh cF;have pX:=Kh (show g<=wi.heap.size from mV.1▸cF.size);clear U cF mR lH;by_cases hlt:k<I
  ·go_wp2_with fail
   refine(Ey 0 wi (by omega) (by omega)).mono ?_;rintro e w3 ⟨⟨s3,p3,n3,c3,t3,q3,m3,d3,rfl,rU⟩,gL⟩;have aU:=QRow.keep (λ_=>IsQ.solid _) J.1 gL;have tI:=Kh (QRow.set (k':=k+1) (λ_=>IsQ.solid _) aU k hlt (λ_=>IsQ 0) (IsQ.solid _) (λi h1 h2=>⟨by omega,rfl⟩) rU);have hI:=Kh (lE.1.trans (gL.mono pX.1));obtain⟨u0,wT⟩:=kX (aU.has (k*4) (by omega));obtain⟨u1,wU⟩:=kX (aU.has (k*4+1) (by omega));obtain⟨u2,hu2⟩:=kX (aU.has (k*4+2) (by omega));obtain⟨u3,wV⟩:=kX (aU.has (k*4+3) (by omega));have f0:=aU.free (k*4) (by omega);have f1:=aU.free (k*4+1) (by omega);have f2:=aU.free (k*4+2) (by omega);have f3:=aU.free (k*4+3) (by omega);clear rU gL aU J lE;go_wp2;go_roundw
   case rel=>exact⟨k+1,by omega,by go_num,tI.1,A5 hI.1⟩
   case measure=>simp[intOf];omega
  ·obtain rfl:I=k:=by omega
   have pV:=Kh (J.1.congr (G:=λj=>IsQ (N4 Q n wt D X ch (F.getD j 0) 0)) (λj _=>rfl));clear J hlt hk;go_wp2;go_loopw [11] (λkk wx=>∃k:Nat,(k=0∨k+1<=K)/\kk=.int .i64 k/\QRow (λj=>IsQ (N4 Q n wt D X ch (F.getD j 0) k)) wx g I I/\Below g w2 wx) (λkk _=>K - (intOf kk).toNat)
   case atStart=>exact⟨0,.inl rfl,rfl,pV.1,lE.1⟩
   case round=>
    obtain⟨k,hk,rfl,U,cF⟩:=hrel;obtain⟨wk,rfl⟩:∃wk:World,wk=wr:=⟨_,rfl⟩
    have J:=Kh U;have sT:=Kh cF;have hM:=Kh (qK.1 wk cF);have tL:=Kh (show g<=wk.heap.size from mV.1▸cF.size);have wM:k<=130:=by omega
    have tC:=Kh hk;clear U cF pV lE pX hk;by_cases hlt:k+1<K
    ·have uI:(k:Int)+1<(K:Int):=by omega
     have vQ:(k:Int)<(K:Int):=by omega
     obtain⟨a,ha⟩:∃a,ch[k]?=some a:=⟨_,List.getElem?_eq_getElem (by rw[HK.1];omega)⟩
     obtain⟨b,H⟩:∃b,ch[k+1]?=some b:=⟨_,List.getElem?_eq_getElem (by rw[HK.1];omega)⟩
     obtain⟨l0,l1⟩:=pD.1 wk hM.1 k a ha;obtain⟨l2,l3⟩:=pD.1 wk hM.1 (k+1) b H;obtain⟨qW,qX,qY,qZ⟩:=lC.1 k a ha;obtain⟨rA,rB,rC,rD⟩:=lC.1 (k+1) b H;obtain⟨rO,cG⟩:=qA.1 k a b ha H;have cC:=Kh (λW=>eD a.1 a.2 b.1 b.2 W qW qX qY qZ rA rB rC rD rO);have qG:=Kh (λi j (hi:i<wt+1) (hj:j<I)=>qF.1 k a b i j ha H hi hj);have lZ:=Kh (λi j (hi:i<=wt+1) (hj:j<I)=>pZ.1 k a b i j ha H hi hj);have lX:=Kh (λj (hj:j<I)=>pJ.1 k j (by omega) hj)
     have mY:=Kh (show ∀f,N4 Q n wt D X ch f (k+1)=N4 Q n wt D X ch f k+U5 Q n wt D X a b f (wt+1)from λf=>by
      unfold N4;rw[sumQ,List.getD_eq_getElem?_getD,ha,List.getD_eq_getElem?_getD,H];rfl)
     have nB:=Kh cG;have lG:=Kh (show(-1073741824<=(Ak a b).1.1/\(Ak a b).1.1<=1073741824)/\(-1073741824<=(Ak a b).1.2/\(Ak a b).1.2<=1073741824)/\(-1073741824<=(Ak a b).2.1/\(Ak a b).2.1<=1073741824)/\(-1073741824<=(Ak a b).2.2/\(Ak a b).2.2<=1073741824)from by unfold Ak;split <;>(dsimp only;omega));obtain⟨T,hT⟩:∃T:Nat->Nat->Rat,(λf i=>bP Q n wt D X a b f i)=T:=⟨_,rfl⟩
     obtain⟨S,hS⟩:∃S:Nat->Nat->Rat,(λf i=>U5 Q n wt D X a b f i)=S:=⟨_,rfl⟩
     obtain⟨A0,hA0⟩:∃A0:Nat->Rat,(λf=>N4 Q n wt D X ch f k)=A0:=⟨_,rfl⟩
     have qC:=Kh (show ∀f i,S f (i+1)=S f i+T f i from λf i=>by rw[<-hS,<-hT];rfl);have qD:=Kh (show ∀f,S f 0=0 from λf=>by rw[<-hS];rfl);have cT:=Kh (show ∀f i,T f i=subst Q wt (Ak a b).1.1 (Ak a b).1.2 (Ak a b).2.1 (Ak a b).2.2 (wt+1) i*((Ao n D (Ak a b).2.1 (Ak a b).2.2).2:Rat)*X (i*L+(Ao n D (Ak a b).2.1 (Ak a b).2.2).1) f from λf i=>by rw[<-hT,<-HL.1];rfl);have nA:=Kh (show QRow (λj=>IsQ (A0 (F.getD j 0))) wk g I I from J.1.congr (λj _=>by rw[<-hA0]));have mY:=Kh (show ∀f,N4 Q n wt D X ch f (k+1)=A0 f+S f (wt+1)from λf=>by rw[mY.1,<-hA0,<-hS])
     have sP:=Kh (show ∀i j,i<=wt+1->j<I->hq (A0 (F.getD j 0)+S (F.getD j 0) i)<=440000000 from λi j hi hj=>by
      have h7:=lX.1 j hj;have h8:=lZ.1 i j hi hj;rw[<-hA0,<-hS];have h9:=Nc (N4 Q n wt D X ch (F.getD j 0) k) (U5 Q n wt D X a b (F.getD j 0) i);dsimp only;omega)
     have aJ:=Kh (show ∀i,hq (subst Q wt (Ak a b).1.1 (Ak a b).1.2 (Ak a b).2.1 (Ak a b).2.2 (wt+1) i)<=123880 from λi=>by
      obtain⟨⟨m1,m2⟩,⟨m3,m4⟩,⟨m5,m6⟩,m7,m8⟩:=lG.1;exact Cs (K:=4000) (λq hq=>pN.1 q hq) (Dd m1 m2) (Dd m3 m4) (Dd m5 m6) (Dd m7 m8) (by omega) (by omega))
     obtain⟨p1,p2,p3⟩:=mZ.1 _ _ cG;obtain⟨MM,rL⟩:∃MM,Ak a b=MM:=⟨_,rfl⟩
     obtain⟨⟨mA,mB⟩,⟨mC,mD⟩⟩:=MM;rw[rL]at cC nB lG cT aJ p1 p2 p3;dsimp only at cC nB lG cT aJ p1 p2 p3;obtain⟨pc,nT⟩:∃pc,Ao n D mC mD=pc:=⟨_,rfl⟩
     have tH:=Kh nT;rw[nT]at cT p1 p2 p3;have tG:=Kh p1;clear ha H rO cG hT hS hA0 qW qX qY qZ rA rB rC rD J rL nT p1 qG lZ lX;obtain⟨k1,gN⟩:∃k1,k+1=k1:=⟨_,rfl⟩
     rw[gN]at l2 l3;have wN:IntKind.i64.wrap ((k:Int)+1)=(k1:Nat):=by rw[show(k:Int)+1=(k1:Nat)by omega];exact IntWalk.i64_in _ (by omega)
     have vP:(k1:Int)<(K:Int):=by omega
     have mW:=Kh gN;clear gN;have rP:g<wk.heap.size:=nA.1.sts.1;go_upto_region 11 with(fail)
     go_cut [12,13]from 43 to 55 (λvB vC wx=>∃gm,vB=.pointer (some ⟨gm,0,none⟩)/\vC=.bool true/\Blk wx gm 63 #[.int .i64 mA,.int .i64 mB,.int .i64 mC,.int .i64 mD]/\g<gm/\Below wk.heap.size wk wx)
     case first=>
      refine iW [12,15] (λW=>W.cell? ⟨gc,oc+k*2,none⟩=some (.int .i64 a.1)/\W.cell? ⟨gc,oc+k*2+1,none⟩=some (.int .i64 a.2)/\W.cell? ⟨gc,oc+k1*2,none⟩=some (.int .i64 b.1)/\W.cell? ⟨gc,oc+k1*2+1,none⟩=some (.int .i64 b.2)) (λW H=>⟨Au H l0,Au H l1,Au H l2,Au H l3⟩) (λaK hHeld0=>?_);clear l0 l1 l2 l3;refine De 0 ?_;refine De 1 ?_;refine De 2 ?_;refine De 3 ?_;refine De 4 ?_;refine De 5 ?_;refine De 6 ?_;refine De 7 ?_;refine De 8 ?_;refine iN 9 13 rfl rfl (λK hK=>?_) (λK hK=>?_)
      ·focus(go_simp;refine(cC.1 _).mono ?_;rintro e w5 ⟨rfl,bC⟩;have bA:=Kh ((Below.refl _ wk).drew.trans bC:Below wk.heap.size wk w5);clear bC;(first|with_reducible refine hK.out _ _ ?_ (λhHeld1=>?_) |(go_wp2_with fail;with_reducible refine hK.out _ _ ?_ (λhHeld1=>?_))))
       focus((try dsimp only);exact aK.1 _ bA.1)
       focus(clear hK K;(try simp only[Act.put,Br,Bt,Bs]))
       refine De 10 ?_;refine De 11 ?_;refine kL 12 ?_;refine iY 13 rfl (λK hK=>?_);focus(go_simp;refine hK.out _ _ ?_ (λhHeld2=>?_))
       focus((try dsimp only);exact aK.1 _ (bA.1.alloc bA.1.size _))
       focus(clear hK K;(try simp only[Act.put,Br,Bt,Bs]))
       refine iX 14 rfl (λK hK=>?_);go_simp
       refine hK.out _ _ ?_;clear hK K
       (try simp only[Act.put,Br,Bt,Bs])
       refine jA 15 ?_;refine iT ?_;go_wp2;go_meet
       exact⟨w5.heap.size,rfl,rfl,Blk.new w5 63 #[.int .i64 mA,.int .i64 mB,.int .i64 mC,.int .i64 mD],by have:=bA.1.size;omega,bA.1.alloc bA.1.size _⟩
      ·focus(go_simp;refine hK.out _ _ ?_ (λhHeld1=>?_))
       focus((try dsimp only);exact aK.1 _ ((Below.refl _ wk).drew.alloc (kT _) _))
       focus(clear hK K;(try simp only[Act.put,Br,Bt,Bs]))
       refine iY 9 rfl (λK hK=>?_);focus(go_simp;refine(cC.1 _).mono ?_;rintro e w5 ⟨rfl,bC⟩;have bA:=Kh (((Below.refl _ wk).drew.alloc (kT _) _).trans (bC.mono (by simp)):Below wk.heap.size wk w5);have bB:=Kh (show Blk w5 wk.heap.size 63 #[.int .i64 0,.int .i64 0,.int .i64 0,.int .i64 0]from(Blk.new wk.drew 63 #[.int .i64 0,.int .i64 0,.int .i64 0,.int .i64 0]).below_ bC (by simp));clear bC;(first|with_reducible refine hK.out _ _ ?_ (λhHeld2=>?_) |(go_wp2_with fail;with_reducible refine hK.out _ _ ?_ (λhHeld2=>?_))))
       focus((try dsimp only);exact aK.1 _ bA.1)
       focus(clear hK K;(try simp only[Act.put,Br,Bt,Bs]))
       refine De 10 ?_;refine De 11 ?_;refine kL 12 ?_;have n0:=bB.1.at_ 0 rfl;have n1:=bB.1.at_ 1 rfl;have n2:=bB.1.at_ 2 rfl;have n3:=bB.1.at_ 3 rfl;have wY:=bB.1.free_ 0;have wZ:=bB.1.free_ 1;have xA:=bB.1.free_ 2;have xB:=bB.1.free_ 3;refine iX 14 rfl (λK hK=>?_);go_simp
       refine hK.out _ _ ?_;clear hK K
       (try simp only[Act.put,Br,Bt,Bs])
       refine jA 15 ?_;refine iT ?_;go_wp2;go_meet
       exact⟨wk.heap.size,rfl,rfl,(((bB.1.set_ 0 (.int .i64 mA)).set_ 1 (.int .i64 mB)).set_ 2 (.int .i64 mC)).set_ 3 (.int .i64 mD),rP,(((bA.1.setCell (p:=⟨wk.heap.size,0,none⟩) (kT _) _).setCell (p:=⟨wk.heap.size,1,none⟩) (kT _) _).setCell (p:=⟨wk.heap.size,2,none⟩) (kT _) _).setCell (p:=⟨wk.heap.size,3,none⟩) (kT _) _⟩
     case rest=>
     obtain⟨gm,rfl,rfl,XM,rQ,cD⟩:=hcut;obtain⟨w6,rfl⟩:∃w6:World,w6=wc:=⟨_,rfl⟩
     have lF:=Kh cD;have sX:=Kh rQ;have gF:=Kh XM;have qH:=Kh (hM.1.trans (lF.1.mono hM.1.size));clear XM cD rQ cC l0 l1 l2 l3;have q0:=gF.1.at_ 0 rfl;have q1:=gF.1.at_ 1 rfl;have q2:=gF.1.at_ 2 rfl;have q3:=gF.1.at_ 3 rfl;go_wp2_with fail
     obtain⟨⟨m1,m2⟩,⟨m3,m4⟩,⟨m5,m6⟩,m7,m8⟩:=lG.1;refine(tN.1 w6 mA mB mC mD qH.1 m1 m2 m3 m4 m5 m6 m7 m8).mono ?_;rintro e w7 ⟨⟨gq,rfl,uH,hU⟩,nK⟩;rw[HQ.1,Nat.add_sub_cancel]at hU;obtain⟨SB,lK⟩:∃SB:Nat->Rat,(λi=>subst Q wt mA mB mC mD (wt+1) i)=SB:=⟨_,rfl⟩
     have qB:=Kh (show QRow (λj=>IsQ (SB j)) w7 gq (wt+1) (wt+1)from hU.congr (λj _=>by rw[<-lK]));have cT:=Kh (show ∀f i,T f i=SB i*(pc.2:Rat)*X (i*L+pc.1) f from λf i=>by rw[cT.1,<-lK]);have aJ:=Kh (show ∀i,hq (SB i)<=123880 from λi=>by rw[<-lK];exact aJ.1 i);have mX:=bt lF nK;have mE:=Kh (bk gF nK);have pC:=Kh (sT.1.trans (mX.1.mono tL.1));have nD:=Kh (qN.1.below_ (show Below w2.heap.size w2 w7 from by rw[mV.1];exact pC.1) qN.1.lt);have pQ:=Kh (show QRow (λj=>IsQ (A0 (F.getD j 0)+S (F.getD j 0) 0)) w7 g I I from(nA.1.keep (λ_=>IsQ.solid _) mX.1).congr (λj _=>by rw[qD.1,Rat.add_zero]));have sZ:=Kh (show g<gq by have:=lF.1.size;omega);have tK:=Kh (show g<=w7.heap.size by have:=mX.1.size;omega);clear uH hU nK lK nA lF gF qH qD q0 q1 q2 q3;go_wp2_with fail
     go_loopw [62] (λii wx=>∃i:Nat,i<=wt+1/\ii=.int .i64 i/\QRow (λj=>IsQ (A0 (F.getD j 0)+S (F.getD j 0) i)) wx g I I/\w7.grownBy wx (some g)/\I32 w7 wx) (λii _=>wt+1 - (intOf ii).toNat)
     case atStart=>exact⟨0,Nat.zero_le _,rfl,pQ.1,Af g (Below.refl _ _),I32.refl _⟩
     case round=>
      obtain⟨i,hi,rfl,U,nQ,rJ⟩:=hrel;obtain⟨wi,rfl⟩:∃wi:World,wi=wr:=⟨_,rfl⟩
      have J:=Kh U;have cB:=Kh nQ;have mQ:=Kh rJ;have pB:=Kh (An pC.1 nQ tK.1 (kT _));have qM:=Kh (qK.1 wi pB.1);have wJ:g<wi.heap.size:=U.sts.1;clear U nQ rJ pQ;by_cases hlt:i<wt+1
      ·have wK:(i:Int)<((wt+1:Nat):Int):=by omega
       have vO:(i:Int)<(wt:Int)+1:=by omega
       obtain⟨s1,p1,n1,c1,t1,q1,m1,d1,a0,a1,a2,a3,hx⟩:=(qB.1.i32 (λ_=>IsQ.solid _) mQ.1 cB.1 (by have:=sZ.1;omega)).val i hlt;have HP:=Kh (show Qs wi s1 p1 n1 c1 t1 q1 m1 d1 (SB i)from hx);have nS:(some gm:Option Nat)≠some g:=λe=>by injection e with e;have:=sX.1;omega
       have lQ:(some gs:Option Nat)≠some g:=λe=>by injection e with e;have:=tA.1;omega
       have c2:=cB.1.cell (mE.1.at_ 2 rfl) nS;have c3:=cB.1.cell (mE.1.at_ 3 rfl) nS;have lS:=cB.1.cell (nD.1.at_ 0 rfl) lQ;have lT:=cB.1.cell (nD.1.at_ 1 rfl) lQ;have lU:=cB.1.cell (nD.1.at_ 2 rfl) lQ;have lY:=Kh (λw1 (H:Below wi.heap.size wi w1)=>E8 s1 p1 n1 c1 t1 q1 m1 d1 (SB i) w1 (HP.1.keep H) (by have:=aJ.1 i;omega));clear hx nS lQ;go_wp2_with fail
       refine(lY.1 _ ((Below.refl _ _).alloc (kT _) _)).mono ?_;rintro e w8 ⟨⟨sg,rfl,cG⟩,nL⟩;have aL:=Kh (((Below.refl _ wi).alloc (kT _) (.cells #[.bool s1,.slice p1 n1 c1,.bool t1,.slice q1 m1 d1] 86)).trans (nL.mono (by simp)));have nY:=(Blk.new wi 86 #[.bool s1,.slice p1 n1 c1,.bool t1,.slice q1 m1 d1]).below_ nL (by simp);obtain⟨gb,nP⟩:∃x,wi.heap.size=x:=⟨_,rfl⟩
       have mU:=Kh nP;rw[nP]at nY ⊢;have qO:=Kh nY;have c2:=Ac aL.1 c2;have c3:=Ac aL.1 c3;have lS:=Ac aL.1 lS;have lT:=Ac aL.1 lT;have lU:=Ac aL.1 lU;clear nL lY a0 a1 a2 a3 nY nP;by_cases hz:SB i=0
       ·obtain rfl:sg=0:=cG.2 hz
        have hJ:=Kh (QRow.congr (G:=λj=>IsQ (A0 (F.getD j 0)+S (F.getD j 0) (i+1))) (J.1.keep (λ_=>IsQ.solid _) aL.1) (λj _=>by rw[qC.1,cT.1,hz,Rat.zero_mul,Rat.zero_mul,Rat.add_zero]));have sY:=Kh (cB.1.trans (Af g aL.1));have tB:=Kh (mQ.1.trans (I32.below aL.1));clear hz cG c2 c3 lS lT lU;go_wp2;go_roundw
        case rel=>exact⟨i+1,by omega,by go_num,hJ.1,sY.1,tB.1⟩
        case measure=>simp[intOf];omega
       ·have uM:(sg==0)=false:=by rw[beq_eq_false_iff_ne];exact λe=>hz (cG.1 e)
        obtain⟨ix,lP⟩:∃x,i*L+pc.1=x:=⟨_,rfl⟩
        have pI:=Kh (show ix<C by
         rw[<-lP,<-pE.1];have h7:=Nat.mul_le_mul_right L (show i+1<=wt+1 by omega);have h8:=tG.1;rw[Nat.succ_mul]at h7;omega)
        have pL:=Kh (λW (H:Below w.heap.size w W)=>show Calls prog 115 #[.agg #[.int .i64 n,.int .i64 ((wt:Int)+2),.int .i64 D],.agg #[.int .i64 i,.int .i64 mC,.int .i64 mD]] W λe w'=>e=.returned (.tuple #[.int .i64 (ix:Int),.int .i64 pc.2,.int .i64 0])/\Below W.heap.size W w' from by
         have h:=tF.1 W i mC mD H (by omega) nB.1;rw[HL.1,tH.1,lP]at h;exact h)
        have qE:=Kh (show ∀f,T f i=SB i*(pc.2:Rat)*X ix f from λf=>by rw[cT.1,lP]);have qI:=Kh (qM.1.trans (aL.1.mono qM.1.size));clear hz cG lP;go_wp2_with fail
        refine(pL.1 w8 qI.1).mono ?_;rintro e w9 ⟨rfl,lL⟩;have qJ:=bt qI lL;have pA:=bt aL lL;have nE:=Kh (bk qO lL);clear c2 c3 lS lT lU lL uM qO;go_wp2_with fail
        refine(pS.1 w9 ix qJ.1 pI.1).mono ?_;rintro e wd ⟨⟨gx,rfl,rR,rV⟩,nM⟩;have pW:=Kh rV;have cA:=bt pA nM;have Z:=Kh (bk nE nM);have pG:=Kh (show gb<gx from kV nE.1.lt rR);have y0:=Z.1.at_ 0 rfl;have y1:=Z.1.at_ 1 rfl;have y2:=Z.1.at_ 2 rfl;have y3:=Z.1.at_ 3 rfl;have rE:=Z.1.free_ 0;have rF:=Z.1.free_ 1;have rG:=Z.1.free_ 2;have rH:=Z.1.free_ 3;have pK:=Kh (λs5 p5 n5 c5 t5 q5 m5 d5 W (H:Below wd.heap.size wd W) (uK:Qs W s5 p5 n5 c5 t5 q5 m5 d5 ((pc.2:Int):Rat))=>Cy s1 p1 n1 c1 t1 q1 m1 d1 (SB i) s5 p5 n5 c5 t5 q5 m5 d5 ((pc.2:Int):Rat) W ((HP.1.keep cA.1).keep H) uK (by have:=aJ.1 i;omega) (by rw[Gj];have:nd pc.2.natAbs<=1:=Be.2 (by omega);omega));clear rR rV nM qJ nE pA;go_upto_region 24 with(fail)
        refine K6 (λW=>W.cell? ⟨gb,0,none⟩=some (.bool s1)/\W.frozen? ⟨gb,0,none⟩=false/\W.cell? ⟨gb,1,none⟩=some (.slice p1 n1 c1)/\W.frozen? ⟨gb,1,none⟩=false/\W.cell? ⟨gb,2,none⟩=some (.bool t1)/\W.frozen? ⟨gb,2,none⟩=false/\W.cell? ⟨gb,3,none⟩=some (.slice q1 m1 d1)/\W.frozen? ⟨gb,3,none⟩=false) (λW H=>⟨Au H y0,Ab H (by rw[y0];rfl) (rE),Au H y1,Ab H (by rw[y1];rfl) (rF),Au H y2,Ab H (by rw[y2];rfl) (rG),Au H y3,Ab H (by rw[y3];rfl) (rH)⟩) (λaK hHeld0=>?_);clear y0 y1 y2 y3 rE rF rG rH;refine Al 0 ?_;refine Al 1 ?_;refine F9 2 rfl (λK hK=>?_);focus(go_simp;refine(Ey pc.2 _ (by omega) (by omega)).mono ?_;rintro e v5 ⟨⟨s5,p5,n5,c5,t5,q5,m5,d5,rfl,sB⟩,bC⟩;have lI:=Kh ((Below.refl _ wd).drew.trans bC:Below wd.heap.size wd v5);have qQ:=Kh sB;clear sB bC;(first|with_reducible refine hK.out _ _ ?_ (λhHeld1=>?_) |(go_wp2_with fail;with_reducible refine hK.out _ _ ?_ (λhHeld1=>?_))))
        focus((try dsimp only);exact aK.1 _ lI.1)
        focus(clear hK K;(try simp only[Act.put,Br,Bt,Bs]))
        refine F9 3 rfl (λK hK=>?_);focus(go_simp;refine(pK.1 _ _ _ _ _ _ _ _ _ lI.1 qQ.1).mono ?_;rintro e v6 ⟨⟨s6,p6,n6,c6,t6,q6,m6,d6,rfl,hV⟩,cD⟩;have cX:=bt lI cD;have qR:=Kh hV;clear hV cD;(first|with_reducible refine hK.out _ _ ?_ (λhHeld2=>?_) |(go_wp2_with fail;with_reducible refine hK.out _ _ ?_ (λhHeld2=>?_))))
        focus((try dsimp only);exact aK.1 _ cX.1)
        focus(clear hK K;(try simp only[Act.put,Br,Bt,Bs]))
        refine K5 4 rfl (λK hK=>?_);go_simp
        refine hK.out _ _ ?_;clear hK K
        (try simp only[Act.put,Br,Bt,Bs])
        have XQ:=((((Z.1.below_ cX.1 Z.1.lt).set_ 0 (.bool s6)).set_ 1 (.slice p6 n6 c6)).set_ 2 (.bool t6)).set_ 3 (.slice q6 m6 d6);have mK:Sts v6 gb:=Sts.of (Z.1.below_ cX.1 Z.1.lt) (by intro v hv;simp at hv;rcases hv with rfl|rfl|rfl|rfl <;> first|exact NotInt.bool _|exact NotInt.slice _ _ _);have dY:=I32.put4 mK 0 1 2 3 (.bool s6) (.slice p6 n6 c6) (.bool t6) (.slice q6 m6 d6) (NotInt.bool _) (NotInt.slice _ _ _) (NotInt.bool _);have lN:=Gt v6 gb 0 1 2 3 (.bool s6) (.slice p6 n6 c6) (.bool t6) (.slice q6 m6 d6);obtain⟨wq,rX⟩:∃wq,((((v6.setCell ⟨gb,0,none⟩ (.bool s6)).setCell ⟨gb,1,none⟩ (.slice p6 n6 c6)).setCell ⟨gb,2,none⟩ (.bool t6)).setCell ⟨gb,3,none⟩ (.slice q6 m6 d6))=wq:=⟨_,rfl⟩
        rw[rX]at XQ dY lN ⊢;have mS:=Kh (show Below wi.heap.size wi wq from An (cA.1.trans (cX.1.mono cA.1.size)) lN (by have:=cA.1.size;have:=cX.1.size;omega) (by have:=mU.1;omega));have lJ:=Kh XQ;have pO:=Kh (qR.1.i32 dY);have pU:=Kh (((pW.1.keep (λ_=>IsQ.solid _) cX.1).i32 (λ_=>IsQ.solid _) dY lN (by have:=pG.1;omega)));obtain⟨z,hz⟩:∃z,SB i*((pc.2:Int):Rat)=z:=⟨_,rfl⟩
        rw[hz]at pO qE
        have qS:=Kh (show hq z<=125000 by
         rw[<-hz];have h7:=Cc (SB i) ((pc.2:Int):Rat);have h8:=aJ.1 i;have h9:hq ((pc.2:Int):Rat)<=1:=by rw[Gj];have:nd pc.2.natAbs<=1:=Be.2 (by omega);omega
         omega)
        obtain⟨A,hA⟩:∃A:Nat->Rat,(λj=>A0 (F.getD j 0)+S (F.getD j 0) i)=A:=⟨_,rfl⟩
        obtain⟨Y,hY⟩:∃Y:Nat->Rat,(λj=>X ix (F.getD j 0))=Y:=⟨_,rfl⟩
        have sQ:=Kh hA;have tO:=Kh hY;have sS:=Kh (show ∀j,j<I->hq (A j)<=440000000 from λj hj=>by rw[<-hA];exact sP.1 i j hi hj);have qP:=Kh (show ∀j,j<I->hq (Y j)<=10000 from λj hj=>by rw[<-hY];exact nF.1 ix j pI.1 hj);have tJ:=Kh (show QRow (λj=>IsQ (Y j)) wq gx I I from pU.1.congr (λj _=>by rw[<-hY]));have pR:=Kh (show QRow (addQ A Y z 0) wq g I I from(J.1.keep (λ_=>IsQ.solid _) mS.1).congr (λj _=>by unfold addQ;rw[if_neg (Nat.not_lt_zero j),<-hA]));have mJ:gx≠g:=by have:=pG.1;have:=mU.1;omega
        have mH:gb≠g:=by have:=mU.1;omega
        have lW:=Kh mJ;have lV:=Kh mH;clear XQ mK dY lN rX hz hA hY mJ mH aK pK lI cX qQ qR pW cA Z pU hHeld0 hHeld1 hHeld2;go_wp2_with fail
        go_loopw [100] (λjj wx=>∃j:Nat,j<=I/\jj=.int .i64 j/\QRow (addQ A Y z j) wx g I I/\wq.grownBy wx (some g)/\I32 wq wx) (λjj _=>I - (intOf jj).toNat)
        case atStart=>exact⟨0,Nat.zero_le _,rfl,pR.1,Af g (Below.refl _ _),I32.refl _⟩
        case round=>
         obtain⟨j,hj,rfl,hR,mI,mF⟩:=hrel;obtain⟨we,rfl⟩:∃we:World,we=wr:=⟨_,rfl⟩
         have V:=Kh hR;have O:=Kh mI;have aX:=Kh mF;clear hR mI mF pR;by_cases hlj:j<I
         ·have wL:(j:Int)<(I:Int):=by omega
          have hP:(some gb:Option Nat)≠some g:=λe=>by injection e with e;exact lV.1 e
          have y0:=O.1.cell (lJ.1.at_ 0 rfl) hP;have y1:=O.1.cell (lJ.1.at_ 1 rfl) hP;have y2:=O.1.cell (lJ.1.at_ 2 rfl) hP;have y3:=O.1.cell (lJ.1.at_ 3 rfl) hP;obtain⟨s7,p7,n7,c7,t7,q7,m7,d7,a0,a1,a2,a3,rZ⟩:=(tJ.1.i32 (λ_=>IsQ.solid _) aX.1 O.1 lW.1).val j hlj;obtain⟨s5,p5,n5,c5,t5,q5,m5,d5,e0,e1,e2,e3,rY⟩:=addQ.elem V.1 hlj;have sU:=Kh (show Qs we s5 p5 n5 c5 t5 q5 m5 d5 (A j)from rY);have sV:=Kh (show Qs we s7 p7 n7 c7 t7 q7 m7 d7 (Y j)from rZ);have pP:=Kh (pO.1.i32 aX.1);have sR:=Kh (sS.1 j hlj)
          have tM:=Kh (show hq (z*Y j)<=140000 by
           have h7:=Cc z (Y j);have h8:=qS.1;have h9:=qP.1 j hlj;omega)
          have tE:=Kh (λw1 (H:Below we.heap.size we w1)=>Cy s6 p6 n6 c6 t6 q6 m6 d6 z s7 p7 n7 c7 t7 q7 m7 d7 (Y j) w1 (pP.1.keep H) (sV.1.keep H) (by have:=qS.1;omega) (by have:=qP.1 j hlj;omega));have gP:=V.1;have wO:=lW.1;have wP:=lV.1;have wQ:g<we.heap.size:=gP.sts.1;clear rZ rY hP;go_upto_region 28 with(fail)
          refine K6 (λW=>W.cell? ⟨gb,0,none⟩=some (.bool s6)/\W.cell? ⟨gb,1,none⟩=some (.slice p6 n6 c6)/\W.cell? ⟨gb,2,none⟩=some (.bool t6)/\W.cell? ⟨gb,3,none⟩=some (.slice q6 m6 d6)/\W.cell? ⟨gx,j*4,none⟩=some (.bool s7)/\W.cell? ⟨gx,j*4+1,none⟩=some (.slice p7 n7 c7)/\W.cell? ⟨gx,j*4+2,none⟩=some (.bool t7)/\W.cell? ⟨gx,j*4+3,none⟩=some (.slice q7 m7 d7)/\W.cell? ⟨g,j*4,none⟩=some (.bool s5)/\W.frozen? ⟨g,j*4,none⟩=false/\W.cell? ⟨g,j*4+1,none⟩=some (.slice p5 n5 c5)/\W.frozen? ⟨g,j*4+1,none⟩=false/\W.cell? ⟨g,j*4+2,none⟩=some (.bool t5)/\W.frozen? ⟨g,j*4+2,none⟩=false/\W.cell? ⟨g,j*4+3,none⟩=some (.slice q5 m5 d5)/\W.frozen? ⟨g,j*4+3,none⟩=false) (λW H=>⟨Au H y0,Au H y1,Au H y2,Au H y3,Au H a0,Au H a1,Au H a2,Au H a3,Au H e0,Ab H (by rw[e0];rfl) (gP.free _ (by omega)),Au H e1,Ab H (by rw[e1];rfl) (gP.free _ (by omega)),Au H e2,Ab H (by rw[e2];rfl) (gP.free _ (by omega)),Au H e3,Ab H (by rw[e3];rfl) (gP.free _ (by omega))⟩) (λaK hHeld0=>?_);clear y0 y1 y2 y3 a0 a1 a2 a3 e0 e1 e2 e3 gP;refine Al 0 ?_;refine Al 1 ?_;refine Al 2 ?_;refine Al 3 ?_;refine Al 4 ?_;refine Al 5 ?_;refine Al 6 ?_;refine Al 7 ?_;refine Al 8 ?_;refine Al 9 ?_;refine Al 10 ?_;refine F9 11 rfl (λK hK=>?_);focus(go_simp;refine(tE.1 _ (Below.refl _ we).drew).mono ?_;rintro e w2 ⟨⟨s3,p3,n3,c3,t3,q3,m3,d3,rfl,sA⟩,gL⟩;have hI:=Kh ((Below.refl _ we).drew.trans gL:Below we.heap.size we w2);have tP:=Kh sA;clear sA gL;(first|with_reducible refine hK.out _ _ ?_ (λhHeld1=>?_) |(go_wp2_with fail;with_reducible refine hK.out _ _ ?_ (λhHeld1=>?_))))
          focus((try dsimp only);exact aK.1 _ hI.1)
          focus(clear hK K;(try simp only[Act.put,Br,Bt,Bs]))
          refine F9 12 rfl (λK hK=>?_);focus(go_simp;refine(Fo s5 p5 n5 c5 t5 q5 m5 d5 (A j) s3 p3 n3 c3 t3 q3 m3 d3 (z*Y j) _ (sU.1.keep hI.1) tP.1 (by have:=sR.1;omega) (by have:=tM.1;omega)).mono ?_;rintro e w4 ⟨⟨s8,p8,n8,c8,t8,q8,m8,d8,rfl,hV⟩,cD⟩;have lD:=bt hI cD;have nU:=QRow.keep (λi=>(IsQ.solid _:Bh (addQ A Y z j i))) V.1 lD.1;have pM:=Kh (addQ.put nU hlj hV);have sW:=Kh (show ∀v0 v1 v2 v3,wq.grownBy ((((w4.setCell ⟨g,j*4,none⟩ v0).setCell ⟨g,j*4+1,none⟩ v1).setCell ⟨g,j*4+2,none⟩ v2).setCell ⟨g,j*4+3,none⟩ v3) (some g)from λ_ _ _ _=>Fm O.1 lD.1);have H4:=Kh ((aX.1.trans (I32.below lD.1)).trans (I32.put4 nU.sts (j*4) (j*4+1) (j*4+2) (j*4+3) (.bool s8) (.slice p8 n8 c8) (.bool t8) (.slice q8 m8 d8) (NotInt.bool _) (NotInt.slice _ _ _) (NotInt.bool _)));clear hV cD nU;(first|with_reducible refine hK.out _ _ ?_ (λhHeld2=>?_) |(go_wp2_with fail;with_reducible refine hK.out _ _ ?_ (λhHeld2=>?_))))
          focus((try dsimp only);exact aK.1 _ lD.1)
          focus(clear hK K;(try simp only[Act.put,Br,Bt,Bs]))
          refine Al 13 ?_;refine K5 14 rfl (λK hK=>?_);go_simp
          refine hK.out _ _ ?_;clear hK K
          (try simp only[Act.put,Br,Bt,Bs])
          all_goals clear V O aX
          all_goals go_wp2
          all_goals go_roundw
          all_goals first
           | exact⟨j+1,by omega,by go_num,pM.1,sW.1 _ _ _ _,H4.1⟩
           |(simp[intOf];omega)
         ·obtain rfl:j=I:=by omega
          have pT:=Kh (show QRow (λq=>IsQ (A0 (F.getD q 0)+S (F.getD q 0) (i+1))) we g j j from V.1.congr (λq hq=>by
           unfold addQ;rw[if_pos hq,qC.1,qE.1,<-sQ.1,<-tO.1];congr 1;grind))
          have pF:=Kh ((cB.1.trans (Af g mS.1)).trans O.1);have pH:=Kh ((mQ.1.trans (I32.below mS.1)).trans aX.1);clear V O aX;go_wp2;go_roundw
          case rel=>exact⟨i+1,by omega,by go_num,pT.1,pF.1,pH.1⟩
          case measure=>simp[intOf];omega
      ·obtain rfl:i=wt+1:=by omega
       have hJ:=Kh (show QRow (λj=>IsQ (N4 Q n wt D X ch (F.getD j 0) (k+1))) wi g I I from J.1.congr (λj _=>by rw[mY.1]));go_wp2;go_roundw
       case rel=>exact⟨k1,.inr (by have:=mW.1;omega),by first|rfl|go_num,by rw[<-mW.1];exact hJ.1,pB.1⟩
       case measure=>have:=mW.1;simp[intOf];omega
    ·have gN:k=K - 1:=by have:=tC.1;omega
     have hJ:=Kh (show QRow (λj=>IsQ (N4 Q n wt D X ch (F.getD j 0) (K - 1))) wk g I I from by rw[<-gN];exact J.1);have uI:¬((k:Int)+1<(K:Int)):=by omega
     clear gN;go_wp2
     (first|go_ret2|go_ret)
     exact⟨⟨g,rfl,qL.1,hJ.1⟩,hM.1⟩
end
section
open Go.RowKit Tryz
theorem Vx (n:Int) (w:World):Calls prog 195 #[.int .i64 n] w λe w'=>e=.returned (.bool (Hq n))/\w'=w:=by
 go_enter func195,ntmps195
 go_wp2;all_goals (go_ret;exact⟨Ca (by rw[Bool.eq_iff_iff];simp[Hq];omega),rfl⟩)
theorem Fb:(prog.info? 47).map (λi=>(i.zero,i.size,i.bytes))=some (some (.agg #[.int .i64 0,.int .i64 0]),2,16):=by kernel_rfl
theorem int_i64 (n:Int):NotU32 (.int .i64 n):=λ_ h=>by cases h
theorem Xl:∀u∈(Value.int .i64 0).cells.toList,NotU32 u:=by
 intro u H;simp[Value.cells]at H;subst H;exact int_i64 _
theorem Sk:∀u∈(Value.agg #[.int .i64 0,.int .i64 0]).cells.toList,NotU32 u:=by
 intro u H;simp[Value.cells]at H;subst H;exact int_i64 _
theorem bV (a b:Int):∀u∈[Value.int .i64 a,.int .i64 b],NotU32 u:=by
 intro u H;simp at H;rcases H with rfl|rfl <;> exact int_i64 _
theorem bW (a b:Int):∀u∈[Value.int .i64 a,.int .i64 b],u.oneCell'=true:=by
 intro u H;simp at H;rcases H with rfl|rfl <;> rfl
theorem Sl (a:Int):∀u∈[Value.int .i64 a],NotU32 u:=by
 intro u H;simp at H;subst H;exact int_i64 _
theorem Sm (a:Int):∀u∈[Value.int .i64 a],u.oneCell'=true:=by
 intro u H;simp at H;subst H;rfl
theorem Qe (w:World):
  Calls prog 157 #[.agg #[.int .i64 1,.int .i64 0]] w λe w'=>e=.returned (.tuple #[.slice none 0 0,.int .i64 5])/\Below w.heap.size w w':=by
 go_enter func157,ntmps157
 go_wp2_with fail
 obtain⟨w0,J,U,H⟩:=bx1 w #[.int .i64 1,.int .i64 0] 47;rw[J];refine(C3 1 0 w0 (by omega) (by omega) (by omega) (by omega)).mono ?_;rintro e Y ⟨rfl,I⟩;rw[show Av 1 0=0 by decide];have V:=U.below_ I U.lt;have Z:=V.at_ 0 rfl;have h:=V.at_ 1 rfl;have O:=Kh (H.trans (I.mono H.size));clear J U H I V;go_wp2
 (first|go_ret2|go_ret)
 exact⟨rfl,O.1⟩
theorem Xo {K:Value->Prop} {w:World} {B E Z n:Nat} {v:Value} {J:List Value} (h:OwnK K w B E Z v n J) (hn:0<n):∃g cap,v=.slice (some ⟨g,0,none⟩) n cap/\n<=cap/\cap<=9223372036854775807/\B<=g/\g<w.heap.size/\(∀i,w.frozen? ⟨g,i,none⟩=false)/\∀(j:Nat) u,J[j]?=some u->w.cell? ⟨g,j,none⟩=some u:=by
 rcases h.1.2 with⟨_,e2⟩ |⟨g,cap,cs,I,hB,hg,O,H,U,_⟩
 ·omega
 ·have V:=h.2 g (by rw[I];rfl)
  subst I;exact⟨g,cap,rfl,O,by simp only[maxLen]at H;omega,hB,V.1,λi=>Blk.free_ hg i,λj u Y=>Aq h.1 Y⟩
theorem Sq {w:World} {B g:Nat} (X:Blk w g 47 #[.int .i64 1,.int .i64 0]) (hB:B<=g):OwnK NotU32 w B 47 2 (.slice (some ⟨g,0,none⟩) 1 1) 1 [.int .i64 1,.int .i64 0]:=by
 refine⟨⟨rfl,.inr ⟨g,1,#[.int .i64 1,.int .i64 0],rfl,hB,X,kT _,by decide,rfl,rfl⟩⟩,λJ e=>?_⟩;have I:g=J:=by simpa [Value.ownBlock] using e
 subst I;exact Stk.of X (by intro v H;simp at H;rcases H with rfl|rfl <;> exact int_i64 _)
theorem Vs (w:World):
  Calls prog 112 #[.agg #[.int .i64 1,.int .i64 0]] w λe w'=>(∃v,e=.returned (.tuple #[v,.int .i64 0])/\OwnK NotU32 w' w.heap.size 47 2 v 1 [.int .i64 1,.int .i64 0])/\Below w.heap.size w w':=by
 go_enter func112,ntmps112
 go_wp2_with fail
 obtain⟨Y,J,_,O,H⟩:=bx2 w #[.int .i64 1,.int .i64 0] 47 #[.int .i64 1,.int .i64 0] 47;rw[J];refine(Qe Y).mono ?_;rintro e Z ⟨rfl,I⟩;have V:=Kh (Sq (B:=w.heap.size) (O.below_ I O.lt) (by omega));have U:=Kh (H.trans (I.mono H.size));clear J O H I;go_wp2
 (first|go_ret2|go_ret)
 exact⟨⟨_,rfl,V.1⟩,U.1⟩
theorem bT {P:Program} {J:Region.Mode} {I:Array Oper} {Q:Exit->Act->World->Prop} {S:World->Prop} (i:Nat) {O:Oper} {n d:Nat} {H:Array Bool} {a U:Act} {w:World} (h:wpE P J I Q S n (H.setIfInBounds i true) U w)
  (V:I[i]?=some O:=by rfl) (hS:S w:=by assumption) (hw:Region.wanted O (yielded I a.tmps)=false:=by rfl)
  (hd:O.dst=some d:=by rfl) (ha:a.put (some d) undef=U:=by(try simp only[Act.put,List.setIfInBounds_toArray,List.set_cons_zero,List.set_cons_succ]);rfl)
  (hs:Region.noSelect I=true:=by kernel_rfl) (hf:Region.free J I H i=true:=by kernel_rfl) (hr:(Region.ready J I H).contains i=true:=by kernel_rfl) (hk:Tf J I H i=true:=by kernel_rfl)
  (hQ:∀c a w,Q (.panic c) (a.put O.dst undef) w->Q (.panic c) a w:=by exact λ_ _ _ h=>h):wpE P J I Q S (n+1) H a w:=by
 subst ha;rw[<-hd]at h;obtain⟨k,ok,Y,Z,h3,h4⟩:=K0 hk;exact wpE.first V Y Z h4 (Region.noSelect_spec hs) hQ n H a w (Region.free_spec V hf) h3 (by simpa using hr) (.inr ⟨hw,rfl⟩) hS h
theorem P0 {P:Program} {W:World} {O:Array Oper} {rest:List Oper} {o:Oper} {a:Act} {Q:Exit->Act->World->Prop} (V:o.guard=none) (s x:Operand) (t E:TypeId)
  (ho:o.op=.call { callee:=.builtin .append,args:=#[s,x],argTypes:=#[t,t] }) {z:Value} {sz H:Nat} (hU:P.underlying t=some (.slice E))
  (I:(P.info? E).map (λi=>(i.zero,i.size,i.bytes))=some (some z,sz,H)) (q p:Option Addr) (n k c:Nat) (Y:n<=k)
  (hs:a.eval s=.slice q n k) (hx:a.eval x=.slice p 0 c)
  (h:wpList P O Q rest (a.put o.dst (.slice q n k)) W):
  wpList P O Q (o :: rest) a W:=by
 obtain⟨Z,hi,aN,aT,aU⟩:=info_parts I
 have J:Src P Z.size t (.slice p 0 c) 0 [] W:=by
  cases p with
  | none=>exact Src.ofNil W hU c
  | some a=>exact Src.ofSlice W hU a 0 c [] (by simp) (λj u h=>by simp at h) (λu h=>by cases h)
 have hr:=run_append_nothing (P:=P) W t t o.type E Z hU hi q n k Y (.slice p 0 c) J;refine wpList_plain V λK' U=>?_
 unfold Oper.wp execOp;simp only[ho,resolve,invoke,builtin,Sem.run_bind,Sem.run_pure,Result.andThen_ok,List.map_toArray,List.map_cons,List.map_nil,hs,hx,hr];exact U _ _ h
end
section
open Go.RowKit Eli Tryz
theorem QL.r4 {x y:Nat->Int} {w:World} {v:Value} {n:Nat} (h:QL (λj=>IsR (x j) (y j)) w v n):QL (λj=>IsB 4000 (x j) (y j)) w v n:=by
 rcases h with h |⟨g,o,c,Y,Z,h3⟩
 ·exact .inl h
 ·exact .inr ⟨g,o,c,Y,Z,λj hj=>by
   obtain⟨s,p,k,I,t,q,m,d,J,O,U,V,H⟩:=h3 j hj;exact⟨s,p,k,I,t,q,m,d,J,O,U,V,H.1,H.2.1,kU H.2.2.1 (by decide),kU H.2.2.2 (by decide)⟩⟩
theorem Vt (l:List Int) (O:∀a,a∈l->-2147483648<=a/\a<=2147483648) (U:0<l.length/\l.length<=1000) (W:World):
  Calls prog 58 #[.slice (some ⟨W.heap.size,0,none⟩) l.length l.length] (W.alloc (.cells (l.map (Value.int .i64)).toArray 3)) λe w'=>(∃g c,e=.returned (.slice (some ⟨g,0,none⟩) l.length c)/\QL (λj=>IsQ ((l.getD j 0:Int):Rat)) w' (.slice (some ⟨g,0,none⟩) l.length c) l.length)/\Below W.heap.size W w':=by
 have J:Below W.heap.size W (W.alloc (.cells (l.map (Value.int .i64)).toArray 3)):=(Below.refl _ _).alloc (kT _) _;have X:=Blk.new W 3 (l.map (Value.int .i64)).toArray;refine(jF W.heap.size l.length l.length (λj=>l.getD j 0) _ X.lt (λj H=>?_) (λj H=>?_) (by omega)).mono ?_
 ·rw[X.cell_ j]
  simp[List.getElem?_map,List.getD_eq_getElem?_getD,List.getElem?_eq_getElem H]
 ·refine O _ ?_
  rw[List.getD_eq_getElem?_getD,List.getElem?_eq_getElem H];exact List.getElem_mem H
 ·rintro e w' ⟨⟨v,rfl,hq⟩,I⟩
  obtain⟨g,c,rfl⟩:∃g c,v=.slice (some ⟨g,0,none⟩) l.length c:=by
   rcases hq.row with⟨h,_⟩ |⟨g,cap,e,_⟩
   ·omega
   ·exact⟨_,_,e⟩
  exact⟨⟨g,c,rfl,hq.ql⟩,J.trans (I.mono J.size)⟩
theorem QL.boxed {F:Nat->FP} (hF:∀j,Bh (F j)) {w w':World} {p:Option Addr} {n c R:Nat} (h:QL F w (.slice p n c) n) (I:I32 w w') (hg:w.grownBy w' (some R)) (J:∀a,p=some a->a.block≠R):QL F w' (.slice p n c) n:=by
 rcases h with h |⟨g,o,cap,e,hlt,hq⟩
 ·exact .inl h
 ·injection e with e1 e2 e3
  subst e1;have H:(some g:Option Nat)≠some R:=λe=>J _ rfl (by injection e)
  refine .inr ⟨g,o,c,rfl,kV hlt hg.size,λj hj=>?_⟩;obtain⟨s,p,k,c,t,q,m,d,O,U,V,Y,Z⟩:=hq j hj;exact⟨s,p,k,c,t,q,m,d,hg.cell O H,hg.cell U H,hg.cell V H,hg.cell Y H,hF j _ _ _ _ _ _ _ _ _ _ I Z⟩
theorem Xp {F:Nat->FP} {w:World} {B n:Nat} {p:Option Addr} {c:Nat} (h:OwnQ F w B (.slice p n c) n):∀a,p=some a->B<=a.block:=by
 intro a I;rcases h.row with⟨_,H⟩ |⟨g,cap,H,hB,_⟩
 ·injection H with h2
  rw[I]at h2;cases h2
 ·injection H with h2
  rw[I]at h2;injection h2 with h2
  rw[h2];exact hB
theorem eQ (n:Nat) (h:n<=1000000) (w:World):
  (Instr.makeSlice 104 (.int .i64 0) (.int .i64 (n:Int))).run prog w=.ok (.slice (some ⟨w.heap.size,0,none⟩) 0 n) (w.alloc (.cells (madeCells #[.slice none 0 0] n) 30)):=by
 obtain⟨i,O,H,I,J⟩:=info_parts Hl;have hr:=run_make (P:=prog) w 104 30 i _ underlying104 O H .i64 .i64 (0:Nat) n (by omega) (by omega) (by rw[J];omega) (by omega);rw[Int.toNat_natCast,I,Nat.mul_one]at hr;exact hr
theorem RowsOwn.made (F:Nat->Nat->Rat) (C n:Nat) (w:World) (B:Nat) (hB:B<=w.heap.size) (V:n<=1000000):RowsOwn F 0 C (w.alloc (.cells (madeCells #[.slice none 0 0] n) 30)) B (.slice (some ⟨w.heap.size,0,none⟩) 0 n):=by
 have J:=Blk.new w 30 (madeCells #[.slice none 0 0] n);refine⟨λ_=>0,⟨⟨rfl,.inr ⟨w.heap.size,n,madeCells #[.slice none 0 0] n,rfl,hB,?_,Nat.zero_le _,by simp only[maxLen];omega,by simp[madeCells],rfl⟩⟩,λg hg=>?_⟩,λ_ O=>absurd O (Nat.not_lt_zero _)⟩
 ·exact J
 ·injection hg with hg
  subst hg;refine Stk.of J (λv U=>?_);have H:v∈(madeCells #[.slice none 0 0] n).toList:=by simpa using U
  simp[madeCells]at H;obtain⟨k,_,I⟩:=H;rw[Nat.mod_one]at I;exact⟨none,0,0,I.symm⟩
end
end Go.Proofs.YtenlbhlllgppmaaGreatDoor
