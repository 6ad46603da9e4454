/- Path functionals, plain: the class at another level of the image of a path under a matrix. No program in sight. -/
import Derived.Test.YtenlbhlllgppmaaGreatDoorA30
set_option linter.unusedSimpArgs false
set_option maxRecDepth 100000
set_option maxHeartbeats 8000000
namespace Go.Proofs.YtenlbhlllgppmaaGreatDoor
section
open Eli
section
variable {n wt:Nat} {D:Int} {x:Nat->Rat}
theorem Kv (q:Nat->Rat) (f:Nat->Nat->Rat) (m:Nat) (a b c d:Int) (l:Nat):
  subst (λj=>sumQ (λi=>q i*f i j) m) wt a b c d (wt+1) l=sumQ (λi=>q i*subst (f i) wt a b c d (wt+1) l) m:=by
 unfold subst
 have I:sumQ (λi=>sumQ (λk=>q k*f k i) m*(mv i a b c d wt l:Rat)) (wt+1)=sumQ (λi=>sumQ (λk=>q k*(f k i*(mv i a b c d wt l:Rat))) m) (wt+1):=Ad (λi _=>by
  rw[show sumQ (λk=>q k*f k i) m*(mv i a b c d wt l:Rat)=(mv i a b c d wt l:Rat)*sumQ (λk=>q k*f k i) m by grind,<-Ap];exact Ad (λk _=>by grind))
 rw[I,Cx];exact Ad (λk _=>by rw[Ap])
theorem Rl {Q Q':Nat->Rat} (h:∀j,j<wt+1->Q j=Q' j) (a b c d:Int):subst Q wt a b c d (wt+1)=subst Q' wt a b c d (wt+1):=funext λl=>by
 unfold subst;exact Ad (λi I=>by rw[h i I])
theorem Xr (q:Nat->Rat) (f:Nat->Nat->Rat) (m:Nat) (a b c d:Int):ph n wt D x (λj=>sumQ (λi=>q i*f i j) m) a b c d=sumQ (λi=>q i*ph n wt D x (f i) a b c d) m:=by
 unfold ph;rw[<-Mr];unfold cP;exact Ad (λi _=>by rw[Kv])
theorem Yp (q:Nat->Rat) (f:Nat->Nat->Rat) (m:Nat) (u v:Int×Int):Ag n wt D x (λj=>sumQ (λi=>q i*f i j) m) u v=sumQ (λi=>q i*Ag n wt D x (f i) u v) m:=by
 unfold Ag;by_cases h:v.1*u.2 - u.1*v.2=1
 ·simp only[if_pos h];exact Xr q f m _ _ _ _
 ·simp only[if_neg h];exact Xr q f m _ _ _ _
theorem Sv (q:Nat->Rat) (f:Nat->Nat->Rat) (m:Nat):∀u,Cu u->Pot (Ag n wt D x (λj=>sumQ (λi=>q i*f i j) m)) u=sumQ (λi=>q i*Pot (Ag n wt D x (f i)) u) m:=by
 refine M7 ?_ (λz t Y V U I J M O=>?_)
 ·rw[Fl,A4 (λi _=>?_)]
  rw[Fl,Rat.mul_zero]
 ·rw[Cj I J M,O,Yp,<-Ar]
  exact Ad (λi _=>by rw[Cj (st:=Ag n wt D x (f i)) I J M];grind)
noncomputable def clG (n wt:Nat) (D:Int) (x:Nat->Rat) (A B C E:Int) (Q:Nat->Rat) (u v:Int×Int):Rat:=
 Pot (Ag n wt D x (subst Q wt E (-B) (-C) A (wt+1))) (img A B C E v) - Pot (Ag n wt D x (subst Q wt E (-B) (-C) A (wt+1))) (img A B C E u)
end
def fP (n n':Nat) (D A B C E:Int):Prop:=∀(a b c d:Int) (s:Nat),G0 n a b c d->1<=s->s<=n->pun n s=true->(s:Int) % n=d % n ->
 ∃(a' b' c' d':Int) (s':Nat),G0 n' a' b' c' d'/\1<=s'/\s'<=n'/\pun n' s'=true/\(s':Int) % n'=d' % n'/\Pl.kroP D s'=Pl.kroP D s/\A*a+B*c=a'*A+b'*C/\A*b+B*d=a'*B+b'*E/\C*a+E*c=c'*A+d'*C/\C*b+E*d=c'*B+d'*E
theorem PF.of_norm {n O wt:Nat} {D A B C E:Int} {x:Nat->Rat} (J:Pl.check O ((wt:Int)+2) D=0) (hR:RelZ O wt D x) (I:A*E - B*C≠0) (hN:fP n O D A B C E):PF n wt D (clG O wt D x A B C E) where
 congr Q Q' u v h:=by
  unfold clG;rw[Rl h]
 lin q f m u v hu hv:=by
  unfold clG;have e0:subst (λj=>sumQ (λi=>q i*f i j) m) wt E (-B) (-C) A (wt+1)=λj=>sumQ (λi=>q i*subst (f i) wt E (-B) (-C) A (wt+1) j) m:=funext λl=>Kv q f m _ _ _ _ l
  have e:∀a b:Nat->Rat,∀m,sumQ a m - sumQ b m=sumQ (λi=>a i - b i) m:=λa b m=>by
   induction m with
   | zero=>show(0:Rat) - 0=0;grind
   | succ m ih=>rw[sumQ,sumQ,sumQ,<-ih];grind
  rw[e0,Sv q (λi=>subst (f i) wt E (-B) (-C) A (wt+1)) m _ (Bn I hv),Sv q (λi=>subst (f i) wt E (-B) (-C) A (wt+1)) m _ (Bn I hu),e];exact Ad (λi _=>by grind)
 add Q u v z _ _ _:=by
  unfold clG;grind
 move Q a b c d s u v hg h1 h2 h3 h4 hu hv:=by
  obtain⟨U,V,Y,Z,s',M,aD,aK,aN,aX,hk,e1,e2,e3,e4⟩:=hN a b c d s hg h1 h2 h3 h4
  have hi:∀y,Cu y->img A B C E (img a b c d y)=img U V Y Z (img A B C E y):=λy hy=>by
   rw[Eo (by rw[hg.det];decide) I hy,Eo I (by rw[M.det];decide) hy,e1,e2,e3,e4]
  unfold clG;rw[hi u hu,hi v hv,Iw,<-hk,<-Xx J hR M aD aK aN aX (Bn I hu) (Bn I hv),Iw];have f1:d*E+-b * -C=E*Z+-B * -Y:=by grind
  have f2:d * -B+-b*A=E * -V+-B*U:=by grind
  have f3:-c*E+a * -C=-C*Z+A * -Y:=by grind
  have f4:-c * -B+a*A=-C * -V+A*U:=by grind
  rw[f1,f2,f3,f4]
end
section
open Go.RowKit Eli Tryz
theorem RetP.ok {w w':World} {e:Ending} {n:Nat} {f:Nat->Rat} {X Y:Int×Int} {I:Int} (h:RetP w w' e n f X Y I):
  ∃O U,e=.returned (.tuple #[.agg #[.slice O (if I=0 then n else 0) U,.int .i64 ((if I=0 then X else(0,0)).1),.int .i64 ((if I=0 then X else(0,0)).2),.int .i64 ((if I=0 then Y else(0,0)).1),.int .i64 ((if I=0 then Y else(0,0)).2)],.int .i64 I])/\QL (λj=>IsQ (f j)) w' (.slice O (if I=0 then n else 0) U) (if I=0 then n else 0)/\∀a,O=some a->w.heap.size<=a.block:=by
 rcases h with⟨h,M⟩ |⟨h,g,cap,M,hg,hr⟩
 ·simp only[if_neg h]
  exact⟨none,0,M,.inl ⟨rfl,_,_,rfl⟩,λa J=>by cases J⟩
 ·subst h
  simp only[if_true];exact⟨_,cap,M,hr.ql cap,λa J=>by injection J with J;subst J;exact hg⟩
theorem IsQ.isB {K:Nat} {r:Rat} {w:World} {s:Bool} {p:Option Addr} {n c:Nat} {t:Bool} {q:Option Addr} {m d:Nat} (h:IsQ r w s p n c t q m d) (hr:hq r<=K):IsB K r.num r.den w s p n c t q m d:=
 ⟨h.1.raw,h.2.raw,by have:=Qs.sizes h;omega,by have:=Qs.sizes h;omega⟩
theorem QL.isB {K:Nat} {f:Nat->Rat} {w:World} {v:Value} {n:Nat} (h:QL (λj=>IsQ (f j)) w v n) (hf:∀j,j<n->hq (f j)<=K):QL (λj=>IsB K (f j).num (f j).den) w v n:=by
 rcases h with h |⟨g,o,c,Y,Z,h3⟩
 ·exact .inl h
 ·exact .inr ⟨g,o,c,Y,Z,λj I=>by
   obtain⟨s,p,k,J,t,q,m,d,M,O,U,V,hx⟩:=h3 j I;exact⟨s,p,k,J,t,q,m,d,M,O,U,V,IsQ.isB hx (hf j I)⟩⟩
theorem Ym (Q:Nat->Rat) (n wt:Nat) (D:Int) (X:Nat->Nat->Rat) (a b:Int×Int) (f:Nat):U5 Q n wt D X a b f (wt+1)=Ag n wt D (λj=>X j f) Q a b:=by
 unfold Ag U5 bP Ak;split <;> rfl
theorem Uv {n wt:Nat} {D:Int} {X:Nat->Nat->Rat} {f:Nat} {a b:Int×Int} {ch:List (Int×Int)} (J:Pl.check n ((wt:Int)+2) D=0) (Y:RelZ n wt D (λj=>X j f)) (h:ChainOk a b ch) (Q:Nat->Rat):
  N4 Q n wt D X ch f (ch.length - 1)=Pot (Ag n wt D (λj=>X j f) Q) b - Pot (Ag n wt D (λj=>X j f) Q) a:=by
 have Z:=Pq (Q:=Q) J Y;have I:∀j,j<ch.length->ch[j]?=some (ch.getD j (0,0)):=λj M=>by rw[List.getD_eq_getElem?_getD,List.getElem?_eq_getElem M];rfl
 have O:=Z.chain (λj=>ch.getD j (0,0)) (ch.length - 1) (λj M=>(h.good _ (List.mem_of_getElem? (I j (by have:=h.pos;omega)))).2) (λj M=>h.nb j _ _ (I j (by omega)) (I (j+1) (by omega)));have U:ch.getD 0 (0,0)=a:=by rw[List.getD_eq_getElem?_getD,h.first];rfl
 have V:ch.getD (ch.length - 1) (0,0)=b:=by rw[List.getD_eq_getElem?_getD,h.last];rfl
 rw[U,V]at O;rw[<-O];unfold N4;exact Ad (λj _=>Ym ..)
theorem S7 {a b:Int×Int} (h:Nb a b):(Ak a b).1.1*(Ak a b).2.2 - (Ak a b).1.2*(Ak a b).2.1=1:=by
 unfold Ak;split
 ·rename_i h1;dsimp only;grind
 ·rename_i h1
  have I:b.1*a.2 - a.1*b.2=-1:=h.resolve_left h1;dsimp only;grind
theorem Yl {n wt C:Nat} {D:Int} {X:Nat->Nat->Rat} {F:List Nat} {f:Nat} {a b:Int×Int} {ch:List (Int×Int)} {Q:Nat->Rat} (J:Pl.check n ((wt:Int)+2) D=0) (Z:cntF n wt=C) (hQ:∀i,i<wt+1->hq (Q i)<=4000)
  (hX:∀j f,j<C->f∈F->hq (X j f)<=10000) (hf:f∈F) (h:ChainOk a b ch):hq (N4 Q n wt D X ch f (ch.length - 1))<=430000000:=by
 obtain⟨h1,h2,h3,h4,h5,h6⟩:=Aj J;have cB:wt<=22:=by omega
 have I:∀j,j<ch.length->ch[j]?=some (ch.getD j (0,0)):=λj hj=>by rw[List.getD_eq_getElem?_getD,List.getElem?_eq_getElem hj];rfl
 have hT:∀k i,k+1<ch.length->i<wt+1->hq (bP Q n wt D X (ch.getD k (0,0)) (ch.getD (k+1) (0,0)) f i)<=140000:=by
  intro k i hk hi;obtain⟨x,hx⟩:∃x,ch.getD k (0,0)=x:=⟨_,rfl⟩
  obtain⟨y,hy⟩:∃y,ch.getD (k+1) (0,0)=y:=⟨_,rfl⟩
  have U:=I k (by omega);have V:=I (k+1) hk;rw[hx]at U ⊢;rw[hy]at V ⊢;have aK:=h.nb k x y U V;obtain⟨a1,a2,a3,a4⟩:=(h.good x (List.mem_of_getElem? U)).1;obtain⟨b1,b2,b3,b4⟩:=(h.good y (List.mem_of_getElem? V)).1;have hp:=Gm J (I4 (n:=n) (by omega) (S7 aK))
  have M:i*(pts n (n*n)).length+(Ao n D (Ak x y).2.1 (Ak x y).2.2).1<C:=by
   rw[<-Z];have O:=Nat.mul_le_mul_right (pts n (n*n)).length (show i+1<=wt+1 by omega);rw[Nat.succ_mul]at O;unfold cntF;have:=hp.2;omega
  have bH:hq (subst Q wt (Ak x y).1.1 (Ak x y).1.2 (Ak x y).2.1 (Ak x y).2.2 (wt+1) i)<=123880:=by
   refine Cs (K:=4000) hQ (Dd ?_ ?_) (Dd ?_ ?_) (Dd ?_ ?_) (Dd ?_ ?_) (by omega) (by omega) <;>(unfold Ak;split <;>(dsimp only;omega))
  have bY:hq (((Ao n D (Ak x y).2.1 (Ak x y).2.2).2:Int):Rat)<=1:=by
   rw[Gj]
   have Y:(Ao n D (Ak x y).2.1 (Ak x y).2.2).2.natAbs<=1:=by
    rcases Fi (W0 D) n (((Ak x y).2.1 % n).toNat*n+((Ak x y).2.2 % n).toNat)with h|h
    ·unfold Ao;rw[h];decide
    ·unfold Ao;omega
   have:nd ((Ao n D (Ak x y).2.1 (Ak x y).2.2).2).natAbs<=1:=Be.2 (by omega);omega
  have cA:=hX _ f M hf;have O:=Cc (subst Q wt (Ak x y).1.1 (Ak x y).1.2 (Ak x y).2.1 (Ak x y).2.2 (wt+1) i*((Ao n D (Ak x y).2.1 (Ak x y).2.2).2:Rat)) (X (i*(pts n (n*n)).length+(Ao n D (Ak x y).2.1 (Ak x y).2.2).1) f);have Y:=Cc (subst Q wt (Ak x y).1.1 (Ak x y).1.2 (Ak x y).2.1 (Ak x y).2.2 (wt+1) i) ((Ao n D (Ak x y).2.1 (Ak x y).2.2).2:Rat);unfold bP;omega
 have hS:∀k,k+1<ch.length->hq (U5 Q n wt D X (ch.getD k (0,0)) (ch.getD (k+1) (0,0)) f (wt+1))<=3300000:=by
  intro k hk;have O:=Dm (bP Q n wt D X (ch.getD k (0,0)) (ch.getD (k+1) (0,0)) f) 140000 (wt+1) (λq hq=>hT k q hk hq);have Y:(wt+1)*(140000+1)<=23*140001:=Nat.mul_le_mul (by omega) (mG _);unfold U5;omega
 have O:=Dm (λj=>U5 Q n wt D X (ch.getD j (0,0)) (ch.getD (j+1) (0,0)) f (wt+1)) 3300000 (ch.length - 1) (λq hq=>hS q (by omega));have Y:(ch.length - 1)*(3300000+1)<=130*3300001:=Nat.mul_le_mul (by have:=h.len;omega) (mG _);unfold N4;omega
def CoRet (w:World) (w':World) (e:Ending) (p q p' q':Int) (n wt:Nat) (D:Int) (F:List Nat) (X:Nat->Nat->Rat) (Q:Nat->Rat):Prop:=
 ((Av p q≠0∨Av p' q'≠0)/\∃er,er≠0/\e=.returned (.tuple #[.slice none 0 0,.int .i64 er])) ∨
 ((Av p q=0/\Av p' q'=0)/\∃g,e=.returned (.tuple #[.slice (some ⟨g,0,none⟩) F.length F.length,.int .i64 0])/\w.heap.size<=g/\QRow (λj=>IsQ (Pot (Ag n wt D (λi=>X i (F.getD j 0)) Q) (p',q') - Pot (Ag n wt D (λi=>X i (F.getD j 0)) Q) (p,q))) w' g F.length F.length/\∀j,j<F.length->hq (Pot (Ag n wt D (λi=>X i (F.getD j 0)) Q) (p',q') - Pot (Ag n wt D (λi=>X i (F.getD j 0)) Q) (p,q))<=430000000)
theorem Zk (M B n wt:Nat) (D:Int) (F:List Nat) (C:Nat) (X:Nat->Nat->Rat) (v:Value) (x y:Nat->Int) (p q p' Z:Int) (w:World) (hT:Tab w) (V:Pl.check n ((wt:Int)+2) D=0) (cT:cntF n wt=C) (hF:F.length<=72)
  (aN:ModAt w M B n ((wt:Int)+2) D F C X) (hB:B<=w.heap.size) (hX:∀j f,j<C->f∈F->hq (X j f)<=10000) (hR:∀f,f∈F->RelZ n wt D (λj=>X j f)) (hp:QL (λj=>IsB 4000 (x j) (y j)) w v (wt+1))
  (hI:-9223372036854775808<=p) (hJ:p<=9223372036854775807) (hM:-9223372036854775808<=q) (hN:q<=9223372036854775807) (hO:-9223372036854775808<=p') (hP:p'<=9223372036854775807) (hQ:-9223372036854775808<=Z) (hS:Z<=9223372036854775807):
  Calls prog 24 #[.pointer (some ⟨M,0,none⟩),.agg #[v,.int .i64 p,.int .i64 q,.int .i64 p',.int .i64 Z]] w λe w'=>CoRet w w' e p q p' Z n wt D F X (λi=>Rat.divInt (x i) (y i))/\Below w.heap.size w w':=by
 obtain⟨pv,cv,rfl⟩:∃p c,v=.slice p (wt+1) c:=by
  obtain⟨_,_,_,e',_⟩:=hp.resolve_left (λh=>by omega);exact⟨_,_,e'⟩
 have mY:wt<=22:=by have:=Aj V;omega
 have hG:0<n:=by have:=Aj V;omega
 obtain⟨kk,hE⟩:∃kk,(wt:Int)+2=kk:=⟨_,rfl⟩
 obtain⟨L,hL⟩:∃L,wt+1=L:=⟨_,rfl⟩
 have aD:=Kh (λW=>C3 p q W hI hJ hM hN);have I:=Kh (λW=>C3 p' Z W hO hP hQ hS);have bC:=Kh (λW ha Y=>Zi p q p' Z W ha Y);have gN:=Kh (λW (Y:Below w.heap.size w W)=>Ge M B n kk D F C X W (hE▸aN.keep hB Y) (mH hB Y.size))
 have aK:=Kh (λW gc oc cc ch (Y:Below w.heap.size w W) (hg:gc<W.heap.size) (hc:CAt W gc oc ch) (ho:ChainOk (p,q) (p',Z) ch)=>Tw M B n wt D F C X ch gc oc cc (.slice pv (wt+1) cv) x y W (hT.below Y) V cT hF (aN.keep hB Y) (mH hB Y.size) hX (hp.keep (λ_=>IsB.solid _ _ _) Y) hg (mH ho.len (by decide))
  (λk c hk=>⟨(hc k c hk).1,(hc k c hk).2,by have h:=(ho.good c (List.mem_of_getElem? hk)).1;unfold InC at h;omega⟩)
  (λk a b ha Y=>by
   have h:=ho.nb k a b ha Y;exact⟨h,(Gm V (I4 (a:=(Ak a b).1.1) (b:=(Ak a b).1.2) hG (S7 h))).1⟩))
 have HV:=Kh (λch (ho:ChainOk (p,q) (p',Z) ch) f (hf:f∈F)=>Uv V (hR f hf) ho (λi=>Rat.divInt (x i) (y i)))
 have mM:=Kh (λch (ho:ChainOk (p,q) (p',Z) ch) f (hf:f∈F)=>Yl V cT (λi hi=>by
  obtain⟨_,_,_,_,hr⟩:=hp.resolve_left (λh=>by omega);obtain⟨_,_,_,_,_,_,_,_,_,_,_,_,h5,h6,h7,h8⟩:=hr.2 i hi;exact Kf (by decide) (mH h5.size h7) (mH h6.size h8)) hX hf ho (Q:=λi=>Rat.divInt (x i) (y i)))
 rw[hL]at aK ⊢;have nO:kk - 1=(L:Int):=by omega
 have nP:IntKind.i64.wrap (L:Int)=(L:Int):=IntWalk.i64_in _ (by omega);clear hT aN hB hX hp V cT hF hR mY hG hE hL hI hJ hM hN hO hP hQ hS;go_enter func24,ntmps24
 go_upto_region 3 with(fail)
 obtain⟨w0,hU,X0,gU⟩:=bx1 w #[.slice pv L cv,.int .i64 p,.int .i64 q,.int .i64 p',.int .i64 Z] 57;rw[hU];obtain⟨gp,dX⟩:∃x,w.heap.size=x:=⟨_,rfl⟩
 have nF:=Kh dX;rw[dX]at X0 ⊢;have cG:=Kh X0;have bA:=Kh gU;have x0:=X0.at_ 0 rfl;have mU:∀W:World,(Instr.field 23 (.agg #[.int .i64 n,.int .i64 kk,.int .i64 D]) 1).run prog W=.ok (.int .i64 kk) W:=λW=>by kernel_rfl
 clear hU X0 gU dX;refine K6 (λW=>W.cell? ⟨gp,0,none⟩=some (.slice pv L cv)) (λW Y=>Au Y x0) (λgL hHeld0=>?_);refine Al 0 ?_;refine Al 1 ?_;refine Al 2 ?_;refine Al 3 ?_;refine F9 4 rfl (λK hK=>?_);focus(go_simp;refine(gN.1 _ bA.1.drew).mono ?_;rintro e w1 ⟨rfl,gX⟩;have bB:=Kh ((Below.refl _ w0).drew.trans gX:Below w0.heap.size w0 w1);clear gX;(first|with_reducible refine hK.out _ _ ?_ (λhHeld1=>?_) |(go_wp2_with fail;with_reducible refine hK.out _ _ ?_ (λhHeld1=>?_))))
 focus((try dsimp only);exact gL.1 _ bB.1)
 focus(clear hK K;(try simp only[Act.put,Br,Bt,Bs]))
 refine Al 5 ?_;refine Al 6 ?_;refine K5 7 rfl (λK hK=>?_);go_simp
 refine hK.out _ _ ?_;clear hK K
 (try simp only[Act.put,Br,Bt,Bs])
 have J:=Kh (cG.1.below_ bB.1 cG.1.lt);have gP:=Kh (bA.1.trans (bB.1.mono bA.1.size));clear x0 gL bB hHeld0 hHeld1 gN cG bA mU;have x0:=J.1.at_ 0 rfl;have x1:=J.1.at_ 1 rfl;have x2:=J.1.at_ 2 rfl;have x3:=J.1.at_ 3 rfl;have x4:=J.1.at_ 4 rfl;obtain⟨e1,dC⟩:∃e1,Av p q=e1:=⟨_,rfl⟩
 obtain⟨e2,dE⟩:∃e2,Av p' Z=e2:=⟨_,rfl⟩
 have bY:=Kh dC;have cA:=Kh dE;rw[dC]at aD;rw[dE]at I;clear dC dE;go_wp2_with fail
 refine(aD.1 w1).mono ?_;rintro e w2 ⟨rfl,cV⟩;have O:=Kh (bk J cV);have cC:=bt gP cV;clear x0 x1 x2 x3 x4 cV J gP;by_cases h1:e1=0
 ·have x0:=O.1.at_ 0 rfl
  have x1:=O.1.at_ 1 rfl;have x2:=O.1.at_ 2 rfl;have x3:=O.1.at_ 3 rfl;have x4:=O.1.at_ 4 rfl;have mQ:(e1 != 0)=false:=by rw[h1];rfl
  go_wp2_with fail
  refine(I.1 w2).mono ?_;rintro e w3 ⟨rfl,cX⟩;have U:=Kh (bk O cX);have cD:=bt cC cX;clear x0 x1 x2 x3 x4 cX O cC;by_cases h2:e2=0
  ·have x0:=U.1.at_ 0 rfl
   have x1:=U.1.at_ 1 rfl;have x2:=U.1.at_ 2 rfl;have x3:=U.1.at_ 3 rfl;have x4:=U.1.at_ 4 rfl;have mR:(e2 != 0)=false:=by rw[h2];rfl
   go_wp2_with fail
   refine(bC.1 w3 (bY.1.trans h1) (cA.1.trans h2)).mono ?_;rintro e w4 ⟨⟨ch,gc,oc,cc,rfl,hg,bE,eP⟩,cY⟩;have mN:=Kh (bk U cY);have cF:=bt cD cY;have mD:=Kh (aK.1 w4 gc oc cc ch cF.1 hg bE eP);have cB:=Kh eP;clear x0 x1 x2 x3 x4 cY U cD bE hg eP aK bC aD I;have x0:=mN.1.at_ 0 rfl;go_wp2_with fail
   refine mD.1.mono ?_;rintro e w5 ⟨⟨g,rfl,hD,bH⟩,gY⟩
   have HR:=Kh (QRow.congr bH (λj hj=>by
    have mW:j<F.length:=hj;have hf:F.getD j 0∈F:=Bd mW;show IsQ (N4 (λi=>Rat.divInt (x i) (y i)) n wt D X ch (F.getD j 0) (ch.length - 1))=_;rw[HV.1 ch cB.1 _ hf]))
   have mL:=Kh (show ∀j,j<F.length->hq (Pot (Ag n wt D (λi=>X i (F.getD j 0)) (λi=>Rat.divInt (x i) (y i))) (p',Z) - Pot (Ag n wt D (λi=>X i (F.getD j 0)) (λi=>Rat.divInt (x i) (y i))) (p,q))<=430000000 from λj hj=>by
    have hf:F.getD j 0∈F:=Bd hj;rw[<-HV.1 ch cB.1 _ hf];exact mM.1 ch cB.1 _ hf)
   have mC:=bt cF gY;have mE:=Kh (mH cF.1.size hD);clear bH gY x0 hD;go_wp2
   (first|go_ret2|go_ret)
   exact⟨.inr ⟨⟨bY.1.trans h1,cA.1.trans h2⟩,g,rfl,mE.1,HR.1,mL.1⟩,mC.1⟩
  ·have mR:(e2 != 0)=true:=by rw[bne_iff_ne];exact h2
   clear aK bC aD I;go_wp2
   (first|go_ret2|go_ret)
   exact⟨.inl ⟨.inr (by rw[cA.1];exact h2),e2,h2,rfl⟩,cD.1⟩
 ·have mQ:(e1 != 0)=true:=by rw[bne_iff_ne];exact h1
  clear aK bC aD I;go_wp2
  (first|go_ret2|go_ret)
  exact⟨.inl ⟨.inl (by rw[bY.1];exact h1),e1,h1,rfl⟩,cC.1⟩
abbrev Zc (B:Nat) (w0 w:World) (b0 b1 b2 b3:Addr):Prop:=w.cell? b0=some (cellOf w b0)/\w.frozen? b0=false/\Sts w b0.block/\w.cell? b1=some (cellOf w b1)/\w.frozen? b1=false/\Sts w b1.block/\w.cell? b2=some (cellOf w b2)/\w.frozen? b2=false/\Sts w b2.block/\w.cell? b3=some (cellOf w b3)/\w.frozen? b3=false/\Sts w b3.block/\Below B w0 w/\B<=w.heap.size
theorem Lg {B:Nat} {w0 w w':World} {I J M O:Addr} (U:Below w.heap.size w w') (h:Zc B w0 w I J M O):Zc B w0 w' I J M O:=SS.next (B:=B) (w0:=w0) (l:=([]:List (Addr×Value))) (m:=[I,J,M,O]) U h
theorem Vc {B:Nat} {w0 w:World} {I J M O:Addr} (h:Zc B w0 w I J M O) {p0 p1 p2 p3:Addr} {u0 u1 u2 u3:Value} (U:NotInt u0) (aD:B<=p0.block) (V:NotInt u1) (aK:B<=p1.block) (Y:NotInt u2) (aN:B<=p2.block) (Z:NotInt u3) (aX:B<=p3.block):Zc B w0 ((((w.setCell p0 u0).setCell p1 u1).setCell p2 u2).setCell p3 u3) I J M O:=(SS.put (B:=B) (w0:=w0) (l:=([]:List (Addr×Value))) (m:=[I,J,M,O]) (SS.put (B:=B) (w0:=w0) (l:=([]:List (Addr×Value))) (m:=[I,J,M,O]) (SS.put (B:=B) (w0:=w0) (l:=([]:List (Addr×Value))) (m:=[I,J,M,O]) (SS.put (B:=B) (w0:=w0) (l:=([]:List (Addr×Value))) (m:=[I,J,M,O]) h p0 u0 U aD (by simp[*])) p1 u1 V aK (by simp[*])) p2 u2 Y aN (by simp[*])) p3 u3 Z aX (by simp[*]))
theorem Wo {n:Int} {d g:Nat} (V:0<d) (hg:Nat.gcd n.natAbs d=g):(Rat.divInt n d).num=Int.tdiv n g/\((Rat.divInt n d).den:Int)=Int.tdiv (d:Int) g:=by
 have M:(0:Int)<(d:Int):=by omega
 have I:Int.gcd n (d:Int)=g:=hg;have Y:0<g:=by rw[<-hg];exact Nat.gcd_pos_of_pos_right _ V
 have O:=Hb (n:=n) M;have U:=Ha (n:=n) M;rw[I]at O U;have J:((g:Nat):Int)∣n:=by rw[<-I];exact Int.gcd_dvd_left ..
 rw[O,U];refine⟨?_,?_⟩
 ·rw[Int.tdiv_eq_ediv]
  by_cases hn:0<=n
  ·rw[if_pos (.inl hn),Int.add_zero]
  ·rw[if_pos (.inr J),Int.add_zero]
 ·rw[Int.tdiv_eq_ediv_of_nonneg (by omega)]
theorem Vm (n:Int) (d:Nat) (w:World) (hn:-1000000<=n) (mQ:n<=1000000) (hd:0<d) (hO:d<=1000000):
  Calls prog 63 #[.int .i64 n,.int .i64 d] w λe w'=>Gr w' e (Rat.divInt n d)/\Below w.heap.size w w':=by
 obtain⟨g,hg⟩:∃g,Nat.gcd n.natAbs d=g:=⟨_,rfl⟩
 have mP:0<g:=by rw[<-hg];exact Nat.gcd_pos_of_pos_right _ hd
 have mN:g<=d:=by rw[<-hg];exact Nat.gcd_le_right _ hd
 obtain⟨e1,e2⟩:=Wo (n:=n) hd hg;obtain⟨P,hP⟩:∃P,Int.tdiv n (g:Int)=P:=⟨_,rfl⟩
 obtain⟨Q,hQ⟩:∃Q,Int.tdiv (d:Int) (g:Int)=Q:=⟨_,rfl⟩
 have hG:-1000000<=P/\P<=1000000:=by
  have h:(Int.tdiv n (g:Int)).natAbs<=n.natAbs:=by rw[Int.natAbs_tdiv];exact Nat.div_le_self _ _
  rw[hP]at h;omega
 have hI:-1000000<=Q/\Q<=1000000:=by
  have h:(Int.tdiv (d:Int) (g:Int)).natAbs<=(d:Int).natAbs:=by rw[Int.natAbs_tdiv];exact Nat.div_le_self _ _
  rw[hQ]at h;omega
 obtain⟨mB,mC⟩:=hG;obtain⟨mD,mE⟩:=hI;rw[hP]at e1;rw[hQ]at e2;have HE:=Kh (And.intro e1 e2);have hB:=Kh (λM=>iS P M (by omega) (by omega));have hD:=Kh (λM=>iS Q M (by omega) (by omega));have HG:=Kh hg;have hR:(if n < -n then -n else n)=(n.natAbs:Int):=by split <;> omega
 have mM:¬((d:Int)<0):=by omega
 clear e1 e2 hg;go_enter func63,ntmps63
 go_wp2_with fail
 obtain⟨w0,dY,X0,dX⟩:=bx1 w #[.bool false,.slice none 0 0,.bool false,.slice none 0 0] 86;rw[dY];have dC:=Kh X0;have cT:=Kh dX;have aK:max n (-n)=(n.natAbs:Int):=by omega
 rw[aK];have gY:=Kh (show n.natAbs<=1000000 by omega);clear dY X0 dX hR aK;go_loopw [5,6] (λx y wr=>∃a b:Nat,x=.int .i64 a/\y=.int .i64 b/\Nat.gcd a b=g/\a<=1000000/\b<=1000000/\∃m,wr=w0.drewN m) (λ_ y _=>(intOf y).toNat)
 case atStart=>exact⟨n.natAbs,d,rfl,rfl,HG.1,gY.1,hO,0,rfl⟩
 case round=>
  obtain⟨a,b,rfl,rfl,Z,ha,hb,m,rfl⟩:=hrel;rcases Nat.eq_zero_or_pos b with rfl|hM
  ·rw[Nat.gcd_zero_right]at Z
   subst Z;have aD:Below w0.heap.size w0 (w0.drewN m):=Aa (Below.refl _ _) m;generalize w0.drewN m=wq at aD ⊢;have J:=bk dC aD;have V:=Kh J;have Y:=bt cT aD;obtain⟨I,bB⟩:∃x,w.heap.size=x:=⟨_,rfl⟩
   rw[bB]at J V ⊢;have cV:=Kh bB;have T0:=Sts.of J (by intro v hv;simp at hv;rcases hv with rfl|rfl|rfl|rfl <;> first|exact NotInt.bool _|exact NotInt.slice _ _ _);have iL:=Kh T0;have mO:I<wq.heap.size:=J.lt;have v1:IntKind.i64.wrap P=P:=IntWalk.i64_in _ (by omega);have v2:IntKind.i64.wrap Q=Q:=IntWalk.i64_in _ (by omega);have e5:((a:Int)==0)=false:=beq_eq_false_iff_ne.2 (by omega);have e6:a≠0:=by omega
   clear aD bB cT dC;go_upto_region 6 with(fail)
   have cX:=Kh (show ∀wb,Below wq.drew.heap.size wq.drew wb->Below wq.heap.size wq wb from λwb hb=>(Below.refl _ wq).drew.trans hb);have cY:=Kh (show ∀wa wb,Below wq.heap.size wq wa->Below wa.heap.size wa wb->Below wq.heap.size wq wb from λwa wb h1 h2=>h1.trans (h2.mono h1.size));have hJ:wq.drew.cell? ⟨I,0,none⟩=some (cellOf wq.drew ⟨I,0,none⟩)/\wq.drew.frozen? ⟨I,0,none⟩=false/\Sts wq.drew (I)/\wq.drew.cell? ⟨I,1,none⟩=some (cellOf wq.drew ⟨I,1,none⟩)/\wq.drew.frozen? ⟨I,1,none⟩=false/\Sts wq.drew (I)/\wq.drew.cell? ⟨I,2,none⟩=some (cellOf wq.drew ⟨I,2,none⟩)/\wq.drew.frozen? ⟨I,2,none⟩=false/\Sts wq.drew (I)/\wq.drew.cell? ⟨I,3,none⟩=some (cellOf wq.drew ⟨I,3,none⟩)/\wq.drew.frozen? ⟨I,3,none⟩=false/\Sts wq.drew (I)/\Below 0 wq wq.drew/\0<=wq.drew.heap.size:=Lg (Below.refl _ wq).drew ⟨Am (by rw[J.at_ 0 rfl];rfl),J.free_ 0,T0,Am (by rw[J.at_ 1 rfl];rfl),J.free_ 1,T0,Am (by rw[J.at_ 2 rfl];rfl),J.free_ 2,T0,Am (by rw[J.at_ 3 rfl];rfl),J.free_ 3,T0,(Below.refl 0 wq),mH (Nat.zero_le _) (Below.size (Below.refl 0 wq))⟩;clear J T0;have M1:True:=trivial
   go_region_held3 (λM=>M.cell? ⟨I,0,none⟩=some (cellOf M ⟨I,0,none⟩)/\M.frozen? ⟨I,0,none⟩=false/\Sts M (I)/\M.cell? ⟨I,1,none⟩=some (cellOf M ⟨I,1,none⟩)/\M.frozen? ⟨I,1,none⟩=false/\Sts M (I)/\M.cell? ⟨I,2,none⟩=some (cellOf M ⟨I,2,none⟩)/\M.frozen? ⟨I,2,none⟩=false/\Sts M (I)/\M.cell? ⟨I,3,none⟩=some (cellOf M ⟨I,3,none⟩)/\M.frozen? ⟨I,3,none⟩=false/\Sts M (I)/\Below 0 wq M/\0<=M.heap.size)
    (first|with_reducible exact hJ|with_reducible assumption |(refine Lg (by with_reducible assumption) ?_;assumption) |(refine Vc ?_ ?_ ?_ ?_ ?_ ?_ ?_ ?_ ?_ <;> first|assumption|exact NotInt.bool _|exact NotInt.slice _ _ _ |(dsimp only;omega) |(simp;done)))
    (first
     |(go_at_call 110;(with_reducible refine(hB.1 _).mono ?_);rintro e w2 ⟨⟨s2,p2,n2,c2,rfl,eP⟩,aN⟩;have O:=Kh (show Below wq.heap.size wq w2 from by first|exact cY.1 _ _ O.1 aN|exact cX.1 _ aN))
     |(go_at_call 110;(with_reducible refine(hD.1 _).mono ?_);rintro e w3 ⟨⟨s3,p3,n3,c3,rfl,eV⟩,aX⟩;have O:=Kh (show Below wq.heap.size wq w3 from by first|exact cY.1 _ _ O.1 aX|exact cX.1 _ aX)))
   all_goals go_wp2
   all_goals first
    |(have bE:Qs w3 s2 p2 n2 c2 s3 p3 n3 c3 (Rat.divInt n d):=⟨by rw[HE.1.1];exact eP.keep aX,by rw[HE.1.2];exact eV⟩
      have X3:=V.1.below_ O.1 V.1.lt
      obtain⟨w9,U⟩:∃w9,(((w3.setCell ⟨I,0,none⟩ (.bool s2)).setCell ⟨I,1,none⟩ (.slice p2 n2 c2)).setCell ⟨I,2,none⟩ (.bool s3)).setCell ⟨I,3,none⟩ (.slice p3 n3 c3)=w9:=⟨_,rfl⟩
      obtain⟨E0,E1,E2,E3,bC⟩:=B9 X3 bE U;have bA:Below w.heap.size w w9:=by rw[<-U];exact As (Y.1.trans (O.1.mono Y.1.size)) (Nat.le_of_eq cV.1) _ _ _ _
      rw[U];try simp only[Exit.inBlock,Exit.then]
      refine bodyPost_ret (by simp[results,results63,go_sem,E0,E1,E2,E3];try rfl) rfl ?_;exact⟨⟨s2,p2,n2,c2,s3,p3,n3,c3,rfl,bC⟩,bA⟩)
    |(have bE:Qs w2 s2 p2 n2 c2 s3 p3 n3 c3 (Rat.divInt n d):=⟨by rw[HE.1.1];exact eP,by rw[HE.1.2];exact eV.keep aN⟩
      have X3:=V.1.below_ O.1 V.1.lt
      obtain⟨w9,U⟩:∃w9,(((w2.setCell ⟨I,0,none⟩ (.bool s2)).setCell ⟨I,1,none⟩ (.slice p2 n2 c2)).setCell ⟨I,2,none⟩ (.bool s3)).setCell ⟨I,3,none⟩ (.slice p3 n3 c3)=w9:=⟨_,rfl⟩
      obtain⟨E0,E1,E2,E3,bC⟩:=B9 X3 bE U;have bA:Below w.heap.size w w9:=by rw[<-U];exact As (Y.1.trans (O.1.mono Y.1.size)) (Nat.le_of_eq cV.1) _ _ _ _
      rw[U];try simp only[Exit.inBlock,Exit.then]
      refine bodyPost_ret (by simp[results,results63,go_sem,E0,E1,E2,E3];try rfl) rfl ?_;exact⟨⟨s2,p2,n2,c2,s3,p3,n3,c3,rfl,bC⟩,bA⟩)
  ·have mL:(0:Int)<(b:Int):=by omega
   have e1:Int.tmod (a:Int) (b:Int)=((a % b:Nat):Int):=by rw[Int.tmod_eq_emod_of_nonneg (by omega)];rfl
   have e2:((b:Int)==0)=false:=beq_eq_false_iff_ne.2 (by omega);have e3:b≠0:=by omega
   obtain⟨r,hr⟩:∃r,a % b=r:=⟨_,rfl⟩
   have mR:r<b:=by rw[<-hr];exact Nat.mod_lt _ hM
   have gX:=Kh (show Nat.gcd b r=g by rw[<-hr,Nat.gcd_comm b,<-Nat.gcd_rec,Nat.gcd_comm];exact Z);rw[hr]at e1;have v1:IntKind.i64.wrap (r:Int)=(r:Nat):=IntWalk.i64_in _ (by omega);clear hr Z;go_wp2_with fail
   go_quiet (fail)
   go_wp2;go_roundw
   case rel=>exact⟨b,r,rfl,rfl,gX.1,hb,by omega,_,Ly _ _ _⟩
   case measure=>simp[intOf];omega
def F8 (x:Nat->Int) (ln k:Nat):Rat:=Rat.divInt (if k<ln then x k else 0) ((1+k % 2:Nat):Int)
theorem dT (p:Option Addr) (U c:Nat) (x:Nat->Int) (n:Nat) (w:World) (hp:∀k,k<U->∃g o,p=some ⟨g,o,none⟩/\g<w.heap.size/\w.cell? ⟨g,o+k,none⟩=some (.int .i8 (x k))) (hx:∀k,k<U->-128<=x k/\x k<=127) (hn:n<=1000):
  Calls prog 23 #[.slice p U c,.int .i64 n] w λe w'=>(∃v',e=.returned v'/\OwnQ (λj=>IsQ (F8 x U j)) w' w.heap.size v' n)/\Below w.heap.size w w':=by
 have HN:=Kh (OwnQ.nil (λj=>IsQ (F8 x U j)) w w.heap.size);have HP:=Kh hp;have HX:=Kh hx;clear hp hx;go_enter func23,ntmps23
 go_wp2;go_loopw [5,6] (λv i wr=>∃k:Nat,k<=n/\i=.int .i64 k/\OwnQ (λj=>IsQ (F8 x U j)) wr w.heap.size v k/\Below w.heap.size w wr) (λ_ i _=>n - (intOf i).toNat)
 case atStart=>exact⟨0,Nat.zero_le _,rfl,HN.1,Below.refl _ _⟩
 case round=>
  obtain⟨k,hk,rfl,ho,hb⟩:=hrel;have HO:=Kh ho;have HB:=Kh hb;clear ho HN;by_cases hlt:k<n
  ·obtain⟨r,hr⟩:∃r,k % 2=r:=⟨_,rfl⟩
   have gP:r<2:=by omega
   obtain⟨d,hd⟩:∃d,1+r=d:=⟨_,rfl⟩
   have e1:Int.tmod (k:Int) 2=(r:Nat):=by rw[Int.tmod_eq_emod_of_nonneg (by omega)];omega
   have v0:IntKind.i64.wrap (r:Int)=(r:Nat):=IntWalk.i64_in _ (by omega);have e2:(1:Int)+(r:Int)=(d:Nat):=by omega
   have v1:IntKind.i64.wrap (d:Int)=(d:Nat):=IntWalk.i64_in _ (by omega);have HD:=Kh (show 1+k % 2=d by omega);have aK:0<d/\d<=3:=by omega
   have eV:=Kh aK;have gN:(k:Int)<(n:Int):=by omega
   by_cases hkl:k<U
   ·obtain⟨g,o,rfl,hg,hc⟩:=HP.1 k hkl
    obtain⟨z,hz⟩:∃z,x k=z:=⟨_,rfl⟩
    have bH:=HX.1 k hkl;rw[hz]at hc bH;have HZ:=Kh (show F8 x U k=Rat.divInt z d by rw[F8,if_pos hkl,hz,HD.1]);have a0:wr.cell? ⟨g,o+k,none⟩=some (.int .i8 z):=(hb.cell (p:=⟨g,o+k,none⟩) hg).trans hc;have v2:IntKind.i64.wrap z=z:=IntWalk.i64_in _ (by omega);have bG:(k:Int)<(U:Int):=by omega
    have HC:=Kh (Vm z d wr (by omega) (by omega) (by omega) (by omega));clear hb hz hc hd hr aK bH;go_wp2_with fail
    refine HC.1.mono ?_;rintro e w2 ⟨⟨s,p1,i1,c1,t,q1,m,d1,rfl,hq⟩,M⟩;obtain⟨xs,hK,hX⟩:=HO.1.keep (λ_=>IsQ.solid _) M;have Y:=Kh hK;have h:=Kh hX;have HQ:=Kh (show IsQ (F8 x U k) w2 s p1 i1 c1 t q1 m d1 by rw[HZ.1];exact hq);have J:=bt HB M;clear hK hX hq M HO HB a0 HC;go_wp2_with (at_builtin;refine Bj NotInt rfl (.tmp 22) (.tmp 28) _ 86 rfl underlying30 F1 rfl (by decide) w.heap.size k u5 xs [.bool s,.slice p1 i1 c1,.bool t,.slice q1 m d1] rfl Y.1 rfl rfl (fA _ _ _ _ _ _ _ _) (by omega) (by omega) J.1.size (kF _ _ _ _ _ _ _ _) iK ?_;intro v' w' I O aD;have Z:=Kh (OwnQ.push (W:=_) (λ_=>IsQ.solid _) Y.1 h.1 HQ.1 I O);have V:=Kh (Aw J.1 Y.1.1 O (mG _) J.1.size);clear I O aD)
    go_roundw
    case rel=>exact⟨k+1,by omega,by go_num,Z.1,V.1⟩
    case measure=>simp[intOf];omega
   ·have HZ:=Kh (show F8 x U k=Rat.divInt 0 d by rw[F8,if_neg hkl,HD.1])
    have bG:¬((k:Int)<(U:Int)):=by omega
    have HC:=Kh (Vm 0 d wr (by omega) (by omega) (by omega) (by omega));clear hb hd hr aK;go_wp2_with fail
    refine HC.1.mono ?_;rintro e w2 ⟨⟨s,p1,i1,c1,t,q1,m,d1,rfl,hq⟩,M⟩;obtain⟨xs,hK,hX⟩:=HO.1.keep (λ_=>IsQ.solid _) M;have Y:=Kh hK;have h:=Kh hX;have HQ:=Kh (show IsQ (F8 x U k) w2 s p1 i1 c1 t q1 m d1 by rw[HZ.1];exact hq);have J:=bt HB M;clear hK hX hq M HO HB HC;go_wp2_with (at_builtin;refine Bj NotInt rfl (.tmp 22) (.tmp 28) _ 86 rfl underlying30 F1 rfl (by decide) w.heap.size k u5 xs [.bool s,.slice p1 i1 c1,.bool t,.slice q1 m d1] rfl Y.1 rfl rfl (fA _ _ _ _ _ _ _ _) (by omega) (by omega) J.1.size (kF _ _ _ _ _ _ _ _) iK ?_;intro v' w' I O aD;have Z:=Kh (OwnQ.push (W:=_) (λ_=>IsQ.solid _) Y.1 h.1 HQ.1 I O);have V:=Kh (Aw J.1 Y.1.1 O (mG _) J.1.size);clear I O aD)
    go_roundw
    case rel=>exact⟨k+1,by omega,by go_num,Z.1,V.1⟩
    case measure=>simp[intOf];omega
  ·obtain rfl:k=n:=by omega
   clear hb;go_wp2;go_ret;exact⟨⟨_,rfl,HO.1⟩,HB.1⟩
structure ModR (w:World) (M n wt:Nat) (D:Int) (F:List Nat) (C:Nat) (X:Nat->Nat->Rat):Prop where
 check:Pl.check n ((wt:Int)+2) D=0
 cnt:cntF n wt=C
 len:F.length<=72
 mod:ModAt w M w.heap.size n ((wt:Int)+2) D F C X
 size:∀j f,j<C->f∈F->hq (X j f)<=10000
 rel:∀f,f∈F->RelZ n wt D (λj=>X j f)
theorem ModR.keep {w w':World} {M n wt:Nat} {D:Int} {F:List Nat} {C:Nat} {X:Nat->Nat->Rat} (h:ModR w M n wt D F C X) (I:Below w.heap.size w w'):ModR w' M n wt D F C X:=
 ⟨h.check,h.cnt,h.len,(h.mod.keep (mG _) I).up I.size,h.size,h.rel⟩
theorem Gv {M n wt:Nat} {D:Int} {F:List Nat} {C:Nat} {X:Nat->Nat->Rat} {w:World} (hT:Tab w) (h:ModR w M n wt D F C X) (v:Value) (f:Nat->Rat) (p q p' I:Int) (hp:QL (λj=>IsQ (f j)) w v (wt+1)) (hf:∀j,j<wt+1->hq (f j)<=4000)
  (J:-9223372036854775808<=p) (O:p<=9223372036854775807) (U:-9223372036854775808<=q) (V:q<=9223372036854775807) (Y:-9223372036854775808<=p') (Z:p'<=9223372036854775807) (aD:-9223372036854775808<=I) (aK:I<=9223372036854775807):
  Calls prog 24 #[.pointer (some ⟨M,0,none⟩),.agg #[v,.int .i64 p,.int .i64 q,.int .i64 p',.int .i64 I]] w λe w'=>CoRet w w' e p q p' I n wt D F X f/\Below w.heap.size w w':=by
 have h1:=Zk M w.heap.size n wt D F C X v (λj=>(f j).num) (λj=>(f j).den) p q p' I w hT h.check h.cnt h.len h.mod (mG _) h.size h.rel (hp.isB hf) J O U V Y Z aD aK;have e:(λi=>Rat.divInt (f i).num ((f i).den:Int))=f:=funext λi=>Rat.num_divInt_den (f i)
 rw[e]at h1;exact h1
theorem Qv {p q:Int} (h:Av p q=0):Cu (p,q):=by
 obtain⟨_,⟨M,O⟩,J⟩:=cuspE_zero h;unfold Av at h;split at h
 ·omega
 ·rename_i h6
  split at h
  ·omega
  ·rename_i h7
   exact⟨⟨by show 0<=q;omega,λI=>by have U:q=0:=I;show p=1;omega⟩,J⟩
theorem Mo {a b c d p q:Int} (I:a*d - b*c≠0) (Y:Av p q=0) (h1:(a*p+b*q).natAbs<=1073741824) (h2:(c*p+d*q).natAbs<=1073741824):
  Dy a b c d p q=(img a b c d (p,q),0)/\Av (img a b c d (p,q)).1 (img a b c d (p,q)).2=0/\(img a b c d (p,q)).1.natAbs<=(a*p+b*q).natAbs/\(img a b c d (p,q)).2.natAbs<=(c*p+d*q).natAbs:=by
 obtain⟨k,x,y,hk,hg,e1,e2,J,⟨M,O⟩,U,V⟩:=Ec (Fs I (Qv Y));have hi:img a b c d (p,q)=(x,y):=J;have Z:Hq x=true:=Dc.2 (by dsimp only at U;omega);have h:Hq y=true:=Dc.2 (by dsimp only at V;omega);rw[hi];refine⟨?_,?_,U,V⟩
 ·unfold Dy
  dsimp only at J;rw[if_neg (by simp[Y]),J,if_pos ⟨Z,h⟩]
 ·unfold Av
  rw[if_neg (by rw[Z,h];simp;exact M),if_neg (by rw[hg];simp;exact O)]
theorem Wf:Av 0 1=0:=by decide
theorem Wg:Av 1 0=0:=by decide
theorem Ps {A B C E:Int} (M:A*E - B*C=1) (bA:-20000<=A/\A<=20000) (bB:-20000<=B/\B<=20000) (bC:-20000<=C/\C<=20000) (bE:-20000<=E/\E<=20000):
  (Dy A B C E 0 1=(img A B C E (0,1),0)/\Av (img A B C E (0,1)).1 (img A B C E (0,1)).2=0/\(img A B C E (0,1)).1.natAbs<=20000/\(img A B C E (0,1)).2.natAbs<=20000) /\
  (Dy A B C E 1 0=(img A B C E (1,0),0)/\Av (img A B C E (1,0)).1 (img A B C E (1,0)).2=0/\(img A B C E (1,0)).1.natAbs<=20000/\(img A B C E (1,0)).2.natAbs<=20000):=by
 have I:=Mo (a:=A) (b:=B) (c:=C) (d:=E) (by omega) Wf (by omega) (by omega);have J:=Mo (a:=A) (b:=B) (c:=C) (d:=E) (by omega) Wg (by omega) (by omega);refine⟨⟨I.1,I.2.1,?_,?_⟩,J.1,J.2.1,?_,?_⟩
 ·have:=I.2.2.1;omega
 ·have:=I.2.2.2;omega
 ·have:=J.2.2.1;omega
 ·have:=J.2.2.2;omega
theorem C8 {a:Int} (I:-1000000000000<=a) (J:a<=1000000000000):nd a.natAbs<=2:=Be.2 (by omega)
theorem Nd (i j:Nat):hq (mono i j)<=1:=by
 unfold mono;split
 ·decide
 ·decide
noncomputable def symP (wt t:Nat) (A B C E:Int):Nat->Rat:=subst (mono t) wt E (-B) (-C) A (wt+1)
theorem Uy {wt t:Nat} {A B C E:Int} (I:wt<=22) (bA:-1000000000000<=A/\A<=1000000000000) (bB:-1000000000000<=B/\B<=1000000000000) (bC:-1000000000000<=C/\C<=1000000000000) (bE:-1000000000000<=E/\E<=1000000000000) (j:Nat):hq (symP wt t A B C E j)<=4000:=
 Cs (K:=4) (λi _=>mH (Nd t i) (by decide)) (C8 bE.1 bE.2) (C8 (by omega) (by omega)) (C8 (by omega) (by omega)) (C8 bA.1 bA.2) (by omega) (by omega)
theorem dS (M n wt:Nat) (D:Int) (F:List Nat) (C0:Nat) (X:Nat->Nat->Rat) (j q t:Nat) (w:World) (hT:Tab w) (hM:ModR w M n wt D F C0 X) (hj:j<(wt+1)*(pts n (n*n)).length) (hq:j % (pts n (n*n)).length=q) (ht:j / (pts n (n*n)).length=t):
  Calls prog 61 #[.pointer (some ⟨M,0,none⟩),.int .i64 j] w λe w'=>(∃(A B C E:Int) (g cap:Nat),e=.returned (.tuple #[.agg #[.slice (some ⟨g,0,none⟩) (wt+1) cap,.int .i64 (img A B C E (0,1)).1,.int .i64 (img A B C E (0,1)).2,.int .i64 (img A B C E (1,0)).1,.int .i64 (img A B C E (1,0)).2],.int .i64 0])/\LiftOf n q A B C E/\w.heap.size<=g/\QRow (λi=>IsQ (symP wt t A B C E i)) w' g (wt+1) (wt+1))/\Below w.heap.size w w':=by
 obtain⟨h1,h2,h3,h4,h5,h6⟩:=Aj hM.check
 have nS:0<(pts n (n*n)).length:=by
  rcases Nat.eq_zero_or_pos (pts n (n*n)).length with h|h
  ·rw[h,Nat.mul_zero]at hj;omega
  ·exact h
 have hR:q<(pts n (n*n)).length:=by rw[<-hq];exact Nat.mod_lt _ nS
 have hS:t<wt+1:=by rw[<-ht];exact Nat.div_lt_of_lt_mul (by rw[Nat.mul_comm];exact hj)
 obtain⟨a,ha⟩:∃a,(pts n (n*n)).getD q 0=a:=⟨_,rfl⟩
 obtain⟨u,hu⟩:∃u,a / n=u:=⟨_,rfl⟩
 obtain⟨v,hv⟩:∃v,a % n=v:=⟨_,rfl⟩
 have nG:=Kh (λW (hb:Below w.heap.size w W)=>Ge M w.heap.size n ((wt:Int)+2) D F C0 X W (hM.mod.keep (mG _) hb) hb.size);have mW:=Kh (λW (hb:Below w.heap.size w W)=>dR n wt D j q t a u v W (hT.below hb) hM.check hj hq ht ha hu hv);have mR:=Kh (λW=>Zo n q a u v W (by omega) (by omega) hR ha hu hv);have mS:=Kh (λW=>dO n q W (by omega) (by omega) hR);have qO:0<n:=by omega
 have pD:n<=120:=by omega
 have qT:wt<=22:=by omega
 have nY:=Ir (wt+1) (by omega);clear hT hM hj hq ht ha hu hv h1 h2 h3 h4 h5 h6 nS hR;go_enter func61,ntmps61
 go_wp2_with fail
 obtain⟨w0,oB,X0,nT⟩:=bx1 w #[.slice none 0 0,.int .i64 0,.int .i64 0,.int .i64 0,.int .i64 0] 57;rw[oB];obtain⟨gr,hJ⟩:∃x,w.heap.size=x:=⟨_,rfl⟩
 have bH:=Kh (show w.heap.size<=gr by omega);rw[hJ]at X0;try rw[hJ]
 have nH:=Kh X0;have gA:=Kh nT;clear oB X0 nT hJ;refine(nG.1 w0 gA.1).mono ?_;rintro e w1 ⟨rfl,hB⟩;have nI:=Kh (bk nH hB);have mC:=bt gA hB;clear hB nH gA nG;go_wp2_with fail
 obtain⟨w2,oC,S2,hD⟩:=bx1 w1 #[.int .i64 n,.int .i64 ((wt:Int)+2),.int .i64 D] 23;rw[oC];obtain⟨gs,nX⟩:∃x,w1.heap.size=x:=⟨_,rfl⟩
 rw[nX]at S2 ⊢;have nB:=Kh S2;have nJ:=Kh (bk nI hD);have gF:=bt mC hD;clear oC S2 hD nX nI mC;refine(mW.1 w2 gF.1).mono ?_;rintro e w3 ⟨rfl,dX⟩;have nC:=Kh (bk nB dX);have nK:=Kh (bk nJ dX);have mE:=bt gF dX;clear dX nB nJ gF mW;go_upto_region 5 with(fail)
 obtain⟨w4,oD,M4,dY⟩:=bx1 w3 #[.int .i64 (t:Int),.int .i64 (u:Int),.int .i64 (v:Int)] 180;rw[oD];obtain⟨gm,nW⟩:∃x,w3.heap.size=x:=⟨_,rfl⟩
 rw[nW]at M4 ⊢;have mT:=Kh M4;have gU:=Kh (bk nC dY);have nL:=Kh (bk nK dY);have mL:=bt mE dY;have s0:=gU.1.at_ 0 rfl;have k1:=M4.at_ 1 rfl;have k2:=M4.at_ 2 rfl;clear oD M4 dY nW nC nK mE;go_wp2_with fail
 refine(mR.1 w4).mono ?_;rintro e w5 ⟨rfl,cC⟩;have mU:=Kh (bk mT cC);have gX:=Kh (bk gU cC);have nM:=Kh (bk nL cC);have mM:=bt mL cC;clear s0 k1 k2 cC mT gU nL mL mR;have s0:=gX.1.at_ 0 rfl;go_wp2_with fail
 refine(mS.1 w5).mono ?_;rintro e w6 ⟨⟨A,B,C,E,rfl,hL⟩,cD⟩;have mV:=Kh (bk mU cD);have nD:=Kh (bk gX cD);have nN:=Kh (bk nM cD);have mN:=bt mM cD;have HL:=Kh hL;clear s0 cD hL mU gX nM mM mS;go_upto_region 11 with(fail)
 obtain⟨w7,oE,G7,cF⟩:=bx1 w6 #[.int .i64 A,.int .i64 B,.int .i64 C,.int .i64 E] 63;rw[oE];obtain⟨gg,nV⟩:∃x,w6.heap.size=x:=⟨_,rfl⟩
 rw[nV]at G7 ⊢;have gN:=Kh G7;have gS:=Kh (bk mV cF);have nE:=Kh (bk nD cF);have gY:=Kh (bk nN cF);have gL:=bt mN cF;clear oE G7 cF nV mV nD nN mN;have s1:=nE.1.at_ 1 rfl;obtain⟨L,hL⟩:∃L,wt+1=L:=⟨_,rfl⟩
 have pA:(wt:Int)+2 - 1=(L:Int):=by omega
 rw[hL]at nY hS;have cY:=Kh hL;have pB:L<=23:=by omega
 clear hL;go_wp2_with fail
 have eP:=QRow.made (λ_=>IsQ (((0:Int)):Rat)) w7 L;obtain⟨wy,hU⟩:∃wy,w7.alloc (.cells (madeCells #[.bool false,.slice none 0 0,.bool false,.slice none 0 0] (L*4)) 86)=wy:=⟨_,rfl⟩
 have hE:Below w7.heap.size w7 wy:=hU▸(Below.refl _ _).alloc (mG _) _;rw[hU]at eP ⊢;obtain⟨V,hI⟩:∃g,w7.heap.size=g:=⟨_,rfl⟩
 have gP:=Kh hI;rw[hI]at eP hE ⊢;have mX:=Kh eP;have mP:=Kh hE;clear eP hE hU hI s1 nY pA;go_loopw [12,59] (λ_ ii wr=>∃k:Nat,k<=L/\ii=.int .i64 k/\QRow (λ_=>IsQ (((0:Int)):Rat)) wr V L k/\Below V w7 wr) (λ_ ii _=>L - (intOf ii).toNat)
 case atStart=>exact⟨0,Nat.zero_le _,rfl,mX.1,mP.1⟩
 case round=>
  obtain⟨k,hk,rfl,J,nU⟩:=hrel;obtain⟨w9,rfl⟩:∃w9:World,w9=wr:=⟨_,rfl⟩
  have bY:=Kh J;have cX:=Kh nU;clear J nU mX mP;by_cases hlt:k<L
  ·have qN:(k:Int)<(L:Int):=by omega
   go_wp2_with fail
   refine(Ey 0 w9 (by omega) (by omega)).mono ?_;rintro e w8 ⟨⟨s6,p6,n6,c6,t6,q6,m6,d6,rfl,cV⟩,aN⟩;have O:=bY.1.keep (λ_=>IsQ.solid _) aN;have Z:=Kh (QRow.set (k':=k+1) (λ_=>IsQ.solid _) O k hlt (λ_=>IsQ (((0:Int)):Rat)) (IsQ.solid _) (λi h1 h2=>⟨by omega,rfl⟩) (show IsQ (((0:Int)):Rat) w8 s6 p6 n6 c6 t6 q6 m6 d6 from cV));have aK:=Kh (cX.1.trans (aN.mono (Nat.le_of_lt bY.1.sts.1)));obtain⟨u0,qQ⟩:=mK (O.has (k*4) (by omega));obtain⟨u1,qR⟩:=mK (O.has (k*4+1) (by omega));obtain⟨u2,hu2⟩:=mK (O.has (k*4+2) (by omega));obtain⟨u3,qS⟩:=mK (O.has (k*4+3) (by omega));have f0:=O.free (k*4) (by omega);have f1:=O.free (k*4+1) (by omega);have f2:=O.free (k*4+2) (by omega);have f3:=O.free (k*4+3) (by omega);clear aN O cV;go_wp2;go_roundw
   case rel=>exact⟨k+1,by omega,by go_num,Z.1,A5 aK.1⟩
   case measure=>simp[intOf];omega
  ·obtain rfl:L=k:=by omega
   have x0:=(gS.1.below_ cX.1 (mI gS.1.lt (Nat.le_of_eq gP.1))).at_ 0 rfl;have J:=bY.1;have cG:=J.free;have nA:=Kh (Nat.le_of_lt J.sts.1);obtain⟨s0,p0,n0,c0,t0,q0,m0,d0,a0,a1,a2,a3,_⟩:=J.val t hS;have qP:(t:Int)<(L:Int):=by omega
   clear J;go_upto_region 19 with(fail)
   refine K6 (λW=>W.cell? ⟨gm,0,none⟩=some (.int .i64 (t:Int))/\W.cell? ⟨V,t*4,none⟩=some (.bool s0)/\W.frozen? ⟨V,t*4,none⟩=false/\W.cell? ⟨V,t*4+1,none⟩=some (.slice p0 n0 c0)/\W.frozen? ⟨V,t*4+1,none⟩=false/\W.cell? ⟨V,t*4+2,none⟩=some (.bool t0)/\W.frozen? ⟨V,t*4+2,none⟩=false/\W.cell? ⟨V,t*4+3,none⟩=some (.slice q0 m0 d0)/\W.frozen? ⟨V,t*4+3,none⟩=false) (λW hb=>⟨Au hb x0,Au hb a0,Ac hb (by rw[a0];rfl) (cG (t*4) (by omega)),Au hb a1,Ac hb (by rw[a1];rfl) (cG (t*4+1) (by omega)),Au hb a2,Ac hb (by rw[a2];rfl) (cG (t*4+2) (by omega)),Au hb a3,Ac hb (by rw[a3];rfl) (cG (t*4+3) (by omega))⟩) (λnF hHeld0=>?_);refine Al 0 ?_;refine Al 1 ?_;refine Al 2 ?_;refine F9 3 rfl (λK hK=>?_);focus(go_simp;refine(Ey 1 w9.drew (by omega) (by omega)).mono ?_;rintro e w8 ⟨⟨s6,p6,n6,c6,t6,q6,m6,d6,rfl,cV⟩,aN⟩;have aK:=Kh ((Below.refl _ w9).drew.trans aN:Below w9.heap.size w9 w8);have oA:=bY.1.keep (λ_=>IsQ.solid _) aK.1;have Z:=Kh (QRow.set (k':=L) (λ_=>IsQ.solid _) oA t hS (λq=>IsQ (if q=t then(((1:Int)):Rat)else(((0:Int)):Rat))) (IsQ.solid _) (λi h1 h2=>⟨h1,by rw[if_neg h2]⟩) (by rw[if_pos rfl];exact cV));have mO:=Kh (cX.1.trans (aK.1.mono nA.1));clear aN cV oA;(first|with_reducible refine hK.out _ _ ?_ (λhHeld1=>?_) |(go_wp2_with fail;with_reducible refine hK.out _ _ ?_ (λhHeld1=>?_))))
   focus((try dsimp only);exact nF.1 _ aK.1)
   focus(clear hK K;(try simp only[Act.put,Br,Bt,Bs]))
   refine Al 4 ?_;refine K5 5 rfl (λK hK=>?_);go_simp
   refine hK.out _ _ ?_;clear hK K
   (try simp only[Act.put,Br,Bt,Bs])
   have cT:=Z.1;have U:=A5 (i:=t*4) (j:=t*4+1) (k:=t*4+2) (l:=t*4+3) (v0:=.bool s6) (v1:=.slice p6 n6 c6) (v2:=.bool t6) (v3:=.slice q6 m6 d6) mO.1;obtain⟨hV,eV⟩:∃hV,(((w8.setCell ⟨V,t*4,none⟩ (.bool s6)).setCell ⟨V,t*4+1,none⟩ (.slice p6 n6 c6)).setCell ⟨V,t*4+2,none⟩ (.bool t6)).setCell ⟨V,t*4+3,none⟩ (.slice q6 m6 d6)=hV:=⟨_,rfl⟩
   rw[eV]at cT U ⊢;have hG:∀{g:Nat},g<w7.heap.size->g<V:=λh=>mI h (Nat.le_of_eq gP.1)
   have mY:=Kh (QRow.congr (G:=λi=>IsQ (mono t i)) cT (λi _=>by
    unfold mono;congr 1))
   have cA:=Kh (gY.1.below_ U (hG gY.1.lt));have bG:=Kh (gL.1.trans (U.mono (mH gL.1.size (Nat.le_of_eq gP.1))));have aX:=gN.1.below_ U (hG gN.1.lt);have g0:=aX.at_ 0 rfl;have g1:=aX.at_ 1 rfl;have g2:=aX.at_ 2 rfl;have g3:=aX.at_ 3 rfl;clear cT U eV hG aX cG x0 a0 a1 a2 a3 nF hHeld0 hHeld1 Z mO cX bY aK gS nE gY gN gL;have Y:=HL.1;obtain⟨⟨e1,_⟩,e2,_⟩:=Ps Y.det Y.bA Y.bB Y.bC Y.bE;have dC:=Kh (El 4 (by decide) (by decide) (.slice (some ⟨V,0,none⟩) L L) L (λi=>(mono t i).num) (λi=>((mono t i).den:Int)) 0 1 1 0 A B C E hV ((mY.1.ql L).isB (λi _=>mH (Nd t i) (by decide))) (by omega) pB (by have:=Y.bA;omega) (by have:=Y.bA;omega) (by have:=Y.bB;omega) (by have:=Y.bB;omega) (by have:=Y.bC;omega) (by have:=Y.bC;omega) (by have:=Y.bE;omega) (by have:=Y.bE;omega) (by rw[Y.det];decide) (by decide) (by decide) (by decide) (by decide) (by decide) (by decide) (by decide) (by decide));have he:cZ A B C E 0 1 1 0=0:=by unfold cZ;rw[e1,e2];rfl
   rw[e1,e2,he,show(λi=>Rat.divInt (mono t i).num ((mono t i).den:Int))=mono t from funext λi=>Rat.num_divInt_den _]at dC;rw[show L - 1=wt by have:=cY.1;omega]at dC;clear Y e1 e2 he;go_wp2_with fail
   refine dC.1.mono ?_;rintro e hW ⟨nZ,cB⟩;obtain⟨_,g,cap,rfl,hg,J⟩:=nZ.resolve_left (λh=>h.1 rfl);obtain⟨i0,hN⟩:∃i,(img A B C E (0,1)).1=i:=⟨_,rfl⟩
   obtain⟨i1,hO⟩:∃i,(img A B C E (0,1)).2=i:=⟨_,rfl⟩
   obtain⟨i2,hP⟩:∃i,(img A B C E (1,0)).1=i:=⟨_,rfl⟩
   obtain⟨i3,hQ⟩:∃i,(img A B C E (1,0)).2=i:=⟨_,rfl⟩
   have oS:=Kh (λW (g cap:Nat) (h1:w.heap.size<=g) (h2:QRow (λi=>IsQ (symP wt t A B C E i)) W g (wt+1) (wt+1))=>(show ∃(A B C E:Int) (g' nP:Nat),Ending.returned (.tuple #[.agg #[.slice (some ⟨g,0,none⟩) (wt+1) cap,.int .i64 i0,.int .i64 i1,.int .i64 i2,.int .i64 i3],.int .i64 0])=.returned (.tuple #[.agg #[.slice (some ⟨g',0,none⟩) (wt+1) nP,.int .i64 (img A B C E (0,1)).1,.int .i64 (img A B C E (0,1)).2,.int .i64 (img A B C E (1,0)).1,.int .i64 (img A B C E (1,0)).2],.int .i64 0])/\LiftOf n q A B C E/\w.heap.size<=g'/\QRow (λi=>IsQ (symP wt t A B C E i)) W g' (wt+1) (wt+1)from⟨A,B,C,E,g,cap,by rw[hN,hO,hP,hQ],HL.1,h1,h2⟩));have mZ:=Kh (show QRow (λi=>IsQ (symP wt t A B C E i)) hW g L L from by unfold symP;rw[cY.1];exact J);have I:=Kh (bk cA cB);have mD:=bt bG cB;have mQ:=Kh (show gr<g/\w.heap.size<=g from⟨mI cA.1.lt hg,mH bG.1.size hg⟩);have z0:=I.1.at_ 0 rfl;have z1:=I.1.at_ 1 rfl;have z2:=I.1.at_ 2 rfl;have z3:=I.1.at_ 3 rfl;have z4:=I.1.at_ 4 rfl;have f0:=I.1.free_ 0;have f1:=I.1.free_ 1;have f2:=I.1.free_ 2;have f3:=I.1.free_ 3;have f4:=I.1.free_ 4;rw[hN,hO,hP,hQ];clear nZ cB hg J dC cA bG g0 g1 g2 g3 hN hO hP hQ;go_wp2;have XS:=((((I.1.set_ 0 (.slice (some ⟨g,0,none⟩) L cap)).set_ 1 (.int .i64 i0)).set_ 2 (.int .i64 i1)).set_ 3 (.int .i64 i2)).set_ 4 (.int .i64 i3);have e0:=XS.at_ 0 rfl;have e1:=XS.at_ 1 rfl;have e2:=XS.at_ 2 rfl;have e3:=XS.at_ 3 rfl;have e4:=XS.at_ 4 rfl;have pF:Stk NotU32 hW gr:=Stk.of I.1 (by intro v hv;simp at hv;rcases hv with rfl|rfl|rfl|rfl|rfl <;> exact λ_ h=>by cases h);have pE:=mZ.1.i32 (λ_=>IsQ.solid _) (I32.path pF (some ⟨g,0,none⟩) L cap i0 i1 i2 i3) (Jr hW gr _ _ _ _ _) (by have:=mQ.1.1;omega);refine bodyPost_ret (by simp[results,results61,go_sem,e0,e1,e2,e3,e4];try rfl) rfl ?_;exact⟨by have h:=oS.1 _ g cap mQ.1.2 (by rw[cY.1];exact pE);rw[cY.1]at h ⊢;exact h,(((((mD.1.setCell (p:=⟨gr,0,none⟩) bH.1 _).setCell (p:=⟨gr,1,none⟩) bH.1 _).setCell (p:=⟨gr,2,none⟩) bH.1 _).setCell (p:=⟨gr,3,none⟩) bH.1 _).setCell (p:=⟨gr,4,none⟩) bH.1 _)⟩
end
section
open Eli
section
variable {n wt:Nat} {D:Int} {Φ:(Nat->Rat)->Int×Int->Int×Int->Rat}
theorem T8 {k:Int} (J:Pl.check n k D=0):Pl.kroP D 1=1:=by
 obtain⟨⟨Z,h⟩,_,⟨O,U⟩,V,Y⟩:=Pl.check_ok J;obtain⟨M,I⟩:=Pl.kro_mul (N:=n) (D:=D) (a:=1) (b:=1) (c:=1) (by omega) O U V Y (by omega) (by omega) (by omega) (by omega) (by omega) (by omega) (by simp) (by simp) (by simp) (by simp);rcases I with I|I
 ·exact I
 ·rw[I]at M;exact absurd M (by decide)
theorem Ua (M:Pl.check n ((wt:Int)+2) D=0) (aN:PF n wt D Φ) (t:Nat) {A B C E A' B' I J:Int} (h:A*E - B*C=1) (h':A'*J - B'*I=1) (hC:I % n=C % n) (hE:J % n=E % n):
  Φ (symP wt t A' B' I J) (img A' B' I J (0,1)) (img A' B' I J (1,0))=Φ (symP wt t A B C E) (img A B C E (0,1)) (img A B C E (1,0)):=by
 obtain⟨⟨a1,a2⟩,_⟩:=Pl.check_ok M;obtain⟨a,Z⟩:∃a,a=A'*E - B'*C:=⟨_,rfl⟩
 obtain⟨b,hb⟩:∃b,b=B'*A - A'*B:=⟨_,rfl⟩
 obtain⟨c,V⟩:∃c,c=I*E - J*C:=⟨_,rfl⟩
 obtain⟨d,Y⟩:∃d,d=J*A - I*B:=⟨_,rfl⟩
 have O:a*d - b*c=1:=by
  have e:a*d - b*c=(A*E - B*C)*(A'*J - B'*I):=by rw[Z,hb,V,Y];grind
  rw[e,h,h'];rfl
 have d1:(n:Int)∣I - C:=Int.dvd_of_emod_eq_zero (Int.emod_eq_emod_iff_emod_sub_eq_zero.1 hC);have d2:(n:Int)∣J - E:=Int.dvd_of_emod_eq_zero (Int.emod_eq_emod_iff_emod_sub_eq_zero.1 hE)
 have U:(n:Int)∣c:=by
  have e:c=(I - C)*E - (J - E)*C:=by rw[V];grind
  rw[e];exact Int.dvd_sub (Int.dvd_trans d1 (Int.dvd_mul_right _ _)) (Int.dvd_trans d2 (Int.dvd_mul_right _ _))
 have aK:((1:Nat):Int) % n=d % n:=by
  have e:d - 1=(J - E)*A - (I - C)*B:=by rw[Y,<-h];grind
  have h1:(n:Int)∣d - 1:=by
   rw[e];exact Int.dvd_sub (Int.dvd_trans d2 (Int.dvd_mul_right _ _)) (Int.dvd_trans d1 (Int.dvd_mul_right _ _))
  exact(Int.emod_eq_emod_iff_emod_sub_eq_zero.2 (Int.emod_eq_zero_of_dvd h1)).symm
 have hm:=aN.move (symP wt t A B C E) a b c d 1 (img A B C E (0,1)) (img A B C E (1,0)) ⟨O,U⟩ (mG 1) (by omega) (by simp[pun]) aK (Bn (by omega) Cu.zero) (Bn (by omega) Cu.inf)
 have m1:a*A+b*C=A':=by
  have e:a*A+b*C=A'*(A*E - B*C):=by rw[Z,hb];grind
  rw[e,h,Int.mul_one]
 have m2:a*B+b*E=B':=by
  have e:a*B+b*E=B'*(A*E - B*C):=by rw[Z,hb];grind
  rw[e,h,Int.mul_one]
 have m3:c*A+d*C=I:=by
  have e:c*A+d*C=I*(A*E - B*C):=by rw[V,Y];grind
  rw[e,h,Int.mul_one]
 have m4:c*B+d*E=J:=by
  have e:c*B+d*E=J*(A*E - B*C):=by rw[V,Y];grind
  rw[e,h,Int.mul_one]
 have hs:subst (symP wt t A B C E) wt d (-b) (-c) a (wt+1)=symP wt t A' B' I J:=by
  unfold symP;rw[Iw];have f1:E*d+-B * -c=J:=by rw[<-m4];grind
  have f2:E * -b+-B*a=-B':=by rw[<-m2];grind
  have f3:-C*d+A * -c=-I:=by rw[<-m3];grind
  have f4:-C * -b+A*a=A':=by rw[<-m1];grind
  rw[f1,f2,f3,f4]
 rw[hs,Eo (by omega) (by omega) Cu.zero,Eo (by omega) (by omega) Cu.inf,m1,m2,m3,m4,T8 M]at hm;rw[hm];grind
theorem Vi (J:Pl.check n ((wt:Int)+2) D=0) (M:PF n wt D Φ) {γ:Nat->M4} (O:D3 n γ) {j:Nat} (Z:j % (pts n (n*n)).length<(pts n (n*n)).length) {A B C E:Int} (I:LiftOf n (j % (pts n (n*n)).length) A B C E):
  Φ (symP wt (j / (pts n (n*n)).length) A B C E) (img A B C E (0,1)) (img A B C E (1,0))=Qa wt (pts n (n*n)).length γ Φ j:=by
 obtain⟨U,V,Y⟩:=O _ Z;exact Ua J M _ U I.det (by rw[I.c,V]) (by rw[I.d,Y])
end
theorem G6 {n:Nat} (O:0<n):∃γ,D3 n γ:=by
 have M:∀p,p<(pts n (n*n)).length->∃g:M4,g.1*g.2.2.2 - g.2.1*g.2.2.1=1/\g.2.2.1 % n=(((pts n (n*n)).getD p 0 / n:Nat):Int) % n/\g.2.2.2 % n=(((pts n (n*n)).getD p 0 % n:Nat):Int) % n:=by
  intro p I;have Y:=Bd I;have J:=Jc (Ig Y).1;by_cases hu:(pts n (n*n)).getD p 0 / n=0
  ·refine⟨(1,0,0,1),by decide,by rw[hu];rfl,?_⟩
   rw[Sx O I hu]
   push_cast
   rw[Int.emod_emod_of_dvd _ (Int.dvd_refl _)]
  ·obtain⟨U,hU⟩:∃U,(pts n (n*n)).getD p 0 / n=U:=⟨_,rfl⟩
   obtain⟨V,hV⟩:∃V,(pts n (n*n)).getD p 0 % n=V:=⟨_,rfl⟩
   rw[hU,hV]at J;rw[hU]at hu;rw[hU,hV];obtain⟨K,_,hg⟩:=Sf (show 0<U by omega) J;obtain⟨r,_,q,hq⟩:=Wy (k:=(U:Int)) (d:=((V+K*n:Nat):Int)) (m:=U) (by omega) (by omega) (by rw[Int.gcd_natCast_natCast,Nat.gcd_comm];exact hg);refine⟨((r:Int),q,(U:Int),((V+K*n:Nat):Int)),by show(r:Int)*((V+K*n:Nat):Int) - q*U=1;rw[Int.mul_comm q];omega,rfl,?_⟩;show((V+K*n:Nat):Int) % n=(V:Int) % n
   push_cast
   rw[Int.add_mul_emod_self_right]
 refine⟨λp=>if I:p<(pts n (n*n)).length then Classical.choose (M p I)else(1,0,0,1),λp I=>?_⟩;dsimp only;rw[dif_pos I];exact Classical.choose_spec (M p I)
end
section
open Go.RowKit Eli Tryz
theorem Vz (n:Nat) (w:World) (hn:n<=1000):
  Calls prog 120 #[.int .i64 n] w λe w'=>(∃g,e=.returned (.slice (some ⟨g,0,none⟩) n n)/\w.heap.size<=g/\QRow (λ_=>IsQ (((0:Int)):Rat)) w' g n n)/\Below w.heap.size w w':=by
 have bY:=Ir n (by omega);go_enter func120,ntmps120
 go_wp2_with fail
 have J:=QRow.made (λ_=>IsQ (((0:Int)):Rat)) w n;obtain⟨wy,Y⟩:∃wy,w.alloc (.cells (madeCells #[.bool false,.slice none 0 0,.bool false,.slice none 0 0] (n*4)) 86)=wy:=⟨_,rfl⟩
 have V:Below w.heap.size w wy:=Y▸(Below.refl _ _).alloc (mG _) _;rw[Y]at J ⊢;obtain⟨G,hG⟩:∃g,w.heap.size=g:=⟨_,rfl⟩
 have aD:=Kh hG;rw[hG]at J V ⊢;have aN:=Kh J;have h:=Kh V;clear J V Y hG;go_loopw [9] (λii wr=>∃k:Nat,k<=n/\ii=.int .i64 k/\QRow (λ_=>IsQ (((0:Int)):Rat)) wr G n k/\Below G w wr) (λii _=>n - (intOf ii).toNat)
 case atStart=>exact⟨0,Nat.zero_le _,rfl,aN.1,h.1⟩
 case round=>
  obtain⟨k,hk,rfl,M,aX⟩:=hrel;obtain⟨w6,rfl⟩:∃w6:World,w6=wr:=⟨_,rfl⟩
  have O:=Kh M;have Z:=Kh aX;clear M aX aN h;by_cases hlt:k<n
  ·have cD:(k:Int)<(n:Int):=by omega
   go_wp2_with fail
   refine(Ey 0 w6 (by omega) (by omega)).mono ?_;rintro e w8 ⟨⟨s6,p6,n6,c6,t6,q6,m6,d6,rfl,bA⟩,U⟩;have I:=O.1.keep (λ_=>IsQ.solid _) U;have aK:=Kh (QRow.set (k':=k+1) (λ_=>IsQ.solid _) I k hlt (λ_=>IsQ (((0:Int)):Rat)) (IsQ.solid _) (λi h1 h2=>⟨by omega,rfl⟩) (show IsQ (((0:Int)):Rat) w8 s6 p6 n6 c6 t6 q6 m6 d6 from bA));have bB:=Kh (Z.1.trans (U.mono (Nat.le_of_lt O.1.sts.1)));obtain⟨u0,cF⟩:=mK (I.has (k*4) (by omega));obtain⟨u1,cG⟩:=mK (I.has (k*4+1) (by omega));obtain⟨u2,hu2⟩:=mK (I.has (k*4+2) (by omega));obtain⟨u3,cT⟩:=mK (I.has (k*4+3) (by omega));have f0:=I.free (k*4) (by omega);have f1:=I.free (k*4+1) (by omega);have f2:=I.free (k*4+2) (by omega);have f3:=I.free (k*4+3) (by omega);clear U I bA;go_wp2;go_roundw
   case rel=>exact⟨k+1,by omega,by go_num,aK.1,A5 bB.1⟩
   case measure=>simp[intOf];omega
  ·obtain rfl:n=k:=by omega
   clear hlt hk;go_wp2;go_ret;exact⟨⟨G,rfl,Nat.le_of_eq aD.1,O.1⟩,aD.1▸Z.1⟩
def uF (k:Nat):Nat->Nat->Rat:=λi q=>if i=q/\i<k then(((1:Int)):Rat)else(((0:Int)):Rat)
end
end Go.Proofs.YtenlbhlllgppmaaGreatDoor
