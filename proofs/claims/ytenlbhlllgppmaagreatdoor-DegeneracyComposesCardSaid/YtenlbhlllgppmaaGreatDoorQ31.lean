/- Path functionals, plain: the class at another level of the image of a path under a matrix. No program in sight. -/
import Derived.Test.YtenlbhlllgppmaaGreatDoorQ30
set_option linter.unusedSimpArgs false
set_option maxRecDepth 100000
set_option maxHeartbeats 8000000
namespace Go.Proofs.YtenlbhlllgppmaaGreatDoor
section
open Eli
section
variable {n wt:Nat} {D:Int} {x:Nat->Rat}
theorem Kv (q:Nat->Rat) (f:Nat->Nat->Rat) (m:Nat) (a b c d:Int) (l:Nat):
  subst (λj=>sumQ (λi=>q i*f i j) m) wt a b c d (wt+1) l=sumQ (λi=>q i*subst (f i) wt a b c d (wt+1) l) m:=by
 unfold subst
 have H:sumQ (λi=>sumQ (λk=>q k*f k i) m*(mv i a b c d wt l:Rat)) (wt+1)=sumQ (λi=>sumQ (λk=>q k*(f k i*(mv i a b c d wt l:Rat))) m) (wt+1):=Ad (λi _=>by
  rw[show sumQ (λk=>q k*f k i) m*(mv i a b c d wt l:Rat)=(mv i a b c d wt l:Rat)*sumQ (λk=>q k*f k i) m by grind,<-Ap];exact Ad (λk _=>by grind))
 rw[H,Cx];exact Ad (λk _=>by rw[Ap])
theorem Rl {Q Q':Nat->Rat} (h:∀j,j<wt+1->Q j=Q' j) (a b c d:Int):subst Q wt a b c d (wt+1)=subst Q' wt a b c d (wt+1):=funext λl=>by
 unfold subst;exact Ad (λi H=>by rw[h i H])
theorem Xr (q:Nat->Rat) (f:Nat->Nat->Rat) (m:Nat) (a b c d:Int):ph n wt D x (λj=>sumQ (λi=>q i*f i j) m) a b c d=sumQ (λi=>q i*ph n wt D x (f i) a b c d) m:=by
 unfold ph;rw[<-Mr];unfold cP;exact Ad (λi _=>by rw[Kv])
theorem Yp (q:Nat->Rat) (f:Nat->Nat->Rat) (m:Nat) (u v:Int×Int):Ag n wt D x (λj=>sumQ (λi=>q i*f i j) m) u v=sumQ (λi=>q i*Ag n wt D x (f i) u v) m:=by
 unfold Ag;by_cases h:v.1*u.2 - u.1*v.2=1
 ·simp only[if_pos h];exact Xr q f m _ _ _ _
 ·simp only[if_neg h];exact Xr q f m _ _ _ _
theorem Sv (q:Nat->Rat) (f:Nat->Nat->Rat) (m:Nat):∀u,Cu u->Pot (Ag n wt D x (λj=>sumQ (λi=>q i*f i j) m)) u=sumQ (λi=>q i*Pot (Ag n wt D x (f i)) u) m:=by
 refine M7 ?_ (λz t Y V U H I J O=>?_)
 ·rw[Fl,A4 (λi _=>?_)]
  rw[Fl,Rat.mul_zero]
 ·rw[Cj H I J,O,Yp,<-Ar]
  exact Ad (λi _=>by rw[Cj (st:=Ag n wt D x (f i)) H I J];grind)
noncomputable def clG (n wt:Nat) (D:Int) (x:Nat->Rat) (A B C E:Int) (Q:Nat->Rat) (u v:Int×Int):Rat:=
 Pot (Ag n wt D x (subst Q wt E (-B) (-C) A (wt+1))) (img A B C E v) - Pot (Ag n wt D x (subst Q wt E (-B) (-C) A (wt+1))) (img A B C E u)
end
def fP (n n':Nat) (D A B C E:Int):Prop:=∀(a b c d:Int) (s:Nat),G0 n a b c d->1<=s->s<=n->pun n s=true->(s:Int) % n=d % n ->
 ∃(a' b' c' d':Int) (s':Nat),G0 n' a' b' c' d'/\1<=s'/\s'<=n'/\pun n' s'=true/\(s':Int) % n'=d' % n'/\Pl.kroP D s'=Pl.kroP D s/\A*a+B*c=a'*A+b'*C/\A*b+B*d=a'*B+b'*E/\C*a+E*c=c'*A+d'*C/\C*b+E*d=c'*B+d'*E
theorem PF.of_norm {n n' wt:Nat} {D A B C E:Int} {x:Nat->Rat} (I:Pl.check n' ((wt:Int)+2) D=0) (hR:RelZ n' wt D x) (H:A*E - B*C≠0) (hN:fP n n' D A B C E):PF n wt D (clG n' wt D x A B C E) where
 congr Q Q' u v h:=by
  unfold clG;rw[Rl h]
 lin q f m u v hu hv:=by
  unfold clG;have e0:subst (λj=>sumQ (λi=>q i*f i j) m) wt E (-B) (-C) A (wt+1)=λj=>sumQ (λi=>q i*subst (f i) wt E (-B) (-C) A (wt+1) j) m:=funext λl=>Kv q f m _ _ _ _ l
  have e:∀a b:Nat->Rat,∀m,sumQ a m - sumQ b m=sumQ (λi=>a i - b i) m:=λa b m=>by
   induction m with
   | zero=>show(0:Rat) - 0=0;grind
   | succ m ih=>rw[sumQ,sumQ,sumQ,<-ih];grind
  rw[e0,Sv q (λi=>subst (f i) wt E (-B) (-C) A (wt+1)) m _ (Bn H hv),Sv q (λi=>subst (f i) wt E (-B) (-C) A (wt+1)) m _ (Bn H hu),e];exact Ad (λi _=>by grind)
 add Q u v z _ _ _:=by
  unfold clG;grind
 move Q a b c d s u v hg h1 h2 h3 h4 hu hv:=by
  obtain⟨O,U,V,Y,s',J,Z,aD,aJ,aK,hk,e1,e2,e3,e4⟩:=hN a b c d s hg h1 h2 h3 h4
  have hi:∀y,Cu y->img A B C E (img a b c d y)=img O U V Y (img A B C E y):=λy hy=>by
   rw[Eo (by rw[hg.det];decide) H hy,Eo H (by rw[J.det];decide) hy,e1,e2,e3,e4]
  unfold clG;rw[hi u hu,hi v hv,Iw,<-hk,<-Xx I hR J Z aD aJ aK (Bn H hu) (Bn H hv),Iw];have f1:d*E+-b * -C=E*Y+-B * -V:=by grind
  have f2:d * -B+-b*A=E * -U+-B*O:=by grind
  have f3:-c*E+a * -C=-C*Y+A * -V:=by grind
  have f4:-c * -B+a*A=-C * -U+A*O:=by grind
  rw[f1,f2,f3,f4]
theorem Pf {n n' t:Nat} {D k:Int} (Z:Pl.check n k D=0) (O:Pl.check n' k D=0) (ht:0<t) (h:n'*t∣n):fP n n' D t 0 0 1:=by
 obtain⟨⟨a1,a2⟩,_⟩:=Pl.check_ok Z;obtain⟨⟨b1,b2⟩,_,⟨b3,b4⟩,b5,b6⟩:=Pl.check_ok O;intro a b c d s hg h1 h2 h3 h4;obtain⟨Y,J⟩:(t:Int)∣c:=Int.dvd_trans (Int.dvd_trans (Int.natCast_dvd_natCast.2 (Nat.dvd_mul_left t n')) (Int.natCast_dvd_natCast.2 h)) hg.low
 have aK:(n':Int)∣Y:=by
  have h5:((n'*t:Nat):Int)∣c:=Int.dvd_trans (Int.natCast_dvd_natCast.2 h) hg.low;rw[J,Int.natCast_mul,Int.mul_comm (n':Int)]at h5;exact Int.dvd_of_mul_dvd_mul_left (by omega) h5
 have I:n'∣n:=Nat.dvd_trans (Nat.dvd_mul_right n' t) h;have hG:G0 n' a (t*b) Y d:=⟨by rw[<-hg.det,J];grind,aK⟩
 obtain⟨V,g1,g2,g3,g4,_⟩:=bZ (by omega) hG
 have hs:pun n' s=true:=by
  simp only[pun,beq_iff_eq]at h3 ⊢;exact Nat.dvd_one.1 (h3▸Nat.dvd_gcd (Nat.gcd_dvd_left ..) (Nat.dvd_trans (Nat.gcd_dvd_right ..) I))
 have aL:s*1 % n'=V % n':=by
  have U:(s:Int) % n'=d % n':=by
   rw[<-Int.emod_emod_of_dvd (s:Int) (Int.natCast_dvd_natCast.2 I),h4,Int.emod_emod_of_dvd d (Int.natCast_dvd_natCast.2 I)]
  rw[Nat.mul_one];have H:((s % n':Nat):Int)=((V % n':Nat):Int):=by push_cast;rw[U,g4]
  exact_mod_cast H
 have hk:=(Pl.kro_mul (N:=n') (D:=D) (a:=s) (b:=1) (c:=V) (by omega) b3 b4 b5 b6 (by omega) (by omega) (by omega) (by omega) (by omega) (by omega) (by simpa [pun] using hs) (by simp) (by simpa [pun] using g3) aL).1;have aD:=(Pl.kro_mul (N:=n') (D:=D) (a:=1) (b:=1) (c:=1) (by omega) b3 b4 b5 b6 (by omega) (by omega) (by omega) (by omega) (by omega) (by omega) (by simp) (by simp) (by simp) (by simp))
 have aJ:Pl.kroP D 1=1:=by
  obtain⟨U,H⟩:=aD;rcases H with H|H
  ·exact H
  ·rw[H]at U;exact absurd U (by decide)
 rw[aJ,Int.mul_one]at hk;refine⟨a,t*b,Y,d,V,hG,g1,g2,g3,g4,hk,?_,?_,?_,?_⟩ <;> grind
end
section
open Go.RowKit Eli Tryz
theorem RetP.ok {w w':World} {e:Ending} {n:Nat} {f:Nat->Rat} {X Y:Int×Int} {H:Int} (h:RetP w w' e n f X Y H):
  ∃O U,e=.returned (.tuple #[.agg #[.slice O (if H=0 then n else 0) U,.int .i64 ((if H=0 then X else(0,0)).1),.int .i64 ((if H=0 then X else(0,0)).2),.int .i64 ((if H=0 then Y else(0,0)).1),.int .i64 ((if H=0 then Y else(0,0)).2)],.int .i64 H])/\QL (λj=>IsQ (f j)) w' (.slice O (if H=0 then n else 0) U) (if H=0 then n else 0)/\∀a,O=some a->w.heap.size<=a.block:=by
 rcases h with⟨h,J⟩ |⟨h,g,cap,J,hg,hr⟩
 ·simp only[if_neg h]
  exact⟨none,0,J,.inl ⟨rfl,_,_,rfl⟩,λa I=>by cases I⟩
 ·subst h
  simp only[if_true];exact⟨_,cap,J,hr.ql cap,λa I=>by injection I with I;subst I;exact hg⟩
theorem IsQ.isB {K:Nat} {r:Rat} {w:World} {s:Bool} {p:Option Addr} {n c:Nat} {t:Bool} {q:Option Addr} {m d:Nat} (h:IsQ r w s p n c t q m d) (hr:hq r<=K):IsB K r.num r.den w s p n c t q m d:=
 ⟨h.1.raw,h.2.raw,by have:=Qs.sizes h;omega,by have:=Qs.sizes h;omega⟩
theorem QL.isB {K:Nat} {f:Nat->Rat} {w:World} {v:Value} {n:Nat} (h:QL (λj=>IsQ (f j)) w v n) (hf:∀j,j<n->hq (f j)<=K):QL (λj=>IsB K (f j).num (f j).den) w v n:=by
 rcases h with h |⟨g,o,c,Y,Z,h3⟩
 ·exact .inl h
 ·exact .inr ⟨g,o,c,Y,Z,λj H=>by
   obtain⟨s,p,k,I,t,q,m,d,J,O,U,V,hx⟩:=h3 j H;exact⟨s,p,k,I,t,q,m,d,J,O,U,V,IsQ.isB hx (hf j H)⟩⟩
theorem Ym (Q:Nat->Rat) (n wt:Nat) (D:Int) (X:Nat->Nat->Rat) (a b:Int×Int) (f:Nat):U5 Q n wt D X a b f (wt+1)=Ag n wt D (λj=>X j f) Q a b:=by
 unfold Ag U5 bP Ak;split <;> rfl
theorem Uv {n wt:Nat} {D:Int} {X:Nat->Nat->Rat} {f:Nat} {a b:Int×Int} {ch:List (Int×Int)} (I:Pl.check n ((wt:Int)+2) D=0) (Y:RelZ n wt D (λj=>X j f)) (h:ChainOk a b ch) (Q:Nat->Rat):
  N4 Q n wt D X ch f (ch.length - 1)=Pot (Ag n wt D (λj=>X j f) Q) b - Pot (Ag n wt D (λj=>X j f) Q) a:=by
 have Z:=Pq (Q:=Q) I Y;have H:∀j,j<ch.length->ch[j]?=some (ch.getD j (0,0)):=λj J=>by rw[List.getD_eq_getElem?_getD,List.getElem?_eq_getElem J];rfl
 have O:=Z.chain (λj=>ch.getD j (0,0)) (ch.length - 1) (λj J=>(h.good _ (List.mem_of_getElem? (H j (by have:=h.pos;omega)))).2) (λj J=>h.nb j _ _ (H j (by omega)) (H (j+1) (by omega)));have U:ch.getD 0 (0,0)=a:=by rw[List.getD_eq_getElem?_getD,h.first];rfl
 have V:ch.getD (ch.length - 1) (0,0)=b:=by rw[List.getD_eq_getElem?_getD,h.last];rfl
 rw[U,V]at O;rw[<-O];unfold N4;exact Ad (λj _=>Ym ..)
theorem S7 {a b:Int×Int} (h:Nb a b):(Ak a b).1.1*(Ak a b).2.2 - (Ak a b).1.2*(Ak a b).2.1=1:=by
 unfold Ak;split
 ·rename_i h1;dsimp only;grind
 ·rename_i h1
  have H:b.1*a.2 - a.1*b.2=-1:=h.resolve_left h1;dsimp only;grind
theorem Yl {n wt C:Nat} {D:Int} {X:Nat->Nat->Rat} {F:List Nat} {f:Nat} {a b:Int×Int} {ch:List (Int×Int)} {Q:Nat->Rat} (I:Pl.check n ((wt:Int)+2) D=0) (Z:cntF n wt=C) (hQ:∀i,i<wt+1->hq (Q i)<=4000)
  (hX:∀j f,j<C->f∈F->hq (X j f)<=10000) (hf:f∈F) (h:ChainOk a b ch):hq (N4 Q n wt D X ch f (ch.length - 1))<=430000000:=by
 obtain⟨h1,h2,h3,h4,h5,h6⟩:=Aj I;have bY:wt<=22:=by omega
 have H:∀j,j<ch.length->ch[j]?=some (ch.getD j (0,0)):=λj hj=>by rw[List.getD_eq_getElem?_getD,List.getElem?_eq_getElem hj];rfl
 have hT:∀k i,k+1<ch.length->i<wt+1->hq (bP Q n wt D X (ch.getD k (0,0)) (ch.getD (k+1) (0,0)) f i)<=140000:=by
  intro k i hk hi;obtain⟨x,hx⟩:∃x,ch.getD k (0,0)=x:=⟨_,rfl⟩
  obtain⟨y,hy⟩:∃y,ch.getD (k+1) (0,0)=y:=⟨_,rfl⟩
  have U:=H k (by omega);have V:=H (k+1) hk;rw[hx]at U ⊢;rw[hy]at V ⊢;have aJ:=h.nb k x y U V;obtain⟨a1,a2,a3,a4⟩:=(h.good x (List.mem_of_getElem? U)).1;obtain⟨b1,b2,b3,b4⟩:=(h.good y (List.mem_of_getElem? V)).1;have hp:=Gm I (C4 (n:=n) (by omega) (S7 aJ))
  have J:i*(pts n (n*n)).length+(Ao n D (Ak x y).2.1 (Ak x y).2.2).1<C:=by
   rw[<-Z];have O:=Nat.mul_le_mul_right (pts n (n*n)).length (show i+1<=wt+1 by omega);rw[Nat.succ_mul]at O;unfold cntF;have:=hp.2;omega
  have bB:hq (subst Q wt (Ak x y).1.1 (Ak x y).1.2 (Ak x y).2.1 (Ak x y).2.2 (wt+1) i)<=123880:=by
   refine Cs (K:=4000) hQ (Dd ?_ ?_) (Dd ?_ ?_) (Dd ?_ ?_) (Dd ?_ ?_) (by omega) (by omega) <;>(unfold Ak;split <;>(dsimp only;omega))
  have bC:hq (((Ao n D (Ak x y).2.1 (Ak x y).2.2).2:Int):Rat)<=1:=by
   rw[Gj]
   have Y:(Ao n D (Ak x y).2.1 (Ak x y).2.2).2.natAbs<=1:=by
    rcases Fi (W0 D) n (((Ak x y).2.1 % n).toNat*n+((Ak x y).2.2 % n).toNat)with h|h
    ·unfold Ao;rw[h];decide
    ·unfold Ao;omega
   have:nd ((Ao n D (Ak x y).2.1 (Ak x y).2.2).2).natAbs<=1:=Be.2 (by omega);omega
  have bE:=hX _ f J hf;have O:=Cc (subst Q wt (Ak x y).1.1 (Ak x y).1.2 (Ak x y).2.1 (Ak x y).2.2 (wt+1) i*((Ao n D (Ak x y).2.1 (Ak x y).2.2).2:Rat)) (X (i*(pts n (n*n)).length+(Ao n D (Ak x y).2.1 (Ak x y).2.2).1) f);have Y:=Cc (subst Q wt (Ak x y).1.1 (Ak x y).1.2 (Ak x y).2.1 (Ak x y).2.2 (wt+1) i) ((Ao n D (Ak x y).2.1 (Ak x y).2.2).2:Rat);unfold bP;omega
 have hS:∀k,k+1<ch.length->hq (U5 Q n wt D X (ch.getD k (0,0)) (ch.getD (k+1) (0,0)) f (wt+1))<=3300000:=by
  intro k hk;have O:=Dm (bP Q n wt D X (ch.getD k (0,0)) (ch.getD (k+1) (0,0)) f) 140000 (wt+1) (λq hq=>hT k q hk hq);have Y:(wt+1)*(140000+1)<=23*140001:=Nat.mul_le_mul (by omega) (kT _);unfold U5;omega
 have O:=Dm (λj=>U5 Q n wt D X (ch.getD j (0,0)) (ch.getD (j+1) (0,0)) f (wt+1)) 3300000 (ch.length - 1) (λq hq=>hS q (by omega));have Y:(ch.length - 1)*(3300000+1)<=130*3300001:=Nat.mul_le_mul (by have:=h.len;omega) (kT _);unfold N4;omega
def cJ (w:World) (w':World) (e:Ending) (p q p' q':Int) (n wt:Nat) (D:Int) (F:List Nat) (X:Nat->Nat->Rat) (Q:Nat->Rat):Prop:=
 ((Av p q≠0∨Av p' q'≠0)/\∃er,er≠0/\e=.returned (.tuple #[.slice none 0 0,.int .i64 er])) ∨
 ((Av p q=0/\Av p' q'=0)/\∃g,e=.returned (.tuple #[.slice (some ⟨g,0,none⟩) F.length F.length,.int .i64 0])/\w.heap.size<=g/\QRow (λj=>IsQ (Pot (Ag n wt D (λi=>X i (F.getD j 0)) Q) (p',q') - Pot (Ag n wt D (λi=>X i (F.getD j 0)) Q) (p,q))) w' g F.length F.length/\∀j,j<F.length->hq (Pot (Ag n wt D (λi=>X i (F.getD j 0)) Q) (p',q') - Pot (Ag n wt D (λi=>X i (F.getD j 0)) Q) (p,q))<=430000000)
theorem Zk (M B n wt:Nat) (D:Int) (F:List Nat) (C:Nat) (X:Nat->Nat->Rat) (v:Value) (x y:Nat->Int) (p q p' Y:Int) (w:World) (hT:Tab w) (U:Pl.check n ((wt:Int)+2) D=0) (cD:cntF n wt=C) (hF:F.length<=72)
  (aJ:ModAt w M B n ((wt:Int)+2) D F C X) (hB:B<=w.heap.size) (hX:∀j f,j<C->f∈F->hq (X j f)<=10000) (hR:∀f,f∈F->RelZ n wt D (λj=>X j f)) (hp:QL (λj=>IsB 4000 (x j) (y j)) w v (wt+1))
  (hN:-9223372036854775808<=p) (hO:p<=9223372036854775807) (hP:-9223372036854775808<=q) (hQ:q<=9223372036854775807) (hS:-9223372036854775808<=p') (hU:p'<=9223372036854775807) (hV:-9223372036854775808<=Y) (hW:Y<=9223372036854775807):
  Calls prog 24 #[.pointer (some ⟨M,0,none⟩),.agg #[v,.int .i64 p,.int .i64 q,.int .i64 p',.int .i64 Y]] w λe w'=>cJ w w' e p q p' Y n wt D F X (λi=>Rat.divInt (x i) (y i))/\Below w.heap.size w w':=by
 obtain⟨pv,cv,rfl⟩:∃p c,v=.slice p (wt+1) c:=by
  obtain⟨_,_,_,e',_⟩:=hp.resolve_left (λh=>by omega);exact⟨_,_,e'⟩
 have lT:wt<=22:=by have:=Aj U;omega
 have hM:0<n:=by have:=Aj U;omega
 obtain⟨kk,hJ⟩:∃kk,(wt:Int)+2=kk:=⟨_,rfl⟩
 obtain⟨L,hL⟩:∃L,wt+1=L:=⟨_,rfl⟩
 have Z:=Kh (λW=>C3 p q W hN hO hP hQ);have H:=Kh (λW=>C3 p' Y W hS hU hV hW);have aT:=Kh (λW ha V=>Zi p q p' Y W ha V);have gP:=Kh (λW (V:Below w.heap.size w W)=>Ge M B n kk D F C X W (hJ▸aJ.keep hB V) (kU hB V.size))
 have aD:=Kh (λW gc oc cc ch (V:Below w.heap.size w W) (hg:gc<W.heap.size) (hc:CAt W gc oc ch) (ho:ChainOk (p,q) (p',Y) ch)=>Tw M B n wt D F C X ch gc oc cc (.slice pv (wt+1) cv) x y W (hT.below V) U cD hF (aJ.keep hB V) (kU hB V.size) hX (hp.keep (λ_=>IsB.solid _ _ _) V) hg (kU ho.len (by decide))
  (λk c hk=>⟨(hc k c hk).1,(hc k c hk).2,by have h:=(ho.good c (List.mem_of_getElem? hk)).1;unfold InC at h;omega⟩)
  (λk a b ha V=>by
   have h:=ho.nb k a b ha V;exact⟨h,(Gm U (C4 (a:=(Ak a b).1.1) (b:=(Ak a b).1.2) hM (S7 h))).1⟩))
 have HV:=Kh (λch (ho:ChainOk (p,q) (p',Y) ch) f (hf:f∈F)=>Uv U (hR f hf) ho (λi=>Rat.divInt (x i) (y i)))
 have lH:=Kh (λch (ho:ChainOk (p,q) (p',Y) ch) f (hf:f∈F)=>Yl U cD (λi hi=>by
  obtain⟨_,_,_,_,hr⟩:=hp.resolve_left (λh=>by omega);obtain⟨_,_,_,_,_,_,_,_,_,_,_,_,h5,h6,h7,h8⟩:=hr.2 i hi;exact Kf (by decide) (kU h5.size h7) (kU h6.size h8)) hX hf ho (Q:=λi=>Rat.divInt (x i) (y i)))
 rw[hL]at aD ⊢;have mJ:kk - 1=(L:Int):=by omega
 have mK:IntKind.i64.wrap (L:Int)=(L:Int):=IntWalk.i64_in _ (by omega);clear hT aJ hB hX hp U cD hF hR lT hM hJ hL hN hO hP hQ hS hU hV hW;go_enter func24,ntmps24
 go_upto_region 3 with(fail)
 obtain⟨w0,hY,X0,hD⟩:=bx1 w #[.slice pv L cv,.int .i64 p,.int .i64 q,.int .i64 p',.int .i64 Y] 57;rw[hY];obtain⟨gp,dE⟩:∃x,w.heap.size=x:=⟨_,rfl⟩
 have mA:=Kh dE;rw[dE]at X0 ⊢;have cC:=Kh X0;have aL:=Kh hD;have x0:=X0.at_ 0 rfl;have lP:∀W:World,(Instr.field 23 (.agg #[.int .i64 n,.int .i64 kk,.int .i64 D]) 1).run prog W=.ok (.int .i64 kk) W:=λW=>by kernel_rfl
 clear hY X0 hD dE;refine K6 (λW=>W.cell? ⟨gp,0,none⟩=some (.slice pv L cv)) (λW V=>Au V x0) (λgN hHeld0=>?_);refine Al 0 ?_;refine Al 1 ?_;refine Al 2 ?_;refine Al 3 ?_;refine F9 4 rfl (λK hK=>?_);focus(go_simp;refine(gP.1 _ aL.1.drew).mono ?_;rintro e w1 ⟨rfl,hE⟩;have aN:=Kh ((Below.refl _ w0).drew.trans hE:Below w0.heap.size w0 w1);clear hE;(first|with_reducible refine hK.out _ _ ?_ (λhHeld1=>?_) |(go_wp2_with fail;with_reducible refine hK.out _ _ ?_ (λhHeld1=>?_))))
 focus((try dsimp only);exact gN.1 _ aN.1)
 focus(clear hK K;(try simp only[Act.put,Br,Bt,Bs]))
 refine Al 5 ?_;refine Al 6 ?_;refine K5 7 rfl (λK hK=>?_);go_simp
 refine hK.out _ _ ?_;clear hK K
 (try simp only[Act.put,Br,Bt,Bs])
 have I:=Kh (cC.1.below_ aN.1 cC.1.lt);have gS:=Kh (aL.1.trans (aN.1.mono aL.1.size));clear x0 gN aN hHeld0 hHeld1 gP cC aL lP;have x0:=I.1.at_ 0 rfl;have x1:=I.1.at_ 1 rfl;have x2:=I.1.at_ 2 rfl;have x3:=I.1.at_ 3 rfl;have x4:=I.1.at_ 4 rfl;obtain⟨e1,cX⟩:∃e1,Av p q=e1:=⟨_,rfl⟩
 obtain⟨e2,dC⟩:∃e2,Av p' Y=e2:=⟨_,rfl⟩
 have bB:=Kh cX;have bC:=Kh dC;rw[cX]at Z;rw[dC]at H;clear cX dC;go_wp2_with fail
 refine(Z.1 w1).mono ?_;rintro e w2 ⟨rfl,cF⟩;have J:=Kh (bk I cF);have bY:=bt gS cF;clear x0 x1 x2 x3 x4 cF I gS;by_cases h1:e1=0
 ·have x0:=J.1.at_ 0 rfl
  have x1:=J.1.at_ 1 rfl;have x2:=J.1.at_ 2 rfl;have x3:=J.1.at_ 3 rfl;have x4:=J.1.at_ 4 rfl;have lL:(e1 != 0)=false:=by rw[h1];rfl
  go_wp2_with fail
  refine(H.1 w2).mono ?_;rintro e w3 ⟨rfl,cG⟩;have O:=Kh (bk J cG);have cA:=bt bY cG;clear x0 x1 x2 x3 x4 cG J bY;by_cases h2:e2=0
  ·have x0:=O.1.at_ 0 rfl
   have x1:=O.1.at_ 1 rfl;have x2:=O.1.at_ 2 rfl;have x3:=O.1.at_ 3 rfl;have x4:=O.1.at_ 4 rfl;have lM:(e2 != 0)=false:=by rw[h2];rfl
   go_wp2_with fail
   refine(aT.1 w3 (bB.1.trans h1) (bC.1.trans h2)).mono ?_;rintro e w4 ⟨⟨ch,gc,oc,cc,rfl,hg,aU,eP⟩,cT⟩;have lI:=Kh (bk O cT);have cB:=bt cA cT;have lE:=Kh (aD.1 w4 gc oc cc ch cB.1 hg aU eP);have bE:=Kh eP;clear x0 x1 x2 x3 x4 cT O cA aU hg eP aD aT Z H;have x0:=lI.1.at_ 0 rfl;go_wp2_with fail
   refine lE.1.mono ?_;rintro e w5 ⟨⟨g,rfl,hI,bA⟩,hG⟩
   have HR:=Kh (QRow.congr bA (λj hj=>by
    have lR:j<F.length:=hj;have hf:F.getD j 0∈F:=Bd lR;show IsQ (N4 (λi=>Rat.divInt (x i) (y i)) n wt D X ch (F.getD j 0) (ch.length - 1))=_;rw[HV.1 ch bE.1 _ hf]))
   have lG:=Kh (show ∀j,j<F.length->hq (Pot (Ag n wt D (λi=>X i (F.getD j 0)) (λi=>Rat.divInt (x i) (y i))) (p',Y) - Pot (Ag n wt D (λi=>X i (F.getD j 0)) (λi=>Rat.divInt (x i) (y i))) (p,q))<=430000000 from λj hj=>by
    have hf:F.getD j 0∈F:=Bd hj;rw[<-HV.1 ch bE.1 _ hf];exact lH.1 ch bE.1 _ hf)
   have lD:=bt cB hG;have lF:=Kh (kU cB.1.size hI);clear bA hG x0 hI;go_wp2
   (first|go_ret2|go_ret)
   exact⟨.inr ⟨⟨bB.1.trans h1,bC.1.trans h2⟩,g,rfl,lF.1,HR.1,lG.1⟩,lD.1⟩
  ·have lM:(e2 != 0)=true:=by rw[bne_iff_ne];exact h2
   clear aD aT Z H;go_wp2
   (first|go_ret2|go_ret)
   exact⟨.inl ⟨.inr (by rw[bC.1];exact h2),e2,h2,rfl⟩,cA.1⟩
 ·have lL:(e1 != 0)=true:=by rw[bne_iff_ne];exact h1
  clear aD aT Z H;go_wp2
  (first|go_ret2|go_ret)
  exact⟨.inl ⟨.inl (by rw[bB.1];exact h1),e1,h1,rfl⟩,bY.1⟩
abbrev Zc (B:Nat) (w0 w:World) (b0 b1 b2 b3:Addr):Prop:=w.cell? b0=some (cellOf w b0)/\w.frozen? b0=false/\Sts w b0.block/\w.cell? b1=some (cellOf w b1)/\w.frozen? b1=false/\Sts w b1.block/\w.cell? b2=some (cellOf w b2)/\w.frozen? b2=false/\Sts w b2.block/\w.cell? b3=some (cellOf w b3)/\w.frozen? b3=false/\Sts w b3.block/\Below B w0 w/\B<=w.heap.size
theorem Lg {B:Nat} {w0 w w':World} {H I J O:Addr} (U:Below w.heap.size w w') (h:Zc B w0 w H I J O):Zc B w0 w' H I J O:=SS.next (B:=B) (w0:=w0) (l:=([]:List (Addr×Value))) (m:=[H,I,J,O]) U h
theorem Vc {B:Nat} {w0 w:World} {H I J O:Addr} (h:Zc B w0 w H I J O) {p0 p1 p2 p3:Addr} {u0 u1 u2 u3:Value} (U:NotInt u0) (aD:B<=p0.block) (V:NotInt u1) (aJ:B<=p1.block) (Y:NotInt u2) (aK:B<=p2.block) (Z:NotInt u3) (aL:B<=p3.block):Zc B w0 ((((w.setCell p0 u0).setCell p1 u1).setCell p2 u2).setCell p3 u3) H I J O:=(SS.put (B:=B) (w0:=w0) (l:=([]:List (Addr×Value))) (m:=[H,I,J,O]) (SS.put (B:=B) (w0:=w0) (l:=([]:List (Addr×Value))) (m:=[H,I,J,O]) (SS.put (B:=B) (w0:=w0) (l:=([]:List (Addr×Value))) (m:=[H,I,J,O]) (SS.put (B:=B) (w0:=w0) (l:=([]:List (Addr×Value))) (m:=[H,I,J,O]) h p0 u0 U aD (by simp[*])) p1 u1 V aJ (by simp[*])) p2 u2 Y aK (by simp[*])) p3 u3 Z aL (by simp[*]))
theorem Wo {n:Int} {d g:Nat} (V:0<d) (hg:Nat.gcd n.natAbs d=g):(Rat.divInt n d).num=Int.tdiv n g/\((Rat.divInt n d).den:Int)=Int.tdiv (d:Int) g:=by
 have J:(0:Int)<(d:Int):=by omega
 have H:Int.gcd n (d:Int)=g:=hg;have Y:0<g:=by rw[<-hg];exact Nat.gcd_pos_of_pos_right _ V
 have O:=Hb (n:=n) J;have U:=Ha (n:=n) J;rw[H]at O U;have I:((g:Nat):Int)∣n:=by rw[<-H];exact Int.gcd_dvd_left ..
 rw[O,U];refine⟨?_,?_⟩
 ·rw[Int.tdiv_eq_ediv]
  by_cases hn:0<=n
  ·rw[if_pos (.inl hn),Int.add_zero]
  ·rw[if_pos (.inr I),Int.add_zero]
 ·rw[Int.tdiv_eq_ediv_of_nonneg (by omega)]
theorem Vm (n:Int) (d:Nat) (w:World) (hn:-1000000<=n) (lM:n<=1000000) (hd:0<d) (hU:d<=1000000):
  Calls prog 63 #[.int .i64 n,.int .i64 d] w λe w'=>Gr w' e (Rat.divInt n d)/\Below w.heap.size w w':=by
 obtain⟨g,hg⟩:∃g,Nat.gcd n.natAbs d=g:=⟨_,rfl⟩
 have lL:0<g:=by rw[<-hg];exact Nat.gcd_pos_of_pos_right _ hd
 have lJ:g<=d:=by rw[<-hg];exact Nat.gcd_le_right _ hd
 obtain⟨e1,e2⟩:=Wo (n:=n) hd hg;obtain⟨P,hP⟩:∃P,Int.tdiv n (g:Int)=P:=⟨_,rfl⟩
 obtain⟨Q,hQ⟩:∃Q,Int.tdiv (d:Int) (g:Int)=Q:=⟨_,rfl⟩
 have hM:-1000000<=P/\P<=1000000:=by
  have h:(Int.tdiv n (g:Int)).natAbs<=n.natAbs:=by rw[Int.natAbs_tdiv];exact Nat.div_le_self _ _
  rw[hP]at h;omega
 have hN:-1000000<=Q/\Q<=1000000:=by
  have h:(Int.tdiv (d:Int) (g:Int)).natAbs<=(d:Int).natAbs:=by rw[Int.natAbs_tdiv];exact Nat.div_le_self _ _
  rw[hQ]at h;omega
 obtain⟨lD,lE⟩:=hM;obtain⟨lF,lG⟩:=hN;rw[hP]at e1;rw[hQ]at e2;have HE:=Kh (And.intro e1 e2);have hI:=Kh (λJ=>iS P J (by omega) (by omega));have hJ:=Kh (λJ=>iS Q J (by omega) (by omega));have HG:=Kh hg;have hV:(if n < -n then -n else n)=(n.natAbs:Int):=by split <;> omega
 have lI:¬((d:Int)<0):=by omega
 clear e1 e2 hg;go_enter func63,ntmps63
 go_wp2_with fail
 obtain⟨w0,eP,X0,dY⟩:=bx1 w #[.bool false,.slice none 0 0,.bool false,.slice none 0 0] 86;rw[eP];have dC:=Kh X0;have cF:=Kh dY;have aJ:max n (-n)=(n.natAbs:Int):=by omega
 rw[aJ];have hG:=Kh (show n.natAbs<=1000000 by omega);clear eP X0 dY hV aJ;go_loopw [5,6] (λx y wr=>∃a b:Nat,x=.int .i64 a/\y=.int .i64 b/\Nat.gcd a b=g/\a<=1000000/\b<=1000000/\∃m,wr=w0.drewN m) (λ_ y _=>(intOf y).toNat)
 case atStart=>exact⟨n.natAbs,d,rfl,rfl,HG.1,hG.1,hU,0,rfl⟩
 case round=>
  obtain⟨a,b,rfl,rfl,Z,ha,hb,m,rfl⟩:=hrel;rcases Nat.eq_zero_or_pos b with rfl|hS
  ·rw[Nat.gcd_zero_right]at Z
   subst Z;have aD:Below w0.heap.size w0 (w0.drewN m):=Aa (Below.refl _ _) m;generalize w0.drewN m=wq at aD ⊢;have I:=bk dC aD;have V:=Kh I;have Y:=bt cF aD;obtain⟨H,aT⟩:∃x,w.heap.size=x:=⟨_,rfl⟩
   rw[aT]at I V ⊢;have cG:=Kh aT;have T0:=Sts.of I (by intro v hv;simp at hv;rcases hv with rfl|rfl|rfl|rfl <;> first|exact NotInt.bool _|exact NotInt.slice _ _ _);have lB:=Kh T0;have lK:H<wq.heap.size:=I.lt;have v1:IntKind.i64.wrap P=P:=IntWalk.i64_in _ (by omega);have v2:IntKind.i64.wrap Q=Q:=IntWalk.i64_in _ (by omega);have e5:((a:Int)==0)=false:=beq_eq_false_iff_ne.2 (by omega);have e6:a≠0:=by omega
   clear aD aT cF dC;go_upto_region 6 with(fail)
   have cT:=Kh (show ∀wb,Below wq.drew.heap.size wq.drew wb->Below wq.heap.size wq wb from λwb hb=>(Below.refl _ wq).drew.trans hb);have cX:=Kh (show ∀wa wb,Below wq.heap.size wq wa->Below wa.heap.size wa wb->Below wq.heap.size wq wb from λwa wb h1 h2=>h1.trans (h2.mono h1.size));have hO:wq.drew.cell? ⟨H,0,none⟩=some (cellOf wq.drew ⟨H,0,none⟩)/\wq.drew.frozen? ⟨H,0,none⟩=false/\Sts wq.drew (H)/\wq.drew.cell? ⟨H,1,none⟩=some (cellOf wq.drew ⟨H,1,none⟩)/\wq.drew.frozen? ⟨H,1,none⟩=false/\Sts wq.drew (H)/\wq.drew.cell? ⟨H,2,none⟩=some (cellOf wq.drew ⟨H,2,none⟩)/\wq.drew.frozen? ⟨H,2,none⟩=false/\Sts wq.drew (H)/\wq.drew.cell? ⟨H,3,none⟩=some (cellOf wq.drew ⟨H,3,none⟩)/\wq.drew.frozen? ⟨H,3,none⟩=false/\Sts wq.drew (H)/\Below 0 wq wq.drew/\0<=wq.drew.heap.size:=Lg (Below.refl _ wq).drew ⟨Am (by rw[I.at_ 0 rfl];rfl),I.free_ 0,T0,Am (by rw[I.at_ 1 rfl];rfl),I.free_ 1,T0,Am (by rw[I.at_ 2 rfl];rfl),I.free_ 2,T0,Am (by rw[I.at_ 3 rfl];rfl),I.free_ 3,T0,(Below.refl 0 wq),kU (Nat.zero_le _) (Below.size (Below.refl 0 wq))⟩;clear I T0;have M1:True:=trivial
   go_region_held3 (λJ=>J.cell? ⟨H,0,none⟩=some (cellOf J ⟨H,0,none⟩)/\J.frozen? ⟨H,0,none⟩=false/\Sts J (H)/\J.cell? ⟨H,1,none⟩=some (cellOf J ⟨H,1,none⟩)/\J.frozen? ⟨H,1,none⟩=false/\Sts J (H)/\J.cell? ⟨H,2,none⟩=some (cellOf J ⟨H,2,none⟩)/\J.frozen? ⟨H,2,none⟩=false/\Sts J (H)/\J.cell? ⟨H,3,none⟩=some (cellOf J ⟨H,3,none⟩)/\J.frozen? ⟨H,3,none⟩=false/\Sts J (H)/\Below 0 wq J/\0<=J.heap.size)
    (first|with_reducible exact hO|with_reducible assumption |(refine Lg (by with_reducible assumption) ?_;assumption) |(refine Vc ?_ ?_ ?_ ?_ ?_ ?_ ?_ ?_ ?_ <;> first|assumption|exact NotInt.bool _|exact NotInt.slice _ _ _ |(dsimp only;omega) |(simp;done)))
    (first
     |(go_at_call 110;(with_reducible refine(hI.1 _).mono ?_);rintro e w2 ⟨⟨s2,p2,n2,c2,rfl,gA⟩,aK⟩;have O:=Kh (show Below wq.heap.size wq w2 from by first|exact cX.1 _ _ O.1 aK|exact cT.1 _ aK))
     |(go_at_call 110;(with_reducible refine(hJ.1 _).mono ?_);rintro e w3 ⟨⟨s3,p3,n3,c3,rfl,gF⟩,aL⟩;have O:=Kh (show Below wq.heap.size wq w3 from by first|exact cX.1 _ _ O.1 aL|exact cT.1 _ aL)))
   all_goals go_wp2
   all_goals first
    |(have aX:Qs w3 s2 p2 n2 c2 s3 p3 n3 c3 (Rat.divInt n d):=⟨by rw[HE.1.1];exact gA.keep aL,by rw[HE.1.2];exact gF⟩
      have X3:=V.1.below_ O.1 V.1.lt
      obtain⟨w9,U⟩:∃w9,(((w3.setCell ⟨H,0,none⟩ (.bool s2)).setCell ⟨H,1,none⟩ (.slice p2 n2 c2)).setCell ⟨H,2,none⟩ (.bool s3)).setCell ⟨H,3,none⟩ (.slice p3 n3 c3)=w9:=⟨_,rfl⟩
      obtain⟨E0,E1,E2,E3,aU⟩:=B9 X3 aX U;have aN:Below w.heap.size w w9:=by rw[<-U];exact As (Y.1.trans (O.1.mono Y.1.size)) (Nat.le_of_eq cG.1) _ _ _ _
      rw[U];try simp only[Exit.inBlock,Exit.then]
      refine bodyPost_ret (by simp[results,results63,go_sem,E0,E1,E2,E3];try rfl) rfl ?_;exact⟨⟨s2,p2,n2,c2,s3,p3,n3,c3,rfl,aU⟩,aN⟩)
    |(have aX:Qs w2 s2 p2 n2 c2 s3 p3 n3 c3 (Rat.divInt n d):=⟨by rw[HE.1.1];exact gA,by rw[HE.1.2];exact gF.keep aK⟩
      have X3:=V.1.below_ O.1 V.1.lt
      obtain⟨w9,U⟩:∃w9,(((w2.setCell ⟨H,0,none⟩ (.bool s2)).setCell ⟨H,1,none⟩ (.slice p2 n2 c2)).setCell ⟨H,2,none⟩ (.bool s3)).setCell ⟨H,3,none⟩ (.slice p3 n3 c3)=w9:=⟨_,rfl⟩
      obtain⟨E0,E1,E2,E3,aU⟩:=B9 X3 aX U;have aN:Below w.heap.size w w9:=by rw[<-U];exact As (Y.1.trans (O.1.mono Y.1.size)) (Nat.le_of_eq cG.1) _ _ _ _
      rw[U];try simp only[Exit.inBlock,Exit.then]
      refine bodyPost_ret (by simp[results,results63,go_sem,E0,E1,E2,E3];try rfl) rfl ?_;exact⟨⟨s2,p2,n2,c2,s3,p3,n3,c3,rfl,aU⟩,aN⟩)
  ·have lH:(0:Int)<(b:Int):=by omega
   have e1:Int.tmod (a:Int) (b:Int)=((a % b:Nat):Int):=by rw[Int.tmod_eq_emod_of_nonneg (by omega)];rfl
   have e2:((b:Int)==0)=false:=beq_eq_false_iff_ne.2 (by omega);have e3:b≠0:=by omega
   obtain⟨r,hr⟩:∃r,a % b=r:=⟨_,rfl⟩
   have lN:r<b:=by rw[<-hr];exact Nat.mod_lt _ hS
   have hE:=Kh (show Nat.gcd b r=g by rw[<-hr,Nat.gcd_comm b,<-Nat.gcd_rec,Nat.gcd_comm];exact Z);rw[hr]at e1;have v1:IntKind.i64.wrap (r:Int)=(r:Nat):=IntWalk.i64_in _ (by omega);clear hr Z;go_wp2_with fail
   go_quiet (fail)
   go_wp2;go_roundw
   case rel=>exact⟨b,r,rfl,rfl,hE.1,hb,by omega,_,Ly _ _ _⟩
   case measure=>simp[intOf];omega
def F8 (x:Nat->Int) (ln k:Nat):Rat:=Rat.divInt (if k<ln then x k else 0) ((1+k % 2:Nat):Int)
theorem dT (p:Option Addr) (U c:Nat) (x:Nat->Int) (n:Nat) (w:World) (hp:∀k,k<U->∃g o,p=some ⟨g,o,none⟩/\g<w.heap.size/\w.cell? ⟨g,o+k,none⟩=some (.int .i8 (x k))) (hx:∀k,k<U->-128<=x k/\x k<=127) (hn:n<=1000):
  Calls prog 23 #[.slice p U c,.int .i64 n] w λe w'=>(∃v',e=.returned v'/\OwnQ (λj=>IsQ (F8 x U j)) w' w.heap.size v' n)/\Below w.heap.size w w':=by
 have HN:=Kh (OwnQ.nil (λj=>IsQ (F8 x U j)) w w.heap.size);have HP:=Kh hp;have HX:=Kh hx;clear hp hx;go_enter func23,ntmps23
 go_wp2;go_loopw [5,6] (λv i wr=>∃k:Nat,k<=n/\i=.int .i64 k/\OwnQ (λj=>IsQ (F8 x U j)) wr w.heap.size v k/\Below w.heap.size w wr) (λ_ i _=>n - (intOf i).toNat)
 case atStart=>exact⟨0,Nat.zero_le _,rfl,HN.1,Below.refl _ _⟩
 case round=>
  obtain⟨k,hk,rfl,ho,hb⟩:=hrel;have HO:=Kh ho;have HB:=Kh hb;clear ho HN;by_cases hlt:k<n
  ·obtain⟨r,hr⟩:∃r,k % 2=r:=⟨_,rfl⟩
   have gU:r<2:=by omega
   obtain⟨d,hd⟩:∃d,1+r=d:=⟨_,rfl⟩
   have e1:Int.tmod (k:Int) 2=(r:Nat):=by rw[Int.tmod_eq_emod_of_nonneg (by omega)];omega
   have v0:IntKind.i64.wrap (r:Int)=(r:Nat):=IntWalk.i64_in _ (by omega);have e2:(1:Int)+(r:Int)=(d:Nat):=by omega
   have v1:IntKind.i64.wrap (d:Int)=(d:Nat):=IntWalk.i64_in _ (by omega);have HD:=Kh (show 1+k % 2=d by omega);have aJ:0<d/\d<=3:=by omega
   have gF:=Kh aJ;have gS:(k:Int)<(n:Int):=by omega
   by_cases hkl:k<U
   ·obtain⟨g,o,rfl,hg,hc⟩:=HP.1 k hkl
    obtain⟨z,hz⟩:∃z,x k=z:=⟨_,rfl⟩
    have bB:=HX.1 k hkl;rw[hz]at hc bB;have HZ:=Kh (show F8 x U k=Rat.divInt z d by rw[F8,if_pos hkl,hz,HD.1]);have a0:wr.cell? ⟨g,o+k,none⟩=some (.int .i8 z):=(hb.cell (p:=⟨g,o+k,none⟩) hg).trans hc;have v2:IntKind.i64.wrap z=z:=IntWalk.i64_in _ (by omega);have bA:(k:Int)<(U:Int):=by omega
    have HC:=Kh (Vm z d wr (by omega) (by omega) (by omega) (by omega));clear hb hz hc hd hr aJ bB;go_wp2_with fail
    refine HC.1.mono ?_;rintro e w2 ⟨⟨s,p1,i1,c1,t,q1,m,d1,rfl,hq⟩,J⟩;obtain⟨xs,hK,hX⟩:=HO.1.keep (λ_=>IsQ.solid _) J;have Y:=Kh hK;have h:=Kh hX;have HQ:=Kh (show IsQ (F8 x U k) w2 s p1 i1 c1 t q1 m d1 by rw[HZ.1];exact hq);have I:=bt HB J;clear hK hX hq J HO HB a0 HC;go_wp2_with (at_builtin;refine Bj NotInt rfl (.tmp 22) (.tmp 28) _ 86 rfl underlying30 F1 rfl (by decide) w.heap.size k u5 xs [.bool s,.slice p1 i1 c1,.bool t,.slice q1 m d1] rfl Y.1 rfl rfl (fA _ _ _ _ _ _ _ _) (by omega) (by omega) I.1.size (kF _ _ _ _ _ _ _ _) iK ?_;intro v' w' H O aD;have Z:=Kh (OwnQ.push (W:=_) (λ_=>IsQ.solid _) Y.1 h.1 HQ.1 H O);have V:=Kh (Aw I.1 Y.1.1 O (kT _) I.1.size);clear H O aD)
    go_roundw
    case rel=>exact⟨k+1,by omega,by go_num,Z.1,V.1⟩
    case measure=>simp[intOf];omega
   ·have HZ:=Kh (show F8 x U k=Rat.divInt 0 d by rw[F8,if_neg hkl,HD.1])
    have bA:¬((k:Int)<(U:Int)):=by omega
    have HC:=Kh (Vm 0 d wr (by omega) (by omega) (by omega) (by omega));clear hb hd hr aJ;go_wp2_with fail
    refine HC.1.mono ?_;rintro e w2 ⟨⟨s,p1,i1,c1,t,q1,m,d1,rfl,hq⟩,J⟩;obtain⟨xs,hK,hX⟩:=HO.1.keep (λ_=>IsQ.solid _) J;have Y:=Kh hK;have h:=Kh hX;have HQ:=Kh (show IsQ (F8 x U k) w2 s p1 i1 c1 t q1 m d1 by rw[HZ.1];exact hq);have I:=bt HB J;clear hK hX hq J HO HB HC;go_wp2_with (at_builtin;refine Bj NotInt rfl (.tmp 22) (.tmp 28) _ 86 rfl underlying30 F1 rfl (by decide) w.heap.size k u5 xs [.bool s,.slice p1 i1 c1,.bool t,.slice q1 m d1] rfl Y.1 rfl rfl (fA _ _ _ _ _ _ _ _) (by omega) (by omega) I.1.size (kF _ _ _ _ _ _ _ _) iK ?_;intro v' w' H O aD;have Z:=Kh (OwnQ.push (W:=_) (λ_=>IsQ.solid _) Y.1 h.1 HQ.1 H O);have V:=Kh (Aw I.1 Y.1.1 O (kT _) I.1.size);clear H O aD)
    go_roundw
    case rel=>exact⟨k+1,by omega,by go_num,Z.1,V.1⟩
    case measure=>simp[intOf];omega
  ·obtain rfl:k=n:=by omega
   clear hb;go_wp2;go_ret;exact⟨⟨_,rfl,HO.1⟩,HB.1⟩
structure ModR (w:World) (M n wt:Nat) (D:Int) (F:List Nat) (C:Nat) (X:Nat->Nat->Rat):Prop where
 check:Pl.check n ((wt:Int)+2) D=0
 cnt:cntF n wt=C
 len:F.length<=72
 mod:ModAt w M w.heap.size n ((wt:Int)+2) D F C X
 size:∀j f,j<C->f∈F->hq (X j f)<=10000
 rel:∀f,f∈F->RelZ n wt D (λj=>X j f)
theorem ModR.keep {w w':World} {M n wt:Nat} {D:Int} {F:List Nat} {C:Nat} {X:Nat->Nat->Rat} (h:ModR w M n wt D F C X) (H:Below w.heap.size w w'):ModR w' M n wt D F C X:=
 ⟨h.check,h.cnt,h.len,(h.mod.keep (kT _) H).up H.size,h.size,h.rel⟩
theorem Gv {M n wt:Nat} {D:Int} {F:List Nat} {C:Nat} {X:Nat->Nat->Rat} {w:World} (hT:Tab w) (h:ModR w M n wt D F C X) (v:Value) (f:Nat->Rat) (p q p' H:Int) (hp:QL (λj=>IsQ (f j)) w v (wt+1)) (hf:∀j,j<wt+1->hq (f j)<=4000)
  (I:-9223372036854775808<=p) (J:p<=9223372036854775807) (O:-9223372036854775808<=q) (U:q<=9223372036854775807) (V:-9223372036854775808<=p') (Y:p'<=9223372036854775807) (Z:-9223372036854775808<=H) (aD:H<=9223372036854775807):
  Calls prog 24 #[.pointer (some ⟨M,0,none⟩),.agg #[v,.int .i64 p,.int .i64 q,.int .i64 p',.int .i64 H]] w λe w'=>cJ w w' e p q p' H n wt D F X f/\Below w.heap.size w w':=by
 have h1:=Zk M w.heap.size n wt D F C X v (λj=>(f j).num) (λj=>(f j).den) p q p' H w hT h.check h.cnt h.len h.mod (kT _) h.size h.rel (hp.isB hf) I J O U V Y Z aD;have e:(λi=>Rat.divInt (f i).num ((f i).den:Int))=f:=funext λi=>Rat.num_divInt_den (f i)
 rw[e]at h1;exact h1
theorem Qv {p q:Int} (h:Av p q=0):Cu (p,q):=by
 obtain⟨_,⟨J,O⟩,I⟩:=cuspE_zero h;unfold Av at h;split at h
 ·omega
 ·rename_i h6
  split at h
  ·omega
  ·rename_i h7
   exact⟨⟨by show 0<=q;omega,λH=>by have U:q=0:=H;show p=1;omega⟩,I⟩
theorem Mo {a b c d p q:Int} (H:a*d - b*c≠0) (Y:Av p q=0) (h1:(a*p+b*q).natAbs<=1073741824) (h2:(c*p+d*q).natAbs<=1073741824):
  Dy a b c d p q=(img a b c d (p,q),0)/\Av (img a b c d (p,q)).1 (img a b c d (p,q)).2=0/\(img a b c d (p,q)).1.natAbs<=(a*p+b*q).natAbs/\(img a b c d (p,q)).2.natAbs<=(c*p+d*q).natAbs:=by
 obtain⟨k,x,y,hk,hg,e1,e2,I,⟨J,O⟩,U,V⟩:=Ec (Fs H (Qv Y));have hi:img a b c d (p,q)=(x,y):=I;have Z:Hq x=true:=Dc.2 (by dsimp only at U;omega);have h:Hq y=true:=Dc.2 (by dsimp only at V;omega);rw[hi];refine⟨?_,?_,U,V⟩
 ·unfold Dy
  dsimp only at I;rw[if_neg (by simp[Y]),I,if_pos ⟨Z,h⟩]
 ·unfold Av
  rw[if_neg (by rw[Z,h];simp;exact J),if_neg (by rw[hg];simp;exact O)]
theorem Wf:Av 0 1=0:=by decide
theorem Wg:Av 1 0=0:=by decide
theorem Ps {A B C E:Int} (J:A*E - B*C=1) (bA:-20000<=A/\A<=20000) (bB:-20000<=B/\B<=20000) (bC:-20000<=C/\C<=20000) (bE:-20000<=E/\E<=20000):
  (Dy A B C E 0 1=(img A B C E (0,1),0)/\Av (img A B C E (0,1)).1 (img A B C E (0,1)).2=0/\(img A B C E (0,1)).1.natAbs<=20000/\(img A B C E (0,1)).2.natAbs<=20000) /\
  (Dy A B C E 1 0=(img A B C E (1,0),0)/\Av (img A B C E (1,0)).1 (img A B C E (1,0)).2=0/\(img A B C E (1,0)).1.natAbs<=20000/\(img A B C E (1,0)).2.natAbs<=20000):=by
 have H:=Mo (a:=A) (b:=B) (c:=C) (d:=E) (by omega) Wf (by omega) (by omega);have I:=Mo (a:=A) (b:=B) (c:=C) (d:=E) (by omega) Wg (by omega) (by omega);refine⟨⟨H.1,H.2.1,?_,?_⟩,I.1,I.2.1,?_,?_⟩
 ·have:=H.2.2.1;omega
 ·have:=H.2.2.2;omega
 ·have:=I.2.2.1;omega
 ·have:=I.2.2.2;omega
theorem C8 {a:Int} (H:-1000000000000<=a) (I:a<=1000000000000):nd a.natAbs<=2:=Be.2 (by omega)
theorem Nd (i j:Nat):hq (mono i j)<=1:=by
 unfold mono;split
 ·decide
 ·decide
noncomputable def symP (wt t:Nat) (A B C E:Int):Nat->Rat:=subst (mono t) wt E (-B) (-C) A (wt+1)
theorem Uy {wt t:Nat} {A B C E:Int} (H:wt<=22) (bA:-1000000000000<=A/\A<=1000000000000) (bB:-1000000000000<=B/\B<=1000000000000) (bC:-1000000000000<=C/\C<=1000000000000) (bE:-1000000000000<=E/\E<=1000000000000) (j:Nat):hq (symP wt t A B C E j)<=4000:=
 Cs (K:=4) (λi _=>kU (Nd t i) (by decide)) (C8 bE.1 bE.2) (C8 (by omega) (by omega)) (C8 (by omega) (by omega)) (C8 bA.1 bA.2) (by omega) (by omega)
theorem dS (M n wt:Nat) (D:Int) (F:List Nat) (C0:Nat) (X:Nat->Nat->Rat) (j q t:Nat) (w:World) (hT:Tab w) (hM:ModR w M n wt D F C0 X) (hj:j<(wt+1)*(pts n (n*n)).length) (hq:j % (pts n (n*n)).length=q) (ht:j / (pts n (n*n)).length=t):
  Calls prog 61 #[.pointer (some ⟨M,0,none⟩),.int .i64 j] w λe w'=>(∃(A B C E:Int) (g cap:Nat),e=.returned (.tuple #[.agg #[.slice (some ⟨g,0,none⟩) (wt+1) cap,.int .i64 (img A B C E (0,1)).1,.int .i64 (img A B C E (0,1)).2,.int .i64 (img A B C E (1,0)).1,.int .i64 (img A B C E (1,0)).2],.int .i64 0])/\LiftOf n q A B C E/\w.heap.size<=g/\QRow (λi=>IsQ (symP wt t A B C E i)) w' g (wt+1) (wt+1))/\Below w.heap.size w w':=by
 obtain⟨h1,h2,h3,h4,h5,h6⟩:=Aj hM.check
 have mN:0<(pts n (n*n)).length:=by
  rcases Nat.eq_zero_or_pos (pts n (n*n)).length with h|h
  ·rw[h,Nat.mul_zero]at hj;omega
  ·exact h
 have hV:q<(pts n (n*n)).length:=by rw[<-hq];exact Nat.mod_lt _ mN
 have hW:t<wt+1:=by rw[<-ht];exact Nat.div_lt_of_lt_mul (by rw[Nat.mul_comm];exact hj)
 obtain⟨a,ha⟩:∃a,(pts n (n*n)).getD q 0=a:=⟨_,rfl⟩
 obtain⟨u,hu⟩:∃u,a / n=u:=⟨_,rfl⟩
 obtain⟨v,hv⟩:∃v,a % n=v:=⟨_,rfl⟩
 have mB:=Kh (λW (Z:Below w.heap.size w W)=>Ge M w.heap.size n ((wt:Int)+2) D F C0 X W (hM.mod.keep (kT _) Z) Z.size);have lR:=Kh (λW (Z:Below w.heap.size w W)=>dR n wt D j q t a u v W (hT.below Z) hM.check hj hq ht ha hu hv);have lM:=Kh (λW=>Zo n q a u v W (by omega) (by omega) hV ha hu hv);have lN:=Kh (λW=>dO n q W (by omega) (by omega) hV);have pJ:0<n:=by omega
 have nY:n<=120:=by omega
 have pO:wt<=22:=by omega
 have mT:=Ir (wt+1) (by omega);clear hT hM hj hq ht ha hu hv h1 h2 h3 h4 h5 h6 mN hV;go_enter func61,ntmps61
 go_wp2_with fail
 obtain⟨w0,mW,X0,mO⟩:=bx1 w #[.slice none 0 0,.int .i64 0,.int .i64 0,.int .i64 0,.int .i64 0] 57;rw[mW];obtain⟨gr,hP⟩:∃x,w.heap.size=x:=⟨_,rfl⟩
 have aN:=Kh (show w.heap.size<=gr by omega);rw[hP]at X0;try rw[hP]
 have mC:=Kh X0;have gF:=Kh mO;clear mW X0 mO hP;refine(mB.1 w0 gF.1).mono ?_;rintro e w1 ⟨rfl,hG⟩;have mD:=Kh (bk mC hG);have lD:=bt gF hG;clear hG mC gF mB;go_wp2_with fail
 obtain⟨w2,mX,S2,hI⟩:=bx1 w1 #[.int .i64 n,.int .i64 ((wt:Int)+2),.int .i64 D] 23;rw[mX];obtain⟨gs,mS⟩:∃x,w1.heap.size=x:=⟨_,rfl⟩
 rw[mS]at S2 ⊢;have lW:=Kh S2;have mE:=Kh (bk mD hI);have gL:=bt lD hI;clear mX S2 hI mS mD lD;refine(lR.1 w2 gL.1).mono ?_;rintro e w3 ⟨rfl,dE⟩;have lX:=Kh (bk lW dE);have mF:=Kh (bk mE dE);have lF:=bt gL dE;clear dE lW mE gL lR;go_upto_region 5 with(fail)
 obtain⟨w4,mY,M4,dY⟩:=bx1 w3 #[.int .i64 (t:Int),.int .i64 (u:Int),.int .i64 (v:Int)] 180;rw[mY];obtain⟨gm,mR⟩:∃x,w3.heap.size=x:=⟨_,rfl⟩
 rw[mR]at M4 ⊢;have lO:=Kh M4;have hB:=Kh (bk lX dY);have mG:=Kh (bk mF dY);have lG:=bt lF dY;have s0:=hB.1.at_ 0 rfl;have k1:=M4.at_ 1 rfl;have k2:=M4.at_ 2 rfl;clear mY M4 dY mR lX mF lF;go_wp2_with fail
 refine(lM.1 w4).mono ?_;rintro e w5 ⟨rfl,bY⟩;have lP:=Kh (bk lO bY);have hD:=Kh (bk hB bY);have mH:=Kh (bk mG bY);have lH:=bt lG bY;clear s0 k1 k2 bY lO hB mG lG lM;have s0:=hD.1.at_ 0 rfl;go_wp2_with fail
 refine(lN.1 w5).mono ?_;rintro e w6 ⟨⟨A,B,C,E,rfl,hL⟩,cA⟩;have lQ:=Kh (bk lP cA);have lY:=Kh (bk hD cA);have mI:=Kh (bk mH cA);have lI:=bt lH cA;have HL:=Kh hL;clear s0 cA hL lP hD mH lH lN;go_upto_region 11 with(fail)
 obtain⟨w7,mZ,G7,cB⟩:=bx1 w6 #[.int .i64 A,.int .i64 B,.int .i64 C,.int .i64 E] 63;rw[mZ];obtain⟨gg,mQ⟩:∃x,w6.heap.size=x:=⟨_,rfl⟩
 rw[mQ]at G7 ⊢;have gP:=Kh G7;have gU:=Kh (bk lQ cB);have lZ:=Kh (bk lY cB);have hE:=Kh (bk mI cB);have gN:=bt lI cB;clear mZ G7 cB mQ lQ lY mI lI;have s1:=lZ.1.at_ 1 rfl;obtain⟨L,hL⟩:∃L,wt+1=L:=⟨_,rfl⟩
 have nV:(wt:Int)+2 - 1=(L:Int):=by omega
 rw[hL]at mT hW;have cT:=Kh hL;have nW:L<=23:=by omega
 clear hL;go_wp2_with fail
 have eP:=QRow.made (λ_=>IsQ (((0:Int)):Rat)) w7 L;obtain⟨wy,hX⟩:∃wy,w7.alloc (.cells (madeCells #[.bool false,.slice none 0 0,.bool false,.slice none 0 0] (L*4)) 86)=wy:=⟨_,rfl⟩
 have hJ:Below w7.heap.size w7 wy:=hX▸(Below.refl _ _).alloc (kT _) _;rw[hX]at eP ⊢;obtain⟨U,hO⟩:∃g,w7.heap.size=g:=⟨_,rfl⟩
 have gS:=Kh hO;rw[hO]at eP hJ ⊢;have lS:=Kh eP;have lK:=Kh hJ;clear eP hJ hX hO s1 mT nV;go_loopw [12,59] (λ_ ii wr=>∃k:Nat,k<=L/\ii=.int .i64 k/\QRow (λ_=>IsQ (((0:Int)):Rat)) wr U L k/\Below U w7 wr) (λ_ ii _=>L - (intOf ii).toNat)
 case atStart=>exact⟨0,Nat.zero_le _,rfl,lS.1,lK.1⟩
 case round=>
  obtain⟨k,hk,rfl,I,mP⟩:=hrel;obtain⟨w9,rfl⟩:∃w9:World,w9=wr:=⟨_,rfl⟩
  have aT:=Kh I;have cG:=Kh mP;clear I mP lS lK;by_cases hlt:k<L
  ·have pI:(k:Int)<(L:Int):=by omega
   go_wp2_with fail
   refine(Ey 0 w9 (by omega) (by omega)).mono ?_;rintro e w8 ⟨⟨s6,p6,n6,c6,t6,q6,m6,d6,rfl,cF⟩,aJ⟩;have J:=aT.1.keep (λ_=>IsQ.solid _) aJ;have Y:=Kh (QRow.set (k':=k+1) (λ_=>IsQ.solid _) J k hlt (λ_=>IsQ (((0:Int)):Rat)) (IsQ.solid _) (λi h1 h2=>⟨by omega,rfl⟩) (show IsQ (((0:Int)):Rat) w8 s6 p6 n6 c6 t6 q6 m6 d6 from cF));have aD:=Kh (cG.1.trans (aJ.mono (Nat.le_of_lt aT.1.sts.1)));obtain⟨u0,pL⟩:=kX (J.has (k*4) (by omega));obtain⟨u1,pM⟩:=kX (J.has (k*4+1) (by omega));obtain⟨u2,hu2⟩:=kX (J.has (k*4+2) (by omega));obtain⟨u3,pN⟩:=kX (J.has (k*4+3) (by omega));have f0:=J.free (k*4) (by omega);have f1:=J.free (k*4+1) (by omega);have f2:=J.free (k*4+2) (by omega);have f3:=J.free (k*4+3) (by omega);clear aJ J cF;go_wp2;go_roundw
   case rel=>exact⟨k+1,by omega,by go_num,Y.1,A5 aD.1⟩
   case measure=>simp[intOf];omega
  ·obtain rfl:L=k:=by omega
   have x0:=(gU.1.below_ cG.1 (kV gU.1.lt (Nat.le_of_eq gS.1))).at_ 0 rfl;have I:=aT.1;have cC:=I.free;have lV:=Kh (Nat.le_of_lt I.sts.1);obtain⟨s0,p0,n0,c0,t0,q0,m0,d0,a0,a1,a2,a3,_⟩:=I.val t hW;have pK:(t:Int)<(L:Int):=by omega
   clear I;go_upto_region 19 with(fail)
   refine K6 (λW=>W.cell? ⟨gm,0,none⟩=some (.int .i64 (t:Int))/\W.cell? ⟨U,t*4,none⟩=some (.bool s0)/\W.frozen? ⟨U,t*4,none⟩=false/\W.cell? ⟨U,t*4+1,none⟩=some (.slice p0 n0 c0)/\W.frozen? ⟨U,t*4+1,none⟩=false/\W.cell? ⟨U,t*4+2,none⟩=some (.bool t0)/\W.frozen? ⟨U,t*4+2,none⟩=false/\W.cell? ⟨U,t*4+3,none⟩=some (.slice q0 m0 d0)/\W.frozen? ⟨U,t*4+3,none⟩=false) (λW Z=>⟨Au Z x0,Au Z a0,Ab Z (by rw[a0];rfl) (cC (t*4) (by omega)),Au Z a1,Ab Z (by rw[a1];rfl) (cC (t*4+1) (by omega)),Au Z a2,Ab Z (by rw[a2];rfl) (cC (t*4+2) (by omega)),Au Z a3,Ab Z (by rw[a3];rfl) (cC (t*4+3) (by omega))⟩) (λmA hHeld0=>?_);refine Al 0 ?_;refine Al 1 ?_;refine Al 2 ?_;refine F9 3 rfl (λK hK=>?_);focus(go_simp;refine(Ey 1 w9.drew (by omega) (by omega)).mono ?_;rintro e w8 ⟨⟨s6,p6,n6,c6,t6,q6,m6,d6,rfl,cF⟩,aJ⟩;have aD:=Kh ((Below.refl _ w9).drew.trans aJ:Below w9.heap.size w9 w8);have mV:=aT.1.keep (λ_=>IsQ.solid _) aD.1;have Y:=Kh (QRow.set (k':=L) (λ_=>IsQ.solid _) mV t hW (λq=>IsQ (if q=t then(((1:Int)):Rat)else(((0:Int)):Rat))) (IsQ.solid _) (λi h1 h2=>⟨h1,by rw[if_neg h2]⟩) (by rw[if_pos rfl];exact cF));have lJ:=Kh (cG.1.trans (aD.1.mono lV.1));clear aJ cF mV;(first|with_reducible refine hK.out _ _ ?_ (λhHeld1=>?_) |(go_wp2_with fail;with_reducible refine hK.out _ _ ?_ (λhHeld1=>?_))))
   focus((try dsimp only);exact mA.1 _ aD.1)
   focus(clear hK K;(try simp only[Act.put,Br,Bt,Bs]))
   refine Al 4 ?_;refine K5 5 rfl (λK hK=>?_);go_simp
   refine hK.out _ _ ?_;clear hK K
   (try simp only[Act.put,Br,Bt,Bs])
   have cD:=Y.1;have O:=A5 (i:=t*4) (j:=t*4+1) (k:=t*4+2) (l:=t*4+3) (v0:=.bool s6) (v1:=.slice p6 n6 c6) (v2:=.bool t6) (v3:=.slice q6 m6 d6) lJ.1;obtain⟨hY,gA⟩:∃hY,(((w8.setCell ⟨U,t*4,none⟩ (.bool s6)).setCell ⟨U,t*4+1,none⟩ (.slice p6 n6 c6)).setCell ⟨U,t*4+2,none⟩ (.bool t6)).setCell ⟨U,t*4+3,none⟩ (.slice q6 m6 d6)=hY:=⟨_,rfl⟩
   rw[gA]at cD O ⊢;have hN:∀{g:Nat},g<w7.heap.size->g<U:=λh=>kV h (Nat.le_of_eq gS.1)
   have lT:=Kh (QRow.congr (G:=λi=>IsQ (mono t i)) cD (λi _=>by
    unfold mono;congr 1))
   have aU:=Kh (hE.1.below_ O (hN hE.1.lt));have aL:=Kh (gN.1.trans (O.mono (kU gN.1.size (Nat.le_of_eq gS.1))));have aK:=gP.1.below_ O (hN gP.1.lt);have g0:=aK.at_ 0 rfl;have g1:=aK.at_ 1 rfl;have g2:=aK.at_ 2 rfl;have g3:=aK.at_ 3 rfl;clear cD O gA hN aK cC x0 a0 a1 a2 a3 mA hHeld0 hHeld1 Y lJ cG aT aD gU lZ hE gP gN;have V:=HL.1;obtain⟨⟨e1,_⟩,e2,_⟩:=Ps V.det V.bA V.bB V.bC V.bE;have cX:=Kh (El 4 (by decide) (by decide) (.slice (some ⟨U,0,none⟩) L L) L (λi=>(mono t i).num) (λi=>((mono t i).den:Int)) 0 1 1 0 A B C E hY ((lT.1.ql L).isB (λi _=>kU (Nd t i) (by decide))) (by omega) nW (by have:=V.bA;omega) (by have:=V.bA;omega) (by have:=V.bB;omega) (by have:=V.bB;omega) (by have:=V.bC;omega) (by have:=V.bC;omega) (by have:=V.bE;omega) (by have:=V.bE;omega) (by rw[V.det];decide) (by decide) (by decide) (by decide) (by decide) (by decide) (by decide) (by decide) (by decide));have he:cZ A B C E 0 1 1 0=0:=by unfold cZ;rw[e1,e2];rfl
   rw[e1,e2,he,show(λi=>Rat.divInt (mono t i).num ((mono t i).den:Int))=mono t from funext λi=>Rat.num_divInt_den _]at cX;rw[show L - 1=wt by have:=cT.1;omega]at cX;clear V e1 e2 he;go_wp2_with fail
   refine cX.1.mono ?_;rintro e hZ ⟨mU,aX⟩;obtain⟨_,g,cap,rfl,hg,I⟩:=mU.resolve_left (λh=>h.1 rfl);obtain⟨i0,hQ⟩:∃i,(img A B C E (0,1)).1=i:=⟨_,rfl⟩
   obtain⟨i1,hR⟩:∃i,(img A B C E (0,1)).2=i:=⟨_,rfl⟩
   obtain⟨i2,hS⟩:∃i,(img A B C E (1,0)).1=i:=⟨_,rfl⟩
   obtain⟨i3,hU⟩:∃i,(img A B C E (1,0)).2=i:=⟨_,rfl⟩
   have nN:=Kh (λW (g cap:Nat) (h1:w.heap.size<=g) (h2:QRow (λi=>IsQ (symP wt t A B C E i)) W g (wt+1) (wt+1))=>(show ∃(A B C E:Int) (g' mK:Nat),Ending.returned (.tuple #[.agg #[.slice (some ⟨g,0,none⟩) (wt+1) cap,.int .i64 i0,.int .i64 i1,.int .i64 i2,.int .i64 i3],.int .i64 0])=.returned (.tuple #[.agg #[.slice (some ⟨g',0,none⟩) (wt+1) mK,.int .i64 (img A B C E (0,1)).1,.int .i64 (img A B C E (0,1)).2,.int .i64 (img A B C E (1,0)).1,.int .i64 (img A B C E (1,0)).2],.int .i64 0])/\LiftOf n q A B C E/\w.heap.size<=g'/\QRow (λi=>IsQ (symP wt t A B C E i)) W g' (wt+1) (wt+1)from⟨A,B,C,E,g,cap,by rw[hQ,hR,hS,hU],HL.1,h1,h2⟩));have lU:=Kh (show QRow (λi=>IsQ (symP wt t A B C E i)) hZ g L L from by unfold symP;rw[cT.1];exact I);have H:=Kh (bk aU aX);have lE:=bt aL aX;have lL:=Kh (show gr<g/\w.heap.size<=g from⟨kV aU.1.lt hg,kU aL.1.size hg⟩);have z0:=H.1.at_ 0 rfl;have z1:=H.1.at_ 1 rfl;have z2:=H.1.at_ 2 rfl;have z3:=H.1.at_ 3 rfl;have z4:=H.1.at_ 4 rfl;have f0:=H.1.free_ 0;have f1:=H.1.free_ 1;have f2:=H.1.free_ 2;have f3:=H.1.free_ 3;have f4:=H.1.free_ 4;rw[hQ,hR,hS,hU];clear mU aX hg I cX aU aL g0 g1 g2 g3 hQ hR hS hU;go_wp2;have XS:=((((H.1.set_ 0 (.slice (some ⟨g,0,none⟩) L cap)).set_ 1 (.int .i64 i0)).set_ 2 (.int .i64 i1)).set_ 3 (.int .i64 i2)).set_ 4 (.int .i64 i3);have e0:=XS.at_ 0 rfl;have e1:=XS.at_ 1 rfl;have e2:=XS.at_ 2 rfl;have e3:=XS.at_ 3 rfl;have e4:=XS.at_ 4 rfl;have oA:Stk NotU32 hZ gr:=Stk.of H.1 (by intro v hv;simp at hv;rcases hv with rfl|rfl|rfl|rfl|rfl <;> exact λ_ h=>by cases h);have nZ:=lU.1.i32 (λ_=>IsQ.solid _) (I32.path oA (some ⟨g,0,none⟩) L cap i0 i1 i2 i3) (Jr hZ gr _ _ _ _ _) (by have:=lL.1.1;omega);refine bodyPost_ret (by simp[results,results61,go_sem,e0,e1,e2,e3,e4];try rfl) rfl ?_;exact⟨by have h:=nN.1 _ g cap lL.1.2 (by rw[cT.1];exact nZ);rw[cT.1]at h ⊢;exact h,(((((lE.1.setCell (p:=⟨gr,0,none⟩) aN.1 _).setCell (p:=⟨gr,1,none⟩) aN.1 _).setCell (p:=⟨gr,2,none⟩) aN.1 _).setCell (p:=⟨gr,3,none⟩) aN.1 _).setCell (p:=⟨gr,4,none⟩) aN.1 _)⟩
end
section
open Eli
section
variable {n wt:Nat} {D:Int} {Φ:(Nat->Rat)->Int×Int->Int×Int->Rat}
theorem T8 {k:Int} (I:Pl.check n k D=0):Pl.kroP D 1=1:=by
 obtain⟨⟨Z,h⟩,_,⟨O,U⟩,V,Y⟩:=Pl.check_ok I;obtain⟨J,H⟩:=Pl.kro_mul (N:=n) (D:=D) (a:=1) (b:=1) (c:=1) (by omega) O U V Y (by omega) (by omega) (by omega) (by omega) (by omega) (by omega) (by simp) (by simp) (by simp) (by simp);rcases H with H|H
 ·exact H
 ·rw[H]at J;exact absurd J (by decide)
theorem Ua (I:Pl.check n ((wt:Int)+2) D=0) (aJ:PF n wt D Φ) (t:Nat) {A B C E A' B' C' H:Int} (h:A*E - B*C=1) (h':A'*H - B'*C'=1) (hC:C' % n=C % n) (hE:H % n=E % n):
  Φ (symP wt t A' B' C' H) (img A' B' C' H (0,1)) (img A' B' C' H (1,0))=Φ (symP wt t A B C E) (img A B C E (0,1)) (img A B C E (1,0)):=by
 obtain⟨⟨a1,a2⟩,_⟩:=Pl.check_ok I;obtain⟨a,Y⟩:∃a,a=A'*E - B'*C:=⟨_,rfl⟩
 obtain⟨b,Z⟩:∃b,b=B'*A - A'*B:=⟨_,rfl⟩
 obtain⟨c,U⟩:∃c,c=C'*E - H*C:=⟨_,rfl⟩
 obtain⟨d,V⟩:∃d,d=H*A - C'*B:=⟨_,rfl⟩
 have J:a*d - b*c=1:=by
  have e:a*d - b*c=(A*E - B*C)*(A'*H - B'*C'):=by rw[Y,Z,U,V];grind
  rw[e,h,h'];rfl
 have d1:(n:Int)∣C' - C:=Int.dvd_of_emod_eq_zero (Int.emod_eq_emod_iff_emod_sub_eq_zero.1 hC);have d2:(n:Int)∣H - E:=Int.dvd_of_emod_eq_zero (Int.emod_eq_emod_iff_emod_sub_eq_zero.1 hE)
 have O:(n:Int)∣c:=by
  have e:c=(C' - C)*E - (H - E)*C:=by rw[U];grind
  rw[e];exact Int.dvd_sub (Int.dvd_trans d1 (Int.dvd_mul_right _ _)) (Int.dvd_trans d2 (Int.dvd_mul_right _ _))
 have aD:((1:Nat):Int) % n=d % n:=by
  have e:d - 1=(H - E)*A - (C' - C)*B:=by rw[V,<-h];grind
  have h1:(n:Int)∣d - 1:=by
   rw[e];exact Int.dvd_sub (Int.dvd_trans d2 (Int.dvd_mul_right _ _)) (Int.dvd_trans d1 (Int.dvd_mul_right _ _))
  exact(Int.emod_eq_emod_iff_emod_sub_eq_zero.2 (Int.emod_eq_zero_of_dvd h1)).symm
 have hm:=aJ.move (symP wt t A B C E) a b c d 1 (img A B C E (0,1)) (img A B C E (1,0)) ⟨J,O⟩ (kT 1) (by omega) (by simp[pun]) aD (Bn (by omega) Cu.zero) (Bn (by omega) Cu.inf)
 have m1:a*A+b*C=A':=by
  have e:a*A+b*C=A'*(A*E - B*C):=by rw[Y,Z];grind
  rw[e,h,Int.mul_one]
 have m2:a*B+b*E=B':=by
  have e:a*B+b*E=B'*(A*E - B*C):=by rw[Y,Z];grind
  rw[e,h,Int.mul_one]
 have m3:c*A+d*C=C':=by
  have e:c*A+d*C=C'*(A*E - B*C):=by rw[U,V];grind
  rw[e,h,Int.mul_one]
 have m4:c*B+d*E=H:=by
  have e:c*B+d*E=H*(A*E - B*C):=by rw[U,V];grind
  rw[e,h,Int.mul_one]
 have hs:subst (symP wt t A B C E) wt d (-b) (-c) a (wt+1)=symP wt t A' B' C' H:=by
  unfold symP;rw[Iw];have f1:E*d+-B * -c=H:=by rw[<-m4];grind
  have f2:E * -b+-B*a=-B':=by rw[<-m2];grind
  have f3:-C*d+A * -c=-C':=by rw[<-m3];grind
  have f4:-C * -b+A*a=A':=by rw[<-m1];grind
  rw[f1,f2,f3,f4]
 rw[hs,Eo (by omega) (by omega) Cu.zero,Eo (by omega) (by omega) Cu.inf,m1,m2,m3,m4,T8 I]at hm;rw[hm];grind
theorem Vi (I:Pl.check n ((wt:Int)+2) D=0) (J:PF n wt D Φ) {γ:Nat->M4} (O:D3 n γ) {j:Nat} (Z:j % (pts n (n*n)).length<(pts n (n*n)).length) {A B C E:Int} (H:LiftOf n (j % (pts n (n*n)).length) A B C E):
  Φ (symP wt (j / (pts n (n*n)).length) A B C E) (img A B C E (0,1)) (img A B C E (1,0))=Qa wt (pts n (n*n)).length γ Φ j:=by
 obtain⟨U,V,Y⟩:=O _ Z;exact Ua I J _ U H.det (by rw[H.c,V]) (by rw[H.d,Y])
end
theorem G6 {n:Nat} (O:0<n):∃γ,D3 n γ:=by
 have J:∀p,p<(pts n (n*n)).length->∃g:M4,g.1*g.2.2.2 - g.2.1*g.2.2.1=1/\g.2.2.1 % n=(((pts n (n*n)).getD p 0 / n:Nat):Int) % n/\g.2.2.2 % n=(((pts n (n*n)).getD p 0 % n:Nat):Int) % n:=by
  intro p H;have Y:=Bd H;have I:=Jc (Ig Y).1;by_cases hu:(pts n (n*n)).getD p 0 / n=0
  ·refine⟨(1,0,0,1),by decide,by rw[hu];rfl,?_⟩
   rw[Sx O H hu]
   push_cast
   rw[Int.emod_emod_of_dvd _ (Int.dvd_refl _)]
  ·obtain⟨U,hU⟩:∃U,(pts n (n*n)).getD p 0 / n=U:=⟨_,rfl⟩
   obtain⟨V,hV⟩:∃V,(pts n (n*n)).getD p 0 % n=V:=⟨_,rfl⟩
   rw[hU,hV]at I;rw[hU]at hu;rw[hU,hV];obtain⟨K,_,hg⟩:=Sf (show 0<U by omega) I;obtain⟨r,_,q,hq⟩:=Wy (k:=(U:Int)) (d:=((V+K*n:Nat):Int)) (m:=U) (by omega) (by omega) (by rw[Int.gcd_natCast_natCast,Nat.gcd_comm];exact hg);refine⟨((r:Int),q,(U:Int),((V+K*n:Nat):Int)),by show(r:Int)*((V+K*n:Nat):Int) - q*U=1;rw[Int.mul_comm q];omega,rfl,?_⟩;show((V+K*n:Nat):Int) % n=(V:Int) % n
   push_cast
   rw[Int.add_mul_emod_self_right]
 refine⟨λp=>if H:p<(pts n (n*n)).length then Classical.choose (J p H)else(1,0,0,1),λp H=>?_⟩;dsimp only;rw[dif_pos H];exact Classical.choose_spec (J p H)
noncomputable def dnM (n n' wt:Nat) (D:Int) (F F':List Nat) (X':Nat->Nat->Rat) (γ:Nat->M4) (t i k:Nat):Rat:=
 Qa wt (pts n (n*n)).length γ (clG n' wt D (λj=>X' j (F'.getD k 0)) t 0 0 1) (F.getD i 0)
theorem Uz {wt e t:Nat} {A B C E:Int} (hw:wt<=22) (Z:t<=1000) (bA:-20000<=A/\A<=20000) (bB:-20000<=B/\B<=20000) (bC:-20000<=C/\C<=20000) (bE:-20000<=E/\E<=20000) (j:Nat):hq (subst (symP wt e A B C E) wt 1 (-0) (-0) t (wt+1) j)<=4000:=by
 unfold symP;rw[Iw];obtain⟨x,h⟩:∃x,x=A*(t:Int):=⟨_,rfl⟩
 obtain⟨y,hy⟩:∃y,y=B*(t:Int):=⟨_,rfl⟩
 have H:∀z:Int,-20000<=z->z<=20000->-20000000<=z*(t:Int)/\z*(t:Int)<=20000000:=λz V Y=>by
  have h3:z.natAbs*t<=20000*1000:=Nat.mul_le_mul (by omega) Z;have h4:(z*(t:Int)).natAbs=z.natAbs*t:=by rw[Int.natAbs_mul,Int.natAbs_natCast]
  omega
 have V:=H A bA.1 bA.2;have Y:=H B bB.1 bB.2;have I:E*1+-B * -0=E:=by grind
 have J:E * -0+-B*(t:Int)=-y:=by rw[hy];grind
 have O:-C*1+A * -0=-C:=by grind
 have U:-C * -0+A*(t:Int)=x:=by rw[h];grind
 rw[I,J,O,U];exact Cs (K:=4) (λi _=>kU (Nd e i) (by decide)) (C8 (by omega) (by omega)) (C8 (by omega) (by omega)) (C8 (by omega) (by omega)) (C8 (by omega) (by omega)) (by omega) (by omega)
theorem I4 {t:Nat} {x:Int×Int} (Z:0<t) (H:t<=1000) (V:Av x.1 x.2=0) (O:x.1.natAbs<=20000) (U:x.2.natAbs<=20000):Dy t 0 0 1 x.1 x.2=(img t 0 0 1 x,0)/\Av (img t 0 0 1 x).1 (img t 0 0 1 x).2=0/\(img t 0 0 1 x).1.natAbs<=20000000/\(img t 0 0 1 x).2.natAbs<=20000:=by
 have Y:((t:Int)*x.1).natAbs<=20000000:=by
  rw[Int.natAbs_mul,Int.natAbs_natCast];have:=Nat.mul_le_mul H O;omega
 have I:(t:Int)*x.1+0*x.2=t*x.1:=by grind
 have J:0*x.1+1*x.2=x.2:=by grind
 have h:=Mo (a:=t) (b:=0) (c:=0) (d:=1) (p:=x.1) (q:=x.2) (by omega) V (by rw[I];omega) (by rw[J];omega);rw[I,J]at h;exact⟨h.1,h.2.1,kU h.2.2.1 Y,kU h.2.2.2 U⟩
theorem eK {n n' wt:Nat} {D:Int} {F F':List Nat} {X':Nat->Nat->Rat} {γ:Nat->M4} {t i k:Nat} (I:Pl.check n ((wt:Int)+2) D=0) (H:Pl.check n' ((wt:Int)+2) D=0) (Y:∀f,f∈F'->RelZ n' wt D (λj=>X' j f)) (O:D3 n γ) (ht:0<t) (Z:n'*t∣n) (h:k<F'.length) (V:0<(pts n (n*n)).length) {A B C E:Int} (U:LiftOf n (F.getD i 0 % (pts n (n*n)).length) A B C E):
  Pot (Ag n' wt D (λj=>X' j (F'.getD k 0)) (subst (symP wt (F.getD i 0 / (pts n (n*n)).length) A B C E) wt 1 (-0) (-0) t (wt+1))) (img t 0 0 1 (img A B C E (1,0))) - Pot (Ag n' wt D (λj=>X' j (F'.getD k 0)) (subst (symP wt (F.getD i 0 / (pts n (n*n)).length) A B C E) wt 1 (-0) (-0) t (wt+1))) (img t 0 0 1 (img A B C E (0,1)))=dnM n n' wt D F F' X' γ t i k:=by
 have J:=PF.of_norm (A:=(t:Int)) (B:=0) (C:=0) (E:=1) H (Y _ (Bd h)) (by omega) (Pf I H ht Z);exact Vi I J O (Nat.mod_lt _ V) U
end
end Go.Proofs.YtenlbhlllgppmaaGreatDoor
