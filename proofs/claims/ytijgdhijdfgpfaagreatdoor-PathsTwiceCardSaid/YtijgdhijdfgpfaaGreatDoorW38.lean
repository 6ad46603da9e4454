/- Translate in all cases, for a list of any size; what the law PathsTwice comes to, plain. -/
import Derived.Test.YtijgdhijdfgpfaaGreatDoorW36
import Derived.Test.YtijgdhijdfgpfaaGreatDoorW37
set_option linter.unusedSimpArgs false
set_option maxRecDepth 100000
set_option maxHeartbeats 8000000
namespace Go.Proofs.YtijgdhijdfgpfaaGreatDoor
open Go.RowKit Eli
def TrOk (F:Nat→FP) (n:Nat) (p q p' q' a b c d:Int) (N0:Nat) (f:Nat→Rat) (A B:Int×Int) (er:Int):Prop:=∀ vp vc W,QL F W (.slice vp n vc) n →
    Calls Tryz.prog 10 #[.agg #[.slice vp n vc,.int .i64 p,.int .i64 q,.int .i64 p',.int .i64 q'],.agg #[.int .i64 a,.int .i64 b,.int .i64 c,.int .i64 d]] W fun e w'=>(∃ pT cT,e=.returned (.tuple #[.agg #[.slice pT N0 cT,.int .i64 A.1,.int .i64 A.2,.int .i64 B.1,.int .i64 B.2],.int .i64 er])∧QL (fun j=>IsQ (f j)) w' (.slice pT N0 cT) N0∧∀ a,pT=some a→W.heap.size≤a.block)∧Below W.heap.size W w'
def trErr (n:Nat) (a b c d p q p' q':Int):Int:=if n=0∨23<n then 4 else if fitB a b c d=false then 2 else if a*d - b*c=0 then 11 else trE a b c d p q p' q'
theorem RetP.ok {w w':World} {e:Ending} {n:Nat} {f:Nat→Rat} {X Y:Int×Int} {er:Int} (h:RetP w w' e n f X Y er):
  ∃ pT cT,e=.returned (.tuple #[.agg #[.slice pT (if er=0 then n else 0) cT,.int .i64 ((if er=0 then X else(0,0)).1),.int .i64 ((if er=0 then X else(0,0)).2),.int .i64 ((if er=0 then Y else(0,0)).1),.int .i64 ((if er=0 then Y else(0,0)).2)],.int .i64 er])∧QL (fun j=>IsQ (f j)) w' (.slice pT (if er=0 then n else 0) cT) (if er=0 then n else 0)∧∀ a,pT=some a→w.heap.size≤a.block:=by
 rcases h with⟨h,he⟩ |⟨h,g,cap,he,hg,hr⟩
 ·simp only[if_neg h]
  exact⟨none,0,he,.inl ⟨rfl,_,_,rfl⟩,fun a ha=>by cases ha⟩
 ·subst h
  simp only[if_true]
  exact⟨_,cap,he,hr.ql cap,fun a ha=>by injection ha with ha;subst ha;exact hg⟩
theorem tr_ok (K:Nat) (hK1:1≤K) (hK:K≤1000000) (n:Nat) (x y:Nat→Int) (p q p' q' a b c d:Int) (hp:-9223372036854775808≤p) (hp':p≤9223372036854775807) (hq1:-9223372036854775808≤q) (hq1':q≤9223372036854775807) (hr:-9223372036854775808≤p') (hr':p'≤9223372036854775807) (hs:-9223372036854775808≤q') (hs':q'≤9223372036854775807):
  TrOk (fun j=>IsB K (x j) (y j)) n p q p' q' a b c d (if trErr n a b c d p q p' q'=0 then n else 0) (subst (fun i=>Rat.divInt (x i) (y i)) (n - 1) d (-b) (-c) a n) (if trErr n a b c d p q p' q'=0 then(appV a b c d p q).1 else(0,0)) (if trErr n a b c d p q p' q'=0 then(appV a b c d p' q').1 else(0,0)) (trErr n a b c d p q p' q'):=by
 obtain⟨er,her⟩:∃ er,trErr n a b c d p q p' q'=er:=⟨_,rfl⟩
 rw[her]
 have bad:er≠0→(∀ vp vc W,Calls Tryz.prog 10 #[.agg #[.slice vp n vc,.int .i64 p,.int .i64 q,.int .i64 p',.int .i64 q'],.agg #[.int .i64 a,.int .i64 b,.int .i64 c,.int .i64 d]] W fun e w'=>e=.returned (.tuple #[.agg #[.slice none 0 0,.int .i64 0,.int .i64 0,.int .i64 0,.int .i64 0],.int .i64 er])∧Below W.heap.size W w')→TrOk (fun j=>IsB K (x j) (y j)) n p q p' q' a b c d (if er=0 then n else 0) (subst (fun i=>Rat.divInt (x i) (y i)) (n - 1) d (-b) (-c) a n) (if er=0 then(appV a b c d p q).1 else(0,0)) (if er=0 then(appV a b c d p' q').1 else(0,0)) er:=fun h0 h1 vp vc W _=>by
  simp only[if_neg h0]
  exact(h1 vp vc W).mono fun e w' ⟨he,hb⟩=>⟨⟨none,0,he,.inl ⟨rfl,_,_,rfl⟩,fun a ha=>by cases ha⟩,hb⟩
 by_cases h1:n=0∨23<n
 ·obtain rfl:4=er:=by rw[← her,trErr,if_pos h1]
  exact bad (by decide) (fun vp vc W=>c_Translate_shape vp n vc a b c d p q p' q' W h1)
 have hn0:0<n:=by omega
 have hn23:n≤23:=by omega
 by_cases h2:fitB a b c d=false
 ·obtain rfl:2=er:=by rw[← her,trErr,if_neg h1,if_pos h2]
  exact bad (by decide) (fun vp vc W=>c_Translate_err vp n vc a b c d p q p' q' 2 W hn0 hn23 (by decide) (fun w1=>c_Apply_fit a b c d p q w1 h2))
 have h3:fitB a b c d=true:=by simpa using h2
 simp only[fitB,Bool.and_eq_true]at h3
 obtain⟨ha,hb,hc,hd⟩:=h3
 obtain⟨ha,ha'⟩:=inE_iff.1 ha
 obtain⟨hb,hb'⟩:=inE_iff.1 hb
 obtain⟨hc,hc'⟩:=inE_iff.1 hc
 obtain⟨hd,hd'⟩:=inE_iff.1 hd
 by_cases h4:a*d - b*c=0
 ·obtain rfl:11=er:=by rw[← her,trErr,if_neg h1,if_neg h2,if_pos h4]
  exact bad (by decide) (fun vp vc W=>c_Translate_err vp n vc a b c d p q p' q' 11 W hn0 hn23 (by decide) (fun w1=>c_Apply_sing a b c d p q w1 ha ha' hb hb' hc hc' hd hd' h4))
 ·obtain rfl:trE a b c d p q p' q'=er:=by rw[← her,trErr,if_neg h1,if_neg h2,if_neg h4]
  intro vp vc W hq
  exact(c_TranslateK K hK1 hK (.slice vp n vc) n x y p q p' q' a b c d W hq hn0 hn23 ha ha' hb hb' hc hc' hd hd' h4 hp hp' hq1 hq1' hr hr' hs hs').mono fun e w' ⟨hret,hb⟩=>⟨hret.ok,hb⟩
theorem IsQ.isB {K:Nat} {r:Rat} {w:World} {s:Bool} {p:Option Addr} {n c:Nat} {t:Bool} {q:Option Addr} {m d:Nat} (h:IsQ r w s p n c t q m d) (hr:hq r≤K):IsB K r.num r.den w s p n c t q m d:=
 ⟨h.1.raw,h.2.raw,by have:=Qs.sizes h;omega,by have:=Qs.sizes h;omega⟩
theorem QL.isB {K:Nat} {f:Nat→Rat} {w:World} {v:Value} {n:Nat} (h:QL (fun j=>IsQ (f j)) w v n) (hf:∀ j,j<n→hq (f j)≤K):QL (fun j=>IsB K (f j).num (f j).den) w v n:=by
 rcases h with h |⟨g,o,c,h1,h2,h3⟩
 ·exact .inl h
 ·exact .inr ⟨g,o,c,h1,h2,fun j hj=>by
   obtain⟨s,p,k,c',t,q,m,d,e0,e1,e2,e3,hx⟩:=h3 j hj
   exact⟨s,p,k,c',t,q,m,d,e0,e1,e2,e3,IsQ.isB hx (hf j hj)⟩⟩
theorem inE_abs {x:Int} {B:Nat} (h:x.natAbs≤B) (hB:B≤1073741824):inE x=true:=inE_iff.2 (by omega)
theorem nd_abs {x:Int} {B:Nat} (h:x.natAbs≤B) (hB:B≤1073741824):nd x.natAbs≤2:=nd_le.2 (show x.natAbs<4294967296 ^ 2 by omega)
theorem nd_absN {x:Int} {B:Nat} (h:x.natAbs≤B) (hB:B≤1073741824):nd (-x).natAbs≤2:=by rw[Int.natAbs_neg];exact nd_abs h hB
theorem tw_plain (n:Nat) (x y:Nat→Int) (p q p' q' a b c d a' b' c' d':Int) (hQ:∀ i,i<n→hq (Rat.divInt (x i) (y i))≤4) (ha:a.natAbs≤60) (hb:b.natAbs≤60) (hc:c.natAbs≤60) (hd:d.natAbs≤60) (ha':a'.natAbs≤60) (hb':b'.natAbs≤60) (hc':c'.natAbs≤60) (hd':d'.natAbs≤60)
  (hp:-1000≤p) (hp':p≤1000) (hq1:-9223372036854775808≤q) (hq1':q≤1000) (hr:-1000≤p') (hr':p'≤1000) (hs:-9223372036854775808≤q') (hs':q'≤1000):
  ∃ N0 f A B er,TrOk (fun j=>IsB 4 (x j) (y j)) n p q p' q' a b c d N0 f A B er∧(er≠0→N0=0∧A=(0,0)∧B=(0,0))∧(er=0→∃ N1 f1 A1 B1 er1,N1≤30∧(∀ j,j<N1→hq (f1 j)≤200000) ∧
   TrOk (fun j=>IsQ (f j)) N0 A.1 A.2 B.1 B.2 a' b' c' d' N1 f1 A1 B1 er1∧TrOk (fun j=>IsB 4 (x j) (y j)) n p q p' q' (a'*a+b'*c) (a'*b+b'*d) (c'*a+d'*c) (c'*b+d'*d) N1 f1 A1 B1 er1):=by
 have R8:(-9223372036854775808≤p∧p≤9223372036854775807)∧q≤9223372036854775807∧(-9223372036854775808≤p'∧p'≤9223372036854775807)∧q'≤9223372036854775807:=⟨⟨by omega,by omega⟩,by omega,⟨by omega,by omega⟩,by omega⟩
 refine⟨_,_,_,_,_,tr_ok 4 (by decide) (by decide) n x y p q p' q' a b c d R8.1.1 R8.1.2 hq1 R8.2.1 R8.2.2.1.1 R8.2.2.1.2 hs R8.2.2.2,fun h=>⟨if_neg h,if_neg h,if_neg h⟩,fun h0=>?_⟩
 simp only[h0,if_true]
 unfold trErr at h0
 by_cases h1:n=0∨23<n
 ·rw[if_pos h1]at h0;cases h0
 rw[if_neg h1]at h0
 have hn22:n - 1≤30:=by omega
 have hn30:n≤30:=by omega
 by_cases h2:fitB a b c d=false
 ·rw[if_pos h2]at h0;cases h0
 rw[if_neg h2]at h0
 by_cases h3:a*d - b*c=0
 ·rw[if_pos h3]at h0;cases h0
 rw[if_neg h3]at h0
 have hA:(appV a b c d p q).2=0:=by
  unfold trE at h0
  split at h0
  ·contradiction
  ·rename_i h;simpa using h
 have hB:(appV a b c d p' q').2=0:=by
  unfold trE at h0
  split at h0
  ·contradiction
  ·exact h0
 have cA:cuspE p q=0:=by
  unfold appV at hA
  split at hA
  ·contradiction
  ·rename_i h;simpa using h
 have cB:cuspE p' q'=0:=by
  unfold appV at hB
  split at hB
  ·contradiction
  ·rename_i h;simpa using h
 have qA:0≤q:=by
  unfold cuspE at cA
  split at cA
  ·cases cA
  ·rename_i h;omega
 have qB:0≤q':=by
  unfold cuspE at cB
  split at cB
  ·cases cB
  ·rename_i h;omega
 have P1:p.natAbs≤1000:=by clear ha hb hc hd ha' hb' hc' hd';omega
 have Q1:q.natAbs≤1000:=by clear ha hb hc hd ha' hb' hc' hd';omega
 have P2:p'.natAbs≤1000:=by clear ha hb hc hd ha' hb' hc' hd';omega
 have Q2:q'.natAbs≤1000:=by clear ha hb hc hd ha' hb' hc' hd';omega
 have m1:=abs_lin_le ha' hb' ha hc
 have m2:=abs_lin_le ha' hb' hb hd
 have m3:=abs_lin_le hc' hd' ha hc
 have m4:=abs_lin_le hc' hd' hb hd
 have f1:fitB a' b' c' d'=true:=by
  simp only[fitB,inE_abs ha' (by decide),inE_abs hb' (by decide),inE_abs hc' (by decide),inE_abs hd' (by decide)];rfl
 have f2:fitB (a'*a+b'*c) (a'*b+b'*d) (c'*a+d'*c) (c'*b+d'*d)=true:=by
  simp only[fitB,inE_abs m1 (by decide),inE_abs m2 (by decide),inE_abs m3 (by decide),inE_abs m4 (by decide)];rfl
 have hdm:=det_mul a b c d a' b' c' d'
 have hQ1:∀ j,hq (subst (fun i=>Rat.divInt (x i) (y i)) (n - 1) d (-b) (-c) a n j)≤4000:=fun j=>hq_subst hQ (nd_abs hd (by decide)) (nd_absN hb (by decide)) (nd_absN hc (by decide)) (nd_abs ha (by decide)) hn22 hn30
 have lift:∀ {N1 f1 A1 B1 er1},TrOk (fun j=>IsB 4000 ((subst (fun i=>Rat.divInt (x i) (y i)) (n - 1) d (-b) (-c) a n) j).num ((subst (fun i=>Rat.divInt (x i) (y i)) (n - 1) d (-b) (-c) a n) j).den) n (appV a b c d p q).1.1 (appV a b c d p q).1.2 (appV a b c d p' q').1.1 (appV a b c d p' q').1.2 a' b' c' d' N1 f1 A1 B1 er1→TrOk (fun j=>IsQ ((subst (fun i=>Rat.divInt (x i) (y i)) (n - 1) d (-b) (-c) a n) j)) n (appV a b c d p q).1.1 (appV a b c d p q).1.2 (appV a b c d p' q').1.1 (appV a b c d p' q').1.2 a' b' c' d' N1 f1 A1 B1 er1:=fun h vp vc W hq=>h vp vc W (hq.isB (fun j _=>hQ1 j))
 have hsame:∀ r:Rat,Rat.divInt r.num r.den=r:=fun r=>Rat.num_divInt_den r
 have t1:=fun e1 e2 e3 e4 e5 e6 e7 e8=>tr_ok 4000 (by decide) (by decide) n (fun j=>((subst (fun i=>Rat.divInt (x i) (y i)) (n - 1) d (-b) (-c) a n) j).num) (fun j=>((subst (fun i=>Rat.divInt (x i) (y i)) (n - 1) d (-b) (-c) a n) j).den) (appV a b c d p q).1.1 (appV a b c d p q).1.2 (appV a b c d p' q').1.1 (appV a b c d p' q').1.2 a' b' c' d' e1 e2 e3 e4 e5 e6 e7 e8
 have t2:=tr_ok 4 (by decide) (by decide) n x y p q p' q' (a'*a+b'*c) (a'*b+b'*d) (c'*a+d'*c) (c'*b+d'*d) R8.1.1 R8.1.2 hq1 R8.2.1 R8.2.2.1.1 R8.2.2.1.2 hs R8.2.2.2
 simp only[hsame]at t1
 have rA:inE (appV a b c d p q).1.1=true∧inE (appV a b c d p q).1.2=true:=by
  unfold appV at hA ⊢
  rw[if_neg (by simp[cA])]at hA ⊢
  split at hA
  ·rename_i h;rw[if_pos h];exact h
  ·cases hA
 have rB:inE (appV a b c d p' q').1.1=true∧inE (appV a b c d p' q').1.2=true:=by
  unfold appV at hB ⊢
  rw[if_neg (by simp[cB])]at hB ⊢
  split at hB
  ·rename_i h;rw[if_pos h];exact h
  ·cases hB
 simp only[inE_iff]at rA rB
 have w64:∀ z:Int,-1073741824≤z∧z≤1073741824→-9223372036854775808≤z∧z≤9223372036854775807:=fun z h=>by omega
 have v1:=w64 _ rA.1
 have v2:=w64 _ rA.2
 have v3:=w64 _ rB.1
 have v4:=w64 _ rB.2
 replace t1:=lift (t1 v1.1 v1.2 v2.1 v2.2 v3.1 v3.2 v4.1 v4.2)
 by_cases h4:a'*d' - b'*c'=0
 ·have e1:trErr n a' b' c' d' (appV a b c d p q).1.1 (appV a b c d p q).1.2 (appV a b c d p' q').1.1 (appV a b c d p' q').1.2=11:=by rw[trErr,if_neg h1,if_neg (by rw[f1];decide),if_pos h4]
  have e2:trErr n (a'*a+b'*c) (a'*b+b'*d) (c'*a+d'*c) (c'*b+d'*d) p q p' q'=11:=by rw[trErr,if_neg h1,if_neg (by rw[f2];decide),if_pos (by rw[hdm,h4,Int.zero_mul])]
  rw[e1]at t1
  rw[e2]at t2
  simp only[show ¬ (11:Int)=0 by decide,if_false]at t1 t2
  refine⟨0,fun _=>0,(0,0),(0,0),11,Nat.zero_le _,fun j hj=>absurd hj (Nat.not_lt_zero _),fun vp vc W hq=>(t1 vp vc W hq).mono ?_,fun vp vc W hq=>(t2 vp vc W hq).mono ?_⟩
  ·rintro e w' ⟨⟨pT,cT,he,hq,hx⟩,hb⟩
   exact⟨⟨pT,cT,he,.inl ⟨rfl,_,_,rfl⟩,hx⟩,hb⟩
  ·rintro e w' ⟨⟨pT,cT,he,hq,hx⟩,hb⟩
   exact⟨⟨pT,cT,he,.inl ⟨rfl,_,_,rfl⟩,hx⟩,hb⟩
 ·have hAA:=appV_twice ha hb hc hd ha' hb' hc' hd' (p:=p) (q:=q) P1 Q1 cA h3 h4
  have hBB:=appV_twice ha hb hc hd ha' hb' hc' hd' (p:=p') (q:=q') P2 Q2 cB h3 h4
  have hd2:¬ (a'*a+b'*c)*(c'*b+d'*d) - (a'*b+b'*d)*(c'*a+d'*c)=0:=by rw[hdm];exact Int.mul_ne_zero h4 h3
  have e2:trErr n (a'*a+b'*c) (a'*b+b'*d) (c'*a+d'*c) (c'*b+d'*d) p q p' q'=0:=by
   rw[trErr,if_neg h1,if_neg (by rw[f2];decide),if_neg hd2,trE,if_neg (by rw[hAA.2.2];simp),hBB.2.2]
  have e1:trErr n a' b' c' d' (appV a b c d p q).1.1 (appV a b c d p q).1.2 (appV a b c d p' q').1.1 (appV a b c d p' q').1.2=0:=by
   rw[trErr,if_neg h1,if_neg (by rw[f1];decide),if_neg h4,trE,hAA.2.1,hBB.2.1,if_neg (by rw[hAA.2.2];simp),hBB.2.2]
  rw[e1,hAA.2.1,hBB.2.1]at t1
  rw[e2]at t2
  simp only[if_true]at t1 t2
  obtain⟨m,rfl⟩:∃ m,n=m+1:=⟨n - 1,by omega⟩
  have hss:subst (subst (fun i=>Rat.divInt (x i) (y i)) (m+1 - 1) d (-b) (-c) a (m+1)) (m+1 - 1) d' (-b') (-c') a' (m+1)=subst (fun i=>Rat.divInt (x i) (y i)) (m+1 - 1) (c'*b+d'*d) (-(a'*b+b'*d)) (-(c'*a+d'*c)) (a'*a+b'*c) (m+1):=by
   funext j
   rw[Nat.add_sub_cancel,subst_subst]
   congr 1 <;> grind
  rw[hss]at t1
  refine⟨m+1,_,_,_,0,hn30,fun j _=>Nat.le_trans (hq_subst (j:=j) hQ (nd_abs m4 (by decide)) (nd_absN m2 (by decide)) (nd_absN m3 (by decide)) (nd_abs m1 (by decide)) hn22 hn30) (by decide),t1,t2⟩
theorem wr60 {x y:Int} (hx:x.natAbs≤60) (hy:y.natAbs≤60):IntKind.i64.wrap (x*y)=x*y:=IntWalk.i64_in _ (by have:=abs_mul_le hx hy;omega)
theorem wr60s {x y z u:Int} (hx:x.natAbs≤60) (hy:y.natAbs≤60) (hz:z.natAbs≤60) (hu:u.natAbs≤60):IntKind.i64.wrap (x*z+y*u)=x*z+y*u:=IntWalk.i64_in _ (by have:=abs_lin_le hx hy hz hu;omega)
theorem run_max4 {P:Program} (ts:Array TypeId) (t:TypeId) (k k2 k3 k4:IntKind) (x y z u:Int) (w:World):(Builtin.max_ ts t #[.int k x,.int k2 y,.int k3 z,.int k4 u]).run P w=.ok (.int k (max (max (max x y) z) u)) w:=by
 have h:∀ a b:Int,(if a<b then b else a)=max a b:=fun a b=>by by_cases h:a<b <;> simp[h] <;> omega
 simp[Builtin.max_,Builtin.max2,h]
theorem c_lawTw (v:Value) (n:Nat) (x y:Nat→Int) (p q p' q' a b c d a' b' c' d':Int) (w:World) (hT:Tab w) (h:QL (fun j=>IsA (x j) (y j)) w v n) (hl:n≤9223372036854775807) (hq1:-9223372036854775808≤q) (hs:-9223372036854775808≤q'):
  Calls Tryz.prog 5 #[.agg #[v,.int .i64 p,.int .i64 q,.int .i64 p',.int .i64 q'],.agg #[.int .i64 a,.int .i64 b,.int .i64 c,.int .i64 d,.int .i64 a',.int .i64 b',.int .i64 c',.int .i64 d']] w fun e w'=>e=.returned (.bool true)∧Below w.heap.size w w':=by
 obtain⟨vp,vc,rfl⟩:∃ p c,v=.slice p n c:=by
  rcases h with⟨rfl,a,c,rfl⟩ |⟨g,o,c,rfl,_⟩
  ·exact⟨_,_,rfl⟩
  ·exact⟨_,_,rfl⟩
 have HA:=Kh (fun W (hb:Below w.heap.size w W) j (hj:j<n)=>(show ∃ g o,vp=some ⟨g,o,none⟩∧g<W.heap.size∧QE (IsA (x j) (y j)) W g (o+j*4)by
  rcases h with⟨h1,_⟩ |⟨g,o,c,e,hg,h1⟩
  ·omega
  ·injection e with e1 e2 e3
   exact⟨g,o,e1,Nat.lt_of_lt_of_le hg hb.size,(h1 j hj).keep (IsA.solid _ _) hb⟩))
 have HPL:=Kh (fun hQ ha hb hc hd ha' hb' hc' hd' k1 k2 k3 k4 k5 k6=>tw_plain n x y p q p' q' a b c d a' b' c' d' hQ ha hb hc hd ha' hb' hc' hd' k1 k2 hq1 k3 k4 k5 hs k6)
 have HT:=Kh hT
 have HL:=Kh hl
 clear hT h hq1 hs hl
 go_enter Tryz.func5,Tryz.ntmps5
 go_wp2_with fail
 obtain⟨w0,hw0,XA,XM,hb0⟩:=bx2 w #[.slice vp n vc,.int .i64 p,.int .i64 q,.int .i64 p',.int .i64 q'] 26 #[.int .i64 a,.int .i64 b,.int .i64 c,.int .i64 d,.int .i64 a',.int .i64 b',.int .i64 c',.int .i64 d'] 58
 rw[hw0]
 refine(c_awake42 w0 (HT.out.below hb0)).mono ?_
 rintro e wk ⟨rfl,hb1⟩
 obtain⟨gA,hgA⟩:∃ x,w.heap.size=x:=⟨_,rfl⟩
 obtain⟨gM,hgM⟩:∃ x,w.heap.size+1=x:=⟨_,rfl⟩
 have XA1:=XA.below_ hb1 XA.lt
 have XM1:=XM.below_ hb1 XM.lt
 rw[hgM]at XM1 ⊢
 rw[hgA]at XA1 ⊢
 have HXA:=Kh XA1
 have HXM:=Kh XM1
 have HBK:=Kh (hb0.trans (hb1.mono hb0.size))
 clear hw0 XA XM hb0 hb1 hgA hgM XA1 XM1
 have m0:=HXM.out.at_ 0 rfl
 have m1:=HXM.out.at_ 1 rfl
 have m2:=HXM.out.at_ 2 rfl
 have m3:=HXM.out.at_ 3 rfl
 have m4:=HXM.out.at_ 4 rfl
 have m5:=HXM.out.at_ 5 rfl
 have m6:=HXM.out.at_ 6 rfl
 have m7:=HXM.out.at_ 7 rfl
 go_upto_region 3 with(fail)
 go_cut [5,6]from 17 to 21 (fun v5 v6 wx=>∃ g5 g6,v5=.pointer (some ⟨g5,0,none⟩)∧v6=.pointer (some ⟨g6,0,none⟩)∧Blk wx g5 28 #[.int .i64 a,.int .i64 b,.int .i64 c,.int .i64 d]∧Blk wx g6 28 #[.int .i64 a',.int .i64 b',.int .i64 c',.int .i64 d']∧Below wk.heap.size wk wx)
 case first=>
  have hlt:=HXM.out.lt
  go_region
  ·go_wp2
   go_meet
   obtain⟨B1,B2,hb⟩:=box2 wk #[.int .i64 a,.int .i64 b,.int .i64 c,.int .i64 d] 28 #[.int .i64 a',.int .i64 b',.int .i64 c',.int .i64 d'] 28
   exact⟨_,_,rfl,rfl,B1.drew_,B2.drew_,hb.drew⟩
  ·go_wp2
   go_meet
   obtain⟨B1,B2,hb⟩:=box2 wk #[.int .i64 a',.int .i64 b',.int .i64 c',.int .i64 d'] 28 #[.int .i64 a,.int .i64 b,.int .i64 c,.int .i64 d] 28
   exact⟨_,_,rfl,rfl,B2.drew_,B1.drew_,hb.drew⟩
 case rest=>
  obtain⟨g5,g6,rfl,rfl,X5,X6,hbx⟩:=hcut
  obtain⟨w1,rfl⟩:∃ w1:World,w1=wc:=⟨_,rfl⟩
  have HX5:=Kh X5
  have HX6:=Kh X6
  have HB1:=bt HBK hbx
  have HXA1:=Kh (bk HXA hbx)
  clear m0 m1 m2 m3 m4 m5 m6 m7 X5 X6 hbx HXA HXM HBK HT
  have m0:=HX5.out.at_ 0 rfl
  have k0:=HX6.out.at_ 0 rfl
  have m1:=HX5.out.at_ 1 rfl
  have k1:=HX6.out.at_ 1 rfl
  have m2:=HX5.out.at_ 2 rfl
  have k2:=HX6.out.at_ 2 rfl
  have m3:=HX5.out.at_ 3 rfl
  have k3:=HX6.out.at_ 3 rfl
  go_wp2_with fail
  go_loopw [38] (fun ii wr=>∃ i:Nat,i≤8∧ii=.int .i64 i∧wr=w1∧Hid ((0<i→a.natAbs≤60)∧(1<i→b.natAbs≤60)∧(2<i→c.natAbs≤60)∧(3<i→d.natAbs≤60)∧(4<i→a'.natAbs≤60)∧(5<i→b'.natAbs≤60)∧(6<i→c'.natAbs≤60)∧(7<i→d'.natAbs≤60))) (fun ii _=>8 - (intOf ii).toNat)
  case atStart=>exact⟨0,by omega,rfl,rfl,Kh ⟨fun h=>absurd h (by omega),fun h=>absurd h (by omega),fun h=>absurd h (by omega),fun h=>absurd h (by omega),fun h=>absurd h (by omega),fun h=>absurd h (by omega),fun h=>absurd h (by omega),fun h=>absurd h (by omega)⟩⟩
  case round=>
   obtain⟨i,hi,rfl,hwr,HR⟩:=hrel
   obtain rfl:w1=wr:=hwr.symm
   clear hwr
   have ix0:∀ w:World,(Instr.index 59 (.agg #[.int .i64 a,.int .i64 b,.int .i64 c,.int .i64 d,.int .i64 a',.int .i64 b',.int .i64 c',.int .i64 d']) (.int .i64 0)).run Tryz.prog w=.ok (.int .i64 a) w:=fun _=>by kernel_rfl
   have ix1:∀ w:World,(Instr.index 59 (.agg #[.int .i64 a,.int .i64 b,.int .i64 c,.int .i64 d,.int .i64 a',.int .i64 b',.int .i64 c',.int .i64 d']) (.int .i64 1)).run Tryz.prog w=.ok (.int .i64 b) w:=fun _=>by kernel_rfl
   have ix2:∀ w:World,(Instr.index 59 (.agg #[.int .i64 a,.int .i64 b,.int .i64 c,.int .i64 d,.int .i64 a',.int .i64 b',.int .i64 c',.int .i64 d']) (.int .i64 2)).run Tryz.prog w=.ok (.int .i64 c) w:=fun _=>by kernel_rfl
   have ix3:∀ w:World,(Instr.index 59 (.agg #[.int .i64 a,.int .i64 b,.int .i64 c,.int .i64 d,.int .i64 a',.int .i64 b',.int .i64 c',.int .i64 d']) (.int .i64 3)).run Tryz.prog w=.ok (.int .i64 d) w:=fun _=>by kernel_rfl
   have ix4:∀ w:World,(Instr.index 59 (.agg #[.int .i64 a,.int .i64 b,.int .i64 c,.int .i64 d,.int .i64 a',.int .i64 b',.int .i64 c',.int .i64 d']) (.int .i64 4)).run Tryz.prog w=.ok (.int .i64 a') w:=fun _=>by kernel_rfl
   have ix5:∀ w:World,(Instr.index 59 (.agg #[.int .i64 a,.int .i64 b,.int .i64 c,.int .i64 d,.int .i64 a',.int .i64 b',.int .i64 c',.int .i64 d']) (.int .i64 5)).run Tryz.prog w=.ok (.int .i64 b') w:=fun _=>by kernel_rfl
   have ix6:∀ w:World,(Instr.index 59 (.agg #[.int .i64 a,.int .i64 b,.int .i64 c,.int .i64 d,.int .i64 a',.int .i64 b',.int .i64 c',.int .i64 d']) (.int .i64 6)).run Tryz.prog w=.ok (.int .i64 c') w:=fun _=>by kernel_rfl
   have ix7:∀ w:World,(Instr.index 59 (.agg #[.int .i64 a,.int .i64 b,.int .i64 c,.int .i64 d,.int .i64 a',.int .i64 b',.int .i64 c',.int .i64 d']) (.int .i64 7)).run Tryz.prog w=.ok (.int .i64 d') w:=fun _=>by kernel_rfl
   by_cases hi8:i<8
   ·have hi9:i=0∨i=1∨i=2∨i=3∨i=4∨i=5∨i=6∨i=7:=by omega
    clear hi hi8 m0 m1 m2 m3 k0 k1 k2 k3
    rcases hi9 with rfl|rfl|rfl|rfl|rfl|rfl|rfl|rfl
    ·by_cases k1:a < -60
     ·go_wp2
      go_ret
      exact⟨rfl,HB1.out⟩
     ·by_cases k2:60<a
      ·go_wp2
       go_ret
       exact⟨rfl,HB1.out⟩
      ·go_wp2
       go_roundw
       all_goals first|exact⟨0+1,by omega,rfl,trivial,Kh ⟨fun _=>by omega,fun h=>absurd h (by omega),fun h=>absurd h (by omega),fun h=>absurd h (by omega),fun h=>absurd h (by omega),fun h=>absurd h (by omega),fun h=>absurd h (by omega),fun h=>absurd h (by omega)⟩⟩ |(simp[intOf];done) |(simp[intOf];omega)
    ·by_cases k1:b < -60
     ·go_wp2
      go_ret
      exact⟨rfl,HB1.out⟩
     ·by_cases k2:60<b
      ·go_wp2
       go_ret
       exact⟨rfl,HB1.out⟩
      ·go_wp2
       go_roundw
       all_goals first|exact⟨1+1,by omega,rfl,trivial,Kh ⟨fun h=>HR.out.1 (by omega),fun _=>by omega,fun h=>absurd h (by omega),fun h=>absurd h (by omega),fun h=>absurd h (by omega),fun h=>absurd h (by omega),fun h=>absurd h (by omega),fun h=>absurd h (by omega)⟩⟩ |(simp[intOf];done) |(simp[intOf];omega)
    ·by_cases k1:c < -60
     ·go_wp2
      go_ret
      exact⟨rfl,HB1.out⟩
     ·by_cases k2:60<c
      ·go_wp2
       go_ret
       exact⟨rfl,HB1.out⟩
      ·go_wp2
       go_roundw
       all_goals first|exact⟨2+1,by omega,rfl,trivial,Kh ⟨fun h=>HR.out.1 (by omega),fun h=>HR.out.2.1 (by omega),fun _=>by omega,fun h=>absurd h (by omega),fun h=>absurd h (by omega),fun h=>absurd h (by omega),fun h=>absurd h (by omega),fun h=>absurd h (by omega)⟩⟩ |(simp[intOf];done) |(simp[intOf];omega)
    ·by_cases k1:d < -60
     ·go_wp2
      go_ret
      exact⟨rfl,HB1.out⟩
     ·by_cases k2:60<d
      ·go_wp2
       go_ret
       exact⟨rfl,HB1.out⟩
      ·go_wp2
       go_roundw
       all_goals first|exact⟨3+1,by omega,rfl,trivial,Kh ⟨fun h=>HR.out.1 (by omega),fun h=>HR.out.2.1 (by omega),fun h=>HR.out.2.2.1 (by omega),fun _=>by omega,fun h=>absurd h (by omega),fun h=>absurd h (by omega),fun h=>absurd h (by omega),fun h=>absurd h (by omega)⟩⟩ |(simp[intOf];done) |(simp[intOf];omega)
    ·by_cases k1:a' < -60
     ·go_wp2
      go_ret
      exact⟨rfl,HB1.out⟩
     ·by_cases k2:60<a'
      ·go_wp2
       go_ret
       exact⟨rfl,HB1.out⟩
      ·go_wp2
       go_roundw
       all_goals first|exact⟨4+1,by omega,rfl,trivial,Kh ⟨fun h=>HR.out.1 (by omega),fun h=>HR.out.2.1 (by omega),fun h=>HR.out.2.2.1 (by omega),fun h=>HR.out.2.2.2.1 (by omega),fun _=>by omega,fun h=>absurd h (by omega),fun h=>absurd h (by omega),fun h=>absurd h (by omega)⟩⟩ |(simp[intOf];done) |(simp[intOf];omega)
    ·by_cases k1:b' < -60
     ·go_wp2
      go_ret
      exact⟨rfl,HB1.out⟩
     ·by_cases k2:60<b'
      ·go_wp2
       go_ret
       exact⟨rfl,HB1.out⟩
      ·go_wp2
       go_roundw
       all_goals first|exact⟨5+1,by omega,rfl,trivial,Kh ⟨fun h=>HR.out.1 (by omega),fun h=>HR.out.2.1 (by omega),fun h=>HR.out.2.2.1 (by omega),fun h=>HR.out.2.2.2.1 (by omega),fun h=>HR.out.2.2.2.2.1 (by omega),fun _=>by omega,fun h=>absurd h (by omega),fun h=>absurd h (by omega)⟩⟩ |(simp[intOf];done) |(simp[intOf];omega)
    ·by_cases k1:c' < -60
     ·go_wp2
      go_ret
      exact⟨rfl,HB1.out⟩
     ·by_cases k2:60<c'
      ·go_wp2
       go_ret
       exact⟨rfl,HB1.out⟩
      ·go_wp2
       go_roundw
       all_goals first|exact⟨6+1,by omega,rfl,trivial,Kh ⟨fun h=>HR.out.1 (by omega),fun h=>HR.out.2.1 (by omega),fun h=>HR.out.2.2.1 (by omega),fun h=>HR.out.2.2.2.1 (by omega),fun h=>HR.out.2.2.2.2.1 (by omega),fun h=>HR.out.2.2.2.2.2.1 (by omega),fun _=>by omega,fun h=>absurd h (by omega)⟩⟩ |(simp[intOf];done) |(simp[intOf];omega)
    ·by_cases k1:d' < -60
     ·go_wp2
      go_ret
      exact⟨rfl,HB1.out⟩
     ·by_cases k2:60<d'
      ·go_wp2
       go_ret
       exact⟨rfl,HB1.out⟩
      ·go_wp2
       go_roundw
       all_goals first|exact⟨7+1,by omega,rfl,trivial,Kh ⟨fun h=>HR.out.1 (by omega),fun h=>HR.out.2.1 (by omega),fun h=>HR.out.2.2.1 (by omega),fun h=>HR.out.2.2.2.1 (by omega),fun h=>HR.out.2.2.2.2.1 (by omega),fun h=>HR.out.2.2.2.2.2.1 (by omega),fun h=>HR.out.2.2.2.2.2.2.1 (by omega),fun _=>by omega⟩⟩ |(simp[intOf];done) |(simp[intOf];omega)
   ·obtain rfl:8=i:=by omega
    clear ix0 ix1 ix2 ix3 ix4 ix5 ix6 ix7
    have x0:=HXA1.out.at_ 0 rfl
    have x1:=HXA1.out.at_ 1 rfl
    have x2:=HXA1.out.at_ 2 rfl
    have x3:=HXA1.out.at_ 3 rfl
    have x4:=HXA1.out.at_ 4 rfl
    obtain⟨mx,hmx⟩:∃ mx,max (max (max p q) p') q'=mx:=⟨_,rfl⟩
    have hM:∀ w,(Builtin.max_ #[3,3,3,3] 3 #[.int .i64 p,.int .i64 q,.int .i64 p',.int .i64 q']).run Tryz.prog w=.ok (.int .i64 mx) w:=fun w=>by rw[← hmx];exact run_max4 _ _ _ _ _ _ _ _ _ _ w
    have HMX:=Kh hmx
    clear hmx
    go_upto_region 10 with(fail)
    go_cut [77]from 48 to 78 (fun v77 wx=>wx=w1∧∃ b:Bool,v77=.bool b∧(b=false→(n≤30∧Shorts x y w1 vp n)∧(-1000≤p∧-1000≤p')∧p≤1000∧q≤1000∧p'≤1000∧q'≤1000))
    case first=>
     go_wp2_with fail
     refine(c_short42 vp n vc x y w1 (HA.out w1 HB1.out) HL.out).mono ?_
     rintro e w' ⟨hw',bs,rfl,hsh⟩
     obtain rfl:w1=w':=hw'.symm
     have HSH:=Kh hsh
     clear hsh hw'
     cases bs with
     | false=>
      go_wp2
      go_meet
      exact⟨rfl,_,rfl,fun h=>by cases h⟩
     | true=>
      by_cases h1:1000<mx
      ·go_wp2
       go_meet
       exact⟨rfl,_,rfl,fun h=>by cases h⟩
      ·have h1d:decide (1000<mx)=false:=decide_eq_false h1
       by_cases hlt:p'<p
       ·go_wp2
        go_meet
        exact⟨rfl,_,rfl,fun h=>⟨HSH.out trivial,by have:=of_decide_eq_false h;omega,by have:=HMX.out;omega⟩⟩
       ·go_wp2
        go_meet
        exact⟨rfl,_,rfl,fun h=>⟨HSH.out trivial,by have:=of_decide_eq_false h;omega,by have:=HMX.out;omega⟩⟩
    case rest=>
     obtain⟨hwc,b,rfl,hb⟩:=hcut
     obtain rfl:w1=wc:=hwc.symm
     cases b with
     | true=>
      go_wp2
      go_ret
      exact⟨rfl,HB1.out⟩
     | false=>
      obtain⟨⟨hn30,hs30⟩,⟨hb1,hb2⟩,hb3,hb4,hb5,hb6⟩:=hb rfl
      have HQB:=Kh (show QL (fun j=>IsB 4 (x j) (y j)) w1 (.slice vp n vc) n from hs30.ql (c:=vc))
      have hQS:∀ i,i<n→hq (Rat.divInt (x i) (y i))≤4:=fun i hi=>by
       obtain⟨_,_,_,_,_,_,_,_,_,_,_,_,_,_,_,_,h5,h6,h7,h8⟩:=hs30 i hi
       exact hq_frac (Nat.le_trans h5.size h7) (Nat.le_trans h6.size h8)
      have na:=HR.out.1 (by omega)
      have nb:=HR.out.2.1 (by omega)
      have nc:=HR.out.2.2.1 (by omega)
      have nd:=HR.out.2.2.2.1 (by omega)
      have na':=HR.out.2.2.2.2.1 (by omega)
      have nb':=HR.out.2.2.2.2.2.1 (by omega)
      have nc':=HR.out.2.2.2.2.2.2.1 (by omega)
      have nd':=HR.out.2.2.2.2.2.2.2 (by omega)
      obtain⟨N0,f,A,B,er,ht,hbad,hgood⟩:=HPL.out hQS na nb nc nd na' nb' nc' nd' hb1 hb3 hb4 hb2 hb5 hb6
      have HWR:=Kh (show(IntKind.i64.wrap (a'*a)=a'*a)∧(IntKind.i64.wrap (b'*c)=b'*c)∧(IntKind.i64.wrap (a'*a+b'*c)=a'*a+b'*c)∧(IntKind.i64.wrap (a'*b)=a'*b)∧(IntKind.i64.wrap (b'*d)=b'*d)∧(IntKind.i64.wrap (a'*b+b'*d)=a'*b+b'*d)∧(IntKind.i64.wrap (c'*a)=c'*a)∧(IntKind.i64.wrap (d'*c)=d'*c)∧(IntKind.i64.wrap (c'*a+d'*c)=c'*a+d'*c)∧(IntKind.i64.wrap (c'*b)=c'*b)∧(IntKind.i64.wrap (d'*d)=d'*d)∧(IntKind.i64.wrap (c'*b+d'*d)=c'*b+d'*d)from⟨wr60 na' na,wr60 nb' nc,wr60s na' nb' na nc,wr60 na' nb,wr60 nb' nd,wr60s na' nb' nb nd,wr60 nc' na,wr60 nd' nc,wr60s nc' nd' na nc,wr60 nc' nb,wr60 nd' nd,wr60s nc' nd' nb nd⟩)
      have HGD:=Kh hgood
      have HBA:=Kh hbad
      have HTR:=Kh ht
      clear hs30 hQS na nb nc nd na' nb' nc' nd' ht hbad hgood hb hb1 hb2 hb3 hb4 hb5 hb6 hn30 HPL HR HA HMX hM
      go_wp2_with fail
      refine(HTR.out vp vc w1 HQB.out).mono ?_
      rintro e w2 ⟨⟨pT,cT,rfl,hqT,_⟩,hb2⟩
      obtain⟨w3,hw3⟩:∃ w3,w2.alloc (.cells #[.slice pT N0 cT,.int .i64 A.1,.int .i64 A.2,.int .i64 B.1,.int .i64 B.2] 26)=w3:=⟨_,rfl⟩
      obtain⟨XT,hb3⟩:=box1 w2 #[.slice pT N0 cT,.int .i64 A.1,.int .i64 A.2,.int .i64 B.1,.int .i64 B.2] 26
      rw[hw3]at XT hb3
      have hb13:=hb2.trans (hb3.mono hb2.size)
      have HXT:=Kh XT
      have HQT:=Kh (hqT.keep (fun _=>IsQ.solid _) hb3)
      have HB3:=bt HB1 hb13
      have HXA3:=Kh (bk HXA1 hb13)
      have HX53:=Kh (bk HX5 hb13)
      have HX63:=Kh (bk HX6 hb13)
      have HQB3:=Kh (HQB.out.keep (fun _=>IsB.solid _ _ _) hb13)
      clear x0 x1 x2 x3 x4 m0 m1 m2 m3 k0 k1 k2 k3 XT hqT hb2 hb3 hb13 HXA1 HX5 HX6 HQB HB1 HTR
      obtain⟨gT,hgT⟩:∃ x,w2.heap.size=x:=⟨_,rfl⟩
      rw[hgT]at HXT
      have x0:=HXA3.out.at_ 0 rfl
      have t0:=HXT.out.at_ 0 rfl
      have x1:=HXA3.out.at_ 1 rfl
      have t1:=HXT.out.at_ 1 rfl
      have x2:=HXA3.out.at_ 2 rfl
      have t2:=HXT.out.at_ 2 rfl
      have x3:=HXA3.out.at_ 3 rfl
      have t3:=HXT.out.at_ 3 rfl
      have x4:=HXA3.out.at_ 4 rfl
      have t4:=HXT.out.at_ 4 rfl
      have m0:=HX53.out.at_ 0 rfl
      have k0:=HX63.out.at_ 0 rfl
      have m1:=HX53.out.at_ 1 rfl
      have k1:=HX63.out.at_ 1 rfl
      have m2:=HX53.out.at_ 2 rfl
      have k2:=HX63.out.at_ 2 rfl
      have m3:=HX53.out.at_ 3 rfl
      have k3:=HX63.out.at_ 3 rfl
      by_cases he:er=0
      ·have hne:(er != 0)=false:=by rw[he];rfl
       obtain⟨N1,f1,A1,B1,er1,hN1,hf1,ht2,ht3⟩:=HGD.out he
       have HT2:=Kh ht2
       have HT3:=Kh ht3
       have HF1:=Kh hf1
       clear ht2 ht3 hf1 HGD HBA
       go_wp2_with fail
       refine(HT2.out pT cT w3 HQT.out).mono ?_
       rintro e w4 ⟨⟨pY,cY,rfl,hqY,_⟩,hb4⟩
       obtain⟨w5,hw5⟩:∃ w5,w4.alloc (.cells #[.slice pY N1 cY,.int .i64 A1.1,.int .i64 A1.2,.int .i64 B1.1,.int .i64 B1.2] 26)=w5:=⟨_,rfl⟩
       obtain⟨XY,hb5⟩:=box1 w4 #[.slice pY N1 cY,.int .i64 A1.1,.int .i64 A1.2,.int .i64 B1.1,.int .i64 B1.2] 26
       rw[hw5]at XY hb5
       have hb35:=hb4.trans (hb5.mono hb4.size)
       have HXY:=Kh XY
       have HQY:=Kh (hqY.keep (fun _=>IsQ.solid _) hb5)
       have HB5:=bt HB3 hb35
       have HXA5:=Kh (bk HXA3 hb35)
       have HX55:=Kh (bk HX53 hb35)
       have HX65:=Kh (bk HX63 hb35)
       have HQB5:=Kh (HQB3.out.keep (fun _=>IsB.solid _ _ _) hb35)
       clear x0 x1 x2 x3 x4 t0 t1 t2 t3 t4 m0 m1 m2 m3 k0 k1 k2 k3 XY hqY hb4 hb5 hb35 HXA3 HX53 HX63 HQB3 HB3 HXT HQT HT2 hw3
       obtain⟨gY,hgY⟩:∃ x,w4.heap.size=x:=⟨_,rfl⟩
       rw[hgY]at HXY
       have x0:=HXA5.out.at_ 0 rfl
       have x1:=HXA5.out.at_ 1 rfl
       have x2:=HXA5.out.at_ 2 rfl
       have x3:=HXA5.out.at_ 3 rfl
       have x4:=HXA5.out.at_ 4 rfl
       have m0:=HX55.out.at_ 0 rfl
       have k0:=HX65.out.at_ 0 rfl
       have m1:=HX55.out.at_ 1 rfl
       have k1:=HX65.out.at_ 1 rfl
       have m2:=HX55.out.at_ 2 rfl
       have k2:=HX65.out.at_ 2 rfl
       have m3:=HX55.out.at_ 3 rfl
       have k3:=HX65.out.at_ 3 rfl
       obtain⟨v1,v2,v3,v4,v5,v6,v7,v8,v9,v10,v11,v12⟩:=HWR.out
       clear HWR hgT
       go_wp2_with fail
       refine(HT3.out vp vc w5 HQB5.out).mono ?_
       rintro e w6 ⟨⟨pZ,cZ,rfl,hqZ,_⟩,hb6⟩
       obtain⟨w7,hw7⟩:∃ w7,w6.alloc (.cells #[.slice pZ N1 cZ,.int .i64 A1.1,.int .i64 A1.2,.int .i64 B1.1,.int .i64 B1.2] 26)=w7:=⟨_,rfl⟩
       obtain⟨XZ,hb7⟩:=box1 w6 #[.slice pZ N1 cZ,.int .i64 A1.1,.int .i64 A1.2,.int .i64 B1.1,.int .i64 B1.2] 26
       rw[hw7]at XZ hb7
       have hb57:=hb6.trans (hb7.mono hb6.size)
       have HXZ:=Kh XZ
       have HQZ:=Kh (hqZ.keep (fun _=>IsQ.solid _) hb7)
       have HB7:=bt HB5 hb57
       have HXY7:=Kh (bk HXY hb57)
       have HQY7:=Kh (HQY.out.keep (fun _=>IsQ.solid _) hb57)
       clear x0 x1 x2 x3 x4 m0 m1 m2 m3 k0 k1 k2 k3 v1 v2 v3 v4 v5 v6 v7 v8 v9 v10 v11 v12 XZ hqZ hb6 hb7 hb57 HXA5 HX55 HX65 HQB5 HB5 HXY HQY HT3 hw5 hgY
       obtain⟨gZ,hgZ⟩:∃ x,w6.heap.size=x:=⟨_,rfl⟩
       rw[hgZ]at HXZ
       have y0:=HXY7.out.at_ 0 rfl
       have z0:=HXZ.out.at_ 0 rfl
       have y1:=HXY7.out.at_ 1 rfl
       have z1:=HXZ.out.at_ 1 rfl
       have y2:=HXY7.out.at_ 2 rfl
       have z2:=HXZ.out.at_ 2 rfl
       have y3:=HXY7.out.at_ 3 rfl
       have z3:=HXZ.out.at_ 3 rfl
       have y4:=HXY7.out.at_ 4 rfl
       have z4:=HXZ.out.at_ 4 rfl
       go_wp2_with fail
       refine(c_same42 pY pZ N1 cY cZ f1 A1.1 A1.2 B1.1 B1.2 w7 HQY7.out HQZ.out (by omega) (fun j hj=>Nat.le_trans (HF1.out j hj) (by omega))).mono ?_
       rintro e w8 ⟨rfl,hb8⟩
       have HB8:=bt HB7 hb8
       clear hb8
       go_wp2
       go_ret
       exact⟨rfl,HB8.out⟩
      ·have hne:(er != 0)=true:=by rw[bne_iff_ne];exact he
       have HSM:=Kh (show Calls Tryz.prog 13 #[.agg #[.slice pT N0 cT,.int .i64 A.1,.int .i64 A.2,.int .i64 B.1,.int .i64 B.2],.agg #[.slice none 0 0,.int .i64 0,.int .i64 0,.int .i64 0,.int .i64 0]] w3 fun e w'=>e=.returned (.bool true)∧Below w3.heap.size w3 w' by
        obtain⟨rfl,rfl,rfl⟩:=HBA.out he
        exact c_same42 pT none 0 cT 0 f 0 0 0 0 w3 HQT.out (.inl ⟨rfl,_,_,rfl⟩) (by omega) (fun j hj=>absurd hj (Nat.not_lt_zero _)))
       clear HGD HBA HWR
       go_wp2_with fail
       refine HSM.out.mono ?_
       rintro e w4 ⟨rfl,hb4⟩
       have HB4:=bt HB3 hb4
       go_wp2
       go_ret
       exact⟨rfl,HB4.out⟩
end Go.Proofs.YtijgdhijdfgpfaaGreatDoor
