/- Continued fractions, plain: the convergents of a cusp are a chain of Farey neighbours from infinity to it; two such chains are joined. No program in sight. -/
import Derived.Test.YtijgdhijdfgpfaaGreatDoorY17
import Derived.Test.YtijgdhijdfgpfaaGreatDoorY15
import Derived.Test.YtijgdhijdfgpfaaGreatDoorY13
set_option maxRecDepth 100000
set_option maxHeartbeats 8000000
namespace Go.Proofs.YtijgdhijdfgpfaaGreatDoor
def cfW (p q:Int):List Int:=if _h:0<q then p / q :: cfW q (p % q)else []
termination_by q.toNat
decreasing_by have:=Int.emod_lt_of_pos p (show 0<q by assumption);omega
theorem cfW_zero (p:Int):cfW p 0=[]:=by rw[cfW,dif_neg (by decide)]
theorem cfW_pos {p q:Int} (h:0<q):cfW p q=p / q :: cfW q (p % q):=by rw[cfW,dif_pos h]
def cvL:Int×Int→Int×Int→List Int→List (Int×Int)
 | _,_,[]=>[]
 | b,l,n :: ns=>(n*l.1+b.1,n*l.2+b.2) :: cvL l (n*l.1+b.1,n*l.2+b.2) ns
theorem cvL_length:∀ (ns:List Int) (b l:Int×Int),(cvL b l ns).length=ns.length
 | [],_,_=>rfl
 | n :: ns,b,l=>by rw[cvL,List.length_cons,List.length_cons,cvL_length ns]
def ChOk:List (Int×Int)→Prop
 | a :: b :: r=>Nb a b∧ChOk (b :: r)
 | _=>True
def InC (c:Int×Int):Prop:=-1073741824≤c.1∧c.1≤1073741824∧0≤c.2∧c.2≤1073741824
theorem gcd_rest {p q n r:Int} (h:q*n+r=p) (hg:Int.gcd p q=1):Int.gcd q r=1:=by
 have h1:((Int.gcd q r:Nat):Int)∣q:=Int.gcd_dvd_left ..
 have h2:((Int.gcd q r:Nat):Int)∣r:=Int.gcd_dvd_right ..
 have h3:Int.gcd q r∣Int.gcd p q:=Int.dvd_gcd (by rw[← h];exact Int.dvd_add (Int.dvd_trans h1 (Int.dvd_mul_right _ _)) h2) h1
 rw[hg]at h3
 exact Nat.dvd_one.1 h3
theorem cv_in {p0 q0 a b r e:Int} (hp0:-1073741824≤p0) (hp1:p0≤1073741824) (hq:0<q0) (hb:0≤b) (hb1:b≤q0) (hr:0≤r) (hr1:r<q0) (hc:q0*a - p0*b=r*e) (he:e=1∨e=-1):-1073741824≤a∧a≤1073741824:=by
 have h1:p0*b≤1073741824*q0:=Int.le_trans (Int.mul_le_mul_of_nonneg_right hp1 hb) (Int.mul_le_mul_of_nonneg_left hb1 (by decide))
 have h2:-1073741824*q0≤p0*b:=by
  have h3:=Int.mul_le_mul_of_nonneg_right hp0 hb
  have h4:=Int.mul_le_mul_of_nonneg_left hb1 (show(0:Int)≤1073741824 by decide)
  omega
 have h5:-r≤r*e∧r*e≤r:=by rcases he with rfl|rfl <;> omega
 constructor
 ·rcases Int.lt_or_le a (-1073741824)with h|h
  ·exfalso
   have:=Int.mul_le_mul_of_nonneg_left (show a≤-1073741825 by omega) (Int.le_of_lt hq)
   omega
  ·exact h
 ·rcases Int.lt_or_le 1073741824 a with h|h
  ·exfalso
   have:=Int.mul_le_mul_of_nonneg_left (show 1073741825≤a by omega) (Int.le_of_lt hq)
   omega
  ·exact h
theorem cv_rest {p0 q0:Int} (hp0:-1073741824≤p0) (hp1:p0≤1073741824) (hq1:q0≤1073741824):∀ (j:Nat) (p q:Int) (b l:Int×Int),0≤q→q<p→p*q<2 ^ j→Int.gcd p q=1→l.1*p+b.1*q=p0→l.2*p+b.2*q=q0 →
  (l.1*b.2 - b.1*l.2=1∨l.1*b.2 - b.1*l.2=-1)→1≤l.2→0≤b.2 →
  (cfW p q).length≤j∧(∀ n∈cfW p q,1≤n∧n≤1073741824)∧(∀ c∈cvL b l (cfW p q),InC c∧1≤c.2)∧ChOk (l :: cvL b l (cfW p q))∧(l :: cvL b l (cfW p q)).getLast?=some (p0,q0):=by
 intro j
 induction j with
 | zero=>
  intro p q b l hq hqp hpq hg e1 e2 hd hl hb
  obtain rfl:q=0:=by
   rcases Int.lt_or_eq_of_le hq with h|h
   ·have:=Int.mul_le_mul (show(1:Int)≤p by omega) (show(1:Int)≤q by omega) (by omega) (by omega)
    omega
   ·exact h.symm
  have hp:p=1:=by simp at hg;omega
  subst hp
  have hc:=cfW_zero 1
  rw[hc]
  refine⟨by simp,by simp,by simp[cvL],by simp[cvL,ChOk],?_⟩
  have h1:l=(p0,q0):=Prod.ext (by show l.1=p0;omega) (by show l.2=q0;omega)
  simp[cvL,h1]
 | succ j ih=>
  intro p q b l hq hqp hpq hg e1 e2 hd hl hb
  rcases Int.lt_or_eq_of_le hq with hq0|hq0
  ·have hr0:=Int.emod_nonneg p (show q≠0 by omega)
   have hr1:=Int.emod_lt_of_pos p hq0
   have hdm:=Int.mul_ediv_add_emod p q
   obtain⟨r,hr⟩:∃ r,p % q=r:=⟨_,rfl⟩
   obtain⟨n,hn⟩:∃ n,p / q=n:=⟨_,rfl⟩
   rw[hr]at hr0 hr1 hdm
   rw[hn]at hdm
   have hn1:1≤n:=by
    rcases Int.lt_or_le n 1 with h|h
    ·have:=Int.mul_le_mul_of_nonneg_left (show n≤0 by omega) (show 0≤q by omega)
     omega
    ·exact h
   have hnp:n≤p:=by
    have:=Int.mul_le_mul_of_nonneg_right (show(1:Int)≤q by omega) (show 0≤n by omega)
    omega
   have hqr:q*r<2 ^ j:=by
    have h1:q*q+q*r≤p*q:=by
     have h3:q*q≤q*n*q:=by
      have:=Int.mul_le_mul_of_nonneg_left hn1 (show 0≤q*q from Int.mul_nonneg hq hq)
      calc q*q=q*q*1:=by omega
       _≤q*q*n:=this
       _=q*n*q:=by grind
     have h4:p*q=q*n*q+q*r:=by rw[← hdm];grind
     omega
    have h2:q*r≤q*q:=Int.mul_le_mul_of_nonneg_left (show r≤q by omega) hq
    have h5:(2:Int) ^ (j+1)=2*2 ^ j:=by rw[Int.pow_succ];omega
    omega
   have hg2:Int.gcd q r=1:=gcd_rest hdm hg
   obtain⟨l',hl'⟩:∃ l':Int×Int,l'=(n*l.1+b.1,n*l.2+b.2):=⟨_,rfl⟩
   have l1:l'.1=n*l.1+b.1:=by rw[hl']
   have l2:l'.2=n*l.2+b.2:=by rw[hl']
   have f1:l'.1*q+l.1*r=p0:=by rw[l1,← e1,← hdm];grind
   have f2:l'.2*q+l.2*r=q0:=by rw[l2,← e2,← hdm];grind
   have hl2:1≤l'.2:=by
    have:=Int.mul_le_mul_of_nonneg_right hn1 (show 0≤l.2 by omega)
    omega
   have hd':l'.1*l.2 - l.1*l'.2=1∨l'.1*l.2 - l.1*l'.2=-1:=by
    have:l'.1*l.2 - l.1*l'.2=-(l.1*b.2 - b.1*l.2):=by rw[l1,l2];grind
    omega
   obtain⟨g1,g2,g3,g4,g5⟩:=ih q r l l' hr0 hr1 hqr hg2 f1 f2 hd' hl2 (by omega)
   have hqq0:q<q0:=by
    have h1:=Int.mul_le_mul_of_nonneg_right hl (show 0≤p by omega)
    have h2:=Int.mul_nonneg hb hq
    omega
   have hlq:l'.2≤q0:=by
    have h1:=Int.mul_le_mul_of_nonneg_left (show(1:Int)≤q by omega) (show 0≤l'.2 by omega)
    have h2:=Int.mul_nonneg (show 0≤l.2 by omega) hr0
    omega
   have hpp:p≤q0:=by
    have h1:=Int.mul_le_mul_of_nonneg_right hl (show 0≤p by omega)
    have h2:=Int.mul_nonneg hb hq
    omega
   have hcross:q0*l'.1 - p0*l'.2=r*(l'.1*l.2 - l.1*l'.2):=by rw[← f1,← f2];grind
   have hin:InC l':=by
    have h1:=cv_in hp0 hp1 (by omega) (by omega) hlq hr0 (by omega) hcross hd'
    exact⟨h1.1,h1.2,by omega,by omega⟩
   have hcf:cfW p q=n :: cfW q r:=by rw[cfW_pos hq0,hn,hr]
   have hcv:cvL b l (n :: cfW q r)=l' :: cvL l l' (cfW q r):=by rw[cvL,← hl']
   rw[hcf,hcv]
   refine⟨by rw[List.length_cons];omega,fun x hx=>?_,fun c hc=>?_,⟨?_,g4⟩,?_⟩
   ·rcases List.mem_cons.1 hx with rfl|hx
    ·omega
    ·exact g2 x hx
   ·rcases List.mem_cons.1 hc with rfl|hc
    ·exact⟨hin,hl2⟩
    ·exact g3 c hc
   ·exact hd'
   ·rw[List.getLast?_cons_cons];exact g5
  ·subst hq0
   have hp:p=1:=by simp at hg;omega
   subst hp
   have hc:=cfW_zero 1
   rw[hc]
   refine⟨by simp,by simp,by simp[cvL],by simp[cvL,ChOk],?_⟩
   have h1:l=(p0,q0):=Prod.ext (by show l.1=p0;omega) (by show l.2=q0;omega)
   simp[cvL,h1]
def pthL (x:Int×Int):List (Int×Int):=(1,0) :: if x.2=0 then []else cvL (0,1) (1,0) (cfW x.1 x.2)
theorem cusp_ok {x:Int×Int} (h:cuspE x.1 x.2=0):(-1073741824≤x.1∧x.1≤1073741824)∧(0≤x.2∧x.2≤1073741824)∧Int.gcd x.1 x.2=1∧(x.2=0→x.1=1):=by
 unfold cuspE at h
 split at h
 ·cases h
 ·rename_i h1
  split at h
  ·cases h
  ·rename_i h2
   simp only[inE,Bool.and_eq_false_iff,decide_eq_false_iff_not]at h1
   refine⟨by omega,by omega,by omega,fun e=>by omega⟩
theorem cf_ok {x:Int×Int} (h:cuspE x.1 x.2=0) (hq:x.2≠0):((cfW x.1 x.2).length≤61∧0<(cfW x.1 x.2).length)∧(∀ i n,(cfW x.1 x.2)[i]?=some n→-1073741824≤n∧n≤1073741824∧(0<i→1≤n))∧(∀ c∈cvL (0,1) (1,0) (cfW x.1 x.2),InC c∧1≤c.2)∧ChOk ((1,0) :: cvL (0,1) (1,0) (cfW x.1 x.2))∧((1,0) :: cvL (0,1) (1,0) (cfW x.1 x.2)).getLast?=some x:=by
 obtain⟨⟨p0,p1⟩,⟨q0,q1⟩,hg,_⟩:=cusp_ok h
 obtain⟨p,q⟩:=x
 dsimp only at *
 have hr0:=Int.emod_nonneg p hq
 have hr1:=Int.emod_lt_of_pos p (show 0<q by omega)
 have hdm:=Int.mul_ediv_add_emod p q
 obtain⟨r,hr⟩:∃ r,p % q=r:=⟨_,rfl⟩
 obtain⟨n,hn⟩:∃ n,p / q=n:=⟨_,rfl⟩
 have hcf:cfW p q=n :: cfW q r:=by rw[cfW_pos (by omega),hn,hr]
 rw[hr]at hr0 hr1 hdm
 rw[hn]at hdm
 have hcv:cvL (0,1) (1,0) (n :: cfW q r)=(n,1) :: cvL (1,0) (n,1) (cfW q r):=by
  rw[cvL];simp
 have hn0:-1073741824≤n∧n≤1073741824:=by
  constructor
  ·rcases Int.lt_or_le n (-1073741824)with h|h
   ·exfalso
    have h1:=Int.mul_le_mul_of_nonneg_left (show n≤-1073741825 by omega) (show 0≤q by omega)
    have h2:q*1073741825=q * -1073741825 * -1:=by omega
    omega
   ·exact h
  ·rcases Int.lt_or_le 1073741824 n with h|h
   ·exfalso
    have h1:=Int.mul_le_mul_of_nonneg_left (show 1073741825≤n by omega) (show 0≤q by omega)
    omega
   ·exact h
 have hg2:Int.gcd q r=1:=gcd_rest hdm hg
 have hqr:q*r<2 ^ 60:=by
  have h1:=Int.mul_le_mul (show q≤1073741824 by omega) (show r≤1073741823 by omega) hr0 (by omega)
  have h2:(2:Int) ^ 60=1152921504606846976:=by decide
  omega
 obtain⟨g1,g2,g3,g4,g5⟩:=cv_rest (p0:=p) (q0:=q) p0 p1 q1 60 q r (1,0) (n,1) hr0 hr1 hqr hg2 (by dsimp only;rw[← hdm,Int.mul_comm];omega) (by dsimp only;omega) (by dsimp only;omega) (by dsimp only;omega) (by dsimp only;omega)
 rw[hcf,hcv]
 refine⟨⟨by rw[List.length_cons];omega,by simp⟩,fun i z hz=>?_,fun c hc=>?_,⟨?_,g4⟩,?_⟩
 ·cases i with
  | zero=>simp at hz;subst hz;exact⟨hn0.1,hn0.2,fun h=>absurd h (Nat.lt_irrefl 0)⟩
  | succ i=>
   have h1:=g2 z (List.mem_of_getElem? (by simpa using hz))
   exact⟨by omega,by omega,fun _=>h1.1⟩
 ·rcases List.mem_cons.1 hc with rfl|hc
  ·exact⟨⟨hn0.1,hn0.2,by dsimp only;omega,by dsimp only;omega⟩,by dsimp only;omega⟩
  ·exact g3 c hc
 ·unfold Nb;dsimp only;omega
 ·rw[List.getLast?_cons_cons];exact g5
theorem pth_ok {x:Int×Int} (h:cuspE x.1 x.2=0):(pthL x).length≤62∧(∀ c∈pthL x,InC c∧Gd c)∧ChOk (pthL x)∧(pthL x).getLast?=some x:=by
 have h1:InC ((1,0):Int×Int):=⟨by decide,by decide,by decide,by decide⟩
 unfold pthL
 by_cases hq:x.2=0
 ·rw[if_pos hq]
  have hx:=(cusp_ok h).2.2.2 hq
  refine⟨by simp,fun c hc=>?_,by simp[ChOk],?_⟩
  ·simp at hc;subst hc;exact⟨h1,⟨by decide,fun _=>rfl⟩⟩
  ·have:x=(1,0):=Prod.ext hx hq
   rw[this];rfl
 ·rw[if_neg hq]
  obtain⟨a1,a2,a3,a4,a5⟩:=cf_ok h hq
  refine⟨by rw[List.length_cons,cvL_length];omega,fun c hc=>?_,a4,a5⟩
  rcases List.mem_cons.1 hc with rfl|hc
  ·exact⟨h1,⟨by decide,fun _=>rfl⟩⟩
  ·have h3:=a3 c hc
   exact⟨h3.1,⟨by omega,fun e=>by omega⟩⟩
theorem ChOk.get:∀ {l:List (Int×Int)},ChOk l→∀ (j:Nat) (a b:Int×Int),l[j]?=some a→l[j+1]?=some b→Nb a b
 | [],_,j,a,b,h,_=>by simp at h
 | [c],_,j,a,b,h,h'=>by simp at h'
 | c :: d :: r,h,0,a,b,ha,hb=>by simp at ha hb;subst ha;subst hb;exact h.1
 | c :: d :: r,h,j+1,a,b,ha,hb=>ChOk.get (l:=d :: r) h.2 j a b (by simpa using ha) (by simpa using hb)
structure ChainOk (a b:Int×Int) (ch:List (Int×Int)):Prop where
 len:ch.length≤124
 pos:0<ch.length
 first:ch[0]?=some a
 last:ch[ch.length - 1]?=some b
 good:∀ c∈ch,InC c∧Gd c
 nb:∀ j c d,ch[j]?=some c→ch[j+1]?=some d→Nb c d
theorem joined {a b:Int×Int} (ha:cuspE a.1 a.2=0) (hb:cuspE b.1 b.2=0) {c:Nat} (hc:0<c) (h1:c≤(pthL a).length) (h2:c≤(pthL b).length) (he:∀ j,j<c→(pthL a)[j]?=(pthL b)[j]?):ChainOk a b (((pthL a).drop (c - 1)).reverse++(pthL b).drop c):=by
 obtain⟨a1,a2,a3,a4⟩:=pth_ok ha
 obtain⟨b1,b2,b3,b4⟩:=pth_ok hb
 rw[List.getLast?_eq_getElem?]at a4 b4
 obtain⟨la,hla⟩:∃ la,(pthL a).length=la:=⟨_,rfl⟩
 obtain⟨lb,hlb⟩:∃ lb,(pthL b).length=lb:=⟨_,rfl⟩
 rw[hla]at a1 a4 h1
 rw[hlb]at b1 b4 h2
 have hl:(((pthL a).drop (c - 1)).reverse++(pthL b).drop c).length=(la - (c - 1))+(lb - c):=by simp[hla,hlb]
 have hL:∀ j,j<la - (c - 1)→(((pthL a).drop (c - 1)).reverse++(pthL b).drop c)[j]?=(pthL a)[la - 1 - j]?:=fun j hj=>by
  rw[List.getElem?_append_left (by simp[hla];omega),List.getElem?_reverse (by simp[hla];omega),List.getElem?_drop]
  congr 1
  simp[hla]
  omega
 have hR:∀ j,la - (c - 1)≤j→(((pthL a).drop (c - 1)).reverse++(pthL b).drop c)[j]?=(pthL b)[c+(j - (la - (c - 1)))]?:=fun j hj=>by
  rw[List.getElem?_append_right (by simp[hla];omega),List.getElem?_drop]
  congr 1
  simp[hla]
 refine⟨by rw[hl];omega,by rw[hl];omega,by rw[hL 0 (by omega)];exact a4,?_,fun x hx=>?_,fun j x y hx hy=>?_⟩
 ·rw[hl]
  by_cases h:lb=c
  ·rw[hL _ (by omega),show la - 1 - ((la - (c - 1))+(lb - c) - 1)=c - 1 by omega,he (c - 1) (by omega),← b4,h]
  ·rw[hR _ (by omega),← b4]
   congr 1
   omega
 ·rcases List.mem_append.1 hx with hx|hx
  ·exact a2 x (List.mem_of_mem_drop (List.mem_reverse.1 hx))
  ·exact b2 x (List.mem_of_mem_drop hx)
 ·have hj:j+1<(la - (c - 1))+(lb - c):=by rw[← hl];exact(List.getElem?_eq_some_iff.1 hy).1
  by_cases h3:j+1<la - (c - 1)
  ·rw[hL j (by omega)]at hx
   rw[hL (j+1) h3]at hy
   exact(a3.get (la - 1 - (j+1)) y x hy (by rw[show la - 1 - (j+1)+1=la - 1 - j by omega];exact hx)).symm
  ·by_cases h4:j<la - (c - 1)
   ·rw[hL j h4,show la - 1 - j=c - 1 by omega,he (c - 1) (by omega)]at hx
    rw[hR (j+1) (by omega),show c+(j+1 - (la - (c - 1)))=c - 1+1 by omega]at hy
    exact b3.get (c - 1) x y hx hy
   ·rw[hR j (by omega)]at hx
    rw[hR (j+1) (by omega),show c+(j+1 - (la - (c - 1)))=c+(j - (la - (c - 1)))+1 by omega]at hy
    exact b3.get _ x y hx hy
def chM (x:Nat→Int):Nat→(Int×Int)×(Int×Int)
 | 0=>((1,0),(0,1))
 | k+1=>(((chM x k).1.1*(x k).tmod 6+(chM x k).1.2,-(chM x k).1.1),((chM x k).2.1*(x k).tmod 6+(chM x k).2.2,-(chM x k).2.1))
def nrm (a c:Int):Int×Int:=if c<0 then(-a,-c)else if c=0 then(1,0)else(a,c)
def chC (x:Nat→Int) (k:Nat):Int×Int:=nrm (chM x k).1.1 (chM x k).2.1
def chL (x:Nat→Int) (n:Nat):List (Int×Int):=(List.range (n+1)).map (chC x)
theorem chM_det (x:Nat→Int):∀ k,(chM x k).1.1*(chM x k).2.2 - (chM x k).1.2*(chM x k).2.1=1
 | 0=>rfl
 | k+1=>by
  have h:=chM_det x k
  rw[chM]
  dsimp only
  grind
def fb:Nat→Nat×Nat
 | 0=>(1,1)
 | k+1=>(5*(fb k).1+(fb k).2,(fb k).1)
theorem tmod6 (z:Int):(z.tmod 6).natAbs≤5:=by
 have h1:=Int.tmod_lt_of_pos z (show(0:Int)<6 by decide)
 have h2:=Int.tmod_lt_of_pos (-z) (show(0:Int)<6 by decide)
 rw[Int.neg_tmod]at h2
 omega
theorem chM_bound (x:Nat→Int):∀ k,((chM x k).1.1.natAbs≤(fb k).1∧(chM x k).2.1.natAbs≤(fb k).1)∧(chM x k).1.2.natAbs≤(fb k).2∧(chM x k).2.2.natAbs≤(fb k).2
 | 0=>by simp[chM,fb]
 | k+1=>by
  obtain⟨⟨h1,h2⟩,h3,h4⟩:=chM_bound x k
  have h5:=tmod6 (x k)
  have e1:((chM x k).1.1*(x k).tmod 6).natAbs≤(fb k).1*5:=by rw[Int.natAbs_mul];exact Nat.mul_le_mul h1 h5
  have e2:((chM x k).2.1*(x k).tmod 6).natAbs≤(fb k).1*5:=by rw[Int.natAbs_mul];exact Nat.mul_le_mul h2 h5
  have e3:=Int.natAbs_add_le ((chM x k).1.1*(x k).tmod 6) (chM x k).1.2
  have e4:=Int.natAbs_add_le ((chM x k).2.1*(x k).tmod 6) (chM x k).2.2
  rw[chM,fb]
  refine⟨⟨?_,?_⟩,?_,?_⟩
  ·exact Nat.le_trans e3 (by omega)
  ·exact Nat.le_trans e4 (by omega)
  ·show(-(chM x k).1.1).natAbs≤(fb k).1
   rw[Int.natAbs_neg];exact h1
  ·show(-(chM x k).2.1).natAbs≤(fb k).1
   rw[Int.natAbs_neg];exact h2
theorem fb_small:∀ k,k<13→(fb k).1≤1000000000∧(fb k).2≤1000000000:=by decide
theorem chM_small (x:Nat→Int) {k:Nat} (hk:k<13):((chM x k).1.1.natAbs≤1000000000∧(chM x k).2.1.natAbs≤1000000000)∧(chM x k).1.2.natAbs≤1000000000∧(chM x k).2.2.natAbs≤1000000000:=by
 have h1:=chM_bound x k
 have h2:=fb_small k hk
 omega
theorem nrm_sign {a b c d:Int} (h:a*d - b*c=1):(nrm a c=(a,c)∨nrm a c=(-a,-c))∧Gd (nrm a c)∧Int.gcd (nrm a c).1 (nrm a c).2=1:=by
 have hg:Int.gcd a c=1:=by
  have h1:((Int.gcd a c:Nat):Int)∣1:=by
   rw[← h]
   exact Int.dvd_sub (Int.dvd_trans (Int.gcd_dvd_left ..) (Int.dvd_mul_right _ _)) (Int.dvd_trans (Int.gcd_dvd_right ..) (Int.dvd_mul_left _ _))
  exact Nat.dvd_one.1 (Int.natCast_dvd_natCast.1 h1)
 unfold nrm
 by_cases h1:c<0
 ·rw[if_pos h1]
  exact⟨.inr rfl,⟨by dsimp only;omega,fun e=>by dsimp only at e;omega⟩,by dsimp only;rw[Int.gcd_neg,Int.neg_gcd];exact hg⟩
 ·rw[if_neg h1]
  by_cases h2:c=0
  ·subst h2
   rw[if_pos rfl]
   have ha:a.natAbs=1:=by simpa using hg
   have ha2:a=1∨a=-1:=by omega
   rcases ha2 with rfl|rfl
   ·exact⟨.inl rfl,⟨by decide,fun _=>rfl⟩,by decide⟩
   ·exact⟨.inr rfl,⟨by decide,fun _=>rfl⟩,by decide⟩
  ·rw[if_neg h2]
   exact⟨.inl rfl,⟨by dsimp only;omega,fun e=>by dsimp only at e;omega⟩,hg⟩
theorem chL_ok (x:Nat→Int) {n:Nat} (hn:n≤12):ChainOk (1,0) (chC x n) (chL x n) where
 len:=by unfold chL;simp;omega
 pos:=by unfold chL;simp
 first:=by
  unfold chL
  rw[List.getElem?_map,List.getElem?_range (by omega)];rfl
 last:=by
  unfold chL
  rw[List.length_map,List.length_range,Nat.add_sub_cancel,List.getElem?_map,List.getElem?_range (by omega)];rfl
 good c hc:=by
  unfold chL at hc
  obtain⟨k,hk,rfl⟩:=List.mem_map.1 hc
  have hk2:=List.mem_range.1 hk
  have h1:=nrm_sign (chM_det x k)
  have h2:=chM_small x (show k<13 by omega)
  refine⟨?_,h1.2.1⟩
  have h3:=h1.2.1.1
  unfold chC InC at *
  rcases h1.1 with e|e <;> rw[e]at h3 ⊢ <;> dsimp only at h3 ⊢ <;> omega
 nb j c d hc hd:=by
  unfold chL at hc hd
  have hj:=(List.getElem?_eq_some_iff.1 hd).1
  rw[List.length_map,List.length_range]at hj
  rw[List.getElem?_map,List.getElem?_range (by omega)]at hc hd
  obtain rfl:chC x j=c:=by simpa using hc
  obtain rfl:chC x (j+1)=d:=by simpa using hd
  have h1:=nrm_sign (chM_det x j)
  have h2:=nrm_sign (chM_det x (j+1))
  have h3:=chM_det x j
  have h4:(chM x (j+1)).1.1*(chM x j).2.1 - (chM x j).1.1*(chM x (j+1)).2.1=-1:=by
   rw[chM];dsimp only;grind
  unfold Nb chC
  rcases h1.1 with e1|e1 <;> rcases h2.1 with e2|e2 <;> rw[e1,e2] <;> dsimp only <;> grind
theorem chC_ok (x:Nat→Int) {n:Nat} (hn:n≤12):cuspE (chC x n).1 (chC x n).2=0:=by
 have h1:=nrm_sign (chM_det x n)
 have h2:=chM_small x (show n<13 by omega)
 have h3:=h1.2.1
 have r:inE (chC x n).1=true∧inE (chC x n).2=true:=by
  unfold chC
  rcases h1.1 with e|e <;> rw[e] <;> exact⟨inE_iff.2 (by dsimp only;omega),inE_iff.2 (by dsimp only;omega)⟩
 unfold cuspE
 rw[if_neg (by rw[r.1,r.2];intro h;have:=h3.1;unfold chC at h;simp at h;omega),if_neg]
 rintro(h |⟨h,h'⟩)
 ·exact h h1.2.2
 ·exact h' (h3.2 h)
end Go.Proofs.YtijgdhijdfgpfaaGreatDoor
namespace Go.Proofs.YtijgdhijdfgpfaaGreatDoor
open Go.RowKit
theorem c_Normal (s:Bool) (p:Option Addr) (n c:Nat) (z:Int) (w:World) (h:Zr w s p n c z) (hn:n≤35184372088830):
  Calls Tryz.prog 92 #[.agg #[.bool s,.slice p n c]] w fun e w'=>RetZ w' e (z)∧Below w.heap.size w w':=by
 obtain⟨k,hk,hk2,HL⟩:=h.letters hn
 have hC:=fun w1 (hb:Below w.heap.size w w1)=>clone_nm p c z.natAbs w1 (HL.out.2.1.keep hb) (by omega)
 rw[hk2]at hC
 have HC:=Kh hC
 have HK:=Kh hk2
 have HV:=Kh (show sg (s) z.natAbs=z by exact HL.out.1)
 clear hC hk2 h
 go_enter Tryz.func92,Tryz.ntmps92
 go_upto_region 1 with(fail)
 obtain⟨w0,hw0,X0,X1,hb0⟩:=bx2 w #[.bool s,.slice p n c] 65 #[.bool false,.slice none 0 0] 65
 rw[hw0]
 have hs0:w.heap.size≤w0.heap.size:=hb0.size
 clear hw0
 have T1:=Sts.of X1 (by intro v hv;simp at hv;rcases hv with rfl|rfl <;> first|exact NotInt.bool _|exact NotInt.slice _ _ _)
 have hS0:=S2_2_next (Below.refl _ w0).drew ⟨X0.c0,X0.c1,X1.so 0,X1.free_ 0,T1,X1.so 1,X1.free_ 1,T1,hb0,hs0⟩
 clear X0 X1
 go_region_held3 (fun w1=>w1.cell? ⟨w.heap.size,0,none⟩=some (.bool s)∧w1.cell? ⟨w.heap.size,1,none⟩=some (.slice p n c)∧w1.cell? ⟨w.heap.size+1,0,none⟩=some (cellOf w1 ⟨w.heap.size+1,0,none⟩)∧w1.frozen? ⟨w.heap.size+1,0,none⟩=false∧Sts w1 (w.heap.size+1)∧w1.cell? ⟨w.heap.size+1,1,none⟩=some (cellOf w1 ⟨w.heap.size+1,1,none⟩)∧w1.frozen? ⟨w.heap.size+1,1,none⟩=false∧Sts w1 (w.heap.size+1)∧Below w.heap.size w w1∧w.heap.size≤w1.heap.size)
  (first|with_reducible exact hS0 |(refine S2_2_next (by with_reducible assumption) ?_;assumption) |(refine S2_2_put ?_ ?_ ?_ ?_ ?_ ?_ ?_ ?_ ?_ <;> first|assumption|exact NotInt.bool _|exact NotInt.slice _ _ _ |(dsimp only;omega) |(simp;done)))
  (first
   |(go_at_call 97;refine(HL.out.2.2 _ (S2_2_below (by with_reducible assumption))).mono ?_;rintro e w' ⟨rfl,rfl⟩)
   |(go_at_call 121;refine(HC.out _ (S2_2_below (by with_reducible assumption))).mono ?_;rintro e w2 ⟨⟨p1,c1,rfl,hn1⟩,hb1⟩;rw[HK.out];have HS:=signed_nm (s) p1 c1 k z.natAbs w2 hn1 HK.out (by omega);replace HS:=Kh HS;clear hn1)
   |(go_at_call 95;refine HS.out.mono ?_;rintro e w3 ⟨⟨s2,p2,n2,c2,rfl,hz2⟩,hb2⟩;clear hb1;obtain⟨⟨hR0,hT⟩,⟨hR1,_⟩⟩:=S2_2_end hb2 (by with_reducible assumption);have hz3:=hz2.put2 hT 0 1 (.bool s2) (.slice p2 n2 c2) (NotInt.bool _);replace hz3:=Kh hz3;clear hz2 hT))
 go_wp2
 try simp only[Exit.inBlock,Exit.then]
 refine bodyPost_ret (by simp[results,Tryz.results92,go_sem,hR0,hR1];try rfl) rfl ?_
 exact⟨⟨s2,p2,n2,c2,rfl,HV.out▸hz3.out⟩,S2_2_below (by assumption)⟩
theorem c_Neg (s:Bool) (p:Option Addr) (n c:Nat) (z:Int) (w:World) (h:Zr w s p n c z) (hn:n≤35184372088830):
  Calls Tryz.prog 82 #[.agg #[.bool s,.slice p n c]] w fun e w'=>RetZ w' e (-z)∧Below w.heap.size w w':=by
 obtain⟨k,hk,hk2,HL⟩:=h.letters hn
 have hC:=fun w1 (hb:Below w.heap.size w w1)=>clone_nm p c z.natAbs w1 (HL.out.2.1.keep hb) (by omega)
 rw[hk2]at hC
 have HC:=Kh hC
 have HK:=Kh hk2
 have HV:=Kh (show sg (!s) z.natAbs=-z by rw[sg_not,HL.out.1])
 clear hC hk2 h
 go_enter Tryz.func82,Tryz.ntmps82
 go_upto_region 1 with(fail)
 obtain⟨w0,hw0,X0,X1,hb0⟩:=bx2 w #[.bool s,.slice p n c] 65 #[.bool false,.slice none 0 0] 65
 rw[hw0]
 have hs0:w.heap.size≤w0.heap.size:=hb0.size
 clear hw0
 have T1:=Sts.of X1 (by intro v hv;simp at hv;rcases hv with rfl|rfl <;> first|exact NotInt.bool _|exact NotInt.slice _ _ _)
 have hS0:=S2_2_next (Below.refl _ w0).drew ⟨X0.c0,X0.c1,X1.so 0,X1.free_ 0,T1,X1.so 1,X1.free_ 1,T1,hb0,hs0⟩
 clear X0 X1
 go_region_held3 (fun w1=>w1.cell? ⟨w.heap.size,0,none⟩=some (.bool s)∧w1.cell? ⟨w.heap.size,1,none⟩=some (.slice p n c)∧w1.cell? ⟨w.heap.size+1,0,none⟩=some (cellOf w1 ⟨w.heap.size+1,0,none⟩)∧w1.frozen? ⟨w.heap.size+1,0,none⟩=false∧Sts w1 (w.heap.size+1)∧w1.cell? ⟨w.heap.size+1,1,none⟩=some (cellOf w1 ⟨w.heap.size+1,1,none⟩)∧w1.frozen? ⟨w.heap.size+1,1,none⟩=false∧Sts w1 (w.heap.size+1)∧Below w.heap.size w w1∧w.heap.size≤w1.heap.size)
  (first|with_reducible exact hS0 |(refine S2_2_next (by with_reducible assumption) ?_;assumption) |(refine S2_2_put ?_ ?_ ?_ ?_ ?_ ?_ ?_ ?_ ?_ <;> first|assumption|exact NotInt.bool _|exact NotInt.slice _ _ _ |(dsimp only;omega) |(simp;done)))
  (first
   |(go_at_call 97;refine(HL.out.2.2 _ (S2_2_below (by with_reducible assumption))).mono ?_;rintro e w' ⟨rfl,rfl⟩)
   |(go_at_call 121;refine(HC.out _ (S2_2_below (by with_reducible assumption))).mono ?_;rintro e w2 ⟨⟨p1,c1,rfl,hn1⟩,hb1⟩;rw[HK.out];have HS:=signed_nm (!s) p1 c1 k z.natAbs w2 hn1 HK.out (by omega);replace HS:=Kh HS;clear hn1)
   |(go_at_call 95;refine HS.out.mono ?_;rintro e w3 ⟨⟨s2,p2,n2,c2,rfl,hz2⟩,hb2⟩;clear hb1;obtain⟨⟨hR0,hT⟩,⟨hR1,_⟩⟩:=S2_2_end hb2 (by with_reducible assumption);have hz3:=hz2.put2 hT 0 1 (.bool s2) (.slice p2 n2 c2) (NotInt.bool _);replace hz3:=Kh hz3;clear hz2 hT))
 go_wp2
 try simp only[Exit.inBlock,Exit.then]
 refine bodyPost_ret (by simp[results,Tryz.results82,go_sem,hR0,hR1];try rfl) rfl ?_
 exact⟨⟨s2,p2,n2,c2,rfl,HV.out▸hz3.out⟩,S2_2_below (by assumption)⟩
theorem c_Mul (s:Bool) (p:Option Addr) (n c:Nat) (x:Int) (t:Bool) (q:Option Addr) (m d:Nat) (y:Int) (w:World) (h:Zr w s p n c x) (h':Zr w t q m d y) (hn:n≤17592186044400) (hm:m≤17592186044400):
  Calls Tryz.prog 56 #[.agg #[.bool s,.slice p n c],.agg #[.bool t,.slice q m d]] w fun e w'=>RetZ w' e (x*y)∧Below w.heap.size w w':=by
 obtain⟨k,hk,hk2,HL⟩:=h.letters (by omega)
 obtain⟨l,hl,hl2,KL⟩:=h'.letters (by omega)
 have hC:=fun w1 (hb:Below w.heap.size w w1)=>c_times p c (nd x.natAbs) (dg x.natAbs) q d (nd y.natAbs) (dg y.natAbs) w1 (HL.out.2.1.keep hb) (KL.out.2.1.keep hb) (by omega) (by omega)
 rw[hk2,hl2]at hC
 rw[show vf (dg x.natAbs) k=x.natAbs by rw[← hk2,vf_nd],show vf (dg y.natAbs) l=y.natAbs by rw[← hl2,vf_nd]]at hC
 have HC:=Kh hC
 have HV:=Kh (show sg (s != t) (x.natAbs*y.natAbs)=x*y by rw[← sg_mul,HL.out.1,KL.out.1])
 clear hC hk2 hl2 h h'
 go_enter Tryz.func56,Tryz.ntmps56
 go_upto_region 1 with(fail)
 obtain⟨w0,hw0,X0,X1,X2,hb0⟩:=bx3 w #[.bool s,.slice p n c] 65 #[.bool t,.slice q m d] 65 #[.bool false,.slice none 0 0] 65
 rw[hw0]
 have hs0:w.heap.size≤w0.heap.size:=hb0.size
 clear hw0
 have M1:True:=trivial
 have T2:=Sts.of X2 (by intro v hv;simp at hv;rcases hv with rfl|rfl <;> first|exact NotInt.bool _|exact NotInt.slice _ _ _)
 have hS0:=S4_2_next (Below.refl _ w0).drew ⟨X0.c0,X0.c1,X1.c0,X1.c1,X2.so 0,X2.free_ 0,T2,X2.so 1,X2.free_ 1,T2,hb0,hs0⟩
 clear X0 X1 X2
 go_region_held3 (fun w1=>w1.cell? ⟨w.heap.size,0,none⟩=some (.bool s)∧w1.cell? ⟨w.heap.size,1,none⟩=some (.slice p n c)∧w1.cell? ⟨w.heap.size+1,0,none⟩=some (.bool t)∧w1.cell? ⟨w.heap.size+1,1,none⟩=some (.slice q m d)∧w1.cell? ⟨w.heap.size+1+1,0,none⟩=some (cellOf w1 ⟨w.heap.size+1+1,0,none⟩)∧w1.frozen? ⟨w.heap.size+1+1,0,none⟩=false∧Sts w1 (w.heap.size+1+1)∧w1.cell? ⟨w.heap.size+1+1,1,none⟩=some (cellOf w1 ⟨w.heap.size+1+1,1,none⟩)∧w1.frozen? ⟨w.heap.size+1+1,1,none⟩=false∧Sts w1 (w.heap.size+1+1)∧Below w.heap.size w w1∧w.heap.size≤w1.heap.size)
  (first|with_reducible exact hS0 |(refine S4_2_next (by with_reducible assumption) ?_;assumption) |(refine S4_2_put ?_ ?_ ?_ ?_ ?_ ?_ ?_ ?_ ?_ ?_ ?_ ?_ ?_ <;> first|assumption|exact NotInt.bool _|exact NotInt.slice _ _ _ |(dsimp only;omega) |(simp;done)))
  (first
   |(go_at_call 97;clear M1;refine(HL.out.2.2 _ (S4_2_below (by with_reducible assumption))).mono ?_;rintro e w' ⟨rfl,rfl⟩)
   |(go_at_call 97;refine(KL.out.2.2 _ (S4_2_below (by with_reducible assumption))).mono ?_;rintro e w' ⟨rfl,rfl⟩)
   |(go_at_call 96;refine(HC.out _ (S4_2_below (by with_reducible assumption))).mono ?_;rintro e w2 ⟨⟨k1,hk1,p1,c1,r1,rfl,hd1,hv1⟩,hb1⟩;have HS:=c_signed (s != t) p1 c1 k1 r1 w2 hd1 (by omega);rw[hv1]at HS;replace HS:=Kh HS;clear hd1 hv1 hk1)
   |(go_at_call 95;refine HS.out.mono ?_;rintro e w3 ⟨⟨s2,p2,n2,c2,rfl,hz2⟩,hb2⟩;clear hb1;obtain⟨⟨hR0,hT⟩,⟨hR1,_⟩⟩:=S4_2_end hb2 (by with_reducible assumption);have hz3:=hz2.put2 hT 0 1 (.bool s2) (.slice p2 n2 c2) (NotInt.bool _);replace hz3:=Kh hz3;clear hz2 hT))
 go_wp2
 try simp only[Exit.inBlock,Exit.then]
 refine bodyPost_ret (by simp[results,Tryz.results56,go_sem,hR0,hR1];try rfl) rfl ?_
 exact⟨⟨s2,p2,n2,c2,rfl,HV.out▸hz3.out⟩,S4_2_below (by assumption)⟩
theorem c_Gcd (s:Bool) (p:Option Addr) (n c:Nat) (x:Int) (t:Bool) (q:Option Addr) (m d:Nat) (y:Int) (w:World) (h:Zr w s p n c x) (h':Zr w t q m d y) (hn:n≤17592186044400) (hm:m≤17592186044400):
  Calls Tryz.prog 93 #[.agg #[.bool s,.slice p n c],.agg #[.bool t,.slice q m d]] w fun e w'=>RetZ w' e ((Int.gcd x y:Nat))∧Below w.heap.size w w':=by
 obtain⟨k,hk,hk2,HL⟩:=h.letters (by omega)
 obtain⟨l,hl,hl2,KL⟩:=h'.letters (by omega)
 have hC:=fun w1 (hb:Below w.heap.size w w1)=>c_common p c x.natAbs q d y.natAbs w1 (HL.out.2.1.keep hb) (KL.out.2.1.keep hb) (by omega) (by omega)
 rw[hk2,hl2,show Nat.gcd x.natAbs y.natAbs=Int.gcd x y from rfl]at hC
 obtain⟨G,hG⟩:∃ G,Int.gcd x y=G:=⟨_,rfl⟩
 have hGk:nd G≤k+l:=by
  rw[← hG,← hk2,← hl2]
  by_cases hx0:x.natAbs=0
  ·have e:Int.gcd x y=y.natAbs:=by show Nat.gcd x.natAbs y.natAbs=_;rw[hx0,Nat.gcd_zero_left]
   rw[e];omega
  ·have e:=nd_mono (Nat.gcd_le_left y.natAbs (show 0<x.natAbs by omega))
   exact Nat.le_trans e (by omega)
 rw[hG]at hC ⊢
 obtain⟨g,hg⟩:∃ g,nd G=g:=⟨_,rfl⟩
 rw[hg]at hGk
 have HG:=Kh hg
 have HC:=Kh hC
 have HV:=Kh (show sg false G=(G:Nat)from rfl)
 clear hC hk2 hl2 h h' hG hg
 go_enter Tryz.func93,Tryz.ntmps93
 go_upto_region 1 with(fail)
 obtain⟨w0,hw0,X0,X1,X2,hb0⟩:=bx3 w #[.bool s,.slice p n c] 65 #[.bool t,.slice q m d] 65 #[.bool false,.slice none 0 0] 65
 rw[hw0]
 have hs0:w.heap.size≤w0.heap.size:=hb0.size
 clear hw0
 have M1:True:=trivial
 have T2:=Sts.of X2 (by intro v hv;simp at hv;rcases hv with rfl|rfl <;> first|exact NotInt.bool _|exact NotInt.slice _ _ _)
 have hS0:=S4_2_next (Below.refl _ w0).drew ⟨X0.c0,X0.c1,X1.c0,X1.c1,X2.so 0,X2.free_ 0,T2,X2.so 1,X2.free_ 1,T2,hb0,hs0⟩
 clear X0 X1 X2
 go_region_held3 (fun w1=>w1.cell? ⟨w.heap.size,0,none⟩=some (.bool s)∧w1.cell? ⟨w.heap.size,1,none⟩=some (.slice p n c)∧w1.cell? ⟨w.heap.size+1,0,none⟩=some (.bool t)∧w1.cell? ⟨w.heap.size+1,1,none⟩=some (.slice q m d)∧w1.cell? ⟨w.heap.size+1+1,0,none⟩=some (cellOf w1 ⟨w.heap.size+1+1,0,none⟩)∧w1.frozen? ⟨w.heap.size+1+1,0,none⟩=false∧Sts w1 (w.heap.size+1+1)∧w1.cell? ⟨w.heap.size+1+1,1,none⟩=some (cellOf w1 ⟨w.heap.size+1+1,1,none⟩)∧w1.frozen? ⟨w.heap.size+1+1,1,none⟩=false∧Sts w1 (w.heap.size+1+1)∧Below w.heap.size w w1∧w.heap.size≤w1.heap.size)
  (first|with_reducible exact hS0 |(refine S4_2_next (by with_reducible assumption) ?_;assumption) |(refine S4_2_put ?_ ?_ ?_ ?_ ?_ ?_ ?_ ?_ ?_ ?_ ?_ ?_ ?_ <;> first|assumption|exact NotInt.bool _|exact NotInt.slice _ _ _ |(dsimp only;omega) |(simp;done)))
  (first
   |(go_at_call 97;clear M1;refine(HL.out.2.2 _ (S4_2_below (by with_reducible assumption))).mono ?_;rintro e w' ⟨rfl,rfl⟩)
   |(go_at_call 97;refine(KL.out.2.2 _ (S4_2_below (by with_reducible assumption))).mono ?_;rintro e w' ⟨rfl,rfl⟩)
   |(go_at_call 126;refine(HC.out _ (S4_2_below (by with_reducible assumption))).mono ?_;rintro e w2 ⟨⟨p1,c1,rfl,hn1⟩,hb1⟩;rw[HG.out];have HS:=signed_nm false p1 c1 g G w2 hn1 HG.out (by omega);replace HS:=Kh HS;clear hn1)
   |(go_at_call 95;refine HS.out.mono ?_;rintro e w3 ⟨⟨s2,p2,n2,c2,rfl,hz2⟩,hb2⟩;clear hb1;obtain⟨⟨hR0,hT⟩,⟨hR1,_⟩⟩:=S4_2_end hb2 (by with_reducible assumption);have hz3:=hz2.put2 hT 0 1 (.bool s2) (.slice p2 n2 c2) (NotInt.bool _);replace hz3:=Kh hz3;clear hz2 hT))
 go_wp2
 try simp only[Exit.inBlock,Exit.then]
 refine bodyPost_ret (by simp[results,Tryz.results93,go_sem,hR0,hR1];try rfl) rfl ?_
 exact⟨⟨s2,p2,n2,c2,rfl,HV.out▸hz3.out⟩,S4_2_below (by assumption)⟩
theorem c_Sign (s:Bool) (p:Option Addr) (n c:Nat) (z:Int) (w:World) (h:Zr w s p n c z) (hn:n≤35184372088830):
  Calls Tryz.prog 77 #[.agg #[.bool s,.slice p n c]] w fun e w'=>e=.returned (.int .i64 (Int.sign z))∧Below w.heap.size w w':=by
 obtain⟨k,hk,hk2,HL⟩:=h.letters hn
 have hb:∀ o,Below w.heap.size w (w.alloc o):=fun o=>(Below.refl _ _).alloc (Nat.le_refl _) o
 have HB:=Kh hb
 have HZ:=Kh (show k=0↔z=0 by rw[← hk2];have:=nd_pos (v:=z.natAbs);omega)
 have HV:=Kh HL.out.1
 clear hk2 h hb
 go_enter Tryz.func77,Tryz.ntmps77
 go_wp2_with fail
 refine(HL.out.2.2 _ (HB.out _)).mono ?_
 rintro e w1 ⟨rfl,rfl⟩
 clear HL
 by_cases hk0:k=0
 ·have hz:=HZ.out.1 hk0
  subst hk0 hz
  go_wp2
  go_ret
  exact⟨rfl,HB.out _⟩
 ·have hz:z≠0:=fun h=>hk0 (HZ.out.2 h)
  have hkb:((k:Int)==0)=false:=beq_eq_false_iff_ne.2 (by omega)
  have HNZ:=Kh hz
  clear hz
  cases s with
  | false=>
   have hs:Int.sign z=1:=Int.sign_eq_one_of_pos (by have h1:=HV.out;have h2:=HNZ.out;rw[sg_false]at h1;omega)
   have HS:=Kh hs
   clear hs
   go_wp2
   go_ret
   exact⟨ret_i HS.out.symm,HB.out _⟩
  | true=>
   have hs:Int.sign z=-1:=Int.sign_eq_neg_one_of_neg (by have h1:=HV.out;have h2:=HNZ.out;rw[show sg true z.natAbs=-(z.natAbs:Int)from rfl]at h1;omega)
   have HS:=Kh hs
   clear hs
   go_wp2
   go_ret
   exact⟨ret_i HS.out.symm,HB.out _⟩
theorem c_Of (n:Int) (w:World) (h1:-4611686018427387904≤n) (h2:n≤4611686018427387904):
  Calls Tryz.prog 75 #[.int .i64 n] w fun e w'=>RetZ w' e n∧Below w.heap.size w w':=by
 obtain⟨v,hv⟩:∃ v:Nat,n.natAbs=v:=⟨_,rfl⟩
 have hvl:v≤4611686018427387904:=by omega
 have HW:=Kh (fun w=>(c_wide v w (by omega)).mono (fun _ _ h=>And.imp_left RetN.op h))
 have hb:Below w.heap.size w (w.alloc (.cells #[.bool false,.slice none 0 0] 65)):=(Below.refl _ _).alloc (Nat.le_refl _) _
 have HB:=Kh hb
 have HVL:=Kh hvl
 have hnv:=nd_le (v:=v) (k:=2)
 have hnv2:nd v≤2:=hnv.2 (by omega)
 have HN2:=Kh hnv2
 have X:=Blk.new w 65 #[.bool false,.slice none 0 0]
 have HT:=Kh (Sts.of X (by intro v hv;simp at hv;rcases hv with rfl|rfl <;> first|exact NotInt.bool _|exact NotInt.slice _ _ _))
 have X0:((w.alloc (.cells #[.bool false,.slice none 0 0] 65)).cell? ⟨w.heap.size,0,none⟩).isSome=true:=by rw[X.at_ 0 rfl];rfl
 have X1:((w.alloc (.cells #[.bool false,.slice none 0 0] 65)).cell? ⟨w.heap.size,1,none⟩).isSome=true:=by rw[X.at_ 1 rfl];rfl
 have hfz:∀ i,(w.alloc (.cells #[.bool false,.slice none 0 0] 65)).frozen? ⟨w.heap.size,i,none⟩=false:=fun i=>X.free_ i
 obtain⟨w0,hw0⟩:∃ w0,w.alloc (.cells #[.bool false,.slice none 0 0] 65)=w0:=⟨_,rfl⟩
 rw[hw0]at HB HT X0 X1
 simp only[hw0]at hfz
 have HX0:=Kh X0
 have HX1:=Kh X1
 have HF:=Kh hfz
 clear X X0 X1 hfz hb hvl hnv hnv2
 by_cases hneg:n<0
 ·have e1:IntKind.u64.wrap n=n+18446744073709551616:=by rw[IntKind.wrap_u64];omega
  have e2:IntKind.u64.wrap (-(n+18446744073709551616))=(v:Nat):=by rw[IntKind.wrap_u64];omega
  have e3:IntKind.u64.wrap (-n)=(v:Nat):=by rw[IntKind.wrap_u64];omega
  have hd:decide (n<0)=true:=decide_eq_true hneg
  have HZ:=Kh (show sg true v=n by unfold sg;rw[if_pos rfl];omega)
  clear h1 h2 hneg hv
  go_enter Tryz.func75,Tryz.ntmps75
  go_wp2_with fail
  refine(HW.out _).mono ?_
  rintro e w1 ⟨⟨p1,n1,c1,rfl,hn1,hm1⟩,hb1⟩
  have HS:=Kh (signed_nm true p1 c1 n1 v w1 hm1 hn1 (by have:=HN2.out;omega))
  have HB1:=Kh hb1
  clear hn1 hm1 hb1 HW
  go_wp2_with fail
  refine HS.out.mono ?_
  rintro e w2 ⟨⟨s2,p2,n2,c2,rfl,hz2⟩,hb2⟩
  have hb02:Below w0.heap.size w0 w2:=HB1.out.trans (hb2.mono HB1.out.size)
  obtain⟨u0,hu0⟩:∃ u,w2.cell? ⟨w.heap.size,0,none⟩=some u:=by
   rw[hb02.cell (p:=⟨w.heap.size,0,none⟩) HT.out.1];exact Option.isSome_iff_exists.1 HX0.out
  obtain⟨u1,hu1⟩:∃ u,w2.cell? ⟨w.heap.size,1,none⟩=some u:=by
   rw[hb02.cell (p:=⟨w.heap.size,1,none⟩) HT.out.1];exact Option.isSome_iff_exists.1 HX1.out
  have f0:=frozen_keep hb02 HX0.out (HF.out 0)
  have f1:=frozen_keep hb02 HX1.out (HF.out 1)
  have hz3:=hz2.put2 (HT.out.next hb02) 0 1 (.bool s2) (.slice p2 n2 c2) (NotInt.bool _)
  have hb3:Below w.heap.size w ((w2.setCell ⟨w.heap.size,0,none⟩ (.bool s2)).setCell ⟨w.heap.size,1,none⟩ (.slice p2 n2 c2)):=((HB.out.trans (hb02.mono HB.out.size)).setCell (Nat.le_refl _) _).setCell (Nat.le_refl _) _
  have HZ3:=Kh hz3
  have HB3:=Kh hb3
  clear hz2 hb2 hb02 hz3 hb3 HS HB1
  go_wp2
  try simp only[Exit.inBlock,Exit.then]
  refine bodyPost_ret (by simp[results,Tryz.results75,go_sem,hu0,hu1];try rfl) rfl ?_
  exact⟨⟨s2,p2,n2,c2,rfl,HZ.out▸HZ3.out⟩,HB3.out⟩
 ·have e1:IntKind.u64.wrap n=(v:Nat):=by rw[IntKind.wrap_u64];omega
  have hd:decide (n<0)=false:=decide_eq_false hneg
  have HZ:=Kh (show sg false v=n by rw[sg_false];omega)
  clear h1 h2 hneg hv
  go_enter Tryz.func75,Tryz.ntmps75
  go_wp2_with fail
  refine(HW.out _).mono ?_
  rintro e w1 ⟨⟨p1,n1,c1,rfl,hn1,hm1⟩,hb1⟩
  have HS:=Kh (signed_nm false p1 c1 n1 v w1 hm1 hn1 (by have:=HN2.out;omega))
  have HB1:=Kh hb1
  clear hn1 hm1 hb1 HW
  go_wp2_with fail
  refine HS.out.mono ?_
  rintro e w2 ⟨⟨s2,p2,n2,c2,rfl,hz2⟩,hb2⟩
  have hb02:Below w0.heap.size w0 w2:=HB1.out.trans (hb2.mono HB1.out.size)
  obtain⟨u0,hu0⟩:∃ u,w2.cell? ⟨w.heap.size,0,none⟩=some u:=by
   rw[hb02.cell (p:=⟨w.heap.size,0,none⟩) HT.out.1];exact Option.isSome_iff_exists.1 HX0.out
  obtain⟨u1,hu1⟩:∃ u,w2.cell? ⟨w.heap.size,1,none⟩=some u:=by
   rw[hb02.cell (p:=⟨w.heap.size,1,none⟩) HT.out.1];exact Option.isSome_iff_exists.1 HX1.out
  have f0:=frozen_keep hb02 HX0.out (HF.out 0)
  have f1:=frozen_keep hb02 HX1.out (HF.out 1)
  have hz3:=hz2.put2 (HT.out.next hb02) 0 1 (.bool s2) (.slice p2 n2 c2) (NotInt.bool _)
  have hb3:Below w.heap.size w ((w2.setCell ⟨w.heap.size,0,none⟩ (.bool s2)).setCell ⟨w.heap.size,1,none⟩ (.slice p2 n2 c2)):=((HB.out.trans (hb02.mono HB.out.size)).setCell (Nat.le_refl _) _).setCell (Nat.le_refl _) _
  have HZ3:=Kh hz3
  have HB3:=Kh hb3
  clear hz2 hb2 hb02 hz3 hb3 HS HB1
  go_wp2
  try simp only[Exit.inBlock,Exit.then]
  refine bodyPost_ret (by simp[results,Tryz.results75,go_sem,hu0,hu1];try rfl) rfl ?_
  exact⟨⟨s2,p2,n2,c2,rfl,HZ.out▸HZ3.out⟩,HB3.out⟩
end Go.Proofs.YtijgdhijdfgpfaaGreatDoor
