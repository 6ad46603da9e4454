/- Continued fractions, plain: the convergents of a cusp are a chain of Farey neighbours from infinity to it; two such chains are joined. No program in sight. -/
import Derived.Test.YtijgdhijdfgpfaaGreatDoorZ40
import Derived.Test.YtijgdhijdfgpfaaGreatDoorZ21
import Derived.Test.YtijgdhijdfgpfaaGreatDoorZ38
import Derived.Test.YtijgdhijdfgpfaaGreatDoorZ28
import Derived.Deep.Upon
set_option linter.unusedSimpArgs false
set_option maxRecDepth 100000
set_option maxHeartbeats 8000000
namespace Go.Proofs.YtijgdhijdfgpfaaGreatDoor
def cfW (p q:Int):List Int:=if _h:0<q then p / q :: cfW q (p % q)else []
termination_by q.toNat
decreasing_by have:=Int.emod_lt_of_pos p (show 0<q by assumption);omega
theorem cfW_zero (p:Int):cfW p 0=[]:=by rw[cfW,dif_neg (by decide)]
theorem cfW_pos {p q:Int} (h:0<q):cfW p q=p / q :: cfW q (p % q):=by rw[cfW,dif_pos h]
def cvL:Int×Int→Int×Int→List Int→List (Int×Int)
 | _,_,[]=>[]
 | b,l,n :: ns=>(n*l.1+b.1,n*l.2+b.2) :: cvL l (n*l.1+b.1,n*l.2+b.2) ns
theorem cvL_length:∀ (ns:List Int) (b l:Int×Int),(cvL b l ns).length=ns.length
 | [],_,_=>rfl
 | n :: ns,b,l=>by rw[cvL,List.length_cons,List.length_cons,cvL_length ns]
def ChOk:List (Int×Int)→Prop
 | a :: b :: r=>Nb a b∧ChOk (b :: r)
 | _=>True
def InC (c:Int×Int):Prop:=-1073741824≤c.1∧c.1≤1073741824∧0≤c.2∧c.2≤1073741824
theorem gcd_rest {p q n r:Int} (h:q*n+r=p) (hg:Int.gcd p q=1):Int.gcd q r=1:=by
 have h1:((Int.gcd q r:Nat):Int)∣q:=Int.gcd_dvd_left ..
 have h2:((Int.gcd q r:Nat):Int)∣r:=Int.gcd_dvd_right ..
 have h3:Int.gcd q r∣Int.gcd p q:=Int.dvd_gcd (by rw[← h];exact Int.dvd_add (Int.dvd_trans h1 (Int.dvd_mul_right _ _)) h2) h1
 rw[hg]at h3
 exact Nat.dvd_one.1 h3
theorem cv_in {p0 q0 a b r e:Int} (hp0:-1073741824≤p0) (hp1:p0≤1073741824) (hq:0<q0) (hb:0≤b) (hb1:b≤q0) (hr:0≤r) (hr1:r<q0) (hc:q0*a - p0*b=r*e) (he:e=1∨e=-1):-1073741824≤a∧a≤1073741824:=by
 have h1:p0*b≤1073741824*q0:=Int.le_trans (Int.mul_le_mul_of_nonneg_right hp1 hb) (Int.mul_le_mul_of_nonneg_left hb1 (by decide))
 have h2:-1073741824*q0≤p0*b:=by
  have h3:=Int.mul_le_mul_of_nonneg_right hp0 hb
  have h4:=Int.mul_le_mul_of_nonneg_left hb1 (show(0:Int)≤1073741824 by decide)
  omega
 have h5:-r≤r*e∧r*e≤r:=by rcases he with rfl|rfl <;> omega
 constructor
 ·rcases Int.lt_or_le a (-1073741824)with h|h
  ·exfalso
   have:=Int.mul_le_mul_of_nonneg_left (show a≤-1073741825 by omega) (Int.le_of_lt hq)
   omega
  ·exact h
 ·rcases Int.lt_or_le 1073741824 a with h|h
  ·exfalso
   have:=Int.mul_le_mul_of_nonneg_left (show 1073741825≤a by omega) (Int.le_of_lt hq)
   omega
  ·exact h
theorem cv_rest {p0 q0:Int} (hp0:-1073741824≤p0) (hp1:p0≤1073741824) (hq1:q0≤1073741824):∀ (j:Nat) (p q:Int) (b l:Int×Int),0≤q→q<p→p*q<2 ^ j→Int.gcd p q=1→l.1*p+b.1*q=p0→l.2*p+b.2*q=q0 →
  (l.1*b.2 - b.1*l.2=1∨l.1*b.2 - b.1*l.2=-1)→1≤l.2→0≤b.2 →
  (cfW p q).length≤j∧(∀ n∈cfW p q,1≤n∧n≤1073741824)∧(∀ c∈cvL b l (cfW p q),InC c∧1≤c.2)∧ChOk (l :: cvL b l (cfW p q))∧(l :: cvL b l (cfW p q)).getLast?=some (p0,q0):=by
 intro j
 induction j with
 | zero=>
  intro p q b l hq hqp hpq hg e1 e2 hd hl hb
  obtain rfl:q=0:=by
   rcases Int.lt_or_eq_of_le hq with h|h
   ·have:=Int.mul_le_mul (show(1:Int)≤p by omega) (show(1:Int)≤q by omega) (by omega) (by omega)
    omega
   ·exact h.symm
  have hp:p=1:=by simp at hg;omega
  subst hp
  have hc:=cfW_zero 1
  rw[hc]
  refine⟨by simp,by simp,by simp[cvL],by simp[cvL,ChOk],?_⟩
  have h1:l=(p0,q0):=Prod.ext (by show l.1=p0;omega) (by show l.2=q0;omega)
  simp[cvL,h1]
 | succ j ih=>
  intro p q b l hq hqp hpq hg e1 e2 hd hl hb
  rcases Int.lt_or_eq_of_le hq with hq0|hq0
  ·have hr0:=Int.emod_nonneg p (show q≠0 by omega)
   have hr1:=Int.emod_lt_of_pos p hq0
   have hdm:=Int.mul_ediv_add_emod p q
   obtain⟨r,hr⟩:∃ r,p % q=r:=⟨_,rfl⟩
   obtain⟨n,hn⟩:∃ n,p / q=n:=⟨_,rfl⟩
   rw[hr]at hr0 hr1 hdm
   rw[hn]at hdm
   have hn1:1≤n:=by
    rcases Int.lt_or_le n 1 with h|h
    ·have:=Int.mul_le_mul_of_nonneg_left (show n≤0 by omega) (show 0≤q by omega)
     omega
    ·exact h
   have hnp:n≤p:=by
    have:=Int.mul_le_mul_of_nonneg_right (show(1:Int)≤q by omega) (show 0≤n by omega)
    omega
   have hqr:q*r<2 ^ j:=by
    have h1:q*q+q*r≤p*q:=by
     have h3:q*q≤q*n*q:=by
      have:=Int.mul_le_mul_of_nonneg_left hn1 (show 0≤q*q from Int.mul_nonneg hq hq)
      calc q*q=q*q*1:=by omega
       _≤q*q*n:=this
       _=q*n*q:=by grind
     have h4:p*q=q*n*q+q*r:=by rw[← hdm];grind
     omega
    have h2:q*r≤q*q:=Int.mul_le_mul_of_nonneg_left (show r≤q by omega) hq
    have h5:(2:Int) ^ (j+1)=2*2 ^ j:=by rw[Int.pow_succ];omega
    omega
   have hg2:Int.gcd q r=1:=gcd_rest hdm hg
   obtain⟨l',hl'⟩:∃ l':Int×Int,l'=(n*l.1+b.1,n*l.2+b.2):=⟨_,rfl⟩
   have l1:l'.1=n*l.1+b.1:=by rw[hl']
   have l2:l'.2=n*l.2+b.2:=by rw[hl']
   have f1:l'.1*q+l.1*r=p0:=by rw[l1,← e1,← hdm];grind
   have f2:l'.2*q+l.2*r=q0:=by rw[l2,← e2,← hdm];grind
   have hl2:1≤l'.2:=by
    have:=Int.mul_le_mul_of_nonneg_right hn1 (show 0≤l.2 by omega)
    omega
   have hd':l'.1*l.2 - l.1*l'.2=1∨l'.1*l.2 - l.1*l'.2=-1:=by
    have:l'.1*l.2 - l.1*l'.2=-(l.1*b.2 - b.1*l.2):=by rw[l1,l2];grind
    omega
   obtain⟨g1,g2,g3,g4,g5⟩:=ih q r l l' hr0 hr1 hqr hg2 f1 f2 hd' hl2 (by omega)
   have hqq0:q<q0:=by
    have h1:=Int.mul_le_mul_of_nonneg_right hl (show 0≤p by omega)
    have h2:=Int.mul_nonneg hb hq
    omega
   have hlq:l'.2≤q0:=by
    have h1:=Int.mul_le_mul_of_nonneg_left (show(1:Int)≤q by omega) (show 0≤l'.2 by omega)
    have h2:=Int.mul_nonneg (show 0≤l.2 by omega) hr0
    omega
   have hpp:p≤q0:=by
    have h1:=Int.mul_le_mul_of_nonneg_right hl (show 0≤p by omega)
    have h2:=Int.mul_nonneg hb hq
    omega
   have hcross:q0*l'.1 - p0*l'.2=r*(l'.1*l.2 - l.1*l'.2):=by rw[← f1,← f2];grind
   have hin:InC l':=by
    have h1:=cv_in hp0 hp1 (by omega) (by omega) hlq hr0 (by omega) hcross hd'
    exact⟨h1.1,h1.2,by omega,by omega⟩
   have hcf:cfW p q=n :: cfW q r:=by rw[cfW_pos hq0,hn,hr]
   have hcv:cvL b l (n :: cfW q r)=l' :: cvL l l' (cfW q r):=by rw[cvL,← hl']
   rw[hcf,hcv]
   refine⟨by rw[List.length_cons];omega,fun x hx=>?_,fun c hc=>?_,⟨?_,g4⟩,?_⟩
   ·rcases List.mem_cons.1 hx with rfl|hx
    ·omega
    ·exact g2 x hx
   ·rcases List.mem_cons.1 hc with rfl|hc
    ·exact⟨hin,hl2⟩
    ·exact g3 c hc
   ·exact hd'
   ·rw[List.getLast?_cons_cons];exact g5
  ·subst hq0
   have hp:p=1:=by simp at hg;omega
   subst hp
   have hc:=cfW_zero 1
   rw[hc]
   refine⟨by simp,by simp,by simp[cvL],by simp[cvL,ChOk],?_⟩
   have h1:l=(p0,q0):=Prod.ext (by show l.1=p0;omega) (by show l.2=q0;omega)
   simp[cvL,h1]
def pthL (x:Int×Int):List (Int×Int):=(1,0) :: if x.2=0 then []else cvL (0,1) (1,0) (cfW x.1 x.2)
theorem cusp_ok {x:Int×Int} (h:cuspE x.1 x.2=0):(-1073741824≤x.1∧x.1≤1073741824)∧(0≤x.2∧x.2≤1073741824)∧Int.gcd x.1 x.2=1∧(x.2=0→x.1=1):=by
 unfold cuspE at h
 split at h
 ·cases h
 ·rename_i h1
  split at h
  ·cases h
  ·rename_i h2
   simp only[inE,Bool.and_eq_false_iff,decide_eq_false_iff_not]at h1
   refine⟨by omega,by omega,by omega,fun e=>by omega⟩
theorem cf_ok {x:Int×Int} (h:cuspE x.1 x.2=0) (hq:x.2≠0):((cfW x.1 x.2).length≤61∧0<(cfW x.1 x.2).length)∧(∀ i n,(cfW x.1 x.2)[i]?=some n→-1073741824≤n∧n≤1073741824∧(0<i→1≤n))∧(∀ c∈cvL (0,1) (1,0) (cfW x.1 x.2),InC c∧1≤c.2)∧ChOk ((1,0) :: cvL (0,1) (1,0) (cfW x.1 x.2))∧((1,0) :: cvL (0,1) (1,0) (cfW x.1 x.2)).getLast?=some x:=by
 obtain⟨⟨p0,p1⟩,⟨q0,q1⟩,hg,_⟩:=cusp_ok h
 obtain⟨p,q⟩:=x
 dsimp only at *
 have hr0:=Int.emod_nonneg p hq
 have hr1:=Int.emod_lt_of_pos p (show 0<q by omega)
 have hdm:=Int.mul_ediv_add_emod p q
 obtain⟨r,hr⟩:∃ r,p % q=r:=⟨_,rfl⟩
 obtain⟨n,hn⟩:∃ n,p / q=n:=⟨_,rfl⟩
 have hcf:cfW p q=n :: cfW q r:=by rw[cfW_pos (by omega),hn,hr]
 rw[hr]at hr0 hr1 hdm
 rw[hn]at hdm
 have hcv:cvL (0,1) (1,0) (n :: cfW q r)=(n,1) :: cvL (1,0) (n,1) (cfW q r):=by
  rw[cvL];simp
 have hn0:-1073741824≤n∧n≤1073741824:=by
  constructor
  ·rcases Int.lt_or_le n (-1073741824)with h|h
   ·exfalso
    have h1:=Int.mul_le_mul_of_nonneg_left (show n≤-1073741825 by omega) (show 0≤q by omega)
    have h2:q*1073741825=q * -1073741825 * -1:=by omega
    omega
   ·exact h
  ·rcases Int.lt_or_le 1073741824 n with h|h
   ·exfalso
    have h1:=Int.mul_le_mul_of_nonneg_left (show 1073741825≤n by omega) (show 0≤q by omega)
    omega
   ·exact h
 have hg2:Int.gcd q r=1:=gcd_rest hdm hg
 have hqr:q*r<2 ^ 60:=by
  have h1:=Int.mul_le_mul (show q≤1073741824 by omega) (show r≤1073741823 by omega) hr0 (by omega)
  have h2:(2:Int) ^ 60=1152921504606846976:=by decide
  omega
 obtain⟨g1,g2,g3,g4,g5⟩:=cv_rest (p0:=p) (q0:=q) p0 p1 q1 60 q r (1,0) (n,1) hr0 hr1 hqr hg2 (by dsimp only;rw[← hdm,Int.mul_comm];omega) (by dsimp only;omega) (by dsimp only;omega) (by dsimp only;omega) (by dsimp only;omega)
 rw[hcf,hcv]
 refine⟨⟨by rw[List.length_cons];omega,by simp⟩,fun i z hz=>?_,fun c hc=>?_,⟨?_,g4⟩,?_⟩
 ·cases i with
  | zero=>simp at hz;subst hz;exact⟨hn0.1,hn0.2,fun h=>absurd h (Nat.lt_irrefl 0)⟩
  | succ i=>
   have h1:=g2 z (List.mem_of_getElem? (by simpa using hz))
   exact⟨by omega,by omega,fun _=>h1.1⟩
 ·rcases List.mem_cons.1 hc with rfl|hc
  ·exact⟨⟨hn0.1,hn0.2,by dsimp only;omega,by dsimp only;omega⟩,by dsimp only;omega⟩
  ·exact g3 c hc
 ·unfold Nb;dsimp only;omega
 ·rw[List.getLast?_cons_cons];exact g5
theorem pth_ok {x:Int×Int} (h:cuspE x.1 x.2=0):(pthL x).length≤62∧(∀ c∈pthL x,InC c∧Gd c)∧ChOk (pthL x)∧(pthL x).getLast?=some x:=by
 have h1:InC ((1,0):Int×Int):=⟨by decide,by decide,by decide,by decide⟩
 unfold pthL
 by_cases hq:x.2=0
 ·rw[if_pos hq]
  have hx:=(cusp_ok h).2.2.2 hq
  refine⟨by simp,fun c hc=>?_,by simp[ChOk],?_⟩
  ·simp at hc;subst hc;exact⟨h1,⟨by decide,fun _=>rfl⟩⟩
  ·have:x=(1,0):=Prod.ext hx hq
   rw[this];rfl
 ·rw[if_neg hq]
  obtain⟨a1,a2,a3,a4,a5⟩:=cf_ok h hq
  refine⟨by rw[List.length_cons,cvL_length];omega,fun c hc=>?_,a4,a5⟩
  rcases List.mem_cons.1 hc with rfl|hc
  ·exact⟨h1,⟨by decide,fun _=>rfl⟩⟩
  ·have h3:=a3 c hc
   exact⟨h3.1,⟨by omega,fun e=>by omega⟩⟩
theorem ChOk.get:∀ {l:List (Int×Int)},ChOk l→∀ (j:Nat) (a b:Int×Int),l[j]?=some a→l[j+1]?=some b→Nb a b
 | [],_,j,a,b,h,_=>by simp at h
 | [c],_,j,a,b,h,h'=>by simp at h'
 | c :: d :: r,h,0,a,b,ha,hb=>by simp at ha hb;subst ha;subst hb;exact h.1
 | c :: d :: r,h,j+1,a,b,ha,hb=>ChOk.get (l:=d :: r) h.2 j a b (by simpa using ha) (by simpa using hb)
structure ChainOk (a b:Int×Int) (ch:List (Int×Int)):Prop where
 len:ch.length≤124
 pos:0<ch.length
 first:ch[0]?=some a
 last:ch[ch.length - 1]?=some b
 good:∀ c∈ch,InC c∧Gd c
 nb:∀ j c d,ch[j]?=some c→ch[j+1]?=some d→Nb c d
theorem joined {a b:Int×Int} (ha:cuspE a.1 a.2=0) (hb:cuspE b.1 b.2=0) {c:Nat} (hc:0<c) (h1:c≤(pthL a).length) (h2:c≤(pthL b).length) (he:∀ j,j<c→(pthL a)[j]?=(pthL b)[j]?):ChainOk a b (((pthL a).drop (c - 1)).reverse++(pthL b).drop c):=by
 obtain⟨a1,a2,a3,a4⟩:=pth_ok ha
 obtain⟨b1,b2,b3,b4⟩:=pth_ok hb
 rw[List.getLast?_eq_getElem?]at a4 b4
 obtain⟨la,hla⟩:∃ la,(pthL a).length=la:=⟨_,rfl⟩
 obtain⟨lb,hlb⟩:∃ lb,(pthL b).length=lb:=⟨_,rfl⟩
 rw[hla]at a1 a4 h1
 rw[hlb]at b1 b4 h2
 have hl:(((pthL a).drop (c - 1)).reverse++(pthL b).drop c).length=(la - (c - 1))+(lb - c):=by simp[hla,hlb]
 have hL:∀ j,j<la - (c - 1)→(((pthL a).drop (c - 1)).reverse++(pthL b).drop c)[j]?=(pthL a)[la - 1 - j]?:=fun j hj=>by
  rw[List.getElem?_append_left (by simp[hla];omega),List.getElem?_reverse (by simp[hla];omega),List.getElem?_drop]
  congr 1
  simp[hla]
  omega
 have hR:∀ j,la - (c - 1)≤j→(((pthL a).drop (c - 1)).reverse++(pthL b).drop c)[j]?=(pthL b)[c+(j - (la - (c - 1)))]?:=fun j hj=>by
  rw[List.getElem?_append_right (by simp[hla];omega),List.getElem?_drop]
  congr 1
  simp[hla]
 refine⟨by rw[hl];omega,by rw[hl];omega,by rw[hL 0 (by omega)];exact a4,?_,fun x hx=>?_,fun j x y hx hy=>?_⟩
 ·rw[hl]
  by_cases h:lb=c
  ·rw[hL _ (by omega),show la - 1 - ((la - (c - 1))+(lb - c) - 1)=c - 1 by omega,he (c - 1) (by omega),← b4,h]
  ·rw[hR _ (by omega),← b4]
   congr 1
   omega
 ·rcases List.mem_append.1 hx with hx|hx
  ·exact a2 x (List.mem_of_mem_drop (List.mem_reverse.1 hx))
  ·exact b2 x (List.mem_of_mem_drop hx)
 ·have hj:j+1<(la - (c - 1))+(lb - c):=by rw[← hl];exact(List.getElem?_eq_some_iff.1 hy).1
  by_cases h3:j+1<la - (c - 1)
  ·rw[hL j (by omega)]at hx
   rw[hL (j+1) h3]at hy
   exact(a3.get (la - 1 - (j+1)) y x hy (by rw[show la - 1 - (j+1)+1=la - 1 - j by omega];exact hx)).symm
  ·by_cases h4:j<la - (c - 1)
   ·rw[hL j h4,show la - 1 - j=c - 1 by omega,he (c - 1) (by omega)]at hx
    rw[hR (j+1) (by omega),show c+(j+1 - (la - (c - 1)))=c - 1+1 by omega]at hy
    exact b3.get (c - 1) x y hx hy
   ·rw[hR j (by omega)]at hx
    rw[hR (j+1) (by omega),show c+(j+1 - (la - (c - 1)))=c+(j - (la - (c - 1)))+1 by omega]at hy
    exact b3.get _ x y hx hy
end Go.Proofs.YtijgdhijdfgpfaaGreatDoor
namespace Go.Proofs.YtijgdhijdfgpfaaGreatDoor
open Go.RowKit
def OwnI (l:List Int) (w:World) (B:Nat) (v:Value):Prop:=OwnK NotU32 w B 3 1 v l.length (l.map (Value.int .i64))
def cusps (l:List (Int×Int)):List Value:=l.flatMap fun c=>[.int .i64 c.1,.int .i64 c.2]
def OwnC (l:List (Int×Int)) (w:World) (B:Nat) (v:Value):Prop:=OwnK NotU32 w B 24 2 v l.length (cusps l)
theorem OwnI.push {l:List Int} {w':World} {B:Nat} {v':Value} {a:Int} (h:OwnK NotU32 w' B 3 1 v' (l.length+1) (l.map (Value.int .i64)++[.int .i64 a])):OwnI (l++[a]) w' B v':=by
 unfold OwnI
 rw[List.length_append,List.map_append]
 exact h
theorem OwnC.push {l:List (Int×Int)} {w':World} {B:Nat} {v':Value} {a:Int×Int} (h:OwnK NotU32 w' B 24 2 v' (l.length+1) (cusps l++[.int .i64 a.1,.int .i64 a.2])):OwnC (l++[a]) w' B v':=by
 unfold OwnC cusps at *
 rw[List.length_append,List.flatMap_append]
 exact h
theorem cusps_get:∀ (l:List (Int×Int)) (j:Nat) (c:Int×Int),l[j]?=some c→(cusps l)[j*2]?=some (.int .i64 c.1)∧(cusps l)[j*2+1]?=some (.int .i64 c.2)
 | [],j,c,h=>by simp at h
 | x :: l,0,c,h=>by simp at h;subst h;exact⟨rfl,rfl⟩
 | x :: l,j+1,c,h=>by
  have h1:=cusps_get l j c (by simpa using h)
  have e1:(j+1)*2=j*2+1+1:=by omega
  unfold cusps at *
  rw[List.flatMap_cons,e1]
  exact h1
theorem cusps_length:∀ l:List (Int×Int),(cusps l).length=l.length*2
 | []=>rfl
 | x :: l=>by
  have h1:=cusps_length l
  unfold cusps at *
  rw[List.flatMap_cons,List.length_append,h1,List.length_cons]
  show 2+l.length*2=(l.length+1)*2
  omega
theorem c_Expand (p q:Int) (w:World) (h:cuspE p q=0) (hq0:q≠0):
  Calls Tryz.prog 122 #[.agg #[.int .i64 p,.int .i64 q]] w fun e w'=>(∃ v,e=.returned (.tuple #[v,.int .i64 0])∧OwnI (cfW p q) w' w.heap.size v)∧Below w.heap.size w w':=by
 obtain⟨⟨p1,p2⟩,⟨q1,q2⟩,_,_⟩:=cusp_ok (x:=(p,q)) h
 dsimp only at p1 p2 q1 q2
 have HCC:=Kh (fun w1=>c_CheckCusp p q w1 (by omega) (by omega) (by omega) (by omega))
 rw[h]at HCC
 obtain⟨L,hL⟩:∃ L,cfW p q=L:=⟨_,rfl⟩
 have HL:=Kh hL
 have HLN:=Kh (show L.length≤61 from hL▸(cf_ok (x:=(p,q)) h hq0).1.1)
 rw[hL]
 have HPQ:=Kh (show(-1073741824≤p∧p≤1073741824)∧0<q∧q≤1073741824 by omega)
 have HN:=Kh (OwnK.nil NotU32 w w.heap.size 3 1)
 clear h hL p1 p2 q1 q2
 have hqb:(q==0)=false:=by rw[beq_eq_false_iff_ne];exact hq0
 go_enter Tryz.func122,Tryz.ntmps122
 go_wp2_with fail
 obtain⟨w0,hw0,X0,hb0⟩:=bx1 w #[.int .i64 p,.int .i64 q] 24
 rw[hw0]
 refine(HCC.out w0).mono ?_
 rintro e w1 ⟨rfl,hb1⟩
 have X1:=X0.below_ hb1 X0.lt
 have x0:=X1.at_ 0 rfl
 have x1:=X1.at_ 1 rfl
 have HB1:=Kh (hb0.trans (hb1.mono hb0.size))
 clear hw0 X0 hb0 hb1 X1
 go_upto_region 7 with(fail)
 go_quiet (fail)
 have HB2:=Kh (show Below w.heap.size w (w1.drewN nq)from below_drewN' HB1.out nq)
 generalize w1.drewN nq=w2 at HB2 ⊢
 have HN2:=Kh (show OwnI [] w2 w.heap.size (.slice none 0 0)from OwnK.nil NotU32 w2 w.heap.size 3 1)
 clear x0 x1 HB1 HN hq0 hqb
 go_wp2_with fail
 go_loopw [5,6,7] (fun vl vp vq wr=>∃ (xs:List Int) (P Q:Int),vp=.int .i64 P∧vq=.int .i64 Q∧OwnI xs wr w.heap.size vl∧Below w.heap.size w wr∧Hid (xs++cfW P Q=L∧(-1073741824≤P∧P≤1073741824)∧0≤Q∧Q≤1073741824)) (fun _ _ q _=>(intOf q).toNat)
 case atStart=>exact⟨[],p,q,rfl,rfl,HN2.out,HB2.out,Kh ⟨HL.out,HPQ.out.1,by have:=HPQ.out;omega⟩⟩
 case round=>
  obtain⟨xs,P,Q,rfl,rfl,hown,hbw,HI⟩:=hrel
  obtain⟨wi,rfl⟩:∃ wi:World,wi=wr:=⟨_,rfl⟩
  have HO:=Kh hown
  have HB:=Kh hbw
  have hsz:=HB.out.size
  clear hown hbw HN2 HB2
  by_cases hQ:Q=0
  ·have HF:=Kh (show OwnI L wi w.heap.size u5 by
    have h1:=HI.out.1
    rw[hQ,cfW_zero,List.append_nil]at h1
    rw[← h1];exact HO.out)
   subst hQ
   clear HI hsz HO
   go_wp2
   (first|go_ret2|go_ret)
   exact⟨⟨_,rfl,HF.out⟩,HB.out⟩
  ·have hQp:0<Q:=by have:=HI.out;omega
   have hL1:=HI.out.1
   rw[cfW_pos hQp]at hL1
   have hd1:=Int.emod_nonneg P hQ
   have hd2:=Int.emod_lt_of_pos P hQp
   have hdm:=Int.mul_ediv_add_emod P Q
   obtain⟨R,hR⟩:∃ R,P % Q=R:=⟨_,rfl⟩
   obtain⟨N,hN⟩:∃ N,P / Q=N:=⟨_,rfl⟩
   rw[hR]at hd1 hd2 hdm hL1
   rw[hN]at hdm hL1
   have HL2:=Kh (show(xs++[N])++cfW Q R=L by rw[← hL1];simp)
   have hxl:xs.length+1≤61:=by
    have h1:=HLN.out
    rw[← hL1]at h1
    simp at h1
    omega
   have HXL:=Kh hxl
   have HRQ:=Kh (show 0≤R∧R<Q from⟨hd1,hd2⟩)
   obtain⟨T,hT⟩:∃ T,P.tmod Q=T:=⟨_,rfl⟩
   have hTR:(if T<0 then T+Q else T)=R:=by
    rw[← hT,← hR]
    have h1:=Int.tmod_eq_emod (a:=P) (b:=Q)
    have h4:=Int.emod_lt_of_pos P hQp
    have h5:=Int.emod_nonneg P hQ
    split at h1 <;> split <;> omega
   have hT1:-1073741824≤T∧T≤1073741824:=by have:=HI.out;split at hTR <;> omega
   have hq2:(P - R).tdiv Q=N:=by
    rw[← hdm,Int.add_sub_cancel]
    exact Int.mul_tdiv_cancel_left N hQ
   have hPR:-2147483648≤P - R∧P - R≤2147483648:=by have:=HI.out;omega
   have hNb:-2147483648≤N∧N≤2147483648:=by
    have h1:=HI.out
    constructor
    ·rcases Int.lt_or_le N (-2147483648)with h|h
     ·have:=Int.mul_le_mul_of_nonneg_left (show N≤-2147483649 by omega) (show 0≤Q by omega)
      omega
     ·exact h
    ·rcases Int.lt_or_le 2147483648 N with h|h
     ·have:=Int.mul_le_mul_of_nonneg_left (show 2147483649≤N by omega) (show 0≤Q by omega)
      omega
     ·exact h
   have wr1:IntKind.i64.wrap R=R:=IntWalk.i64_in _ (by have:=HI.out;omega)
   have wr2:IntKind.i64.wrap (P - R)=P - R:=IntWalk.i64_in _ (by omega)
   have wr3:IntKind.i64.wrap N=N:=IntWalk.i64_in _ (by omega)
   clear hd1 hd2 hdm hL1 hxl hN hR hQp
   by_cases hT0:T<0
   ·rw[if_pos hT0]at hTR
    go_wp2_with (at_builtin;refine wpl_app2 NotU32 rfl (.tmp 31) (.tmp 37) _ 3 rfl Tryz.underlying94 intInfo rfl (by decide) w.heap.size xs.length u5 (xs.map (Value.int .i64)) [.int .i64 N] rfl HO.out rfl rfl (one_one N) (by have:=HXL.out;omega) (by have:=HXL.out;omega) hsz (one_i64 N) nz_int ?_;intro v3 w3 hown3 hgr3 hat3;have HO3:=Kh (OwnI.push hown3);have HB3:=Kh (own_below HB.out HO.out.1 hgr3 (Nat.le_refl _) hsz);clear hown3 hgr3 hat3)
    go_roundw
    case rel=>exact⟨xs++[N],Q,R,rfl,rfl,HO3.out,HB3.out,Kh ⟨HL2.out,by have:=HI.out;omega,by have:=HI.out;have:=HRQ.out;omega⟩⟩
    case measure=>have:=HRQ.out;simp[intOf];omega
   ·rw[if_neg hT0]at hTR
    obtain rfl:R=T:=hTR.symm
    go_wp2_with (at_builtin;refine wpl_app2 NotU32 rfl (.tmp 31) (.tmp 37) _ 3 rfl Tryz.underlying94 intInfo rfl (by decide) w.heap.size xs.length u5 (xs.map (Value.int .i64)) [.int .i64 N] rfl HO.out rfl rfl (one_one N) (by have:=HXL.out;omega) (by have:=HXL.out;omega) hsz (one_i64 N) nz_int ?_;intro v3 w3 hown3 hgr3 hat3;have HO3:=Kh (OwnI.push hown3);have HB3:=Kh (own_below HB.out HO.out.1 hgr3 (Nat.le_refl _) hsz);clear hown3 hgr3 hat3)
    go_roundw
    case rel=>exact⟨xs++[N],Q,R,rfl,rfl,HO3.out,HB3.out,Kh ⟨HL2.out,by have:=HI.out;omega,by have:=HI.out;have:=HRQ.out;omega⟩⟩
    case measure=>have:=HRQ.out;simp[intOf];omega
theorem OwnC.low {l:List (Int×Int)} {w:World} {B B':Nat} {v:Value} (h:OwnC l w B v) (hB:B'≤B):OwnC l w B' v:=⟨h.1.mono hB,h.2⟩
theorem c_Convergents (ns:List Int) (g cap:Nat) (w:World) (h0:0<ns.length) (h64:ns.length≤64) (hg:g<w.heap.size) (hc:∀ (i:Nat) (n:Int),ns[i]?=some n→w.cell? ⟨g,i,none⟩=some (.int .i64 n))
  (hr:∀ (i:Nat) (n:Int),ns[i]?=some n→-1073741824≤n∧n≤1073741824∧(0<i→1≤n)) (hcv:∀ c∈cvL (0,1) (1,0) ns,InC c):
  Calls Tryz.prog 123 #[.slice (some ⟨g,0,none⟩) ns.length cap] w fun e w'=>(∃ v,e=.returned (.tuple #[v,.int .i64 0])∧OwnC (cvL (0,1) (1,0) ns) w' w.heap.size v)∧Below w.heap.size w w':=by
 obtain⟨N,hN⟩:∃ N,ns.length=N:=⟨_,rfl⟩
 have HNL:=Kh hN
 have HC:=Kh (fun W (hb:Below w.heap.size w W) (i:Nat) (n:Int) (hi:ns[i]?=some n)=>(show W.cell? ⟨g,i,none⟩=some (.int .i64 n)from(hb.cell (p:=⟨g,i,none⟩) hg).trans (hc i n hi)))
 have HR:=Kh hr
 have HCV:=Kh hcv
 have HAT:=Kh (show ∀ i,i<N→∃ n,ns[i]?=some n from fun i hi=>⟨_,List.getElem?_eq_getElem (by omega)⟩)
 rw[hN]at h0 h64 ⊢
 have hN1:¬ (N:Int)=0:=by omega
 have hN2:¬ (64:Int)<(N:Int):=by omega
 have HN64:=Kh h64
 clear hc hr hcv hg h64 hN
 go_enter Tryz.func123,Tryz.ntmps123
 go_wp2_with fail
 go_loopw [19] (fun ii wr=>∃ i:Nat,i≤N∧ii=.int .i64 i∧wr=w) (fun ii _=>N - (intOf ii).toNat)
 case atStart=>exact⟨0,Nat.zero_le _,rfl,rfl⟩
 case round=>
  obtain⟨i,hi,rfl,hwr⟩:=hrel
  obtain rfl:w=wr:=hwr.symm
  clear hwr
  by_cases hlt:i<N
  ·obtain⟨n,hn⟩:=HAT.out i hlt
   have hcl:=HC.out w (Below.refl _ w) i n hn
   have hrn:=HR.out i n hn
   have hin:inE n=true:=inE_iff.2 ⟨hrn.1,hrn.2.1⟩
   have hii:(i:Int)<(N:Int):=by omega
   have HPN:=Kh (show 0<i→1≤n from hrn.2.2)
   clear hn hrn
   go_wp2_with fail
   refine(c_inC n w).mono ?_
   rintro e w' ⟨rfl,hw'⟩
   obtain rfl:w=w':=hw'.symm
   rw[hin]
   by_cases hi0:i=0
   ·subst hi0
    go_wp2
    go_roundw
    case rel=>exact⟨0+1,by omega,by go_num,by first|rfl|trivial⟩
    case measure=>simp[intOf];omega
   ·have hi1:(0:Int)<(i:Int):=by omega
    have hi2:0<i:=by omega
    have hn1:¬ n<1:=by have:=HPN.out (by omega);omega
    go_wp2
    go_roundw
    case rel=>exact⟨i+1,by omega,by go_num,by first|rfl|trivial⟩
    case measure=>simp[intOf];omega
  ·obtain rfl:N=i:=by omega
   go_wp2_with fail
   obtain⟨w2,hw2,XA,XB,hb2⟩:=bx2 w #[.int .i64 0,.int .i64 1] 24 #[.int .i64 1,.int .i64 0] 24
   rw[hw2]
   obtain⟨ga,hga⟩:∃ x,w.heap.size=x:=⟨_,rfl⟩
   obtain⟨gb,hgb⟩:∃ x,w.heap.size+1=x:=⟨_,rfl⟩
   have HGA:=Kh hga
   have HGB:=Kh hgb
   rw[hgb]at XB ⊢
   rw[hga]at XA ⊢
   have HA:=Kh XA
   have HBB:=Kh XB
   have HB2:=Kh hb2
   obtain⟨B2,hB2⟩:∃ x,w2.heap.size=x:=⟨_,rfl⟩
   have HBS:=Kh (show ga<B2∧gb<B2∧w.heap.size≤B2 by have h1:=XA.lt;have h2:=XB.lt;have h3:=hb2.size;omega)
   have HS2:=Kh hB2
   clear hw2 XA XB hb2 hga hgb hlt hB2
   go_loopw [6,40] (fun vl ii wr=>∃ (i:Nat) (b l:Int×Int) (out:List (Int×Int)),i≤N∧ii=.int .i64 i∧OwnC out wr B2 vl∧B2≤wr.heap.size∧Blk wr ga 24 #[.int .i64 b.1,.int .i64 b.2]∧Blk wr gb 24 #[.int .i64 l.1,.int .i64 l.2]∧Below w.heap.size w wr∧Hid (out++cvL b l (ns.drop i)=cvL (0,1) (1,0) ns∧out.length=i∧(-1073741824≤b.1∧b.1≤1073741824∧-1073741824≤b.2∧b.2≤1073741824)∧(-1073741824≤l.1∧l.1≤1073741824∧-1073741824≤l.2∧l.2≤1073741824))) (fun _ ii _=>N - (intOf ii).toNat)
   case atStart=>exact⟨0,(0,1),(1,0),[],Nat.zero_le _,rfl,OwnK.nil NotU32 w2 B2 24 2,Nat.le_of_eq HS2.out.symm,HA.out,HBB.out,HB2.out,Kh ⟨rfl,rfl,by decide,by decide⟩⟩
   case round=>
    obtain⟨i,⟨b1,b2⟩,⟨l1,l2⟩,out,hi,rfl,hown,hsz,hA,hBB,hbw,HI⟩:=hrel
    dsimp only at hA hBB HI
    obtain⟨wi,rfl⟩:∃ wi:World,wi=wr:=⟨_,rfl⟩
    have HO:=Kh hown
    have HXA:=Kh hA
    have HXB:=Kh hBB
    have HB:=Kh hbw
    have HSZ:=Kh hsz
    clear hown hA hBB hbw HA HBB HB2 HS2 hsz
    by_cases hlt:i<N
    ·obtain⟨n,hn⟩:=HAT.out i hlt
     have hcl:=HC.out wi HB.out i n hn
     have hrn:=HR.out i n hn
     have hii:(i:Int)<(N:Int):=by omega
     obtain⟨e1,e2,e3,e4⟩:=HI.out
     have hdr:ns.drop i=n :: ns.drop (i+1):=by
      obtain⟨hlt2,e⟩:=List.getElem?_eq_some_iff.1 hn
      rw[List.drop_eq_getElem_cons hlt2,e]
     rw[hdr,cvL]at e1
     dsimp only at e1
     have hmem:InC (n*l1+b1,n*l2+b2):=HCV.out _ (by rw[← e1];exact List.mem_append_right _ (List.mem_cons_self ..))
     obtain⟨m1,m2,m3,m4⟩:=hmem
     dsimp only at m1 m2 m3 m4
     have hp1:-1073741824 - 1073741824≤n*l1∧n*l1≤1073741824+1073741824:=by omega
     have hp2:-1073741824 - 1073741824≤n*l2∧n*l2≤1073741824+1073741824:=by omega
     have wr1:IntKind.i64.wrap (n*l1)=n*l1:=IntWalk.i64_in _ (by omega)
     have wr2:IntKind.i64.wrap (n*l2)=n*l2:=IntWalk.i64_in _ (by omega)
     have wr3:IntKind.i64.wrap (n*l1+b1)=n*l1+b1:=IntWalk.i64_in _ (by omega)
     have wr4:IntKind.i64.wrap (n*l2+b2)=n*l2+b2:=IntWalk.i64_in _ (by omega)
     have HE:=Kh (show(out++[(n*l1+b1,n*l2+b2)])++cvL (l1,l2) (n*l1+b1,n*l2+b2) (ns.drop (i+1))=cvL (0,1) (1,0) ns by rw[← e1];simp)
     have HBD:=Kh (show(out++[(n*l1+b1,n*l2+b2)]).length=i+1∧(-1073741824≤l1∧l1≤1073741824∧-1073741824≤l2∧l2≤1073741824)∧(-1073741824≤n*l1+b1∧n*l1+b1≤1073741824∧-1073741824≤n*l2+b2∧n*l2+b2≤1073741824)from⟨by simp[e2],e4,m1,m2,by omega,m4⟩)
     have HOL:=Kh e2
     have hin1:inE (n*l1+b1)=true:=inE_iff.2 ⟨m1,m2⟩
     have hin2:inE (n*l2+b2)=true:=inE_iff.2 ⟨by omega,m4⟩
     clear e1 e2 e3 e4 hdr m1 m2 m3 m4 hp1 hp2 hrn hn HI
     have a0:=HXA.out.at_ 0 rfl
     have a1:=HXA.out.at_ 1 rfl
     have b0:=HXB.out.at_ 0 rfl
     have b1':=HXB.out.at_ 1 rfl
     have fa0:=HXA.out.free_ 0
     have fa1:=HXA.out.free_ 1
     have fb0:=HXB.out.free_ 0
     have fb1:=HXB.out.free_ 1
     have hab:ga≠gb:=by have:=HGA.out;have:=HGB.out;omega
     go_upto_region 16 with(fail)
     go_region
     have XA:=(HXA.out.set_ 0 (.int .i64 l1)).set_ 1 (.int .i64 l2)
     have hgaw:w.heap.size≤ga:=Nat.le_of_eq HGA.out
     have hgbw:w.heap.size≤gb:=by have:=HGB.out;omega
     have XA2:=((XA.far_ (p:=⟨gb,0,none⟩) hab (.int .i64 (n*l1+b1))).far_ (p:=⟨gb,1,none⟩) hab (.int .i64 (n*l2+b2))).drew_
     have XB2:=((((HXB.out.far_ (p:=⟨ga,0,none⟩) (fun e=>hab e.symm) (.int .i64 l1)).far_ (p:=⟨ga,1,none⟩) (fun e=>hab e.symm) (.int .i64 l2)).set_ 0 (.int .i64 (n*l1+b1))).set_ 1 (.int .i64 (n*l2+b2))).drew_
     obtain⟨ws,hws⟩:∃ ws,((((wi.setCell ⟨ga,0,none⟩ (.int .i64 l1)).setCell ⟨ga,1,none⟩ (.int .i64 l2)).setCell ⟨gb,0,none⟩ (.int .i64 (n*l1+b1))).setCell ⟨gb,1,none⟩ (.int .i64 (n*l2+b2))).drew=ws:=⟨_,rfl⟩
     rw[hws]at XA2 XB2 ⊢
     have HBW:=Kh (show Below w.heap.size w ws from hws▸((((HB.out.setCell (p:=⟨ga,0,none⟩) hgaw _).setCell (p:=⟨ga,1,none⟩) hgaw _).setCell (p:=⟨gb,0,none⟩) hgbw _).setCell (p:=⟨gb,1,none⟩) hgbw _).drew)
     have HOS:=Kh (show OwnC out ws B2 u6 by
      obtain⟨q1,q2,q3⟩:=HBS.out
      rw[← hws]
      have h1:=(((OwnK.other (a:=⟨ga,0,none⟩) HO.out q1 (int_i64 l1)).other (a:=⟨ga,1,none⟩) q1 (int_i64 l2)).other (a:=⟨gb,0,none⟩) q2 (int_i64 (n*l1+b1))).other (a:=⟨gb,1,none⟩) q2 (int_i64 (n*l2+b2))
      exact h1.keep (Below.refl _ _).drew)
     have hsz:B2≤ws.heap.size:=by rw[← hws];simpa using HSZ.out
     have HA2:=Kh XA2
     have HB2:=Kh XB2
     have c0:=XB2.at_ 0 rfl
     have c1:=XB2.at_ 1 rfl
     clear XA XA2 XB2 hws a0 a1 b0 b1' fa0 fa1 fb0 fb1 hab hcl HXA HXB HO HB HSZ wr1 wr2 wr3 wr4 hgaw hgbw
     go_wp2_with fail
     refine(c_inC (n*l1+b1) ws).mono ?_
     rintro e w' ⟨rfl,hw'⟩
     obtain rfl:ws=w':=hw'.symm
     rw[hin1]
     clear hw'
     go_wp2_with fail
     refine(c_inC (n*l2+b2) ws).mono ?_
     rintro e w' ⟨rfl,hw'⟩
     obtain rfl:ws=w':=hw'.symm
     rw[hin2]
     clear hw'
     go_wp2_with (at_builtin;refine wpl_app2 NotU32 rfl (.tmp 70) (.tmp 72) _ 24 rfl Tryz.underlying72 cuspInfo rfl (by decide) B2 out.length u6 (cusps out) [.int .i64 (n*l1+b1),.int .i64 (n*l2+b2)] rfl HOS.out rfl rfl (two_one _ _) (by have:=HOL.out;have:=HN64.out;omega) (by have:=HOL.out;have:=HN64.out;omega) hsz (two_i64 _ _) nz_cusp ?_;intro v3 w3 hown3 hgr3 hat3;have HO3:=Kh (OwnC.push (a:=(n*l1+b1,n*l2+b2)) hown3);have HB3:=Kh (own_below HBW.out HOS.out.1 hgr3 HBS.out.2.2 (Nat.le_trans HBS.out.2.2 hsz));have HA3:=Kh (HA2.out.grown_ hgr3 (fun e=>by have:=own_ge HOS.out.1 e;have:=HBS.out.1;omega));have HXB3:=Kh (HB2.out.grown_ hgr3 (fun e=>by have:=own_ge HOS.out.1 e;have:=HBS.out.2.1;omega));have HS3:=Kh (Nat.le_trans hsz hgr3.size);clear hown3 hgr3 hat3)
     go_roundw
     case rel=>exact⟨i+1,(l1,l2),(n*l1+b1,n*l2+b2),_,by omega,by go_num,HO3.out,HS3.out,HA3.out,HXB3.out,HB3.out,Kh ⟨HE.out,HBD.out⟩⟩
     case measure=>simp[intOf];omega
    ·obtain rfl:N=i:=by omega
     have HF:=Kh (show OwnC (cvL (0,1) (1,0) ns) wi w.heap.size u6 by
      have h1:=HI.out.1
      rw[List.drop_eq_nil_of_le (by have:=HNL.out;omega),cvL,List.append_nil]at h1
      rw[← h1]
      exact HO.out.low HBS.out.2.2)
     clear HI HO hlt HSZ HXA HXB
     go_wp2
     (first|go_ret2|go_ret)
     exact⟨⟨_,rfl,HF.out⟩,HB.out⟩
end Go.Proofs.YtijgdhijdfgpfaaGreatDoor
