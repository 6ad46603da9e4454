/- Lists of rows of fractions in memory: read, and of one's own in append's hands. -/
import Derived.Test.YtenlbhlllgppmaaGreatDoorA19
import Derived.Deep.Upon
set_option linter.unusedSimpArgs false
set_option maxRecDepth 100000
set_option maxHeartbeats 8000000
namespace Go.Proofs.YtenlbhlllgppmaaGreatDoor
section
open Go.RowKit Eli
def RowV (f:Nat->Rat) (N:Nat) (w:World) (v:Value):Prop:=(∃p c,v=.slice p N c)/\QL (λq=>IsQ (f q)) w v N
theorem RowV.keep {f:Nat->Rat} {N:Nat} {w w':World} {v:Value} (h:RowV f N w v) (I:Below w.heap.size w w'):RowV f N w' v:=⟨h.1,h.2.keep (λ_=>IsQ.solid _) I⟩
theorem RowV.congr {f g:Nat->Rat} {N:Nat} {w:World} {v:Value} (h:RowV f N w v) (O:∀q,q<N->g q=f q):RowV g N w v:=by
 refine⟨h.1,?_⟩;rcases h.2 with J |⟨b,o,cap,e,M,hq⟩
 ·exact .inl J
 ·exact .inr ⟨b,o,cap,e,M,λj I=>by
   show QE (IsQ (g j)) w b (o+j*4);rw[O j I];exact hq j I⟩
theorem RowV.but {f:Nat->Rat} {N:Nat} {w w':World} {v:Value} {R:Nat} (h:RowV f N w v) (hs:Stk SliceV w R) (hg:w.grownBy w' (some R)) (I:I32 w w'):RowV f N w' v:=by
 refine⟨h.1,?_⟩;rcases h.2 with V |⟨b,o,cap,e,Z,hq⟩
 ·exact .inl V
 ·refine .inr ⟨b,o,cap,e,mI Z hg.size,λj hj=>?_⟩
  have O:=hq j hj
  have J:b≠R:=λU=>by
   obtain⟨s,p,n,c,t,q,m,d,M,_⟩:=O;rw[U]at M;obtain⟨p',n',c',Y⟩:=hs.2 _ _ M;cases Y
  exact O.butR I hg J
theorem RowV.grown {f:Nat->Rat} {N:Nat} {w w':World} {v:Value} {o:Option Nat} (h:RowV f N w v) (hs:∀R,o=some R->Stk SliceV w R) (hg:w.grownBy w' o) (M:I32 w w'):RowV f N w' v:=by
 refine⟨h.1,?_⟩;rcases h.2 with Y |⟨b,o',cap,e,hb,hq⟩
 ·exact .inl Y
 ·refine .inr ⟨b,o',cap,e,mI hb hg.size,λj hj=>?_⟩
  obtain⟨s,p,n,c,t,q,m,d,O,J,U,V,h4⟩:=hq j hj
  have I:some b≠o:=λJ=>by
   obtain⟨p',n',c',Z⟩:=(hs b J.symm).2 _ _ O;cases Z
  exact⟨s,p,n,c,t,q,m,d,hg.cell O I,hg.cell J I,hg.cell U I,hg.cell V I,h4.i32 M⟩
def GridL (l:List (Nat->Rat)) (N:Nat) (w:World) (v:Value):Prop:=
 (l=[]/\∃p c,v=.slice p 0 c)∨∃g o cap,v=.slice (some ⟨g,o,none⟩) l.length cap/\g<w.heap.size/\Stk SliceV w g/\∀(j:Nat) x,l[j]?=some x->∃vr,w.cell? ⟨g,o+j,none⟩=some vr/\RowV x N w vr
theorem Stk.keep {K:Value->Prop} {w w':World} {g:Nat} (h:Stk K w g) (I:Below w.heap.size w w'):Stk K w' g:=⟨mI h.1 I.size,λi v J=>h.2 i v ((I.cell (p:=⟨g,i,none⟩) h.1).symm.trans J)⟩
theorem GridL.keep {l:List (Nat->Rat)} {N:Nat} {w w':World} {v:Value} (h:GridL l N w v) (I:Below w.heap.size w w'):GridL l N w' v:=by
 rcases h with h |⟨g,o,cap,e,hg,U,V⟩
 ·exact .inl h
 ·refine .inr ⟨g,o,cap,e,mI hg I.size,U.keep I,λj x O=>?_⟩
  obtain⟨vr,J,M⟩:=V j x O;exact⟨vr,(I.cell (p:=⟨g,o+j,none⟩) hg).trans J,M.keep I⟩
theorem GridL.val {l:List (Nat->Rat)} {N:Nat} {w:World} {v:Value} (h:GridL l N w v):∃p c,v=.slice p l.length c:=by
 rcases h with⟨rfl,h⟩ |⟨g,o,cap,e,_⟩
 ·exact h
 ·exact⟨_,_,e⟩
def OwnG (l:List (Nat->Rat)) (N:Nat) (w:World) (B:Nat) (v:Value):Prop:=∃xs,OwnK SliceV w B 30 1 v l.length xs/\∀(j:Nat) x,l[j]?=some x->∃vr,xs[j]?=some vr/\RowV x N w vr
theorem OwnG.nil (N:Nat) (w:World) (B:Nat):OwnG [] N w B (.slice none 0 0):=⟨[],OwnK.nil _ _ _ _ _,λj x I=>by simp at I⟩
theorem OwnG.keep {l:List (Nat->Rat)} {N:Nat} {w w':World} {B:Nat} {v:Value} (h:OwnG l N w B v) (I:Below w.heap.size w w'):OwnG l N w' B v:=by
 obtain⟨U,J,M⟩:=h;exact⟨U,J.keep I,λj x O=>by obtain⟨vr,e,hr⟩:=M j x O;exact⟨vr,e,hr.keep I⟩⟩
theorem I32.grownS {w w':World} {B E J n:Nat} {v:Value} {M:List Value} (h:OwnK SliceV w B E J v n M) (hg:w.grownBy w' v.ownBlock):I32 w w':=I32.grown (K:=SliceV) (λ_ I=>by obtain⟨p,n,c,e⟩:=I;cases e) h.2 hg
theorem OwnG.push {l:List (Nat->Rat)} {N:Nat} {W w':World} {B:Nat} {v Y:Value} {J:List Value} (M:OwnK SliceV W B 30 1 v l.length J) (Z:∀(j:Nat) x,l[j]?=some x->∃vr,J[j]?=some vr/\RowV x N W vr)
  {f:Nat->Rat} {vf:Value} (hf:RowV f N W vf) (h3:OwnK SliceV w' B 30 1 Y (l.length+1) (J++[vf])) (hg:W.grownBy w' v.ownBlock):OwnG (l++[f]) N w' B Y:=by
 have O:=I32.grownS M hg;have hl:J.length=l.length:=by have:=M.1.1;omega
 have V:∀(x:Nat->Rat) vr,RowV x N W vr->RowV x N w' vr:=λx vr h=>h.grown (λR e=>M.2 R e) hg O
 refine⟨J++[vf],by rw[List.length_append];exact h3,λj x I=>?_⟩;by_cases hj:j<l.length
 ·rw[List.getElem?_append_left hj]at I
  obtain⟨vr,e,hr⟩:=Z j x I;exact⟨vr,N9 e,V _ _ hr⟩
 ·rw[List.getElem?_append_right (by omega)]at I
  have U:j=l.length:=by
   rcases Nat.eq_zero_or_pos (j - l.length)with h|h
   ·omega
   ·rw[List.getElem?_eq_none (by rw[List.length_singleton];omega)]at I;cases I
  subst U;rw[Nat.sub_self]at I;injection I with I
  subst I;exact⟨vf,by rw[List.getElem?_append_right (by omega),hl,Nat.sub_self];rfl,V _ _ hf⟩
structure GRow (l:List (Nat->Rat)) (N:Nat) (w:World) (g:Nat):Prop where
 stk:Stk SliceV w g
 free:∀i,w.frozen? ⟨g,i,none⟩=false
 val:∀(j:Nat) x,l[j]?=some x->∃vr,w.cell? ⟨g,j,none⟩=some vr/\RowV x N w vr
theorem OwnG.row {l:List (Nat->Rat)} {N:Nat} {w:World} {B:Nat} {v:Value} (h:OwnG l N w B v):(l=[]/\v=.slice none 0 0)∨∃g cap,v=.slice (some ⟨g,0,none⟩) l.length cap/\l.length<=cap/\cap<=9223372036854775807/\B<=g/\g<w.heap.size/\GRow l N w g:=by
 obtain⟨xs,J,V⟩:=h;rcases J.1.2 with⟨I,U⟩ |⟨g,cap,cs,I,hB,hg,hn,M,Y,_⟩
 ·exact .inl ⟨List.eq_nil_of_length_eq_zero U,I⟩
 ·right
  have O:=J.2 g (by rw[I];rfl);subst I;refine⟨g,cap,rfl,hn,by simp only[maxLen]at M;omega,hB,O.1,⟨O,λi=>Blk.free_ hg i,λj x Z=>?_⟩⟩;obtain⟨vr,e,hr⟩:=V j x Z;exact⟨vr,Aq J.1 e,hr⟩
theorem OwnG.gl {l:List (Nat->Rat)} {N:Nat} {w:World} {B:Nat} {v:Value} (h:OwnG l N w B v):GridL l N w v:=by
 rcases h.row with⟨rfl,rfl⟩ |⟨g,cap,rfl,_,_,_,J,I⟩
 ·exact .inl ⟨rfl,_,_,rfl⟩
 ·exact .inr ⟨g,0,cap,rfl,J,I.stk,λj x M=>by rw[Nat.zero_add];exact I.val j x M⟩
theorem Xq {w:World} {B E g n cap i:Nat} {M:List Value} (h:w.ownsRow B E 1 (.slice (some ⟨g,0,none⟩) n cap) n M) (u:Value):(w.setCell ⟨g,i,none⟩ u).ownsRow B E 1 (.slice (some ⟨g,0,none⟩) n cap) n (M.set i u):=by
 obtain⟨O,h⟩:=h;rcases h with⟨V,_⟩ |⟨g',J,I,U,hB,hg,hn,Y,Z,ht⟩
 ·cases V
 ·cases U
  refine⟨by rw[List.length_set];exact O,.inr ⟨g,cap,I.setIfInBounds i u,rfl,hB,?_,hn,Y,by rw[Array.size_setIfInBounds];exact Z,?_⟩⟩
  ·simp[World.setCell,Array.getElem?_modify,hg]
  ·rw[Array.toList_setIfInBounds,List.take_set,ht]
theorem OwnG.set {l:List (Nat->Rat)} {N:Nat} {w:World} {B i:Nat} {f:Nat->Rat} {g cap:Nat} {p:Option Addr} {c:Nat} (h:OwnG l N w B (.slice (some ⟨g,0,none⟩) l.length cap)) (hi:i<l.length) (hf:RowV f N w (.slice p N c)):
  OwnG (l.set i f) N (w.setCell ⟨g,i,none⟩ (.slice p N c)) B (.slice (some ⟨g,0,none⟩) l.length cap):=by
 obtain⟨U,O,Z⟩:=h;have hl:U.length=l.length:=by have:=O.1.1;omega
 have I:=O.2 g rfl;have hg:=Ai w g i (.slice p N c);have M:I32 w (w.setCell ⟨g,i,none⟩ (.slice p N c)):=I32.putU (I.imp λ_=>SliceV.notU32) i _;refine⟨U.set i (.slice p N c),?_,λj x J=>?_⟩
 ·rw[List.length_set]
  refine⟨Xq O.1 _,λY e=>?_⟩;have V:g=Y:=by simpa [Value.ownBlock] using e
  subst V;exact Bc I _ _ ⟨_,_,_,rfl⟩
 ·by_cases hj:j=i
  ·subst hj
   rw[List.getElem?_set_self hi]at J;injection J with J
   subst J;exact⟨_,List.getElem?_set_self (by omega),hf.but I hg M⟩
  ·rw[List.getElem?_set_ne (λe=>hj e.symm)]at J
   obtain⟨vr,e,hr⟩:=Z j x J;exact⟨vr,by rw[List.getElem?_set_ne (λe=>hj e.symm)];exact e,hr.but I hg M⟩
end
theorem jD (a b:Nat):∃x y:Int,(a:Int)*x+b*y=(Nat.gcd a b:Int):=by
 induction a,b using Nat.gcd.induction with
 | H0 n=>exact⟨0,1,by simp⟩
 | H1 m n hm ih=>
  obtain⟨x,y,h⟩:=ih;refine⟨y - (n / m:Nat)*x,x,?_⟩;rw[Nat.gcd_rec m n,<-h]
  have e:(n:Int)=((n % m:Nat):Int)+m*((n / m:Nat):Int):=by
   have:=Nat.mod_add_div n m
   exact_mod_cast this.symm
  conv=>lhs;rw[e]
  rw[Int.mul_sub,Int.add_mul,<-Int.mul_assoc];grind
theorem Kx (n s:Nat) (hn:0<n) (h:Nat.gcd s n=1):∃r,1<=r/\r<=n/\Nat.gcd r n=1/\r*s % n=1 % n:=by
 obtain⟨x,y,e⟩:=jD s n;rw[h]at e;have U:=Int.emod_nonneg x (show(n:Int)≠0 by omega);have V:=Int.emod_lt_of_pos x (show(0:Int)<n by omega)
 have M:∀r:Nat,(r:Int) % n=x % n->r*s % n=1 % n:=by
  intro r hr
  have O:((r*s:Nat):Int) % n=((1:Nat):Int) % n:=by
   rw[show((r*s:Nat):Int)=(r:Int)*s by push_cast;rfl,Int.mul_emod,hr,<-Int.mul_emod,<-Int.add_mul_emod_self_left (x*s) n y,Int.mul_comm x,e]
  exact_mod_cast O
 have I:∀r:Nat,r*s % n=1 % n->Nat.gcd r n=1:=by
  intro r hr;have O:Nat.gcd r n∣r*s % n:=(Nat.dvd_mod_iff (Nat.gcd_dvd_right r n)).2 (Nat.dvd_trans (Nat.gcd_dvd_left r n) (Nat.dvd_mul_right r s));rw[hr]at O;exact Nat.dvd_one.1 ((Nat.dvd_mod_iff (Nat.gcd_dvd_right r n)).1 O)
 by_cases h0:(x % n).toNat=0
 ·have J:=M n (by rw[Int.emod_self];omega)
  exact⟨n,hn,Nat.le_refl _,I n J,J⟩
 ·have J:=M (x % n).toNat (by rw[Int.toNat_of_nonneg U,Int.emod_emod])
  exact⟨(x % n).toNat,by omega,by omega,I _ J,J⟩
def Az (n s k:Nat):Nat:=s*(k / n) % n*n+s*(k % n) % n
def E4 (n k:Nat):Bool:=Nat.gcd (Nat.gcd (k / n) (k % n)) n==1
def pun (n s:Nat):Bool:=Nat.gcd s n==1
def Cm (n:Nat) (l:List Nat) (k:Nat):Bool:=l.any λa=>(List.range n).any λi=>pun n (i+1)&&Az n (i+1) a==k
def pts (n:Nat):Nat->List Nat
 | 0=>[]
 | k+1=>if E4 n k && !Cm n (pts n k) k then pts n k++[k]else pts n k
theorem Cn (n k:Nat):pts n (k+1)=if E4 n k && !Cm n (pts n k) k then pts n k++[k]else pts n k:=rfl
theorem B6 (n k:Nat):(pts n k).length<=k:=by
 induction k with
 | zero=>exact Nat.le_refl _
 | succ k ih=>
  rw[Cn];split
  ·rw[List.length_append];simp;exact ih
  ·omega
def Fj (n k:Nat):Bool:=(List.range n).all λi=>!pun n (i+1)||decide (k<=Az n (i+1) k)
theorem C6 {n:Nat} (hn:0<n) (s k:Nat):Az n s k / n=s*(k / n) % n:=by
 unfold Az;rw[Nat.mul_comm,Nat.mul_add_div hn,Nat.div_eq_of_lt (Nat.mod_lt _ hn),Nat.add_zero]
theorem C7 (n s k:Nat):Az n s k % n=s*(k % n) % n:=by
 unfold Az;rw[Nat.mul_comm,Nat.mul_add_mod,Nat.mod_mod]
theorem Su {n:Nat} (hn:0<n) (s k:Nat):Az n s k<n*n:=by
 have I:=Nat.mod_lt (s*(k / n)) hn;have J:=Nat.mod_lt (s*(k % n)) hn;unfold Az
 calc s*(k / n) % n*n+s*(k % n) % n<s*(k / n) % n*n+n:=by omega
  _=(s*(k / n) % n+1)*n:=by rw[Nat.add_mul,Nat.one_mul]
  _<=n*n:=Nat.mul_le_mul_right _ I
theorem Fz {n:Nat} (hn:0<n) (s t k:Nat):Az n s (Az n t k)=Az n (s*t) k:=by
 have I:=C6 hn t k;have J:=C7 n t k;unfold Az at I J ⊢;rw[I,J];rw[Nat.mul_mod_mod,Nat.mul_mod_mod,<-Nat.mul_assoc,<-Nat.mul_assoc]
theorem Es {n s t:Nat} (h:s % n=t % n) (k:Nat):Az n s k=Az n t k:=by
 unfold Az;rw[Nat.mul_mod s,h,<-Nat.mul_mod,Nat.mul_mod s (k % n),h,<-Nat.mul_mod]
theorem Ko {n k:Nat} (I:k<n*n):Az n 1 k=k:=by
 have hn:0<n:=by
  rcases Nat.eq_zero_or_pos n with h|h
  ·subst h;simp at I
  ·exact h
 unfold Az;rw[Nat.one_mul,Nat.one_mul,Nat.mod_mod,Nat.mod_eq_of_lt (Nat.div_lt_of_lt_mul I),Nat.mul_comm,Nat.div_add_mod]
theorem Jd {n s t:Nat} (I:pun n s=true) (J:pun n t=true):pun n (s*t)=true:=by
 unfold pun at *;simp only[beq_iff_eq]at *;exact Nat.Coprime.mul_left I J
theorem Ee {n s:Nat} (hn:0<n) (J:pun n s=true):∃r,1<=r/\r<=n/\pun n r=true/\r % n=s % n:=by
 unfold pun at *;simp only[beq_iff_eq]at *;have I:Nat.gcd (s % n) n=1:=by rw[<-Nat.gcd_rec,Nat.gcd_comm];exact J
 by_cases h0:s % n=0
 ·rw[h0,Nat.gcd_zero_left]at I
  exact⟨n,hn,Nat.le_refl _,by rw[Nat.gcd_self];exact I,by rw[Nat.mod_self,h0]⟩
 ·exact⟨s % n,by omega,Nat.le_of_lt (Nat.mod_lt _ hn),I,Nat.mod_mod _ _⟩
theorem bF {n s:Nat} (hn:0<n) (U:pun n s=true):∃r,1<=r/\r<=n/\pun n r=true/\r*s % n=1 % n:=by
 obtain⟨r,I,J,M,O⟩:=Kx n s hn (by simpa [pun] using U);exact⟨r,I,J,by simp[pun,M],O⟩
theorem Hh {n s k:Nat} (I:k<n*n) (V:pun n s=true):∃r,1<=r/\r<=n/\pun n r=true/\Az n r (Az n s k)=k:=by
 have hn:0<n:=by
  rcases Nat.eq_zero_or_pos n with h|h
  ·subst h;simp at I
  ·exact h
 obtain⟨r,J,M,O,U⟩:=bF hn V;exact⟨r,J,M,O,by rw[Fz hn,Es U,Ko I]⟩
theorem bD {n s k:Nat} (hn:0<n) (V:pun n s=true) (U:E4 n k=true):E4 n (Az n s k)=true:=by
 unfold E4 pun at *;simp only[beq_iff_eq]at *;rw[C6 hn,C7 n];generalize k / n=u at *;generalize k % n=v at *;refine Nat.dvd_one.1 ?_
 have O:∀g,g∣s*u % n->g∣s*v % n->g∣n->g∣1:=by
  intro g I J M;have I:=(Nat.dvd_mod_iff M).1 I;have J:=(Nat.dvd_mod_iff M).1 J
  have hg:Nat.Coprime g s:=by
   have:Nat.gcd g s∣Nat.gcd s n:=Nat.dvd_gcd (Nat.gcd_dvd_right g s) (Nat.dvd_trans (Nat.gcd_dvd_left g s) M);rw[V]at this;exact Nat.dvd_one.1 this
  have I:=Nat.Coprime.dvd_of_dvd_mul_left hg I;have J:=Nat.Coprime.dvd_of_dvd_mul_left hg J;rw[<-U];exact Nat.dvd_gcd (Nat.dvd_gcd I J) M
 exact O _ (Nat.dvd_trans (Nat.gcd_dvd_left _ _) (Nat.gcd_dvd_left _ _)) (Nat.dvd_trans (Nat.gcd_dvd_left _ _) (Nat.gcd_dvd_right _ _)) (Nat.gcd_dvd_right _ _)
theorem Cl {n k:Nat}:Fj n k=true↔∀s,1<=s->s<=n->pun n s=true->k<=Az n s k:=by
 unfold Fj;simp only[List.all_eq_true,List.mem_range,Bool.or_eq_true,Bool.not_eq_true',decide_eq_true_eq];constructor
 ·intro h s J M I
  have:=h (s - 1) (by omega);rw[show s - 1+1=s by omega,I]at this
  simpa using this
 ·intro h i O
  cases hu:pun n (i+1)with
  | false=>exact .inl rfl
  | true=>exact .inr (h (i+1) (by omega) (by omega) hu)
theorem Ie {n:Nat} {l:List Nat} {k:Nat}:Cm n l k=true↔∃a,a∈l/\∃s,1<=s/\s<=n/\pun n s=true/\Az n s a=k:=by
 unfold Cm;simp only[List.any_eq_true,List.mem_range,Bool.and_eq_true,beq_iff_eq];constructor
 ·rintro⟨a,I,i,U,J,e⟩
  exact⟨a,I,i+1,by omega,by omega,J,e⟩
 ·rintro⟨a,I,s,M,O,J,e⟩
  exact⟨a,I,s - 1,by omega,by rw[show s - 1+1=s by omega];exact J,by rw[show s - 1+1=s by omega];exact e⟩
theorem Gn {n:Nat}:∀{k a:Nat},a∈pts n k->a<k:=by
 intro k;induction k with
 | zero=>intro a h;simp[pts]at h
 | succ k ih=>
  intro a h;rw[Cn]at h;split at h
  ·rcases List.mem_append.1 h with h|h
   ·have:=ih h;omega
   ·simp at h;omega
  ·have:=ih h;omega
theorem Kp {n a:Nat} {k m:Nat} (I:k<=m) (h:a∈pts n k):a∈pts n m:=by
 induction m with
 | zero=>have:k=0:=by omega
         subst this;exact h
 | succ m ih=>
  by_cases e:k=m+1
  ·subst e;exact h
  ·have:=ih (by omega)
   rw[Cn];split
   ·exact List.mem_append_left _ this
   ·exact this
theorem Ig {n:Nat}:∀{k a:Nat},a∈pts n k->E4 n a=true/\Cm n (pts n a) a=false:=by
 intro k;induction k with
 | zero=>intro a h;simp[pts]at h
 | succ k ih=>
  intro a h;rw[Cn]at h;split at h
  ·rename_i hc
   rcases List.mem_append.1 h with h|h
   ·exact ih h
   ·simp at h hc;subst h;exact hc
  ·exact ih h
theorem Sy {n k:Nat} (I:E4 n k=true) (J:Cm n (pts n k) k=false):k∈pts n (k+1):=by
 rw[Cn];rw[if_pos (by rw[I,J];rfl)];simp
theorem Un {n:Nat} (hn:0<n):∀k,k<n*n->E4 n k=true->(Cm n (pts n k) k=false↔Fj n k=true):=by
 intro k;induction k using Nat.strongRecOn with
 | _ k ih=>
  intro hk bA;constructor
  ·intro h
   rw[Cl];intro s h1 h2 hu;rcases Nat.lt_or_ge (Az n s k) k with hlt|aD
   ·exfalso
    have hP:∃m,∃t,1<=t/\t<=n/\pun n t=true/\Az n t k=m:=⟨_,s,h1,h2,hu,rfl⟩
    have Y:∀m,(∃t,1<=t/\t<=n/\pun n t=true/\Az n t k=m)->m<k->False:=by
     intro m;induction m using Nat.strongRecOn with
     | _ m ihm=>
      rintro⟨t,t1,t2,tu,e⟩ hm;have aK:m<n*n:=by omega
      by_cases O:Fj n m=true
      ·have Z:E4 n m=true:=by rw[<-e];exact bD hn tu bA
       have aN:=(ih m hm aK Z).2 O;have V:=Kp (m:=k) hm (Sy Z aN);obtain⟨r,J,M,I,re⟩:=Hh (k:=k) hk tu;have:Cm n (pts n k) k=true:=Ie.2 ⟨m,V,r,J,M,I,by rw[<-e];exact re⟩;rw[this]at h;cases h
      ·rw[Cl]at O
       have:∃r,1<=r/\r<=n/\pun n r=true/\Az n r m<m:=by
        refine Classical.byContradiction λaX=>O λr J M I=>?_
        exact Nat.le_of_not_lt λhlt=>aX ⟨r,J,M,I,hlt⟩
       obtain⟨r,J,M,I,U⟩:=this;obtain⟨q,q1,q2,qu,qe⟩:=Ee hn (Jd I tu);refine ihm (Az n r m) U ⟨q,q1,q2,qu,?_⟩ (by omega);rw[Es qe,<-Fz hn,e]
    exact Y _ ⟨s,h1,h2,hu,rfl⟩ hlt
   ·exact aD
  ·intro O
   cases h:Cm n (pts n k) k with
   | false=>rfl
   | true=>
    exfalso;obtain⟨a,ha,s,s1,s2,su,e⟩:=Ie.1 h;have cB:=Gn ha;obtain⟨r,J,M,I,re⟩:=Hh (k:=a) (by omega) su;rw[e]at re;have:=Cl.1 O r J M I;omega
theorem B5 {n:Nat} (hn:0<n):∀k,k<=n*n->pts n k=(List.range k).filter λa=>E4 n a&&Fj n a:=by
 intro k;induction k with
 | zero=>intro _;rfl
 | succ k ih=>
  intro I;rw[List.range_succ,List.filter_append,<-ih (by omega)];rw[Cn];cases hok:E4 n k with
  | false=>simp[hok]
  | true=>
   have h:=Un hn k (by omega) hok;cases hl:Fj n k with
   | false=>
    have:Cm n (pts n k) k=true:=by
     cases hs:Cm n (pts n k) k with
     | true=>rfl
     | false=>rw[h.1 hs]at hl;cases hl
    simp[hok,hl,this]
   | true=>
    have:Cm n (pts n k) k=false:=h.2 hl;simp[hok,hl,this]
theorem Q9 {n a b s:Nat} (I:a∈pts n (n*n)) (J:b∈pts n (n*n)) (M:pun n s=true) (e:Az n s a=b):a=b:=by
 have hn:0<n:=by
  rcases Nat.eq_zero_or_pos n with h|h
  ·subst h;simp[pts]at I
  ·exact h
 rw[B5 hn _ (Nat.le_refl _)]at I J;simp only[List.mem_filter,List.mem_range,Bool.and_eq_true]at I J;obtain⟨s',s1,s2,su,se⟩:=Ee hn M;have O:=Cl.1 I.2.2 s' s1 s2 su;rw[Es se,e]at O;obtain⟨r,U,V,Z,Y⟩:=Hh (k:=a) I.1 M;rw[e]at Y;have h2:=Cl.1 J.2.2 r U V Z;omega
theorem Um {n s t k:Nat} (hn:0<n) (O:E4 n k=true) (e:Az n s k=Az n t k):s % n=t % n:=by
 have e1:s*(k / n) % n=t*(k / n) % n:=by rw[<-C6 hn,<-C6 hn,e]
 have e2:s*(k % n) % n=t*(k % n) % n:=by rw[<-C7 n,<-C7 n,e]
 unfold E4 at O;simp only[beq_iff_eq]at O;generalize k / n=u at *;generalize k % n=v at *;obtain⟨x,y,h1⟩:=jD u v;obtain⟨z,q,V⟩:=jD (Nat.gcd u v) n;rw[O]at V
 have I:((n:Int))∣(s:Int)*u - t*u:=by
  apply Int.dvd_of_emod_eq_zero;rw[Int.sub_emod];have:((s:Int)*u) % n=((t:Int)*u) % n:=by exact_mod_cast e1
  rw[this];simp
 have J:((n:Int))∣(s:Int)*v - t*v:=by
  apply Int.dvd_of_emod_eq_zero;rw[Int.sub_emod];have:((s:Int)*v) % n=((t:Int)*v) % n:=by exact_mod_cast e2
  rw[this];simp
 obtain⟨c1,I⟩:=I;obtain⟨c2,J⟩:=J
 have aX:(s:Int) - t=n*((c1*x+c2*y)*z+(s - t)*q):=by
  have Y:((s:Int) - t)*u=n*c1:=by rw[Int.sub_mul];exact I
  have Z:((s:Int) - t)*v=n*c2:=by rw[Int.sub_mul];exact J
  have h:((s:Int) - t)*(Nat.gcd u v:Int)=n*(c1*x+c2*y):=by
   rw[<-h1,Int.mul_add,<-Int.mul_assoc,<-Int.mul_assoc,Y,Z,Int.mul_add,Int.mul_assoc,Int.mul_assoc]
  have U:((s:Int) - t)*1=n*(c1*x+c2*y)*z+n*((s - t)*q):=by
   have M:((Nat.gcd u v:Nat):Int)*z+n*q=1:=by exact_mod_cast V
   rw[<-M,Int.mul_add,<-Int.mul_assoc,h];congr 1;rw[Int.mul_left_comm]
  rw[Int.mul_one]at U;refine U.trans ?_;rw[Int.mul_add (n:Int) ((c1*x+c2*y)*z),Int.mul_assoc]
 have:(s:Int) % n=(t:Int) % n:=by
  rw[show(s:Int)=t+n*((c1*x+c2*y)*z+(s - t)*q)by omega,Int.add_mul_emod_self_left]
 exact_mod_cast this
def Pv (f:Nat->Nat×Int) (k:Nat) (x:Nat×Int):Nat->Nat×Int:=λi=>if i=k then x else f i
def Ez (n l:Nat) (c:Int) (L:List Nat):Nat->(Nat->Nat×Int)->(Nat->Nat×Int)
 | 0,f=>f
 | j+1,f=>Pv (Ez n l c L j f) (Az n l (L.getD j 0)) (j,c)
def Bb (n:Nat) (D:Int) (L:List Nat):Nat->(Nat->Nat×Int)
 | 0=>λ_=>(0,0)
 | l+1=>if pun n (l+1)then Ez n (l+1) (Pl.kroP D (l+1)) L L.length (Bb n D L l)else Bb n D L l
def TabOk (m:Nat) (f:Nat->Nat×Int):Prop:=∀k,f k=(0,0)∨(f k).1<m/\((f k).2=0∨(f k).2=1∨(f k).2=-1)
theorem TabOk.set {m:Nat} {f:Nat->Nat×Int} (h:TabOk m f) (k:Nat) (x:Nat×Int) (J:x.1<m) (I:x.2=0∨x.2=1∨x.2=-1):TabOk m (Pv f k x):=by
 intro i;unfold Pv;split
 ·exact .inr ⟨J,I⟩
 ·exact h i
theorem Xt {n l:Nat} {c:Int} {L:List Nat} (I:c=0∨c=1∨c=-1) {f:Nat->Nat×Int} (h:TabOk L.length f):∀j,j<=L.length->TabOk L.length (Ez n l c L j f):=by
 intro j;induction j with
 | zero=>intro _;exact h
 | succ j ih=>intro J;exact(ih (by omega)).set _ _ (by exact J) I
theorem Fi {n:Nat} {D:Int} {L:List Nat} (I:∀l,Pl.kroP D l=0∨Pl.kroP D l=1∨Pl.kroP D l=-1):∀l,TabOk L.length (Bb n D L l):=by
 intro l;induction l with
 | zero=>intro k;exact .inl rfl
 | succ l ih=>
  unfold Bb;split
  ·exact Xt (I _) ih _ (mG _)
  ·exact ih
abbrev M4:=Int×Int×Int×Int
theorem Sg (a b:Int) (p:Nat->Int) (K:Nat) (I:∀j,(p j).natAbs<=K) (j:Nat):(lin a b p j).natAbs<=(a.natAbs+b.natAbs)*K:=by
 unfold lin
 have J:(if 0<j then a*p (j - 1)else 0).natAbs<=a.natAbs*K:=by
  split
  ·rw[Int.natAbs_mul];exact Nat.mul_le_mul_left _ (I _)
  ·simp
 have M:(b*p j).natAbs<=b.natAbs*K:=by rw[Int.natAbs_mul];exact Nat.mul_le_mul_left _ (I _)
 have O:=Int.natAbs_add_le (if 0<j then a*p (j - 1)else 0) (b*p j);rw[Nat.add_mul];omega
theorem eT (i:Nat) (a b c d:Int) (I:a.natAbs+b.natAbs<=2) (J:c.natAbs+d.natAbs<=2) (k:Nat):∀j,(mv i a b c d k j).natAbs<=2 ^ k:=by
 induction k with
 | zero=>
  intro j;show(if j=0 then(1:Int)else 0).natAbs<=1;split <;> simp
 | succ k ih=>
  intro j;rw[mv,Nat.pow_succ,Nat.mul_comm (2 ^ k)];split
  ·exact mH (Sg a b _ _ ih j) (Nat.mul_le_mul_right _ I)
  ·exact mH (Sg c d _ _ ih j) (Nat.mul_le_mul_right _ J)
theorem L7 (a b x:Int) (p:Nat->Int) (j:Nat):lin a b (λj=>x*p j) j=x*lin a b p j:=by
 unfold lin;split <;> grind
def L8 (n w:Nat) (L:List Nat) (f:Nat->Nat×Int) (i j:Nat) (g:M4):Nat->Int:=
 let u:Int:=(L.getD j 0 / n:Nat)
 let v:Int:=(L.getD j 0 % n:Nat)
 let a:=g.1 % n
 let b:=g.2.1 % n
 let c:=g.2.2.1 % n
 let d:=g.2.2.2 % n
 let p:=f (((u*a+v*c) % n).toNat*n+((u*b+v*d) % n).toNat)
 λk=>if p.2=0 then 0 else if k % L.length=p.1/\k / L.length<=w then p.2*mv i g.1 g.2.1 g.2.2.1 g.2.2.2 w (k / L.length)else 0
theorem Ed {n w:Nat} {L:List Nat} {f:Nat->Nat×Int} {i j:Nat} {g:M4} (U:TabOk L.length f) (M:g.1.natAbs+g.2.1.natAbs<=2) (O:g.2.2.1.natAbs+g.2.2.2.natAbs<=2) (k:Nat):(L8 n w L f i j g k).natAbs<=2 ^ w:=by
 have J:∀p:Nat×Int,(p=(0,0)∨p.1<L.length/\(p.2=0∨p.2=1∨p.2=-1))->(if p.2=0 then(0:Int)else if k % L.length=p.1/\k / L.length<=w then p.2*mv i g.1 g.2.1 g.2.2.1 g.2.2.2 w (k / L.length)else 0).natAbs<=2 ^ w:=by
  intro p Y;have I:p.2.natAbs<=1:=by rcases Y with rfl |⟨_,h|h|h⟩ <;> simp[*]
  have V:=eT i g.1 g.2.1 g.2.2.1 g.2.2.2 M O w (k / L.length);split
  ·simp
  split
  ·rw[Int.natAbs_mul]
   exact mH (Nat.mul_le_mul I V) (by rw[Nat.one_mul];exact mG _)
  ·simp
 exact J _ (U _)
def gTurn:M4:=(0,-1,1,0)
def gThird:M4:=(0,-1,1,-1)
def gTwice:M4:=(-1,1,-1,0)
def Kr (n w:Nat) (L:List Nat) (f:Nat->Nat×Int) (r k:Nat):Int:=
 if r<(w+1)*L.length then(if k=r then 1 else 0)+L8 n w L f (r / L.length) (r % L.length) gTurn k
 else(if k=r - (w+1)*L.length then 1 else 0)+L8 n w L f ((r - (w+1)*L.length) / L.length) ((r - (w+1)*L.length) % L.length) gThird k+L8 n w L f ((r - (w+1)*L.length) / L.length) ((r - (w+1)*L.length) % L.length) gTwice k
theorem Rc {n w:Nat} {L:List Nat} {f:Nat->Nat×Int} (I:TabOk L.length f) (U:w<=22) (r k:Nat):(Kr n w L f r k).natAbs<=16777216:=by
 have Z:2 ^ w<=4194304:=mH (Nat.pow_le_pow_right (by decide) U) (by decide);have J:=λi j=>Ed (n:=n) (w:=w) (i:=i) (j:=j) (g:=gTurn) I (by decide) (by decide) k
 have M:=λi j=>Ed (n:=n) (w:=w) (i:=i) (j:=j) (g:=gThird) I (by decide) (by decide) k
 have O:=λi j=>Ed (n:=n) (w:=w) (i:=i) (j:=j) (g:=gTwice) I (by decide) (by decide) k
 unfold Kr;split
 ·have:=J (r / L.length) (r % L.length)
  split <;> omega
 ·have V:=M ((r - (w+1)*L.length) / L.length) ((r - (w+1)*L.length) % L.length)
  have Y:=O ((r - (w+1)*L.length) / L.length) ((r - (w+1)*L.length) % L.length);split <;> omega
def Ks (n w:Nat) (D:Int):Nat->Nat->Int:=Kr n w (pts n (n*n)) (Bb n D (pts n (n*n)) n)
def Ao (n:Nat) (D u v:Int):Nat×Int:=Bb n D (pts n (n*n)) n ((u % n).toNat*n+(v % n).toNat)
section
open Go.RowKit Tryz
theorem Wx:(prog.info? 84).map (λi=>(i.zero,i.size,i.bytes))=some (some (.agg #[.bool false,.slice none 0 0]),2,32):=by kernel_rfl
theorem W9 (n:Nat) (h:n<=1000000) (w:World):
  (Instr.makeSlice 97 (.int .i64 (n:Int)) (.int .i64 (n:Int))).run prog w=.ok (.slice (some ⟨w.heap.size,0,none⟩) n n) (w.alloc (.cells (madeCells #[.bool false,.slice none 0 0] (n*2)) 84)):=by
 obtain⟨i,O,I,J,M⟩:=info_parts Wx;have hr:=run_make (P:=prog) w 97 84 i _ underlying97 O I .i64 .i64 n n (by omega) (Int.le_refl _) (by rw[M];omega) (by omega);rw[Int.toNat_natCast,J]at hr;exact hr
theorem iB {n i:Nat} {v:Value} (h:(madeCells #[.bool false,.slice none 0 0] n)[i]?=some v):NotInt v:=by
 unfold madeCells at h;simp only[Array.getElem?_map,Array.getElem?_range]at h;split at h
 ·simp only[Option.map_some]at h
  injection h with h
  rw[<-h];have I:i % 2=0∨i % 2=1:=by omega
  show NotInt ((#[.bool false,.slice none 0 0]:Array Value)[i % 2]!);rcases I with I|I <;> rw[I] <;> first|exact NotInt.bool _|exact NotInt.slice _ _ _
 ·cases h
theorem ZRow.made (f:Nat->Int) (w:World) (n:Nat):ZRow f (w.alloc (.cells (madeCells #[.bool false,.slice none 0 0] (n*2)) 84)) w.heap.size n 0:=by
 have I:=Blk.new w 84 (madeCells #[.bool false,.slice none 0 0] (n*2));refine⟨Sts.of I ?_,λi _=>I.free_ i,λi J=>?_,λj M=>absurd M (Nat.not_lt_zero _)⟩
 ·intro v O
  obtain⟨i,J⟩:=Array.getElem?_of_mem O;exact iB J
 ·rw[I.cell_ i,Array.getElem?_eq_getElem (by rw[size_madeCells];exact J)];rfl
def dH (w:World) (R:Nat) (z:Int):Prop:=∃s p n c,Blk w R 84 #[.bool s,.slice p n c]/\Zs w s p n c z
theorem Cr {g:Nat} {w w':World} (h:Below g w w') {R i j:Nat} (I:g<=R) {v0 v1:Value}:Below g w ((w'.setCell ⟨R,i,none⟩ v0).setCell ⟨R,j,none⟩ v1):=
 (h.setCell (p:=⟨R,i,none⟩) I v0).setCell (p:=⟨R,j,none⟩) I v1
theorem ZRow.var {f:Nat->Int} {w:World} {g N k R:Nat} {s:Bool} {p:Option Addr} {n c:Nat} {s':Bool} {p':Option Addr} {n' U:Nat} (h:ZRow f w g N k) (hR:Blk w R 84 #[.bool s',.slice p' n' U]) (O:g≠R):ZRow f ((w.setCell ⟨R,0,none⟩ (.bool s)).setCell ⟨R,1,none⟩ (.slice p n c)) g N k:=by
 have hg:=Jq w R 0 1 (.bool s) (.slice p n c);have I:((w.setCell ⟨R,0,none⟩ (.bool s)).setCell ⟨R,1,none⟩ (.slice p n c)).heap[g]?=w.heap[g]?:=hg.block g h.sts.1 (λe=>by injection e with e;exact O e);have J:=I32.put2 (Sts.box hR) 0 1 (.bool s) (.slice p n c) (NotInt.bool _);refine⟨⟨mI h.sts.1 hg.size,λi v hv=>h.sts.2 i v ((World.cell?_of_block (a:=⟨g,i,none⟩) I).symm.trans hv)⟩,λi M=>(World.frozen?_of_block (a:=⟨g,i,none⟩) I).trans (h.free i M),λi M=>by rw[World.cell?_of_block (a:=⟨g,i,none⟩) I];exact h.has i M,λj hj=>?_⟩;obtain⟨s,p,n,c,V,Y,Z⟩:=h.val j hj;exact⟨s,p,n,c,(World.cell?_of_block (a:=⟨g,_,none⟩) I).trans V,(World.cell?_of_block (a:=⟨g,_,none⟩) I).trans Y,Z.i32 J⟩
theorem Ov (v:Value) (m:Nat) (f:Nat->Int) (s:Bool) (p:Option Addr) (n c:Nat) (a:Int) (t:Bool) (q:Option Addr) (m' d:Nat) (b:Int) (w:World) (h:ZL f w v m) (ha:Zs w s p n c a) (I:Zs w t q m' d b) (h0:0<m) (hm:m<=1000) (hn:n<=10) (nK:m'<=10) (hf:∀j,nd (f j).natAbs<=1000) (hz:∀j,m<=j->f j=0):
  Calls prog 145 #[v,.agg #[.bool s,.slice p n c],.agg #[.bool t,.slice q m' d]] w λe w'=>(∃g,e=.returned (.slice (some ⟨g,0,none⟩) ((m+1:Nat)) ((m+1:Nat)))/\w.heap.size<=g/\ZRow (lin a b f) w' g (m+1) (m+1))/\Below w.heap.size w w':=by
 obtain⟨g1,o1,l1,rfl,gY,r1⟩:=h.resolve_left (λh=>by omega);have hU:=Kh r1;have HF:=Kh hf;have nH:=Kh hz;have HA:=Kh ha;have HB:=Kh I;obtain⟨N,hN⟩:∃N,m+1=N:=⟨_,rfl⟩
 have oP:(m:Int)+1=(N:Nat):=by omega
 have nJ:=W9 N (by omega);rw[hN];clear h r1 hf ha I hz;go_enter func145,ntmps145
 go_wp2_with fail
 obtain⟨w0,dX⟩:∃w0,(w.alloc (.cells #[.bool s,.slice p n c] 84)).alloc (.cells #[.bool t,.slice q m' d] 84)=w0:=⟨_,rfl⟩
 obtain⟨X0,X1,bC⟩:=Oc w #[.bool s,.slice p n c] 84 #[.bool t,.slice q m' d] 84;rw[dX]at X0 X1 bC;have dE:w0.heap.size=w.heap.size+1+1:=by rw[<-dX];simp
 have dC:=ZRow.made (lin a b f) w0 N;obtain⟨wn,eP⟩:∃wn,w0.alloc (.cells (madeCells #[.bool false,.slice none 0 0] (N*2)) 84)=wn:=⟨_,rfl⟩
 have gX:Below w0.heap.size w0 wn:=eP▸(Below.refl _ _).alloc (mG _) _;rw[eP]at dC;rw[dX,eP];obtain⟨gx,cX⟩:∃gx,w.heap.size=gx:=⟨_,rfl⟩
 obtain⟨gy,cY⟩:∃gy,gx+1=gy:=⟨_,rfl⟩
 obtain⟨g,hg⟩:∃g,gy+1=g:=⟨_,rfl⟩
 rw[cX,cY,hg]at dE;rw[cX]at X0 X1;rw[cY]at X1;rw[dE]at dC gX;rw[cX,cY,hg];have hY:=Kh X0;have hZ:=Kh X1;have hP:=Kh gX;have hV:=Kh dC;have mM:w.heap.size<=g:=by omega
 have mP:gx<g:=by omega
 have mQ:gy<g:=by omega
 have HW:=Kh bC;have hS:=Kh (show g1<g by omega);have HR:=Kh (λj (hj:j<m)=>ZE.keep (hU.1 j hj) bC);have hO:=Kh (HA.1.keep bC);have hQ:=Kh (HB.1.keep bC);have hW:=Kh dE;clear X0 X1 bC dX eP dC gX gY cX cY hg dE nJ hU HA HB;go_loopw [16] (λi wr=>∃k:Nat,k<=N/\i=.int .i64 k/\ZRow (lin a b f) wr g N k/\Below g w0 wr) (λi _=>N - (intOf i).toNat)
 case atStart=>exact⟨0,Nat.zero_le _,rfl,hV.1,hP.1⟩
 case round=>
  obtain⟨k,hk,rfl,gL,cV⟩:=hrel;obtain⟨w1,rfl⟩:∃w1:World,w1=wr:=⟨_,rfl⟩
  have aN:=Kh gL;have cC:=Kh cV;clear gL cV hP hV;by_cases hlt:k<N
  ·have oR:(k:Int)<(N:Int):=by omega
   go_wp2_with fail
   refine(Gc 0 w1 (by omega) (by omega)).mono ?_;rintro e w2 ⟨⟨s3,p3,n3,c3,rfl,mR⟩,aD⟩;have gN:g<w2.heap.size:=mI aN.1.sts.1 aD.size;have bG:=Kh (ZRow.keep aN.1 aD);have gA:=Kh (cC.1.trans (aD.mono (Nat.le_of_lt aN.1.sts.1)));have iL:=Kh mR;clear mR aD aN cC;go_upto_if 21 with(fail)
   obtain⟨w3,dY⟩:∃w3,w2.alloc (.cells #[.bool s3,.slice p3 n3 c3] 84)=w3:=⟨_,rfl⟩
   have aD:Below w2.heap.size w2 w3:=dY▸(Below.refl _ _).alloc (mG _) _;have J:=dY▸Blk.new w2 84 #[.bool s3,.slice p3 n3 c3];rw[dY];obtain⟨R,hR⟩:∃R,w2.heap.size=R:=⟨_,rfl⟩
   rw[hR]at J ⊢;have cT:g<R:=by omega
   have gP:=Kh (show dH w3 R 0 from⟨s3,p3,n3,c3,J,iL.1.keep aD⟩);have Y:=Kh (ZRow.keep bG.1 aD);have U:=Kh (gA.1.trans (aD.mono (Nat.le_of_lt gN)));clear dY aD J hR gN bG gA iL;obtain⟨u1,mO⟩:∃u1,(if 0<k then a*f (k - 1)else 0)=u1:=⟨_,rfl⟩
   have aX:=Kh mO;clear mO;go_cut []from 20 to 28 (λwd=>dH wd R u1/\ZRow (lin a b f) wd g N k/\Below g w0 wd)
   case first=>
    by_cases hk0:0<k
    ·obtain⟨k1,mN⟩:∃k1,k=k1+1:=⟨k - 1,by omega⟩
     have HU:=Kh (show a*f k1=u1 by rw[<-aX.1,if_pos hk0,mN,Nat.add_sub_cancel]);obtain⟨M,rfl⟩:∃M:World,M=w3:=⟨_,rfl⟩
     have bA:Below w0.heap.size w0 M:=hW.1▸U.1;obtain⟨s',p',i',c',a0,a1,hx⟩:=(HR.1 k1 (by omega)).keep bA;have HP:=Kh (show Zs M s' p' i' c' (f k1)from hx);have x0:=(hY.1.below_ U.1 mP).at_ 0 rfl;have x1:=(hY.1.below_ U.1 mP).at_ 1 rfl;have HX:=Kh (hO.1.keep bA);have HI:=Kh (show i'<=1000 by rw[<-hx.2.1];exact HF.1 k1);have cD:=Kh (λW (I:Below M.heap.size M W)=>Gw s p n c a s' p' i' c' (f k1) W (HX.1.keep I).raw (HP.1.keep I).raw (by omega) (by have:=HI.1;omega));rw[HU.1]at cD;obtain⟨s5,p5,n5,c5,J,_⟩:=gP.1;have bH:=Kh J;have oD:(k:Int) - 1=(k1:Nat):=by omega
     have oC:k1<m:=by omega
     have oB:(k1:Int)<(m:Int):=by omega
     have oS:IntKind.i64.wrap (k1:Int)=(k1:Nat):=IntWalk.i64_in _ (by omega);have nZ:(0:Int)<=(k1:Int):=by omega
     have gY:=hS.1;have oA:(0:Int)<(k:Int):=by omega
     clear hx bA HX HP mN HU aX;go_upto_region 7 with(fail)
     refine K6 (λW=>W.cell? ⟨gx,0,none⟩=some (.bool s)/\W.cell? ⟨gx,1,none⟩=some (.slice p n c)/\W.cell? ⟨g1,o1+k1*2,none⟩=some (.bool s')/\W.cell? ⟨g1,o1+k1*2+1,none⟩=some (.slice p' i' c')/\W.cell? ⟨R,0,none⟩=some (.bool s5)/\W.frozen? ⟨R,0,none⟩=false/\W.cell? ⟨R,1,none⟩=some (.slice p5 n5 c5)/\W.frozen? ⟨R,1,none⟩=false) (λW I=>⟨Au I x0,Au I x1,Au I a0,Au I a1,Au I (J.at_ 0 rfl),Ac I (by rw[(J.at_ 0 rfl)];rfl) (J.free_ 0),Au I (J.at_ 1 rfl),Ac I (by rw[(J.at_ 1 rfl)];rfl) (J.free_ 1)⟩) (λcF hHeld0=>?_);clear x0 x1 a0 a1 J;refine Al 0 ?_;refine Al 1 ?_;refine Al 2 ?_;refine Al 3 ?_;refine Al 4 ?_;refine Al 5 ?_;refine F9 6 rfl (λK hK=>?_);focus(go_simp;refine(cD.1 _ (Below.refl _ M).drew).mono ?_;rintro e w4 ⟨⟨s4,p4,n4,c4,rfl,cA⟩,bY⟩;have O:=Kh ((Below.refl _ M).drew.trans bY:Below M.heap.size M w4);have cG:=Kh cA;clear cA bY;(first|with_reducible refine hK.out _ _ ?_ (λhHeld1=>?_) |(go_wp2_with fail;with_reducible refine hK.out _ _ ?_ (λhHeld1=>?_))))
     focus((try dsimp only);exact cF.1 _ O.1)
     focus(clear hK K;(try simp only[Act.put,Br,Bt,Bs]))
     refine K5 7 rfl (λK hK=>?_);go_simp
     refine hK.out _ _ ?_;clear hK K
     (try simp only[Act.put,Br,Bt,Bs])
     all_goals go_wp2
     all_goals go_meet
     all_goals have aK:=O.1
     all_goals obtain⟨hv1,hv2⟩:=Fw (bk bH aK) cG.1
     all_goals exact⟨⟨_,_,_,_,hv1,hv2⟩,ZRow.var (ZRow.keep Y.1 aK) (bk bH aK) (Nat.ne_of_lt cT),Cr (U.1.trans (aK.mono (Nat.le_of_lt Y.1.sts.1))) (Nat.le_of_lt cT)⟩
    ·have HU:=Kh (show 0=u1 by rw[<-aX.1,if_neg hk0])
     obtain rfl:k=0:=by omega
     go_wp2;go_meet
     exact⟨HU.1▸gP.1,Y.1,U.1⟩
   case rest=>
    obtain⟨hv,hr,I⟩:=hcut;obtain⟨M,rfl⟩:∃M:World,M=wc:=⟨_,rfl⟩
    have gS:=Kh hv;have Z:=Kh hr;have V:=Kh I;clear hv hr I gP Y U;go_upto_if 32 with(fail)
    go_cut []from 29 to 40 (λwd=>dH wd R (lin a b f k)/\ZRow (lin a b f) wd g N k/\Below g w0 wd)
    case first=>
     by_cases hkm:k<m
     ·have HU:=Kh (show u1+b*f k=lin a b f k by unfold lin;rw[aX.1])
      have bA:Below w0.heap.size w0 M:=hW.1▸V.1;obtain⟨s',p',i',c',a0,a1,hx⟩:=(HR.1 k hkm).keep bA;have HP:=Kh (show Zs M s' p' i' c' (f k)from hx);have x0:=(hZ.1.below_ V.1 mQ).at_ 0 rfl;have x1:=(hZ.1.below_ V.1 mQ).at_ 1 rfl;have HX:=Kh (hQ.1.keep bA);have HI:=Kh (show i'<=1000 by rw[<-hx.2.1];exact HF.1 k);have cD:=Kh (λW (I:Below M.heap.size M W)=>Gw t q m' d b s' p' i' c' (f k) W (HX.1.keep I).raw (HP.1.keep I).raw (by omega) (by have:=HI.1;omega));obtain⟨s5,p5,n5,c5,J,bE⟩:=gS.1;have bH:=Kh J;have nG:=Kh bE
      have nF:=Kh (show n5<=2000 by
       rw[<-bE.2.1,<-aX.1];split
       ·rw[Int.natAbs_mul]
        have h1:=Cd a.natAbs (f (k - 1)).natAbs;have h2:=HF.1 (k - 1);have h3:nd a.natAbs<=10:=by rw[hO.1.2.1];exact hn
        omega
       ·simp[Du])
      have nE:=Kh (show nd (b*f k).natAbs<=2000 by
       rw[Int.natAbs_mul];have h1:=Cd b.natAbs (f k).natAbs;have h2:=HF.1 k;have h3:nd b.natAbs<=10:=by rw[hQ.1.2.1];exact nK
       omega)
      have oE:(k:Int)<(m:Int):=by omega
      have gY:=hS.1;clear hx bA HX HP aX bE;go_upto_region 9 with(fail)
      refine K6 (λW=>W.cell? ⟨gy,0,none⟩=some (.bool t)/\W.cell? ⟨gy,1,none⟩=some (.slice q m' d)/\W.cell? ⟨g1,o1+k*2,none⟩=some (.bool s')/\W.cell? ⟨g1,o1+k*2+1,none⟩=some (.slice p' i' c')/\W.cell? ⟨R,0,none⟩=some (.bool s5)/\W.frozen? ⟨R,0,none⟩=false/\W.cell? ⟨R,1,none⟩=some (.slice p5 n5 c5)/\W.frozen? ⟨R,1,none⟩=false) (λW I=>⟨Au I x0,Au I x1,Au I a0,Au I a1,Au I (J.at_ 0 rfl),Ac I (by rw[(J.at_ 0 rfl)];rfl) (J.free_ 0),Au I (J.at_ 1 rfl),Ac I (by rw[(J.at_ 1 rfl)];rfl) (J.free_ 1)⟩) (λcF hHeld0=>?_);clear x0 x1 a0 a1 J;refine Al 0 ?_;refine Al 1 ?_;refine Al 2 ?_;refine Al 3 ?_;refine Al 4 ?_;refine Al 5 ?_;refine F9 6 rfl (λK hK=>?_);focus(go_simp;refine(cD.1 _ (Below.refl _ M).drew).mono ?_;rintro e w4 ⟨⟨s4,p4,n4,c4,rfl,cA⟩,bY⟩;have O:=Kh ((Below.refl _ M).drew.trans bY:Below M.heap.size M w4);have cG:=Kh cA;clear cA bY;(first|with_reducible refine hK.out _ _ ?_ (λhHeld1=>?_) |(go_wp2_with fail;with_reducible refine hK.out _ _ ?_ (λhHeld1=>?_))))
      focus((try dsimp only);exact cF.1 _ O.1)
      focus(clear hK K;(try simp only[Act.put,Br,Bt,Bs]))
      refine F9 7 rfl (λK hK=>?_);focus(go_simp;refine(Rx s5 p5 n5 c5 u1 s4 p4 n4 c4 (b*f k) _ (nG.1.keep O.1).raw cG.1.raw (by have:=nF.1;omega) (by rw[<-cG.1.2.1];have:=nE.1;omega)).mono ?_;rintro e w6 ⟨⟨s6,p6,n6,c6,rfl,mS⟩,mL⟩;have eV:=bt O mL;have nI:=Kh mS;clear mS mL;(first|with_reducible refine hK.out _ _ ?_ (λhHeld2=>?_) |(go_wp2_with fail;with_reducible refine hK.out _ _ ?_ (λhHeld2=>?_))))
      focus((try dsimp only);exact cF.1 _ eV.1)
      focus(clear hK K;(try simp only[Act.put,Br,Bt,Bs]))
      refine K5 8 rfl (λK hK=>?_);go_simp
      refine hK.out _ _ ?_;clear hK K
      (try simp only[Act.put,Br,Bt,Bs])
      all_goals go_wp2
      all_goals go_meet
      all_goals have aK:=eV.1
      all_goals obtain⟨hv1,hv2⟩:=Fw (bk bH aK) nI.1
      all_goals exact⟨⟨_,_,_,_,hv1,HU.1▸hv2⟩,ZRow.var (ZRow.keep Z.1 aK) (bk bH aK) (Nat.ne_of_lt cT),Cr (V.1.trans (aK.mono (Nat.le_of_lt Z.1.sts.1))) (Nat.le_of_lt cT)⟩
     ·have HU:=Kh (show u1=lin a b f k by unfold lin;rw[aX.1,nH.1 k (by omega),Int.mul_zero,Int.add_zero])
      go_wp2;go_meet
      exact⟨HU.1▸gS.1,Z.1,V.1⟩
    case rest=>
     obtain⟨⟨s5,p5,n5,c5,J,bE⟩,hr,I⟩:=hcut;obtain⟨w7,rfl⟩:∃w7:World,w7=wc:=⟨_,rfl⟩
     have y0:=J.at_ 0 rfl;have y1:=J.at_ 1 rfl;have nD:=Kh (ZRow.set (k':=k+1) hr k hlt (lin a b f) (λi' h1 h2=>⟨by omega,rfl⟩) bE);have nB:=Kh I;obtain⟨u0,oT⟩:=mK (hr.has (k*2) (by omega));obtain⟨u2,hu2⟩:=mK (hr.has (k*2+1) (by omega));have f0:=hr.free (k*2) (by omega);have f1:=hr.free (k*2+1) (by omega);clear J bE hr I gS Z V;go_wp2;go_roundw
     case rel=>exact⟨k+1,by omega,by go_num,nD.1,Cr nB.1 (mG _)⟩
     case measure=>simp[intOf];omega
  ·obtain rfl:N=k:=by omega
   have cV:=cC.1;clear cV;go_wp2;go_ret;exact⟨⟨g,rfl,mM,aN.1⟩,HW.1.trans (cC.1.mono mM)⟩
theorem K3 {P:Program} {W:World} {bB:Array Oper} {rest:List Oper} {o:Oper} {a:Act} {Q:Exit->Act->World->Prop} (K:Value->Prop) (bY:o.guard=none) (s x:Operand) (t E:TypeId)
  (ho:o.op=.call { callee:=.builtin .append,args:=#[s,x],argTypes:=#[t,t] }) {z:Value} {U J:Nat} (hU:P.underlying t=some (.slice E))
  (Y:(P.info? E).map (λi=>(i.zero,i.size,i.bytes))=some (some z,U,J)) (bA:z.cells.size=U) (aD:0<U) (B n m g c:Nat) (v:Value) (xs I:List Value)
  (hs:a.eval s=v) (O:OwnK K W B E U v n xs) (hx:a.eval x=.slice (some ⟨g,0,none⟩) m c) (hn:I.length=m*U) (V:∀(j:Nat) (u:Value),I[j]?=some u->W.cell? ⟨g,j,none⟩=some u) (h1:∀u∈I,u.oneCell'=true)
  (hb:(n+m)*J<=140737488355328) (hm:n+m<=9223372036854775807) (cA:0<m) (hB:B<=W.heap.size) (bG:∀u∈I,K u) (bH:∀u∈z.cells.toList,K u)
  (h:∀Z w',OwnK K w' B E U Z (n+m) (xs++I)->W.grownBy w' v.ownBlock->(Z.ownBlock=v.ownBlock∨Z.ownBlock=some W.heap.size)->wpList P bB Q rest (a.put o.dst Z) w'):
  wpList P bB Q (o :: rest) a W:=by
 obtain⟨i0,hi,aK,aN,aX⟩:=info_parts Y
 have M:∀(j:Nat) (u:Value),I[j]?=some u->W.cell? ((⟨g,0,none⟩:Addr).add j)=some u:=by
  intro j u hu
  have e:(⟨g,0,none⟩:Addr).add j=⟨g,j,none⟩:=by
   unfold Addr.add;split
   ·rename_i h0;rw[h0]
   ·simp
  rw[e];exact V j u hu
 obtain⟨Z,w',hr,g1,g2,_,g3⟩:=run_append_own_at (P:=P) W B t o.type E i0 z U J hU hi aK aN aX bA aD v n xs O.1 ⟨g,0,none⟩ m c I hn M h1 hm hb hB;have g4:=Ek K W B t o.type E i0 z U J hU hi aK aN aX bA aD v n xs O.1 ⟨g,0,none⟩ m c I hn M h1 hm hb cA O.2 bG bH hr;refine wpList_plain bY λK' bE=>?_
 unfold Oper.wp execOp;simp only[ho,resolve,invoke,builtin,Sem.run_bind,Sem.run_pure,Result.andThen_ok,List.map_toArray,List.map_cons,List.map_nil,hs,hx,hr];exact bE _ _ (h Z w' ⟨g1,g4⟩ g2 g3)
def Ax (w:World) (g n:Nat):List Value:=(List.range n).map λi=>cellOf w ⟨g,i,none⟩
theorem Ce (w:World) (g n:Nat):(Ax w g n).length=n:=by unfold Ax;rw[List.length_map,List.length_range]
theorem A9 {w:World} {g n j:Nat} (I:j<n):(Ax w g n)[j]?=some (cellOf w ⟨g,j,none⟩):=by
 unfold Ax;rw[List.getElem?_map,List.getElem?_range I];rfl
theorem Dv {w:World} {g n j:Nat} {u:Value} (h:(Ax w g n)[j]?=some u):j<n:=by
 rcases Nat.lt_or_ge j n with I|I
 ·exact I
 ·rw[List.getElem?_eq_none (by rw[Ce];exact I)]at h;cases h
theorem ZRow.cellOf {f:Nat->Int} {w:World} {g N:Nat} (h:ZRow f w g N N) {i:Nat} (J:i<N*2):w.cell? ⟨g,i,none⟩=some (cellOf w ⟨g,i,none⟩):=by
 obtain⟨u,I⟩:=mK (h.has i J);rw[I,Ae I]
theorem ZRow.shape {f:Nat->Int} {w:World} {g N:Nat} (h:ZRow f w g N N) {i:Nat} (O:i<N*2):(∃s,Go.Proofs.YtenlbhlllgppmaaGreatDoor.cellOf w ⟨g,i,none⟩=.bool s)∨∃p n c,Go.Proofs.YtenlbhlllgppmaaGreatDoor.cellOf w ⟨g,i,none⟩=.slice p n c:=by
 obtain⟨s,p,n,c,I,J,_⟩:=h.val (i / 2) (by omega);rcases Nat.mod_two_eq_zero_or_one i with M|M
 ·rw[show i / 2*2=i by omega]at I
  exact .inl ⟨s,Ae I⟩
 ·rw[show i / 2*2+1=i by omega]at J
  exact .inr ⟨p,n,c,Ae J⟩
theorem Hk {f:Nat->Int} {w:World} {g N:Nat} (h:ZRow f w g N N) {u:Value} (M:u∈Ax w g (N*2)):(∃s,u=.bool s)∨∃p n c,u=.slice p n c:=by
 obtain⟨j,I⟩:=List.getElem?_of_mem M;have J:=Dv I;rw[A9 J]at I;injection I with I
 subst I;exact h.shape J
theorem Nv {f:Nat->Int} {w:World} {g N:Nat} (h:ZRow f w g N N):∀u∈Ax w g (N*2),u.oneCell'=true:=by
 intro u I;rcases Hk h I with⟨s,rfl⟩ |⟨p,n,c,rfl⟩ <;> rfl
theorem Po {f:Nat->Int} {w:World} {g N:Nat} (h:ZRow f w g N N):∀u∈Ax w g (N*2),NotInt u:=by
 intro u I;rcases Hk h I with⟨s,rfl⟩ |⟨p,n,c,rfl⟩
 ·exact NotInt.bool _
 ·exact NotInt.slice _ _ _
theorem Ld {f:Nat->Int} {w:World} {g N:Nat} (h:ZRow f w g N N):∀(j:Nat) (u:Value),(Ax w g (N*2))[j]?=some u->w.cell? ⟨g,j,none⟩=some u:=by
 intro j u I;have J:=Dv I;rw[A9 J]at I;rw[h.cellOf J,I]
theorem OwnZ.more {f r:Nat->Int} {W w':World} {B n m g:Nat} {v Y:Value} {J:List Value} (O:OwnK NotInt W B 84 2 v n J) (h2:∀j,j<n->ZX (f j) W J (j*2))
  (hr:ZRow r W g m m) (h3:OwnK NotInt w' B 84 2 Y (n+m) (J++Ax W g (m*2))) (hg:W.grownBy w' v.ownBlock) (M:Nat->Int) (Z:∀j,j<n->M j=f j) (h:∀j,j<m->M (n+j)=r j):OwnZ M w' B Y (n+m):=by
 have I:=I32.grown (K:=NotInt) (λx=>Fv x) O.2 hg;refine⟨_,h3,λj hj=>?_⟩;by_cases hjn:j<n
 ·rw[Z j hjn];exact((h2 j hjn).i32 I).app
 ·obtain⟨k,rfl⟩:∃k,j=n+k:=⟨j - n,by omega⟩
  have U:k<m:=by omega
  have V:J.length=n*2:=O.1.1;rw[h k U];obtain⟨s,p,c,d,c0,c1,hz⟩:=hr.val k U;refine⟨s,p,c,d,?_,?_,hz.i32 I⟩
  ·rw[List.getElem?_append_right (by omega),V,show(n+k)*2 - n*2=k*2 by omega,A9 (by omega),Ae c0]
  ·rw[List.getElem?_append_right (by omega),V,show(n+k)*2+1 - n*2=k*2+1 by omega,A9 (by omega),Ae c1]
end
section
open Go.RowKit Eli Tryz
theorem Jz (s:Bool) (p:Option Addr) (n c:Nat) (t:Bool) (q:Option Addr) (m d:Nat) (x:Rat) (w:World) (h:Qs w s p n c t q m d x) (J:hq x<=1000000000):
  Calls prog 80 #[.agg #[.bool s,.slice p n c,.bool t,.slice q m d]] w λe w'=>Gr w' e x/\Below w.heap.size w w':=by
 have I:=Lu s p n c x.num t q m d x.den w h.1.raw h.2.raw (by have:=h.sizes;omega) (by have:=h.sizes;omega);rw[B7]at I;exact I
theorem Px {P:Program} {W:World} {O:Array Oper} {rest:List Oper} {o:Oper} {a:Act} {Q:Exit->Act->World->Prop} (V:o.guard=none) (s x:Operand) (t E:TypeId)
  (ho:o.op=.call { callee:=.builtin .append,args:=#[s,x],argTypes:=#[t,t] }) {z:Value} {sz I:Nat} (hU:P.underlying t=some (.slice E))
  (J:(P.info? E).map (λi=>(i.zero,i.size,i.bytes))=some (some z,sz,I)) (p:Option Addr) (c:Nat)
  (hs:a.eval s=.slice none 0 0) (hx:a.eval x=.slice p 0 c)
  (h:wpList P O Q rest (a.put o.dst (.slice none 0 0)) W):
  wpList P O Q (o :: rest) a W:=by
 obtain⟨Y,Z,aX,bA,bB⟩:=info_parts J
 have M:Src P Y.size t (.slice p 0 c) 0 [] W:=by
  cases p with
  | none=>exact Src.ofNil W hU c
  | some a=>exact Src.ofSlice W hU a 0 c [] (by simp) (λj u h=>by simp at h) (λu h=>by cases h)
 have hr:=run_append_nothing (P:=P) W t t o.type E Y hU Z none 0 0 (mG _) (.slice p 0 c) M;refine wpList_plain V λK' U=>?_
 unfold Oper.wp execOp;simp only[ho,resolve,invoke,builtin,Sem.run_bind,Sem.run_pure,Result.andThen_ok,List.map_toArray,List.map_cons,List.map_nil,hs,hx,hr];exact U _ _ h
theorem Zx (g N:Nat) (F:Nat->Rat) (w:World) (h:∀i,i<N->QE (IsQ (F i)) w g (i*4)) (hN:N<=1000000) (hF:∀i,i<N->hq (F i)<=1000000000):
  Calls prog 159 #[.slice (some ⟨g,0,none⟩) N N] w λe w'=>(∃g',e=.returned (.slice (some ⟨g',0,none⟩) N N)/\w.heap.size<=g'/\QRow (λi=>IsQ (F i)) w' g' N N)/\Below w.heap.size w w':=by
 have HR:=Kh h;have HF:=Kh hF;have cD:=Ir N (by omega);clear h hF;go_enter func159,ntmps159
 go_wp2_with fail
 have aK:=QRow.made (λi=>IsQ (F i)) w N;obtain⟨w0,aN⟩:∃w0,w.alloc (.cells (madeCells #[.bool false,.slice none 0 0,.bool false,.slice none 0 0] (N*4)) 86)=w0:=⟨_,rfl⟩
 have bC:Below w.heap.size w w0:=aN▸(Below.refl _ _).alloc (mG _) _;rw[aN]at aK ⊢;have aD:=Kh aK;have Y:=Kh bC;obtain⟨G,hG⟩:∃G,w.heap.size=G:=⟨_,rfl⟩
 rw[hG]at aD Y ⊢;have bB:=Kh hG;clear aK bC aN hG cD;go_loopw [11] (λii wr=>∃k:Nat,k<=N/\ii=.int .i64 k/\QRow (λi=>IsQ (F i)) wr G N k/\Below G w wr) (λii _=>N - (intOf ii).toNat)
 case atStart=>exact⟨0,Nat.zero_le _,rfl,aD.1,Y.1⟩
 case round=>
  obtain⟨k,hk,rfl,V,J⟩:=hrel;obtain⟨w1,rfl⟩:∃w1:World,w1=wr:=⟨_,rfl⟩
  have M:=Kh V;have Z:=Kh J;clear V J aD Y;by_cases hlt:k<N
  ·have eV:(k:Int)<(N:Int):=by omega
   have J:=Z.1;rw[<-bB.1]at J;obtain⟨s,p,n,c,t,q,m,d,a0,a1,a2,a3,hx⟩:=(HR.1 k hlt).keep (IsQ.solid _) J;have HX:=Kh (show Qs w1 s p n c t q m d (F k)from hx);clear hx J;go_wp2_with fail
   obtain⟨w2,aX⟩:∃w2,w1.alloc (.cells #[.bool s,.slice p n c,.bool t,.slice q m d] 86)=w2:=⟨_,rfl⟩
   have U:Below w1.heap.size w1 w2:=aX▸(Below.refl _ _).alloc (mG _) _;rw[aX];refine(Jz s p n c t q m d (F k) w2 (HX.1.keep U) (HF.1 k hlt)).mono ?_;rintro e w3 ⟨⟨s3,p3,n3,c3,t3,q3,m3,d3,rfl,bG⟩,bE⟩;have O:=U.trans (bE.mono U.size);have I:=QRow.keep (λ_=>IsQ.solid _) M.1 O;have cA:=Kh (QRow.set (k':=k+1) (λ_=>IsQ.solid _) I k hlt (λi=>IsQ (F i)) (IsQ.solid _) (λi' h1 h2=>⟨by omega,rfl⟩) (show IsQ (F k) w3 s3 p3 n3 c3 t3 q3 m3 d3 from bG));have bY:=Kh (Z.1.trans (O.mono (Nat.le_of_lt M.1.sts.1)));obtain⟨u0,gA⟩:=mK (I.has (k*4) (by omega));obtain⟨u1,gF⟩:=mK (I.has (k*4+1) (by omega));obtain⟨u2,hu2⟩:=mK (I.has (k*4+2) (by omega));obtain⟨u3,gL⟩:=mK (I.has (k*4+3) (by omega));have f0:=I.free (k*4) (by omega);have f1:=I.free (k*4+1) (by omega);have f2:=I.free (k*4+2) (by omega);have f3:=I.free (k*4+3) (by omega);clear bG U bE O I aX a0 a1 a2 a3;go_wp2;go_roundw
   case rel=>exact⟨k+1,by omega,by go_num,cA.1,A5 bY.1⟩
   case measure=>simp[intOf];omega
  ·obtain rfl:N=k:=by omega
   have hE:=bB.1;go_wp2;go_ret;exact⟨⟨G,rfl,Nat.le_of_eq hE,M.1⟩,hE▸Z.1⟩
theorem Vu (M B:Nat) (N k D:Int) (F:List Nat) (C:Nat) (X:Nat->Nat->Rat) (n:Nat) (w:World) (h:ModAt w M B N k D F C X) (hn:n<C) (Z:F.length<=1000000) (hX:∀f,f∈F->hq (X n f)<=1000000000):
  Calls prog 116 #[.pointer (some ⟨M,0,none⟩),.int .i64 n] w λe w'=>(∃g,e=.returned (.tuple #[.slice (some ⟨g,0,none⟩) F.length F.length,.int .i64 0])/\w.heap.size<=g/\QRow (λi=>IsQ (X n (F.getD i 0))) w' g F.length F.length)/\Below w.heap.size w w':=by
 obtain⟨GR,c4,_,I⟩:=h.c4;obtain⟨g,r0,hg,hq⟩:=I n hn
 have HC:=Kh (Zx g F.length (λi=>X n (F.getD i 0)) w (λi V=>by
  have e:F[i]?=some (F.getD i 0):=by rw[List.getD_eq_getElem?_getD,List.getElem?_eq_getElem V];rfl
  exact hq i _ e) Z (λi V=>hX _ (by rw[List.getD_eq_getElem?_getD,List.getElem?_eq_getElem V];exact List.getElem_mem V)))
 have bA:(n:Int)<(C:Int):=by omega
 have aX:(0:Int)<=(n:Int):=by omega
 clear h I hq hX hg;go_enter func116,ntmps116
 go_wp2_with fail
 refine HC.1.mono ?_;rintro e w1 ⟨⟨g1,rfl,U,J⟩,O⟩;have Y:=Kh (And.intro U (And.intro J O));clear U J O HC;go_wp2
 (first|go_ret2|go_ret)
 exact⟨⟨g1,rfl,Y.1.1,Y.1.2.1⟩,Y.1.2.2⟩
theorem NL.val {F:List Nat} {w:World} {B:Nat} {v:Value} (h:NL F w B v):∃p c,v=.slice p F.length c:=by
 rcases h with⟨rfl,a,c,rfl⟩ |⟨g,cap,e,_⟩
 ·exact⟨a,c,rfl⟩
 ·exact⟨_,_,e⟩
theorem Ln (M B:Nat) (N k D:Int) (F:List Nat) (C:Nat) (X:Nat->Nat->Rat) (w:World) (h:ModAt w M B N k D F C X):
  Calls prog 14 #[.pointer (some ⟨M,0,none⟩)] w λe w'=>e=.returned (.int .i64 (F.length:Int))/\w'=w:=by
 obtain⟨v,c3,I⟩:=h.c3;obtain⟨p,c,rfl⟩:=I.val;clear h I;go_enter func14,ntmps14
 go_wp2;go_ret;exact⟨rfl,rfl⟩
theorem Ge (M B:Nat) (N k D:Int) (F:List Nat) (C:Nat) (X:Nat->Nat->Rat) (w:World) (h:ModAt w M B N k D F C X) (hB:B<=w.heap.size):
  Calls prog 59 #[.pointer (some ⟨M,0,none⟩)] w λe w'=>e=.returned (.agg #[.int .i64 N,.int .i64 k,.int .i64 D])/\Below w.heap.size w w':=by
 have hM:=mI h.lt hB;have c0:=h.c0;have c1:=h.c1;have c2:=h.c2;clear h;go_enter func59,ntmps59
 go_upto_if 4 with(fail)
 obtain⟨w0,U,J,I⟩:=bx1 w #[.int .i64 0,.int .i64 0,.int .i64 0] 23;rw[U];have c0:=cell_next I c0;have c1:=cell_next I c1;have c2:=cell_next I c2;have r0:=J.at_ 0 rfl;have r1:=J.at_ 1 rfl;have r2:=J.at_ 2 rfl;have f0:=J.free_ 0;have f1:=J.free_ 1;have f2:=J.free_ 2;go_wp2;have O:=((J.set_ 0 (.int .i64 N)).set_ 1 (.int .i64 k)).set_ 2 (.int .i64 D);have V:=O.at_ 0 rfl;have Y:=O.at_ 1 rfl;have Z:=O.at_ 2 rfl;try simp only[Exit.inBlock,Exit.then]
 refine bodyPost_ret (by simp[results,results59,go_sem,V,Y,Z];try rfl) rfl ?_;exact⟨rfl,((I.setCell (p:=⟨w.heap.size,0,none⟩) (mG _) _).setCell (p:=⟨w.heap.size,1,none⟩) (mG _) _).setCell (p:=⟨w.heap.size,2,none⟩) (mG _) _⟩
theorem dN (M B:Nat) (N k D:Int) (F:List Nat) (C:Nat) (X:Nat->Nat->Rat) (w:World) (h:ModAt w M B N k D F C X) (aN:F.length<=1000000):
  Calls prog 60 #[.pointer (some ⟨M,0,none⟩)] w λe w'=>(∃v,e=.returned v/\OwnN F w' w.heap.size v)/\Below w.heap.size w w':=by
 obtain⟨v,c3,h3⟩:=h.c3;clear h;rcases h3 with⟨rfl,a,c,rfl⟩ |⟨g,cap,rfl,hc,bH,hg,Z⟩
 ·have HN:=Kh (OwnN.nil w w.heap.size)
  go_enter func60,ntmps60
  go_wp2_with (at_builtin;refine Px rfl (.const (.slice none 0 0)) (.tmp 8) _ 3 rfl underlying93 Ep a c rfl rfl ?_)
  go_ret;exact⟨⟨_,rfl,HN.1⟩,Below.refl _ _⟩
 ·rcases Nat.eq_zero_or_pos F.length with h0|Y
  ·have HN:=Kh (OwnN.nil w w.heap.size)
   obtain rfl:F=[]:=List.eq_nil_of_length_eq_zero h0;rw[List.length_nil]at c3;clear hc Z aN h0;go_enter func60,ntmps60
   go_wp2_with (at_builtin;refine Px rfl (.const (.slice none 0 0)) (.tmp 8) _ 3 rfl underlying93 Ep (some ⟨g,0,none⟩) cap rfl rfl ?_)
   go_ret;exact⟨⟨_,rfl,HN.1⟩,Below.refl _ _⟩
  ·have HX:=Kh Z
   have I:∀(j:Nat) (u:Value),(F.map λn:Nat=>Value.int .i64 (n:Int))[j]?=some u->w.cell? ⟨g,j,none⟩=some u:=by
    intro j u O;rw[List.getElem?_map]at O;cases hF:F[j]? with
    | none=>rw[hF]at O;cases O
    | some x=>rw[hF]at O;injection O with O;rw[<-O];exact Z j x hF
   have aK:=Kh I;clear Z I;go_enter func60,ntmps60
   go_wp2_with (at_builtin;refine K3 NotU32 rfl (.const (.slice none 0 0)) (.tmp 8) _ 3 rfl underlying93 Ep rfl (by decide) w.heap.size 0 F.length g cap (.slice none 0 0) [] (F.map λn:Nat=>Value.int .i64 (n:Int)) rfl (OwnK.nil _ _ _ _ _) rfl (by rw[List.length_map,Nat.mul_one]) aK.1 (by intro u U;obtain⟨x,_,rfl⟩:=List.mem_map.1 U;rfl) (by omega) (by omega) Y (mG _) (by intro u U;obtain⟨x,_,rfl⟩:=List.mem_map.1 U;exact λ_ h=>by cases h) (by intro u U;simp[Value.cells]at U;subst U;exact λ_ h=>by cases h) ?_;intro v' w' J V aX;have HO:=Kh (show OwnN F w' w.heap.size v' by have h:=J;rw[Nat.zero_add,List.nil_append]at h;exact h);have HB:=Kh (Aw (Below.refl w.heap.size w) (OwnK.nil NotU32 w w.heap.size 3 1).1 V (mG _) (mG _));clear J V aX)
   go_ret;exact⟨⟨_,rfl,HO.1⟩,HB.1⟩
end
end Go.Proofs.YtenlbhlllgppmaaGreatDoor
