/- Lists of rows of fractions in memory: read, and of one's own in append's hands. -/
import Derived.Test.YtenlbhlllgppmaaGreatDoorB20
import Derived.Deep.Upon
set_option linter.unusedSimpArgs false
set_option maxRecDepth 100000
set_option maxHeartbeats 8000000
namespace Go.Proofs.YtenlbhlllgppmaaGreatDoor
section
open Go.RowKit Eli
def RowV (f:Nat->Rat) (N:Nat) (w:World) (v:Value):Prop:=(∃p c,v=.slice p N c)/\QL (λq=>IsQ (f q)) w v N
theorem RowV.keep {f:Nat->Rat} {N:Nat} {w w':World} {v:Value} (h:RowV f N w v) (I:Below w.heap.size w w'):RowV f N w' v:=⟨h.1,h.2.keep (λ_=>IsQ.solid _) I⟩
theorem RowV.congr {f g:Nat->Rat} {N:Nat} {w:World} {v:Value} (h:RowV f N w v) (U:∀q,q<N->g q=f q):RowV g N w v:=by
 refine⟨h.1,?_⟩;rcases h.2 with J |⟨b,o,cap,e,O,hq⟩
 ·exact .inl J
 ·exact .inr ⟨b,o,cap,e,O,λj I=>by
   show QE (IsQ (g j)) w b (o+j*4);rw[U j I];exact hq j I⟩
theorem RowV.but {f:Nat->Rat} {N:Nat} {w w':World} {v:Value} {R:Nat} (h:RowV f N w v) (hs:Stk SliceV w R) (hg:w.grownBy w' (some R)) (I:I32 w w'):RowV f N w' v:=by
 refine⟨h.1,?_⟩;rcases h.2 with Y |⟨b,o,cap,e,hb,hq⟩
 ·exact .inl Y
 ·refine .inr ⟨b,o,cap,e,nT hb hg.size,λj hj=>?_⟩
  have U:=hq j hj
  have J:b≠R:=λV=>by
   obtain⟨s,p,n,c,t,q,m,d,O,_⟩:=U;rw[V]at O;obtain⟨p',n',c',Z⟩:=hs.2 _ _ O;cases Z
  exact U.butR I hg J
theorem RowV.grown {f:Nat->Rat} {N:Nat} {w w':World} {v:Value} {o:Option Nat} (h:RowV f N w v) (hs:∀R,o=some R->Stk SliceV w R) (hg:w.grownBy w' o) (O:I32 w w'):RowV f N w' v:=by
 refine⟨h.1,?_⟩;rcases h.2 with Z |⟨b,o',cap,e,hb,hq⟩
 ·exact .inl Z
 ·refine .inr ⟨b,o',cap,e,nT hb hg.size,λj hj=>?_⟩
  obtain⟨s,p,n,c,t,q,m,d,U,J,V,Y,h4⟩:=hq j hj
  have I:some b≠o:=λJ=>by
   obtain⟨p',n',c',h3⟩:=(hs b J.symm).2 _ _ U;cases h3
  exact⟨s,p,n,c,t,q,m,d,hg.cell U I,hg.cell J I,hg.cell V I,hg.cell Y I,h4.i32 O⟩
def GridL (l:List (Nat->Rat)) (N:Nat) (w:World) (v:Value):Prop:=
 (l=[]/\∃p c,v=.slice p 0 c)∨∃g o cap,v=.slice (some ⟨g,o,none⟩) l.length cap/\g<w.heap.size/\Stk SliceV w g/\∀(j:Nat) x,l[j]?=some x->∃vr,w.cell? ⟨g,o+j,none⟩=some vr/\RowV x N w vr
theorem Stk.keep {K:Value->Prop} {w w':World} {g:Nat} (h:Stk K w g) (I:Below w.heap.size w w'):Stk K w' g:=⟨nT h.1 I.size,λi v J=>h.2 i v ((I.cell (p:=⟨g,i,none⟩) h.1).symm.trans J)⟩
theorem GridL.keep {l:List (Nat->Rat)} {N:Nat} {w w':World} {v:Value} (h:GridL l N w v) (I:Below w.heap.size w w'):GridL l N w' v:=by
 rcases h with h |⟨g,o,cap,e,hg,V,Y⟩
 ·exact .inl h
 ·refine .inr ⟨g,o,cap,e,nT hg I.size,V.keep I,λj x U=>?_⟩
  obtain⟨vr,J,O⟩:=Y j x U;exact⟨vr,(I.cell (p:=⟨g,o+j,none⟩) hg).trans J,O.keep I⟩
theorem GridL.val {l:List (Nat->Rat)} {N:Nat} {w:World} {v:Value} (h:GridL l N w v):∃p c,v=.slice p l.length c:=by
 rcases h with⟨rfl,h⟩ |⟨g,o,cap,e,_⟩
 ·exact h
 ·exact⟨_,_,e⟩
def OwnG (l:List (Nat->Rat)) (N:Nat) (w:World) (B:Nat) (v:Value):Prop:=∃xs,OwnK SliceV w B 30 1 v l.length xs/\∀(j:Nat) x,l[j]?=some x->∃vr,xs[j]?=some vr/\RowV x N w vr
theorem OwnG.nil (N:Nat) (w:World) (B:Nat):OwnG [] N w B (.slice none 0 0):=⟨[],OwnK.nil _ _ _ _ _,λj x I=>by simp at I⟩
theorem OwnG.keep {l:List (Nat->Rat)} {N:Nat} {w w':World} {B:Nat} {v:Value} (h:OwnG l N w B v) (I:Below w.heap.size w w'):OwnG l N w' B v:=by
 obtain⟨V,J,O⟩:=h;exact⟨V,J.keep I,λj x U=>by obtain⟨vr,e,hr⟩:=O j x U;exact⟨vr,e,hr.keep I⟩⟩
theorem I32.grownS {w w':World} {B E J n:Nat} {v:Value} {O:List Value} (h:OwnK SliceV w B E J v n O) (hg:w.grownBy w' v.ownBlock):I32 w w':=I32.grown (K:=SliceV) (λ_ I=>by obtain⟨p,n,c,e⟩:=I;cases e) h.2 hg
theorem OwnG.push {l:List (Nat->Rat)} {N:Nat} {W w':World} {B:Nat} {v Z:Value} {J:List Value} (O:OwnK SliceV W B 30 1 v l.length J) (h2:∀(j:Nat) x,l[j]?=some x->∃vr,J[j]?=some vr/\RowV x N W vr)
  {f:Nat->Rat} {vf:Value} (hf:RowV f N W vf) (h3:OwnK SliceV w' B 30 1 Z (l.length+1) (J++[vf])) (hg:W.grownBy w' v.ownBlock):OwnG (l++[f]) N w' B Z:=by
 have U:=I32.grownS O hg;have hl:J.length=l.length:=by have:=O.1.1;omega
 have Y:∀(x:Nat->Rat) vr,RowV x N W vr->RowV x N w' vr:=λx vr h=>h.grown (λR e=>O.2 R e) hg U
 refine⟨J++[vf],by rw[List.length_append];exact h3,λj x I=>?_⟩;by_cases hj:j<l.length
 ·rw[List.getElem?_append_left hj]at I
  obtain⟨vr,e,hr⟩:=h2 j x I;exact⟨vr,O0 e,Y _ _ hr⟩
 ·rw[List.getElem?_append_right (by omega)]at I
  have V:j=l.length:=by
   rcases Nat.eq_zero_or_pos (j - l.length)with h|h
   ·omega
   ·rw[List.getElem?_eq_none (by rw[List.length_singleton];omega)]at I;cases I
  subst V;rw[Nat.sub_self]at I;injection I with I
  subst I;exact⟨vf,by rw[List.getElem?_append_right (by omega),hl,Nat.sub_self];rfl,Y _ _ hf⟩
structure GRow (l:List (Nat->Rat)) (N:Nat) (w:World) (g:Nat):Prop where
 stk:Stk SliceV w g
 free:∀i,w.frozen? ⟨g,i,none⟩=false
 val:∀(j:Nat) x,l[j]?=some x->∃vr,w.cell? ⟨g,j,none⟩=some vr/\RowV x N w vr
theorem OwnG.row {l:List (Nat->Rat)} {N:Nat} {w:World} {B:Nat} {v:Value} (h:OwnG l N w B v):(l=[]/\v=.slice none 0 0)∨∃g cap,v=.slice (some ⟨g,0,none⟩) l.length cap/\l.length<=cap/\cap<=9223372036854775807/\B<=g/\g<w.heap.size/\GRow l N w g:=by
 obtain⟨xs,J,Y⟩:=h;rcases J.1.2 with⟨I,V⟩ |⟨g,cap,cs,I,hB,hg,hn,O,Z,_⟩
 ·exact .inl ⟨List.eq_nil_of_length_eq_zero V,I⟩
 ·right
  have U:=J.2 g (by rw[I];rfl);subst I;refine⟨g,cap,rfl,hn,by simp only[maxLen]at O;omega,hB,U.1,⟨U,λi=>Blk.free_ hg i,λj x hx=>?_⟩⟩;obtain⟨vr,e,hr⟩:=Y j x hx;exact⟨vr,An J.1 e,hr⟩
theorem OwnG.gl {l:List (Nat->Rat)} {N:Nat} {w:World} {B:Nat} {v:Value} (h:OwnG l N w B v):GridL l N w v:=by
 rcases h.row with⟨rfl,rfl⟩ |⟨g,cap,rfl,_,_,_,J,I⟩
 ·exact .inl ⟨rfl,_,_,rfl⟩
 ·exact .inr ⟨g,0,cap,rfl,J,I.stk,λj x O=>by rw[Nat.zero_add];exact I.val j x O⟩
theorem Zm {w:World} {B E g n cap i:Nat} {O:List Value} (h:w.ownsRow B E 1 (.slice (some ⟨g,0,none⟩) n cap) n O) (u:Value):(w.setCell ⟨g,i,none⟩ u).ownsRow B E 1 (.slice (some ⟨g,0,none⟩) n cap) n (O.set i u):=by
 obtain⟨U,h⟩:=h;rcases h with⟨Y,_⟩ |⟨g',J,I,V,hB,hg,hn,Z,hs,ht⟩
 ·cases Y
 ·cases V
  refine⟨by rw[List.length_set];exact U,.inr ⟨g,cap,I.setIfInBounds i u,rfl,hB,?_,hn,Z,by rw[Array.size_setIfInBounds];exact hs,?_⟩⟩
  ·simp[World.setCell,Array.getElem?_modify,hg]
  ·rw[Array.toList_setIfInBounds,List.take_set,ht]
theorem OwnG.set {l:List (Nat->Rat)} {N:Nat} {w:World} {B i:Nat} {f:Nat->Rat} {g cap:Nat} {p:Option Addr} {c:Nat} (h:OwnG l N w B (.slice (some ⟨g,0,none⟩) l.length cap)) (hi:i<l.length) (hf:RowV f N w (.slice p N c)):
  OwnG (l.set i f) N (w.setCell ⟨g,i,none⟩ (.slice p N c)) B (.slice (some ⟨g,0,none⟩) l.length cap):=by
 obtain⟨V,U,h2⟩:=h;have hl:V.length=l.length:=by have:=U.1.1;omega
 have I:=U.2 g rfl;have hg:=Ad w g i (.slice p N c);have O:I32 w (w.setCell ⟨g,i,none⟩ (.slice p N c)):=I32.putU (I.imp λ_=>SliceV.notU32) i _;refine⟨V.set i (.slice p N c),?_,λj x J=>?_⟩
 ·rw[List.length_set]
  refine⟨Zm U.1 _,λZ e=>?_⟩;have Y:g=Z:=by simpa [Value.ownBlock] using e
  subst Y;exact Bd I _ _ ⟨_,_,_,rfl⟩
 ·by_cases hj:j=i
  ·subst hj
   rw[List.getElem?_set_self hi]at J;injection J with J
   subst J;exact⟨_,List.getElem?_set_self (by omega),hf.but I hg O⟩
  ·rw[List.getElem?_set_ne (λe=>hj e.symm)]at J
   obtain⟨vr,e,hr⟩:=h2 j x J;exact⟨vr,by rw[List.getElem?_set_ne (λe=>hj e.symm)];exact e,hr.but I hg O⟩
end
theorem lP (a b:Nat):∃x y:Int,(a:Int)*x+b*y=(Nat.gcd a b:Int):=by
 induction a,b using Nat.gcd.induction with
 | H0 n=>exact⟨0,1,by simp⟩
 | H1 m n hm ih=>
  obtain⟨x,y,h⟩:=ih;refine⟨y - (n / m:Nat)*x,x,?_⟩;rw[Nat.gcd_rec m n,<-h]
  have e:(n:Int)=((n % m:Nat):Int)+m*((n / m:Nat):Int):=by
   have:=Nat.mod_add_div n m
   exact_mod_cast this.symm
  conv=>lhs;rw[e]
  rw[Int.mul_sub,Int.add_mul,<-Int.mul_assoc];grind
theorem Lq (n s:Nat) (hn:0<n) (h:Nat.gcd s n=1):∃r,1<=r/\r<=n/\Nat.gcd r n=1/\r*s % n=1 % n:=by
 obtain⟨x,y,e⟩:=lP s n;rw[h]at e;have V:=Int.emod_nonneg x (show(n:Int)≠0 by omega);have Y:=Int.emod_lt_of_pos x (show(0:Int)<n by omega)
 have O:∀r:Nat,(r:Int) % n=x % n->r*s % n=1 % n:=by
  intro r hr
  have U:((r*s:Nat):Int) % n=((1:Nat):Int) % n:=by
   rw[show((r*s:Nat):Int)=(r:Int)*s by push_cast;rfl,Int.mul_emod,hr,<-Int.mul_emod,<-Int.add_mul_emod_self_left (x*s) n y,Int.mul_comm x,e]
  exact_mod_cast U
 have I:∀r:Nat,r*s % n=1 % n->Nat.gcd r n=1:=by
  intro r hr;have U:Nat.gcd r n∣r*s % n:=(Nat.dvd_mod_iff (Nat.gcd_dvd_right r n)).2 (Nat.dvd_trans (Nat.gcd_dvd_left r n) (Nat.dvd_mul_right r s));rw[hr]at U;exact Nat.dvd_one.1 ((Nat.dvd_mod_iff (Nat.gcd_dvd_right r n)).1 U)
 by_cases h0:(x % n).toNat=0
 ·have J:=O n (by rw[Int.emod_self];omega)
  exact⟨n,hn,Nat.le_refl _,I n J,J⟩
 ·have J:=O (x % n).toNat (by rw[Int.toNat_of_nonneg V,Int.emod_emod])
  exact⟨(x % n).toNat,by omega,by omega,I _ J,J⟩
def Az (n s k:Nat):Nat:=s*(k / n) % n*n+s*(k % n) % n
def E6 (n k:Nat):Bool:=Nat.gcd (Nat.gcd (k / n) (k % n)) n==1
def pun (n s:Nat):Bool:=Nat.gcd s n==1
def C5 (n:Nat) (l:List Nat) (k:Nat):Bool:=l.any λa=>(List.range n).any λi=>pun n (i+1)&&Az n (i+1) a==k
def pts (n:Nat):Nat->List Nat
 | 0=>[]
 | k+1=>if E6 n k && !C5 n (pts n k) k then pts n k++[k]else pts n k
theorem Co (n k:Nat):pts n (k+1)=if E6 n k && !C5 n (pts n k) k then pts n k++[k]else pts n k:=rfl
theorem Cj (n k:Nat):(pts n k).length<=k:=by
 induction k with
 | zero=>exact Nat.le_refl _
 | succ k ih=>
  rw[Co];split
  ·rw[List.length_append];simp;exact ih
  ·omega
def Fi (n k:Nat):Bool:=(List.range n).all λi=>!pun n (i+1)||decide (k<=Az n (i+1) k)
theorem Dn {n:Nat} (hn:0<n) (s k:Nat):Az n s k / n=s*(k / n) % n:=by
 unfold Az;rw[Nat.mul_comm,Nat.mul_add_div hn,Nat.div_eq_of_lt (Nat.mod_lt _ hn),Nat.add_zero]
theorem Dp (n s k:Nat):Az n s k % n=s*(k % n) % n:=by
 unfold Az;rw[Nat.mul_comm,Nat.mul_add_mod,Nat.mod_mod]
theorem Tr {n:Nat} (hn:0<n) (s k:Nat):Az n s k<n*n:=by
 have I:=Nat.mod_lt (s*(k / n)) hn;have J:=Nat.mod_lt (s*(k % n)) hn;unfold Az
 calc s*(k / n) % n*n+s*(k % n) % n<s*(k / n) % n*n+n:=by omega
  _=(s*(k / n) % n+1)*n:=by rw[Nat.add_mul,Nat.one_mul]
  _<=n*n:=Nat.mul_le_mul_right _ I
theorem Gr {n:Nat} (hn:0<n) (s t k:Nat):Az n s (Az n t k)=Az n (s*t) k:=by
 have I:=Dn hn t k;have J:=Dp n t k;unfold Az at I J ⊢;rw[I,J];rw[Nat.mul_mod_mod,Nat.mul_mod_mod,<-Nat.mul_assoc,<-Nat.mul_assoc]
theorem Fj {n s t:Nat} (h:s % n=t % n) (k:Nat):Az n s k=Az n t k:=by
 unfold Az;rw[Nat.mul_mod s,h,<-Nat.mul_mod,Nat.mul_mod s (k % n),h,<-Nat.mul_mod]
theorem Ic {n k:Nat} (I:k<n*n):Az n 1 k=k:=by
 have hn:0<n:=by
  rcases Nat.eq_zero_or_pos n with h|h
  ·subst h;simp at I
  ·exact h
 unfold Az;rw[Nat.one_mul,Nat.one_mul,Nat.mod_mod,Nat.mod_eq_of_lt (Nat.div_lt_of_lt_mul I),Nat.mul_comm,Nat.div_add_mod]
theorem J0 {n s t:Nat} (I:pun n s=true) (J:pun n t=true):pun n (s*t)=true:=by
 unfold pun at *;simp only[beq_iff_eq]at *;exact Nat.Coprime.mul_left I J
theorem Ew {n s:Nat} (hn:0<n) (J:pun n s=true):∃r,1<=r/\r<=n/\pun n r=true/\r % n=s % n:=by
 unfold pun at *;simp only[beq_iff_eq]at *;have I:Nat.gcd (s % n) n=1:=by rw[<-Nat.gcd_rec,Nat.gcd_comm];exact J
 by_cases h0:s % n=0
 ·rw[h0,Nat.gcd_zero_left]at I
  exact⟨n,hn,Nat.le_refl _,by rw[Nat.gcd_self];exact I,by rw[Nat.mod_self,h0]⟩
 ·exact⟨s % n,by omega,Nat.le_of_lt (Nat.mod_lt _ hn),I,Nat.mod_mod _ _⟩
theorem dS {n s:Nat} (hn:0<n) (V:pun n s=true):∃r,1<=r/\r<=n/\pun n r=true/\r*s % n=1 % n:=by
 obtain⟨r,I,J,O,U⟩:=Lq n s hn (by simpa [pun] using V);exact⟨r,I,J,by simp[pun,O],U⟩
theorem Ib {n s k:Nat} (I:k<n*n) (Y:pun n s=true):∃r,1<=r/\r<=n/\pun n r=true/\Az n r (Az n s k)=k:=by
 have hn:0<n:=by
  rcases Nat.eq_zero_or_pos n with h|h
  ·subst h;simp at I
  ·exact h
 obtain⟨r,J,O,U,V⟩:=dS hn Y;exact⟨r,J,O,U,by rw[Gr hn,Fj V,Ic I]⟩
theorem dP {n s k:Nat} (hn:0<n) (Y:pun n s=true) (V:E6 n k=true):E6 n (Az n s k)=true:=by
 unfold E6 pun at *;simp only[beq_iff_eq]at *;rw[Dn hn,Dp n];generalize k / n=u at *;generalize k % n=v at *;refine Nat.dvd_one.1 ?_
 have U:∀g,g∣s*u % n->g∣s*v % n->g∣n->g∣1:=by
  intro g I J O;have I:=(Nat.dvd_mod_iff O).1 I;have J:=(Nat.dvd_mod_iff O).1 J
  have hg:Nat.Coprime g s:=by
   have:Nat.gcd g s∣Nat.gcd s n:=Nat.dvd_gcd (Nat.gcd_dvd_right g s) (Nat.dvd_trans (Nat.gcd_dvd_left g s) O);rw[Y]at this;exact Nat.dvd_one.1 this
  have I:=Nat.Coprime.dvd_of_dvd_mul_left hg I;have J:=Nat.Coprime.dvd_of_dvd_mul_left hg J;rw[<-V];exact Nat.dvd_gcd (Nat.dvd_gcd I J) O
 exact U _ (Nat.dvd_trans (Nat.gcd_dvd_left _ _) (Nat.gcd_dvd_left _ _)) (Nat.dvd_trans (Nat.gcd_dvd_left _ _) (Nat.gcd_dvd_right _ _)) (Nat.gcd_dvd_right _ _)
theorem Cz {n k:Nat}:Fi n k=true↔∀s,1<=s->s<=n->pun n s=true->k<=Az n s k:=by
 unfold Fi;simp only[List.all_eq_true,List.mem_range,Bool.or_eq_true,Bool.not_eq_true',decide_eq_true_eq];constructor
 ·intro h s J O I
  have:=h (s - 1) (by omega);rw[show s - 1+1=s by omega,I]at this
  simpa using this
 ·intro h i U
  cases hu:pun n (i+1)with
  | false=>exact .inl rfl
  | true=>exact .inr (h (i+1) (by omega) (by omega) hu)
theorem I3 {n:Nat} {l:List Nat} {k:Nat}:C5 n l k=true↔∃a,a∈l/\∃s,1<=s/\s<=n/\pun n s=true/\Az n s a=k:=by
 unfold C5;simp only[List.any_eq_true,List.mem_range,Bool.and_eq_true,beq_iff_eq];constructor
 ·rintro⟨a,I,i,V,J,e⟩
  exact⟨a,I,i+1,by omega,by omega,J,e⟩
 ·rintro⟨a,I,s,O,U,J,e⟩
  exact⟨a,I,s - 1,by omega,by rw[show s - 1+1=s by omega];exact J,by rw[show s - 1+1=s by omega];exact e⟩
theorem Fk {n:Nat}:∀{k a:Nat},a∈pts n k->a<k:=by
 intro k;induction k with
 | zero=>intro a h;simp[pts]at h
 | succ k ih=>
  intro a h;rw[Co]at h;split at h
  ·rcases List.mem_append.1 h with h|h
   ·have:=ih h;omega
   ·simp at h;omega
  ·have:=ih h;omega
theorem Lf {n a:Nat} {k m:Nat} (I:k<=m) (h:a∈pts n k):a∈pts n m:=by
 induction m with
 | zero=>have:k=0:=by omega
         subst this;exact h
 | succ m ih=>
  by_cases e:k=m+1
  ·subst e;exact h
  ·have:=ih (by omega)
   rw[Co];split
   ·exact List.mem_append_left _ this
   ·exact this
theorem I4 {n:Nat}:∀{k a:Nat},a∈pts n k->E6 n a=true/\C5 n (pts n a) a=false:=by
 intro k;induction k with
 | zero=>intro a h;simp[pts]at h
 | succ k ih=>
  intro a h;rw[Co]at h;split at h
  ·rename_i hc
   rcases List.mem_append.1 h with h|h
   ·exact ih h
   ·simp at h hc;subst h;exact hc
  ·exact ih h
theorem Tv {n k:Nat} (I:E6 n k=true) (J:C5 n (pts n k) k=false):k∈pts n (k+1):=by
 rw[Co];rw[if_pos (by rw[I,J];rfl)];simp
theorem Vp {n:Nat} (hn:0<n):∀k,k<n*n->E6 n k=true->(C5 n (pts n k) k=false↔Fi n k=true):=by
 intro k;induction k using Nat.strongRecOn with
 | _ k ih=>
  intro hk bY;constructor
  ·intro hs
   rw[Cz];intro s h1 h2 hu;rcases Nat.lt_or_ge (Az n s k) k with hlt|bA
   ·exfalso
    have hP:∃m,∃t,1<=t/\t<=n/\pun n t=true/\Az n t k=m:=⟨_,s,h1,h2,hu,rfl⟩
    have Z:∀m,(∃t,1<=t/\t<=n/\pun n t=true/\Az n t k=m)->m<k->False:=by
     intro m;induction m using Nat.strongRecOn with
     | _ m ihm=>
      rintro⟨t,t1,t2,tu,e⟩ hm;have bB:m<n*n:=by omega
      by_cases U:Fi n m=true
      ·have h:E6 n m=true:=by rw[<-e];exact dP hn tu bY
       have bC:=(ih m hm bB h).2 U;have Y:=Lf (m:=k) hm (Tv h bC);obtain⟨r,J,O,I,re⟩:=Ib (k:=k) hk tu;have:C5 n (pts n k) k=true:=I3.2 ⟨m,Y,r,J,O,I,by rw[<-e];exact re⟩;rw[this]at hs;cases hs
      ·rw[Cz]at U
       have:∃r,1<=r/\r<=n/\pun n r=true/\Az n r m<m:=by
        refine Classical.byContradiction λbE=>U λr J O I=>?_
        exact Nat.le_of_not_lt λhlt=>bE ⟨r,J,O,I,hlt⟩
       obtain⟨r,J,O,I,V⟩:=this;obtain⟨q,q1,q2,qu,qe⟩:=Ew hn (J0 I tu);refine ihm (Az n r m) V ⟨q,q1,q2,qu,?_⟩ (by omega);rw[Fj qe,<-Gr hn,e]
    exact Z _ ⟨s,h1,h2,hu,rfl⟩ hlt
   ·exact bA
  ·intro U
   cases hs:C5 n (pts n k) k with
   | false=>rfl
   | true=>
    exfalso;obtain⟨a,ha,s,s1,s2,su,e⟩:=I3.1 hs;have cX:=Fk ha;obtain⟨r,J,O,I,re⟩:=Ib (k:=a) (by omega) su;rw[e]at re;have:=Cz.1 U r J O I;omega
theorem Ci {n:Nat} (hn:0<n):∀k,k<=n*n->pts n k=(List.range k).filter λa=>E6 n a&&Fi n a:=by
 intro k;induction k with
 | zero=>intro _;rfl
 | succ k ih=>
  intro I;rw[List.range_succ,List.filter_append,<-ih (by omega)];rw[Co];cases hok:E6 n k with
  | false=>simp[hok]
  | true=>
   have h:=Vp hn k (by omega) hok;cases hl:Fi n k with
   | false=>
    have:C5 n (pts n k) k=true:=by
     cases hs:C5 n (pts n k) k with
     | true=>rfl
     | false=>rw[h.1 hs]at hl;cases hl
    simp[hok,hl,this]
   | true=>
    have:C5 n (pts n k) k=false:=h.2 hl;simp[hok,hl,this]
theorem R9 {n a b s:Nat} (I:a∈pts n (n*n)) (J:b∈pts n (n*n)) (O:pun n s=true) (e:Az n s a=b):a=b:=by
 have hn:0<n:=by
  rcases Nat.eq_zero_or_pos n with h|h
  ·subst h;simp[pts]at I
  ·exact h
 rw[Ci hn _ (Nat.le_refl _)]at I J;simp only[List.mem_filter,List.mem_range,Bool.and_eq_true]at I J;obtain⟨s',s1,s2,su,se⟩:=Ew hn O;have U:=Cz.1 I.2.2 s' s1 s2 su;rw[Fj se,e]at U;obtain⟨r,V,Y,ru,Z⟩:=Ib (k:=a) I.1 O;rw[e]at Z;have h2:=Cz.1 J.2.2 r V Y ru;omega
theorem Vo {n s t k:Nat} (hn:0<n) (U:E6 n k=true) (e:Az n s k=Az n t k):s % n=t % n:=by
 have e1:s*(k / n) % n=t*(k / n) % n:=by rw[<-Dn hn,<-Dn hn,e]
 have e2:s*(k % n) % n=t*(k % n) % n:=by rw[<-Dp n,<-Dp n,e]
 unfold E6 at U;simp only[beq_iff_eq]at U;generalize k / n=u at *;generalize k % n=v at *;obtain⟨x,y,h1⟩:=lP u v;obtain⟨z,q,Y⟩:=lP (Nat.gcd u v) n;rw[U]at Y
 have I:((n:Int))∣(s:Int)*u - t*u:=by
  apply Int.dvd_of_emod_eq_zero;rw[Int.sub_emod];have:((s:Int)*u) % n=((t:Int)*u) % n:=by exact_mod_cast e1
  rw[this];simp
 have J:((n:Int))∣(s:Int)*v - t*v:=by
  apply Int.dvd_of_emod_eq_zero;rw[Int.sub_emod];have:((s:Int)*v) % n=((t:Int)*v) % n:=by exact_mod_cast e2
  rw[this];simp
 obtain⟨c1,I⟩:=I;obtain⟨c2,J⟩:=J
 have bE:(s:Int) - t=n*((c1*x+c2*y)*z+(s - t)*q):=by
  have Z:((s:Int) - t)*u=n*c1:=by rw[Int.sub_mul];exact I
  have h:((s:Int) - t)*v=n*c2:=by rw[Int.sub_mul];exact J
  have a3:((s:Int) - t)*(Nat.gcd u v:Int)=n*(c1*x+c2*y):=by
   rw[<-h1,Int.mul_add,<-Int.mul_assoc,<-Int.mul_assoc,Z,h,Int.mul_add,Int.mul_assoc,Int.mul_assoc]
  have V:((s:Int) - t)*1=n*(c1*x+c2*y)*z+n*((s - t)*q):=by
   have O:((Nat.gcd u v:Nat):Int)*z+n*q=1:=by exact_mod_cast Y
   rw[<-O,Int.mul_add,<-Int.mul_assoc,a3];congr 1;rw[Int.mul_left_comm]
  rw[Int.mul_one]at V;refine V.trans ?_;rw[Int.mul_add (n:Int) ((c1*x+c2*y)*z),Int.mul_assoc]
 have:(s:Int) % n=(t:Int) % n:=by
  rw[show(s:Int)=t+n*((c1*x+c2*y)*z+(s - t)*q)by omega,Int.add_mul_emod_self_left]
 exact_mod_cast this
def Qy (f:Nat->Nat×Int) (k:Nat) (x:Nat×Int):Nat->Nat×Int:=λi=>if i=k then x else f i
def Ft (n l:Nat) (c:Int) (L:List Nat):Nat->(Nat->Nat×Int)->(Nat->Nat×Int)
 | 0,f=>f
 | j+1,f=>Qy (Ft n l c L j f) (Az n l (L.getD j 0)) (j,c)
def Bk (n:Nat) (D:Int) (L:List Nat):Nat->(Nat->Nat×Int)
 | 0=>λ_=>(0,0)
 | l+1=>if pun n (l+1)then Ft n (l+1) (Pl.kroP D (l+1)) L L.length (Bk n D L l)else Bk n D L l
def TabOk (m:Nat) (f:Nat->Nat×Int):Prop:=∀k,f k=(0,0)∨(f k).1<m/\((f k).2=0∨(f k).2=1∨(f k).2=-1)
theorem TabOk.set {m:Nat} {f:Nat->Nat×Int} (h:TabOk m f) (k:Nat) (x:Nat×Int) (J:x.1<m) (I:x.2=0∨x.2=1∨x.2=-1):TabOk m (Qy f k x):=by
 intro i;unfold Qy;split
 ·exact .inr ⟨J,I⟩
 ·exact h i
theorem Zo {n l:Nat} {c:Int} {L:List Nat} (I:c=0∨c=1∨c=-1) {f:Nat->Nat×Int} (h:TabOk L.length f):∀j,j<=L.length->TabOk L.length (Ft n l c L j f):=by
 intro j;induction j with
 | zero=>intro _;exact h
 | succ j ih=>intro J;exact(ih (by omega)).set _ _ (by exact J) I
theorem Gb {n:Nat} {D:Int} {L:List Nat} (I:∀l,Pl.kroP D l=0∨Pl.kroP D l=1∨Pl.kroP D l=-1):∀l,TabOk L.length (Bk n D L l):=by
 intro l;induction l with
 | zero=>intro k;exact .inl rfl
 | succ l ih=>
  unfold Bk;split
  ·exact Zo (I _) ih _ (nR _)
  ·exact ih
abbrev M4:=Int×Int×Int×Int
theorem Tc (a b:Int) (p:Nat->Int) (K:Nat) (I:∀j,(p j).natAbs<=K) (j:Nat):(lin a b p j).natAbs<=(a.natAbs+b.natAbs)*K:=by
 unfold lin
 have J:(if 0<j then a*p (j - 1)else 0).natAbs<=a.natAbs*K:=by
  split
  ·rw[Int.natAbs_mul];exact Nat.mul_le_mul_left _ (I _)
  ·simp
 have O:(b*p j).natAbs<=b.natAbs*K:=by rw[Int.natAbs_mul];exact Nat.mul_le_mul_left _ (I _)
 have U:=Int.natAbs_add_le (if 0<j then a*p (j - 1)else 0) (b*p j);rw[Nat.add_mul];omega
theorem iD (i:Nat) (a b c d:Int) (I:a.natAbs+b.natAbs<=2) (J:c.natAbs+d.natAbs<=2) (k:Nat):∀j,(mv i a b c d k j).natAbs<=2 ^ k:=by
 induction k with
 | zero=>
  intro j;show(if j=0 then(1:Int)else 0).natAbs<=1;split <;> simp
 | succ k ih=>
  intro j;rw[mv,Nat.pow_succ,Nat.mul_comm (2 ^ k)];split
  ·exact nS (Tc a b _ _ ih j) (Nat.mul_le_mul_right _ I)
  ·exact nS (Tc c d _ _ ih j) (Nat.mul_le_mul_right _ J)
theorem Mw (a b x:Int) (p:Nat->Int) (j:Nat):lin a b (λj=>x*p j) j=x*lin a b p j:=by
 unfold lin;split <;> grind
def Mx (n w:Nat) (L:List Nat) (f:Nat->Nat×Int) (i j:Nat) (g:M4):Nat->Int:=
 let u:Int:=(L.getD j 0 / n:Nat)
 let v:Int:=(L.getD j 0 % n:Nat)
 let a:=g.1 % n
 let b:=g.2.1 % n
 let c:=g.2.2.1 % n
 let d:=g.2.2.2 % n
 let p:=f (((u*a+v*c) % n).toNat*n+((u*b+v*d) % n).toNat)
 λk=>if p.2=0 then 0 else if k % L.length=p.1/\k / L.length<=w then p.2*mv i g.1 g.2.1 g.2.2.1 g.2.2.2 w (k / L.length)else 0
theorem Et {n w:Nat} {L:List Nat} {f:Nat->Nat×Int} {i j:Nat} {g:M4} (V:TabOk L.length f) (O:g.1.natAbs+g.2.1.natAbs<=2) (U:g.2.2.1.natAbs+g.2.2.2.natAbs<=2) (k:Nat):(Mx n w L f i j g k).natAbs<=2 ^ w:=by
 have J:∀p:Nat×Int,(p=(0,0)∨p.1<L.length/\(p.2=0∨p.2=1∨p.2=-1))->(if p.2=0 then(0:Int)else if k % L.length=p.1/\k / L.length<=w then p.2*mv i g.1 g.2.1 g.2.2.1 g.2.2.2 w (k / L.length)else 0).natAbs<=2 ^ w:=by
  intro p Z;have I:p.2.natAbs<=1:=by rcases Z with rfl |⟨_,h|h|h⟩ <;> simp[*]
  have Y:=iD i g.1 g.2.1 g.2.2.1 g.2.2.2 O U w (k / L.length);split
  ·simp
  split
  ·rw[Int.natAbs_mul]
   exact nS (Nat.mul_le_mul I Y) (by rw[Nat.one_mul];exact nR _)
  ·simp
 exact J _ (V _)
def gTurn:M4:=(0,-1,1,0)
def gThird:M4:=(0,-1,1,-1)
def gTwice:M4:=(-1,1,-1,0)
def Li (n w:Nat) (L:List Nat) (f:Nat->Nat×Int) (r k:Nat):Int:=
 if r<(w+1)*L.length then(if k=r then 1 else 0)+Mx n w L f (r / L.length) (r % L.length) gTurn k
 else(if k=r - (w+1)*L.length then 1 else 0)+Mx n w L f ((r - (w+1)*L.length) / L.length) ((r - (w+1)*L.length) % L.length) gThird k+Mx n w L f ((r - (w+1)*L.length) / L.length) ((r - (w+1)*L.length) % L.length) gTwice k
theorem Sc {n w:Nat} {L:List Nat} {f:Nat->Nat×Int} (I:TabOk L.length f) (V:w<=22) (r k:Nat):(Li n w L f r k).natAbs<=16777216:=by
 have h:2 ^ w<=4194304:=nS (Nat.pow_le_pow_right (by decide) V) (by decide);have J:=λi j=>Et (n:=n) (w:=w) (i:=i) (j:=j) (g:=gTurn) I (by decide) (by decide) k
 have O:=λi j=>Et (n:=n) (w:=w) (i:=i) (j:=j) (g:=gThird) I (by decide) (by decide) k
 have U:=λi j=>Et (n:=n) (w:=w) (i:=i) (j:=j) (g:=gTwice) I (by decide) (by decide) k
 unfold Li;split
 ·have:=J (r / L.length) (r % L.length)
  split <;> omega
 ·have Y:=O ((r - (w+1)*L.length) / L.length) ((r - (w+1)*L.length) % L.length)
  have Z:=U ((r - (w+1)*L.length) / L.length) ((r - (w+1)*L.length) % L.length);split <;> omega
def Lj (n w:Nat) (D:Int):Nat->Nat->Int:=Li n w (pts n (n*n)) (Bk n D (pts n (n*n)) n)
def Al (n:Nat) (D u v:Int):Nat×Int:=Bk n D (pts n (n*n)) n ((u % n).toNat*n+(v % n).toNat)
section
open Go.RowKit Tryz
theorem Yo:(prog.info? 84).map (λi=>(i.zero,i.size,i.bytes))=some (some (.agg #[.bool false,.slice none 0 0]),2,32):=by kernel_rfl
theorem Y6 (n:Nat) (h:n<=1000000) (w:World):
  (Instr.makeSlice 97 (.int .i64 (n:Int)) (.int .i64 (n:Int))).run prog w=.ok (.slice (some ⟨w.heap.size,0,none⟩) n n) (w.alloc (.cells (madeCells #[.bool false,.slice none 0 0] (n*2)) 84)):=by
 obtain⟨i,U,I,J,O⟩:=info_parts Yo;have hr:=run_make (P:=prog) w 97 84 i _ underlying97 U I .i64 .i64 n n (by omega) (Int.le_refl _) (by rw[O];omega) (by omega);rw[Int.toNat_natCast,J]at hr;exact hr
theorem kS {n i:Nat} {v:Value} (h:(madeCells #[.bool false,.slice none 0 0] n)[i]?=some v):NotInt v:=by
 unfold madeCells at h;simp only[Array.getElem?_map,Array.getElem?_range]at h;split at h
 ·simp only[Option.map_some]at h
  injection h with h
  rw[<-h];have I:i % 2=0∨i % 2=1:=by omega
  show NotInt ((#[.bool false,.slice none 0 0]:Array Value)[i % 2]!);rcases I with I|I <;> rw[I] <;> first|exact NotInt.bool _|exact NotInt.slice _ _ _
 ·cases h
theorem ZRow.made (f:Nat->Int) (w:World) (n:Nat):ZRow f (w.alloc (.cells (madeCells #[.bool false,.slice none 0 0] (n*2)) 84)) w.heap.size n 0:=by
 have I:=Blk.new w 84 (madeCells #[.bool false,.slice none 0 0] (n*2));refine⟨Sts.of I ?_,λi _=>I.free_ i,λi J=>?_,λj O=>absurd O (Nat.not_lt_zero _)⟩
 ·intro v U
  obtain⟨i,J⟩:=Array.getElem?_of_mem U;exact kS J
 ·rw[I.cell_ i,Array.getElem?_eq_getElem (by rw[size_madeCells];exact J)];rfl
def fM (w:World) (R:Nat) (z:Int):Prop:=∃s p n c,Blk w R 84 #[.bool s,.slice p n c]/\Zs w s p n c z
theorem Dc {g:Nat} {w w':World} (h:Below g w w') {R i j:Nat} (I:g<=R) {v0 v1:Value}:Below g w ((w'.setCell ⟨R,i,none⟩ v0).setCell ⟨R,j,none⟩ v1):=
 (h.setCell (p:=⟨R,i,none⟩) I v0).setCell (p:=⟨R,j,none⟩) I v1
theorem ZRow.var {f:Nat->Int} {w:World} {g N k R:Nat} {s:Bool} {p:Option Addr} {n c:Nat} {s':Bool} {p':Option Addr} {n' V:Nat} (h:ZRow f w g N k) (hR:Blk w R 84 #[.bool s',.slice p' n' V]) (U:g≠R):ZRow f ((w.setCell ⟨R,0,none⟩ (.bool s)).setCell ⟨R,1,none⟩ (.slice p n c)) g N k:=by
 have hg:=Ki w R 0 1 (.bool s) (.slice p n c);have I:((w.setCell ⟨R,0,none⟩ (.bool s)).setCell ⟨R,1,none⟩ (.slice p n c)).heap[g]?=w.heap[g]?:=hg.block g h.sts.1 (λe=>by injection e with e;exact U e);have J:=I32.put2 (Sts.box hR) 0 1 (.bool s) (.slice p n c) (NotInt.bool _);refine⟨⟨nT h.sts.1 hg.size,λi v hv=>h.sts.2 i v ((World.cell?_of_block (a:=⟨g,i,none⟩) I).symm.trans hv)⟩,λi O=>(World.frozen?_of_block (a:=⟨g,i,none⟩) I).trans (h.free i O),λi O=>by rw[World.cell?_of_block (a:=⟨g,i,none⟩) I];exact h.has i O,λj hj=>?_⟩;obtain⟨s,p,n,c,Y,Z,e2⟩:=h.val j hj;exact⟨s,p,n,c,(World.cell?_of_block (a:=⟨g,_,none⟩) I).trans Y,(World.cell?_of_block (a:=⟨g,_,none⟩) I).trans Z,e2.i32 J⟩
theorem Pj (v:Value) (m:Nat) (f:Nat->Int) (s:Bool) (p:Option Addr) (n c:Nat) (a:Int) (t:Bool) (q:Option Addr) (m' d:Nat) (b:Int) (w:World) (h:ZL f w v m) (ha:Zs w s p n c a) (I:Zs w t q m' d b) (h0:0<m) (hm:m<=1000) (hn:n<=10) (pC:m'<=10) (hf:∀j,nd (f j).natAbs<=1000) (hz:∀j,m<=j->f j=0):
  Calls prog 145 #[v,.agg #[.bool s,.slice p n c],.agg #[.bool t,.slice q m' d]] w λe w'=>(∃g,e=.returned (.slice (some ⟨g,0,none⟩) ((m+1:Nat)) ((m+1:Nat)))/\w.heap.size<=g/\ZRow (lin a b f) w' g (m+1) (m+1))/\Below w.heap.size w w':=by
 obtain⟨g1,o1,l1,rfl,hQ,r1⟩:=h.resolve_left (λh=>by omega);have mE:=Kh r1;have HF:=Kh hf;have oZ:=Kh hz;have HA:=Kh ha;have HB:=Kh I;obtain⟨N,hN⟩:∃N,m+1=N:=⟨_,rfl⟩
 have qH:(m:Int)+1=(N:Nat):=by omega
 have pB:=Y6 N (by omega);rw[hN];clear h r1 hf ha I hz;go_enter func145,ntmps145
 go_wp2_with fail
 obtain⟨w0,gU⟩:∃w0,(w.alloc (.cells #[.bool s,.slice p n c] 84)).alloc (.cells #[.bool t,.slice q m' d] 84)=w0:=⟨_,rfl⟩
 obtain⟨X0,X1,cB⟩:=Lx w #[.bool s,.slice p n c] 84 #[.bool t,.slice q m' d] 84;rw[gU]at X0 X1 cB;have gS:w0.heap.size=w.heap.size+1+1:=by rw[<-gU];simp
 have gP:=ZRow.made (lin a b f) w0 N;obtain⟨wn,hD⟩:∃wn,w0.alloc (.cells (madeCells #[.bool false,.slice none 0 0] (N*2)) 84)=wn:=⟨_,rfl⟩
 have hP:Below w0.heap.size w0 wn:=hD▸(Below.refl _ _).alloc (nR _) _;rw[hD]at gP;rw[gU,hD];obtain⟨gx,gL⟩:∃gx,w.heap.size=gx:=⟨_,rfl⟩
 obtain⟨gy,gN⟩:∃gy,gx+1=gy:=⟨_,rfl⟩
 obtain⟨g,hg⟩:∃g,gy+1=g:=⟨_,rfl⟩
 rw[gL,gN,hg]at gS;rw[gL]at X0 X1;rw[gN]at X1;rw[gS]at gP hP;rw[gL,gN,hg];have nD:=Kh X0;have nW:=Kh X1;have mA:=Kh hP;have nA:=Kh gP;have oE:w.heap.size<=g:=by omega
 have oH:gx<g:=by omega
 have oI:gy<g:=by omega
 have HW:=Kh cB;have mC:=Kh (show g1<g by omega);have HR:=Kh (λj (hj:j<m)=>ZE.keep (mE.1 j hj) cB);have iL:=Kh (HA.1.keep cB);have mB:=Kh (HB.1.keep cB);have nB:=Kh gS;clear X0 X1 cB gU hD gP hP hQ gL gN hg gS pB mE HA HB;go_loopw [16] (λi wr=>∃k:Nat,k<=N/\i=.int .i64 k/\ZRow (lin a b f) wr g N k/\Below g w0 wr) (λi _=>N - (intOf i).toNat)
 case atStart=>exact⟨0,Nat.zero_le _,rfl,nA.1,mA.1⟩
 case round=>
  obtain⟨k,hk,rfl,hI,gF⟩:=hrel;obtain⟨w1,rfl⟩:∃w1:World,w1=wr:=⟨_,rfl⟩
  have bC:=Kh hI;have dC:=Kh gF;clear hI gF mA nA;by_cases hlt:k<N
  ·have qJ:(k:Int)<(N:Int):=by omega
   go_wp2_with fail
   refine(G9 0 w1 (by omega) (by omega)).mono ?_;rintro e w2 ⟨⟨s3,p3,n3,c3,rfl,oJ⟩,bA⟩;have hJ:g<w2.heap.size:=nT bC.1.sts.1 bA.size;have cD:=Kh (ZRow.keep bC.1 bA);have hG:=Kh (dC.1.trans (bA.mono (Nat.le_of_lt bC.1.sts.1)));have nX:=Kh oJ;clear oJ bA bC dC;go_upto_if 21 with(fail)
   obtain⟨w3,hB⟩:∃w3,w2.alloc (.cells #[.bool s3,.slice p3 n3 c3] 84)=w3:=⟨_,rfl⟩
   have bA:Below w2.heap.size w2 w3:=hB▸(Below.refl _ _).alloc (nR _) _;have J:=hB▸Blk.new w2 84 #[.bool s3,.slice p3 n3 c3];rw[hB];obtain⟨R,hR⟩:∃R,w2.heap.size=R:=⟨_,rfl⟩
   rw[hR]at J ⊢;have gA:g<R:=by omega
   have hL:=Kh (show fM w3 R 0 from⟨s3,p3,n3,c3,J,nX.1.keep bA⟩);have Z:=Kh (ZRow.keep cD.1 bA);have V:=Kh (hG.1.trans (bA.mono (Nat.le_of_lt hJ)));clear hB bA J hR hJ cD hG nX;obtain⟨u1,oG⟩:∃u1,(if 0<k then a*f (k - 1)else 0)=u1:=⟨_,rfl⟩
   have bE:=Kh oG;clear oG;go_cut []from 20 to 28 (λwd=>fM wd R u1/\ZRow (lin a b f) wd g N k/\Below g w0 wd)
   case first=>
    by_cases hk0:0<k
    ·obtain⟨k1,oF⟩:∃k1,k=k1+1:=⟨k - 1,by omega⟩
     have HU:=Kh (show a*f k1=u1 by rw[<-bE.1,if_pos hk0,oF,Nat.add_sub_cancel]);obtain⟨O,rfl⟩:∃O:World,O=w3:=⟨_,rfl⟩
     have bY:Below w0.heap.size w0 O:=nB.1▸V.1;obtain⟨s',p',i',c',a0,a1,hx⟩:=(HR.1 k1 (by omega)).keep bY;have HP:=Kh (show Zs O s' p' i' c' (f k1)from hx);have x0:=(nD.1.below_ V.1 oH).at_ 0 rfl;have x1:=(nD.1.below_ V.1 oH).at_ 1 rfl;have HX:=Kh (iL.1.keep bY);have HI:=Kh (show i'<=1000 by rw[<-hx.2.1];exact HF.1 k1);have dE:=Kh (λW (I:Below O.heap.size O W)=>Ho s p n c a s' p' i' c' (f k1) W (HX.1.keep I).raw (HP.1.keep I).raw (by omega) (by have:=HI.1;omega));rw[HU.1]at dE;obtain⟨s5,p5,n5,c5,J,_⟩:=hL.1;have cF:=Kh J;have pV:(k:Int) - 1=(k1:Nat):=by omega
     have pU:k1<m:=by omega
     have pT:(k1:Int)<(m:Int):=by omega
     have qK:IntKind.i64.wrap (k1:Int)=(k1:Nat):=IntWalk.i64_in _ (by omega);have pR:(0:Int)<=(k1:Int):=by omega
     have hQ:=mC.1;have pS:(0:Int)<(k:Int):=by omega
     clear hx bY HX HP oF HU bE;go_upto_region 7 with(fail)
     refine J2 (λW=>W.cell? ⟨gx,0,none⟩=some (.bool s)/\W.cell? ⟨gx,1,none⟩=some (.slice p n c)/\W.cell? ⟨g1,o1+k1*2,none⟩=some (.bool s')/\W.cell? ⟨g1,o1+k1*2+1,none⟩=some (.slice p' i' c')/\W.cell? ⟨R,0,none⟩=some (.bool s5)/\W.frozen? ⟨R,0,none⟩=false/\W.cell? ⟨R,1,none⟩=some (.slice p5 n5 c5)/\W.frozen? ⟨R,1,none⟩=false) (λW I=>⟨Aq I x0,Aq I x1,Aq I a0,Aq I a1,Aq I (J.at_ 0 rfl),Ab I (by rw[(J.at_ 0 rfl)];rfl) (J.free_ 0),Aq I (J.at_ 1 rfl),Ab I (by rw[(J.at_ 1 rfl)];rfl) (J.free_ 1)⟩) (λdY hHeld0=>?_);clear x0 x1 a0 a1 J;refine Aj 0 ?_;refine Aj 1 ?_;refine Aj 2 ?_;refine Aj 3 ?_;refine Aj 4 ?_;refine Aj 5 ?_;refine G6 6 rfl (λK hK=>?_);focus(go_simp;refine(dE.1 _ (Below.refl _ O).drew).mono ?_;rintro e w4 ⟨⟨s4,p4,n4,c4,rfl,cT⟩,cG⟩;have U:=Kh ((Below.refl _ O).drew.trans cG:Below O.heap.size O w4);have eP:=Kh cT;clear cT cG;(first|with_reducible refine hK.out _ _ ?_ (λhHeld1=>?_) |(go_wp2_with fail;with_reducible refine hK.out _ _ ?_ (λhHeld1=>?_))))
     focus((try dsimp only);exact dY.1 _ U.1)
     focus(clear hK K;(try simp only[Act.put,Bo,Bt,Bp]))
     refine Js 7 rfl (λK hK=>?_);go_simp
     refine hK.out _ _ ?_;clear hK K
     (try simp only[Act.put,Bo,Bt,Bp])
     all_goals go_wp2
     all_goals go_meet
     all_goals have bB:=U.1
     all_goals obtain⟨hv1,hv2⟩:=Fh (bk cF bB) eP.1
     all_goals exact⟨⟨_,_,_,_,hv1,hv2⟩,ZRow.var (ZRow.keep Z.1 bB) (bk cF bB) (Nat.ne_of_lt gA),Dc (V.1.trans (bB.mono (Nat.le_of_lt Z.1.sts.1))) (Nat.le_of_lt gA)⟩
    ·have HU:=Kh (show 0=u1 by rw[<-bE.1,if_neg hk0])
     obtain rfl:k=0:=by omega
     go_wp2;go_meet
     exact⟨HU.1▸hL.1,Z.1,V.1⟩
   case rest=>
    obtain⟨hv,hr,I⟩:=hcut;obtain⟨O,rfl⟩:∃O:World,O=wc:=⟨_,rfl⟩
    have hM:=Kh hv;have aX:=Kh hr;have Y:=Kh I;clear hv hr I hL Z V;go_upto_if 32 with(fail)
    go_cut []from 29 to 40 (λwd=>fM wd R (lin a b f k)/\ZRow (lin a b f) wd g N k/\Below g w0 wd)
    case first=>
     by_cases hkm:k<m
     ·have HU:=Kh (show u1+b*f k=lin a b f k by unfold lin;rw[bE.1])
      have bY:Below w0.heap.size w0 O:=nB.1▸Y.1;obtain⟨s',p',i',c',a0,a1,hx⟩:=(HR.1 k hkm).keep bY;have HP:=Kh (show Zs O s' p' i' c' (f k)from hx);have x0:=(nW.1.below_ Y.1 oI).at_ 0 rfl;have x1:=(nW.1.below_ Y.1 oI).at_ 1 rfl;have HX:=Kh (mB.1.keep bY);have HI:=Kh (show i'<=1000 by rw[<-hx.2.1];exact HF.1 k);have dE:=Kh (λW (I:Below O.heap.size O W)=>Ho t q m' d b s' p' i' c' (f k) W (HX.1.keep I).raw (HP.1.keep I).raw (by omega) (by have:=HI.1;omega));obtain⟨s5,p5,n5,c5,J,cC⟩:=hM.1;have cF:=Kh J;have oY:=Kh cC
      have oX:=Kh (show n5<=2000 by
       rw[<-cC.2.1,<-bE.1];split
       ·rw[Int.natAbs_mul]
        have h1:=Cm a.natAbs (f (k - 1)).natAbs;have h2:=HF.1 (k - 1);have h3:nd a.natAbs<=10:=by rw[iL.1.2.1];exact hn
        omega
       ·simp[Cq])
      have oW:=Kh (show nd (b*f k).natAbs<=2000 by
       rw[Int.natAbs_mul];have h1:=Cm b.natAbs (f k).natAbs;have h2:=HF.1 k;have h3:nd b.natAbs<=10:=by rw[mB.1.2.1];exact pC
       omega)
      have pW:(k:Int)<(m:Int):=by omega
      have hQ:=mC.1;clear hx bY HX HP bE cC;go_upto_region 9 with(fail)
      refine J2 (λW=>W.cell? ⟨gy,0,none⟩=some (.bool t)/\W.cell? ⟨gy,1,none⟩=some (.slice q m' d)/\W.cell? ⟨g1,o1+k*2,none⟩=some (.bool s')/\W.cell? ⟨g1,o1+k*2+1,none⟩=some (.slice p' i' c')/\W.cell? ⟨R,0,none⟩=some (.bool s5)/\W.frozen? ⟨R,0,none⟩=false/\W.cell? ⟨R,1,none⟩=some (.slice p5 n5 c5)/\W.frozen? ⟨R,1,none⟩=false) (λW I=>⟨Aq I x0,Aq I x1,Aq I a0,Aq I a1,Aq I (J.at_ 0 rfl),Ab I (by rw[(J.at_ 0 rfl)];rfl) (J.free_ 0),Aq I (J.at_ 1 rfl),Ab I (by rw[(J.at_ 1 rfl)];rfl) (J.free_ 1)⟩) (λdY hHeld0=>?_);clear x0 x1 a0 a1 J;refine Aj 0 ?_;refine Aj 1 ?_;refine Aj 2 ?_;refine Aj 3 ?_;refine Aj 4 ?_;refine Aj 5 ?_;refine G6 6 rfl (λK hK=>?_);focus(go_simp;refine(dE.1 _ (Below.refl _ O).drew).mono ?_;rintro e w4 ⟨⟨s4,p4,n4,c4,rfl,cT⟩,cG⟩;have U:=Kh ((Below.refl _ O).drew.trans cG:Below O.heap.size O w4);have eP:=Kh cT;clear cT cG;(first|with_reducible refine hK.out _ _ ?_ (λhHeld1=>?_) |(go_wp2_with fail;with_reducible refine hK.out _ _ ?_ (λhHeld1=>?_))))
      focus((try dsimp only);exact dY.1 _ U.1)
      focus(clear hK K;(try simp only[Act.put,Bo,Bt,Bp]))
      refine G6 7 rfl (λK hK=>?_);focus(go_simp;refine(Sq s5 p5 n5 c5 u1 s4 p4 n4 c4 (b*f k) _ (oY.1.keep U.1).raw eP.1.raw (by have:=oX.1;omega) (by rw[<-eP.1.2.1];have:=oW.1;omega)).mono ?_;rintro e w6 ⟨⟨s6,p6,n6,c6,rfl,oK⟩,oD⟩;have hE:=bt U oD;have pA:=Kh oK;clear oK oD;(first|with_reducible refine hK.out _ _ ?_ (λhHeld2=>?_) |(go_wp2_with fail;with_reducible refine hK.out _ _ ?_ (λhHeld2=>?_))))
      focus((try dsimp only);exact dY.1 _ hE.1)
      focus(clear hK K;(try simp only[Act.put,Bo,Bt,Bp]))
      refine Js 8 rfl (λK hK=>?_);go_simp
      refine hK.out _ _ ?_;clear hK K
      (try simp only[Act.put,Bo,Bt,Bp])
      all_goals go_wp2
      all_goals go_meet
      all_goals have bB:=hE.1
      all_goals obtain⟨hv1,hv2⟩:=Fh (bk cF bB) pA.1
      all_goals exact⟨⟨_,_,_,_,hv1,HU.1▸hv2⟩,ZRow.var (ZRow.keep aX.1 bB) (bk cF bB) (Nat.ne_of_lt gA),Dc (Y.1.trans (bB.mono (Nat.le_of_lt aX.1.sts.1))) (Nat.le_of_lt gA)⟩
     ·have HU:=Kh (show u1=lin a b f k by unfold lin;rw[bE.1,oZ.1 k (by omega),Int.mul_zero,Int.add_zero])
      go_wp2;go_meet
      exact⟨HU.1▸hM.1,aX.1,Y.1⟩
    case rest=>
     obtain⟨⟨s5,p5,n5,c5,J,cC⟩,hr,I⟩:=hcut;obtain⟨w7,rfl⟩:∃w7:World,w7=wc:=⟨_,rfl⟩
     have y0:=J.at_ 0 rfl;have y1:=J.at_ 1 rfl;have oV:=Kh (ZRow.set (k':=k+1) hr k hlt (lin a b f) (λi' h1 h2=>⟨by omega,rfl⟩) cC);have oT:=Kh I;obtain⟨u0,qL⟩:=nV (hr.has (k*2) (by omega));obtain⟨u2,hu2⟩:=nV (hr.has (k*2+1) (by omega));have f0:=hr.free (k*2) (by omega);have f1:=hr.free (k*2+1) (by omega);clear J cC hr I hM aX Y;go_wp2;go_roundw
     case rel=>exact⟨k+1,by omega,by go_num,oV.1,Dc oT.1 (nR _)⟩
     case measure=>simp[intOf];omega
  ·obtain rfl:N=k:=by omega
   have gF:=dC.1;clear gF;go_wp2;go_ret;exact⟨⟨g,rfl,oE,bC.1⟩,HW.1.trans (dC.1.mono oE)⟩
theorem Im {P:Program} {W:World} {cA:Array Oper} {rest:List Oper} {o:Oper} {a:Act} {Q:Exit->Act->World->Prop} (K:Value->Prop) (cG:o.guard=none) (s x:Operand) (t E:TypeId)
  (ho:o.op=.call { callee:=.builtin .append,args:=#[s,x],argTypes:=#[t,t] }) {z:Value} {V J:Nat} (hU:P.underlying t=some (.slice E))
  (Z:(P.info? E).map (λi=>(i.zero,i.size,i.bytes))=some (some z,V,J)) (bY:z.cells.size=V) (bA:0<V) (B n m g c:Nat) (v:Value) (xs I:List Value)
  (hs:a.eval s=v) (U:OwnK K W B E V v n xs) (hx:a.eval x=.slice (some ⟨g,0,none⟩) m c) (hn:I.length=m*V) (Y:∀(j:Nat) (u:Value),I[j]?=some u->W.cell? ⟨g,j,none⟩=some u) (h1:∀u∈I,u.oneCell'=true)
  (hb:(n+m)*J<=140737488355328) (hm:n+m<=9223372036854775807) (cT:0<m) (hB:B<=W.heap.size) (cD:∀u∈I,K u) (cF:∀u∈z.cells.toList,K u)
  (h:∀v' w',OwnK K w' B E V v' (n+m) (xs++I)->W.grownBy w' v.ownBlock->(v'.ownBlock=v.ownBlock∨v'.ownBlock=some W.heap.size)->wpList P cA Q rest (a.put o.dst v') w'):
  wpList P cA Q (o :: rest) a W:=by
 obtain⟨i0,hi,bB,bC,bE⟩:=info_parts Z
 have O:∀(j:Nat) (u:Value),I[j]?=some u->W.cell? ((⟨g,0,none⟩:Addr).add j)=some u:=by
  intro j u hu
  have e:(⟨g,0,none⟩:Addr).add j=⟨g,j,none⟩:=by
   unfold Addr.add;split
   ·rename_i h0;rw[h0]
   ·simp
  rw[e];exact Y j u hu
 obtain⟨v',w',hr,g1,g2,_,g3⟩:=run_append_own_at (P:=P) W B t o.type E i0 z V J hU hi bB bC bE bY bA v n xs U.1 ⟨g,0,none⟩ m c I hn O h1 hm hb hB;have g4:=E7 K W B t o.type E i0 z V J hU hi bB bC bE bY bA v n xs U.1 ⟨g,0,none⟩ m c I hn O h1 hm hb cT U.2 cD cF hr;refine wpList_plain cG λK' cC=>?_
 unfold Oper.wp execOp;simp only[ho,resolve,invoke,builtin,Sem.run_bind,Sem.run_pure,Result.andThen_ok,List.map_toArray,List.map_cons,List.map_nil,hs,hx,hr];exact cC _ _ (h v' w' ⟨g1,g4⟩ g2 g3)
def Au (w:World) (g n:Nat):List Value:=(List.range n).map λi=>cellOf w ⟨g,i,none⟩
theorem Bw (w:World) (g n:Nat):(Au w g n).length=n:=by unfold Au;rw[List.length_map,List.length_range]
theorem Bi {w:World} {g n j:Nat} (I:j<n):(Au w g n)[j]?=some (cellOf w ⟨g,j,none⟩):=by
 unfold Au;rw[List.getElem?_map,List.getElem?_range I];rfl
theorem Ea {w:World} {g n j:Nat} {u:Value} (h:(Au w g n)[j]?=some u):j<n:=by
 rcases Nat.lt_or_ge j n with I|I
 ·exact I
 ·rw[List.getElem?_eq_none (by rw[Bw];exact I)]at h;cases h
theorem ZRow.cellOf {f:Nat->Int} {w:World} {g N:Nat} (h:ZRow f w g N N) {i:Nat} (J:i<N*2):w.cell? ⟨g,i,none⟩=some (cellOf w ⟨g,i,none⟩):=by
 obtain⟨u,I⟩:=nV (h.has i J);rw[I,Ag I]
theorem ZRow.shape {f:Nat->Int} {w:World} {g N:Nat} (h:ZRow f w g N N) {i:Nat} (U:i<N*2):(∃s,Go.Proofs.YtenlbhlllgppmaaGreatDoor.cellOf w ⟨g,i,none⟩=.bool s)∨∃p n c,Go.Proofs.YtenlbhlllgppmaaGreatDoor.cellOf w ⟨g,i,none⟩=.slice p n c:=by
 obtain⟨s,p,n,c,I,J,_⟩:=h.val (i / 2) (by omega);rcases Nat.mod_two_eq_zero_or_one i with O|O
 ·rw[show i / 2*2=i by omega]at I
  exact .inl ⟨s,Ag I⟩
 ·rw[show i / 2*2+1=i by omega]at J
  exact .inr ⟨p,n,c,Ag J⟩
theorem Ig {f:Nat->Int} {w:World} {g N:Nat} (h:ZRow f w g N N) {u:Value} (O:u∈Au w g (N*2)):(∃s,u=.bool s)∨∃p n c,u=.slice p n c:=by
 obtain⟨j,I⟩:=List.getElem?_of_mem O;have J:=Ea I;rw[Bi J]at I;injection I with I
 subst I;exact h.shape J
theorem Oj {f:Nat->Int} {w:World} {g N:Nat} (h:ZRow f w g N N):∀u∈Au w g (N*2),u.oneCell'=true:=by
 intro u I;rcases Ig h I with⟨s,rfl⟩ |⟨p,n,c,rfl⟩ <;> rfl
theorem Qm {f:Nat->Int} {w:World} {g N:Nat} (h:ZRow f w g N N):∀u∈Au w g (N*2),NotInt u:=by
 intro u I;rcases Ig h I with⟨s,rfl⟩ |⟨p,n,c,rfl⟩
 ·exact NotInt.bool _
 ·exact NotInt.slice _ _ _
theorem Ma {f:Nat->Int} {w:World} {g N:Nat} (h:ZRow f w g N N):∀(j:Nat) (u:Value),(Au w g (N*2))[j]?=some u->w.cell? ⟨g,j,none⟩=some u:=by
 intro j u I;have J:=Ea I;rw[Bi J]at I;rw[h.cellOf J,I]
theorem OwnZ.more {f r:Nat->Int} {W w':World} {B n m g:Nat} {v Z:Value} {J:List Value} (U:OwnK NotInt W B 84 2 v n J) (h2:∀j,j<n->ZX (f j) W J (j*2))
  (hr:ZRow r W g m m) (h3:OwnK NotInt w' B 84 2 Z (n+m) (J++Au W g (m*2))) (hg:W.grownBy w' v.ownBlock) (O:Nat->Int) (h:∀j,j<n->O j=f j) (e2:∀j,j<m->O (n+j)=r j):OwnZ O w' B Z (n+m):=by
 have I:=I32.grown (K:=NotInt) (λx=>Gn x) U.2 hg;refine⟨_,h3,λj hj=>?_⟩;by_cases hjn:j<n
 ·rw[h j hjn];exact((h2 j hjn).i32 I).app
 ·obtain⟨k,rfl⟩:∃k,j=n+k:=⟨j - n,by omega⟩
  have V:k<m:=by omega
  have Y:J.length=n*2:=U.1.1;rw[e2 k V];obtain⟨s,p,c,d,c0,c1,hz⟩:=hr.val k V;refine⟨s,p,c,d,?_,?_,hz.i32 I⟩
  ·rw[List.getElem?_append_right (by omega),Y,show(n+k)*2 - n*2=k*2 by omega,Bi (by omega),Ag c0]
  ·rw[List.getElem?_append_right (by omega),Y,show(n+k)*2+1 - n*2=k*2+1 by omega,Bi (by omega),Ag c1]
end
section
open Go.RowKit Eli Tryz
theorem Rp (s:Bool) (p:Option Addr) (n c:Nat) (t:Bool) (q:Option Addr) (m d:Nat) (x:Rat) (w:World) (h:Qs w s p n c t q m d x) (J:hq x<=1000000000):
  Calls prog 80 #[.agg #[.bool s,.slice p n c,.bool t,.slice q m d]] w λe w'=>Eg w' e x/\Below w.heap.size w w':=by
 have I:=Iu s p n c x.num t q m d x.den w h.1.raw h.2.raw (by have:=h.sizes;omega) (by have:=h.sizes;omega);rw[Bl]at I;exact I
theorem Xg (s:Bool) (p:Option Addr) (n c:Nat) (t:Bool) (q:Option Addr) (m d:Nat) (x:Rat) (w:World) (h:Qs w s p n c t q m d x) (J:hq x<=1000000000000):
  Calls prog 80 #[.agg #[.bool s,.slice p n c,.bool t,.slice q m d]] w λe w'=>Eg w' e x/\Below w.heap.size w w':=by
 have I:=Iu s p n c x.num t q m d x.den w h.1.raw h.2.raw (by have:=h.sizes;omega) (by have:=h.sizes;omega);rw[Bl]at I;exact I
theorem Q0 {P:Program} {W:World} {U:Array Oper} {rest:List Oper} {o:Oper} {a:Act} {Q:Exit->Act->World->Prop} (Y:o.guard=none) (s x:Operand) (t E:TypeId)
  (ho:o.op=.call { callee:=.builtin .append,args:=#[s,x],argTypes:=#[t,t] }) {z:Value} {sz I:Nat} (hU:P.underlying t=some (.slice E))
  (J:(P.info? E).map (λi=>(i.zero,i.size,i.bytes))=some (some z,sz,I)) (p:Option Addr) (c:Nat)
  (hs:a.eval s=.slice none 0 0) (hx:a.eval x=.slice p 0 c)
  (h:wpList P U Q rest (a.put o.dst (.slice none 0 0)) W):
  wpList P U Q (o :: rest) a W:=by
 obtain⟨Z,hi,bE,bY,cA⟩:=info_parts J
 have O:Src P Z.size t (.slice p 0 c) 0 [] W:=by
  cases p with
  | none=>exact Src.ofNil W hU c
  | some a=>exact Src.ofSlice W hU a 0 c [] (by simp) (λj u h=>by simp at h) (λu h=>by cases h)
 have hr:=run_append_nothing (P:=P) W t t o.type E Z hU hi none 0 0 (nR _) (.slice p 0 c) O;refine wpList_plain Y λK' V=>?_
 unfold Oper.wp execOp;simp only[ho,resolve,invoke,builtin,Sem.run_bind,Sem.run_pure,Result.andThen_ok,List.map_toArray,List.map_cons,List.map_nil,hs,hx,hr];exact V _ _ h
theorem bW (g N:Nat) (F:Nat->Rat) (w:World) (h:∀i,i<N->QE (IsQ (F i)) w g (i*4)) (hN:N<=1000000) (hF:∀i,i<N->hq (F i)<=1000000000):
  Calls prog 159 #[.slice (some ⟨g,0,none⟩) N N] w λe w'=>(∃g',e=.returned (.slice (some ⟨g',0,none⟩) N N)/\w.heap.size<=g'/\QRow (λi=>IsQ (F i)) w' g' N N)/\Below w.heap.size w w':=by
 have HR:=Kh h;have HF:=Kh hF;have dE:=Hx N (by omega);clear h hF;go_enter func159,ntmps159
 go_wp2_with fail
 have bB:=QRow.made (λi=>IsQ (F i)) w N;obtain⟨w0,bC⟩:∃w0,w.alloc (.cells (madeCells #[.bool false,.slice none 0 0,.bool false,.slice none 0 0] (N*4)) 86)=w0:=⟨_,rfl⟩
 have cB:Below w.heap.size w w0:=bC▸(Below.refl _ _).alloc (nR _) _;rw[bC]at bB ⊢;have bA:=Kh bB;have Z:=Kh cB;obtain⟨G,hG⟩:∃G,w.heap.size=G:=⟨_,rfl⟩
 rw[hG]at bA Z ⊢;have cA:=Kh hG;clear bB cB bC hG dE;go_loopw [11] (λii wr=>∃k:Nat,k<=N/\ii=.int .i64 k/\QRow (λi=>IsQ (F i)) wr G N k/\Below G w wr) (λii _=>N - (intOf ii).toNat)
 case atStart=>exact⟨0,Nat.zero_le _,rfl,bA.1,Z.1⟩
 case round=>
  obtain⟨k,hk,rfl,Y,J⟩:=hrel;obtain⟨w1,rfl⟩:∃w1:World,w1=wr:=⟨_,rfl⟩
  have O:=Kh Y;have aX:=Kh J;clear Y J bA Z;by_cases hlt:k<N
  ·have hH:(k:Int)<(N:Int):=by omega
   have J:=aX.1;rw[<-cA.1]at J;obtain⟨s,p,n,c,t,q,m,d,a0,a1,a2,a3,hx⟩:=(HR.1 k hlt).keep (IsQ.solid _) J;have HX:=Kh (show Qs w1 s p n c t q m d (F k)from hx);clear hx J;go_wp2_with fail
   obtain⟨w2,bE⟩:∃w2,w1.alloc (.cells #[.bool s,.slice p n c,.bool t,.slice q m d] 86)=w2:=⟨_,rfl⟩
   have V:Below w1.heap.size w1 w2:=bE▸(Below.refl _ _).alloc (nR _) _;rw[bE];refine(Rp s p n c t q m d (F k) w2 (HX.1.keep V) (HF.1 k hlt)).mono ?_;rintro e w3 ⟨⟨s3,p3,n3,c3,t3,q3,m3,d3,rfl,cD⟩,cC⟩;have U:=V.trans (cC.mono V.size);have I:=QRow.keep (λ_=>IsQ.solid _) O.1 U;have cT:=Kh (QRow.set (k':=k+1) (λ_=>IsQ.solid _) I k hlt (λi=>IsQ (F i)) (IsQ.solid _) (λi' h1 h2=>⟨by omega,rfl⟩) (show IsQ (F k) w3 s3 p3 n3 c3 t3 q3 m3 d3 from cD));have cG:=Kh (aX.1.trans (U.mono (Nat.le_of_lt O.1.sts.1)));obtain⟨u0,hI⟩:=nV (I.has (k*4) (by omega));obtain⟨u1,hJ⟩:=nV (I.has (k*4+1) (by omega));obtain⟨u2,hu2⟩:=nV (I.has (k*4+2) (by omega));obtain⟨u3,hL⟩:=nV (I.has (k*4+3) (by omega));have f0:=I.free (k*4) (by omega);have f1:=I.free (k*4+1) (by omega);have f2:=I.free (k*4+2) (by omega);have f3:=I.free (k*4+3) (by omega);clear cD V cC U I bE a0 a1 a2 a3;go_wp2;go_roundw
   case rel=>exact⟨k+1,by omega,by go_num,cT.1,Bb cG.1⟩
   case measure=>simp[intOf];omega
  ·obtain rfl:N=k:=by omega
   have hE:=cA.1;go_wp2;go_ret;exact⟨⟨G,rfl,Nat.le_of_eq hE,O.1⟩,hE▸aX.1⟩
theorem W4 (M B:Nat) (N k D:Int) (F:List Nat) (C:Nat) (X:Nat->Nat->Rat) (n:Nat) (w:World) (h:ModAt w M B N k D F C X) (hn:n<C) (Z:F.length<=1000000) (hX:∀f,f∈F->hq (X n f)<=1000000000):
  Calls prog 116 #[.pointer (some ⟨M,0,none⟩),.int .i64 n] w λe w'=>(∃g,e=.returned (.tuple #[.slice (some ⟨g,0,none⟩) F.length F.length,.int .i64 0])/\w.heap.size<=g/\QRow (λi=>IsQ (X n (F.getD i 0))) w' g F.length F.length)/\Below w.heap.size w w':=by
 obtain⟨GR,c4,_,I⟩:=h.c4;obtain⟨g,r0,hg,hq⟩:=I n hn
 have HC:=Kh (bW g F.length (λi=>X n (F.getD i 0)) w (λi V=>by
  have e:F[i]?=some (F.getD i 0):=by rw[List.getD_eq_getElem?_getD,List.getElem?_eq_getElem V];rfl
  exact hq i _ e) Z (λi V=>hX _ (by rw[List.getD_eq_getElem?_getD,List.getElem?_eq_getElem V];exact List.getElem_mem V)))
 have bE:(n:Int)<(C:Int):=by omega
 have bC:(0:Int)<=(n:Int):=by omega
 clear h I hq hX hg;go_enter func116,ntmps116
 go_wp2_with fail
 refine HC.1.mono ?_;rintro e w1 ⟨⟨g1,rfl,U,J⟩,O⟩;have Y:=Kh (And.intro U (And.intro J O));clear U J O HC;go_wp2
 (first|go_ret2|go_ret)
 exact⟨⟨g1,rfl,Y.1.1,Y.1.2.1⟩,Y.1.2.2⟩
theorem NL.val {F:List Nat} {w:World} {B:Nat} {v:Value} (h:NL F w B v):∃p c,v=.slice p F.length c:=by
 rcases h with⟨rfl,a,c,rfl⟩ |⟨g,cap,e,_⟩
 ·exact⟨a,c,rfl⟩
 ·exact⟨_,_,e⟩
theorem Wr (M B:Nat) (N k D:Int) (F:List Nat) (C:Nat) (X:Nat->Nat->Rat) (w:World) (h:ModAt w M B N k D F C X):
  Calls prog 14 #[.pointer (some ⟨M,0,none⟩)] w λe w'=>e=.returned (.int .i64 (F.length:Int))/\w'=w:=by
 obtain⟨v,c3,I⟩:=h.c3;obtain⟨p,c,rfl⟩:=I.val;clear h I;go_enter func14,ntmps14
 go_wp2;go_ret;exact⟨rfl,rfl⟩
theorem Nt (M B:Nat) (N k D:Int) (F:List Nat) (C:Nat) (X:Nat->Nat->Rat) (w:World) (h:ModAt w M B N k D F C X) (hB:B<=w.heap.size):
  Calls prog 59 #[.pointer (some ⟨M,0,none⟩)] w λe w'=>e=.returned (.agg #[.int .i64 N,.int .i64 k,.int .i64 D])/\Below w.heap.size w w':=by
 have hM:=nT h.lt hB;have c0:=h.c0;have c1:=h.c1;have c2:=h.c2;clear h;go_enter func59,ntmps59
 go_upto_if 4 with(fail)
 obtain⟨w0,U,J,I⟩:=bx1 w #[.int .i64 0,.int .i64 0,.int .i64 0] 23;rw[U];have c0:=cell_next I c0;have c1:=cell_next I c1;have c2:=cell_next I c2;have r0:=J.at_ 0 rfl;have r1:=J.at_ 1 rfl;have r2:=J.at_ 2 rfl;have f0:=J.free_ 0;have f1:=J.free_ 1;have f2:=J.free_ 2;go_wp2;have O:=((J.set_ 0 (.int .i64 N)).set_ 1 (.int .i64 k)).set_ 2 (.int .i64 D);have V:=O.at_ 0 rfl;have Y:=O.at_ 1 rfl;have Z:=O.at_ 2 rfl;try simp only[Exit.inBlock,Exit.then]
 refine bodyPost_ret (by simp[results,results59,go_sem,V,Y,Z];try rfl) rfl ?_;exact⟨rfl,((I.setCell (p:=⟨w.heap.size,0,none⟩) (nR _) _).setCell (p:=⟨w.heap.size,1,none⟩) (nR _) _).setCell (p:=⟨w.heap.size,2,none⟩) (nR _) _⟩
theorem fR (M B:Nat) (N k D:Int) (F:List Nat) (C:Nat) (X:Nat->Nat->Rat) (w:World) (h:ModAt w M B N k D F C X) (bB:F.length<=1000000):
  Calls prog 60 #[.pointer (some ⟨M,0,none⟩)] w λe w'=>(∃v,e=.returned v/\OwnN F w' w.heap.size v)/\Below w.heap.size w w':=by
 obtain⟨v,c3,h3⟩:=h.c3;clear h;rcases h3 with⟨rfl,a,c,rfl⟩ |⟨g,cap,rfl,hc,cD,hg,Z⟩
 ·have HN:=Kh (OwnN.nil w w.heap.size)
  go_enter func60,ntmps60
  go_wp2_with (at_builtin;refine Q0 rfl (.const (.slice none 0 0)) (.tmp 8) _ 3 rfl underlying93 Fc a c rfl rfl ?_)
  go_ret;exact⟨⟨_,rfl,HN.1⟩,Below.refl _ _⟩
 ·rcases Nat.eq_zero_or_pos F.length with h0|Y
  ·have HN:=Kh (OwnN.nil w w.heap.size)
   obtain rfl:F=[]:=List.eq_nil_of_length_eq_zero h0;rw[List.length_nil]at c3;clear hc Z bB h0;go_enter func60,ntmps60
   go_wp2_with (at_builtin;refine Q0 rfl (.const (.slice none 0 0)) (.tmp 8) _ 3 rfl underlying93 Fc (some ⟨g,0,none⟩) cap rfl rfl ?_)
   go_ret;exact⟨⟨_,rfl,HN.1⟩,Below.refl _ _⟩
  ·have HX:=Kh Z
   have I:∀(j:Nat) (u:Value),(F.map λn:Nat=>Value.int .i64 (n:Int))[j]?=some u->w.cell? ⟨g,j,none⟩=some u:=by
    intro j u O;rw[List.getElem?_map]at O;cases hF:F[j]? with
    | none=>rw[hF]at O;cases O
    | some x=>rw[hF]at O;injection O with O;rw[<-O];exact Z j x hF
   have bA:=Kh I;clear Z I;go_enter func60,ntmps60
   go_wp2_with (at_builtin;refine Im NotU32 rfl (.const (.slice none 0 0)) (.tmp 8) _ 3 rfl underlying93 Fc rfl (by decide) w.heap.size 0 F.length g cap (.slice none 0 0) [] (F.map λn:Nat=>Value.int .i64 (n:Int)) rfl (OwnK.nil _ _ _ _ _) rfl (by rw[List.length_map,Nat.mul_one]) bA.1 (by intro u U;obtain⟨x,_,rfl⟩:=List.mem_map.1 U;rfl) (by omega) (by omega) Y (nR _) (by intro u U;obtain⟨x,_,rfl⟩:=List.mem_map.1 U;exact λ_ h=>by cases h) (by intro u U;simp[Value.cells]at U;subst U;exact λ_ h=>by cases h) ?_;intro v' w' J V bC;have HO:=Kh (show OwnN F w' w.heap.size v' by have h:=J;rw[Nat.zero_add,List.nil_append]at h;exact h);have HB:=Kh (A7 (Below.refl w.heap.size w) (OwnK.nil NotU32 w w.heap.size 3 1).1 V (nR _) (nR _));clear J V bC)
   go_ret;exact⟨⟨_,rfl,HO.1⟩,HB.1⟩
end
end Go.Proofs.YtenlbhlllgppmaaGreatDoor
