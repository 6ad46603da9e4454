/- Digits to base 2^32: values, normal forms, lengths. No program in sight. -/
import Derived.Test.YtenlbhlllgppmaaGreatDoorB01
import Derived.Deep.OwnRows
import Derived.Lib.BitFns
import Derived.Lib.Strings
import Derived.Lib.Slices
import Derived.Lib.Small
import Derived.Lib.Walk
set_option maxRecDepth 100000
namespace Go.Proofs.YtenlbhlllgppmaaGreatDoor
namespace Dig
def val:List Nat->Nat
 | []=>0
 | d :: l=>d+4294967296*val l
def N2:Nat->Nat->List Nat
 | 0,_=>[]
 | f+1,n=>if n=0 then []else n % 4294967296 :: N2 f (n / 4294967296)
def dig (n:Nat):List Nat:=N2 n n
theorem S7:∀(f g n:Nat),n<=f->n<=g->N2 f n=N2 g n
 | 0,0,_,_,_=>rfl
 | 0,g+1,n,h,_=>by
  have:n=0:=by omega
  subst this;simp[N2]
 | f+1,0,n,_,h=>by
  have:n=0:=by omega
  subst this;simp[N2]
 | f+1,g+1,n,h,h'=>by
  rw[N2,N2];split
  ·rfl
  ·rename_i h0
   have:n / 4294967296<n:=Nat.div_lt_self (by omega) (by omega);rw[S7 f g _ (by omega) (by omega)]
theorem Ky:dig 0=[]:=rfl
theorem N3 {n:Nat} (h:n≠0):dig n=n % 4294967296 :: dig (n / 4294967296):=by
 obtain⟨m,rfl⟩:∃m,n=m+1:=⟨n - 1,by omega⟩
 unfold dig;rw[N2,if_neg h];have:(m+1) / 4294967296<m+1:=Nat.div_lt_self (by omega) (by omega);rw[S7 m ((m+1) / 4294967296) _ (by omega) (Nat.le_refl _)]
theorem Ls (a b:List Nat):val (a++b)=val a+4294967296 ^ a.length*val b:=by
 induction a with
 | nil=>simp[val]
 | cons d a ih=>rw[List.cons_append,val,val,ih,List.length_cons,Nat.pow_succ,Nat.mul_add];rw[Nat.mul_comm (4294967296 ^ a.length) 4294967296,Nat.mul_assoc];omega
theorem pow_pos (k:Nat):0<4294967296 ^ k:=Nat.pow_pos (by omega)
theorem dig_lt {n k:Nat}:(dig n).length<=k↔n<4294967296 ^ k:=by
 induction k generalizing n with
 | zero=>
  by_cases h:n=0
  ·subst h;simp[Ky]
  ·rw[N3 h];simp;omega
 | succ k ih=>
  by_cases h:n=0
  ·subst h;have:=pow_pos (k+1);simp[Ky];omega
  ·rw[N3 h,List.length_cons,Nat.pow_succ,Nat.add_le_add_iff_right,ih,Nat.div_lt_iff_lt_mul (by omega)]
theorem dig_length_pos {n:Nat}:0<(dig n).length↔n≠0:=by
 by_cases h:n=0
 ·subst h;simp[Ky]
 ·rw[N3 h];simp;exact h
theorem dig_top {n:Nat} (h:n≠0):4294967296 ^ ((dig n).length - 1)<=n:=by
 rcases Nat.lt_or_ge n (4294967296 ^ ((dig n).length - 1))with hlt|I
 ·have:=dig_lt.2 hlt
  have:=dig_length_pos.2 h;omega
 ·exact I
theorem dig_mono {a b:Nat} (h:a<=b):(dig a).length<=(dig b).length:=
 dig_lt.2 (Nat.lt_of_le_of_lt h (dig_lt.1 (Nat.le_refl _)))
theorem dig_add_len (a b:Nat):(dig (a+b)).length<=max (dig a).length (dig b).length+1:=by
 rw[dig_lt,Nat.pow_succ];have I:=dig_lt.1 (show(dig a).length<=max (dig a).length (dig b).length from by omega);have J:=dig_lt.1 (show(dig b).length<=max (dig a).length (dig b).length from by omega);omega
theorem dig_mul_len (a b:Nat):(dig (a*b)).length<=(dig a).length+(dig b).length:=by
 rw[dig_lt,Nat.pow_add];exact Nat.mul_lt_mul'' (dig_lt.1 (Nat.le_refl _)) (dig_lt.1 (Nat.le_refl _))
end Dig
section
open Go.RowKit Tryz
def vf (a:Nat->Nat):Nat->Nat
 | 0=>0
 | n+1=>vf a n+4294967296 ^ n*a n
def shf (a:Nat->Nat) (m:Nat):Nat->Nat:=λi=>a (m+i)
def upd (a:Nat->Nat) (k d:Nat):Nat->Nat:=λj=>if j=k then d else a j
theorem D8 {a b:Nat->Nat} {n:Nat} (h:∀i,i<n->a i=b i):vf a n=vf b n:=by
 induction n with
 | zero=>rfl
 | succ n ih=>rw[vf,vf,ih (λi I=>h i (by omega)),h n (by omega)]
theorem Aw (n:Nat):4294967296 ^ (n+1)=4294967296*4294967296 ^ n:=by rw[Nat.pow_succ,Nat.mul_comm]
theorem Dq {a:Nat->Nat} {n:Nat} (h:∀i,i<n->a i<4294967296):vf a n<4294967296 ^ n:=by
 induction n with
 | zero=>simp[vf]
 | succ n ih=>
  rw[vf,Aw];have J:=ih (λi O=>h i (by omega));have I:=Nat.mul_le_mul_left (4294967296 ^ n) (show a n<=4294967295 from by have:=h n (by omega);omega);rw[Nat.mul_comm _ 4294967295]at I;generalize 4294967296 ^ n*a n=y at *;generalize 4294967296 ^ n=x at *;omega
theorem Ik (a:Nat->Nat) (n:Nat):vf a (n+1)=a 0+4294967296*vf (shf a 1) n:=by
 induction n with
 | zero=>simp[vf]
 | succ n ih=>
  rw[vf,ih,vf,Aw,Nat.mul_assoc,Nat.mul_add,show shf a 1 n=a (n+1)from by simp[shf,Nat.add_comm]];omega
theorem Il (a:Nat->Nat) (m n:Nat):vf a (m+n)=vf a m+4294967296 ^ m*vf (shf a m) n:=by
 induction n with
 | zero=>simp[vf]
 | succ n ih=>
  rw[<-Nat.add_assoc,vf,ih,vf,Nat.pow_add,Nat.mul_add,Nat.mul_assoc,show shf a m n=a (m+n)from rfl];omega
theorem J7 {a:Nat->Nat} {n:Nat} (h:∀i,i<n->a i=0):vf a n=0:=by
 induction n with
 | zero=>rfl
 | succ n ih=>rw[vf,ih (λi I=>h i (by omega)),h n (by omega)];simp
theorem eT {a:Nat->Nat} {m n:Nat} (J:m<=n) (h:∀i,m<=i->i<n->a i=0):vf a n=vf a m:=by
 obtain⟨k,rfl⟩:∃k,n=m+k:=⟨n - m,by omega⟩
 rw[Il,J7 (a:=shf a m) (n:=k) (λi I=>h (m+i) (by omega) (by omega))];simp
theorem B6 {a:Nat->Nat} {k d n:Nat} (h:n<=k):vf (upd a k d) n=vf a n:=
 D8 λi I=>by unfold upd;rw[if_neg (by omega)]
theorem aP {a:Nat->Nat} {k d n:Nat} (h:k<n):vf (upd a k d) n+4294967296 ^ k*a k=vf a n+4294967296 ^ k*d:=by
 induction n with
 | zero=>omega
 | succ n ih=>
  rw[vf,vf];by_cases hk:k=n
  ·subst hk
   rw[B6 (nR _),show upd a k d k=d from by simp[upd]];omega
  ·have I:=ih (by omega)
   rw[show upd a k d n=a n from by unfold upd;rw[if_neg (by omega)]];omega
theorem iX {a b:Nat->Nat} {n:Nat} (J:∀i,i<n->a i<4294967296) (O:∀i,i<n->b i<4294967296) (h:vf a n=vf b n):∀i,i<n->a i=b i:=by
 induction n generalizing a b with
 | zero=>intro i I;omega
 | succ n ih=>
  rw[Ik,Ik]at h;have V:=J 0 (by omega);have Y:=O 0 (by omega);have U:=ih (a:=shf a 1) (b:=shf b 1) (λi I=>J (1+i) (by omega)) (λi I=>O (1+i) (by omega)) (by omega);intro i I;cases i with
  | zero=>omega
  | succ i=>have:=U i (by omega);unfold shf at this;rwa [Nat.add_comm]at this
def nd (v:Nat):Nat:=(Dig.dig v).length
def dg (v:Nat) (i:Nat):Nat:=v / 4294967296 ^ i % 4294967296
theorem dg_lt (v i:Nat):dg v i<4294967296:=Nat.mod_lt _ (by omega)
theorem Bj {v k:Nat}:nd v<=k↔v<4294967296 ^ k:=Dig.dig_lt
theorem Bv {a b:Nat} (h:a<=b):nd a<=nd b:=Dig.dig_mono h
theorem iF (a b:Nat):nd (a+b)<=max (nd a) (nd b)+1:=Dig.dig_add_len a b
theorem Cm (a b:Nat):nd (a*b)<=nd a+nd b:=Dig.dig_mul_len a b
theorem Cq:nd 0=0:=rfl
theorem Bz {v:Nat}:0<nd v↔v≠0:=Dig.dig_length_pos
theorem iH {v:Nat} (h:v≠0):4294967296 ^ (nd v - 1)<=v:=Dig.dig_top h
theorem V8 (v n:Nat):vf (dg v) n=v % 4294967296 ^ n:=by
 induction n with
 | zero=>simp[vf,Nat.mod_one]
 | succ n ih=>rw[vf,ih,Nat.pow_succ,Nat.mod_mul];rfl
theorem Lt {v n:Nat} (h:v<4294967296 ^ n):vf (dg v) n=v:=by rw[V8,Nat.mod_eq_of_lt h]
theorem Bn (v:Nat):vf (dg v) (nd v)=v:=Lt (Bj.1 (nR _))
theorem Xz {a:Nat->Nat} {n:Nat} (I:∀i,i<n->a i<4294967296):∀i,i<n->a i=dg (vf a n) i:=
 iX I (λi _=>dg_lt _ i) (Lt (Dq I)).symm
theorem lA {a:Nat->Nat} {n:Nat} (O:∀i,i<n->a i<4294967296) (h:n=0∨a (n - 1)≠0):nd (vf a n)=n:=by
 have U:nd (vf a n)<=n:=Bj.2 (Dq O);rcases h with rfl|h
 ·rfl
 ·rcases Nat.lt_or_ge (nd (vf a n)) n with I|I
  ·exfalso
   obtain⟨m,rfl⟩:∃m,n=m+1:=⟨n - 1,by omega⟩
   have J:=Bj.1 (show nd (vf a (m+1))<=m from by omega);rw[vf]at J;simp only[Nat.add_sub_cancel]at h;have V:=Nat.mul_le_mul_left (4294967296 ^ m) (show 1<=a m from by omega);omega
  ·omega
structure Dg (w:World) (p:Option Addr) (c n:Nat) (a:Nat->Nat):Prop where
 cap:n<=c
 lt:∀j,j<n->a j<4294967296
 at':n=0∨∃g o,p=some ⟨g,o,none⟩/\g<w.heap.size/\∀j,j<n->w.cell? ⟨g,o+j,none⟩=some (.int .u32 (a j))
def Nm (w:World) (p:Option Addr) (c v:Nat):Prop:=Dg w p c (nd v) (dg v)
theorem Dg.keep {w w':World} {p:Option Addr} {c n:Nat} {a:Nat->Nat} (h:Dg w p c n a) (I:Below w.heap.size w w'):Dg w' p c n a:=
 ⟨h.cap,h.lt,by
  rcases h.at' with J |⟨g,o,e,hg,O⟩
  ·exact .inl J
  ·exact .inr ⟨g,o,e,nT hg I.size,λj U=>(I.cell (p:=⟨g,o+j,none⟩) hg).trans (O j U)⟩⟩
theorem Dg.below {B:Nat} {w w':World} {g o c n:Nat} {a:Nat->Nat} (h:Dg w (some ⟨g,o,none⟩) c n a) (J:Below B w w') (hg:g<B):Dg w' (some ⟨g,o,none⟩) c n a:=
 ⟨h.cap,h.lt,by
  rcases h.at' with O |⟨Y,Z,e,I,U⟩
  ·exact .inl O
  ·injection e with e;injection e with e1 e2;subst e1;subst e2
   exact .inr ⟨g,o,rfl,nT I J.size,λj V=>(J.cell (p:=⟨g,o+j,none⟩) hg).trans (U j V)⟩⟩
theorem Dg.congr {w:World} {p:Option Addr} {c n:Nat} {a b:Nat->Nat} (h:Dg w p c n a) (e:∀j,j<n->a j=b j):Dg w p c n b:=
 ⟨h.cap,λj I=>by rw[<-e j I];exact h.lt j I,by
  rcases h.at' with O |⟨g,o,J,hg,U⟩
  ·exact .inl O
  ·exact .inr ⟨g,o,J,hg,λj I=>by rw[<-e j I];exact U j I⟩⟩
theorem Dg.take {w:World} {p:Option Addr} {c n:Nat} {a:Nat->Nat} (h:Dg w p c n a) {k:Nat} (U:k<=n):Dg w p c k a:=
 ⟨by have:=h.cap;omega,λj J=>h.lt j (by omega),by
  rcases h.at' with O |⟨g,o,e,hg,I⟩
  ·exact .inl (by omega)
  ·exact .inr ⟨g,o,e,hg,λj J=>I j (by omega)⟩⟩
theorem Dg.head {w:World} {p:Option Addr} {c n:Nat} {a:Nat->Nat} (h:Dg w p c n a) (hn:0<n):∃g o,p=some ⟨g,o,none⟩/\g<w.heap.size/\∀j,j<n->w.cell? ⟨g,o+j,none⟩=some (.int .u32 (a j)):=
 h.at'.resolve_left (by omega)
theorem Dg.norm {w:World} {p:Option Addr} {c n:Nat} {a:Nat->Nat} (h:Dg w p c n a) (J:n=0∨a (n - 1)≠0):nd (vf a n)=n/\Nm w p c (vf a n):=by
 have I:=lA h.lt J;exact⟨I,by unfold Nm;rw[I];exact h.congr (Xz h.lt)⟩
theorem Nm.keep {w w':World} {p:Option Addr} {c v:Nat} (h:Nm w p c v) (I:Below w.heap.size w w'):Nm w' p c v:=Dg.keep h I
theorem Nm.nil (w:World):Nm w none 0 0:=⟨nR _,λj I=>absurd I (by simp[Cq]),.inl Cq⟩
def Row (w:World) (g n:Nat) (a:Nat->Nat):Prop:=w.rowIs g 200 n (λi=>.int .u32 (a i))/\∀j,j<n->a j<4294967296
theorem Row.dg {w:World} {g n:Nat} {a:Nat->Nat} (h:Row w g n a) (c:Nat) (I:n<=c):Dg w (some ⟨g,0,none⟩) c n a:=
 ⟨I,h.2,.inr ⟨g,0,rfl,h.1.lt,λj J=>by rw[Nat.zero_add];exact h.1.cell J⟩⟩
theorem Row.set {w:World} {g n:Nat} {a:Nat->Nat} (h:Row w g n a) (k d:Nat) (I:d<4294967296):Row (w.setCell ⟨g,k,none⟩ (.int .u32 d)) g n (upd a k d):=
 ⟨(h.1.set k _).congr (λi _=>by unfold upd;split <;> rfl),λj J=>by unfold upd;split;exact I;exact h.2 j J⟩
theorem Row.made (w:World) (n:Nat):Row (w.alloc (.cells (madeCells #[.int .u32 0] n) 200)) w.heap.size n (λ_=>0):=
 ⟨World.rowIs_made w _ n _,λ_ _=>(by decide:(0:Nat)<4294967296)⟩
theorem Row.below {B:Nat} {w w':World} {g n:Nat} {a:Nat->Nat} (h:Row w g n a) (I:Below B w w') (hg:g<B):Row w' g n a:=⟨h.1.of_block (I.block g hg),h.2⟩
theorem Row.congr {w:World} {g n:Nat} {a b:Nat->Nat} (h:Row w g n a) (e:∀j,j<n->a j=b j):Row w g n b:=
 ⟨h.1.congr (λi J=>by rw[e i J]),λj I=>by rw[<-e j I];exact h.2 j I⟩
theorem Row.alloc (w:World) (I:Array Value) (n:Nat) (a:Nat->Nat) (hn:I.size=n) (h:∀i,i<n->I[i]?=some (.int .u32 (a i))) (J:∀i,i<n->a i<4294967296):Row (w.alloc (.cells I 200)) w.heap.size n a:=by
 subst hn;exact⟨World.rowIs_alloc w I _ _ h,J⟩
theorem aM {a b:Nat->Nat} {n i:Nat} (V:i<n) (J:∀j,j<n->a j<4294967296) (h:∀j,i<j->j<n->a j=b j) (hlt:a i<b i):vf a n<vf b n:=by
 obtain⟨k,rfl⟩:∃k,n=(i+1)+k:=⟨n - (i+1),by omega⟩
 rw[Il,Il b,D8 (a:=shf a (i+1)) (b:=shf b (i+1)) (n:=k) (λj O=>h (i+1+j) (by omega) (by omega)),vf,vf];have U:=Dq (a:=a) (n:=i) (λj O=>J j (by omega));have I:=Nat.mul_le_mul_left (4294967296 ^ i) (show a i+1<=b i from hlt);rw[Nat.mul_add,Nat.mul_one]at I;omega
theorem Ze {u v:Nat} (h:nd u<nd v):u<v:=by
 rcases Nat.lt_or_ge u v with I|I
 ·exact I
 ·have:=Bv I;omega
theorem dL (y x:Nat) (J:y<4294967296) (I:x<4294967296):bits .or .u64 ((y:Int)*4294967296) (x:Int)=((x+4294967296*y:Nat):Int):=by
 rw[show(y:Int)*4294967296=((2 ^ 32*y:Nat):Int)from by omega,bits_or_u64_nat _ _ (by omega) (by omega),<-Nat.two_pow_add_eq_or_of_lt (show x<2 ^ 32 from I)];omega
def RetD (w':World) (e:Ending) (k t:Nat):Prop:=∃p c r,e=.returned (.slice p k c)/\Dg w' p c k r/\vf r k=t
def RetN (w':World) (e:Ending) (v:Nat):Prop:=∃p c,e=.returned (.slice p (nd v) c)/\Nm w' p c v
theorem Gw:(prog.info? 200).map (λi=>(i.zero,i.size,i.bytes))=some (some (.int .u32 0),1,4):=by kernel_rfl
theorem F7 (n:Nat) (h:n<=70368744177664) (w:World):
  (Instr.makeSlice 82 (.int .i64 (n:Int)) (.int .i64 (n:Int))).run prog w=.ok (.slice (some ⟨w.heap.size,0,none⟩) n n) (w.alloc (.cells (madeCells #[.int .u32 0] n) 200)):=
 run_make_row' 82 200 (.int .u32 0) 4 underlying82 Gw rfl .i64 .i64 n (by omega) (by omega) w
theorem Dy (p:Option Addr) (c n:Nat) (a:Nat->Nat) (w:World) (h:Dg w p c n a) (hn:n<=70368744177664):
  Calls prog 129 #[.slice p n c] w λe w'=>(e=.returned (.slice p (nd (vf a n)) c)/\Nm w p c (vf a n))/\w'=w:=by
 have H:=Kh h;have V:=h.cap;clear h;go_enter func129,ntmps129
 go_wp2;go_loop [0] (λm=>∃k:Nat,m=.slice p k c/\k<=n/\vf a k=vf a n) (λm=>(match m with |.slice _ k _=>k|_=>0))
 case atStart=>exact⟨n,rfl,nR _,rfl⟩
 case round=>
  obtain⟨k,rfl,Y,Z⟩:=hrel;have O:=Kh Z;clear Z;by_cases h0:k=0
  ·subst h0
   have I:=(H.1.take Y).norm (.inl rfl);rw[O.1]at I;have J:=Kh I;clear I;go_wp2;go_ret;exact⟨⟨by rw[J.1.1];rfl,J.1.2⟩,rfl⟩
  ·have bA:0<k:=by omega
   obtain⟨g,o,rfl,hg,U⟩:=H.1.head (by omega);have c1:=U (k - 1) (by omega);have e1:((k:Int) - 1).toNat=k - 1:=by omega
   clear U;by_cases hz:a (k - 1)=0
   ·have HZ:=Kh hz
    rw[hz]at c1;clear hz;go_wp2;go_round
    case rel=>exact⟨k - 1,rfl,by omega,by
     rw[<-O.1];obtain⟨m,rfl⟩:∃m,k=m+1:=⟨k - 1,by omega⟩
     rw[vf];have:=HZ.1;simp only[Nat.add_sub_cancel]at this ⊢;rw[this];simp⟩
    case measure=>simp only;omega
   ·have I:=(H.1.take Y).norm (.inr hz)
    rw[O.1]at I;have J:=Kh I;have bB:(((a (k - 1):Nat):Int)==0)=false:=beq_eq_false_iff_ne.2 (by omega);clear I hz;go_wp2;go_ret;exact⟨⟨by rw[J.1.1];rfl,J.1.2⟩,rfl⟩
theorem gH (n:Int) (w:World):
  Calls prog 202 #[.int .i64 n] w λe w'=>e=.returned (.int .i64 (Int.sign n))/\w'=w:=by
 go_enter func202,ntmps202
 go_wp2;all_goals go_ret
 all_goals refine⟨A5 ?_,rfl⟩
 all_goals try simp only[decide_eq_true_eq,decide_eq_false_iff_not,Int.not_lt]at *
 all_goals first|exact(Int.sign_eq_neg_one_of_neg (by omega)).symm|exact(Int.sign_eq_one_of_pos (by omega)).symm |(rw[show n=0 from by omega];rfl)
theorem iG {v:Nat} (I:v≠0) (h:v<4294967296):nd v=1:=by
 have J:=Bz.2 I;have O:=(Bj (v:=v) (k:=1)).2 (by omega);omega
theorem iI {v:Nat} (J:4294967296<=v) (h:v<18446744073709551616):nd v=2:=by
 have O:=(Bj (v:=v) (k:=2)).2 (by omega);have U:¬nd v<=1:=λI=>by have:=Bj.1 I;omega
 omega
theorem Iw (v:Nat) (w:World) (I:v<18446744073709551616):
  Calls prog 132 #[.int .u64 v] w λe w'=>RetN w' e v/\Below w.heap.size w w':=by
 go_enter func132,ntmps132
 by_cases h0:v=0
 ·subst h0
  go_wp2;go_ret;exact⟨⟨none,0,rfl,Nm.nil _⟩,Below.refl _ _⟩
 ·have U:((v:Int)==0)=false:=beq_eq_false_iff_ne.2 (by omega)
  have Z:(v:Int)<18446744073709551616:=by omega
  have J:=Kh h0;have O:=Kh I;by_cases h1:(v:Int)<4294967296
  ·have h:(v:Int) % 4294967296=v:=by omega
   clear I h0;go_wp2;go_ret;have hn:=iG J.1 (by omega);refine⟨⟨_,1,by rw[hn];rfl,?_⟩,(Below.refl _ _).alloc (nR _) _⟩;unfold Nm;rw[hn];refine(Row.alloc w _ 1 (dg v) rfl (λi Y=>?_) (λi _=>dg_lt v i)).dg 1 (nR _);obtain rfl:i=0:=by omega
   simp[dg];omega
  ·clear I h0
   go_wp2;go_ret;have hn:=iI (by omega) O.1;refine⟨⟨_,2,by rw[hn];rfl,?_⟩,(Below.refl _ _).alloc (nR _) _⟩;unfold Nm;rw[hn];refine(Row.alloc w _ 2 (dg v) rfl (λi Y=>?_) (λi _=>dg_lt v i)).dg 2 (nR _);rcases Nat.lt_or_ge i 1 with V|V
   ·obtain rfl:i=0:=by omega
    simp[dg]
   ·obtain rfl:i=1:=by omega
    simp[dg];omega
theorem gK (p:Option Addr) (c n:Nat) (a:Nat->Nat) (w:World) (h:Dg w p c n a) (hn:n<=2):
  Calls prog 204 #[.slice p n c] w λe w'=>e=.returned (.int .u64 (vf a n:Nat))/\∃k,w'=w.drewN k:=by
 by_cases h0:n=0
 ·subst h0
  go_enter func204,ntmps204
  go_wp2;go_ret;exact⟨rfl,0,rfl⟩
 ·obtain⟨g,o,rfl,hg,O⟩:=h.head (by omega)
  have Y:=h.lt 0 (by omega);have c0:=O 0 (by omega);obtain⟨x,J⟩:∃x,a 0=x:=⟨_,rfl⟩
  rw[J]at Y c0;rw[Nat.add_zero]at c0;have aX:(x:Int)<4294967296:=by omega
  by_cases h1:n=1
  ·subst h1
   have I:vf a 1=x:=by simp[vf,J]
   have U:=Kh I;clear O h J Y I;go_enter func204,ntmps204
   go_wp2;go_ret;exact⟨A5 (by rw[U.1]),0,rfl⟩
  ·obtain rfl:n=2:=by omega
   have Z:=h.lt 1 (by omega);have c1:=O 1 (by omega);obtain⟨y,V⟩:∃y,a 1=y:=⟨_,rfl⟩
   rw[V]at Z c1;have bA:(y:Int)<4294967296:=by omega
   have I:vf a 2=x+4294967296*y:=by simp[vf,J,V]
   have U:=Kh I;clear O h J V Y Z I;go_enter func204,ntmps204
   go_wp2;go_quiet (fail)
   go_wp2;go_ret;exact⟨A5 (by rw[U.1];exact dL _ _ (by omega) (by omega)),nq,rfl⟩
theorem Ku {u v:Nat} (h:u<v):Int.sign ((u:Int) - v)=-1:=Int.sign_eq_neg_one_of_neg (by omega)
theorem N1 {u v:Nat} (h:v<u):Int.sign ((u:Int) - v)=1:=Int.sign_eq_one_of_pos (by omega)
theorem gO {u v:Nat} (h:nd u≠nd v):Int.sign ((nd u:Int) - nd v)=Int.sign ((u:Int) - v):=by
 rcases Nat.lt_or_gt_of_ne h with I|I
 ·rw[Ku I,Ku (Ze I)]
 ·rw[N1 I,N1 (Ze I)]
theorem bU (p:Option Addr) (c:Nat) (q:Option Addr) (d n:Nat) (a b:Nat->Nat) (s:Int) (w:World) (U:Dg w p c n a) (J:Dg w q d n b) (hn:n<=70368744177664) (hs:Int.sign ((vf a n:Int) - (vf b n:Nat))=s):
  Calls prog 167 #[.slice p n c,.slice q n d] w λe w'=>e=.returned (.int .i64 s)/\∃k,w'=w.drewN k:=by
 have H1:=Kh U;have H2:=Kh J;have HS:=Kh hs;clear U J hs;go_enter func167,ntmps167
 go_wp2;go_loopw [5] (λi wr=>∃k:Nat,k<=n/\i=.int .i64 ((k:Int) - 1)/\(∀j,k<=j->j<n->a j=b j)/\∃m,wr=w.drewN m) (λi _=>(intOf i+1).toNat)
 case atStart=>exact⟨n,nR _,by go_num,λj U J=>by omega,0,rfl⟩
 case round=>
  obtain⟨k,hk,rfl,Z,mr,rfl⟩:=hrel;have HE:=Kh Z;clear Z;by_cases h0:k=0
  ·subst h0
   go_wp2;go_ret;refine⟨A5 ?_,mr,rfl⟩;rw[<-HS.1,D8 λi hi=>HE.1 i (by omega) hi];simp
  ·have dE:0<k:=by omega
   obtain⟨g1,o1,rfl,cT,V⟩:=H1.1.head (by omega);obtain⟨g2,o2,rfl,cX,Y⟩:=H2.1.head (by omega);have c1:=V (k - 1) (by omega);have c2:=Y (k - 1) (by omega);have e1:((k:Int) - 1).toNat=k - 1:=by omega
   have dY:(1:Int)<=(k:Int):=by omega
   obtain⟨x,hx⟩:∃x,a (k - 1)=x:=⟨_,rfl⟩
   obtain⟨y,hy⟩:∃y,b (k - 1)=y:=⟨_,rfl⟩
   rw[hx]at c1;rw[hy]at c2;have HX:=Kh hx;have HY:=Kh hy;clear V Y hx hy;by_cases hxy:x=y
   ·subst hxy
    go_wp2;go_quiet (fail)
    go_wp2;go_roundw
    case rel=>exact⟨k - 1,by omega,by go_num,λj U J=>by
     rcases Nat.lt_or_ge j k with h3|h3
     ·rw[show j=k - 1 from by omega,HX.1,HY.1]
     ·exact HE.1 j h3 J,_,rfl⟩
    case measure=>simp[intOf];omega
   ·have cF:((x:Int) !=(y:Int))=true:=by rw[bne_iff_ne];omega
    have HL:=Kh hxy;clear hxy;by_cases hlt:(x:Int)<(y:Int)
    ·have h:=aM (a:=a) (b:=b) (n:=n) (i:=k - 1) (by omega) H1.1.lt (λj U J=>HE.1 j (by omega) J) (by rw[HX.1,HY.1];omega)
     have I:=Ku h;rw[HS.1]at I;have O:=Kh I;clear h I;go_wp2;go_quiet (fail)
     go_wp2;go_quiet (fail)
     go_wp2;go_ret;exact⟨A5 O.1.symm,_,by rw[L7,L7]⟩
    ·have h:=aM (a:=b) (b:=a) (n:=n) (i:=k - 1) (by omega) H2.1.lt (λj U J=>(HE.1 j (by omega) J).symm) (by rw[HX.1,HY.1];have:=HL.1;omega)
     have I:=N1 h;rw[HS.1]at I;have O:=Kh I;clear h I;go_wp2;go_quiet (fail)
     go_wp2;go_quiet (fail)
     go_wp2;go_ret;exact⟨A5 O.1.symm,_,by rw[L7,L7]⟩
theorem Ek (p:Option Addr) (c u:Nat) (q:Option Addr) (d v:Nat) (w:World) (h:Nm w p c u) (J:Nm w q d v) (Z:nd u<=70368744177664) (hv:nd v<=70368744177664):
  Calls prog 167 #[.slice p (nd u) c,.slice q (nd v) d] w λe w'=>e=.returned (.int .i64 (Int.sign ((u:Int) - v)))/\∃k,w'=w.drewN k:=by
 by_cases hne:nd v=nd u
 ·have Y:Dg w q d (nd u) (dg v):=by rw[<-hne];exact J
  have I:vf (dg v) (nd u)=v:=by rw[<-hne];exact Bn v
  rw[hne];exact bU p c q d (nd u) (dg u) (dg v) _ w h Y Z (by rw[Bn,I])
 ·have U:=gO (Ne.symm hne)
  have O:((nd u:Int) !=(nd v:Int))=true:=by rw[bne_iff_ne];omega
  generalize Int.sign ((u:Int) - v)=s at *;generalize nd u=n at *;generalize nd v=m at *;have V:=Kh U;clear h J U hne;go_enter func167,ntmps167
  go_wp2_with (go_at_call 202;refine(gH _ _).mono ?_;rw[V.1];rintro e w' ⟨rfl,rfl⟩)
  go_ret;exact⟨rfl,0,rfl⟩
theorem Np (x y z:Nat) (w:World) (J:(x:Int)<4294967296) (O:(y:Int)<4294967296) (U:(z:Int)<4294967296):
  Calls prog 201 #[.int .u32 x,.int .u32 y,.int .u32 z] w λe w'=>e=.returned (.tuple #[.int .u32 ((x+y+z) % 4294967296:Nat),.int .u32 ((x+y+z) / 4294967296:Nat)])/\w'=w:=by
 have I:((x:Int)+(y:Int)+(z:Int)) / 4294967296 % 4294967296=((x:Int)+(y:Int)+(z:Int)) / 4294967296:=by omega
 go_enter func201,ntmps201
 go_wp2;go_ret2
 exact⟨by simp,rfl⟩
theorem eI (n:Nat) (h:n<4294967296):n / 2147483648=if n.testBit 31 then 1 else 0:=by
 rw[Nat.testBit_eq_decide_div_mod_eq];have e:(2:Nat) ^ 31=2147483648:=by decide
 rw[e];simp only[decide_eq_true_eq];split <;> omega
theorem Nj (n:Nat) (h:n<4294967296):n.testBit 31=decide (2147483648<=n):=by
 rw[Nat.testBit_eq_decide_div_mod_eq];have e:(2:Nat) ^ 31=2147483648:=by decide
 rw[e];rw[decide_eq_decide];omega
theorem bG (x y z d:Nat) (V:x<4294967296) (Y:y<4294967296) (h:z<=1) (Z:(d:Int)=((x:Int) - y - z) % 4294967296):
  (((4294967295 ^^^ x) &&& y) |||((4294967295 ^^^ (x ^^^ y)) &&& d)) / 2147483648=if x<y+z then 1 else 0:=by
 have I:d<4294967296:=by omega
 have e:(4294967296:Nat)=2 ^ 32:=by decide
 have J:((4294967295 ^^^ x) &&& y)<2 ^ 32:=Nat.and_lt_two_pow _ (by omega);have O:((4294967295 ^^^ (x ^^^ y)) &&& d)<2 ^ 32:=Nat.and_lt_two_pow _ (by omega);have U:=Nat.or_lt_two_pow J O;rw[eI _ (by omega),Nat.testBit_or,Nat.testBit_and,Nat.testBit_and,Nat.testBit_xor,Nat.testBit_xor,Nat.testBit_xor,Nj x V,Nj y Y,Nj d I,show(4294967295:Nat).testBit 31=true from by decide];clear J O U e;by_cases a1:2147483648<=x <;> by_cases a2:2147483648<=y <;> by_cases a3:2147483648<=d <;> simp only[a1,a2,a3,decide_true,decide_false,Bool.xor_true,Bool.xor_false,Bool.not_true,Bool.not_false,Bool.and_true,Bool.and_false,Bool.or_true,Bool.or_false,if_true,Bool.false_eq_true,if_false] <;> split <;> first|rfl |(exfalso;omega)|omega
theorem bF (x y z:Nat) (J:x<4294967296) (O:y<4294967296) (hz:z<=1):
  bits .or .u32 (bits .and .u32 (bits .xor .u32 (if IntKind.u32.signed=true then -1 else IntKind.u32.max) (x:Int)) (y:Int)) (bits .and .u32 (bits .xor .u32 (if IntKind.u32.signed=true then -1 else IntKind.u32.max) (bits .xor .u32 (x:Int) (y:Int))) (((x:Int) - y - z) % 4294967296)) / 2147483648=if x<y+z then 1 else 0:=by
 obtain⟨d,U⟩:∃d:Nat,(d:Int)=((x:Int) - y - z) % 4294967296:=⟨(((x:Int) - y - z) % 4294967296).toNat,by omega⟩
 have V:(if IntKind.u32.signed=true then(-1:Int)else IntKind.u32.max)=((4294967295:Nat):Int):=by decide
 have e:(4294967296:Nat)=2 ^ 32:=by decide
 have Y:x ^^^ y<4294967296:=by rw[e];exact Nat.xor_lt_two_pow (by omega) (by omega)
 have Z:4294967295 ^^^ x<4294967296:=by rw[e];exact Nat.xor_lt_two_pow (by omega) (by omega)
 have h:4294967295 ^^^ (x ^^^ y)<4294967296:=by rw[e];exact Nat.xor_lt_two_pow (by omega) (by omega)
 have h4:(4294967295 ^^^ x) &&& y<4294967296:=by rw[e];exact Nat.and_lt_two_pow _ (by omega)
 have h5:(4294967295 ^^^ (x ^^^ y)) &&& d<4294967296:=by rw[e];exact Nat.and_lt_two_pow _ (by omega)
 rw[<-U,V,u32_xor_nat _ _ (by omega) J,u32_xor_nat _ _ J O,u32_xor_nat _ _ (by omega) Y,u32_and_nat _ _ Z O,u32_and_nat _ _ h (by omega),u32_or_nat _ _ h4 h5];have:=bG x y z d J O hz U;have I:=congrArg (Int.ofNat) this;split at I
 ·rename_i hh;rw[if_pos hh];simpa using I
 ·rename_i hh;rw[if_neg hh];simpa using I
theorem Jl (x y z:Nat) (w:World) (V:(x:Int)<4294967296) (Y:(y:Int)<4294967296) (Z:(z:Int)<=1):
  Calls prog 203 #[.int .u32 x,.int .u32 y,.int .u32 z] w λe w'=>e=.returned (.tuple #[.int .u32 (((x:Int) - y - z) % 4294967296),.int .u32 (if x<y+z then 1 else 0)])/\w'=w:=by
 have J:=bF x y z (by omega) (by omega) (by omega);obtain⟨b,I⟩:∃b:Int,(if x<y+z then(1:Int)else 0)=b:=⟨_,rfl⟩
 rw[I]at J ⊢;have U:=Kh J;have O:((((x:Int) - y) % 4294967296 - z) % 4294967296)=((x:Int) - y - z) % 4294967296:=by omega
 clear J I;go_enter func203,ntmps203
 go_wp
 go_ret2
 refine⟨?_,rfl⟩;rw[<-U.1];first|rfl |(rw[<-O];rfl) |(simp[O];done)
def ext (b:Nat->Nat) (m:Nat):Nat->Nat:=λj=>if j<m then b j else 0
theorem Ya (b:Nat->Nat) {m n:Nat} (h:m<=n):vf (ext b m) n=vf b m:=by
 rw[eT h (λi J _=>by unfold ext;rw[if_neg (by omega)])];exact D8 λi I=>by unfold ext;rw[if_pos I]
def We (w:World) (g:Nat) (n1 i:Nat) (t:Nat) (cy:Nat):Prop:=∃r,Row w g n1 r/\vf r i+4294967296 ^ i*cy=t
theorem M7 {w:World} {g Y i J x y s O:Nat} {a b r:Nat->Nat} (I:Row w g Y r) (V:vf r i+4294967296 ^ i*J=vf a i+vf b i) (hx:a i=x) (hy:b i=y) (hs:(x+y+J) % 4294967296=s) (Z:(x+y+J) / 4294967296=O):
  We (w.setCell ⟨g,i,none⟩ (.int .u32 s)) g Y (i+1) (vf a (i+1)+vf b (i+1)) O:=by
 refine⟨_,I.set i s (by omega),?_⟩;rw[vf,vf,vf,B6 (nR _),show upd r i s i=s from by simp[upd],Aw,hx,hy];have h:x+y+J=s+4294967296*O:=by omega
 have U:=congrArg (4294967296 ^ i * ·) h;simp only[Nat.mul_add]at U;rw[Nat.mul_left_comm]at U;rw[Nat.mul_assoc];omega
theorem Xc (p:Option Addr) (c n:Nat) (a:Nat->Nat) (q:Option Addr) (d m:Nat) (b:Nat->Nat) (w:World) (h1:Dg w p c n a) (h2:Dg w q d m b) (hn:n<=70368744177660) (hm:m<=70368744177660):
  Calls prog 166 #[.slice p n c,.slice q m d] w λe w'=>RetD w' e (max n m+1) (vf a n+vf b m)/\Below w.heap.size w w':=by
 obtain⟨T,hT⟩:∃T,vf a n+vf b m=T:=⟨_,rfl⟩
 obtain⟨M,h⟩:∃M,max n m+1=M:=⟨_,rfl⟩
 rw[hT,h];have H1:=Kh h1;have H2:=Kh h2;have HT:=Kh hT;have HM:=Kh h;clear h1 h2 hT h;go_enter func166,ntmps166
 go_upto_if 14 with(fail)
 go_cut [0,1] (λv0 v1 wc=>wc=w/\∃p c n a q d m b,v0=.slice p n c/\v1=.slice q m d/\Dg w p c n a/\Dg w q d m b/\m<=n/\n<=70368744177660/\vf a n+vf b m=T/\n+1=M)
 case first=>
  by_cases hlt:(n:Int)<(m:Int)
  ·have Z:m+1=M:=by have:=HM.1;omega
   have HX:=Kh Z;clear Z;go_wp2;go_meet
   case rel=>exact⟨rfl,q,d,m,b,p,c,n,a,rfl,rfl,H2.1,H1.1,by omega,by omega,by rw[Nat.add_comm];exact HT.1,HX.1⟩
  ·have Z:n+1=M:=by have:=HM.1;omega
   have HX:=Kh Z;clear Z;go_wp2;go_meet
   case rel=>exact⟨rfl,p,c,n,a,q,d,m,b,rfl,rfl,H1.1,H2.1,by omega,by omega,HT.1,HX.1⟩
 case rest=>
  clear H1 H2 HT HM hn hm p c n a q d m b;obtain⟨rfl,p,c,n,a,q,d,m,b,rfl,rfl,h1,h2,hH,hn,hT,h⟩:=hcut;have hY:∀w,(Instr.makeSlice 82 (.int .i64 ((n:Int)+1)) (.int .i64 ((n:Int)+1))).run prog w=.ok (.slice (some ⟨w.heap.size,0,none⟩) (n+1) (n+1)) (w.alloc (.cells (madeCells #[.int .u32 0] (n+1)) 200)):=F7 (n+1) (by omega)
  obtain⟨B,hB⟩:∃B,B=wc.heap.size:=⟨_,rfl⟩
  have I:=Row.made wc (n+1);have H1:=Kh h1;have H2:=Kh h2;have HT:=Kh hT;have HM:=Kh h;have HR:=Kh I;clear h1 h2 hT h I;go_wp2;obtain⟨wb,bB⟩:∃wb,wc.alloc (.cells (madeCells #[.int .u32 0] (n+1)) 200)=wb:=⟨_,rfl⟩
  rw[bB];have bC:Below wc.heap.size wc wb:=by rw[<-bB];exact(Below.refl _ _).alloc (nR _) _
  rw[bB]at HR;have gP:=Kh bC;clear bB bC;go_loopw [6,23] (λv6 cC wr=>∃i U:Nat,i<=n/\v6=.int .u32 U/\cC=.int .i64 i/\(U:Int)<=1/\We wr wc.heap.size (n+1) i (vf a i+vf (ext b m) i) U/\Below wc.heap.size wc wr) (λ_ cC _=>n - (intOf cC).toNat)
  case atStart=>exact⟨0,0,Nat.zero_le _,rfl,rfl,by decide,⟨_,HR.1,rfl⟩,gP.1⟩
  case round=>
   obtain⟨i,U,hi,rfl,rfl,hD,⟨r,I,J⟩,hb⟩:=hrel;have HB:=Kh hb;clear hb;have gF:∃u,wr.cell? ⟨wc.heap.size,i,none⟩=some u:=⟨_,I.1.cell (by omega)⟩
   obtain⟨u,gF⟩:=gF;have hW:wr.frozen? ⟨wc.heap.size,i,none⟩=false:=I.1.frozen i;by_cases hlt:(i:Int)<(n:Int)
   ·obtain⟨g1,o1,rfl,hE,eP⟩:=H1.1.head (by omega)
    have c1:wr.cell? ⟨g1,o1+i,none⟩=_:=(HB.1.cell (p:=⟨g1,o1+i,none⟩) hE).trans (eP i (by omega));have hJ:((a i:Nat):Int)<4294967296:=by have:=H1.1.lt i (by omega);omega
    obtain⟨x,Z⟩:∃x,a i=x:=⟨_,rfl⟩
    rw[Z]at c1 hJ;clear eP;by_cases hmi:(i:Int)<(m:Int)
    ·obtain⟨g2,o2,rfl,hG,gA⟩:=H2.1.head (by omega)
     have c2:wr.cell? ⟨g2,o2+i,none⟩=_:=(HB.1.cell (p:=⟨g2,o2+i,none⟩) hG).trans (gA i (by omega));have gN:((b i:Nat):Int)<4294967296:=by have:=H2.1.lt i (by omega);omega
     obtain⟨y,Y⟩:∃y,b i=y:=⟨_,rfl⟩
     have hy:ext b m i=y:=by unfold ext;rw[if_pos (by omega)];exact Y
     rw[Y]at c2 gN;clear gA Y;have HC:=Np x y U wr (by omega) (by omega) (by omega);obtain⟨s,hs⟩:∃s,(x+y+U) % 4294967296=s:=⟨_,rfl⟩
     obtain⟨cz,V⟩:∃cz,(x+y+U) / 4294967296=cz:=⟨_,rfl⟩
     rw[hs,V]at HC;have hI:(s:Int)<4294967296:=by omega
     have cA:(cz:Int)<=1:=by omega
     have O:=M7 I J Z hy hs V;have HN:=Kh O;have HC:=Kh HC;clear O hs V Z hy J I;go_wp2_with (go_at_call 201;refine HC.1.mono ?_;rintro e w' ⟨rfl,rfl⟩)
     go_roundw
     case rel=>exact⟨i+1,cz,by omega,rfl,by go_num,cA,HN.1,HB.1.setCell (nR _) _⟩
     case measure=>simp[intOf];omega
    ·obtain⟨y,Y⟩:∃y:Nat,0=y:=⟨_,rfl⟩
     have hy:ext b m i=y:=by unfold ext;rw[if_neg (by omega)];exact Y
     subst Y;have gN:((0:Nat):Int)<4294967296:=by decide
     have HC:=Np x 0 U wr (by omega) (by omega) (by omega);obtain⟨s,hs⟩:∃s,(x+0+U) % 4294967296=s:=⟨_,rfl⟩
     obtain⟨cz,V⟩:∃cz,(x+0+U) / 4294967296=cz:=⟨_,rfl⟩
     rw[hs,V]at HC;have hI:(s:Int)<4294967296:=by omega
     have cA:(cz:Int)<=1:=by omega
     have O:=M7 I J Z hy hs V;have HN:=Kh O;have HC:=Kh HC;clear O hs V Z hy J I;go_wp2_with (go_at_call 201;refine HC.1.mono ?_;rintro e w' ⟨rfl,rfl⟩)
     go_roundw
     case rel=>exact⟨i+1,cz,by omega,rfl,by go_num,cA,HN.1,HB.1.setCell (nR _) _⟩
     case measure=>simp[intOf];omega
   ·obtain rfl:i=n:=by omega
    have bE:Row (wr.setCell ⟨wc.heap.size,i,none⟩ (.int .u32 U)) wc.heap.size (i+1) (upd r i U):=I.set i U (by omega)
    have bY:vf (upd r i U) (i+1)=T:=by
     rw[vf,B6 (nR _),show upd r i U i=U from by simp[upd],J,Ya b hH];exact HT.1
    have HF:=Kh bE;have HS:=Kh bY;have h:=HM.1;clear bE bY J I hD;go_wp2;go_ret;exact⟨⟨_,_,_,by rw[<-h];rfl,by rw[<-h];exact HF.1.dg (i+1) (nR _),by rw[<-h];exact HS.1⟩,HB.1.setCell (nR _) _⟩
def Wc (w:World) (g n i:Nat) (t u:Nat) (cy:Nat):Prop:=∃r,Row w g n r/\vf r i+u=t+4294967296 ^ i*cy
theorem Mv {w:World} {g n i I x y:Nat} {s:Nat} {a b r:Nat->Nat} (J:Row w g n r) (V:vf r i+vf b i=vf a i+4294967296 ^ i*I) (Z:a i=x) (hy:b i=y) (aX:x<4294967296) (bB:y<4294967296) (Y:I<=1) (hs:(s:Int)=((x:Int) - y - I) % 4294967296):
  Wc (w.setCell ⟨g,i,none⟩ (.int .u32 s)) g n (i+1) (vf a (i+1)) (vf b (i+1)) (if x<y+I then 1 else 0):=by
 refine⟨_,J.set i s (by omega),?_⟩;rw[vf,vf,vf,B6 (nR _),show upd r i s i=s from by simp[upd],Aw,Z,hy];obtain⟨k,U⟩:∃k,(if x<y+I then 1 else 0)=k:=⟨_,rfl⟩
 rw[U];have h:s+y+I=x+4294967296*k:=by split at U <;> omega
 have O:=congrArg (4294967296 ^ i * ·) h;simp only[Nat.mul_add]at O;rw[Nat.mul_left_comm]at O;rw[Nat.mul_assoc];omega
theorem Rn (p:Option Addr) (c n:Nat) (a:Nat->Nat) (q:Option Addr) (d m:Nat) (b:Nat->Nat) (w:World) (h1:Dg w p c n a) (h2:Dg w q d m b) (hn:n<=70368744177660) (gS:m<=n) (cC:vf b m<=vf a n):
  Calls prog 168 #[.slice p n c,.slice q m d] w λe w'=>RetD w' e n (vf a n - vf b m)/\Below w.heap.size w w':=by
 have hS:∀w,(Instr.makeSlice 82 (.int .i64 (n:Int)) (.int .i64 (n:Int))).run prog w=.ok (.slice (some ⟨w.heap.size,0,none⟩) n n) (w.alloc (.cells (madeCells #[.int .u32 0] n) 200)):=F7 n (by omega)
 have I:=Row.made w n;have H1:=Kh h1;have H2:=Kh h2;have HR:=Kh I;have HL:=Kh cC;clear h1 h2 I cC;go_enter func168,ntmps168
 go_wp2;obtain⟨wb,bB⟩:∃wb,w.alloc (.cells (madeCells #[.int .u32 0] n) 200)=wb:=⟨_,rfl⟩
 rw[bB];have bC:Below w.heap.size w wb:=by rw[<-bB];exact(Below.refl _ _).alloc (nR _) _
 rw[bB]at HR;have gA:=Kh bC;clear bB bC;go_loopw [6,15] (λv6 cF wr=>∃i V:Nat,i<=n/\v6=.int .u32 V/\cF=.int .i64 i/\(V:Int)<=1/\Wc wr w.heap.size n i (vf a i) (vf (ext b m) i) V/\Below w.heap.size w wr) (λ_ cF _=>n - (intOf cF).toNat)
 case atStart=>exact⟨0,0,Nat.zero_le _,rfl,rfl,by decide,⟨_,HR.1,rfl⟩,gA.1⟩
 case round=>
  obtain⟨i,V,hi,rfl,rfl,cB,⟨r,I,U⟩,hb⟩:=hrel;have HB:=Kh hb;clear hb;by_cases hlt:(i:Int)<(n:Int)
  ·have dC:∃u,wr.cell? ⟨w.heap.size,i,none⟩=some u:=⟨_,I.1.cell (by omega)⟩
   obtain⟨u,dC⟩:=dC;have hR:wr.frozen? ⟨w.heap.size,i,none⟩=false:=I.1.frozen i;obtain⟨g1,o1,rfl,gN,cT⟩:=H1.1.head (by omega);have c1:wr.cell? ⟨g1,o1+i,none⟩=_:=(HB.1.cell (p:=⟨g1,o1+i,none⟩) gN).trans (cT i (by omega));have gU:((a i:Nat):Int)<4294967296:=by have:=H1.1.lt i (by omega);omega
   obtain⟨x,hx⟩:∃x,a i=x:=⟨_,rfl⟩
   rw[hx]at c1 gU;clear cT;by_cases hmi:(i:Int)<(m:Int)
   ·obtain⟨g2,o2,rfl,gP,cX⟩:=H2.1.head (by omega)
    have c2:wr.cell? ⟨g2,o2+i,none⟩=_:=(HB.1.cell (p:=⟨g2,o2+i,none⟩) gP).trans (cX i (by omega));have eP:((b i:Nat):Int)<4294967296:=by have:=H2.1.lt i (by omega);omega
    obtain⟨y,Z⟩:∃y,b i=y:=⟨_,rfl⟩
    have hy:ext b m i=y:=by unfold ext;rw[if_pos (by omega)];exact Z
    rw[Z]at c2 eP;clear cX Z;have HC:=Jl x y V wr (by omega) (by omega) cB;obtain⟨s,hs⟩:∃s:Nat,(s:Int)=((x:Int) - y - V) % 4294967296:=⟨(((x:Int) - y - V) % 4294967296).toNat,by omega⟩
    have O:=Mv I U hx hy (by omega) (by omega) (by omega) hs;obtain⟨cz,Y⟩:∃cz:Nat,(if x<y+V then 1 else 0)=cz:=⟨_,rfl⟩
    have J:(if x<y+V then(1:Int)else 0)=(cz:Nat):=by rw[<-Y];split <;> rfl
    have cA:(cz:Int)<=1:=by rw[<-J];split <;> decide
    rw[Y]at O;rw[<-hs,J]at HC;have HN:=Kh O;have HC:=Kh HC;clear O hs Y J hx hy U I;go_wp2_with (go_at_call 203;refine HC.1.mono ?_;rintro e w' ⟨rfl,rfl⟩)
    go_roundw
    case rel=>exact⟨i+1,cz,by omega,rfl,by go_num,cA,HN.1,HB.1.setCell (nR _) _⟩
    case measure=>simp[intOf];omega
   ·obtain⟨y,Z⟩:∃y:Nat,0=y:=⟨_,rfl⟩
    have hy:ext b m i=y:=by unfold ext;rw[if_neg (by omega)];exact Z
    subst Z;have eP:((0:Nat):Int)<4294967296:=by decide
    have HC:=Jl x 0 V wr (by omega) (by omega) cB;obtain⟨s,hs⟩:∃s:Nat,(s:Int)=((x:Int) - (0:Nat) - V) % 4294967296:=⟨(((x:Int) - (0:Nat) - V) % 4294967296).toNat,by omega⟩
    have O:=Mv I U hx hy (by omega) (by omega) (by omega) hs;obtain⟨cz,Y⟩:∃cz:Nat,(if x<0+V then 1 else 0)=cz:=⟨_,rfl⟩
    have J:(if x<0+V then(1:Int)else 0)=(cz:Nat):=by rw[<-Y];split <;> rfl
    have cA:(cz:Int)<=1:=by rw[<-J];split <;> decide
    rw[Y]at O;rw[<-hs,J]at HC;have HN:=Kh O;have HC:=Kh HC;clear O hs Y J hx hy U I;go_wp2_with (go_at_call 203;refine HC.1.mono ?_;rintro e w' ⟨rfl,rfl⟩)
    go_roundw
    case rel=>exact⟨i+1,cz,by omega,rfl,by go_num,cA,HN.1,HB.1.setCell (nR _) _⟩
    case measure=>simp[intOf];omega
  ·obtain rfl:i=n:=by omega
   have bE:=I.dg i (nR _)
   have bY:vf r i=vf a i - vf b m:=by
    rw[Ya b gS]at U;have cC:=HL.1;have h1:=Dq I.2;rcases Nat.lt_or_ge 0 V with h|h
    ·exfalso
     obtain rfl:V=1:=by omega
     omega
    ·obtain rfl:V=0:=by omega
     omega
   have HF:=Kh bE;have HS:=Kh bY;clear bE bY U I cB;go_wp2;go_ret;exact⟨⟨_,_,_,rfl,HF.1,HS.1⟩,HB.1⟩
def fL (w':World) (e:Ending) (K t:Nat):Prop:=∃k,k<=K/\RetD w' e k t
theorem RetN.d {w':World} {e:Ending} {v:Nat} (h:RetN w' e v):RetD w' e (nd v) v:=by
 obtain⟨p,c,I,hn⟩:=h;exact⟨p,c,dg v,I,hn,Bn v⟩
theorem RetD.t {w':World} {e:Ending} {k v K:Nat} (h:RetD w' e k v) (I:k<=K):fL w' e K v:=⟨k,I,h⟩
def TimesAt (w:World) (g K k t:Nat):Prop:=∃r,Row w g K r/\vf r k=t/\∀l,k<=l->l<K->r l=0
def Jk (w:World) (g K k i j t cy:Nat):Prop:=∃r,Row w g K r/\vf r k+4294967296 ^ (i+j)*cy=t/\∀l,k<=l->l<K->r l=0
theorem TimesAt.cell {w:World} {g K k t:Nat} (h:TimesAt w g K k t) {i:Nat} (I:i<K):∃u,w.cell? ⟨g,i,none⟩=some u:=by
 obtain⟨r,hr,_⟩:=h;exact⟨_,hr.1.cell I⟩
theorem U6 {vr P O V Q x J s I o R y U:Nat} (h1:vr+P*O=V+Q*(x*J)) (hP:P=Q*R) (Y:x*y+o+O=s+4294967296*I) (h3:U+P*o=vr+P*s):U+(4294967296*P)*I=V+Q*(x*(J+R*y)):=by
 have h4:P*(x*y)+P*o+P*O=P*s+P*(4294967296*I):=by rw[<-Nat.mul_add,<-Nat.mul_add,<-Nat.mul_add,Y]
 have Z:Q*(x*(J+R*y))=Q*(x*J)+P*(x*y):=by rw[hP];simp only[Nat.mul_add,Nat.mul_comm,Nat.mul_left_comm]
 have h:(4294967296*P)*I=P*(4294967296*I):=by simp only[Nat.mul_comm,Nat.mul_left_comm]
 rw[Z,h];omega
theorem K8 {w:World} {g K k i j V x O o y s U:Nat} {b r:Nat->Nat} (I:Row w g K r) (J:vf r k+4294967296 ^ (i+j)*O=V+4294967296 ^ i*(x*vf b j)) (hz:∀l,k<=l->l<K->r l=0)
  (hk:i+j<k) (ho:r (i+j)=o) (hy:b j=y) (hs:(x*y+o+O) % 4294967296=s) (aX:(x*y+o+O) / 4294967296=U):
  Jk (w.setCell ⟨g,i+j,none⟩ (.int .u32 s)) g K k i (j+1) (V+4294967296 ^ i*(x*vf b (j+1))) U:=by
 refine⟨_,I.set (i+j) s (by omega),?_,λl Z h=>by unfold upd;rw[if_neg (by omega)];exact hz l Z h⟩;have Y:=aP (a:=r) (k:=i+j) (d:=s) (n:=k) hk;rw[ho]at Y;rw[vf,hy,<-Nat.add_assoc i j 1,Aw];exact U6 J (Nat.pow_add _ _ _) (by omega) Y
theorem Mt {w:World} {g K i m V x I:Nat} {a b:Nat->Nat} (h:Jk w g K (i+m) i m (V+4294967296 ^ i*(x*vf b m)) I) (hV:V=vf a i*vf b m) (Z:a i=x) (U:I<4294967296):
  TimesAt (w.setCell ⟨g,i+m,none⟩ (.int .u32 I)) g K (i+1+m) (vf a (i+1)*vf b m):=by
 obtain⟨r,J,O,hz⟩:=h;refine⟨_,J.set (i+m) I U,?_,λl h1 Y=>by unfold upd;rw[if_neg (by omega)];exact hz l (by omega) Y⟩;rw[show i+1+m=(i+m)+1 from by omega,vf,B6 (nR _),show upd r (i+m) I (i+m)=I from by simp[upd],O,hV,vf,Z,Nat.add_mul,Nat.mul_assoc]
theorem cU (p:Option Addr) (c n:Nat) (a:Nat->Nat) (q:Option Addr) (d m:Nat) (b:Nat->Nat) (w:World) (h1:Dg w p c n a) (h2:Dg w q d m b) (hn:n<=35184372088830) (hm:m<=35184372088830):
  Calls prog 133 #[.slice p n c,.slice q m d] w λe w'=>fL w' e (n+m) (vf a n*vf b m)/\Below w.heap.size w w':=by
 have H1:=Kh h1;have H2:=Kh h2;clear h1 h2;by_cases h0:n=0∨m=0
 ·have hT:vf a n*vf b m=0:=by rcases h0 with rfl|rfl <;> simp[vf]
  rw[hT];have cA:fL w (.returned (.slice none 0 0)) (n+m) 0:=⟨0,Nat.zero_le _,none,0,λ_=>0,rfl,⟨nR _,λj hj=>absurd hj (Nat.not_lt_zero _),.inl rfl⟩,rfl⟩
  have HN:=Kh cA;clear cA hT;by_cases U:n=0
  ·subst U
   clear h0;go_enter func133,ntmps133
   go_wp2;go_ret;exact⟨HN.1,Below.refl _ _⟩
  ·have Z:m=0:=h0.resolve_left U
   subst Z;have nB:((n:Int)==0)=false:=beq_eq_false_iff_ne.2 (by omega);clear h0 U;go_enter func133,ntmps133
   go_wp2;go_ret;exact⟨HN.1,Below.refl _ _⟩
 ·have U:0<n:=by omega
  have Z:0<m:=by omega
  have nB:((n:Int)==0)=false:=beq_eq_false_iff_ne.2 (by omega);have oW:((m:Int)==0)=false:=beq_eq_false_iff_ne.2 (by omega);clear h0;obtain⟨g1,o1,rfl,mD,cG⟩:=H1.1.head U;obtain⟨g2,o2,rfl,mE,cT⟩:=H2.1.head Z;by_cases hone:n=1/\m=1
  ·obtain⟨rfl,rfl⟩:=hone
   have l0:=H1.1.lt 0 (by omega);have m0:=H2.1.lt 0 (by omega);have c0:=cG 0 (by omega);have d0:=cT 0 (by omega);obtain⟨x,hx⟩:∃x,a 0=x:=⟨_,rfl⟩
   obtain⟨y,hy⟩:∃y,b 0=y:=⟨_,rfl⟩
   have hT:vf a 1*vf b 1=x*y:=by simp[vf,hx,hy]
   rw[hx]at c0 l0;rw[hy]at d0 m0;rw[Nat.add_zero]at c0 d0;obtain⟨O,J⟩:∃O,x*y=O:=⟨_,rfl⟩
   have cB:(x:Int)*(y:Int)=(O:Nat):=by rw[<-J];exact(Int.natCast_mul _ _).symm
   have dC:O<=4294967295*4294967295:=by rw[<-J];exact Nat.mul_le_mul (by omega) (by omega)
   have hE:(O:Int)<18446744073709551616:=by omega
   have hD:nd O<=1+1:=Bj.2 (by omega);have oY:(x:Int)<4294967296:=by omega
   have oZ:(y:Int)<4294967296:=by omega
   rw[hT,J];have hw:=λw=>Iw O w (by omega)
   have HW:=Kh hw;have hS:=Kh hD;clear hw hT J hx hy l0 m0 dC hD cG cT U Z;go_enter func133,ntmps133
   go_wp2;go_still_tail 9,(by kernel_rfl)
   change wpList _ _ _ _ _ w.drew;generalize hwd:w.drew=wd;have gP:Below w.heap.size w wd:=by rw[<-hwd];exact(Below.refl _ _).drew
   have gF:=Kh gP;clear hwd gP;go_wp2_with (go_at_call 132;rw[cB];refine(HW.1 _).mono ?_;rintro e w' ⟨⟨p,c',rfl,nC⟩,hb⟩)
   go_ret;have hR:RetN w' (.returned (.slice p (nd O) c')) O:=⟨p,c',rfl,nC⟩
   exact⟨RetD.t hR.d hS.1,gF.1.trans (hb.mono gF.1.size)⟩
  ·have nA:∀w,(Instr.makeSlice 82 (.int .i64 ((n:Int)+(m:Int))) (.int .i64 ((n:Int)+(m:Int)))).run prog w=.ok (.slice (some ⟨w.heap.size,0,none⟩) (n+m) (n+m)) (w.alloc (.cells (madeCells #[.int .u32 0] (n+m)) 200)):=F7 (n+m) (by omega)
   have I:=Row.made w (n+m);have HR:=Kh I;have HO:=Kh hone;clear I hone cG cT;go_enter func133,ntmps133
   go_upto_region 3 with(fail)
   go_cut [27] (λv wc=>wc=w/\v=.bool false)
   case first=>
    by_cases hn1:(n:Int)=1
    ·have oH:((m:Int)==1)=false:=beq_eq_false_iff_ne.2 (by have:=HO.1;omega)
     have hB:((n:Int)==1)=true:=by rw[beq_iff_eq];exact hn1
     clear hn1;go_wp2;go_meet
     case rel=>exact⟨rfl,rfl⟩
    ·have hB:((n:Int)==1)=false:=beq_eq_false_iff_ne.2 hn1
     clear hn1;go_wp2;go_meet
     case rel=>exact⟨rfl,rfl⟩
   case rest=>
    obtain⟨rfl,rfl⟩:=hcut;go_wp2;obtain⟨wb,aX⟩:∃wb,wc.alloc (.cells (madeCells #[.int .u32 0] (n+m)) 200)=wb:=⟨_,rfl⟩
    rw[aX];have bC:Below wc.heap.size wc wb:=by rw[<-aX];exact(Below.refl _ _).alloc (nR _) _
    have Y:TimesAt wb wc.heap.size (n+m) (0+m) (vf a 0*vf b m):=by
     rw[aX]at HR;refine⟨_,HR.1,?_,λ_ _ _=>rfl⟩;rw[J7 (λ_ _=>rfl)];simp[vf]
    have gA:=Kh bC;have gL:=Kh Y;obtain⟨G,hG⟩:∃G,wc.heap.size=G:=⟨_,rfl⟩
    have HG:=Kh hG;have gS:g1<G:=by omega
    have gU:g2<G:=by omega
    rw[hG]at gA gL;rw[hG];clear aX bC Y nA HR hG mD mE HO;go_loopw [46] (λv wr=>∃i:Nat,i<=n/\v=.int .i64 i/\TimesAt wr G (n+m) (i+m) (vf a i*vf b m)/\Below G wc wr) (λv _=>n - (intOf v).toNat)
    case atStart=>exact⟨0,Nat.zero_le _,rfl,gL.1,gA.1⟩
    case round=>
     obtain⟨i,hi,rfl,hT,hb⟩:=hrel;have HB:=Kh hb;have HT:=Kh hT;clear hb hT;by_cases hlt:(i:Int)<(n:Int)
     ·have c1:wr.cell? ⟨g1,o1+i,none⟩=_:=(HB.1.cell (p:=⟨g1,o1+i,none⟩) gS).trans ((H1.1.head U).elim λg h=>h.elim λo h=>by
       obtain⟨e,_,hc⟩:=h;injection e with e;injection e with e1 e2;subst e1;subst e2
       exact hc i (by omega))
      have nZ:((a i:Nat):Int)<4294967296:=by have:=H1.1.lt i (by omega);omega
      obtain⟨x,hx⟩:∃x,a i=x:=⟨_,rfl⟩
      rw[hx]at c1 nZ;have HX:=Kh hx;clear hx;go_wp2;obtain⟨wo,rfl⟩:∃wo:World,wo=wr:=⟨_,rfl⟩
      obtain⟨V,hV⟩:∃V,vf a i*vf b m=V:=⟨_,rfl⟩
      have HV:=Kh hV;rw[hV]at HT;clear hV;go_loopw [8,53] (λv8 eP wr=>∃j cy:Nat,j<=m/\v8=.int .u64 cy/\eP=.int .i64 j/\(cy:Int)<4294967296/\Jk wr G (n+m) (i+m) i j (V+4294967296 ^ i*(x*vf b j)) cy/\Below G wc wr) (λ_ eP _=>m - (intOf eP).toNat)
      case atStart=>exact⟨0,0,Nat.zero_le _,rfl,rfl,by decide,by
       obtain⟨r,hr,hv,hz⟩:=HT.1;exact⟨r,hr,by simp[vf,hv],hz⟩,HB.1⟩
      case round=>
       obtain⟨j,cy,hj,rfl,rfl,oV,hI,hb⟩:=hrel;have cD:=Kh hb;clear hb;by_cases hjl:(j:Int)<(m:Int)
       ·obtain⟨r,I,cC,hz⟩:=hI
        have d1:wr.cell? ⟨g2,o2+j,none⟩=_:=(cD.1.cell (p:=⟨g2,o2+j,none⟩) gU).trans ((H2.1.head Z).elim λg h=>h.elim λo h=>by
         obtain⟨e,_,hc⟩:=h;injection e with e;injection e with e1 e2;subst e1;subst e2
         exact hc j (by omega))
        have oA:((b j:Nat):Int)<4294967296:=by have:=H2.1.lt j (by omega);omega
        obtain⟨y,hy⟩:∃y,b j=y:=⟨_,rfl⟩
        rw[hy]at d1 oA;have hH:wr.cell? ⟨G,i+j,none⟩=some (.int .u32 (r (i+j):Nat)):=I.1.cell (by omega);have mC:wr.frozen? ⟨G,i+j,none⟩=false:=I.1.frozen _;have nW:((r (i+j):Nat):Int)<4294967296:=by have:=I.2 (i+j) (by omega);omega
        obtain⟨o,ho⟩:∃o,r (i+j)=o:=⟨_,rfl⟩
        rw[ho]at hH nW;obtain⟨O,J⟩:∃O,x*y=O:=⟨_,rfl⟩
        have cB:(x:Int)*(y:Int)=(O:Nat):=by rw[<-J];exact(Int.natCast_mul _ _).symm
        have dC:O<=4294967295*4294967295:=by rw[<-J];exact Nat.mul_le_mul (by omega) (by omega)
        have hE:(O:Int)<=18446744065119617025:=by omega
        obtain⟨s,hs⟩:∃s,(x*y+o+cy) % 4294967296=s:=⟨_,rfl⟩
        obtain⟨cz,cX⟩:∃cz,(x*y+o+cy) / 4294967296=cz:=⟨_,rfl⟩
        have bY:=K8 I cC hz (by omega) ho hy hs cX;rw[J]at hs cX;have oX:((O:Int)+(o:Int)+(cy:Int)) % 4294967296=(s:Nat):=by omega
        have oU:((O:Int)+(o:Int)+(cy:Int)) / 4294967296=(cz:Nat):=by omega
        have mB:(cz:Int)<4294967296:=by omega
        have HN:=Kh bY;clear bY I cC hz ho hy hs cX J dC;go_wp2;go_roundw
        case rel=>exact⟨j+1,cz,by omega,rfl,by go_num,mB,HN.1,cD.1.setCell (nR _) _⟩
        case measure=>simp[intOf];omega
       ·obtain rfl:j=m:=by omega
        have bE:=Mt hI HV.1.symm HX.1 (by omega);obtain⟨r,I,_,_⟩:=hI;have hH:wr.cell? ⟨G,i+j,none⟩=some (.int .u32 (r (i+j):Nat)):=I.1.cell (by omega);have mC:wr.frozen? ⟨G,i+j,none⟩=false:=I.1.frozen _;have HF:=Kh bE;clear bE I;go_wp2;go_roundw
        case rel=>exact⟨i+1,by omega,by go_num,HF.1,cD.1.setCell (nR _) _⟩
        case measure=>simp[intOf];omega
     ·obtain rfl:i=n:=by omega
      go_wp2;go_ret;obtain⟨r,hr,hv,_⟩:=HT.1;have hR:RetD wr (.returned (.slice (some ⟨G,0,none⟩) (i+m) (i+m))) (i+m) (vf a i*vf b m):=⟨_,_,r,rfl,hr.dg _ (nR _),hv⟩
      exact⟨hR.t (nR _),by rw[HG.1];exact HB.1⟩
theorem bJ (I lo y:Nat) (w:World) (bE:(lo:Int)<4294967296) (hy:(y:Int)<4294967296) (hlt:(I:Int)<(y:Int)):
  Calls prog 224 #[.int .u32 I,.int .u32 lo,.int .u32 y] w λe w'=>e=.returned (.tuple #[.int .u32 ((lo+4294967296*I) / y:Nat),.int .u32 ((lo+4294967296*I) % y:Nat)])/\∃k,w'=w.drewN k:=by
 have J:=dL I lo (by omega) (by omega);obtain⟨z,hz⟩:∃z,lo+4294967296*I=z:=⟨_,rfl⟩
 rw[hz]at J ⊢;have Z:(lo:Int)+4294967296*(I:Int)=(z:Nat):=by omega
 obtain⟨q,hq⟩:∃q,z / y=q:=⟨_,rfl⟩
 obtain⟨r,hr⟩:∃r,z % y=r:=⟨_,rfl⟩
 have O:(z:Int) / (y:Int)=(q:Nat):=by rw[<-hq];exact(Int.natCast_ediv _ _).symm
 have V:(z:Int) % (y:Int)=(r:Nat):=by rw[<-hr];exact(Int.natCast_emod _ _).symm
 have Y:r<y:=by rw[<-hr];exact Nat.mod_lt _ (by omega)
 have U:q<4294967296:=by
  rw[<-hq,Nat.div_lt_iff_lt_mul (by omega)];have:4294967296*(I+1)<=4294967296*y:=Nat.mul_le_mul_left _ (by omega);omega
 have cA:Int.tdiv (z:Int) (y:Int)=(q:Nat):=by rw[Int.tdiv_eq_ediv_of_nonneg (by omega)];exact O
 have cC:Int.tmod (z:Int) (y:Int)=(r:Nat):=by rw[Int.tmod_eq_emod_of_nonneg (by omega)];exact V
 have bY:((q:Nat):Int) % 4294967296=(q:Nat):=by omega
 have cB:((r:Nat):Int) % 4294967296=(r:Nat):=by omega
 have aX:((q:Nat):Int) % 18446744073709551616=(q:Nat):=by omega
 have cF:(z:Int)<18446744073709551616:=by omega
 have h:(q:Int)<4294967296:=by omega
 have bA:(r:Int)<4294967296:=by omega
 have cD:((y:Int) != 0)=true:=by rw[bne_iff_ne];omega
 have bC:¬((y:Int)<=(I:Int)):=by omega
 rw[hq,hr];clear hq hr U Y hz Z;go_enter func224,ntmps224
 go_wp2;go_quiet (fail)
 go_wp2;go_ret2
 exact⟨rfl,nq,rfl⟩
def Ng (w:World) (g n k d r:Nat) (a:Nat->Nat):Prop:=∃qr,Row w g n qr/\(∀l,l<k->qr l=0)/\vf qr n*d+4294967296 ^ k*r+vf a k=vf a n
theorem Sh {w:World} {g n k d r x q O:Nat} {a:Nat->Nat} (h:Ng w g n (k+1) d r a) (hx:a k=x) (hk:k<n) (hq:(x+4294967296*r) / d=q) (hr:(x+4294967296*r) % d=O) (J:q<4294967296):
  Ng (w.setCell ⟨g,k,none⟩ (.int .u32 q)) g n k d O a:=by
 obtain⟨qr,I,Y,V⟩:=h;refine⟨_,I.set k q J,λl hl=>by unfold upd;rw[if_neg (by omega)];exact Y l (by omega),?_⟩;have U:=aP (a:=qr) (k:=k) (d:=q) (n:=n) hk;rw[Y k (by omega),Nat.mul_zero,Nat.add_zero]at U;have Z:d*q+O=x+4294967296*r:=by rw[<-hq,<-hr];exact Nat.div_add_mod _ _
 have h3:=congrArg (4294967296 ^ k * ·) Z;simp only[Nat.mul_add]at h3;rw[vf,hx,Aw]at V;rw[U,Nat.add_mul,Nat.mul_assoc,Nat.mul_comm q d];rw[show 4294967296*4294967296 ^ k*r=4294967296 ^ k*(4294967296*r)from by rw[Nat.mul_comm 4294967296,Nat.mul_assoc]]at V;omega
def jJ (w':World) (e:Ending) (n t r:Nat):Prop:=∃p c qr,e=.returned (.tuple #[.slice p n c,.int .u32 (r:Nat)])/\Dg w' p c n qr/\vf qr n=t
theorem cS (p:Option Addr) (c n:Nat) (a:Nat->Nat) (d:Nat) (w:World) (h1:Dg w p c n a) (hn:n<=70368744177660) (V:0<d) (hd:(d:Int)<4294967296):
  Calls prog 214 #[.slice p n c,.int .u32 d] w λe w'=>jJ w' e n (vf a n / d) (vf a n % d)/\Below w.heap.size w w':=by
 have cD:∀w,(Instr.makeSlice 82 (.int .i64 (n:Int)) (.int .i64 (n:Int))).run prog w=.ok (.slice (some ⟨w.heap.size,0,none⟩) n n) (w.alloc (.cells (madeCells #[.int .u32 0] n) 200)):=F7 n (by omega)
 have I:=Row.made w n;have H1:=Kh h1;have HR:=Kh I;clear h1 I;go_enter func214,ntmps214
 go_wp2;obtain⟨wb,J⟩:∃wb,w.alloc (.cells (madeCells #[.int .u32 0] n) 200)=wb:=⟨_,rfl⟩
 rw[J];have O:Below w.heap.size w wb:=by rw[<-J];exact(Below.refl _ _).alloc (nR _) _
 rw[J]at HR;have cB:=Kh O;clear J O cD;go_loopw [7,8] (λv7 v8 wr=>∃k r:Nat,k<=n/\v7=.int .u32 r/\v8=.int .i64 ((k:Int) - 1)/\(r:Int)<(d:Int)/\Ng wr w.heap.size n k d r a/\Below w.heap.size w wr) (λ_ v8 _=>(intOf v8+1).toNat)
 case atStart=>exact⟨n,0,nR _,rfl,by go_num,by omega,⟨_,HR.1,λ_ _=>rfl,by rw[J7 (λ_ _=>rfl)];omega⟩,cB.1⟩
 case round=>
  obtain⟨k,r,hk,rfl,rfl,cF,hS,hb⟩:=hrel;have HB:=Kh hb;have HS:=Kh hS;clear hb hS;by_cases h0:k=0
  ·subst h0
   obtain⟨qr,I,_,hv⟩:=HS.1;simp only[Nat.pow_zero,Nat.one_mul,vf,Nat.add_zero]at hv;have hq:vf qr n=vf a n / d:=by rw[<-hv,Nat.mul_comm,Nat.mul_add_div V,Nat.div_eq_of_lt (by omega),Nat.add_zero]
   have hr:r=vf a n % d:=by rw[<-hv,Nat.mul_comm,Nat.mul_add_mod,Nat.mod_eq_of_lt (by omega)]
   have HQ:=Kh hq;have hR:jJ wr (.returned (.tuple #[.slice (some ⟨w.heap.size,0,none⟩) n n,.int .u32 (r:Nat)])) n (vf a n / d) (vf a n % d):=by rw[<-hr];exact⟨_,_,qr,rfl,I.dg n (nR _),hq⟩
   have HF:=Kh hR;clear I hv hq hr hR;go_wp2;go_ret2
   exact⟨HF.1,HB.1⟩
  ·obtain⟨k,rfl⟩:∃j,k=j+1:=⟨k - 1,by omega⟩
   obtain⟨g1,o1,rfl,cC,Y⟩:=H1.1.head (by omega);have c1:wr.cell? ⟨g1,o1+k,none⟩=_:=(HB.1.cell (p:=⟨g1,o1+k,none⟩) cC).trans (Y k (by omega));have aX:((a k:Nat):Int)<4294967296:=by have:=H1.1.lt k (by omega);omega
   obtain⟨x,hx⟩:∃x,a k=x:=⟨_,rfl⟩
   rw[hx]at c1 aX;have h:∃u,wr.cell? ⟨w.heap.size,k,none⟩=some u:=by obtain⟨qr,I,_⟩:=HS.1;exact⟨_,I.1.cell (by omega)⟩
   obtain⟨u,h⟩:=h;have hE:wr.frozen? ⟨w.heap.size,k,none⟩=false:=by obtain⟨qr,I,_⟩:=HS.1;exact I.1.frozen k
   have HC:=bJ r x d wr aX hd cF;obtain⟨q,hq⟩:∃q,(x+4294967296*r) / d=q:=⟨_,rfl⟩
   obtain⟨r',hr⟩:∃r',(x+4294967296*r) % d=r':=⟨_,rfl⟩
   have Z:q<4294967296:=by
    rw[<-hq,Nat.div_lt_iff_lt_mul V];have:4294967296*(r+1)<=4294967296*d:=Nat.mul_le_mul_left _ (by omega);omega
   have cG:(r':Int)<(d:Int):=by have:r'<d:=(by rw[<-hr];exact Nat.mod_lt _ V);omega
   have hG:(q:Int)<4294967296:=by omega
   have U:=Sh HS.1 hx (by omega) hq hr Z;rw[hq,hr]at HC;have HC:=Kh HC;have HN:=Kh U;have e1:(((k+1:Nat):Int) - 1)=(k:Int):=by omega
   rw[e1];clear U hq hr hx Y Z h0 e1;go_wp2_with (go_at_call 224;refine HC.1.mono ?_;rintro e w' ⟨rfl,kk,rfl⟩)
   go_roundw
   case rel=>exact⟨k,r',by omega,rfl,rfl,cG,HN.1,(Aa HB.1 kk).setCell (nR _) _⟩
   case measure=>simp[intOf]
theorem Hv (b:Int) (I:0<=b) (J:b<=255) {h:b.toNat<Lib.len8tab.size}:((Lib.len8tab[b.toNat]'h).toNat:Int)=(Lib.bitLen b.toNat:Int):=by
 rw[<-Lib.len8_of b I J];unfold Lib.len8;rw[getElem?_pos Lib.len8tab b.toNat h];rfl
theorem kP (x:Int) (y:Nat) (J:0<=x) (O:x<=4294967295) (U:16777216<=x) (I:x / 65536 / 256<=255) (V:(y:Int)=(Lib.bitLen (x / 65536 / 256).toNat:Int)):wrap64 (24+wrap64 (y:Int))=((Lib.bitLen x.toNat:Nat):Int):=by
 have l:=Lib.bitLen_le8' (x / 65536 / 256) (by omega) I;have s:=Lib.bitLen_shift24 x.toNat (by omega) (by omega);have e:(x / 65536 / 256).toNat=x.toNat / 16777216:=by omega
 rw[e]at V l;generalize Lib.bitLen (x.toNat / 16777216)=z at *;generalize Lib.bitLen x.toNat=t at *;have:y<=8:=by omega
 clear e J O U I;unfold wrap64;omega
theorem kO (x:Int) (y:Nat) (J:0<=x) (O:x<=4294967295) (U:65536<=x) (I:x / 65536<=255) (V:(y:Int)=(Lib.bitLen (x / 65536).toNat:Int)):wrap64 (16+wrap64 (y:Int))=((Lib.bitLen x.toNat:Nat):Int):=by
 have l:=Lib.bitLen_le8' (x / 65536) (by omega) I;have s:=Lib.bitLen_shift16 x.toNat (by omega) (by omega);have e:(x / 65536).toNat=x.toNat / 65536:=by omega
 rw[e]at V l;generalize Lib.bitLen (x.toNat / 65536)=z at *;generalize Lib.bitLen x.toNat=t at *;have:y<=8:=by omega
 clear e J O U I;unfold wrap64;omega
theorem len8 (x:Int) (y:Nat) (J:0<=x) (O:x<=4294967295) (U:256<=x) (I:x / 256<=255) (V:(y:Int)=(Lib.bitLen (x / 256).toNat:Int)):wrap64 (8+wrap64 (y:Int))=((Lib.bitLen x.toNat:Nat):Int):=by
 have l:=Lib.bitLen_le8' (x / 256) (by omega) I;have s:=Lib.bitLen_shift8 x.toNat (by omega) (by omega);have e:(x / 256).toNat=x.toNat / 256:=by omega
 rw[e]at V l;generalize Lib.bitLen (x.toNat / 256)=z at *;generalize Lib.bitLen x.toNat=t at *;have:y<=8:=by omega
 clear e J O U I;unfold wrap64;omega
theorem mM (x:Int) (y:Nat) (I:0<=x) (J:x<=255) (O:(y:Int)=(Lib.bitLen x.toNat:Int)):wrap64 (wrap64 (y:Int))=((Lib.bitLen x.toNat:Nat):Int):=by
 have l:=Lib.bitLen_le8' x I J;generalize Lib.bitLen x.toNat=z at *;have:y<=8:=by omega
 unfold wrap64;omega
theorem bO (x:Int) (w:World) (I:0<=x) (J:x<=4294967295):
  Calls prog 225 #[.int .u32 x] w λe w'=>e=.returned (.int .i64 (Lib.bitLen x.toNat))/\w'=w:=by
 have O:(Lib.len8tab.size:Int)=256:=by rw[Lib.len8tab_size];rfl
 go_enter func225,ntmps225
 go_wp2
 ·go_ret
  exact⟨A5 (kP x _ I J (by omega) (by omega) (Hv _ (by omega) (by omega))),rfl⟩
 ·go_ret
  exact⟨A5 (kO x _ I J (by omega) (by omega) (Hv _ (by omega) (by omega))),rfl⟩
 ·go_ret
  exact⟨A5 (len8 x _ I J (by omega) (by omega) (Hv _ (by omega) (by omega))),rfl⟩
 ·go_ret
  exact⟨A5 (mM x _ I (by omega) (Hv _ (by omega) (by omega))),rfl⟩
theorem fT (x:Int) (w:World) (J:0<=x) (O:x<=4294967295):
  Calls prog 215 #[.int .u32 x] w λe w'=>e=.returned (.int .i64 (32 - (Lib.bitLen x.toNat:Int)))/\w'=w:=by
 have l:Lib.bitLen x.toNat<=32:=Lib.bitLen_le x.toNat 32 (by omega) (by omega);have I:(32 - (Lib.bitLen x.toNat:Int)+9223372036854775808) % 18446744073709551616 - 9223372036854775808=32 - (Lib.bitLen x.toNat:Int):=by omega
 go_enter func215,ntmps215
 go_wp2_with (go_at_call 225;refine(bO x _ J O).mono ?_;rintro e w' ⟨rfl,rfl⟩)
 go_ret;refine⟨?_,rfl⟩;rw[<-I];rfl
end
end Go.Proofs.YtenlbhlllgppmaaGreatDoor
