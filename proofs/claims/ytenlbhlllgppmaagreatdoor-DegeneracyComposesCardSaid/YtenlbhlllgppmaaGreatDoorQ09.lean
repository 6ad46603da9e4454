/- Digits to base 2^32: values, normal forms, lengths. No program in sight. -/
import Derived.Test.YtenlbhlllgppmaaGreatDoorQ01
import Derived.Deep.OwnRows
import Derived.Lib.BitFns
import Derived.Lib.Strings
import Derived.Lib.Slices
import Derived.Lib.Small
import Derived.Lib.Walk
set_option maxRecDepth 100000
namespace Go.Proofs.YtenlbhlllgppmaaGreatDoor
namespace Dig
def val:List Nat->Nat
 | []=>0
 | d :: l=>d+4294967296*val l
def M8:Nat->Nat->List Nat
 | 0,_=>[]
 | f+1,n=>if n=0 then []else n % 4294967296 :: M8 f (n / 4294967296)
def dig (n:Nat):List Nat:=M8 n n
theorem Sa:∀(f g n:Nat),n<=f->n<=g->M8 f n=M8 g n
 | 0,0,_,_,_=>rfl
 | 0,g+1,n,h,_=>by
  have:n=0:=by omega
  subst this;simp[M8]
 | f+1,0,n,_,h=>by
  have:n=0:=by omega
  subst this;simp[M8]
 | f+1,g+1,n,h,h'=>by
  rw[M8,M8];split
  ·rfl
  ·rename_i h0
   have:n / 4294967296<n:=Nat.div_lt_self (by omega) (by omega);rw[Sa f g _ (by omega) (by omega)]
theorem J8:dig 0=[]:=rfl
theorem M9 {n:Nat} (h:n≠0):dig n=n % 4294967296 :: dig (n / 4294967296):=by
 obtain⟨m,rfl⟩:∃m,n=m+1:=⟨n - 1,by omega⟩
 unfold dig;rw[M8,if_neg h];have:(m+1) / 4294967296<m+1:=Nat.div_lt_self (by omega) (by omega);rw[Sa m ((m+1) / 4294967296) _ (by omega) (Nat.le_refl _)]
theorem Kz (a b:List Nat):val (a++b)=val a+4294967296 ^ a.length*val b:=by
 induction a with
 | nil=>simp[val]
 | cons d a ih=>rw[List.cons_append,val,val,ih,List.length_cons,Nat.pow_succ,Nat.mul_add];rw[Nat.mul_comm (4294967296 ^ a.length) 4294967296,Nat.mul_assoc];omega
theorem pow_pos (k:Nat):0<4294967296 ^ k:=Nat.pow_pos (by omega)
theorem dig_lt {n k:Nat}:(dig n).length<=k↔n<4294967296 ^ k:=by
 induction k generalizing n with
 | zero=>
  by_cases h:n=0
  ·subst h;simp[J8]
  ·rw[M9 h];simp;omega
 | succ k ih=>
  by_cases h:n=0
  ·subst h;have:=pow_pos (k+1);simp[J8];omega
  ·rw[M9 h,List.length_cons,Nat.pow_succ,Nat.add_le_add_iff_right,ih,Nat.div_lt_iff_lt_mul (by omega)]
theorem dig_length_pos {n:Nat}:0<(dig n).length↔n≠0:=by
 by_cases h:n=0
 ·subst h;simp[J8]
 ·rw[M9 h];simp;exact h
theorem dig_top {n:Nat} (h:n≠0):4294967296 ^ ((dig n).length - 1)<=n:=by
 rcases Nat.lt_or_ge n (4294967296 ^ ((dig n).length - 1))with hlt|H
 ·have:=dig_lt.2 hlt
  have:=dig_length_pos.2 h;omega
 ·exact H
theorem dig_mono {a b:Nat} (h:a<=b):(dig a).length<=(dig b).length:=
 dig_lt.2 (Nat.lt_of_le_of_lt h (dig_lt.1 (Nat.le_refl _)))
theorem dig_add_len (a b:Nat):(dig (a+b)).length<=max (dig a).length (dig b).length+1:=by
 rw[dig_lt,Nat.pow_succ];have H:=dig_lt.1 (show(dig a).length<=max (dig a).length (dig b).length from by omega);have I:=dig_lt.1 (show(dig b).length<=max (dig a).length (dig b).length from by omega);omega
theorem dig_mul_len (a b:Nat):(dig (a*b)).length<=(dig a).length+(dig b).length:=by
 rw[dig_lt,Nat.pow_add];exact Nat.mul_lt_mul'' (dig_lt.1 (Nat.le_refl _)) (dig_lt.1 (Nat.le_refl _))
end Dig
section
open Go.RowKit Tryz
def vf (a:Nat->Nat):Nat->Nat
 | 0=>0
 | n+1=>vf a n+4294967296 ^ n*a n
def shf (a:Nat->Nat) (m:Nat):Nat->Nat:=λi=>a (m+i)
def upd (a:Nat->Nat) (k d:Nat):Nat->Nat:=λj=>if j=k then d else a j
theorem Dr {a b:Nat->Nat} {n:Nat} (h:∀i,i<n->a i=b i):vf a n=vf b n:=by
 induction n with
 | zero=>rfl
 | succ n ih=>rw[vf,vf,ih (λi H=>h i (by omega)),h n (by omega)]
theorem Ay (n:Nat):4294967296 ^ (n+1)=4294967296*4294967296 ^ n:=by rw[Nat.pow_succ,Nat.mul_comm]
theorem Ds {a:Nat->Nat} {n:Nat} (h:∀i,i<n->a i<4294967296):vf a n<4294967296 ^ n:=by
 induction n with
 | zero=>simp[vf]
 | succ n ih=>
  rw[vf,Ay];have I:=ih (λi J=>h i (by omega));have H:=Nat.mul_le_mul_left (4294967296 ^ n) (show a n<=4294967295 from by have:=h n (by omega);omega);rw[Nat.mul_comm _ 4294967295]at H;generalize 4294967296 ^ n*a n=y at *;generalize 4294967296 ^ n=x at *;omega
theorem Ho (a:Nat->Nat) (n:Nat):vf a (n+1)=a 0+4294967296*vf (shf a 1) n:=by
 induction n with
 | zero=>simp[vf]
 | succ n ih=>
  rw[vf,ih,vf,Ay,Nat.mul_assoc,Nat.mul_add,show shf a 1 n=a (n+1)from by simp[shf,Nat.add_comm]];omega
theorem Hp (a:Nat->Nat) (m n:Nat):vf a (m+n)=vf a m+4294967296 ^ m*vf (shf a m) n:=by
 induction n with
 | zero=>simp[vf]
 | succ n ih=>
  rw[<-Nat.add_assoc,vf,ih,vf,Nat.pow_add,Nat.mul_add,Nat.mul_assoc,show shf a m n=a (m+n)from rfl];omega
theorem N2 {a:Nat->Nat} {n:Nat} (h:∀i,i<n->a i=0):vf a n=0:=by
 induction n with
 | zero=>rfl
 | succ n ih=>rw[vf,ih (λi H=>h i (by omega)),h n (by omega)];simp
theorem cI {a:Nat->Nat} {m n:Nat} (I:m<=n) (h:∀i,m<=i->i<n->a i=0):vf a n=vf a m:=by
 obtain⟨k,rfl⟩:∃k,n=m+k:=⟨n - m,by omega⟩
 rw[Hp,N2 (a:=shf a m) (n:=k) (λi H=>h (m+i) (by omega) (by omega))];simp
theorem Bq {a:Nat->Nat} {k d n:Nat} (h:n<=k):vf (upd a k d) n=vf a n:=
 Dr λi H=>by unfold upd;rw[if_neg (by omega)]
theorem Y7 {a:Nat->Nat} {k d n:Nat} (h:k<n):vf (upd a k d) n+4294967296 ^ k*a k=vf a n+4294967296 ^ k*d:=by
 induction n with
 | zero=>omega
 | succ n ih=>
  rw[vf,vf];by_cases hk:k=n
  ·subst hk
   rw[Bq (kT _),show upd a k d k=d from by simp[upd]];omega
  ·have H:=ih (by omega)
   rw[show upd a k d n=a n from by unfold upd;rw[if_neg (by omega)]];omega
theorem fM {a b:Nat->Nat} {n:Nat} (I:∀i,i<n->a i<4294967296) (J:∀i,i<n->b i<4294967296) (h:vf a n=vf b n):∀i,i<n->a i=b i:=by
 induction n generalizing a b with
 | zero=>intro i H;omega
 | succ n ih=>
  rw[Ho,Ho]at h;have U:=I 0 (by omega);have V:=J 0 (by omega);have O:=ih (a:=shf a 1) (b:=shf b 1) (λi H=>I (1+i) (by omega)) (λi H=>J (1+i) (by omega)) (by omega);intro i H;cases i with
  | zero=>omega
  | succ i=>have:=O i (by omega);unfold shf at this;rwa [Nat.add_comm]at this
def nd (v:Nat):Nat:=(Dig.dig v).length
def dg (v:Nat) (i:Nat):Nat:=v / 4294967296 ^ i % 4294967296
theorem dg_lt (v i:Nat):dg v i<4294967296:=Nat.mod_lt _ (by omega)
theorem Be {v k:Nat}:nd v<=k↔v<4294967296 ^ k:=Dig.dig_lt
theorem Bm {a b:Nat} (h:a<=b):nd a<=nd b:=Dig.dig_mono h
theorem eV (a b:Nat):nd (a+b)<=max (nd a) (nd b)+1:=Dig.dig_add_len a b
theorem Cd (a b:Nat):nd (a*b)<=nd a+nd b:=Dig.dig_mul_len a b
theorem Du:nd 0=0:=rfl
theorem Bo {v:Nat}:0<nd v↔v≠0:=Dig.dig_length_pos
theorem eX {v:Nat} (h:v≠0):4294967296 ^ (nd v - 1)<=v:=Dig.dig_top h
theorem U4 (v n:Nat):vf (dg v) n=v % 4294967296 ^ n:=by
 induction n with
 | zero=>simp[vf,Nat.mod_one]
 | succ n ih=>rw[vf,ih,Nat.pow_succ,Nat.mod_mul];rfl
theorem Pw {v n:Nat} (h:v<4294967296 ^ n):vf (dg v) n=v:=by rw[U4,Nat.mod_eq_of_lt h]
theorem Bp (v:Nat):vf (dg v) (nd v)=v:=Pw (Be.1 (kT _))
theorem Wi {a:Nat->Nat} {n:Nat} (H:∀i,i<n->a i<4294967296):∀i,i<n->a i=dg (vf a n) i:=
 fM H (λi _=>dg_lt _ i) (Pw (Ds H)).symm
theorem iJ {a:Nat->Nat} {n:Nat} (J:∀i,i<n->a i<4294967296) (h:n=0∨a (n - 1)≠0):nd (vf a n)=n:=by
 have O:nd (vf a n)<=n:=Be.2 (Ds J);rcases h with rfl|h
 ·rfl
 ·rcases Nat.lt_or_ge (nd (vf a n)) n with H|H
  ·exfalso
   obtain⟨m,rfl⟩:∃m,n=m+1:=⟨n - 1,by omega⟩
   have I:=Be.1 (show nd (vf a (m+1))<=m from by omega);rw[vf]at I;simp only[Nat.add_sub_cancel]at h;have U:=Nat.mul_le_mul_left (4294967296 ^ m) (show 1<=a m from by omega);omega
  ·omega
structure Dg (w:World) (p:Option Addr) (c n:Nat) (a:Nat->Nat):Prop where
 cap:n<=c
 lt:∀j,j<n->a j<4294967296
 at':n=0∨∃g o,p=some ⟨g,o,none⟩/\g<w.heap.size/\∀j,j<n->w.cell? ⟨g,o+j,none⟩=some (.int .u32 (a j))
def Nm (w:World) (p:Option Addr) (c v:Nat):Prop:=Dg w p c (nd v) (dg v)
theorem Dg.keep {w w':World} {p:Option Addr} {c n:Nat} {a:Nat->Nat} (h:Dg w p c n a) (H:Below w.heap.size w w'):Dg w' p c n a:=
 ⟨h.cap,h.lt,by
  rcases h.at' with I |⟨g,o,e,hg,J⟩
  ·exact .inl I
  ·exact .inr ⟨g,o,e,kV hg H.size,λj O=>(H.cell (p:=⟨g,o+j,none⟩) hg).trans (J j O)⟩⟩
theorem Dg.below {B:Nat} {w w':World} {g o c n:Nat} {a:Nat->Nat} (h:Dg w (some ⟨g,o,none⟩) c n a) (I:Below B w w') (hg:g<B):Dg w' (some ⟨g,o,none⟩) c n a:=
 ⟨h.cap,h.lt,by
  rcases h.at' with J |⟨V,Y,e,H,O⟩
  ·exact .inl J
  ·injection e with e;injection e with e1 e2;subst e1;subst e2
   exact .inr ⟨g,o,rfl,kV H I.size,λj U=>(I.cell (p:=⟨g,o+j,none⟩) hg).trans (O j U)⟩⟩
theorem Dg.congr {w:World} {p:Option Addr} {c n:Nat} {a b:Nat->Nat} (h:Dg w p c n a) (e:∀j,j<n->a j=b j):Dg w p c n b:=
 ⟨h.cap,λj H=>by rw[<-e j H];exact h.lt j H,by
  rcases h.at' with J |⟨g,o,I,hg,O⟩
  ·exact .inl J
  ·exact .inr ⟨g,o,I,hg,λj H=>by rw[<-e j H];exact O j H⟩⟩
theorem Dg.take {w:World} {p:Option Addr} {c n:Nat} {a:Nat->Nat} (h:Dg w p c n a) {k:Nat} (O:k<=n):Dg w p c k a:=
 ⟨by have:=h.cap;omega,λj I=>h.lt j (by omega),by
  rcases h.at' with J |⟨g,o,e,hg,H⟩
  ·exact .inl (by omega)
  ·exact .inr ⟨g,o,e,hg,λj I=>H j (by omega)⟩⟩
theorem Dg.head {w:World} {p:Option Addr} {c n:Nat} {a:Nat->Nat} (h:Dg w p c n a) (H:0<n):∃g o,p=some ⟨g,o,none⟩/\g<w.heap.size/\∀j,j<n->w.cell? ⟨g,o+j,none⟩=some (.int .u32 (a j)):=
 h.at'.resolve_left (by omega)
theorem Dg.norm {w:World} {p:Option Addr} {c n:Nat} {a:Nat->Nat} (h:Dg w p c n a) (I:n=0∨a (n - 1)≠0):nd (vf a n)=n/\Nm w p c (vf a n):=by
 have H:=iJ h.lt I;exact⟨H,by unfold Nm;rw[H];exact h.congr (Wi h.lt)⟩
theorem Nm.keep {w w':World} {p:Option Addr} {c v:Nat} (h:Nm w p c v) (H:Below w.heap.size w w'):Nm w' p c v:=Dg.keep h H
theorem Nm.nil (w:World):Nm w none 0 0:=⟨kT _,λj H=>absurd H (by simp[Du]),.inl Du⟩
def Row (w:World) (g n:Nat) (a:Nat->Nat):Prop:=w.rowIs g 200 n (λi=>.int .u32 (a i))/\∀j,j<n->a j<4294967296
theorem Row.dg {w:World} {g n:Nat} {a:Nat->Nat} (h:Row w g n a) (c:Nat) (H:n<=c):Dg w (some ⟨g,0,none⟩) c n a:=
 ⟨H,h.2,.inr ⟨g,0,rfl,h.1.lt,λj I=>by rw[Nat.zero_add];exact h.1.cell I⟩⟩
theorem Row.set {w:World} {g n:Nat} {a:Nat->Nat} (h:Row w g n a) (k d:Nat) (H:d<4294967296):Row (w.setCell ⟨g,k,none⟩ (.int .u32 d)) g n (upd a k d):=
 ⟨(h.1.set k _).congr (λi _=>by unfold upd;split <;> rfl),λj I=>by unfold upd;split;exact H;exact h.2 j I⟩
theorem Row.made (w:World) (n:Nat):Row (w.alloc (.cells (madeCells #[.int .u32 0] n) 200)) w.heap.size n (λ_=>0):=
 ⟨World.rowIs_made w _ n _,λ_ _=>(by decide:(0:Nat)<4294967296)⟩
theorem Row.below {B:Nat} {w w':World} {g n:Nat} {a:Nat->Nat} (h:Row w g n a) (H:Below B w w') (hg:g<B):Row w' g n a:=⟨h.1.of_block (H.block g hg),h.2⟩
theorem Row.congr {w:World} {g n:Nat} {a b:Nat->Nat} (h:Row w g n a) (e:∀j,j<n->a j=b j):Row w g n b:=
 ⟨h.1.congr (λi I=>by rw[e i I]),λj H=>by rw[<-e j H];exact h.2 j H⟩
theorem Row.alloc (w:World) (cs:Array Value) (n:Nat) (a:Nat->Nat) (I:cs.size=n) (h:∀i,i<n->cs[i]?=some (.int .u32 (a i))) (H:∀i,i<n->a i<4294967296):Row (w.alloc (.cells cs 200)) w.heap.size n a:=by
 subst I;exact⟨World.rowIs_alloc w cs _ _ h,H⟩
theorem Yz {a b:Nat->Nat} {n i:Nat} (U:i<n) (I:∀j,j<n->a j<4294967296) (h:∀j,i<j->j<n->a j=b j) (hlt:a i<b i):vf a n<vf b n:=by
 obtain⟨k,rfl⟩:∃k,n=(i+1)+k:=⟨n - (i+1),by omega⟩
 rw[Hp,Hp b,Dr (a:=shf a (i+1)) (b:=shf b (i+1)) (n:=k) (λj J=>h (i+1+j) (by omega) (by omega)),vf,vf];have O:=Ds (a:=a) (n:=i) (λj J=>I j (by omega));have H:=Nat.mul_le_mul_left (4294967296 ^ i) (show a i+1<=b i from hlt);rw[Nat.mul_add,Nat.mul_one]at H;omega
theorem Xg {u v:Nat} (h:nd u<nd v):u<v:=by
 rcases Nat.lt_or_ge u v with H|H
 ·exact H
 ·have:=Bm H;omega
theorem aW (y x:Nat) (I:y<4294967296) (H:x<4294967296):bits .or .u64 ((y:Int)*4294967296) (x:Int)=((x+4294967296*y:Nat):Int):=by
 rw[show(y:Int)*4294967296=((2 ^ 32*y:Nat):Int)from by omega,bits_or_u64_nat _ _ (by omega) (by omega),<-Nat.two_pow_add_eq_or_of_lt (show x<2 ^ 32 from H)];omega
def RetD (w':World) (e:Ending) (k t:Nat):Prop:=∃p c r,e=.returned (.slice p k c)/\Dg w' p c k r/\vf r k=t
def RetN (w':World) (e:Ending) (v:Nat):Prop:=∃p c,e=.returned (.slice p (nd v) c)/\Nm w' p c v
theorem N1:(prog.info? 200).map (λi=>(i.zero,i.size,i.bytes))=some (some (.int .u32 0),1,4):=by kernel_rfl
theorem Gk (n:Nat) (h:n<=70368744177664) (w:World):
  (Instr.makeSlice 82 (.int .i64 (n:Int)) (.int .i64 (n:Int))).run prog w=.ok (.slice (some ⟨w.heap.size,0,none⟩) n n) (w.alloc (.cells (madeCells #[.int .u32 0] n) 200)):=
 run_make_row' 82 200 (.int .u32 0) 4 underlying82 N1 rfl .i64 .i64 n (by omega) (by omega) w
theorem Dj (p:Option Addr) (c n:Nat) (a:Nat->Nat) (w:World) (h:Dg w p c n a) (hn:n<=70368744177664):
  Calls prog 129 #[.slice p n c] w λe w'=>(e=.returned (.slice p (nd (vf a n)) c)/\Nm w p c (vf a n))/\w'=w:=by
 have H:=Kh h;have V:=h.cap;clear h;go_enter func129,ntmps129
 go_wp2;go_loop [0] (λm=>∃k:Nat,m=.slice p k c/\k<=n/\vf a k=vf a n) (λm=>(match m with |.slice _ k _=>k|_=>0))
 case atStart=>exact⟨n,rfl,kT _,rfl⟩
 case round=>
  obtain⟨k,rfl,Y,Z⟩:=hrel;have O:=Kh Z;clear Z;by_cases h0:k=0
  ·subst h0
   have I:=(H.1.take Y).norm (.inl rfl);rw[O.1]at I;have J:=Kh I;clear I;go_wp2;go_ret;exact⟨⟨by rw[J.1.1];rfl,J.1.2⟩,rfl⟩
  ·have aJ:0<k:=by omega
   obtain⟨g,o,rfl,hg,U⟩:=H.1.head (by omega);have c1:=U (k - 1) (by omega);have e1:((k:Int) - 1).toNat=k - 1:=by omega
   clear U;by_cases hz:a (k - 1)=0
   ·have HZ:=Kh hz
    rw[hz]at c1;clear hz;go_wp2;go_round
    case rel=>exact⟨k - 1,rfl,by omega,by
     rw[<-O.1];obtain⟨m,rfl⟩:∃m,k=m+1:=⟨k - 1,by omega⟩
     rw[vf];have:=HZ.1;simp only[Nat.add_sub_cancel]at this ⊢;rw[this];simp⟩
    case measure=>simp only;omega
   ·have I:=(H.1.take Y).norm (.inr hz)
    rw[O.1]at I;have J:=Kh I;have aK:(((a (k - 1):Nat):Int)==0)=false:=beq_eq_false_iff_ne.2 (by omega);clear I hz;go_wp2;go_ret;exact⟨⟨by rw[J.1.1];rfl,J.1.2⟩,rfl⟩
theorem eC (n:Int) (w:World):
  Calls prog 202 #[.int .i64 n] w λe w'=>e=.returned (.int .i64 (Int.sign n))/\w'=w:=by
 go_enter func202,ntmps202
 go_wp2;all_goals go_ret
 all_goals refine⟨A3 ?_,rfl⟩
 all_goals try simp only[decide_eq_true_eq,decide_eq_false_iff_not,Int.not_lt]at *
 all_goals first|exact(Int.sign_eq_neg_one_of_neg (by omega)).symm|exact(Int.sign_eq_one_of_pos (by omega)).symm |(rw[show n=0 from by omega];rfl)
theorem eW {v:Nat} (H:v≠0) (h:v<4294967296):nd v=1:=by
 have I:=Bo.2 H;have J:=(Be (v:=v) (k:=1)).2 (by omega);omega
theorem eY {v:Nat} (I:4294967296<=v) (h:v<18446744073709551616):nd v=2:=by
 have J:=(Be (v:=v) (k:=2)).2 (by omega);have O:¬nd v<=1:=λH=>by have:=Be.1 H;omega
 omega
theorem Hw (v:Nat) (w:World) (I:v<18446744073709551616):
  Calls prog 132 #[.int .u64 v] w λe w'=>RetN w' e v/\Below w.heap.size w w':=by
 go_enter func132,ntmps132
 by_cases h0:v=0
 ·subst h0
  go_wp2;go_ret;exact⟨⟨none,0,rfl,Nm.nil _⟩,Below.refl _ _⟩
 ·have U:((v:Int)==0)=false:=beq_eq_false_iff_ne.2 (by omega)
  have Z:(v:Int)<18446744073709551616:=by omega
  have J:=Kh h0;have O:=Kh I;by_cases h1:(v:Int)<4294967296
  ·have h:(v:Int) % 4294967296=v:=by omega
   clear I h0;go_wp2;go_ret;have H:=eW J.1 (by omega);refine⟨⟨_,1,by rw[H];rfl,?_⟩,(Below.refl _ _).alloc (kT _) _⟩;unfold Nm;rw[H];refine(Row.alloc w _ 1 (dg v) rfl (λi Y=>?_) (λi _=>dg_lt v i)).dg 1 (kT _);obtain rfl:i=0:=by omega
   simp[dg];omega
  ·clear I h0
   go_wp2;go_ret;have H:=eY (by omega) O.1;refine⟨⟨_,2,by rw[H];rfl,?_⟩,(Below.refl _ _).alloc (kT _) _⟩;unfold Nm;rw[H];refine(Row.alloc w _ 2 (dg v) rfl (λi Y=>?_) (λi _=>dg_lt v i)).dg 2 (kT _);rcases Nat.lt_or_ge i 1 with V|V
   ·obtain rfl:i=0:=by omega
    simp[dg]
   ·obtain rfl:i=1:=by omega
    simp[dg];omega
theorem eF (p:Option Addr) (c n:Nat) (a:Nat->Nat) (w:World) (h:Dg w p c n a) (hn:n<=2):
  Calls prog 204 #[.slice p n c] w λe w'=>e=.returned (.int .u64 (vf a n:Nat))/\∃k,w'=w.drewN k:=by
 by_cases h0:n=0
 ·subst h0
  go_enter func204,ntmps204
  go_wp2;go_ret;exact⟨rfl,0,rfl⟩
 ·obtain⟨g,o,rfl,hg,J⟩:=h.head (by omega)
  have V:=h.lt 0 (by omega);have c0:=J 0 (by omega);obtain⟨x,I⟩:∃x,a 0=x:=⟨_,rfl⟩
  rw[I]at V c0;rw[Nat.add_zero]at c0;have Z:(x:Int)<4294967296:=by omega
  by_cases h1:n=1
  ·subst h1
   have H:vf a 1=x:=by simp[vf,I]
   have O:=Kh H;clear J h I V H;go_enter func204,ntmps204
   go_wp2;go_ret;exact⟨A3 (by rw[O.1]),0,rfl⟩
  ·obtain rfl:n=2:=by omega
   have Y:=h.lt 1 (by omega);have c1:=J 1 (by omega);obtain⟨y,U⟩:∃y,a 1=y:=⟨_,rfl⟩
   rw[U]at Y c1;have aD:(y:Int)<4294967296:=by omega
   have H:vf a 2=x+4294967296*y:=by simp[vf,I,U]
   have O:=Kh H;clear J h I U V Y H;go_enter func204,ntmps204
   go_wp2;go_quiet (fail)
   go_wp2;go_ret;exact⟨A3 (by rw[O.1];exact aW _ _ (by omega) (by omega)),nq,rfl⟩
theorem J5 {u v:Nat} (h:u<v):Int.sign ((u:Int) - v)=-1:=Int.sign_eq_neg_one_of_neg (by omega)
theorem M6 {u v:Nat} (h:v<u):Int.sign ((u:Int) - v)=1:=Int.sign_eq_one_of_pos (by omega)
theorem eH {u v:Nat} (h:nd u≠nd v):Int.sign ((nd u:Int) - nd v)=Int.sign ((u:Int) - v):=by
 rcases Nat.lt_or_gt_of_ne h with H|H
 ·rw[J5 H,J5 (Xg H)]
 ·rw[M6 H,M6 (Xg H)]
theorem Zv (p:Option Addr) (c:Nat) (q:Option Addr) (d n:Nat) (a b:Nat->Nat) (s:Int) (w:World) (O:Dg w p c n a) (I:Dg w q d n b) (hn:n<=70368744177664) (hs:Int.sign ((vf a n:Int) - (vf b n:Nat))=s):
  Calls prog 167 #[.slice p n c,.slice q n d] w λe w'=>e=.returned (.int .i64 s)/\∃k,w'=w.drewN k:=by
 have H1:=Kh O;have H2:=Kh I;have HS:=Kh hs;clear O I hs;go_enter func167,ntmps167
 go_wp2;go_loopw [5] (λi wr=>∃k:Nat,k<=n/\i=.int .i64 ((k:Int) - 1)/\(∀j,k<=j->j<n->a j=b j)/\∃m,wr=w.drewN m) (λi _=>(intOf i+1).toNat)
 case atStart=>exact⟨n,kT _,by go_num,λj O I=>by omega,0,rfl⟩
 case round=>
  obtain⟨k,hk,rfl,Y,mr,rfl⟩:=hrel;have h:=Kh Y;clear Y;by_cases h0:k=0
  ·subst h0
   go_wp2;go_ret;refine⟨A3 ?_,mr,rfl⟩;rw[<-HS.1,Dr λi hi=>h.1 i (by omega) hi];simp
  ·have cB:0<k:=by omega
   obtain⟨g1,o1,rfl,bE,U⟩:=H1.1.head (by omega);obtain⟨g2,o2,rfl,bY,V⟩:=H2.1.head (by omega);have c1:=U (k - 1) (by omega);have c2:=V (k - 1) (by omega);have e1:((k:Int) - 1).toNat=k - 1:=by omega
   have cC:(1:Int)<=(k:Int):=by omega
   obtain⟨x,hx⟩:∃x,a (k - 1)=x:=⟨_,rfl⟩
   obtain⟨y,hy⟩:∃y,b (k - 1)=y:=⟨_,rfl⟩
   rw[hx]at c1;rw[hy]at c2;have HX:=Kh hx;have HY:=Kh hy;clear U V hx hy;by_cases hxy:x=y
   ·subst hxy
    go_wp2;go_quiet (fail)
    go_wp2;go_roundw
    case rel=>exact⟨k - 1,by omega,by go_num,λj O I=>by
     rcases Nat.lt_or_ge j k with h3|h3
     ·rw[show j=k - 1 from by omega,HX.1,HY.1]
     ·exact h.1 j h3 I,_,rfl⟩
    case measure=>simp[intOf];omega
   ·have bB:((x:Int) !=(y:Int))=true:=by rw[bne_iff_ne];omega
    have HL:=Kh hxy;clear hxy;by_cases hlt:(x:Int)<(y:Int)
    ·have Z:=Yz (a:=a) (b:=b) (n:=n) (i:=k - 1) (by omega) H1.1.lt (λj O I=>h.1 j (by omega) I) (by rw[HX.1,HY.1];omega)
     have H:=J5 Z;rw[HS.1]at H;have J:=Kh H;clear Z H;go_wp2;go_quiet (fail)
     go_wp2;go_quiet (fail)
     go_wp2;go_ret;exact⟨A3 J.1.symm,_,by rw[Ly,Ly]⟩
    ·have Z:=Yz (a:=b) (b:=a) (n:=n) (i:=k - 1) (by omega) H2.1.lt (λj O I=>(h.1 j (by omega) I).symm) (by rw[HX.1,HY.1];have:=HL.1;omega)
     have H:=M6 Z;rw[HS.1]at H;have J:=Kh H;clear Z H;go_wp2;go_quiet (fail)
     go_wp2;go_quiet (fail)
     go_wp2;go_ret;exact⟨A3 J.1.symm,_,by rw[Ly,Ly]⟩
theorem D7 (p:Option Addr) (c u:Nat) (q:Option Addr) (d v:Nat) (w:World) (h:Nm w p c u) (I:Nm w q d v) (Y:nd u<=70368744177664) (Z:nd v<=70368744177664):
  Calls prog 167 #[.slice p (nd u) c,.slice q (nd v) d] w λe w'=>e=.returned (.int .i64 (Int.sign ((u:Int) - v)))/\∃k,w'=w.drewN k:=by
 by_cases hne:nd v=nd u
 ·have V:Dg w q d (nd u) (dg v):=by rw[<-hne];exact I
  have H:vf (dg v) (nd u)=v:=by rw[<-hne];exact Bp v
  rw[hne];exact Zv p c q d (nd u) (dg u) (dg v) _ w h V Y (by rw[Bp,H])
 ·have O:=eH (Ne.symm hne)
  have J:((nd u:Int) !=(nd v:Int))=true:=by rw[bne_iff_ne];omega
  generalize Int.sign ((u:Int) - v)=s at *;generalize nd u=n at *;generalize nd v=m at *;have U:=Kh O;clear h I O hne;go_enter func167,ntmps167
  go_wp2_with (go_at_call 202;refine(eC _ _).mono ?_;rw[U.1];rintro e w' ⟨rfl,rfl⟩)
  go_ret;exact⟨rfl,0,rfl⟩
theorem Ms (x y z:Nat) (w:World) (I:(x:Int)<4294967296) (J:(y:Int)<4294967296) (O:(z:Int)<4294967296):
  Calls prog 201 #[.int .u32 x,.int .u32 y,.int .u32 z] w λe w'=>e=.returned (.tuple #[.int .u32 ((x+y+z) % 4294967296:Nat),.int .u32 ((x+y+z) / 4294967296:Nat)])/\w'=w:=by
 have H:((x:Int)+(y:Int)+(z:Int)) / 4294967296 % 4294967296=((x:Int)+(y:Int)+(z:Int)) / 4294967296:=by omega
 go_enter func201,ntmps201
 go_wp2;go_ret2
 exact⟨by simp,rfl⟩
theorem bR (n:Nat) (h:n<4294967296):n / 2147483648=if n.testBit 31 then 1 else 0:=by
 rw[Nat.testBit_eq_decide_div_mod_eq];have e:(2:Nat) ^ 31=2147483648:=by decide
 rw[e];simp only[decide_eq_true_eq];split <;> omega
theorem Mp (n:Nat) (h:n<4294967296):n.testBit 31=decide (2147483648<=n):=by
 rw[Nat.testBit_eq_decide_div_mod_eq];have e:(2:Nat) ^ 31=2147483648:=by decide
 rw[e];rw[decide_eq_decide];omega
theorem Zh (x y z d:Nat) (U:x<4294967296) (V:y<4294967296) (Z:z<=1) (Y:(d:Int)=((x:Int) - y - z) % 4294967296):
  (((4294967295 ^^^ x) &&& y) |||((4294967295 ^^^ (x ^^^ y)) &&& d)) / 2147483648=if x<y+z then 1 else 0:=by
 have H:d<4294967296:=by omega
 have e:(4294967296:Nat)=2 ^ 32:=by decide
 have I:((4294967295 ^^^ x) &&& y)<2 ^ 32:=Nat.and_lt_two_pow _ (by omega);have J:((4294967295 ^^^ (x ^^^ y)) &&& d)<2 ^ 32:=Nat.and_lt_two_pow _ (by omega);have O:=Nat.or_lt_two_pow I J;rw[bR _ (by omega),Nat.testBit_or,Nat.testBit_and,Nat.testBit_and,Nat.testBit_xor,Nat.testBit_xor,Nat.testBit_xor,Mp x U,Mp y V,Mp d H,show(4294967295:Nat).testBit 31=true from by decide];clear I J O e;by_cases a1:2147483648<=x <;> by_cases a2:2147483648<=y <;> by_cases a3:2147483648<=d <;> simp only[a1,a2,a3,decide_true,decide_false,Bool.xor_true,Bool.xor_false,Bool.not_true,Bool.not_false,Bool.and_true,Bool.and_false,Bool.or_true,Bool.or_false,if_true,Bool.false_eq_true,if_false] <;> split <;> first|rfl |(exfalso;omega)|omega
theorem Zg (x y z:Nat) (I:x<4294967296) (J:y<4294967296) (hz:z<=1):
  bits .or .u32 (bits .and .u32 (bits .xor .u32 (if IntKind.u32.signed=true then -1 else IntKind.u32.max) (x:Int)) (y:Int)) (bits .and .u32 (bits .xor .u32 (if IntKind.u32.signed=true then -1 else IntKind.u32.max) (bits .xor .u32 (x:Int) (y:Int))) (((x:Int) - y - z) % 4294967296)) / 2147483648=if x<y+z then 1 else 0:=by
 obtain⟨d,O⟩:∃d:Nat,(d:Int)=((x:Int) - y - z) % 4294967296:=⟨(((x:Int) - y - z) % 4294967296).toNat,by omega⟩
 have U:(if IntKind.u32.signed=true then(-1:Int)else IntKind.u32.max)=((4294967295:Nat):Int):=by decide
 have e:(4294967296:Nat)=2 ^ 32:=by decide
 have V:x ^^^ y<4294967296:=by rw[e];exact Nat.xor_lt_two_pow (by omega) (by omega)
 have Y:4294967295 ^^^ x<4294967296:=by rw[e];exact Nat.xor_lt_two_pow (by omega) (by omega)
 have Z:4294967295 ^^^ (x ^^^ y)<4294967296:=by rw[e];exact Nat.xor_lt_two_pow (by omega) (by omega)
 have h:(4294967295 ^^^ x) &&& y<4294967296:=by rw[e];exact Nat.and_lt_two_pow _ (by omega)
 have h5:(4294967295 ^^^ (x ^^^ y)) &&& d<4294967296:=by rw[e];exact Nat.and_lt_two_pow _ (by omega)
 rw[<-O,U,u32_xor_nat _ _ (by omega) I,u32_xor_nat _ _ I J,u32_xor_nat _ _ (by omega) V,u32_and_nat _ _ Y J,u32_and_nat _ _ Z (by omega),u32_or_nat _ _ h h5];have:=Zh x y z d I J hz O;have H:=congrArg (Int.ofNat) this;split at H
 ·rename_i hh;rw[if_pos hh];simpa using H
 ·rename_i hh;rw[if_neg hh];simpa using H
theorem Iy (x y z:Nat) (w:World) (U:(x:Int)<4294967296) (V:(y:Int)<4294967296) (Y:(z:Int)<=1):
  Calls prog 203 #[.int .u32 x,.int .u32 y,.int .u32 z] w λe w'=>e=.returned (.tuple #[.int .u32 (((x:Int) - y - z) % 4294967296),.int .u32 (if x<y+z then 1 else 0)])/\w'=w:=by
 have I:=Zg x y z (by omega) (by omega) (by omega);obtain⟨b,H⟩:∃b:Int,(if x<y+z then(1:Int)else 0)=b:=⟨_,rfl⟩
 rw[H]at I ⊢;have O:=Kh I;have J:((((x:Int) - y) % 4294967296 - z) % 4294967296)=((x:Int) - y - z) % 4294967296:=by omega
 clear I H;go_enter func203,ntmps203
 go_wp
 go_ret2
 refine⟨?_,rfl⟩;rw[<-O.1];first|rfl |(rw[<-J];rfl) |(simp[J];done)
def ext (b:Nat->Nat) (m:Nat):Nat->Nat:=λj=>if j<m then b j else 0
theorem Wj (b:Nat->Nat) {m n:Nat} (h:m<=n):vf (ext b m) n=vf b m:=by
 rw[cI h (λi I _=>by unfold ext;rw[if_neg (by omega)])];exact Dr λi H=>by unfold ext;rw[if_pos H]
def Va (w:World) (g:Nat) (n1 i:Nat) (t:Nat) (cy:Nat):Prop:=∃r,Row w g n1 r/\vf r i+4294967296 ^ i*cy=t
theorem Mg {w:World} {g V i I x y s J:Nat} {a b r:Nat->Nat} (H:Row w g V r) (U:vf r i+4294967296 ^ i*I=vf a i+vf b i) (Z:a i=x) (hy:b i=y) (hs:(x+y+I) % 4294967296=s) (Y:(x+y+I) / 4294967296=J):
  Va (w.setCell ⟨g,i,none⟩ (.int .u32 s)) g V (i+1) (vf a (i+1)+vf b (i+1)) J:=by
 refine⟨_,H.set i s (by omega),?_⟩;rw[vf,vf,vf,Bq (kT _),show upd r i s i=s from by simp[upd],Ay,Z,hy];have h:x+y+I=s+4294967296*J:=by omega
 have O:=congrArg (4294967296 ^ i * ·) h;simp only[Nat.mul_add]at O;rw[Nat.mul_left_comm]at O;rw[Nat.mul_assoc];omega
theorem V1 (p:Option Addr) (c n:Nat) (a:Nat->Nat) (q:Option Addr) (d m:Nat) (b:Nat->Nat) (w:World) (h1:Dg w p c n a) (h2:Dg w q d m b) (hn:n<=70368744177660) (hm:m<=70368744177660):
  Calls prog 166 #[.slice p n c,.slice q m d] w λe w'=>RetD w' e (max n m+1) (vf a n+vf b m)/\Below w.heap.size w w':=by
 obtain⟨T,hT⟩:∃T,vf a n+vf b m=T:=⟨_,rfl⟩
 obtain⟨M,Z⟩:∃M,max n m+1=M:=⟨_,rfl⟩
 rw[hT,Z];have H1:=Kh h1;have H2:=Kh h2;have HT:=Kh hT;have HM:=Kh Z;clear h1 h2 hT Z;go_enter func166,ntmps166
 go_upto_if 14 with(fail)
 go_cut [0,1] (λv0 v1 wc=>wc=w/\∃p c n a q d m b,v0=.slice p n c/\v1=.slice q m d/\Dg w p c n a/\Dg w q d m b/\m<=n/\n<=70368744177660/\vf a n+vf b m=T/\n+1=M)
 case first=>
  by_cases hlt:(n:Int)<(m:Int)
  ·have Y:m+1=M:=by have:=HM.1;omega
   have HX:=Kh Y;clear Y;go_wp2;go_meet
   case rel=>exact⟨rfl,q,d,m,b,p,c,n,a,rfl,rfl,H2.1,H1.1,by omega,by omega,by rw[Nat.add_comm];exact HT.1,HX.1⟩
  ·have Y:n+1=M:=by have:=HM.1;omega
   have HX:=Kh Y;clear Y;go_wp2;go_meet
   case rel=>exact⟨rfl,p,c,n,a,q,d,m,b,rfl,rfl,H1.1,H2.1,by omega,by omega,HT.1,HX.1⟩
 case rest=>
  clear H1 H2 HT HM hn hm p c n a q d m b;obtain⟨rfl,p,c,n,a,q,d,m,b,rfl,rfl,h1,h2,gL,hn,hT,Z⟩:=hcut;have hR:∀w,(Instr.makeSlice 82 (.int .i64 ((n:Int)+1)) (.int .i64 ((n:Int)+1))).run prog w=.ok (.slice (some ⟨w.heap.size,0,none⟩) (n+1) (n+1)) (w.alloc (.cells (madeCells #[.int .u32 0] (n+1)) 200)):=Gk (n+1) (by omega)
  obtain⟨B,hB⟩:∃B,B=wc.heap.size:=⟨_,rfl⟩
  have H:=Row.made wc (n+1);have H1:=Kh h1;have H2:=Kh h2;have HT:=Kh hT;have HM:=Kh Z;have HR:=Kh H;clear h1 h2 hT Z H;go_wp2;obtain⟨wb,aJ⟩:∃wb,wc.alloc (.cells (madeCells #[.int .u32 0] (n+1)) 200)=wb:=⟨_,rfl⟩
  rw[aJ];have aK:Below wc.heap.size wc wb:=by rw[<-aJ];exact(Below.refl _ _).alloc (kT _) _
  rw[aJ]at HR;have dC:=Kh aK;clear aJ aK;go_loopw [6,23] (λv6 aX wr=>∃i O:Nat,i<=n/\v6=.int .u32 O/\aX=.int .i64 i/\(O:Int)<=1/\Va wr wc.heap.size (n+1) i (vf a i+vf (ext b m) i) O/\Below wc.heap.size wc wr) (λ_ aX _=>n - (intOf aX).toNat)
  case atStart=>exact⟨0,0,Nat.zero_le _,rfl,rfl,by decide,⟨_,HR.1,rfl⟩,dC.1⟩
  case round=>
   obtain⟨i,O,hi,rfl,rfl,eP,⟨r,H,I⟩,hb⟩:=hrel;have HB:=Kh hb;clear hb;have cG:∃u,wr.cell? ⟨wc.heap.size,i,none⟩=some u:=⟨_,H.1.cell (by omega)⟩
   obtain⟨u,cG⟩:=cG;have hP:wr.frozen? ⟨wc.heap.size,i,none⟩=false:=H.1.frozen i;by_cases hlt:(i:Int)<(n:Int)
   ·obtain⟨g1,o1,rfl,gA,cD⟩:=H1.1.head (by omega)
    have c1:wr.cell? ⟨g1,o1+i,none⟩=_:=(HB.1.cell (p:=⟨g1,o1+i,none⟩) gA).trans (cD i (by omega));have gP:((a i:Nat):Int)<4294967296:=by have:=H1.1.lt i (by omega);omega
    obtain⟨x,Y⟩:∃x,a i=x:=⟨_,rfl⟩
    rw[Y]at c1 gP;clear cD;by_cases hmi:(i:Int)<(m:Int)
    ·obtain⟨g2,o2,rfl,gF,cF⟩:=H2.1.head (by omega)
     have c2:wr.cell? ⟨g2,o2+i,none⟩=_:=(HB.1.cell (p:=⟨g2,o2+i,none⟩) gF).trans (cF i (by omega));have cX:((b i:Nat):Int)<4294967296:=by have:=H2.1.lt i (by omega);omega
     obtain⟨y,V⟩:∃y,b i=y:=⟨_,rfl⟩
     have hy:ext b m i=y:=by unfold ext;rw[if_pos (by omega)];exact V
     rw[V]at c2 cX;clear cF V;have h:=Ms x y O wr (by omega) (by omega) (by omega);obtain⟨s,hs⟩:∃s,(x+y+O) % 4294967296=s:=⟨_,rfl⟩
     obtain⟨cz,U⟩:∃cz,(x+y+O) / 4294967296=cz:=⟨_,rfl⟩
     rw[hs,U]at h;have gN:(s:Int)<4294967296:=by omega
     have aT:(cz:Int)<=1:=by omega
     have J:=Mg H I Y hy hs U;have HN:=Kh J;have h:=Kh h;clear J hs U Y hy I H;go_wp2_with (go_at_call 201;refine h.1.mono ?_;rintro e w' ⟨rfl,rfl⟩)
     go_roundw
     case rel=>exact⟨i+1,cz,by omega,rfl,by go_num,aT,HN.1,HB.1.setCell (kT _) _⟩
     case measure=>simp[intOf];omega
    ·obtain⟨y,V⟩:∃y:Nat,0=y:=⟨_,rfl⟩
     have hy:ext b m i=y:=by unfold ext;rw[if_neg (by omega)];exact V
     subst V;have cX:((0:Nat):Int)<4294967296:=by decide
     have h:=Ms x 0 O wr (by omega) (by omega) (by omega);obtain⟨s,hs⟩:∃s,(x+0+O) % 4294967296=s:=⟨_,rfl⟩
     obtain⟨cz,U⟩:∃cz,(x+0+O) / 4294967296=cz:=⟨_,rfl⟩
     rw[hs,U]at h;have gN:(s:Int)<4294967296:=by omega
     have aT:(cz:Int)<=1:=by omega
     have J:=Mg H I Y hy hs U;have HN:=Kh J;have h:=Kh h;clear J hs U Y hy I H;go_wp2_with (go_at_call 201;refine h.1.mono ?_;rintro e w' ⟨rfl,rfl⟩)
     go_roundw
     case rel=>exact⟨i+1,cz,by omega,rfl,by go_num,aT,HN.1,HB.1.setCell (kT _) _⟩
     case measure=>simp[intOf];omega
   ·obtain rfl:i=n:=by omega
    have aL:Row (wr.setCell ⟨wc.heap.size,i,none⟩ (.int .u32 O)) wc.heap.size (i+1) (upd r i O):=H.set i O (by omega)
    have aN:vf (upd r i O) (i+1)=T:=by
     rw[vf,Bq (kT _),show upd r i O i=O from by simp[upd],I,Wj b gL];exact HT.1
    have HF:=Kh aL;have HS:=Kh aN;have Z:=HM.1;clear aL aN I H eP;go_wp2;go_ret;exact⟨⟨_,_,_,by rw[<-Z];rfl,by rw[<-Z];exact HF.1.dg (i+1) (kT _),by rw[<-Z];exact HS.1⟩,HB.1.setCell (kT _) _⟩
def U8 (w:World) (g n i:Nat) (t u:Nat) (cy:Nat):Prop:=∃r,Row w g n r/\vf r i+u=t+4294967296 ^ i*cy
theorem L6 {w:World} {g n i H x y:Nat} {s:Nat} {a b r:Nat->Nat} (I:Row w g n r) (U:vf r i+vf b i=vf a i+4294967296 ^ i*H) (Y:a i=x) (hy:b i=y) (Z:x<4294967296) (aJ:y<4294967296) (V:H<=1) (hs:(s:Int)=((x:Int) - y - H) % 4294967296):
  U8 (w.setCell ⟨g,i,none⟩ (.int .u32 s)) g n (i+1) (vf a (i+1)) (vf b (i+1)) (if x<y+H then 1 else 0):=by
 refine⟨_,I.set i s (by omega),?_⟩;rw[vf,vf,vf,Bq (kT _),show upd r i s i=s from by simp[upd],Ay,Y,hy];obtain⟨k,O⟩:∃k,(if x<y+H then 1 else 0)=k:=⟨_,rfl⟩
 rw[O];have h:s+y+H=x+4294967296*k:=by split at O <;> omega
 have J:=congrArg (4294967296 ^ i * ·) h;simp only[Nat.mul_add]at J;rw[Nat.mul_left_comm]at J;rw[Nat.mul_assoc];omega
theorem Ql (p:Option Addr) (c n:Nat) (a:Nat->Nat) (q:Option Addr) (d m:Nat) (b:Nat->Nat) (w:World) (h1:Dg w p c n a) (h2:Dg w q d m b) (hn:n<=70368744177660) (dE:m<=n) (aX:vf b m<=vf a n):
  Calls prog 168 #[.slice p n c,.slice q m d] w λe w'=>RetD w' e n (vf a n - vf b m)/\Below w.heap.size w w':=by
 have hL:∀w,(Instr.makeSlice 82 (.int .i64 (n:Int)) (.int .i64 (n:Int))).run prog w=.ok (.slice (some ⟨w.heap.size,0,none⟩) n n) (w.alloc (.cells (madeCells #[.int .u32 0] n) 200)):=Gk n (by omega)
 have H:=Row.made w n;have H1:=Kh h1;have H2:=Kh h2;have HR:=Kh H;have HL:=Kh aX;clear h1 h2 H aX;go_enter func168,ntmps168
 go_wp2;obtain⟨wb,aJ⟩:∃wb,w.alloc (.cells (madeCells #[.int .u32 0] n) 200)=wb:=⟨_,rfl⟩
 rw[aJ];have aK:Below w.heap.size w wb:=by rw[<-aJ];exact(Below.refl _ _).alloc (kT _) _
 rw[aJ]at HR;have cF:=Kh aK;clear aJ aK;go_loopw [6,15] (λv6 bB wr=>∃i U:Nat,i<=n/\v6=.int .u32 U/\bB=.int .i64 i/\(U:Int)<=1/\U8 wr w.heap.size n i (vf a i) (vf (ext b m) i) U/\Below w.heap.size w wr) (λ_ bB _=>n - (intOf bB).toNat)
 case atStart=>exact⟨0,0,Nat.zero_le _,rfl,rfl,by decide,⟨_,HR.1,rfl⟩,cF.1⟩
 case round=>
  obtain⟨i,U,hi,rfl,rfl,aU,⟨r,H,O⟩,hb⟩:=hrel;have HB:=Kh hb;clear hb;by_cases hlt:(i:Int)<(n:Int)
  ·have cA:∃u,wr.cell? ⟨w.heap.size,i,none⟩=some u:=⟨_,H.1.cell (by omega)⟩
   obtain⟨u,cA⟩:=cA;have hJ:wr.frozen? ⟨w.heap.size,i,none⟩=false:=H.1.frozen i;obtain⟨g1,o1,rfl,cX,bE⟩:=H1.1.head (by omega);have c1:wr.cell? ⟨g1,o1+i,none⟩=_:=(HB.1.cell (p:=⟨g1,o1+i,none⟩) cX).trans (bE i (by omega));have dY:((a i:Nat):Int)<4294967296:=by have:=H1.1.lt i (by omega);omega
   obtain⟨x,hx⟩:∃x,a i=x:=⟨_,rfl⟩
   rw[hx]at c1 dY;clear bE;by_cases hmi:(i:Int)<(m:Int)
   ·obtain⟨g2,o2,rfl,dC,bY⟩:=H2.1.head (by omega)
    have c2:wr.cell? ⟨g2,o2+i,none⟩=_:=(HB.1.cell (p:=⟨g2,o2+i,none⟩) dC).trans (bY i (by omega));have cD:((b i:Nat):Int)<4294967296:=by have:=H2.1.lt i (by omega);omega
    obtain⟨y,Y⟩:∃y,b i=y:=⟨_,rfl⟩
    have hy:ext b m i=y:=by unfold ext;rw[if_pos (by omega)];exact Y
    rw[Y]at c2 cD;clear bY Y;have HC:=Iy x y U wr (by omega) (by omega) aU;obtain⟨s,hs⟩:∃s:Nat,(s:Int)=((x:Int) - y - U) % 4294967296:=⟨(((x:Int) - y - U) % 4294967296).toNat,by omega⟩
    have J:=L6 H O hx hy (by omega) (by omega) (by omega) hs;obtain⟨Z,V⟩:∃Z:Nat,(if x<y+U then 1 else 0)=Z:=⟨_,rfl⟩
    have I:(if x<y+U then(1:Int)else 0)=(Z:Nat):=by rw[<-V];split <;> rfl
    have aT:(Z:Int)<=1:=by rw[<-I];split <;> decide
    rw[V]at J;rw[<-hs,I]at HC;have HN:=Kh J;have HC:=Kh HC;clear J hs V I hx hy O H;go_wp2_with (go_at_call 203;refine HC.1.mono ?_;rintro e w' ⟨rfl,rfl⟩)
    go_roundw
    case rel=>exact⟨i+1,Z,by omega,rfl,by go_num,aT,HN.1,HB.1.setCell (kT _) _⟩
    case measure=>simp[intOf];omega
   ·obtain⟨y,Y⟩:∃y:Nat,0=y:=⟨_,rfl⟩
    have hy:ext b m i=y:=by unfold ext;rw[if_neg (by omega)];exact Y
    subst Y;have cD:((0:Nat):Int)<4294967296:=by decide
    have HC:=Iy x 0 U wr (by omega) (by omega) aU;obtain⟨s,hs⟩:∃s:Nat,(s:Int)=((x:Int) - (0:Nat) - U) % 4294967296:=⟨(((x:Int) - (0:Nat) - U) % 4294967296).toNat,by omega⟩
    have J:=L6 H O hx hy (by omega) (by omega) (by omega) hs;obtain⟨Z,V⟩:∃Z:Nat,(if x<0+U then 1 else 0)=Z:=⟨_,rfl⟩
    have I:(if x<0+U then(1:Int)else 0)=(Z:Nat):=by rw[<-V];split <;> rfl
    have aT:(Z:Int)<=1:=by rw[<-I];split <;> decide
    rw[V]at J;rw[<-hs,I]at HC;have HN:=Kh J;have HC:=Kh HC;clear J hs V I hx hy O H;go_wp2_with (go_at_call 203;refine HC.1.mono ?_;rintro e w' ⟨rfl,rfl⟩)
    go_roundw
    case rel=>exact⟨i+1,Z,by omega,rfl,by go_num,aT,HN.1,HB.1.setCell (kT _) _⟩
    case measure=>simp[intOf];omega
  ·obtain rfl:i=n:=by omega
   have aL:=H.dg i (kT _)
   have aN:vf r i=vf a i - vf b m:=by
    rw[Wj b dE]at O;have aX:=HL.1;have h1:=Ds H.2;rcases Nat.lt_or_ge 0 U with h|h
    ·exfalso
     obtain rfl:U=1:=by omega
     omega
    ·obtain rfl:U=0:=by omega
     omega
   have HF:=Kh aL;have HS:=Kh aN;clear aL aN O H aU;go_wp2;go_ret;exact⟨⟨_,_,_,rfl,HF.1,HS.1⟩,HB.1⟩
def dF (w':World) (e:Ending) (K t:Nat):Prop:=∃k,k<=K/\RetD w' e k t
theorem RetN.d {w':World} {e:Ending} {v:Nat} (h:RetN w' e v):RetD w' e (nd v) v:=by
 obtain⟨p,c,H,I⟩:=h;exact⟨p,c,dg v,H,I,Bp v⟩
theorem RetD.t {w':World} {e:Ending} {k v K:Nat} (h:RetD w' e k v) (H:k<=K):dF w' e K v:=⟨k,H,h⟩
def TimesAt (w:World) (g K k t:Nat):Prop:=∃r,Row w g K r/\vf r k=t/\∀l,k<=l->l<K->r l=0
def Mm (w:World) (g K k i j t cy:Nat):Prop:=∃r,Row w g K r/\vf r k+4294967296 ^ (i+j)*cy=t/\∀l,k<=l->l<K->r l=0
theorem TimesAt.cell {w:World} {g K k t:Nat} (h:TimesAt w g K k t) {i:Nat} (H:i<K):∃u,w.cell? ⟨g,i,none⟩=some u:=by
 obtain⟨r,hr,_⟩:=h;exact⟨_,hr.1.cell H⟩
theorem T4 {vr P J V Q x I s H o R y O:Nat} (h1:vr+P*J=V+Q*(x*I)) (h:P=Q*R) (U:x*y+o+J=s+4294967296*H) (h3:O+P*o=vr+P*s):O+(4294967296*P)*H=V+Q*(x*(I+R*y)):=by
 have h4:P*(x*y)+P*o+P*J=P*s+P*(4294967296*H):=by rw[<-Nat.mul_add,<-Nat.mul_add,<-Nat.mul_add,U]
 have Y:Q*(x*(I+R*y))=Q*(x*I)+P*(x*y):=by rw[h];simp only[Nat.mul_add,Nat.mul_comm,Nat.mul_left_comm]
 have Z:(4294967296*P)*H=P*(4294967296*H):=by simp only[Nat.mul_comm,Nat.mul_left_comm]
 rw[Y,Z];omega
theorem Qy {w:World} {g K k i j V x J o y s O:Nat} {b r:Nat->Nat} (H:Row w g K r) (I:vf r k+4294967296 ^ (i+j)*J=V+4294967296 ^ i*(x*vf b j)) (hz:∀l,k<=l->l<K->r l=0)
  (hk:i+j<k) (ho:r (i+j)=o) (hy:b j=y) (hs:(x*y+o+J) % 4294967296=s) (h:(x*y+o+J) / 4294967296=O):
  Mm (w.setCell ⟨g,i+j,none⟩ (.int .u32 s)) g K k i (j+1) (V+4294967296 ^ i*(x*vf b (j+1))) O:=by
 refine⟨_,H.set (i+j) s (by omega),?_,λl Y Z=>by unfold upd;rw[if_neg (by omega)];exact hz l Y Z⟩;have U:=Y7 (a:=r) (k:=i+j) (d:=s) (n:=k) hk;rw[ho]at U;rw[vf,hy,<-Nat.add_assoc i j 1,Ay];exact T4 I (Nat.pow_add _ _ _) (by omega) U
theorem T5 {w:World} {g K i m V x H:Nat} {a b:Nat->Nat} (h:Mm w g K (i+m) i m (V+4294967296 ^ i*(x*vf b m)) H) (hV:V=vf a i*vf b m) (Y:a i=x) (O:H<4294967296):
  TimesAt (w.setCell ⟨g,i+m,none⟩ (.int .u32 H)) g K (i+1+m) (vf a (i+1)*vf b m):=by
 obtain⟨r,I,J,Z⟩:=h;refine⟨_,I.set (i+m) H O,?_,λl h1 U=>by unfold upd;rw[if_neg (by omega)];exact Z l (by omega) U⟩;rw[show i+1+m=(i+m)+1 from by omega,vf,Bq (kT _),show upd r (i+m) H (i+m)=H from by simp[upd],J,hV,vf,Y,Nat.add_mul,Nat.mul_assoc]
theorem Z8 (p:Option Addr) (c n:Nat) (a:Nat->Nat) (q:Option Addr) (d m:Nat) (b:Nat->Nat) (w:World) (h1:Dg w p c n a) (h2:Dg w q d m b) (hn:n<=35184372088830) (hm:m<=35184372088830):
  Calls prog 133 #[.slice p n c,.slice q m d] w λe w'=>dF w' e (n+m) (vf a n*vf b m)/\Below w.heap.size w w':=by
 have H1:=Kh h1;have H2:=Kh h2;clear h1 h2;by_cases h0:n=0∨m=0
 ·have hT:vf a n*vf b m=0:=by rcases h0 with rfl|rfl <;> simp[vf]
  rw[hT];have aT:dF w (.returned (.slice none 0 0)) (n+m) 0:=⟨0,Nat.zero_le _,none,0,λ_=>0,rfl,⟨kT _,λj hj=>absurd hj (Nat.not_lt_zero _),.inl rfl⟩,rfl⟩
  have HN:=Kh aT;clear aT hT;by_cases O:n=0
  ·subst O
   clear h0;go_enter func133,ntmps133
   go_wp2;go_ret;exact⟨HN.1,Below.refl _ _⟩
  ·have Y:m=0:=h0.resolve_left O
   subst Y;have iL:((n:Int)==0)=false:=beq_eq_false_iff_ne.2 (by omega);clear h0 O;go_enter func133,ntmps133
   go_wp2;go_ret;exact⟨HN.1,Below.refl _ _⟩
 ·have O:0<n:=by omega
  have Y:0<m:=by omega
  have iL:((n:Int)==0)=false:=beq_eq_false_iff_ne.2 (by omega);have mA:((m:Int)==0)=false:=beq_eq_false_iff_ne.2 (by omega);clear h0;obtain⟨g1,o1,rfl,hX,bC⟩:=H1.1.head O;obtain⟨g2,o2,rfl,hY,bE⟩:=H2.1.head Y;by_cases hone:n=1/\m=1
  ·obtain⟨rfl,rfl⟩:=hone
   have l0:=H1.1.lt 0 (by omega);have m0:=H2.1.lt 0 (by omega);have c0:=bC 0 (by omega);have d0:=bE 0 (by omega);obtain⟨x,hx⟩:∃x,a 0=x:=⟨_,rfl⟩
   obtain⟨y,hy⟩:∃y,b 0=y:=⟨_,rfl⟩
   have hT:vf a 1*vf b 1=x*y:=by simp[vf,hx,hy]
   rw[hx]at c0 l0;rw[hy]at d0 m0;rw[Nat.add_zero]at c0 d0;obtain⟨J,I⟩:∃J,x*y=J:=⟨_,rfl⟩
   have aU:(x:Int)*(y:Int)=(J:Nat):=by rw[<-I];exact(Int.natCast_mul _ _).symm
   have cA:J<=4294967295*4294967295:=by rw[<-I];exact Nat.mul_le_mul (by omega) (by omega)
   have gF:(J:Int)<18446744073709551616:=by omega
   have gA:nd J<=1+1:=Be.2 (by omega);have mC:(x:Int)<4294967296:=by omega
   have mD:(y:Int)<4294967296:=by omega
   rw[hT,I];have hw:=λw=>Hw J w (by omega)
   have HW:=Kh hw;have hJ:=Kh gA;clear hw hT I hx hy l0 m0 cA gA bC bE O Y;go_enter func133,ntmps133
   go_wp2;go_still_tail 9,(by kernel_rfl)
   change wpList _ _ _ _ _ w.drew;generalize hwd:w.drew=wd;have dC:Below w.heap.size w wd:=by rw[<-hwd];exact(Below.refl _ _).drew
   have cG:=Kh dC;clear hwd dC;go_wp2_with (go_at_call 132;rw[aU];refine(HW.1 _).mono ?_;rintro e w' ⟨⟨p,c',rfl,kY⟩,hb⟩)
   go_ret;have hR:RetN w' (.returned (.slice p (nd J) c')) J:=⟨p,c',rfl,kY⟩
   exact⟨RetD.t hR.d hJ.1,cG.1.trans (hb.mono cG.1.size)⟩
  ·have hZ:∀w,(Instr.makeSlice 82 (.int .i64 ((n:Int)+(m:Int))) (.int .i64 ((n:Int)+(m:Int)))).run prog w=.ok (.slice (some ⟨w.heap.size,0,none⟩) (n+m) (n+m)) (w.alloc (.cells (madeCells #[.int .u32 0] (n+m)) 200)):=Gk (n+m) (by omega)
   have H:=Row.made w (n+m);have HR:=Kh H;have HO:=Kh hone;clear H hone bC bE;go_enter func133,ntmps133
   go_upto_region 3 with(fail)
   go_cut [27] (λv wc=>wc=w/\v=.bool false)
   case first=>
    by_cases hn1:(n:Int)=1
    ·have lL:((m:Int)==1)=false:=beq_eq_false_iff_ne.2 (by have:=HO.1;omega)
     have eP:((n:Int)==1)=true:=by rw[beq_iff_eq];exact hn1
     clear hn1;go_wp2;go_meet
     case rel=>exact⟨rfl,rfl⟩
    ·have eP:((n:Int)==1)=false:=beq_eq_false_iff_ne.2 hn1
     clear hn1;go_wp2;go_meet
     case rel=>exact⟨rfl,rfl⟩
   case rest=>
    obtain⟨rfl,rfl⟩:=hcut;go_wp2;obtain⟨wb,Z⟩:∃wb,wc.alloc (.cells (madeCells #[.int .u32 0] (n+m)) 200)=wb:=⟨_,rfl⟩
    rw[Z];have aK:Below wc.heap.size wc wb:=by rw[<-Z];exact(Below.refl _ _).alloc (kT _) _
    have U:TimesAt wb wc.heap.size (n+m) (0+m) (vf a 0*vf b m):=by
     rw[Z]at HR;refine⟨_,HR.1,?_,λ_ _ _=>rfl⟩;rw[N2 (λ_ _=>rfl)];simp[vf]
    have cF:=Kh aK;have cT:=Kh U;obtain⟨G,hG⟩:∃G,wc.heap.size=G:=⟨_,rfl⟩
    have HG:=Kh hG;have dE:g1<G:=by omega
    have dY:g2<G:=by omega
    rw[hG]at cF cT;rw[hG];clear Z aK U hZ HR hG hX hY HO;go_loopw [46] (λv wr=>∃i:Nat,i<=n/\v=.int .i64 i/\TimesAt wr G (n+m) (i+m) (vf a i*vf b m)/\Below G wc wr) (λv _=>n - (intOf v).toNat)
    case atStart=>exact⟨0,Nat.zero_le _,rfl,cT.1,cF.1⟩
    case round=>
     obtain⟨i,hi,rfl,hT,hb⟩:=hrel;have HB:=Kh hb;have HT:=Kh hT;clear hb hT;by_cases hlt:(i:Int)<(n:Int)
     ·have c1:wr.cell? ⟨g1,o1+i,none⟩=_:=(HB.1.cell (p:=⟨g1,o1+i,none⟩) dE).trans ((H1.1.head O).elim λg h=>h.elim λo h=>by
       obtain⟨e,_,hc⟩:=h;injection e with e;injection e with e1 e2;subst e1;subst e2
       exact hc i (by omega))
      have lD:((a i:Nat):Int)<4294967296:=by have:=H1.1.lt i (by omega);omega
      obtain⟨x,hx⟩:∃x,a i=x:=⟨_,rfl⟩
      rw[hx]at c1 lD;have HX:=Kh hx;clear hx;go_wp2;obtain⟨wo,rfl⟩:∃wo:World,wo=wr:=⟨_,rfl⟩
      obtain⟨V,hV⟩:∃V,vf a i*vf b m=V:=⟨_,rfl⟩
      have HV:=Kh hV;rw[hV]at HT;clear hV;go_loopw [8,53] (λv8 cD wr=>∃j cy:Nat,j<=m/\v8=.int .u64 cy/\cD=.int .i64 j/\(cy:Int)<4294967296/\Mm wr G (n+m) (i+m) i j (V+4294967296 ^ i*(x*vf b j)) cy/\Below G wc wr) (λ_ cD _=>m - (intOf cD).toNat)
      case atStart=>exact⟨0,0,Nat.zero_le _,rfl,rfl,by decide,by
       obtain⟨r,hr,hv,hz⟩:=HT.1;exact⟨r,hr,by simp[vf,hv],hz⟩,HB.1⟩
      case round=>
       obtain⟨j,cy,hj,rfl,rfl,lZ,hI,hb⟩:=hrel;have bA:=Kh hb;clear hb;by_cases hjl:(j:Int)<(m:Int)
       ·obtain⟨r,H,aX,hz⟩:=hI
        have d1:wr.cell? ⟨g2,o2+j,none⟩=_:=(bA.1.cell (p:=⟨g2,o2+j,none⟩) dY).trans ((H2.1.head Y).elim λg h=>h.elim λo h=>by
         obtain⟨e,_,hc⟩:=h;injection e with e;injection e with e1 e2;subst e1;subst e2
         exact hc j (by omega))
        have lE:((b j:Nat):Int)<4294967296:=by have:=H2.1.lt j (by omega);omega
        obtain⟨y,hy⟩:∃y,b j=y:=⟨_,rfl⟩
        rw[hy]at d1 lE;have gL:wr.cell? ⟨G,i+j,none⟩=some (.int .u32 (r (i+j):Nat)):=H.1.cell (by omega);have hW:wr.frozen? ⟨G,i+j,none⟩=false:=H.1.frozen _;have lA:((r (i+j):Nat):Int)<4294967296:=by have:=H.2 (i+j) (by omega);omega
        obtain⟨o,ho⟩:∃o,r (i+j)=o:=⟨_,rfl⟩
        rw[ho]at gL lA;obtain⟨J,I⟩:∃J,x*y=J:=⟨_,rfl⟩
        have aU:(x:Int)*(y:Int)=(J:Nat):=by rw[<-I];exact(Int.natCast_mul _ _).symm
        have cA:J<=4294967295*4294967295:=by rw[<-I];exact Nat.mul_le_mul (by omega) (by omega)
        have gF:(J:Int)<=18446744065119617025:=by omega
        obtain⟨s,hs⟩:∃s,(x*y+o+cy) % 4294967296=s:=⟨_,rfl⟩
        obtain⟨cz,bY⟩:∃cz,(x*y+o+cy) / 4294967296=cz:=⟨_,rfl⟩
        have aN:=Qy H aX hz (by omega) ho hy hs bY;rw[I]at hs bY;have mB:((J:Int)+(o:Int)+(cy:Int)) % 4294967296=(s:Nat):=by omega
        have lY:((J:Int)+(o:Int)+(cy:Int)) / 4294967296=(cz:Nat):=by omega
        have hU:(cz:Int)<4294967296:=by omega
        have HN:=Kh aN;clear aN H aX hz ho hy hs bY I cA;go_wp2;go_roundw
        case rel=>exact⟨j+1,cz,by omega,rfl,by go_num,hU,HN.1,bA.1.setCell (kT _) _⟩
        case measure=>simp[intOf];omega
       ·obtain rfl:j=m:=by omega
        have aL:=T5 hI HV.1.symm HX.1 (by omega);obtain⟨r,H,_,_⟩:=hI;have gL:wr.cell? ⟨G,i+j,none⟩=some (.int .u32 (r (i+j):Nat)):=H.1.cell (by omega);have hW:wr.frozen? ⟨G,i+j,none⟩=false:=H.1.frozen _;have HF:=Kh aL;clear aL H;go_wp2;go_roundw
        case rel=>exact⟨i+1,by omega,by go_num,HF.1,bA.1.setCell (kT _) _⟩
        case measure=>simp[intOf];omega
     ·obtain rfl:i=n:=by omega
      go_wp2;go_ret;obtain⟨r,hr,hv,_⟩:=HT.1;have hR:RetD wr (.returned (.slice (some ⟨G,0,none⟩) (i+m) (i+m))) (i+m) (vf a i*vf b m):=⟨_,_,r,rfl,hr.dg _ (kT _),hv⟩
      exact⟨hR.t (kT _),by rw[HG.1];exact HB.1⟩
theorem Zl (H lo y:Nat) (w:World) (aL:(lo:Int)<4294967296) (hy:(y:Int)<4294967296) (hlt:(H:Int)<(y:Int)):
  Calls prog 224 #[.int .u32 H,.int .u32 lo,.int .u32 y] w λe w'=>e=.returned (.tuple #[.int .u32 ((lo+4294967296*H) / y:Nat),.int .u32 ((lo+4294967296*H) % y:Nat)])/\∃k,w'=w.drewN k:=by
 have I:=aW H lo (by omega) (by omega);obtain⟨z,hz⟩:∃z,lo+4294967296*H=z:=⟨_,rfl⟩
 rw[hz]at I ⊢;have Y:(lo:Int)+4294967296*(H:Int)=(z:Nat):=by omega
 obtain⟨q,hq⟩:∃q,z / y=q:=⟨_,rfl⟩
 obtain⟨r,hr⟩:∃r,z % y=r:=⟨_,rfl⟩
 have J:(z:Int) / (y:Int)=(q:Nat):=by rw[<-hq];exact(Int.natCast_ediv _ _).symm
 have U:(z:Int) % (y:Int)=(r:Nat):=by rw[<-hr];exact(Int.natCast_emod _ _).symm
 have V:r<y:=by rw[<-hr];exact Nat.mod_lt _ (by omega)
 have O:q<4294967296:=by
  rw[<-hq,Nat.div_lt_iff_lt_mul (by omega)];have:4294967296*(H+1)<=4294967296*y:=Nat.mul_le_mul_left _ (by omega);omega
 have aT:Int.tdiv (z:Int) (y:Int)=(q:Nat):=by rw[Int.tdiv_eq_ediv_of_nonneg (by omega)];exact J
 have aX:Int.tmod (z:Int) (y:Int)=(r:Nat):=by rw[Int.tmod_eq_emod_of_nonneg (by omega)];exact U
 have aN:((q:Nat):Int) % 4294967296=(q:Nat):=by omega
 have aU:((r:Nat):Int) % 4294967296=(r:Nat):=by omega
 have h:((q:Nat):Int) % 18446744073709551616=(q:Nat):=by omega
 have bB:(z:Int)<18446744073709551616:=by omega
 have Z:(q:Int)<4294967296:=by omega
 have aD:(r:Int)<4294967296:=by omega
 have bA:((y:Int) != 0)=true:=by rw[bne_iff_ne];omega
 have aK:¬((y:Int)<=(H:Int)):=by omega
 rw[hq,hr];clear hq hr O V hz Y;go_enter func224,ntmps224
 go_wp2;go_quiet (fail)
 go_wp2;go_ret2
 exact⟨rfl,nq,rfl⟩
def Mn (w:World) (g n k d r:Nat) (a:Nat->Nat):Prop:=∃qr,Row w g n qr/\(∀l,l<k->qr l=0)/\vf qr n*d+4294967296 ^ k*r+vf a k=vf a n
theorem Rj {w:World} {g n k d r x q J:Nat} {a:Nat->Nat} (h:Mn w g n (k+1) d r a) (hx:a k=x) (hk:k<n) (hq:(x+4294967296*r) / d=q) (hr:(x+4294967296*r) % d=J) (I:q<4294967296):
  Mn (w.setCell ⟨g,k,none⟩ (.int .u32 q)) g n k d J a:=by
 obtain⟨qr,H,V,U⟩:=h;refine⟨_,H.set k q I,λl hl=>by unfold upd;rw[if_neg (by omega)];exact V l (by omega),?_⟩;have O:=Y7 (a:=qr) (k:=k) (d:=q) (n:=n) hk;rw[V k (by omega),Nat.mul_zero,Nat.add_zero]at O;have Y:d*q+J=x+4294967296*r:=by rw[<-hq,<-hr];exact Nat.div_add_mod _ _
 have Z:=congrArg (4294967296 ^ k * ·) Y;simp only[Nat.mul_add]at Z;rw[vf,hx,Ay]at U;rw[O,Nat.add_mul,Nat.mul_assoc,Nat.mul_comm q d];rw[show 4294967296*4294967296 ^ k*r=4294967296 ^ k*(4294967296*r)from by rw[Nat.mul_comm 4294967296,Nat.mul_assoc]]at U;omega
def fR (w':World) (e:Ending) (n t r:Nat):Prop:=∃p c qr,e=.returned (.tuple #[.slice p n c,.int .u32 (r:Nat)])/\Dg w' p c n qr/\vf qr n=t
theorem Z7 (p:Option Addr) (c n:Nat) (a:Nat->Nat) (d:Nat) (w:World) (h1:Dg w p c n a) (hn:n<=70368744177660) (U:0<d) (hd:(d:Int)<4294967296):
  Calls prog 214 #[.slice p n c,.int .u32 d] w λe w'=>fR w' e n (vf a n / d) (vf a n % d)/\Below w.heap.size w w':=by
 have bA:∀w,(Instr.makeSlice 82 (.int .i64 (n:Int)) (.int .i64 (n:Int))).run prog w=.ok (.slice (some ⟨w.heap.size,0,none⟩) n n) (w.alloc (.cells (madeCells #[.int .u32 0] n) 200)):=Gk n (by omega)
 have H:=Row.made w n;have H1:=Kh h1;have HR:=Kh H;clear h1 H;go_enter func214,ntmps214
 go_wp2;obtain⟨wb,I⟩:∃wb,w.alloc (.cells (madeCells #[.int .u32 0] n) 200)=wb:=⟨_,rfl⟩
 rw[I];have J:Below w.heap.size w wb:=by rw[<-I];exact(Below.refl _ _).alloc (kT _) _
 rw[I]at HR;have aU:=Kh J;clear I J bA;go_loopw [7,8] (λv7 v8 wr=>∃k r:Nat,k<=n/\v7=.int .u32 r/\v8=.int .i64 ((k:Int) - 1)/\(r:Int)<(d:Int)/\Mn wr w.heap.size n k d r a/\Below w.heap.size w wr) (λ_ v8 _=>(intOf v8+1).toNat)
 case atStart=>exact⟨n,0,kT _,rfl,by go_num,by omega,⟨_,HR.1,λ_ _=>rfl,by rw[N2 (λ_ _=>rfl)];omega⟩,aU.1⟩
 case round=>
  obtain⟨k,r,hk,rfl,rfl,bB,hS,hb⟩:=hrel;have HB:=Kh hb;have HS:=Kh hS;clear hb hS;by_cases h0:k=0
  ·subst h0
   obtain⟨qr,H,_,hv⟩:=HS.1;simp only[Nat.pow_zero,Nat.one_mul,vf,Nat.add_zero]at hv;have hq:vf qr n=vf a n / d:=by rw[<-hv,Nat.mul_comm,Nat.mul_add_div U,Nat.div_eq_of_lt (by omega),Nat.add_zero]
   have hr:r=vf a n % d:=by rw[<-hv,Nat.mul_comm,Nat.mul_add_mod,Nat.mod_eq_of_lt (by omega)]
   have HQ:=Kh hq;have hR:fR wr (.returned (.tuple #[.slice (some ⟨w.heap.size,0,none⟩) n n,.int .u32 (r:Nat)])) n (vf a n / d) (vf a n % d):=by rw[<-hr];exact⟨_,_,qr,rfl,H.dg n (kT _),hq⟩
   have HF:=Kh hR;clear H hv hq hr hR;go_wp2;go_ret2
   exact⟨HF.1,HB.1⟩
  ·obtain⟨k,rfl⟩:∃j,k=j+1:=⟨k - 1,by omega⟩
   obtain⟨g1,o1,rfl,aX,V⟩:=H1.1.head (by omega);have c1:wr.cell? ⟨g1,o1+k,none⟩=_:=(HB.1.cell (p:=⟨g1,o1+k,none⟩) aX).trans (V k (by omega));have h:((a k:Nat):Int)<4294967296:=by have:=H1.1.lt k (by omega);omega
   obtain⟨x,hx⟩:∃x,a k=x:=⟨_,rfl⟩
   rw[hx]at c1 h;have Z:∃u,wr.cell? ⟨w.heap.size,k,none⟩=some u:=by obtain⟨qr,H,_⟩:=HS.1;exact⟨_,H.1.cell (by omega)⟩
   obtain⟨u,Z⟩:=Z;have gF:wr.frozen? ⟨w.heap.size,k,none⟩=false:=by obtain⟨qr,H,_⟩:=HS.1;exact H.1.frozen k
   have HC:=Zl r x d wr h hd bB;obtain⟨q,hq⟩:∃q,(x+4294967296*r) / d=q:=⟨_,rfl⟩
   obtain⟨r',hr⟩:∃r',(x+4294967296*r) % d=r':=⟨_,rfl⟩
   have Y:q<4294967296:=by
    rw[<-hq,Nat.div_lt_iff_lt_mul U];have:4294967296*(r+1)<=4294967296*d:=Nat.mul_le_mul_left _ (by omega);omega
   have bC:(r':Int)<(d:Int):=by have:r'<d:=(by rw[<-hr];exact Nat.mod_lt _ U);omega
   have gL:(q:Int)<4294967296:=by omega
   have O:=Rj HS.1 hx (by omega) hq hr Y;rw[hq,hr]at HC;have HC:=Kh HC;have HN:=Kh O;have e1:(((k+1:Nat):Int) - 1)=(k:Int):=by omega
   rw[e1];clear O hq hr hx V Y h0 e1;go_wp2_with (go_at_call 224;refine HC.1.mono ?_;rintro e w' ⟨rfl,kk,rfl⟩)
   go_roundw
   case rel=>exact⟨k,r',by omega,rfl,rfl,bC,HN.1,(Aa HB.1 kk).setCell (kT _) _⟩
   case measure=>simp[intOf]
theorem G4 (b:Int) (H:0<=b) (I:b<=255) {h:b.toNat<Lib.len8tab.size}:((Lib.len8tab[b.toNat]'h).toNat:Int)=(Lib.bitLen b.toNat:Int):=by
 rw[<-Lib.len8_of b H I];unfold Lib.len8;rw[getElem?_pos Lib.len8tab b.toNat h];rfl
theorem gY (x:Int) (y:Nat) (I:0<=x) (J:x<=4294967295) (O:16777216<=x) (H:x / 65536 / 256<=255) (U:(y:Int)=(Lib.bitLen (x / 65536 / 256).toNat:Int)):wrap64 (24+wrap64 (y:Int))=((Lib.bitLen x.toNat:Nat):Int):=by
 have l:=Lib.bitLen_le8' (x / 65536 / 256) (by omega) H;have s:=Lib.bitLen_shift24 x.toNat (by omega) (by omega);have e:(x / 65536 / 256).toNat=x.toNat / 16777216:=by omega
 rw[e]at U l;generalize Lib.bitLen (x.toNat / 16777216)=z at *;generalize Lib.bitLen x.toNat=t at *;have:y<=8:=by omega
 clear e I J O H;unfold wrap64;omega
theorem gX (x:Int) (y:Nat) (I:0<=x) (J:x<=4294967295) (O:65536<=x) (H:x / 65536<=255) (U:(y:Int)=(Lib.bitLen (x / 65536).toNat:Int)):wrap64 (16+wrap64 (y:Int))=((Lib.bitLen x.toNat:Nat):Int):=by
 have l:=Lib.bitLen_le8' (x / 65536) (by omega) H;have s:=Lib.bitLen_shift16 x.toNat (by omega) (by omega);have e:(x / 65536).toNat=x.toNat / 65536:=by omega
 rw[e]at U l;generalize Lib.bitLen (x.toNat / 65536)=z at *;generalize Lib.bitLen x.toNat=t at *;have:y<=8:=by omega
 clear e I J O H;unfold wrap64;omega
theorem len8 (x:Int) (y:Nat) (I:0<=x) (J:x<=4294967295) (O:256<=x) (H:x / 256<=255) (U:(y:Int)=(Lib.bitLen (x / 256).toNat:Int)):wrap64 (8+wrap64 (y:Int))=((Lib.bitLen x.toNat:Nat):Int):=by
 have l:=Lib.bitLen_le8' (x / 256) (by omega) H;have s:=Lib.bitLen_shift8 x.toNat (by omega) (by omega);have e:(x / 256).toNat=x.toNat / 256:=by omega
 rw[e]at U l;generalize Lib.bitLen (x.toNat / 256)=z at *;generalize Lib.bitLen x.toNat=t at *;have:y<=8:=by omega
 clear e I J O H;unfold wrap64;omega
theorem jT (x:Int) (y:Nat) (H:0<=x) (I:x<=255) (J:(y:Int)=(Lib.bitLen x.toNat:Int)):wrap64 (wrap64 (y:Int))=((Lib.bitLen x.toNat:Nat):Int):=by
 have l:=Lib.bitLen_le8' x H I;generalize Lib.bitLen x.toNat=z at *;have:y<=8:=by omega
 unfold wrap64;omega
theorem Zq (x:Int) (w:World) (H:0<=x) (I:x<=4294967295):
  Calls prog 225 #[.int .u32 x] w λe w'=>e=.returned (.int .i64 (Lib.bitLen x.toNat))/\w'=w:=by
 have J:(Lib.len8tab.size:Int)=256:=by rw[Lib.len8tab_size];rfl
 go_enter func225,ntmps225
 go_wp2
 ·go_ret
  exact⟨A3 (gY x _ H I (by omega) (by omega) (G4 _ (by omega) (by omega))),rfl⟩
 ·go_ret
  exact⟨A3 (gX x _ H I (by omega) (by omega) (G4 _ (by omega) (by omega))),rfl⟩
 ·go_ret
  exact⟨A3 (len8 x _ H I (by omega) (by omega) (G4 _ (by omega) (by omega))),rfl⟩
 ·go_ret
  exact⟨A3 (jT x _ H (by omega) (G4 _ (by omega) (by omega))),rfl⟩
theorem dP (x:Int) (w:World) (I:0<=x) (J:x<=4294967295):
  Calls prog 215 #[.int .u32 x] w λe w'=>e=.returned (.int .i64 (32 - (Lib.bitLen x.toNat:Int)))/\w'=w:=by
 have l:Lib.bitLen x.toNat<=32:=Lib.bitLen_le x.toNat 32 (by omega) (by omega);have H:(32 - (Lib.bitLen x.toNat:Int)+9223372036854775808) % 18446744073709551616 - 9223372036854775808=32 - (Lib.bitLen x.toNat:Int):=by omega
 go_enter func215,ntmps215
 go_wp2_with (go_at_call 225;refine(Zq x _ I J).mono ?_;rintro e w' ⟨rfl,rfl⟩)
 go_ret;refine⟨?_,rfl⟩;rw[<-H];rfl
end
end Go.Proofs.YtenlbhlllgppmaaGreatDoor
