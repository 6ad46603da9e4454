/- Digits to base 2^32: values, normal forms, lengths. No program in sight. -/
import Derived.Test.YtenlbhlllgppmaaGreatDoorA01
import Derived.Deep.OwnRows
import Derived.Lib.BitFns
import Derived.Lib.Strings
import Derived.Lib.Slices
import Derived.Lib.Small
import Derived.Lib.Walk
set_option maxRecDepth 100000
namespace Go.Proofs.YtenlbhlllgppmaaGreatDoor
namespace Dig
def val:List Nat->Nat
 | []=>0
 | d :: l=>d+4294967296*val l
def M8:Nat->Nat->List Nat
 | 0,_=>[]
 | f+1,n=>if n=0 then []else n % 4294967296 :: M8 f (n / 4294967296)
def dig (n:Nat):List Nat:=M8 n n
theorem Sa:∀(f g n:Nat),n<=f->n<=g->M8 f n=M8 g n
 | 0,0,_,_,_=>rfl
 | 0,g+1,n,h,_=>by
  have:n=0:=by omega
  subst this;simp[M8]
 | f+1,0,n,_,h=>by
  have:n=0:=by omega
  subst this;simp[M8]
 | f+1,g+1,n,h,h'=>by
  rw[M8,M8];split
  ·rfl
  ·rename_i h0
   have:n / 4294967296<n:=Nat.div_lt_self (by omega) (by omega);rw[Sa f g _ (by omega) (by omega)]
theorem J8:dig 0=[]:=rfl
theorem M9 {n:Nat} (h:n≠0):dig n=n % 4294967296 :: dig (n / 4294967296):=by
 obtain⟨m,rfl⟩:∃m,n=m+1:=⟨n - 1,by omega⟩
 unfold dig;rw[M8,if_neg h];have:(m+1) / 4294967296<m+1:=Nat.div_lt_self (by omega) (by omega);rw[Sa m ((m+1) / 4294967296) _ (by omega) (Nat.le_refl _)]
theorem Kz (a b:List Nat):val (a++b)=val a+4294967296 ^ a.length*val b:=by
 induction a with
 | nil=>simp[val]
 | cons d a ih=>rw[List.cons_append,val,val,ih,List.length_cons,Nat.pow_succ,Nat.mul_add];rw[Nat.mul_comm (4294967296 ^ a.length) 4294967296,Nat.mul_assoc];omega
theorem pow_pos (k:Nat):0<4294967296 ^ k:=Nat.pow_pos (by omega)
theorem dig_lt {n k:Nat}:(dig n).length<=k↔n<4294967296 ^ k:=by
 induction k generalizing n with
 | zero=>
  by_cases h:n=0
  ·subst h;simp[J8]
  ·rw[M9 h];simp;omega
 | succ k ih=>
  by_cases h:n=0
  ·subst h;have:=pow_pos (k+1);simp[J8];omega
  ·rw[M9 h,List.length_cons,Nat.pow_succ,Nat.add_le_add_iff_right,ih,Nat.div_lt_iff_lt_mul (by omega)]
theorem dig_length_pos {n:Nat}:0<(dig n).length↔n≠0:=by
 by_cases h:n=0
 ·subst h;simp[J8]
 ·rw[M9 h];simp;exact h
theorem dig_top {n:Nat} (h:n≠0):4294967296 ^ ((dig n).length - 1)<=n:=by
 rcases Nat.lt_or_ge n (4294967296 ^ ((dig n).length - 1))with hlt|I
 ·have:=dig_lt.2 hlt
  have:=dig_length_pos.2 h;omega
 ·exact I
theorem dig_mono {a b:Nat} (h:a<=b):(dig a).length<=(dig b).length:=
 dig_lt.2 (Nat.lt_of_le_of_lt h (dig_lt.1 (Nat.le_refl _)))
theorem dig_add_len (a b:Nat):(dig (a+b)).length<=max (dig a).length (dig b).length+1:=by
 rw[dig_lt,Nat.pow_succ];have I:=dig_lt.1 (show(dig a).length<=max (dig a).length (dig b).length from by omega);have J:=dig_lt.1 (show(dig b).length<=max (dig a).length (dig b).length from by omega);omega
theorem dig_mul_len (a b:Nat):(dig (a*b)).length<=(dig a).length+(dig b).length:=by
 rw[dig_lt,Nat.pow_add];exact Nat.mul_lt_mul'' (dig_lt.1 (Nat.le_refl _)) (dig_lt.1 (Nat.le_refl _))
end Dig
section
open Go.RowKit Tryz
def vf (a:Nat->Nat):Nat->Nat
 | 0=>0
 | n+1=>vf a n+4294967296 ^ n*a n
def shf (a:Nat->Nat) (m:Nat):Nat->Nat:=λi=>a (m+i)
def upd (a:Nat->Nat) (k d:Nat):Nat->Nat:=λj=>if j=k then d else a j
theorem Dr {a b:Nat->Nat} {n:Nat} (h:∀i,i<n->a i=b i):vf a n=vf b n:=by
 induction n with
 | zero=>rfl
 | succ n ih=>rw[vf,vf,ih (λi I=>h i (by omega)),h n (by omega)]
theorem Ay (n:Nat):4294967296 ^ (n+1)=4294967296*4294967296 ^ n:=by rw[Nat.pow_succ,Nat.mul_comm]
theorem Ds {a:Nat->Nat} {n:Nat} (h:∀i,i<n->a i<4294967296):vf a n<4294967296 ^ n:=by
 induction n with
 | zero=>simp[vf]
 | succ n ih=>
  rw[vf,Ay];have J:=ih (λi M=>h i (by omega));have I:=Nat.mul_le_mul_left (4294967296 ^ n) (show a n<=4294967295 from by have:=h n (by omega);omega);rw[Nat.mul_comm _ 4294967295]at I;generalize 4294967296 ^ n*a n=y at *;generalize 4294967296 ^ n=x at *;omega
theorem Ho (a:Nat->Nat) (n:Nat):vf a (n+1)=a 0+4294967296*vf (shf a 1) n:=by
 induction n with
 | zero=>simp[vf]
 | succ n ih=>
  rw[vf,ih,vf,Ay,Nat.mul_assoc,Nat.mul_add,show shf a 1 n=a (n+1)from by simp[shf,Nat.add_comm]];omega
theorem Hp (a:Nat->Nat) (m n:Nat):vf a (m+n)=vf a m+4294967296 ^ m*vf (shf a m) n:=by
 induction n with
 | zero=>simp[vf]
 | succ n ih=>
  rw[<-Nat.add_assoc,vf,ih,vf,Nat.pow_add,Nat.mul_add,Nat.mul_assoc,show shf a m n=a (m+n)from rfl];omega
theorem N2 {a:Nat->Nat} {n:Nat} (h:∀i,i<n->a i=0):vf a n=0:=by
 induction n with
 | zero=>rfl
 | succ n ih=>rw[vf,ih (λi I=>h i (by omega)),h n (by omega)];simp
theorem cI {a:Nat->Nat} {m n:Nat} (J:m<=n) (h:∀i,m<=i->i<n->a i=0):vf a n=vf a m:=by
 obtain⟨k,rfl⟩:∃k,n=m+k:=⟨n - m,by omega⟩
 rw[Hp,N2 (a:=shf a m) (n:=k) (λi I=>h (m+i) (by omega) (by omega))];simp
theorem Bq {a:Nat->Nat} {k d n:Nat} (h:n<=k):vf (upd a k d) n=vf a n:=
 Dr λi I=>by unfold upd;rw[if_neg (by omega)]
theorem Y7 {a:Nat->Nat} {k d n:Nat} (h:k<n):vf (upd a k d) n+4294967296 ^ k*a k=vf a n+4294967296 ^ k*d:=by
 induction n with
 | zero=>omega
 | succ n ih=>
  rw[vf,vf];by_cases hk:k=n
  ·subst hk
   rw[Bq (mG _),show upd a k d k=d from by simp[upd]];omega
  ·have I:=ih (by omega)
   rw[show upd a k d n=a n from by unfold upd;rw[if_neg (by omega)]];omega
theorem fM {a b:Nat->Nat} {n:Nat} (J:∀i,i<n->a i<4294967296) (M:∀i,i<n->b i<4294967296) (h:vf a n=vf b n):∀i,i<n->a i=b i:=by
 induction n generalizing a b with
 | zero=>intro i I;omega
 | succ n ih=>
  rw[Ho,Ho]at h;have U:=J 0 (by omega);have V:=M 0 (by omega);have O:=ih (a:=shf a 1) (b:=shf b 1) (λi I=>J (1+i) (by omega)) (λi I=>M (1+i) (by omega)) (by omega);intro i I;cases i with
  | zero=>omega
  | succ i=>have:=O i (by omega);unfold shf at this;rwa [Nat.add_comm]at this
def nd (v:Nat):Nat:=(Dig.dig v).length
def dg (v:Nat) (i:Nat):Nat:=v / 4294967296 ^ i % 4294967296
theorem dg_lt (v i:Nat):dg v i<4294967296:=Nat.mod_lt _ (by omega)
theorem Be {v k:Nat}:nd v<=k↔v<4294967296 ^ k:=Dig.dig_lt
theorem Bm {a b:Nat} (h:a<=b):nd a<=nd b:=Dig.dig_mono h
theorem lO (a b:Nat):nd (a+b)<=max (nd a) (nd b)+1:=Dig.dig_add_len a b
theorem Cd (a b:Nat):nd (a*b)<=nd a+nd b:=Dig.dig_mul_len a b
theorem Du:nd 0=0:=rfl
theorem Bo {v:Nat}:0<nd v↔v≠0:=Dig.dig_length_pos
theorem eX {v:Nat} (h:v≠0):4294967296 ^ (nd v - 1)<=v:=Dig.dig_top h
theorem U4 (v n:Nat):vf (dg v) n=v % 4294967296 ^ n:=by
 induction n with
 | zero=>simp[vf,Nat.mod_one]
 | succ n ih=>rw[vf,ih,Nat.pow_succ,Nat.mod_mul];rfl
theorem Pw {v n:Nat} (h:v<4294967296 ^ n):vf (dg v) n=v:=by rw[U4,Nat.mod_eq_of_lt h]
theorem Bp (v:Nat):vf (dg v) (nd v)=v:=Pw (Be.1 (mG _))
theorem Wi {a:Nat->Nat} {n:Nat} (I:∀i,i<n->a i<4294967296):∀i,i<n->a i=dg (vf a n) i:=
 fM I (λi _=>dg_lt _ i) (Pw (Ds I)).symm
theorem iJ {a:Nat->Nat} {n:Nat} (M:∀i,i<n->a i<4294967296) (h:n=0∨a (n - 1)≠0):nd (vf a n)=n:=by
 have O:nd (vf a n)<=n:=Be.2 (Ds M);rcases h with rfl|h
 ·rfl
 ·rcases Nat.lt_or_ge (nd (vf a n)) n with I|I
  ·exfalso
   obtain⟨m,rfl⟩:∃m,n=m+1:=⟨n - 1,by omega⟩
   have J:=Be.1 (show nd (vf a (m+1))<=m from by omega);rw[vf]at J;simp only[Nat.add_sub_cancel]at h;have U:=Nat.mul_le_mul_left (4294967296 ^ m) (show 1<=a m from by omega);omega
  ·omega
structure Dg (w:World) (p:Option Addr) (c n:Nat) (a:Nat->Nat):Prop where
 cap:n<=c
 lt:∀j,j<n->a j<4294967296
 at':n=0∨∃g o,p=some ⟨g,o,none⟩/\g<w.heap.size/\∀j,j<n->w.cell? ⟨g,o+j,none⟩=some (.int .u32 (a j))
def Nm (w:World) (p:Option Addr) (c v:Nat):Prop:=Dg w p c (nd v) (dg v)
theorem Dg.keep {w w':World} {p:Option Addr} {c n:Nat} {a:Nat->Nat} (h:Dg w p c n a) (I:Below w.heap.size w w'):Dg w' p c n a:=
 ⟨h.cap,h.lt,by
  rcases h.at' with J |⟨g,o,e,hg,M⟩
  ·exact .inl J
  ·exact .inr ⟨g,o,e,mI hg I.size,λj O=>(I.cell (p:=⟨g,o+j,none⟩) hg).trans (M j O)⟩⟩
theorem Dg.below {B:Nat} {w w':World} {g o c n:Nat} {a:Nat->Nat} (h:Dg w (some ⟨g,o,none⟩) c n a) (J:Below B w w') (hg:g<B):Dg w' (some ⟨g,o,none⟩) c n a:=
 ⟨h.cap,h.lt,by
  rcases h.at' with M |⟨V,Y,e,I,O⟩
  ·exact .inl M
  ·injection e with e;injection e with e1 e2;subst e1;subst e2
   exact .inr ⟨g,o,rfl,mI I J.size,λj U=>(J.cell (p:=⟨g,o+j,none⟩) hg).trans (O j U)⟩⟩
theorem Dg.congr {w:World} {p:Option Addr} {c n:Nat} {a b:Nat->Nat} (h:Dg w p c n a) (e:∀j,j<n->a j=b j):Dg w p c n b:=
 ⟨h.cap,λj I=>by rw[<-e j I];exact h.lt j I,by
  rcases h.at' with M |⟨g,o,J,hg,O⟩
  ·exact .inl M
  ·exact .inr ⟨g,o,J,hg,λj I=>by rw[<-e j I];exact O j I⟩⟩
theorem Dg.take {w:World} {p:Option Addr} {c n:Nat} {a:Nat->Nat} (h:Dg w p c n a) {k:Nat} (O:k<=n):Dg w p c k a:=
 ⟨by have:=h.cap;omega,λj J=>h.lt j (by omega),by
  rcases h.at' with M |⟨g,o,e,hg,I⟩
  ·exact .inl (by omega)
  ·exact .inr ⟨g,o,e,hg,λj J=>I j (by omega)⟩⟩
theorem Dg.head {w:World} {p:Option Addr} {c n:Nat} {a:Nat->Nat} (h:Dg w p c n a) (hn:0<n):∃g o,p=some ⟨g,o,none⟩/\g<w.heap.size/\∀j,j<n->w.cell? ⟨g,o+j,none⟩=some (.int .u32 (a j)):=
 h.at'.resolve_left (by omega)
theorem Dg.norm {w:World} {p:Option Addr} {c n:Nat} {a:Nat->Nat} (h:Dg w p c n a) (J:n=0∨a (n - 1)≠0):nd (vf a n)=n/\Nm w p c (vf a n):=by
 have I:=iJ h.lt J;exact⟨I,by unfold Nm;rw[I];exact h.congr (Wi h.lt)⟩
theorem Nm.keep {w w':World} {p:Option Addr} {c v:Nat} (h:Nm w p c v) (I:Below w.heap.size w w'):Nm w' p c v:=Dg.keep h I
theorem Nm.nil (w:World):Nm w none 0 0:=⟨mG _,λj I=>absurd I (by simp[Du]),.inl Du⟩
def Row (w:World) (g n:Nat) (a:Nat->Nat):Prop:=w.rowIs g 200 n (λi=>.int .u32 (a i))/\∀j,j<n->a j<4294967296
theorem Row.dg {w:World} {g n:Nat} {a:Nat->Nat} (h:Row w g n a) (c:Nat) (I:n<=c):Dg w (some ⟨g,0,none⟩) c n a:=
 ⟨I,h.2,.inr ⟨g,0,rfl,h.1.lt,λj J=>by rw[Nat.zero_add];exact h.1.cell J⟩⟩
theorem Row.set {w:World} {g n:Nat} {a:Nat->Nat} (h:Row w g n a) (k d:Nat) (I:d<4294967296):Row (w.setCell ⟨g,k,none⟩ (.int .u32 d)) g n (upd a k d):=
 ⟨(h.1.set k _).congr (λi _=>by unfold upd;split <;> rfl),λj J=>by unfold upd;split;exact I;exact h.2 j J⟩
theorem Row.made (w:World) (n:Nat):Row (w.alloc (.cells (madeCells #[.int .u32 0] n) 200)) w.heap.size n (λ_=>0):=
 ⟨World.rowIs_made w _ n _,λ_ _=>(by decide:(0:Nat)<4294967296)⟩
theorem Row.below {B:Nat} {w w':World} {g n:Nat} {a:Nat->Nat} (h:Row w g n a) (I:Below B w w') (hg:g<B):Row w' g n a:=⟨h.1.of_block (I.block g hg),h.2⟩
theorem Row.congr {w:World} {g n:Nat} {a b:Nat->Nat} (h:Row w g n a) (e:∀j,j<n->a j=b j):Row w g n b:=
 ⟨h.1.congr (λi J=>by rw[e i J]),λj I=>by rw[<-e j I];exact h.2 j I⟩
theorem Row.alloc (w:World) (cs:Array Value) (n:Nat) (a:Nat->Nat) (hn:cs.size=n) (h:∀i,i<n->cs[i]?=some (.int .u32 (a i))) (I:∀i,i<n->a i<4294967296):Row (w.alloc (.cells cs 200)) w.heap.size n a:=by
 subst hn;exact⟨World.rowIs_alloc w cs _ _ h,I⟩
theorem Yz {a b:Nat->Nat} {n i:Nat} (U:i<n) (J:∀j,j<n->a j<4294967296) (h:∀j,i<j->j<n->a j=b j) (hlt:a i<b i):vf a n<vf b n:=by
 obtain⟨k,rfl⟩:∃k,n=(i+1)+k:=⟨n - (i+1),by omega⟩
 rw[Hp,Hp b,Dr (a:=shf a (i+1)) (b:=shf b (i+1)) (n:=k) (λj M=>h (i+1+j) (by omega) (by omega)),vf,vf];have O:=Ds (a:=a) (n:=i) (λj M=>J j (by omega));have I:=Nat.mul_le_mul_left (4294967296 ^ i) (show a i+1<=b i from hlt);rw[Nat.mul_add,Nat.mul_one]at I;omega
theorem Xg {u v:Nat} (h:nd u<nd v):u<v:=by
 rcases Nat.lt_or_ge u v with I|I
 ·exact I
 ·have:=Bm I;omega
theorem aW (y x:Nat) (J:y<4294967296) (I:x<4294967296):bits .or .u64 ((y:Int)*4294967296) (x:Int)=((x+4294967296*y:Nat):Int):=by
 rw[show(y:Int)*4294967296=((2 ^ 32*y:Nat):Int)from by omega,bits_or_u64_nat _ _ (by omega) (by omega),<-Nat.two_pow_add_eq_or_of_lt (show x<2 ^ 32 from I)];omega
def RetD (w':World) (e:Ending) (k t:Nat):Prop:=∃p c r,e=.returned (.slice p k c)/\Dg w' p c k r/\vf r k=t
def RetN (w':World) (e:Ending) (v:Nat):Prop:=∃p c,e=.returned (.slice p (nd v) c)/\Nm w' p c v
theorem N1:(prog.info? 200).map (λi=>(i.zero,i.size,i.bytes))=some (some (.int .u32 0),1,4):=by kernel_rfl
theorem Gk (n:Nat) (h:n<=70368744177664) (w:World):
  (Instr.makeSlice 82 (.int .i64 (n:Int)) (.int .i64 (n:Int))).run prog w=.ok (.slice (some ⟨w.heap.size,0,none⟩) n n) (w.alloc (.cells (madeCells #[.int .u32 0] n) 200)):=
 run_make_row' 82 200 (.int .u32 0) 4 underlying82 N1 rfl .i64 .i64 n (by omega) (by omega) w
theorem Dj (p:Option Addr) (c n:Nat) (a:Nat->Nat) (w:World) (h:Dg w p c n a) (hn:n<=70368744177664):
  Calls prog 129 #[.slice p n c] w λe w'=>(e=.returned (.slice p (nd (vf a n)) c)/\Nm w p c (vf a n))/\w'=w:=by
 have H:=Kh h;have U:=h.cap;clear h;go_enter func129,ntmps129
 go_wp2;go_loop [0] (λm=>∃k:Nat,m=.slice p k c/\k<=n/\vf a k=vf a n) (λm=>(match m with |.slice _ k _=>k|_=>0))
 case atStart=>exact⟨n,rfl,mG _,rfl⟩
 case round=>
  obtain⟨k,rfl,V,Y⟩:=hrel;have M:=Kh Y;clear Y;by_cases h0:k=0
  ·subst h0
   have I:=(H.1.take V).norm (.inl rfl);rw[M.1]at I;have J:=Kh I;clear I;go_wp2;go_ret;exact⟨⟨by rw[J.1.1];rfl,J.1.2⟩,rfl⟩
  ·have aD:0<k:=by omega
   obtain⟨g,o,rfl,hg,O⟩:=H.1.head (by omega);have c1:=O (k - 1) (by omega);have e1:((k:Int) - 1).toNat=k - 1:=by omega
   clear O;by_cases hz:a (k - 1)=0
   ·have Z:=Kh hz
    rw[hz]at c1;clear hz;go_wp2;go_round
    case rel=>exact⟨k - 1,rfl,by omega,by
     rw[<-M.1];obtain⟨m,rfl⟩:∃m,k=m+1:=⟨k - 1,by omega⟩
     rw[vf];have:=Z.1;simp only[Nat.add_sub_cancel]at this ⊢;rw[this];simp⟩
    case measure=>simp only;omega
   ·have I:=(H.1.take V).norm (.inr hz)
    rw[M.1]at I;have J:=Kh I;have aK:(((a (k - 1):Nat):Int)==0)=false:=beq_eq_false_iff_ne.2 (by omega);clear I hz;go_wp2;go_ret;exact⟨⟨by rw[J.1.1];rfl,J.1.2⟩,rfl⟩
theorem eC (n:Int) (w:World):
  Calls prog 202 #[.int .i64 n] w λe w'=>e=.returned (.int .i64 (Int.sign n))/\w'=w:=by
 go_enter func202,ntmps202
 go_wp2;all_goals go_ret
 all_goals refine⟨A3 ?_,rfl⟩
 all_goals try simp only[decide_eq_true_eq,decide_eq_false_iff_not,Int.not_lt]at *
 all_goals first|exact(Int.sign_eq_neg_one_of_neg (by omega)).symm|exact(Int.sign_eq_one_of_pos (by omega)).symm |(rw[show n=0 from by omega];rfl)
theorem eW {v:Nat} (I:v≠0) (h:v<4294967296):nd v=1:=by
 have J:=Bo.2 I;have M:=(Be (v:=v) (k:=1)).2 (by omega);omega
theorem eY {v:Nat} (J:4294967296<=v) (h:v<18446744073709551616):nd v=2:=by
 have M:=(Be (v:=v) (k:=2)).2 (by omega);have O:¬nd v<=1:=λI=>by have:=Be.1 I;omega
 omega
theorem Hw (v:Nat) (w:World) (I:v<18446744073709551616):
  Calls prog 132 #[.int .u64 v] w λe w'=>RetN w' e v/\Below w.heap.size w w':=by
 go_enter func132,ntmps132
 by_cases h0:v=0
 ·subst h0
  go_wp2;go_ret;exact⟨⟨none,0,rfl,Nm.nil _⟩,Below.refl _ _⟩
 ·have O:((v:Int)==0)=false:=beq_eq_false_iff_ne.2 (by omega)
  have Y:(v:Int)<18446744073709551616:=by omega
  have J:=Kh h0;have M:=Kh I;by_cases h1:(v:Int)<4294967296
  ·have Z:(v:Int) % 4294967296=v:=by omega
   clear I h0;go_wp2;go_ret;have hn:=eW J.1 (by omega);refine⟨⟨_,1,by rw[hn];rfl,?_⟩,(Below.refl _ _).alloc (mG _) _⟩;unfold Nm;rw[hn];refine(Row.alloc w _ 1 (dg v) rfl (λi V=>?_) (λi _=>dg_lt v i)).dg 1 (mG _);obtain rfl:i=0:=by omega
   simp[dg];omega
  ·clear I h0
   go_wp2;go_ret;have hn:=eY (by omega) M.1;refine⟨⟨_,2,by rw[hn];rfl,?_⟩,(Below.refl _ _).alloc (mG _) _⟩;unfold Nm;rw[hn];refine(Row.alloc w _ 2 (dg v) rfl (λi V=>?_) (λi _=>dg_lt v i)).dg 2 (mG _);rcases Nat.lt_or_ge i 1 with U|U
   ·obtain rfl:i=0:=by omega
    simp[dg]
   ·obtain rfl:i=1:=by omega
    simp[dg];omega
theorem eF (p:Option Addr) (c n:Nat) (a:Nat->Nat) (w:World) (h:Dg w p c n a) (hn:n<=2):
  Calls prog 204 #[.slice p n c] w λe w'=>e=.returned (.int .u64 (vf a n:Nat))/\∃k,w'=w.drewN k:=by
 by_cases h0:n=0
 ·subst h0
  go_enter func204,ntmps204
  go_wp2;go_ret;exact⟨rfl,0,rfl⟩
 ·obtain⟨g,o,rfl,hg,M⟩:=h.head (by omega)
  have V:=h.lt 0 (by omega);have c0:=M 0 (by omega);obtain⟨x,J⟩:∃x,a 0=x:=⟨_,rfl⟩
  rw[J]at V c0;rw[Nat.add_zero]at c0;have Z:(x:Int)<4294967296:=by omega
  by_cases h1:n=1
  ·subst h1
   have I:vf a 1=x:=by simp[vf,J]
   have O:=Kh I;clear M h J V I;go_enter func204,ntmps204
   go_wp2;go_ret;exact⟨A3 (by rw[O.1]),0,rfl⟩
  ·obtain rfl:n=2:=by omega
   have Y:=h.lt 1 (by omega);have c1:=M 1 (by omega);obtain⟨y,U⟩:∃y,a 1=y:=⟨_,rfl⟩
   rw[U]at Y c1;have aD:(y:Int)<4294967296:=by omega
   have I:vf a 2=x+4294967296*y:=by simp[vf,J,U]
   have O:=Kh I;clear M h J U V Y I;go_enter func204,ntmps204
   go_wp2;go_quiet (fail)
   go_wp2;go_ret;exact⟨A3 (by rw[O.1];exact aW _ _ (by omega) (by omega)),nq,rfl⟩
theorem J5 {u v:Nat} (h:u<v):Int.sign ((u:Int) - v)=-1:=Int.sign_eq_neg_one_of_neg (by omega)
theorem M6 {u v:Nat} (h:v<u):Int.sign ((u:Int) - v)=1:=Int.sign_eq_one_of_pos (by omega)
theorem eH {u v:Nat} (h:nd u≠nd v):Int.sign ((nd u:Int) - nd v)=Int.sign ((u:Int) - v):=by
 rcases Nat.lt_or_gt_of_ne h with I|I
 ·rw[J5 I,J5 (Xg I)]
 ·rw[M6 I,M6 (Xg I)]
theorem Zv (p:Option Addr) (c:Nat) (q:Option Addr) (d n:Nat) (a b:Nat->Nat) (s:Int) (w:World) (O:Dg w p c n a) (J:Dg w q d n b) (hn:n<=70368744177664) (hs:Int.sign ((vf a n:Int) - (vf b n:Nat))=s):
  Calls prog 167 #[.slice p n c,.slice q n d] w λe w'=>e=.returned (.int .i64 s)/\∃k,w'=w.drewN k:=by
 have H1:=Kh O;have H2:=Kh J;have HS:=Kh hs;clear O J hs;go_enter func167,ntmps167
 go_wp2;go_loopw [5] (λi wr=>∃k:Nat,k<=n/\i=.int .i64 ((k:Int) - 1)/\(∀j,k<=j->j<n->a j=b j)/\∃m,wr=w.drewN m) (λi _=>(intOf i+1).toNat)
 case atStart=>exact⟨n,mG _,by go_num,λj O J=>by omega,0,rfl⟩
 case round=>
  obtain⟨k,hk,rfl,Y,mr,rfl⟩:=hrel;have h:=Kh Y;clear Y;by_cases h0:k=0
  ·subst h0
   go_wp2;go_ret;refine⟨A3 ?_,mr,rfl⟩;rw[<-HS.1,Dr λi hi=>h.1 i (by omega) hi];simp
  ·have cD:0<k:=by omega
   obtain⟨g1,o1,rfl,cA,U⟩:=H1.1.head (by omega);obtain⟨g2,o2,rfl,cB,V⟩:=H2.1.head (by omega);have c1:=U (k - 1) (by omega);have c2:=V (k - 1) (by omega);have e1:((k:Int) - 1).toNat=k - 1:=by omega
   have cF:(1:Int)<=(k:Int):=by omega
   obtain⟨x,hx⟩:∃x,a (k - 1)=x:=⟨_,rfl⟩
   obtain⟨y,hy⟩:∃y,b (k - 1)=y:=⟨_,rfl⟩
   rw[hx]at c1;rw[hy]at c2;have HX:=Kh hx;have HY:=Kh hy;clear U V hx hy;by_cases hxy:x=y
   ·subst hxy
    go_wp2;go_quiet (fail)
    go_wp2;go_roundw
    case rel=>exact⟨k - 1,by omega,by go_num,λj O J=>by
     rcases Nat.lt_or_ge j k with h3|h3
     ·rw[show j=k - 1 from by omega,HX.1,HY.1]
     ·exact h.1 j h3 J,_,rfl⟩
    case measure=>simp[intOf];omega
   ·have bH:((x:Int) !=(y:Int))=true:=by rw[bne_iff_ne];omega
    have HL:=Kh hxy;clear hxy;by_cases hlt:(x:Int)<(y:Int)
    ·have Z:=Yz (a:=a) (b:=b) (n:=n) (i:=k - 1) (by omega) H1.1.lt (λj O J=>h.1 j (by omega) J) (by rw[HX.1,HY.1];omega)
     have I:=J5 Z;rw[HS.1]at I;have M:=Kh I;clear Z I;go_wp2;go_quiet (fail)
     go_wp2;go_quiet (fail)
     go_wp2;go_ret;exact⟨A3 M.1.symm,_,by rw[Ly,Ly]⟩
    ·have Z:=Yz (a:=b) (b:=a) (n:=n) (i:=k - 1) (by omega) H2.1.lt (λj O J=>(h.1 j (by omega) J).symm) (by rw[HX.1,HY.1];have:=HL.1;omega)
     have I:=M6 Z;rw[HS.1]at I;have M:=Kh I;clear Z I;go_wp2;go_quiet (fail)
     go_wp2;go_quiet (fail)
     go_wp2;go_ret;exact⟨A3 M.1.symm,_,by rw[Ly,Ly]⟩
theorem D7 (p:Option Addr) (c u:Nat) (q:Option Addr) (d v:Nat) (w:World) (h:Nm w p c u) (J:Nm w q d v) (Y:nd u<=70368744177664) (Z:nd v<=70368744177664):
  Calls prog 167 #[.slice p (nd u) c,.slice q (nd v) d] w λe w'=>e=.returned (.int .i64 (Int.sign ((u:Int) - v)))/\∃k,w'=w.drewN k:=by
 by_cases hne:nd v=nd u
 ·have V:Dg w q d (nd u) (dg v):=by rw[<-hne];exact J
  have I:vf (dg v) (nd u)=v:=by rw[<-hne];exact Bp v
  rw[hne];exact Zv p c q d (nd u) (dg u) (dg v) _ w h V Y (by rw[Bp,I])
 ·have O:=eH (Ne.symm hne)
  have M:((nd u:Int) !=(nd v:Int))=true:=by rw[bne_iff_ne];omega
  generalize Int.sign ((u:Int) - v)=s at *;generalize nd u=n at *;generalize nd v=m at *;have U:=Kh O;clear h J O hne;go_enter func167,ntmps167
  go_wp2_with (go_at_call 202;refine(eC _ _).mono ?_;rw[U.1];rintro e w' ⟨rfl,rfl⟩)
  go_ret;exact⟨rfl,0,rfl⟩
theorem Ms (x y z:Nat) (w:World) (J:(x:Int)<4294967296) (M:(y:Int)<4294967296) (O:(z:Int)<4294967296):
  Calls prog 201 #[.int .u32 x,.int .u32 y,.int .u32 z] w λe w'=>e=.returned (.tuple #[.int .u32 ((x+y+z) % 4294967296:Nat),.int .u32 ((x+y+z) / 4294967296:Nat)])/\w'=w:=by
 have I:((x:Int)+(y:Int)+(z:Int)) / 4294967296 % 4294967296=((x:Int)+(y:Int)+(z:Int)) / 4294967296:=by omega
 go_enter func201,ntmps201
 go_wp2;go_ret2
 exact⟨by simp,rfl⟩
theorem bR (n:Nat) (h:n<4294967296):n / 2147483648=if n.testBit 31 then 1 else 0:=by
 rw[Nat.testBit_eq_decide_div_mod_eq];have e:(2:Nat) ^ 31=2147483648:=by decide
 rw[e];simp only[decide_eq_true_eq];split <;> omega
theorem Mp (n:Nat) (h:n<4294967296):n.testBit 31=decide (2147483648<=n):=by
 rw[Nat.testBit_eq_decide_div_mod_eq];have e:(2:Nat) ^ 31=2147483648:=by decide
 rw[e];rw[decide_eq_decide];omega
theorem Zh (x y z d:Nat) (U:x<4294967296) (V:y<4294967296) (Z:z<=1) (Y:(d:Int)=((x:Int) - y - z) % 4294967296):
  (((4294967295 ^^^ x) &&& y) |||((4294967295 ^^^ (x ^^^ y)) &&& d)) / 2147483648=if x<y+z then 1 else 0:=by
 have I:d<4294967296:=by omega
 have e:(4294967296:Nat)=2 ^ 32:=by decide
 have J:((4294967295 ^^^ x) &&& y)<2 ^ 32:=Nat.and_lt_two_pow _ (by omega);have M:((4294967295 ^^^ (x ^^^ y)) &&& d)<2 ^ 32:=Nat.and_lt_two_pow _ (by omega);have O:=Nat.or_lt_two_pow J M;rw[bR _ (by omega),Nat.testBit_or,Nat.testBit_and,Nat.testBit_and,Nat.testBit_xor,Nat.testBit_xor,Nat.testBit_xor,Mp x U,Mp y V,Mp d I,show(4294967295:Nat).testBit 31=true from by decide];clear J M O e;by_cases a1:2147483648<=x <;> by_cases a2:2147483648<=y <;> by_cases a3:2147483648<=d <;> simp only[a1,a2,a3,decide_true,decide_false,Bool.xor_true,Bool.xor_false,Bool.not_true,Bool.not_false,Bool.and_true,Bool.and_false,Bool.or_true,Bool.or_false,if_true,Bool.false_eq_true,if_false] <;> split <;> first|rfl |(exfalso;omega)|omega
theorem Zg (x y z:Nat) (J:x<4294967296) (M:y<4294967296) (hz:z<=1):
  bits .or .u32 (bits .and .u32 (bits .xor .u32 (if IntKind.u32.signed=true then -1 else IntKind.u32.max) (x:Int)) (y:Int)) (bits .and .u32 (bits .xor .u32 (if IntKind.u32.signed=true then -1 else IntKind.u32.max) (bits .xor .u32 (x:Int) (y:Int))) (((x:Int) - y - z) % 4294967296)) / 2147483648=if x<y+z then 1 else 0:=by
 obtain⟨d,O⟩:∃d:Nat,(d:Int)=((x:Int) - y - z) % 4294967296:=⟨(((x:Int) - y - z) % 4294967296).toNat,by omega⟩
 have U:(if IntKind.u32.signed=true then(-1:Int)else IntKind.u32.max)=((4294967295:Nat):Int):=by decide
 have e:(4294967296:Nat)=2 ^ 32:=by decide
 have V:x ^^^ y<4294967296:=by rw[e];exact Nat.xor_lt_two_pow (by omega) (by omega)
 have Y:4294967295 ^^^ x<4294967296:=by rw[e];exact Nat.xor_lt_two_pow (by omega) (by omega)
 have Z:4294967295 ^^^ (x ^^^ y)<4294967296:=by rw[e];exact Nat.xor_lt_two_pow (by omega) (by omega)
 have h:(4294967295 ^^^ x) &&& y<4294967296:=by rw[e];exact Nat.and_lt_two_pow _ (by omega)
 have h5:(4294967295 ^^^ (x ^^^ y)) &&& d<4294967296:=by rw[e];exact Nat.and_lt_two_pow _ (by omega)
 rw[<-O,U,u32_xor_nat _ _ (by omega) J,u32_xor_nat _ _ J M,u32_xor_nat _ _ (by omega) V,u32_and_nat _ _ Y M,u32_and_nat _ _ Z (by omega),u32_or_nat _ _ h h5];have:=Zh x y z d J M hz O;have I:=congrArg (Int.ofNat) this;split at I
 ·rename_i hh;rw[if_pos hh];simpa using I
 ·rename_i hh;rw[if_neg hh];simpa using I
theorem Iy (x y z:Nat) (w:World) (U:(x:Int)<4294967296) (V:(y:Int)<4294967296) (Y:(z:Int)<=1):
  Calls prog 203 #[.int .u32 x,.int .u32 y,.int .u32 z] w λe w'=>e=.returned (.tuple #[.int .u32 (((x:Int) - y - z) % 4294967296),.int .u32 (if x<y+z then 1 else 0)])/\w'=w:=by
 have J:=Zg x y z (by omega) (by omega) (by omega);obtain⟨b,I⟩:∃b:Int,(if x<y+z then(1:Int)else 0)=b:=⟨_,rfl⟩
 rw[I]at J ⊢;have O:=Kh J;have M:((((x:Int) - y) % 4294967296 - z) % 4294967296)=((x:Int) - y - z) % 4294967296:=by omega
 clear J I;go_enter func203,ntmps203
 go_wp
 go_ret2
 refine⟨?_,rfl⟩;rw[<-O.1];first|rfl |(rw[<-M];rfl) |(simp[M];done)
def ext (b:Nat->Nat) (m:Nat):Nat->Nat:=λj=>if j<m then b j else 0
theorem Wj (b:Nat->Nat) {m n:Nat} (h:m<=n):vf (ext b m) n=vf b m:=by
 rw[cI h (λi J _=>by unfold ext;rw[if_neg (by omega)])];exact Dr λi I=>by unfold ext;rw[if_pos I]
def Va (w:World) (g:Nat) (n1 i:Nat) (t:Nat) (cy:Nat):Prop:=∃r,Row w g n1 r/\vf r i+4294967296 ^ i*cy=t
theorem Mg {w:World} {g V i J x y s M:Nat} {a b r:Nat->Nat} (I:Row w g V r) (U:vf r i+4294967296 ^ i*J=vf a i+vf b i) (Z:a i=x) (hy:b i=y) (hs:(x+y+J) % 4294967296=s) (Y:(x+y+J) / 4294967296=M):
  Va (w.setCell ⟨g,i,none⟩ (.int .u32 s)) g V (i+1) (vf a (i+1)+vf b (i+1)) M:=by
 refine⟨_,I.set i s (by omega),?_⟩;rw[vf,vf,vf,Bq (mG _),show upd r i s i=s from by simp[upd],Ay,Z,hy];have h:x+y+J=s+4294967296*M:=by omega
 have O:=congrArg (4294967296 ^ i * ·) h;simp only[Nat.mul_add]at O;rw[Nat.mul_left_comm]at O;rw[Nat.mul_assoc];omega
theorem V1 (p:Option Addr) (c n:Nat) (a:Nat->Nat) (q:Option Addr) (d m:Nat) (b:Nat->Nat) (w:World) (h1:Dg w p c n a) (h2:Dg w q d m b) (hn:n<=70368744177660) (hm:m<=70368744177660):
  Calls prog 166 #[.slice p n c,.slice q m d] w λe w'=>RetD w' e (max n m+1) (vf a n+vf b m)/\Below w.heap.size w w':=by
 obtain⟨T,hT⟩:∃T,vf a n+vf b m=T:=⟨_,rfl⟩
 obtain⟨M,h⟩:∃M,max n m+1=M:=⟨_,rfl⟩
 rw[hT,h];have H1:=Kh h1;have H2:=Kh h2;have HT:=Kh hT;have HM:=Kh h;clear h1 h2 hT h;go_enter func166,ntmps166
 go_upto_if 14 with(fail)
 go_cut [0,1] (λv0 v1 wc=>wc=w/\∃p c n a q d m b,v0=.slice p n c/\v1=.slice q m d/\Dg w p c n a/\Dg w q d m b/\m<=n/\n<=70368744177660/\vf a n+vf b m=T/\n+1=M)
 case first=>
  by_cases hlt:(n:Int)<(m:Int)
  ·have Z:m+1=M:=by have:=HM.1;omega
   have HX:=Kh Z;clear Z;go_wp2;go_meet
   case rel=>exact⟨rfl,q,d,m,b,p,c,n,a,rfl,rfl,H2.1,H1.1,by omega,by omega,by rw[Nat.add_comm];exact HT.1,HX.1⟩
  ·have Z:n+1=M:=by have:=HM.1;omega
   have HX:=Kh Z;clear Z;go_wp2;go_meet
   case rel=>exact⟨rfl,p,c,n,a,q,d,m,b,rfl,rfl,H1.1,H2.1,by omega,by omega,HT.1,HX.1⟩
 case rest=>
  clear H1 H2 HT HM hn hm p c n a q d m b;obtain⟨rfl,p,c,n,a,q,d,m,b,rfl,rfl,h1,h2,gF,hn,hT,h⟩:=hcut;have hN:∀w,(Instr.makeSlice 82 (.int .i64 ((n:Int)+1)) (.int .i64 ((n:Int)+1))).run prog w=.ok (.slice (some ⟨w.heap.size,0,none⟩) (n+1) (n+1)) (w.alloc (.cells (madeCells #[.int .u32 0] (n+1)) 200)):=Gk (n+1) (by omega)
  obtain⟨B,hB⟩:∃B,B=wc.heap.size:=⟨_,rfl⟩
  have I:=Row.made wc (n+1);have H1:=Kh h1;have H2:=Kh h2;have HT:=Kh hT;have HM:=Kh h;have HR:=Kh I;clear h1 h2 hT h I;go_wp2;obtain⟨wb,aN⟩:∃wb,wc.alloc (.cells (madeCells #[.int .u32 0] (n+1)) 200)=wb:=⟨_,rfl⟩
  rw[aN];have aX:Below wc.heap.size wc wb:=by rw[<-aN];exact(Below.refl _ _).alloc (mG _) _
  rw[aN]at HR;have dE:=Kh aX;clear aN aX;go_loopw [6,23] (λv6 bG wr=>∃i U:Nat,i<=n/\v6=.int .u32 U/\bG=.int .i64 i/\(U:Int)<=1/\Va wr wc.heap.size (n+1) i (vf a i+vf (ext b m) i) U/\Below wc.heap.size wc wr) (λ_ bG _=>n - (intOf bG).toNat)
  case atStart=>exact⟨0,0,Nat.zero_le _,rfl,rfl,by decide,⟨_,HR.1,rfl⟩,dE.1⟩
  case round=>
   obtain⟨i,U,hi,rfl,rfl,eP,⟨r,I,J⟩,hb⟩:=hrel;have HB:=Kh hb;clear hb;have cX:∃u,wr.cell? ⟨wc.heap.size,i,none⟩=some u:=⟨_,I.1.cell (by omega)⟩
   obtain⟨u,cX⟩:=cX;have hJ:wr.frozen? ⟨wc.heap.size,i,none⟩=false:=I.1.frozen i;by_cases hlt:(i:Int)<(n:Int)
   ·obtain⟨g1,o1,rfl,eV,cT⟩:=H1.1.head (by omega)
    have c1:wr.cell? ⟨g1,o1+i,none⟩=_:=(HB.1.cell (p:=⟨g1,o1+i,none⟩) eV).trans (cT i (by omega));have gN:((a i:Nat):Int)<4294967296:=by have:=H1.1.lt i (by omega);omega
    obtain⟨x,Z⟩:∃x,a i=x:=⟨_,rfl⟩
    rw[Z]at c1 gN;clear cT;by_cases hmi:(i:Int)<(m:Int)
    ·obtain⟨g2,o2,rfl,gA,cV⟩:=H2.1.head (by omega)
     have c2:wr.cell? ⟨g2,o2+i,none⟩=_:=(HB.1.cell (p:=⟨g2,o2+i,none⟩) gA).trans (cV i (by omega));have dC:((b i:Nat):Int)<4294967296:=by have:=H2.1.lt i (by omega);omega
     obtain⟨y,Y⟩:∃y,b i=y:=⟨_,rfl⟩
     have hy:ext b m i=y:=by unfold ext;rw[if_pos (by omega)];exact Y
     rw[Y]at c2 dC;clear cV Y;have HC:=Ms x y U wr (by omega) (by omega) (by omega);obtain⟨s,hs⟩:∃s,(x+y+U) % 4294967296=s:=⟨_,rfl⟩
     obtain⟨cz,V⟩:∃cz,(x+y+U) / 4294967296=cz:=⟨_,rfl⟩
     rw[hs,V]at HC;have gL:(s:Int)<4294967296:=by omega
     have bC:(cz:Int)<=1:=by omega
     have O:=Mg I J Z hy hs V;have HN:=Kh O;have HC:=Kh HC;clear O hs V Z hy J I;go_wp2_with (go_at_call 201;refine HC.1.mono ?_;rintro e w' ⟨rfl,rfl⟩)
     go_roundw
     case rel=>exact⟨i+1,cz,by omega,rfl,by go_num,bC,HN.1,HB.1.setCell (mG _) _⟩
     case measure=>simp[intOf];omega
    ·obtain⟨y,Y⟩:∃y:Nat,0=y:=⟨_,rfl⟩
     have hy:ext b m i=y:=by unfold ext;rw[if_neg (by omega)];exact Y
     subst Y;have dC:((0:Nat):Int)<4294967296:=by decide
     have HC:=Ms x 0 U wr (by omega) (by omega) (by omega);obtain⟨s,hs⟩:∃s,(x+0+U) % 4294967296=s:=⟨_,rfl⟩
     obtain⟨cz,V⟩:∃cz,(x+0+U) / 4294967296=cz:=⟨_,rfl⟩
     rw[hs,V]at HC;have gL:(s:Int)<4294967296:=by omega
     have bC:(cz:Int)<=1:=by omega
     have O:=Mg I J Z hy hs V;have HN:=Kh O;have HC:=Kh HC;clear O hs V Z hy J I;go_wp2_with (go_at_call 201;refine HC.1.mono ?_;rintro e w' ⟨rfl,rfl⟩)
     go_roundw
     case rel=>exact⟨i+1,cz,by omega,rfl,by go_num,bC,HN.1,HB.1.setCell (mG _) _⟩
     case measure=>simp[intOf];omega
   ·obtain rfl:i=n:=by omega
    have bA:Row (wr.setCell ⟨wc.heap.size,i,none⟩ (.int .u32 U)) wc.heap.size (i+1) (upd r i U):=I.set i U (by omega)
    have bB:vf (upd r i U) (i+1)=T:=by
     rw[vf,Bq (mG _),show upd r i U i=U from by simp[upd],J,Wj b gF];exact HT.1
    have HF:=Kh bA;have HS:=Kh bB;have h:=HM.1;clear bA bB J I eP;go_wp2;go_ret;exact⟨⟨_,_,_,by rw[<-h];rfl,by rw[<-h];exact HF.1.dg (i+1) (mG _),by rw[<-h];exact HS.1⟩,HB.1.setCell (mG _) _⟩
def U8 (w:World) (g n i:Nat) (t u:Nat) (cy:Nat):Prop:=∃r,Row w g n r/\vf r i+u=t+4294967296 ^ i*cy
theorem L6 {w:World} {g n i I x y:Nat} {s:Nat} {a b r:Nat->Nat} (J:Row w g n r) (U:vf r i+vf b i=vf a i+4294967296 ^ i*I) (Y:a i=x) (hy:b i=y) (Z:x<4294967296) (aK:y<4294967296) (V:I<=1) (hs:(s:Int)=((x:Int) - y - I) % 4294967296):
  U8 (w.setCell ⟨g,i,none⟩ (.int .u32 s)) g n (i+1) (vf a (i+1)) (vf b (i+1)) (if x<y+I then 1 else 0):=by
 refine⟨_,J.set i s (by omega),?_⟩;rw[vf,vf,vf,Bq (mG _),show upd r i s i=s from by simp[upd],Ay,Y,hy];obtain⟨k,O⟩:∃k,(if x<y+I then 1 else 0)=k:=⟨_,rfl⟩
 rw[O];have h:s+y+I=x+4294967296*k:=by split at O <;> omega
 have M:=congrArg (4294967296 ^ i * ·) h;simp only[Nat.mul_add]at M;rw[Nat.mul_left_comm]at M;rw[Nat.mul_assoc];omega
theorem Ql (p:Option Addr) (c n:Nat) (a:Nat->Nat) (q:Option Addr) (d m:Nat) (b:Nat->Nat) (w:World) (h1:Dg w p c n a) (h2:Dg w q d m b) (hn:n<=70368744177660) (dE:m<=n) (bE:vf b m<=vf a n):
  Calls prog 168 #[.slice p n c,.slice q m d] w λe w'=>RetD w' e n (vf a n - vf b m)/\Below w.heap.size w w':=by
 have hE:∀w,(Instr.makeSlice 82 (.int .i64 (n:Int)) (.int .i64 (n:Int))).run prog w=.ok (.slice (some ⟨w.heap.size,0,none⟩) n n) (w.alloc (.cells (madeCells #[.int .u32 0] n) 200)):=Gk n (by omega)
 have I:=Row.made w n;have H1:=Kh h1;have H2:=Kh h2;have HR:=Kh I;have HL:=Kh bE;clear h1 h2 I bE;go_enter func168,ntmps168
 go_wp2;obtain⟨wb,aK⟩:∃wb,w.alloc (.cells (madeCells #[.int .u32 0] n) 200)=wb:=⟨_,rfl⟩
 rw[aK];have aN:Below w.heap.size w wb:=by rw[<-aK];exact(Below.refl _ _).alloc (mG _) _
 rw[aK]at HR;have cT:=Kh aN;clear aK aN;go_loopw [6,15] (λv6 bH wr=>∃i U:Nat,i<=n/\v6=.int .u32 U/\bH=.int .i64 i/\(U:Int)<=1/\U8 wr w.heap.size n i (vf a i) (vf (ext b m) i) U/\Below w.heap.size w wr) (λ_ bH _=>n - (intOf bH).toNat)
 case atStart=>exact⟨0,0,Nat.zero_le _,rfl,rfl,by decide,⟨_,HR.1,rfl⟩,cT.1⟩
 case round=>
  obtain⟨i,U,hi,rfl,rfl,bC,⟨r,I,O⟩,hb⟩:=hrel;have HB:=Kh hb;clear hb;by_cases hlt:(i:Int)<(n:Int)
  ·have cC:∃u,wr.cell? ⟨w.heap.size,i,none⟩=some u:=⟨_,I.1.cell (by omega)⟩
   obtain⟨u,cC⟩:=cC;have hD:wr.frozen? ⟨w.heap.size,i,none⟩=false:=I.1.frozen i;obtain⟨g1,o1,rfl,cY,cA⟩:=H1.1.head (by omega);have c1:wr.cell? ⟨g1,o1+i,none⟩=_:=(HB.1.cell (p:=⟨g1,o1+i,none⟩) cY).trans (cA i (by omega));have dX:((a i:Nat):Int)<4294967296:=by have:=H1.1.lt i (by omega);omega
   obtain⟨x,hx⟩:∃x,a i=x:=⟨_,rfl⟩
   rw[hx]at c1 dX;clear cA;by_cases hmi:(i:Int)<(m:Int)
   ·obtain⟨g2,o2,rfl,dC,cB⟩:=H2.1.head (by omega)
    have c2:wr.cell? ⟨g2,o2+i,none⟩=_:=(HB.1.cell (p:=⟨g2,o2+i,none⟩) dC).trans (cB i (by omega));have cG:((b i:Nat):Int)<4294967296:=by have:=H2.1.lt i (by omega);omega
    obtain⟨y,Y⟩:∃y,b i=y:=⟨_,rfl⟩
    have hy:ext b m i=y:=by unfold ext;rw[if_pos (by omega)];exact Y
    rw[Y]at c2 cG;clear cB Y;have HC:=Iy x y U wr (by omega) (by omega) bC;obtain⟨s,hs⟩:∃s:Nat,(s:Int)=((x:Int) - y - U) % 4294967296:=⟨(((x:Int) - y - U) % 4294967296).toNat,by omega⟩
    have M:=L6 I O hx hy (by omega) (by omega) (by omega) hs;obtain⟨Z,V⟩:∃Z:Nat,(if x<y+U then 1 else 0)=Z:=⟨_,rfl⟩
    have J:(if x<y+U then(1:Int)else 0)=(Z:Nat):=by rw[<-V];split <;> rfl
    have bB:(Z:Int)<=1:=by rw[<-J];split <;> decide
    rw[V]at M;rw[<-hs,J]at HC;have HN:=Kh M;have HC:=Kh HC;clear M hs V J hx hy O I;go_wp2_with (go_at_call 203;refine HC.1.mono ?_;rintro e w' ⟨rfl,rfl⟩)
    go_roundw
    case rel=>exact⟨i+1,Z,by omega,rfl,by go_num,bB,HN.1,HB.1.setCell (mG _) _⟩
    case measure=>simp[intOf];omega
   ·obtain⟨y,Y⟩:∃y:Nat,0=y:=⟨_,rfl⟩
    have hy:ext b m i=y:=by unfold ext;rw[if_neg (by omega)];exact Y
    subst Y;have cG:((0:Nat):Int)<4294967296:=by decide
    have HC:=Iy x 0 U wr (by omega) (by omega) bC;obtain⟨s,hs⟩:∃s:Nat,(s:Int)=((x:Int) - (0:Nat) - U) % 4294967296:=⟨(((x:Int) - (0:Nat) - U) % 4294967296).toNat,by omega⟩
    have M:=L6 I O hx hy (by omega) (by omega) (by omega) hs;obtain⟨Z,V⟩:∃Z:Nat,(if x<0+U then 1 else 0)=Z:=⟨_,rfl⟩
    have J:(if x<0+U then(1:Int)else 0)=(Z:Nat):=by rw[<-V];split <;> rfl
    have bB:(Z:Int)<=1:=by rw[<-J];split <;> decide
    rw[V]at M;rw[<-hs,J]at HC;have HN:=Kh M;have HC:=Kh HC;clear M hs V J hx hy O I;go_wp2_with (go_at_call 203;refine HC.1.mono ?_;rintro e w' ⟨rfl,rfl⟩)
    go_roundw
    case rel=>exact⟨i+1,Z,by omega,rfl,by go_num,bB,HN.1,HB.1.setCell (mG _) _⟩
    case measure=>simp[intOf];omega
  ·obtain rfl:i=n:=by omega
   have aX:=I.dg i (mG _)
   have bA:vf r i=vf a i - vf b m:=by
    rw[Wj b dE]at O;have bE:=HL.1;have h1:=Ds I.2;rcases Nat.lt_or_ge 0 U with h|h
    ·exfalso
     obtain rfl:U=1:=by omega
     omega
    ·obtain rfl:U=0:=by omega
     omega
   have HF:=Kh aX;have HS:=Kh bA;clear aX bA O I bC;go_wp2;go_ret;exact⟨⟨_,_,_,rfl,HF.1,HS.1⟩,HB.1⟩
def dF (w':World) (e:Ending) (K t:Nat):Prop:=∃k,k<=K/\RetD w' e k t
theorem RetN.d {w':World} {e:Ending} {v:Nat} (h:RetN w' e v):RetD w' e (nd v) v:=by
 obtain⟨p,c,I,hn⟩:=h;exact⟨p,c,dg v,I,hn,Bp v⟩
theorem RetD.t {w':World} {e:Ending} {k v K:Nat} (h:RetD w' e k v) (I:k<=K):dF w' e K v:=⟨k,I,h⟩
def TimesAt (w:World) (g K k t:Nat):Prop:=∃r,Row w g K r/\vf r k=t/\∀l,k<=l->l<K->r l=0
def Mm (w:World) (g K k i j t cy:Nat):Prop:=∃r,Row w g K r/\vf r k+4294967296 ^ (i+j)*cy=t/\∀l,k<=l->l<K->r l=0
theorem TimesAt.cell {w:World} {g K k t:Nat} (h:TimesAt w g K k t) {i:Nat} (I:i<K):∃u,w.cell? ⟨g,i,none⟩=some u:=by
 obtain⟨r,hr,_⟩:=h;exact⟨_,hr.1.cell I⟩
theorem T4 {vr P M V Q x J s I o R y O:Nat} (h1:vr+P*M=V+Q*(x*J)) (h:P=Q*R) (U:x*y+o+M=s+4294967296*I) (h3:O+P*o=vr+P*s):O+(4294967296*P)*I=V+Q*(x*(J+R*y)):=by
 have h4:P*(x*y)+P*o+P*M=P*s+P*(4294967296*I):=by rw[<-Nat.mul_add,<-Nat.mul_add,<-Nat.mul_add,U]
 have Y:Q*(x*(J+R*y))=Q*(x*J)+P*(x*y):=by rw[h];simp only[Nat.mul_add,Nat.mul_comm,Nat.mul_left_comm]
 have Z:(4294967296*P)*I=P*(4294967296*I):=by simp only[Nat.mul_comm,Nat.mul_left_comm]
 rw[Y,Z];omega
theorem Qy {w:World} {g K k i j V x M o y s O:Nat} {b r:Nat->Nat} (I:Row w g K r) (J:vf r k+4294967296 ^ (i+j)*M=V+4294967296 ^ i*(x*vf b j)) (hz:∀l,k<=l->l<K->r l=0)
  (hk:i+j<k) (ho:r (i+j)=o) (hy:b j=y) (hs:(x*y+o+M) % 4294967296=s) (h:(x*y+o+M) / 4294967296=O):
  Mm (w.setCell ⟨g,i+j,none⟩ (.int .u32 s)) g K k i (j+1) (V+4294967296 ^ i*(x*vf b (j+1))) O:=by
 refine⟨_,I.set (i+j) s (by omega),?_,λl Y Z=>by unfold upd;rw[if_neg (by omega)];exact hz l Y Z⟩;have U:=Y7 (a:=r) (k:=i+j) (d:=s) (n:=k) hk;rw[ho]at U;rw[vf,hy,<-Nat.add_assoc i j 1,Ay];exact T4 J (Nat.pow_add _ _ _) (by omega) U
theorem T5 {w:World} {g K i m V x I:Nat} {a b:Nat->Nat} (h:Mm w g K (i+m) i m (V+4294967296 ^ i*(x*vf b m)) I) (hV:V=vf a i*vf b m) (Y:a i=x) (O:I<4294967296):
  TimesAt (w.setCell ⟨g,i+m,none⟩ (.int .u32 I)) g K (i+1+m) (vf a (i+1)*vf b m):=by
 obtain⟨r,J,M,Z⟩:=h;refine⟨_,J.set (i+m) I O,?_,λl h1 U=>by unfold upd;rw[if_neg (by omega)];exact Z l (by omega) U⟩;rw[show i+1+m=(i+m)+1 from by omega,vf,Bq (mG _),show upd r (i+m) I (i+m)=I from by simp[upd],M,hV,vf,Y,Nat.add_mul,Nat.mul_assoc]
theorem Z8 (p:Option Addr) (c n:Nat) (a:Nat->Nat) (q:Option Addr) (d m:Nat) (b:Nat->Nat) (w:World) (h1:Dg w p c n a) (h2:Dg w q d m b) (hn:n<=35184372088830) (hm:m<=35184372088830):
  Calls prog 133 #[.slice p n c,.slice q m d] w λe w'=>dF w' e (n+m) (vf a n*vf b m)/\Below w.heap.size w w':=by
 have H1:=Kh h1;have H2:=Kh h2;clear h1 h2;by_cases h0:n=0∨m=0
 ·have hT:vf a n*vf b m=0:=by rcases h0 with rfl|rfl <;> simp[vf]
  rw[hT];have bB:dF w (.returned (.slice none 0 0)) (n+m) 0:=⟨0,Nat.zero_le _,none,0,λ_=>0,rfl,⟨mG _,λj hj=>absurd hj (Nat.not_lt_zero _),.inl rfl⟩,rfl⟩
  have HN:=Kh bB;clear bB hT;by_cases O:n=0
  ·subst O
   clear h0;go_enter func133,ntmps133
   go_wp2;go_ret;exact⟨HN.1,Below.refl _ _⟩
  ·have Y:m=0:=h0.resolve_left O
   subst Y;have hW:((n:Int)==0)=false:=beq_eq_false_iff_ne.2 (by omega);clear h0 O;go_enter func133,ntmps133
   go_wp2;go_ret;exact⟨HN.1,Below.refl _ _⟩
 ·have O:0<n:=by omega
  have Y:0<m:=by omega
  have hW:((n:Int)==0)=false:=beq_eq_false_iff_ne.2 (by omega);have nE:((m:Int)==0)=false:=beq_eq_false_iff_ne.2 (by omega);clear h0;obtain⟨g1,o1,rfl,hQ,bY⟩:=H1.1.head O;obtain⟨g2,o2,rfl,hS,cA⟩:=H2.1.head Y;by_cases hone:n=1/\m=1
  ·obtain⟨rfl,rfl⟩:=hone
   have l0:=H1.1.lt 0 (by omega);have m0:=H2.1.lt 0 (by omega);have c0:=bY 0 (by omega);have d0:=cA 0 (by omega);obtain⟨x,hx⟩:∃x,a 0=x:=⟨_,rfl⟩
   obtain⟨y,hy⟩:∃y,b 0=y:=⟨_,rfl⟩
   have hT:vf a 1*vf b 1=x*y:=by simp[vf,hx,hy]
   rw[hx]at c0 l0;rw[hy]at d0 m0;rw[Nat.add_zero]at c0 d0;obtain⟨M,J⟩:∃M,x*y=M:=⟨_,rfl⟩
   have bC:(x:Int)*(y:Int)=(M:Nat):=by rw[<-J];exact(Int.natCast_mul _ _).symm
   have cC:M<=4294967295*4294967295:=by rw[<-J];exact Nat.mul_le_mul (by omega) (by omega)
   have eV:(M:Int)<18446744073709551616:=by omega
   have eP:nd M<=1+1:=Be.2 (by omega);have nG:(x:Int)<4294967296:=by omega
   have nH:(y:Int)<4294967296:=by omega
   rw[hT,J];have hw:=λw=>Hw M w (by omega)
   have HW:=Kh hw;have gY:=Kh eP;clear hw hT J hx hy l0 m0 cC eP bY cA O Y;go_enter func133,ntmps133
   go_wp2;go_still_tail 9,(by kernel_rfl)
   change wpList _ _ _ _ _ w.drew;generalize hwd:w.drew=wd;have dC:Below w.heap.size w wd:=by rw[<-hwd];exact(Below.refl _ _).drew
   have cV:=Kh dC;clear hwd dC;go_wp2_with (go_at_call 132;rw[bC];refine(HW.1 _).mono ?_;rintro e w' ⟨⟨p,c',rfl,hX⟩,hb⟩)
   go_ret;have hR:RetN w' (.returned (.slice p (nd M) c')) M:=⟨p,c',rfl,hX⟩
   exact⟨RetD.t hR.d gY.1,cV.1.trans (hb.mono cV.1.size)⟩
  ·have hU:∀w,(Instr.makeSlice 82 (.int .i64 ((n:Int)+(m:Int))) (.int .i64 ((n:Int)+(m:Int)))).run prog w=.ok (.slice (some ⟨w.heap.size,0,none⟩) (n+m) (n+m)) (w.alloc (.cells (madeCells #[.int .u32 0] (n+m)) 200)):=Gk (n+m) (by omega)
   have I:=Row.made w (n+m);have HR:=Kh I;have HO:=Kh hone;clear I hone bY cA;go_enter func133,ntmps133
   go_upto_region 3 with(fail)
   go_cut [27] (λv wc=>wc=w/\v=.bool false)
   case first=>
    by_cases hn1:(n:Int)=1
    ·have mP:((m:Int)==1)=false:=beq_eq_false_iff_ne.2 (by have:=HO.1;omega)
     have dY:((n:Int)==1)=true:=by rw[beq_iff_eq];exact hn1
     clear hn1;go_wp2;go_meet
     case rel=>exact⟨rfl,rfl⟩
    ·have dY:((n:Int)==1)=false:=beq_eq_false_iff_ne.2 hn1
     clear hn1;go_wp2;go_meet
     case rel=>exact⟨rfl,rfl⟩
   case rest=>
    obtain⟨rfl,rfl⟩:=hcut;go_wp2;obtain⟨wb,Z⟩:∃wb,wc.alloc (.cells (madeCells #[.int .u32 0] (n+m)) 200)=wb:=⟨_,rfl⟩
    rw[Z];have aN:Below wc.heap.size wc wb:=by rw[<-Z];exact(Below.refl _ _).alloc (mG _) _
    have U:TimesAt wb wc.heap.size (n+m) (0+m) (vf a 0*vf b m):=by
     rw[Z]at HR;refine⟨_,HR.1,?_,λ_ _ _=>rfl⟩;rw[N2 (λ_ _=>rfl)];simp[vf]
    have cT:=Kh aN;have cX:=Kh U;obtain⟨G,hG⟩:∃G,wc.heap.size=G:=⟨_,rfl⟩
    have HG:=Kh hG;have dE:g1<G:=by omega
    have dX:g2<G:=by omega
    rw[hG]at cT cX;rw[hG];clear Z aN U hU HR hG hQ hS HO;go_loopw [46] (λv wr=>∃i:Nat,i<=n/\v=.int .i64 i/\TimesAt wr G (n+m) (i+m) (vf a i*vf b m)/\Below G wc wr) (λv _=>n - (intOf v).toNat)
    case atStart=>exact⟨0,Nat.zero_le _,rfl,cX.1,cT.1⟩
    case round=>
     obtain⟨i,hi,rfl,hT,hb⟩:=hrel;have HB:=Kh hb;have HT:=Kh hT;clear hb hT;by_cases hlt:(i:Int)<(n:Int)
     ·have c1:wr.cell? ⟨g1,o1+i,none⟩=_:=(HB.1.cell (p:=⟨g1,o1+i,none⟩) dE).trans ((H1.1.head O).elim λg h=>h.elim λo h=>by
       obtain⟨e,_,hc⟩:=h;injection e with e;injection e with e1 e2;subst e1;subst e2
       exact hc i (by omega))
      have mB:((a i:Nat):Int)<4294967296:=by have:=H1.1.lt i (by omega);omega
      obtain⟨x,hx⟩:∃x,a i=x:=⟨_,rfl⟩
      rw[hx]at c1 mB;have HX:=Kh hx;clear hx;go_wp2;obtain⟨wo,rfl⟩:∃wo:World,wo=wr:=⟨_,rfl⟩
      obtain⟨V,hV⟩:∃V,vf a i*vf b m=V:=⟨_,rfl⟩
      have HV:=Kh hV;rw[hV]at HT;clear hV;go_loopw [8,53] (λv8 cG wr=>∃j cy:Nat,j<=m/\v8=.int .u64 cy/\cG=.int .i64 j/\(cy:Int)<4294967296/\Mm wr G (n+m) (i+m) i j (V+4294967296 ^ i*(x*vf b j)) cy/\Below G wc wr) (λ_ cG _=>m - (intOf cG).toNat)
      case atStart=>exact⟨0,0,Nat.zero_le _,rfl,rfl,by decide,by
       obtain⟨r,hr,hv,hz⟩:=HT.1;exact⟨r,hr,by simp[vf,hv],hz⟩,HB.1⟩
      case round=>
       obtain⟨j,cy,hj,rfl,rfl,nD,hI,hb⟩:=hrel;have bG:=Kh hb;clear hb;by_cases hjl:(j:Int)<(m:Int)
       ·obtain⟨r,I,bE,hz⟩:=hI
        have d1:wr.cell? ⟨g2,o2+j,none⟩=_:=(bG.1.cell (p:=⟨g2,o2+j,none⟩) dX).trans ((H2.1.head Y).elim λg h=>h.elim λo h=>by
         obtain⟨e,_,hc⟩:=h;injection e with e;injection e with e1 e2;subst e1;subst e2
         exact hc j (by omega))
        have mC:((b j:Nat):Int)<4294967296:=by have:=H2.1.lt j (by omega);omega
        obtain⟨y,hy⟩:∃y,b j=y:=⟨_,rfl⟩
        rw[hy]at d1 mC;have gA:wr.cell? ⟨G,i+j,none⟩=some (.int .u32 (r (i+j):Nat)):=I.1.cell (by omega);have hP:wr.frozen? ⟨G,i+j,none⟩=false:=I.1.frozen _;have hZ:((r (i+j):Nat):Int)<4294967296:=by have:=I.2 (i+j) (by omega);omega
        obtain⟨o,ho⟩:∃o,r (i+j)=o:=⟨_,rfl⟩
        rw[ho]at gA hZ;obtain⟨M,J⟩:∃M,x*y=M:=⟨_,rfl⟩
        have bC:(x:Int)*(y:Int)=(M:Nat):=by rw[<-J];exact(Int.natCast_mul _ _).symm
        have cC:M<=4294967295*4294967295:=by rw[<-J];exact Nat.mul_le_mul (by omega) (by omega)
        have eV:(M:Int)<=18446744065119617025:=by omega
        obtain⟨s,hs⟩:∃s,(x*y+o+cy) % 4294967296=s:=⟨_,rfl⟩
        obtain⟨cz,cB⟩:∃cz,(x*y+o+cy) / 4294967296=cz:=⟨_,rfl⟩
        have bA:=Qy I bE hz (by omega) ho hy hs cB;rw[J]at hs cB;have nF:((M:Int)+(o:Int)+(cy:Int)) % 4294967296=(s:Nat):=by omega
        have nC:((M:Int)+(o:Int)+(cy:Int)) / 4294967296=(cz:Nat):=by omega
        have hO:(cz:Int)<4294967296:=by omega
        have HN:=Kh bA;clear bA I bE hz ho hy hs cB J cC;go_wp2;go_roundw
        case rel=>exact⟨j+1,cz,by omega,rfl,by go_num,hO,HN.1,bG.1.setCell (mG _) _⟩
        case measure=>simp[intOf];omega
       ·obtain rfl:j=m:=by omega
        have aX:=T5 hI HV.1.symm HX.1 (by omega);obtain⟨r,I,_,_⟩:=hI;have gA:wr.cell? ⟨G,i+j,none⟩=some (.int .u32 (r (i+j):Nat)):=I.1.cell (by omega);have hP:wr.frozen? ⟨G,i+j,none⟩=false:=I.1.frozen _;have HF:=Kh aX;clear aX I;go_wp2;go_roundw
        case rel=>exact⟨i+1,by omega,by go_num,HF.1,bG.1.setCell (mG _) _⟩
        case measure=>simp[intOf];omega
     ·obtain rfl:i=n:=by omega
      go_wp2;go_ret;obtain⟨r,hr,hv,_⟩:=HT.1;have hR:RetD wr (.returned (.slice (some ⟨G,0,none⟩) (i+m) (i+m))) (i+m) (vf a i*vf b m):=⟨_,_,r,rfl,hr.dg _ (mG _),hv⟩
      exact⟨hR.t (mG _),by rw[HG.1];exact HB.1⟩
theorem Zl (I lo y:Nat) (w:World) (aX:(lo:Int)<4294967296) (hy:(y:Int)<4294967296) (hlt:(I:Int)<(y:Int)):
  Calls prog 224 #[.int .u32 I,.int .u32 lo,.int .u32 y] w λe w'=>e=.returned (.tuple #[.int .u32 ((lo+4294967296*I) / y:Nat),.int .u32 ((lo+4294967296*I) % y:Nat)])/\∃k,w'=w.drewN k:=by
 have J:=aW I lo (by omega) (by omega);obtain⟨z,hz⟩:∃z,lo+4294967296*I=z:=⟨_,rfl⟩
 rw[hz]at J ⊢;have Y:(lo:Int)+4294967296*(I:Int)=(z:Nat):=by omega
 obtain⟨q,hq⟩:∃q,z / y=q:=⟨_,rfl⟩
 obtain⟨r,hr⟩:∃r,z % y=r:=⟨_,rfl⟩
 have M:(z:Int) / (y:Int)=(q:Nat):=by rw[<-hq];exact(Int.natCast_ediv _ _).symm
 have U:(z:Int) % (y:Int)=(r:Nat):=by rw[<-hr];exact(Int.natCast_emod _ _).symm
 have V:r<y:=by rw[<-hr];exact Nat.mod_lt _ (by omega)
 have O:q<4294967296:=by
  rw[<-hq,Nat.div_lt_iff_lt_mul (by omega)];have:4294967296*(I+1)<=4294967296*y:=Nat.mul_le_mul_left _ (by omega);omega
 have bB:Int.tdiv (z:Int) (y:Int)=(q:Nat):=by rw[Int.tdiv_eq_ediv_of_nonneg (by omega)];exact M
 have bE:Int.tmod (z:Int) (y:Int)=(r:Nat):=by rw[Int.tmod_eq_emod_of_nonneg (by omega)];exact U
 have bA:((q:Nat):Int) % 4294967296=(q:Nat):=by omega
 have bC:((r:Nat):Int) % 4294967296=(r:Nat):=by omega
 have h:((q:Nat):Int) % 18446744073709551616=(q:Nat):=by omega
 have bH:(z:Int)<18446744073709551616:=by omega
 have Z:(q:Int)<4294967296:=by omega
 have aD:(r:Int)<4294967296:=by omega
 have bG:((y:Int) != 0)=true:=by rw[bne_iff_ne];omega
 have aN:¬((y:Int)<=(I:Int)):=by omega
 rw[hq,hr];clear hq hr O V hz Y;go_enter func224,ntmps224
 go_wp2;go_quiet (fail)
 go_wp2;go_ret2
 exact⟨rfl,nq,rfl⟩
def Mn (w:World) (g n k d r:Nat) (a:Nat->Nat):Prop:=∃qr,Row w g n qr/\(∀l,l<k->qr l=0)/\vf qr n*d+4294967296 ^ k*r+vf a k=vf a n
theorem Rj {w:World} {g n k d r x q M:Nat} {a:Nat->Nat} (h:Mn w g n (k+1) d r a) (hx:a k=x) (hk:k<n) (hq:(x+4294967296*r) / d=q) (hr:(x+4294967296*r) % d=M) (J:q<4294967296):
  Mn (w.setCell ⟨g,k,none⟩ (.int .u32 q)) g n k d M a:=by
 obtain⟨qr,I,V,U⟩:=h;refine⟨_,I.set k q J,λl hl=>by unfold upd;rw[if_neg (by omega)];exact V l (by omega),?_⟩;have O:=Y7 (a:=qr) (k:=k) (d:=q) (n:=n) hk;rw[V k (by omega),Nat.mul_zero,Nat.add_zero]at O;have Y:d*q+M=x+4294967296*r:=by rw[<-hq,<-hr];exact Nat.div_add_mod _ _
 have Z:=congrArg (4294967296 ^ k * ·) Y;simp only[Nat.mul_add]at Z;rw[vf,hx,Ay]at U;rw[O,Nat.add_mul,Nat.mul_assoc,Nat.mul_comm q d];rw[show 4294967296*4294967296 ^ k*r=4294967296 ^ k*(4294967296*r)from by rw[Nat.mul_comm 4294967296,Nat.mul_assoc]]at U;omega
def fR (w':World) (e:Ending) (n t r:Nat):Prop:=∃p c qr,e=.returned (.tuple #[.slice p n c,.int .u32 (r:Nat)])/\Dg w' p c n qr/\vf qr n=t
theorem Z7 (p:Option Addr) (c n:Nat) (a:Nat->Nat) (d:Nat) (w:World) (h1:Dg w p c n a) (hn:n<=70368744177660) (U:0<d) (hd:(d:Int)<4294967296):
  Calls prog 214 #[.slice p n c,.int .u32 d] w λe w'=>fR w' e n (vf a n / d) (vf a n % d)/\Below w.heap.size w w':=by
 have bG:∀w,(Instr.makeSlice 82 (.int .i64 (n:Int)) (.int .i64 (n:Int))).run prog w=.ok (.slice (some ⟨w.heap.size,0,none⟩) n n) (w.alloc (.cells (madeCells #[.int .u32 0] n) 200)):=Gk n (by omega)
 have I:=Row.made w n;have H1:=Kh h1;have HR:=Kh I;clear h1 I;go_enter func214,ntmps214
 go_wp2;obtain⟨wb,J⟩:∃wb,w.alloc (.cells (madeCells #[.int .u32 0] n) 200)=wb:=⟨_,rfl⟩
 rw[J];have M:Below w.heap.size w wb:=by rw[<-J];exact(Below.refl _ _).alloc (mG _) _
 rw[J]at HR;have bC:=Kh M;clear J M bG;go_loopw [7,8] (λv7 v8 wr=>∃k r:Nat,k<=n/\v7=.int .u32 r/\v8=.int .i64 ((k:Int) - 1)/\(r:Int)<(d:Int)/\Mn wr w.heap.size n k d r a/\Below w.heap.size w wr) (λ_ v8 _=>(intOf v8+1).toNat)
 case atStart=>exact⟨n,0,mG _,rfl,by go_num,by omega,⟨_,HR.1,λ_ _=>rfl,by rw[N2 (λ_ _=>rfl)];omega⟩,bC.1⟩
 case round=>
  obtain⟨k,r,hk,rfl,rfl,bH,hS,hb⟩:=hrel;have HB:=Kh hb;have HS:=Kh hS;clear hb hS;by_cases h0:k=0
  ·subst h0
   obtain⟨qr,I,_,hv⟩:=HS.1;simp only[Nat.pow_zero,Nat.one_mul,vf,Nat.add_zero]at hv;have hq:vf qr n=vf a n / d:=by rw[<-hv,Nat.mul_comm,Nat.mul_add_div U,Nat.div_eq_of_lt (by omega),Nat.add_zero]
   have hr:r=vf a n % d:=by rw[<-hv,Nat.mul_comm,Nat.mul_add_mod,Nat.mod_eq_of_lt (by omega)]
   have HQ:=Kh hq;have hR:fR wr (.returned (.tuple #[.slice (some ⟨w.heap.size,0,none⟩) n n,.int .u32 (r:Nat)])) n (vf a n / d) (vf a n % d):=by rw[<-hr];exact⟨_,_,qr,rfl,I.dg n (mG _),hq⟩
   have HF:=Kh hR;clear I hv hq hr hR;go_wp2;go_ret2
   exact⟨HF.1,HB.1⟩
  ·obtain⟨k,rfl⟩:∃j,k=j+1:=⟨k - 1,by omega⟩
   obtain⟨g1,o1,rfl,bE,V⟩:=H1.1.head (by omega);have c1:wr.cell? ⟨g1,o1+k,none⟩=_:=(HB.1.cell (p:=⟨g1,o1+k,none⟩) bE).trans (V k (by omega));have h:((a k:Nat):Int)<4294967296:=by have:=H1.1.lt k (by omega);omega
   obtain⟨x,hx⟩:∃x,a k=x:=⟨_,rfl⟩
   rw[hx]at c1 h;have Z:∃u,wr.cell? ⟨w.heap.size,k,none⟩=some u:=by obtain⟨qr,I,_⟩:=HS.1;exact⟨_,I.1.cell (by omega)⟩
   obtain⟨u,Z⟩:=Z;have eV:wr.frozen? ⟨w.heap.size,k,none⟩=false:=by obtain⟨qr,I,_⟩:=HS.1;exact I.1.frozen k
   have HC:=Zl r x d wr h hd bH;obtain⟨q,hq⟩:∃q,(x+4294967296*r) / d=q:=⟨_,rfl⟩
   obtain⟨r',hr⟩:∃r',(x+4294967296*r) % d=r':=⟨_,rfl⟩
   have Y:q<4294967296:=by
    rw[<-hq,Nat.div_lt_iff_lt_mul U];have:4294967296*(r+1)<=4294967296*d:=Nat.mul_le_mul_left _ (by omega);omega
   have bY:(r':Int)<(d:Int):=by have:r'<d:=(by rw[<-hr];exact Nat.mod_lt _ U);omega
   have gA:(q:Int)<4294967296:=by omega
   have O:=Rj HS.1 hx (by omega) hq hr Y;rw[hq,hr]at HC;have HC:=Kh HC;have HN:=Kh O;have e1:(((k+1:Nat):Int) - 1)=(k:Int):=by omega
   rw[e1];clear O hq hr hx V Y h0 e1;go_wp2_with (go_at_call 224;refine HC.1.mono ?_;rintro e w' ⟨rfl,kk,rfl⟩)
   go_roundw
   case rel=>exact⟨k,r',by omega,rfl,rfl,bY,HN.1,(Aa HB.1 kk).setCell (mG _) _⟩
   case measure=>simp[intOf]
theorem Lr (b:Int) (I:0<=b) (J:b<=255) {h:b.toNat<Lib.len8tab.size}:((Lib.len8tab[b.toNat]'h).toNat:Int)=(Lib.bitLen b.toNat:Int):=by
 rw[<-Lib.len8_of b I J];unfold Lib.len8;rw[getElem?_pos Lib.len8tab b.toNat h];rfl
theorem lZ (x:Int) (y:Nat) (J:0<=x) (M:x<=4294967295) (O:16777216<=x) (I:x / 65536 / 256<=255) (U:(y:Int)=(Lib.bitLen (x / 65536 / 256).toNat:Int)):wrap64 (24+wrap64 (y:Int))=((Lib.bitLen x.toNat:Nat):Int):=by
 have l:=Lib.bitLen_le8' (x / 65536 / 256) (by omega) I;have s:=Lib.bitLen_shift24 x.toNat (by omega) (by omega);have e:(x / 65536 / 256).toNat=x.toNat / 16777216:=by omega
 rw[e]at U l;generalize Lib.bitLen (x.toNat / 16777216)=z at *;generalize Lib.bitLen x.toNat=t at *;have:y<=8:=by omega
 clear e J M O I;unfold wrap64;omega
theorem lY (x:Int) (y:Nat) (J:0<=x) (M:x<=4294967295) (O:65536<=x) (I:x / 65536<=255) (U:(y:Int)=(Lib.bitLen (x / 65536).toNat:Int)):wrap64 (16+wrap64 (y:Int))=((Lib.bitLen x.toNat:Nat):Int):=by
 have l:=Lib.bitLen_le8' (x / 65536) (by omega) I;have s:=Lib.bitLen_shift16 x.toNat (by omega) (by omega);have e:(x / 65536).toNat=x.toNat / 65536:=by omega
 rw[e]at U l;generalize Lib.bitLen (x.toNat / 65536)=z at *;generalize Lib.bitLen x.toNat=t at *;have:y<=8:=by omega
 clear e J M O I;unfold wrap64;omega
theorem len8 (x:Int) (y:Nat) (J:0<=x) (M:x<=4294967295) (O:256<=x) (I:x / 256<=255) (U:(y:Int)=(Lib.bitLen (x / 256).toNat:Int)):wrap64 (8+wrap64 (y:Int))=((Lib.bitLen x.toNat:Nat):Int):=by
 have l:=Lib.bitLen_le8' (x / 256) (by omega) I;have s:=Lib.bitLen_shift8 x.toNat (by omega) (by omega);have e:(x / 256).toNat=x.toNat / 256:=by omega
 rw[e]at U l;generalize Lib.bitLen (x.toNat / 256)=z at *;generalize Lib.bitLen x.toNat=t at *;have:y<=8:=by omega
 clear e J M O I;unfold wrap64;omega
theorem jT (x:Int) (y:Nat) (I:0<=x) (J:x<=255) (M:(y:Int)=(Lib.bitLen x.toNat:Int)):wrap64 (wrap64 (y:Int))=((Lib.bitLen x.toNat:Nat):Int):=by
 have l:=Lib.bitLen_le8' x I J;generalize Lib.bitLen x.toNat=z at *;have:y<=8:=by omega
 unfold wrap64;omega
theorem Zq (x:Int) (w:World) (I:0<=x) (J:x<=4294967295):
  Calls prog 225 #[.int .u32 x] w λe w'=>e=.returned (.int .i64 (Lib.bitLen x.toNat))/\w'=w:=by
 have M:(Lib.len8tab.size:Int)=256:=by rw[Lib.len8tab_size];rfl
 go_enter func225,ntmps225
 go_wp2
 ·go_ret
  exact⟨A3 (lZ x _ I J (by omega) (by omega) (Lr _ (by omega) (by omega))),rfl⟩
 ·go_ret
  exact⟨A3 (lY x _ I J (by omega) (by omega) (Lr _ (by omega) (by omega))),rfl⟩
 ·go_ret
  exact⟨A3 (len8 x _ I J (by omega) (by omega) (Lr _ (by omega) (by omega))),rfl⟩
 ·go_ret
  exact⟨A3 (jT x _ I (by omega) (Lr _ (by omega) (by omega))),rfl⟩
theorem dP (x:Int) (w:World) (J:0<=x) (M:x<=4294967295):
  Calls prog 215 #[.int .u32 x] w λe w'=>e=.returned (.int .i64 (32 - (Lib.bitLen x.toNat:Int)))/\w'=w:=by
 have l:Lib.bitLen x.toNat<=32:=Lib.bitLen_le x.toNat 32 (by omega) (by omega);have I:(32 - (Lib.bitLen x.toNat:Int)+9223372036854775808) % 18446744073709551616 - 9223372036854775808=32 - (Lib.bitLen x.toNat:Int):=by omega
 go_enter func215,ntmps215
 go_wp2_with (go_at_call 225;refine(Zq x _ J M).mono ?_;rintro e w' ⟨rfl,rfl⟩)
 go_ret;refine⟨?_,rfl⟩;rw[<-I];rfl
end
end Go.Proofs.YtenlbhlllgppmaaGreatDoor
