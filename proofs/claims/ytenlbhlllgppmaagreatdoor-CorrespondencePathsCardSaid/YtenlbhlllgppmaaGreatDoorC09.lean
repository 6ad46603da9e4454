/- Digits to base 2^32: values, normal forms, lengths. No program in sight. -/
import Derived.Test.YtenlbhlllgppmaaGreatDoorC01
import Derived.Deep.OwnRows
import Derived.Lib.BitFns
import Derived.Lib.Strings
import Derived.Lib.Slices
import Derived.Lib.Small
import Derived.Lib.Walk
set_option maxRecDepth 100000
namespace Go.Proofs.YtenlbhlllgppmaaGreatDoor
namespace Dig
def val:List Nat->Nat
 | []=>0
 | d :: l=>d+4294967296*val l
def M8:Nat->Nat->List Nat
 | 0,_=>[]
 | f+1,n=>if n=0 then []else n % 4294967296 :: M8 f (n / 4294967296)
def dig (n:Nat):List Nat:=M8 n n
theorem Sj:∀(f g n:Nat),n<=f->n<=g->M8 f n=M8 g n
 | 0,0,_,_,_=>rfl
 | 0,g+1,n,h,_=>by
  have:n=0:=by omega
  subst this;simp[M8]
 | f+1,0,n,_,h=>by
  have:n=0:=by omega
  subst this;simp[M8]
 | f+1,g+1,n,h,h'=>by
  rw[M8,M8];split
  ·rfl
  ·rename_i h0
   have:n / 4294967296<n:=Nat.div_lt_self (by omega) (by omega);rw[Sj f g _ (by omega) (by omega)]
theorem Ka:dig 0=[]:=rfl
theorem M9 {n:Nat} (h:n≠0):dig n=n % 4294967296 :: dig (n / 4294967296):=by
 obtain⟨m,rfl⟩:∃m,n=m+1:=⟨n - 1,by omega⟩
 unfold dig;rw[M8,if_neg h];have:(m+1) / 4294967296<m+1:=Nat.div_lt_self (by omega) (by omega);rw[Sj m ((m+1) / 4294967296) _ (by omega) (Nat.le_refl _)]
theorem K3 (a b:List Nat):val (a++b)=val a+4294967296 ^ a.length*val b:=by
 induction a with
 | nil=>simp[val]
 | cons d a ih=>rw[List.cons_append,val,val,ih,List.length_cons,Nat.pow_succ,Nat.mul_add];rw[Nat.mul_comm (4294967296 ^ a.length) 4294967296,Nat.mul_assoc];omega
theorem pow_pos (k:Nat):0<4294967296 ^ k:=Nat.pow_pos (by omega)
theorem dig_lt {n k:Nat}:(dig n).length<=k↔n<4294967296 ^ k:=by
 induction k generalizing n with
 | zero=>
  by_cases h:n=0
  ·subst h;simp[Ka]
  ·rw[M9 h];simp;omega
 | succ k ih=>
  by_cases h:n=0
  ·subst h;have:=pow_pos (k+1);simp[Ka];omega
  ·rw[M9 h,List.length_cons,Nat.pow_succ,Nat.add_le_add_iff_right,ih,Nat.div_lt_iff_lt_mul (by omega)]
theorem dig_length_pos {n:Nat}:0<(dig n).length↔n≠0:=by
 by_cases h:n=0
 ·subst h;simp[Ka]
 ·rw[M9 h];simp;exact h
theorem dig_top {n:Nat} (h:n≠0):4294967296 ^ ((dig n).length - 1)<=n:=by
 rcases Nat.lt_or_ge n (4294967296 ^ ((dig n).length - 1))with hlt|E
 ·have:=dig_lt.2 hlt
  have:=dig_length_pos.2 h;omega
 ·exact E
theorem dig_mono {a b:Nat} (h:a<=b):(dig a).length<=(dig b).length:=
 dig_lt.2 (Nat.lt_of_le_of_lt h (dig_lt.1 (Nat.le_refl _)))
theorem dig_add_len (a b:Nat):(dig (a+b)).length<=max (dig a).length (dig b).length+1:=by
 rw[dig_lt,Nat.pow_succ];have E:=dig_lt.1 (show(dig a).length<=max (dig a).length (dig b).length from by omega);have I:=dig_lt.1 (show(dig b).length<=max (dig a).length (dig b).length from by omega);omega
theorem dig_mul_len (a b:Nat):(dig (a*b)).length<=(dig a).length+(dig b).length:=by
 rw[dig_lt,Nat.pow_add];exact Nat.mul_lt_mul'' (dig_lt.1 (Nat.le_refl _)) (dig_lt.1 (Nat.le_refl _))
end Dig
section
open Go.RowKit Tryz
def vf (a:Nat->Nat):Nat->Nat
 | 0=>0
 | n+1=>vf a n+4294967296 ^ n*a n
def shf (a:Nat->Nat) (m:Nat):Nat->Nat:=λi=>a (m+i)
def upd (a:Nat->Nat) (k d:Nat):Nat->Nat:=λj=>if j=k then d else a j
theorem Dz {a b:Nat->Nat} {n:Nat} (h:∀i,i<n->a i=b i):vf a n=vf b n:=by
 induction n with
 | zero=>rfl
 | succ n ih=>rw[vf,vf,ih (λi E=>h i (by omega)),h n (by omega)]
theorem Ay (n:Nat):4294967296 ^ (n+1)=4294967296*4294967296 ^ n:=by rw[Nat.pow_succ,Nat.mul_comm]
theorem D1 {a:Nat->Nat} {n:Nat} (h:∀i,i<n->a i<4294967296):vf a n<4294967296 ^ n:=by
 induction n with
 | zero=>simp[vf]
 | succ n ih=>
  rw[vf,Ay];have I:=ih (λi J=>h i (by omega));have E:=Nat.mul_le_mul_left (4294967296 ^ n) (show a n<=4294967295 from by have:=h n (by omega);omega);rw[Nat.mul_comm _ 4294967295]at E;generalize 4294967296 ^ n*a n=y at *;generalize 4294967296 ^ n=x at *;omega
theorem Hm (a:Nat->Nat) (n:Nat):vf a (n+1)=a 0+4294967296*vf (shf a 1) n:=by
 induction n with
 | zero=>simp[vf]
 | succ n ih=>
  rw[vf,ih,vf,Ay,Nat.mul_assoc,Nat.mul_add,show shf a 1 n=a (n+1)from by simp[shf,Nat.add_comm]];omega
theorem Hn (a:Nat->Nat) (m n:Nat):vf a (m+n)=vf a m+4294967296 ^ m*vf (shf a m) n:=by
 induction n with
 | zero=>simp[vf]
 | succ n ih=>
  rw[<-Nat.add_assoc,vf,ih,vf,Nat.pow_add,Nat.mul_add,Nat.mul_assoc,show shf a m n=a (m+n)from rfl];omega
theorem N1 {a:Nat->Nat} {n:Nat} (h:∀i,i<n->a i=0):vf a n=0:=by
 induction n with
 | zero=>rfl
 | succ n ih=>rw[vf,ih (λi E=>h i (by omega)),h n (by omega)];simp
theorem eK {a:Nat->Nat} {m n:Nat} (I:m<=n) (h:∀i,m<=i->i<n->a i=0):vf a n=vf a m:=by
 obtain⟨k,rfl⟩:∃k,n=m+k:=⟨n - m,by omega⟩
 rw[Hn,N1 (a:=shf a m) (n:=k) (λi E=>h (m+i) (by omega) (by omega))];simp
theorem Bu {a:Nat->Nat} {k d n:Nat} (h:n<=k):vf (upd a k d) n=vf a n:=
 Dz λi E=>by unfold upd;rw[if_neg (by omega)]
theorem Z9 {a:Nat->Nat} {k d n:Nat} (h:k<n):vf (upd a k d) n+4294967296 ^ k*a k=vf a n+4294967296 ^ k*d:=by
 induction n with
 | zero=>omega
 | succ n ih=>
  rw[vf,vf];by_cases hk:k=n
  ·subst hk
   rw[Bu (nL _),show upd a k d k=d from by simp[upd]];omega
  ·have E:=ih (by omega)
   rw[show upd a k d n=a n from by unfold upd;rw[if_neg (by omega)]];omega
theorem iY {a b:Nat->Nat} {n:Nat} (I:∀i,i<n->a i<4294967296) (J:∀i,i<n->b i<4294967296) (h:vf a n=vf b n):∀i,i<n->a i=b i:=by
 induction n generalizing a b with
 | zero=>intro i E;omega
 | succ n ih=>
  rw[Hm,Hm]at h;have O:=I 0 (by omega);have U:=J 0 (by omega);have M:=ih (a:=shf a 1) (b:=shf b 1) (λi E=>I (1+i) (by omega)) (λi E=>J (1+i) (by omega)) (by omega);intro i E;cases i with
  | zero=>omega
  | succ i=>have:=M i (by omega);unfold shf at this;rwa [Nat.add_comm]at this
def nd (v:Nat):Nat:=(Dig.dig v).length
def dg (v:Nat) (i:Nat):Nat:=v / 4294967296 ^ i % 4294967296
theorem dg_lt (v i:Nat):dg v i<4294967296:=Nat.mod_lt _ (by omega)
theorem Bf {v k:Nat}:nd v<=k↔v<4294967296 ^ k:=Dig.dig_lt
theorem Bq {a b:Nat} (h:a<=b):nd a<=nd b:=Dig.dig_mono h
theorem iD (a b:Nat):nd (a+b)<=max (nd a) (nd b)+1:=Dig.dig_add_len a b
theorem Cf (a b:Nat):nd (a*b)<=nd a+nd b:=Dig.dig_mul_len a b
theorem Cr:nd 0=0:=rfl
theorem Bs {v:Nat}:0<nd v↔v≠0:=Dig.dig_length_pos
theorem iF {v:Nat} (h:v≠0):4294967296 ^ (nd v - 1)<=v:=Dig.dig_top h
theorem Vu (v n:Nat):vf (dg v) n=v % 4294967296 ^ n:=by
 induction n with
 | zero=>simp[vf,Nat.mod_one]
 | succ n ih=>rw[vf,ih,Nat.pow_succ,Nat.mod_mul];rfl
theorem P9 {v n:Nat} (h:v<4294967296 ^ n):vf (dg v) n=v:=by rw[Vu,Nat.mod_eq_of_lt h]
theorem Bt (v:Nat):vf (dg v) (nd v)=v:=P9 (Bf.1 (nL _))
theorem Xd {a:Nat->Nat} {n:Nat} (E:∀i,i<n->a i<4294967296):∀i,i<n->a i=dg (vf a n) i:=
 iY E (λi _=>dg_lt _ i) (P9 (D1 E)).symm
theorem kS {a:Nat->Nat} {n:Nat} (J:∀i,i<n->a i<4294967296) (h:n=0∨a (n - 1)≠0):nd (vf a n)=n:=by
 have M:nd (vf a n)<=n:=Bf.2 (D1 J);rcases h with rfl|h
 ·rfl
 ·rcases Nat.lt_or_ge (nd (vf a n)) n with E|E
  ·exfalso
   obtain⟨m,rfl⟩:∃m,n=m+1:=⟨n - 1,by omega⟩
   have I:=Bf.1 (show nd (vf a (m+1))<=m from by omega);rw[vf]at I;simp only[Nat.add_sub_cancel]at h;have O:=Nat.mul_le_mul_left (4294967296 ^ m) (show 1<=a m from by omega);omega
  ·omega
structure Dg (w:World) (p:Option Addr) (c n:Nat) (a:Nat->Nat):Prop where
 cap:n<=c
 lt:∀j,j<n->a j<4294967296
 at':n=0∨∃g o,p=some ⟨g,o,none⟩/\g<w.heap.size/\∀j,j<n->w.cell? ⟨g,o+j,none⟩=some (.int .u32 (a j))
def Nm (w:World) (p:Option Addr) (c v:Nat):Prop:=Dg w p c (nd v) (dg v)
theorem Dg.keep {w w':World} {p:Option Addr} {c n:Nat} {a:Nat->Nat} (h:Dg w p c n a) (E:Below w.heap.size w w'):Dg w' p c n a:=
 ⟨h.cap,h.lt,by
  rcases h.at' with I |⟨g,o,e,hg,J⟩
  ·exact .inl I
  ·exact .inr ⟨g,o,e,nN hg E.size,λj M=>(E.cell (p:=⟨g,o+j,none⟩) hg).trans (J j M)⟩⟩
theorem Dg.below {B:Nat} {w w':World} {g o c n:Nat} {a:Nat->Nat} (h:Dg w (some ⟨g,o,none⟩) c n a) (I:Below B w w') (hg:g<B):Dg w' (some ⟨g,o,none⟩) c n a:=
 ⟨h.cap,h.lt,by
  rcases h.at' with J |⟨U,V,e,E,M⟩
  ·exact .inl J
  ·injection e with e;injection e with e1 e2;subst e1;subst e2
   exact .inr ⟨g,o,rfl,nN E I.size,λj O=>(I.cell (p:=⟨g,o+j,none⟩) hg).trans (M j O)⟩⟩
theorem Dg.congr {w:World} {p:Option Addr} {c n:Nat} {a b:Nat->Nat} (h:Dg w p c n a) (e:∀j,j<n->a j=b j):Dg w p c n b:=
 ⟨h.cap,λj E=>by rw[<-e j E];exact h.lt j E,by
  rcases h.at' with J |⟨g,o,I,hg,M⟩
  ·exact .inl J
  ·exact .inr ⟨g,o,I,hg,λj E=>by rw[<-e j E];exact M j E⟩⟩
theorem Dg.take {w:World} {p:Option Addr} {c n:Nat} {a:Nat->Nat} (h:Dg w p c n a) {k:Nat} (M:k<=n):Dg w p c k a:=
 ⟨by have:=h.cap;omega,λj I=>h.lt j (by omega),by
  rcases h.at' with J |⟨g,o,e,hg,E⟩
  ·exact .inl (by omega)
  ·exact .inr ⟨g,o,e,hg,λj I=>E j (by omega)⟩⟩
theorem Dg.head {w:World} {p:Option Addr} {c n:Nat} {a:Nat->Nat} (h:Dg w p c n a) (hn:0<n):∃g o,p=some ⟨g,o,none⟩/\g<w.heap.size/\∀j,j<n->w.cell? ⟨g,o+j,none⟩=some (.int .u32 (a j)):=
 h.at'.resolve_left (by omega)
theorem Dg.norm {w:World} {p:Option Addr} {c n:Nat} {a:Nat->Nat} (h:Dg w p c n a) (I:n=0∨a (n - 1)≠0):nd (vf a n)=n/\Nm w p c (vf a n):=by
 have E:=kS h.lt I;exact⟨E,by unfold Nm;rw[E];exact h.congr (Xd h.lt)⟩
theorem Nm.keep {w w':World} {p:Option Addr} {c v:Nat} (h:Nm w p c v) (E:Below w.heap.size w w'):Nm w' p c v:=Dg.keep h E
theorem Nm.nil (w:World):Nm w none 0 0:=⟨nL _,λj E=>absurd E (by simp[Cr]),.inl Cr⟩
def Row (w:World) (g n:Nat) (a:Nat->Nat):Prop:=w.rowIs g 200 n (λi=>.int .u32 (a i))/\∀j,j<n->a j<4294967296
theorem Row.dg {w:World} {g n:Nat} {a:Nat->Nat} (h:Row w g n a) (c:Nat) (E:n<=c):Dg w (some ⟨g,0,none⟩) c n a:=
 ⟨E,h.2,.inr ⟨g,0,rfl,h.1.lt,λj I=>by rw[Nat.zero_add];exact h.1.cell I⟩⟩
theorem Row.set {w:World} {g n:Nat} {a:Nat->Nat} (h:Row w g n a) (k d:Nat) (E:d<4294967296):Row (w.setCell ⟨g,k,none⟩ (.int .u32 d)) g n (upd a k d):=
 ⟨(h.1.set k _).congr (λi _=>by unfold upd;split <;> rfl),λj I=>by unfold upd;split;exact E;exact h.2 j I⟩
theorem Row.made (w:World) (n:Nat):Row (w.alloc (.cells (madeCells #[.int .u32 0] n) 200)) w.heap.size n (λ_=>0):=
 ⟨World.rowIs_made w _ n _,λ_ _=>(by decide:(0:Nat)<4294967296)⟩
theorem Row.below {B:Nat} {w w':World} {g n:Nat} {a:Nat->Nat} (h:Row w g n a) (E:Below B w w') (hg:g<B):Row w' g n a:=⟨h.1.of_block (E.block g hg),h.2⟩
theorem Row.congr {w:World} {g n:Nat} {a b:Nat->Nat} (h:Row w g n a) (e:∀j,j<n->a j=b j):Row w g n b:=
 ⟨h.1.congr (λi I=>by rw[e i I]),λj E=>by rw[<-e j E];exact h.2 j E⟩
theorem Row.alloc (w:World) (cs:Array Value) (n:Nat) (a:Nat->Nat) (hn:cs.size=n) (h:∀i,i<n->cs[i]?=some (.int .u32 (a i))) (E:∀i,i<n->a i<4294967296):Row (w.alloc (.cells cs 200)) w.heap.size n a:=by
 subst hn;exact⟨World.rowIs_alloc w cs _ _ h,E⟩
theorem Z6 {a b:Nat->Nat} {n i:Nat} (O:i<n) (I:∀j,j<n->a j<4294967296) (h:∀j,i<j->j<n->a j=b j) (hlt:a i<b i):vf a n<vf b n:=by
 obtain⟨k,rfl⟩:∃k,n=(i+1)+k:=⟨n - (i+1),by omega⟩
 rw[Hn,Hn b,Dz (a:=shf a (i+1)) (b:=shf b (i+1)) (n:=k) (λj J=>h (i+1+j) (by omega) (by omega)),vf,vf];have M:=D1 (a:=a) (n:=i) (λj J=>I j (by omega));have E:=Nat.mul_le_mul_left (4294967296 ^ i) (show a i+1<=b i from hlt);rw[Nat.mul_add,Nat.mul_one]at E;omega
theorem Yo {u v:Nat} (h:nd u<nd v):u<v:=by
 rcases Nat.lt_or_ge u v with E|E
 ·exact E
 ·have:=Bq E;omega
theorem dB (y x:Nat) (I:y<4294967296) (E:x<4294967296):bits .or .u64 ((y:Int)*4294967296) (x:Int)=((x+4294967296*y:Nat):Int):=by
 rw[show(y:Int)*4294967296=((2 ^ 32*y:Nat):Int)from by omega,bits_or_u64_nat _ _ (by omega) (by omega),<-Nat.two_pow_add_eq_or_of_lt (show x<2 ^ 32 from E)];omega
def RetD (w':World) (e:Ending) (k t:Nat):Prop:=∃p c r,e=.returned (.slice p k c)/\Dg w' p c k r/\vf r k=t
def RetN (w':World) (e:Ending) (v:Nat):Prop:=∃p c,e=.returned (.slice p (nd v) c)/\Nm w' p c v
theorem N0:(prog.info? 200).map (λi=>(i.zero,i.size,i.bytes))=some (some (.int .u32 0),1,4):=by kernel_rfl
theorem Gj (n:Nat) (h:n<=70368744177664) (w:World):
  (Instr.makeSlice 82 (.int .i64 (n:Int)) (.int .i64 (n:Int))).run prog w=.ok (.slice (some ⟨w.heap.size,0,none⟩) n n) (w.alloc (.cells (madeCells #[.int .u32 0] n) 200)):=
 run_make_row' 82 200 (.int .u32 0) 4 underlying82 N0 rfl .i64 .i64 n (by omega) (by omega) w
theorem Ds (p:Option Addr) (c n:Nat) (a:Nat->Nat) (w:World) (h:Dg w p c n a) (hn:n<=70368744177664):
  Calls prog 129 #[.slice p n c] w λe w'=>(e=.returned (.slice p (nd (vf a n)) c)/\Nm w p c (vf a n))/\w'=w:=by
 have H:=Kh h;have O:=h.cap;clear h;go_enter func129,ntmps129
 go_wp2;go_loop [0] (λm=>∃k:Nat,m=.slice p k c/\k<=n/\vf a k=vf a n) (λm=>(match m with |.slice _ k _=>k|_=>0))
 case atStart=>exact⟨n,rfl,nL _,rfl⟩
 case round=>
  obtain⟨k,rfl,U,V⟩:=hrel;have J:=Kh V;clear V;by_cases h0:k=0
  ·subst h0
   have E:=(H.1.take U).norm (.inl rfl);rw[J.1]at E;have I:=Kh E;clear E;go_wp2;go_ret;exact⟨⟨by rw[I.1.1];rfl,I.1.2⟩,rfl⟩
  ·have aD:0<k:=by omega
   obtain⟨g,o,rfl,hg,M⟩:=H.1.head (by omega);have c1:=M (k - 1) (by omega);have e1:((k:Int) - 1).toNat=k - 1:=by omega
   clear M;by_cases hz:a (k - 1)=0
   ·have Z:=Kh hz
    rw[hz]at c1;clear hz;go_wp2;go_round
    case rel=>exact⟨k - 1,rfl,by omega,by
     rw[<-J.1];obtain⟨m,rfl⟩:∃m,k=m+1:=⟨k - 1,by omega⟩
     rw[vf];have:=Z.1;simp only[Nat.add_sub_cancel]at this ⊢;rw[this];simp⟩
    case measure=>simp only;omega
   ·have E:=(H.1.take U).norm (.inr hz)
    rw[J.1]at E;have I:=Kh E;have aK:(((a (k - 1):Nat):Int)==0)=false:=beq_eq_false_iff_ne.2 (by omega);clear E hz;go_wp2;go_ret;exact⟨⟨by rw[I.1.1];rfl,I.1.2⟩,rfl⟩
theorem fW (n:Int) (w:World):
  Calls prog 202 #[.int .i64 n] w λe w'=>e=.returned (.int .i64 (Int.sign n))/\w'=w:=by
 go_enter func202,ntmps202
 go_wp2;all_goals go_ret
 all_goals refine⟨A5 ?_,rfl⟩
 all_goals try simp only[decide_eq_true_eq,decide_eq_false_iff_not,Int.not_lt]at *
 all_goals first|exact(Int.sign_eq_neg_one_of_neg (by omega)).symm|exact(Int.sign_eq_one_of_pos (by omega)).symm |(rw[show n=0 from by omega];rfl)
theorem iE {v:Nat} (E:v≠0) (h:v<4294967296):nd v=1:=by
 have I:=Bs.2 E;have J:=(Bf (v:=v) (k:=1)).2 (by omega);omega
theorem iG {v:Nat} (I:4294967296<=v) (h:v<18446744073709551616):nd v=2:=by
 have J:=(Bf (v:=v) (k:=2)).2 (by omega);have M:¬nd v<=1:=λE=>by have:=Bf.1 E;omega
 omega
theorem Hx (v:Nat) (w:World) (E:v<18446744073709551616):
  Calls prog 132 #[.int .u64 v] w λe w'=>RetN w' e v/\Below w.heap.size w w':=by
 go_enter func132,ntmps132
 by_cases h0:v=0
 ·subst h0
  go_wp2;go_ret;exact⟨⟨none,0,rfl,Nm.nil _⟩,Below.refl _ _⟩
 ·have M:((v:Int)==0)=false:=beq_eq_false_iff_ne.2 (by omega)
  have V:(v:Int)<18446744073709551616:=by omega
  have I:=Kh h0;have J:=Kh E;by_cases h1:(v:Int)<4294967296
  ·have Z:(v:Int) % 4294967296=v:=by omega
   clear E h0;go_wp2;go_ret;have hn:=iE I.1 (by omega);refine⟨⟨_,1,by rw[hn];rfl,?_⟩,(Below.refl _ _).alloc (nL _) _⟩;unfold Nm;rw[hn];refine(Row.alloc w _ 1 (dg v) rfl (λi U=>?_) (λi _=>dg_lt v i)).dg 1 (nL _);obtain rfl:i=0:=by omega
   simp[dg];omega
  ·clear E h0
   go_wp2;go_ret;have hn:=iG (by omega) J.1;refine⟨⟨_,2,by rw[hn];rfl,?_⟩,(Below.refl _ _).alloc (nL _) _⟩;unfold Nm;rw[hn];refine(Row.alloc w _ 2 (dg v) rfl (λi U=>?_) (λi _=>dg_lt v i)).dg 2 (nL _);rcases Nat.lt_or_ge i 1 with O|O
   ·obtain rfl:i=0:=by omega
    simp[dg]
   ·obtain rfl:i=1:=by omega
    simp[dg];omega
theorem fZ (p:Option Addr) (c n:Nat) (a:Nat->Nat) (w:World) (h:Dg w p c n a) (hn:n<=2):
  Calls prog 204 #[.slice p n c] w λe w'=>e=.returned (.int .u64 (vf a n:Nat))/\∃k,w'=w.drewN k:=by
 by_cases h0:n=0
 ·subst h0
  go_enter func204,ntmps204
  go_wp2;go_ret;exact⟨rfl,0,rfl⟩
 ·obtain⟨g,o,rfl,hg,J⟩:=h.head (by omega)
  have U:=h.lt 0 (by omega);have c0:=J 0 (by omega);obtain⟨x,I⟩:∃x,a 0=x:=⟨_,rfl⟩
  rw[I]at U c0;rw[Nat.add_zero]at c0;have Z:(x:Int)<4294967296:=by omega
  by_cases h1:n=1
  ·subst h1
   have E:vf a 1=x:=by simp[vf,I]
   have M:=Kh E;clear J h I U E;go_enter func204,ntmps204
   go_wp2;go_ret;exact⟨A5 (by rw[M.1]),0,rfl⟩
  ·obtain rfl:n=2:=by omega
   have V:=h.lt 1 (by omega);have c1:=J 1 (by omega);obtain⟨y,O⟩:∃y,a 1=y:=⟨_,rfl⟩
   rw[O]at V c1;have aD:(y:Int)<4294967296:=by omega
   have E:vf a 2=x+4294967296*y:=by simp[vf,I,O]
   have M:=Kh E;clear J h I O U V E;go_enter func204,ntmps204
   go_wp2;go_quiet (fail)
   go_wp2;go_ret;exact⟨A5 (by rw[M.1];exact dB _ _ (by omega) (by omega)),nq,rfl⟩
theorem J6 {u v:Nat} (h:u<v):Int.sign ((u:Int) - v)=-1:=Int.sign_eq_neg_one_of_neg (by omega)
theorem M5 {u v:Nat} (h:v<u):Int.sign ((u:Int) - v)=1:=Int.sign_eq_one_of_pos (by omega)
theorem gD {u v:Nat} (h:nd u≠nd v):Int.sign ((nd u:Int) - nd v)=Int.sign ((u:Int) - v):=by
 rcases Nat.lt_or_gt_of_ne h with E|E
 ·rw[J6 E,J6 (Yo E)]
 ·rw[M5 E,M5 (Yo E)]
theorem bG (p:Option Addr) (c:Nat) (q:Option Addr) (d n:Nat) (a b:Nat->Nat) (s:Int) (w:World) (M:Dg w p c n a) (I:Dg w q d n b) (hn:n<=70368744177664) (hs:Int.sign ((vf a n:Int) - (vf b n:Nat))=s):
  Calls prog 167 #[.slice p n c,.slice q n d] w λe w'=>e=.returned (.int .i64 s)/\∃k,w'=w.drewN k:=by
 have H1:=Kh M;have H2:=Kh I;have HS:=Kh hs;clear M I hs;go_enter func167,ntmps167
 go_wp2;go_loopw [5] (λi wr=>∃k:Nat,k<=n/\i=.int .i64 ((k:Int) - 1)/\(∀j,k<=j->j<n->a j=b j)/\∃m,wr=w.drewN m) (λi _=>(intOf i+1).toNat)
 case atStart=>exact⟨n,nL _,by go_num,λj M I=>by omega,0,rfl⟩
 case round=>
  obtain⟨k,hk,rfl,V,mr,rfl⟩:=hrel;have h:=Kh V;clear V;by_cases h0:k=0
  ·subst h0
   go_wp2;go_ret;refine⟨A5 ?_,mr,rfl⟩;rw[<-HS.1,Dz λi hi=>h.1 i (by omega) hi];simp
  ·have cG:0<k:=by omega
   obtain⟨g1,o1,rfl,cC,O⟩:=H1.1.head (by omega);obtain⟨g2,o2,rfl,cD,U⟩:=H2.1.head (by omega);have c1:=O (k - 1) (by omega);have c2:=U (k - 1) (by omega);have e1:((k:Int) - 1).toNat=k - 1:=by omega
   have cI:(1:Int)<=(k:Int):=by omega
   obtain⟨x,hx⟩:∃x,a (k - 1)=x:=⟨_,rfl⟩
   obtain⟨y,hy⟩:∃y,b (k - 1)=y:=⟨_,rfl⟩
   rw[hx]at c1;rw[hy]at c2;have HX:=Kh hx;have HY:=Kh hy;clear O U hx hy;by_cases hxy:x=y
   ·subst hxy
    go_wp2;go_quiet (fail)
    go_wp2;go_roundw
    case rel=>exact⟨k - 1,by omega,by go_num,λj M I=>by
     rcases Nat.lt_or_ge j k with h3|h3
     ·rw[show j=k - 1 from by omega,HX.1,HY.1]
     ·exact h.1 j h3 I,_,rfl⟩
    case measure=>simp[intOf];omega
   ·have cA:((x:Int) !=(y:Int))=true:=by rw[bne_iff_ne];omega
    have HL:=Kh hxy;clear hxy;by_cases hlt:(x:Int)<(y:Int)
    ·have Z:=Z6 (a:=a) (b:=b) (n:=n) (i:=k - 1) (by omega) H1.1.lt (λj M I=>h.1 j (by omega) I) (by rw[HX.1,HY.1];omega)
     have E:=J6 Z;rw[HS.1]at E;have J:=Kh E;clear Z E;go_wp2;go_quiet (fail)
     go_wp2;go_quiet (fail)
     go_wp2;go_ret;exact⟨A5 J.1.symm,_,by rw[Lx,Lx]⟩
    ·have Z:=Z6 (a:=b) (b:=a) (n:=n) (i:=k - 1) (by omega) H2.1.lt (λj M I=>(h.1 j (by omega) I).symm) (by rw[HX.1,HY.1];have:=HL.1;omega)
     have E:=M5 Z;rw[HS.1]at E;have J:=Kh E;clear Z E;go_wp2;go_quiet (fail)
     go_wp2;go_quiet (fail)
     go_wp2;go_ret;exact⟨A5 J.1.symm,_,by rw[Lx,Lx]⟩
theorem Ea (p:Option Addr) (c u:Nat) (q:Option Addr) (d v:Nat) (w:World) (h:Nm w p c u) (I:Nm w q d v) (V:nd u<=70368744177664) (Z:nd v<=70368744177664):
  Calls prog 167 #[.slice p (nd u) c,.slice q (nd v) d] w λe w'=>e=.returned (.int .i64 (Int.sign ((u:Int) - v)))/\∃k,w'=w.drewN k:=by
 by_cases hne:nd v=nd u
 ·have U:Dg w q d (nd u) (dg v):=by rw[<-hne];exact I
  have E:vf (dg v) (nd u)=v:=by rw[<-hne];exact Bt v
  rw[hne];exact bG p c q d (nd u) (dg u) (dg v) _ w h U V (by rw[Bt,E])
 ·have M:=gD (Ne.symm hne)
  have J:((nd u:Int) !=(nd v:Int))=true:=by rw[bne_iff_ne];omega
  generalize Int.sign ((u:Int) - v)=s at *;generalize nd u=n at *;generalize nd v=m at *;have O:=Kh M;clear h I M hne;go_enter func167,ntmps167
  go_wp2_with (go_at_call 202;refine(fW _ _).mono ?_;rw[O.1];rintro e w' ⟨rfl,rfl⟩)
  go_ret;exact⟨rfl,0,rfl⟩
theorem Mq (x y z:Nat) (w:World) (I:(x:Int)<4294967296) (J:(y:Int)<4294967296) (M:(z:Int)<4294967296):
  Calls prog 201 #[.int .u32 x,.int .u32 y,.int .u32 z] w λe w'=>e=.returned (.tuple #[.int .u32 ((x+y+z) % 4294967296:Nat),.int .u32 ((x+y+z) / 4294967296:Nat)])/\w'=w:=by
 have E:((x:Int)+(y:Int)+(z:Int)) / 4294967296 % 4294967296=((x:Int)+(y:Int)+(z:Int)) / 4294967296:=by omega
 go_enter func201,ntmps201
 go_wp2;go_ret2
 exact⟨by simp,rfl⟩
theorem dX (n:Nat) (h:n<4294967296):n / 2147483648=if n.testBit 31 then 1 else 0:=by
 rw[Nat.testBit_eq_decide_div_mod_eq];have e:(2:Nat) ^ 31=2147483648:=by decide
 rw[e];simp only[decide_eq_true_eq];split <;> omega
theorem Mn (n:Nat) (h:n<4294967296):n.testBit 31=decide (2147483648<=n):=by
 rw[Nat.testBit_eq_decide_div_mod_eq];have e:(2:Nat) ^ 31=2147483648:=by decide
 rw[e];rw[decide_eq_decide];omega
theorem aO (x y z d:Nat) (O:x<4294967296) (U:y<4294967296) (Z:z<=1) (V:(d:Int)=((x:Int) - y - z) % 4294967296):
  (((4294967295 ^^^ x) &&& y) |||((4294967295 ^^^ (x ^^^ y)) &&& d)) / 2147483648=if x<y+z then 1 else 0:=by
 have E:d<4294967296:=by omega
 have e:(4294967296:Nat)=2 ^ 32:=by decide
 have I:((4294967295 ^^^ x) &&& y)<2 ^ 32:=Nat.and_lt_two_pow _ (by omega);have J:((4294967295 ^^^ (x ^^^ y)) &&& d)<2 ^ 32:=Nat.and_lt_two_pow _ (by omega);have M:=Nat.or_lt_two_pow I J;rw[dX _ (by omega),Nat.testBit_or,Nat.testBit_and,Nat.testBit_and,Nat.testBit_xor,Nat.testBit_xor,Nat.testBit_xor,Mn x O,Mn y U,Mn d E,show(4294967295:Nat).testBit 31=true from by decide];clear I J M e;by_cases a1:2147483648<=x <;> by_cases a2:2147483648<=y <;> by_cases a3:2147483648<=d <;> simp only[a1,a2,a3,decide_true,decide_false,Bool.xor_true,Bool.xor_false,Bool.not_true,Bool.not_false,Bool.and_true,Bool.and_false,Bool.or_true,Bool.or_false,if_true,Bool.false_eq_true,if_false] <;> split <;> first|rfl |(exfalso;omega)|omega
theorem aM (x y z:Nat) (I:x<4294967296) (J:y<4294967296) (hz:z<=1):
  bits .or .u32 (bits .and .u32 (bits .xor .u32 (if IntKind.u32.signed=true then -1 else IntKind.u32.max) (x:Int)) (y:Int)) (bits .and .u32 (bits .xor .u32 (if IntKind.u32.signed=true then -1 else IntKind.u32.max) (bits .xor .u32 (x:Int) (y:Int))) (((x:Int) - y - z) % 4294967296)) / 2147483648=if x<y+z then 1 else 0:=by
 obtain⟨d,M⟩:∃d:Nat,(d:Int)=((x:Int) - y - z) % 4294967296:=⟨(((x:Int) - y - z) % 4294967296).toNat,by omega⟩
 have O:(if IntKind.u32.signed=true then(-1:Int)else IntKind.u32.max)=((4294967295:Nat):Int):=by decide
 have e:(4294967296:Nat)=2 ^ 32:=by decide
 have U:x ^^^ y<4294967296:=by rw[e];exact Nat.xor_lt_two_pow (by omega) (by omega)
 have V:4294967295 ^^^ x<4294967296:=by rw[e];exact Nat.xor_lt_two_pow (by omega) (by omega)
 have Z:4294967295 ^^^ (x ^^^ y)<4294967296:=by rw[e];exact Nat.xor_lt_two_pow (by omega) (by omega)
 have h:(4294967295 ^^^ x) &&& y<4294967296:=by rw[e];exact Nat.and_lt_two_pow _ (by omega)
 have h5:(4294967295 ^^^ (x ^^^ y)) &&& d<4294967296:=by rw[e];exact Nat.and_lt_two_pow _ (by omega)
 rw[<-M,O,u32_xor_nat _ _ (by omega) I,u32_xor_nat _ _ I J,u32_xor_nat _ _ (by omega) U,u32_and_nat _ _ V J,u32_and_nat _ _ Z (by omega),u32_or_nat _ _ h h5];have:=aO x y z d I J hz M;have E:=congrArg (Int.ofNat) this;split at E
 ·rename_i hh;rw[if_pos hh];simpa using E
 ·rename_i hh;rw[if_neg hh];simpa using E
theorem I3 (x y z:Nat) (w:World) (O:(x:Int)<4294967296) (U:(y:Int)<4294967296) (V:(z:Int)<=1):
  Calls prog 203 #[.int .u32 x,.int .u32 y,.int .u32 z] w λe w'=>e=.returned (.tuple #[.int .u32 (((x:Int) - y - z) % 4294967296),.int .u32 (if x<y+z then 1 else 0)])/\w'=w:=by
 have I:=aM x y z (by omega) (by omega) (by omega);obtain⟨b,E⟩:∃b:Int,(if x<y+z then(1:Int)else 0)=b:=⟨_,rfl⟩
 rw[E]at I ⊢;have M:=Kh I;have J:((((x:Int) - y) % 4294967296 - z) % 4294967296)=((x:Int) - y - z) % 4294967296:=by omega
 clear I E;go_enter func203,ntmps203
 go_wp
 go_ret2
 refine⟨?_,rfl⟩;rw[<-M.1];first|rfl |(rw[<-J];rfl) |(simp[J];done)
def ext (b:Nat->Nat) (m:Nat):Nat->Nat:=λj=>if j<m then b j else 0
theorem Xe (b:Nat->Nat) {m n:Nat} (h:m<=n):vf (ext b m) n=vf b m:=by
 rw[eK h (λi I _=>by unfold ext;rw[if_neg (by omega)])];exact Dz λi E=>by unfold ext;rw[if_pos E]
def V0 (w:World) (g:Nat) (n1 i:Nat) (t:Nat) (cy:Nat):Prop:=∃r,Row w g n1 r/\vf r i+4294967296 ^ i*cy=t
theorem Mf {w:World} {g U i I x y s J:Nat} {a b r:Nat->Nat} (E:Row w g U r) (O:vf r i+4294967296 ^ i*I=vf a i+vf b i) (Z:a i=x) (hy:b i=y) (hs:(x+y+I) % 4294967296=s) (V:(x+y+I) / 4294967296=J):
  V0 (w.setCell ⟨g,i,none⟩ (.int .u32 s)) g U (i+1) (vf a (i+1)+vf b (i+1)) J:=by
 refine⟨_,E.set i s (by omega),?_⟩;rw[vf,vf,vf,Bu (nL _),show upd r i s i=s from by simp[upd],Ay,Z,hy];have h:x+y+I=s+4294967296*J:=by omega
 have M:=congrArg (4294967296 ^ i * ·) h;simp only[Nat.mul_add]at M;rw[Nat.mul_left_comm]at M;rw[Nat.mul_assoc];omega
theorem Wu (p:Option Addr) (c n:Nat) (a:Nat->Nat) (q:Option Addr) (d m:Nat) (b:Nat->Nat) (w:World) (h1:Dg w p c n a) (h2:Dg w q d m b) (hn:n<=70368744177660) (hm:m<=70368744177660):
  Calls prog 166 #[.slice p n c,.slice q m d] w λe w'=>RetD w' e (max n m+1) (vf a n+vf b m)/\Below w.heap.size w w':=by
 obtain⟨T,hT⟩:∃T,vf a n+vf b m=T:=⟨_,rfl⟩
 obtain⟨M,h⟩:∃M,max n m+1=M:=⟨_,rfl⟩
 rw[hT,h];have H1:=Kh h1;have H2:=Kh h2;have HT:=Kh hT;have HM:=Kh h;clear h1 h2 hT h;go_enter func166,ntmps166
 go_upto_if 14 with(fail)
 go_cut [0,1] (λv0 v1 wc=>wc=w/\∃p c n a q d m b,v0=.slice p n c/\v1=.slice q m d/\Dg w p c n a/\Dg w q d m b/\m<=n/\n<=70368744177660/\vf a n+vf b m=T/\n+1=M)
 case first=>
  by_cases hlt:(n:Int)<(m:Int)
  ·have Z:m+1=M:=by have:=HM.1;omega
   have HX:=Kh Z;clear Z;go_wp2;go_meet
   case rel=>exact⟨rfl,q,d,m,b,p,c,n,a,rfl,rfl,H2.1,H1.1,by omega,by omega,by rw[Nat.add_comm];exact HT.1,HX.1⟩
  ·have Z:n+1=M:=by have:=HM.1;omega
   have HX:=Kh Z;clear Z;go_wp2;go_meet
   case rel=>exact⟨rfl,p,c,n,a,q,d,m,b,rfl,rfl,H1.1,H2.1,by omega,by omega,HT.1,HX.1⟩
 case rest=>
  clear H1 H2 HT HM hn hm p c n a q d m b;obtain⟨rfl,p,c,n,a,q,d,m,b,rfl,rfl,h1,h2,eY,hn,hT,h⟩:=hcut;have hJ:∀w,(Instr.makeSlice 82 (.int .i64 ((n:Int)+1)) (.int .i64 ((n:Int)+1))).run prog w=.ok (.slice (some ⟨w.heap.size,0,none⟩) (n+1) (n+1)) (w.alloc (.cells (madeCells #[.int .u32 0] (n+1)) 200)):=Gj (n+1) (by omega)
  obtain⟨B,hB⟩:∃B,B=wc.heap.size:=⟨_,rfl⟩
  have E:=Row.made wc (n+1);have H1:=Kh h1;have H2:=Kh h2;have HT:=Kh hT;have HM:=Kh h;have HR:=Kh E;clear h1 h2 hT h E;go_wp2;obtain⟨wb,aN⟩:∃wb,wc.alloc (.cells (madeCells #[.int .u32 0] (n+1)) 200)=wb:=⟨_,rfl⟩
  rw[aN];have aX:Below wc.heap.size wc wb:=by rw[<-aN];exact(Below.refl _ _).alloc (nL _) _
  rw[aN]at HR;have dY:=Kh aX;clear aN aX;go_loopw [6,23] (λv6 bY wr=>∃i O:Nat,i<=n/\v6=.int .u32 O/\bY=.int .i64 i/\(O:Int)<=1/\V0 wr wc.heap.size (n+1) i (vf a i+vf (ext b m) i) O/\Below wc.heap.size wc wr) (λ_ bY _=>n - (intOf bY).toNat)
  case atStart=>exact⟨0,0,Nat.zero_le _,rfl,rfl,by decide,⟨_,HR.1,rfl⟩,dY.1⟩
  case round=>
   obtain⟨i,O,hi,rfl,rfl,eP,⟨r,E,I⟩,hb⟩:=hrel;have HB:=Kh hb;clear hb;have cX:∃u,wr.cell? ⟨wc.heap.size,i,none⟩=some u:=⟨_,E.1.cell (by omega)⟩
   obtain⟨u,cX⟩:=cX;have hH:wr.frozen? ⟨wc.heap.size,i,none⟩=false:=E.1.frozen i;by_cases hlt:(i:Int)<(n:Int)
   ·obtain⟨g1,o1,rfl,eT,cS⟩:=H1.1.head (by omega)
    have c1:wr.cell? ⟨g1,o1+i,none⟩=_:=(HB.1.cell (p:=⟨g1,o1+i,none⟩) eT).trans (cS i (by omega));have gF:((a i:Nat):Int)<4294967296:=by have:=H1.1.lt i (by omega);omega
    obtain⟨x,Z⟩:∃x,a i=x:=⟨_,rfl⟩
    rw[Z]at c1 gF;clear cS;by_cases hmi:(i:Int)<(m:Int)
    ·obtain⟨g2,o2,rfl,eX,cT⟩:=H2.1.head (by omega)
     have c2:wr.cell? ⟨g2,o2+i,none⟩=_:=(HB.1.cell (p:=⟨g2,o2+i,none⟩) eX).trans (cT i (by omega));have dE:((b i:Nat):Int)<4294967296:=by have:=H2.1.lt i (by omega);omega
     obtain⟨y,V⟩:∃y,b i=y:=⟨_,rfl⟩
     have hy:ext b m i=y:=by unfold ext;rw[if_pos (by omega)];exact V
     rw[V]at c2 dE;clear cT V;have HC:=Mq x y O wr (by omega) (by omega) (by omega);obtain⟨s,hs⟩:∃s,(x+y+O) % 4294967296=s:=⟨_,rfl⟩
     obtain⟨cz,U⟩:∃cz,(x+y+O) / 4294967296=cz:=⟨_,rfl⟩
     rw[hs,U]at HC;have gA:(s:Int)<4294967296:=by omega
     have bC:(cz:Int)<=1:=by omega
     have J:=Mf E I Z hy hs U;have HN:=Kh J;have HC:=Kh HC;clear J hs U Z hy I E;go_wp2_with (go_at_call 201;refine HC.1.mono ?_;rintro e w' ⟨rfl,rfl⟩)
     go_roundw
     case rel=>exact⟨i+1,cz,by omega,rfl,by go_num,bC,HN.1,HB.1.setCell (nL _) _⟩
     case measure=>simp[intOf];omega
    ·obtain⟨y,V⟩:∃y:Nat,0=y:=⟨_,rfl⟩
     have hy:ext b m i=y:=by unfold ext;rw[if_neg (by omega)];exact V
     subst V;have dE:((0:Nat):Int)<4294967296:=by decide
     have HC:=Mq x 0 O wr (by omega) (by omega) (by omega);obtain⟨s,hs⟩:∃s,(x+0+O) % 4294967296=s:=⟨_,rfl⟩
     obtain⟨cz,U⟩:∃cz,(x+0+O) / 4294967296=cz:=⟨_,rfl⟩
     rw[hs,U]at HC;have gA:(s:Int)<4294967296:=by omega
     have bC:(cz:Int)<=1:=by omega
     have J:=Mf E I Z hy hs U;have HN:=Kh J;have HC:=Kh HC;clear J hs U Z hy I E;go_wp2_with (go_at_call 201;refine HC.1.mono ?_;rintro e w' ⟨rfl,rfl⟩)
     go_roundw
     case rel=>exact⟨i+1,cz,by omega,rfl,by go_num,bC,HN.1,HB.1.setCell (nL _) _⟩
     case measure=>simp[intOf];omega
   ·obtain rfl:i=n:=by omega
    have bA:Row (wr.setCell ⟨wc.heap.size,i,none⟩ (.int .u32 O)) wc.heap.size (i+1) (upd r i O):=E.set i O (by omega)
    have bB:vf (upd r i O) (i+1)=T:=by
     rw[vf,Bu (nL _),show upd r i O i=O from by simp[upd],I,Xe b eY];exact HT.1
    have HF:=Kh bA;have HS:=Kh bB;have h:=HM.1;clear bA bB I E eP;go_wp2;go_ret;exact⟨⟨_,_,_,by rw[<-h];rfl,by rw[<-h];exact HF.1.dg (i+1) (nL _),by rw[<-h];exact HS.1⟩,HB.1.setCell (nL _) _⟩
def Vy (w:World) (g n i:Nat) (t u:Nat) (cy:Nat):Prop:=∃r,Row w g n r/\vf r i+u=t+4294967296 ^ i*cy
theorem L5 {w:World} {g n i E x y:Nat} {s:Nat} {a b r:Nat->Nat} (I:Row w g n r) (O:vf r i+vf b i=vf a i+4294967296 ^ i*E) (V:a i=x) (hy:b i=y) (Z:x<4294967296) (aK:y<4294967296) (U:E<=1) (hs:(s:Int)=((x:Int) - y - E) % 4294967296):
  Vy (w.setCell ⟨g,i,none⟩ (.int .u32 s)) g n (i+1) (vf a (i+1)) (vf b (i+1)) (if x<y+E then 1 else 0):=by
 refine⟨_,I.set i s (by omega),?_⟩;rw[vf,vf,vf,Bu (nL _),show upd r i s i=s from by simp[upd],Ay,V,hy];obtain⟨k,M⟩:∃k,(if x<y+E then 1 else 0)=k:=⟨_,rfl⟩
 rw[M];have h:s+y+E=x+4294967296*k:=by split at M <;> omega
 have J:=congrArg (4294967296 ^ i * ·) h;simp only[Nat.mul_add]at J;rw[Nat.mul_left_comm]at J;rw[Nat.mul_assoc];omega
theorem Qw (p:Option Addr) (c n:Nat) (a:Nat->Nat) (q:Option Addr) (d m:Nat) (b:Nat->Nat) (w:World) (h1:Dg w p c n a) (h2:Dg w q d m b) (hn:n<=70368744177660) (dY:m<=n) (bE:vf b m<=vf a n):
  Calls prog 168 #[.slice p n c,.slice q m d] w λe w'=>RetD w' e n (vf a n - vf b m)/\Below w.heap.size w w':=by
 have hD:∀w,(Instr.makeSlice 82 (.int .i64 (n:Int)) (.int .i64 (n:Int))).run prog w=.ok (.slice (some ⟨w.heap.size,0,none⟩) n n) (w.alloc (.cells (madeCells #[.int .u32 0] n) 200)):=Gj n (by omega)
 have E:=Row.made w n;have H1:=Kh h1;have H2:=Kh h2;have HR:=Kh E;have HL:=Kh bE;clear h1 h2 E bE;go_enter func168,ntmps168
 go_wp2;obtain⟨wb,aK⟩:∃wb,w.alloc (.cells (madeCells #[.int .u32 0] n) 200)=wb:=⟨_,rfl⟩
 rw[aK];have aN:Below w.heap.size w wb:=by rw[<-aK];exact(Below.refl _ _).alloc (nL _) _
 rw[aK]at HR;have cS:=Kh aN;clear aK aN;go_loopw [6,15] (λv6 cA wr=>∃i O:Nat,i<=n/\v6=.int .u32 O/\cA=.int .i64 i/\(O:Int)<=1/\Vy wr w.heap.size n i (vf a i) (vf (ext b m) i) O/\Below w.heap.size w wr) (λ_ cA _=>n - (intOf cA).toNat)
 case atStart=>exact⟨0,0,Nat.zero_le _,rfl,rfl,by decide,⟨_,HR.1,rfl⟩,cS.1⟩
 case round=>
  obtain⟨i,O,hi,rfl,rfl,bC,⟨r,E,M⟩,hb⟩:=hrel;have HB:=Kh hb;clear hb;by_cases hlt:(i:Int)<(n:Int)
  ·have cF:∃u,wr.cell? ⟨w.heap.size,i,none⟩=some u:=⟨_,E.1.cell (by omega)⟩
   obtain⟨u,cF⟩:=cF;have hB:wr.frozen? ⟨w.heap.size,i,none⟩=false:=E.1.frozen i;obtain⟨g1,o1,rfl,dC,cC⟩:=H1.1.head (by omega);have c1:wr.cell? ⟨g1,o1+i,none⟩=_:=(HB.1.cell (p:=⟨g1,o1+i,none⟩) dC).trans (cC i (by omega));have eF:((a i:Nat):Int)<4294967296:=by have:=H1.1.lt i (by omega);omega
   obtain⟨x,hx⟩:∃x,a i=x:=⟨_,rfl⟩
   rw[hx]at c1 eF;clear cC;by_cases hmi:(i:Int)<(m:Int)
   ·obtain⟨g2,o2,rfl,dE,cD⟩:=H2.1.head (by omega)
    have c2:wr.cell? ⟨g2,o2+i,none⟩=_:=(HB.1.cell (p:=⟨g2,o2+i,none⟩) dE).trans (cD i (by omega));have cM:((b i:Nat):Int)<4294967296:=by have:=H2.1.lt i (by omega);omega
    obtain⟨y,V⟩:∃y,b i=y:=⟨_,rfl⟩
    have hy:ext b m i=y:=by unfold ext;rw[if_pos (by omega)];exact V
    rw[V]at c2 cM;clear cD V;have HC:=I3 x y O wr (by omega) (by omega) bC;obtain⟨s,hs⟩:∃s:Nat,(s:Int)=((x:Int) - y - O) % 4294967296:=⟨(((x:Int) - y - O) % 4294967296).toNat,by omega⟩
    have J:=L5 E M hx hy (by omega) (by omega) (by omega) hs;obtain⟨Z,U⟩:∃Z:Nat,(if x<y+O then 1 else 0)=Z:=⟨_,rfl⟩
    have I:(if x<y+O then(1:Int)else 0)=(Z:Nat):=by rw[<-U];split <;> rfl
    have bB:(Z:Int)<=1:=by rw[<-I];split <;> decide
    rw[U]at J;rw[<-hs,I]at HC;have HN:=Kh J;have HC:=Kh HC;clear J hs U I hx hy M E;go_wp2_with (go_at_call 203;refine HC.1.mono ?_;rintro e w' ⟨rfl,rfl⟩)
    go_roundw
    case rel=>exact⟨i+1,Z,by omega,rfl,by go_num,bB,HN.1,HB.1.setCell (nL _) _⟩
    case measure=>simp[intOf];omega
   ·obtain⟨y,V⟩:∃y:Nat,0=y:=⟨_,rfl⟩
    have hy:ext b m i=y:=by unfold ext;rw[if_neg (by omega)];exact V
    subst V;have cM:((0:Nat):Int)<4294967296:=by decide
    have HC:=I3 x 0 O wr (by omega) (by omega) bC;obtain⟨s,hs⟩:∃s:Nat,(s:Int)=((x:Int) - (0:Nat) - O) % 4294967296:=⟨(((x:Int) - (0:Nat) - O) % 4294967296).toNat,by omega⟩
    have J:=L5 E M hx hy (by omega) (by omega) (by omega) hs;obtain⟨Z,U⟩:∃Z:Nat,(if x<0+O then 1 else 0)=Z:=⟨_,rfl⟩
    have I:(if x<0+O then(1:Int)else 0)=(Z:Nat):=by rw[<-U];split <;> rfl
    have bB:(Z:Int)<=1:=by rw[<-I];split <;> decide
    rw[U]at J;rw[<-hs,I]at HC;have HN:=Kh J;have HC:=Kh HC;clear J hs U I hx hy M E;go_wp2_with (go_at_call 203;refine HC.1.mono ?_;rintro e w' ⟨rfl,rfl⟩)
    go_roundw
    case rel=>exact⟨i+1,Z,by omega,rfl,by go_num,bB,HN.1,HB.1.setCell (nL _) _⟩
    case measure=>simp[intOf];omega
  ·obtain rfl:i=n:=by omega
   have aX:=E.dg i (nL _)
   have bA:vf r i=vf a i - vf b m:=by
    rw[Xe b dY]at M;have bE:=HL.1;have h1:=D1 E.2;rcases Nat.lt_or_ge 0 O with h|h
    ·exfalso
     obtain rfl:O=1:=by omega
     omega
    ·obtain rfl:O=0:=by omega
     omega
   have HF:=Kh aX;have HS:=Kh bA;clear aX bA M E bC;go_wp2;go_ret;exact⟨⟨_,_,_,rfl,HF.1,HS.1⟩,HB.1⟩
def fE (w':World) (e:Ending) (K t:Nat):Prop:=∃k,k<=K/\RetD w' e k t
theorem RetN.d {w':World} {e:Ending} {v:Nat} (h:RetN w' e v):RetD w' e (nd v) v:=by
 obtain⟨p,c,E,hn⟩:=h;exact⟨p,c,dg v,E,hn,Bt v⟩
theorem RetD.t {w':World} {e:Ending} {k v K:Nat} (h:RetD w' e k v) (E:k<=K):fE w' e K v:=⟨k,E,h⟩
def TimesAt (w:World) (g K k t:Nat):Prop:=∃r,Row w g K r/\vf r k=t/\∀l,k<=l->l<K->r l=0
def Mk (w:World) (g K k i j t cy:Nat):Prop:=∃r,Row w g K r/\vf r k+4294967296 ^ (i+j)*cy=t/\∀l,k<=l->l<K->r l=0
theorem TimesAt.cell {w:World} {g K k t:Nat} (h:TimesAt w g K k t) {i:Nat} (E:i<K):∃u,w.cell? ⟨g,i,none⟩=some u:=by
 obtain⟨r,hr,_⟩:=h;exact⟨_,hr.1.cell E⟩
theorem Us {vr P J V Q x I s E o R y M:Nat} (h1:vr+P*J=V+Q*(x*I)) (h:P=Q*R) (O:x*y+o+J=s+4294967296*E) (h3:M+P*o=vr+P*s):M+(4294967296*P)*E=V+Q*(x*(I+R*y)):=by
 have h4:P*(x*y)+P*o+P*J=P*s+P*(4294967296*E):=by rw[<-Nat.mul_add,<-Nat.mul_add,<-Nat.mul_add,O]
 have U:Q*(x*(I+R*y))=Q*(x*I)+P*(x*y):=by rw[h];simp only[Nat.mul_add,Nat.mul_comm,Nat.mul_left_comm]
 have Z:(4294967296*P)*E=P*(4294967296*E):=by simp only[Nat.mul_comm,Nat.mul_left_comm]
 rw[U,Z];omega
theorem Ra {w:World} {g K k i j V x J o y s M:Nat} {b r:Nat->Nat} (E:Row w g K r) (I:vf r k+4294967296 ^ (i+j)*J=V+4294967296 ^ i*(x*vf b j)) (hz:∀l,k<=l->l<K->r l=0)
  (hk:i+j<k) (ho:r (i+j)=o) (hy:b j=y) (hs:(x*y+o+J) % 4294967296=s) (h:(x*y+o+J) / 4294967296=M):
  Mk (w.setCell ⟨g,i+j,none⟩ (.int .u32 s)) g K k i (j+1) (V+4294967296 ^ i*(x*vf b (j+1))) M:=by
 refine⟨_,E.set (i+j) s (by omega),?_,λl U Z=>by unfold upd;rw[if_neg (by omega)];exact hz l U Z⟩;have O:=Z9 (a:=r) (k:=i+j) (d:=s) (n:=k) hk;rw[ho]at O;rw[vf,hy,<-Nat.add_assoc i j 1,Ay];exact Us I (Nat.pow_add _ _ _) (by omega) O
theorem Ut {w:World} {g K i m V x E:Nat} {a b:Nat->Nat} (h:Mk w g K (i+m) i m (V+4294967296 ^ i*(x*vf b m)) E) (hV:V=vf a i*vf b m) (U:a i=x) (M:E<4294967296):
  TimesAt (w.setCell ⟨g,i+m,none⟩ (.int .u32 E)) g K (i+1+m) (vf a (i+1)*vf b m):=by
 obtain⟨r,I,J,Z⟩:=h;refine⟨_,I.set (i+m) E M,?_,λl h1 O=>by unfold upd;rw[if_neg (by omega)];exact Z l (by omega) O⟩;rw[show i+1+m=(i+m)+1 from by omega,vf,Bu (nL _),show upd r (i+m) E (i+m)=E from by simp[upd],J,hV,vf,U,Nat.add_mul,Nat.mul_assoc]
theorem bR (p:Option Addr) (c n:Nat) (a:Nat->Nat) (q:Option Addr) (d m:Nat) (b:Nat->Nat) (w:World) (h1:Dg w p c n a) (h2:Dg w q d m b) (hn:n<=35184372088830) (hm:m<=35184372088830):
  Calls prog 133 #[.slice p n c,.slice q m d] w λe w'=>fE w' e (n+m) (vf a n*vf b m)/\Below w.heap.size w w':=by
 have H1:=Kh h1;have H2:=Kh h2;clear h1 h2;by_cases h0:n=0∨m=0
 ·have hT:vf a n*vf b m=0:=by rcases h0 with rfl|rfl <;> simp[vf]
  rw[hT];have bB:fE w (.returned (.slice none 0 0)) (n+m) 0:=⟨0,Nat.zero_le _,none,0,λ_=>0,rfl,⟨nL _,λj hj=>absurd hj (Nat.not_lt_zero _),.inl rfl⟩,rfl⟩
  have HN:=Kh bB;clear bB hT;by_cases M:n=0
  ·subst M
   clear h0;go_enter func133,ntmps133
   go_wp2;go_ret;exact⟨HN.1,Below.refl _ _⟩
  ·have U:m=0:=h0.resolve_left M
   subst U;have hS:((n:Int)==0)=false:=beq_eq_false_iff_ne.2 (by omega);clear h0 M;go_enter func133,ntmps133
   go_wp2;go_ret;exact⟨HN.1,Below.refl _ _⟩
 ·have M:0<n:=by omega
  have U:0<m:=by omega
  have hS:((n:Int)==0)=false:=beq_eq_false_iff_ne.2 (by omega);have oD:((m:Int)==0)=false:=beq_eq_false_iff_ne.2 (by omega);clear h0;obtain⟨g1,o1,rfl,hO,cB⟩:=H1.1.head M;obtain⟨g2,o2,rfl,hP,cC⟩:=H2.1.head U;by_cases hone:n=1/\m=1
  ·obtain⟨rfl,rfl⟩:=hone
   have l0:=H1.1.lt 0 (by omega);have m0:=H2.1.lt 0 (by omega);have c0:=cB 0 (by omega);have d0:=cC 0 (by omega);obtain⟨x,hx⟩:∃x,a 0=x:=⟨_,rfl⟩
   obtain⟨y,hy⟩:∃y,b 0=y:=⟨_,rfl⟩
   have hT:vf a 1*vf b 1=x*y:=by simp[vf,hx,hy]
   rw[hx]at c0 l0;rw[hy]at d0 m0;rw[Nat.add_zero]at c0 d0;obtain⟨J,I⟩:∃J,x*y=J:=⟨_,rfl⟩
   have bC:(x:Int)*(y:Int)=(J:Nat):=by rw[<-I];exact(Int.natCast_mul _ _).symm
   have cF:J<=4294967295*4294967295:=by rw[<-I];exact Nat.mul_le_mul (by omega) (by omega)
   have eT:(J:Int)<18446744073709551616:=by omega
   have eP:nd J<=1+1:=Bf.2 (by omega);have oF:(x:Int)<4294967296:=by omega
   have oG:(y:Int)<4294967296:=by omega
   rw[hT,I];have hw:=λw=>Hx J w (by omega)
   have HW:=Kh hw;have gS:=Kh eP;clear hw hT I hx hy l0 m0 cF eP cB cC M U;go_enter func133,ntmps133
   go_wp2;go_still_tail 9,(by kernel_rfl)
   change wpList _ _ _ _ _ w.drew;generalize hwd:w.drew=wd;have dE:Below w.heap.size w wd:=by rw[<-hwd];exact(Below.refl _ _).drew
   have cT:=Kh dE;clear hwd dE;go_wp2_with (go_at_call 132;rw[bC];refine(HW.1 _).mono ?_;rintro e w' ⟨⟨p,c',rfl,hU⟩,hb⟩)
   go_ret;have hR:RetN w' (.returned (.slice p (nd J) c')) J:=⟨p,c',rfl,hU⟩
   exact⟨RetD.t hR.d gS.1,cT.1.trans (hb.mono cT.1.size)⟩
  ·have hQ:∀w,(Instr.makeSlice 82 (.int .i64 ((n:Int)+(m:Int))) (.int .i64 ((n:Int)+(m:Int)))).run prog w=.ok (.slice (some ⟨w.heap.size,0,none⟩) (n+m) (n+m)) (w.alloc (.cells (madeCells #[.int .u32 0] (n+m)) 200)):=Gj (n+m) (by omega)
   have E:=Row.made w (n+m);have HR:=Kh E;have HO:=Kh hone;clear E hone cB cC;go_enter func133,ntmps133
   go_upto_region 3 with(fail)
   go_cut [27] (λv wc=>wc=w/\v=.bool false)
   case first=>
    by_cases hn1:(n:Int)=1
    ·have nC:((m:Int)==1)=false:=beq_eq_false_iff_ne.2 (by have:=HO.1;omega)
     have eG:((n:Int)==1)=true:=by rw[beq_iff_eq];exact hn1
     clear hn1;go_wp2;go_meet
     case rel=>exact⟨rfl,rfl⟩
    ·have eG:((n:Int)==1)=false:=beq_eq_false_iff_ne.2 hn1
     clear hn1;go_wp2;go_meet
     case rel=>exact⟨rfl,rfl⟩
   case rest=>
    obtain⟨rfl,rfl⟩:=hcut;go_wp2;obtain⟨wb,Z⟩:∃wb,wc.alloc (.cells (madeCells #[.int .u32 0] (n+m)) 200)=wb:=⟨_,rfl⟩
    rw[Z];have aN:Below wc.heap.size wc wb:=by rw[<-Z];exact(Below.refl _ _).alloc (nL _) _
    have O:TimesAt wb wc.heap.size (n+m) (0+m) (vf a 0*vf b m):=by
     rw[Z]at HR;refine⟨_,HR.1,?_,λ_ _ _=>rfl⟩;rw[N1 (λ_ _=>rfl)];simp[vf]
    have cS:=Kh aN;have cX:=Kh O;obtain⟨G,hG⟩:∃G,wc.heap.size=G:=⟨_,rfl⟩
    have HG:=Kh hG;have dY:g1<G:=by omega
    have eF:g2<G:=by omega
    rw[hG]at cS cX;rw[hG];clear Z aN O hQ HR hG hO hP HO;go_loopw [46] (λv wr=>∃i:Nat,i<=n/\v=.int .i64 i/\TimesAt wr G (n+m) (i+m) (vf a i*vf b m)/\Below G wc wr) (λv _=>n - (intOf v).toNat)
    case atStart=>exact⟨0,Nat.zero_le _,rfl,cX.1,cS.1⟩
    case round=>
     obtain⟨i,hi,rfl,hT,hb⟩:=hrel;have HB:=Kh hb;have HT:=Kh hT;clear hb hT;by_cases hlt:(i:Int)<(n:Int)
     ·have c1:wr.cell? ⟨g1,o1+i,none⟩=_:=(HB.1.cell (p:=⟨g1,o1+i,none⟩) dY).trans ((H1.1.head M).elim λg h=>h.elim λo h=>by
       obtain⟨e,_,hc⟩:=h;injection e with e;injection e with e1 e2;subst e1;subst e2
       exact hc i (by omega))
      have iL:((a i:Nat):Int)<4294967296:=by have:=H1.1.lt i (by omega);omega
      obtain⟨x,hx⟩:∃x,a i=x:=⟨_,rfl⟩
      rw[hx]at c1 iL;have HX:=Kh hx;clear hx;go_wp2;obtain⟨wo,rfl⟩:∃wo:World,wo=wr:=⟨_,rfl⟩
      obtain⟨V,hV⟩:∃V,vf a i*vf b m=V:=⟨_,rfl⟩
      have HV:=Kh hV;rw[hV]at HT;clear hV;go_loopw [8,53] (λv8 cM wr=>∃j cy:Nat,j<=m/\v8=.int .u64 cy/\cM=.int .i64 j/\(cy:Int)<4294967296/\Mk wr G (n+m) (i+m) i j (V+4294967296 ^ i*(x*vf b j)) cy/\Below G wc wr) (λ_ cM _=>m - (intOf cM).toNat)
      case atStart=>exact⟨0,0,Nat.zero_le _,rfl,rfl,by decide,by
       obtain⟨r,hr,hv,hz⟩:=HT.1;exact⟨r,hr,by simp[vf,hv],hz⟩,HB.1⟩
      case round=>
       obtain⟨j,cy,hj,rfl,rfl,oC,hI,hb⟩:=hrel;have bY:=Kh hb;clear hb;by_cases hjl:(j:Int)<(m:Int)
       ·obtain⟨r,E,bE,hz⟩:=hI
        have d1:wr.cell? ⟨g2,o2+j,none⟩=_:=(bY.1.cell (p:=⟨g2,o2+j,none⟩) eF).trans ((H2.1.head U).elim λg h=>h.elim λo h=>by
         obtain⟨e,_,hc⟩:=h;injection e with e;injection e with e1 e2;subst e1;subst e2
         exact hc j (by omega))
        have mA:((b j:Nat):Int)<4294967296:=by have:=H2.1.lt j (by omega);omega
        obtain⟨y,hy⟩:∃y,b j=y:=⟨_,rfl⟩
        rw[hy]at d1 mA;have eX:wr.cell? ⟨G,i+j,none⟩=some (.int .u32 (r (i+j):Nat)):=E.1.cell (by omega);have hN:wr.frozen? ⟨G,i+j,none⟩=false:=E.1.frozen _;have hX:((r (i+j):Nat):Int)<4294967296:=by have:=E.2 (i+j) (by omega);omega
        obtain⟨o,ho⟩:∃o,r (i+j)=o:=⟨_,rfl⟩
        rw[ho]at eX hX;obtain⟨J,I⟩:∃J,x*y=J:=⟨_,rfl⟩
        have bC:(x:Int)*(y:Int)=(J:Nat):=by rw[<-I];exact(Int.natCast_mul _ _).symm
        have cF:J<=4294967295*4294967295:=by rw[<-I];exact Nat.mul_le_mul (by omega) (by omega)
        have eT:(J:Int)<=18446744065119617025:=by omega
        obtain⟨s,hs⟩:∃s,(x*y+o+cy) % 4294967296=s:=⟨_,rfl⟩
        obtain⟨cz,cD⟩:∃cz,(x*y+o+cy) / 4294967296=cz:=⟨_,rfl⟩
        have bA:=Ra E bE hz (by omega) ho hy hs cD;rw[I]at hs cD;have oE:((J:Int)+(o:Int)+(cy:Int)) % 4294967296=(s:Nat):=by omega
        have oB:((J:Int)+(o:Int)+(cy:Int)) / 4294967296=(cz:Nat):=by omega
        have hM:(cz:Int)<4294967296:=by omega
        have HN:=Kh bA;clear bA E bE hz ho hy hs cD I cF;go_wp2;go_roundw
        case rel=>exact⟨j+1,cz,by omega,rfl,by go_num,hM,HN.1,bY.1.setCell (nL _) _⟩
        case measure=>simp[intOf];omega
       ·obtain rfl:j=m:=by omega
        have aX:=Ut hI HV.1.symm HX.1 (by omega);obtain⟨r,E,_,_⟩:=hI;have eX:wr.cell? ⟨G,i+j,none⟩=some (.int .u32 (r (i+j):Nat)):=E.1.cell (by omega);have hN:wr.frozen? ⟨G,i+j,none⟩=false:=E.1.frozen _;have HF:=Kh aX;clear aX E;go_wp2;go_roundw
        case rel=>exact⟨i+1,by omega,by go_num,HF.1,bY.1.setCell (nL _) _⟩
        case measure=>simp[intOf];omega
     ·obtain rfl:i=n:=by omega
      go_wp2;go_ret;obtain⟨r,hr,hv,_⟩:=HT.1;have hR:RetD wr (.returned (.slice (some ⟨G,0,none⟩) (i+m) (i+m))) (i+m) (vf a i*vf b m):=⟨_,_,r,rfl,hr.dg _ (nL _),hv⟩
      exact⟨hR.t (nL _),by rw[HG.1];exact HB.1⟩
theorem aR (E lo y:Nat) (w:World) (aX:(lo:Int)<4294967296) (hy:(y:Int)<4294967296) (hlt:(E:Int)<(y:Int)):
  Calls prog 224 #[.int .u32 E,.int .u32 lo,.int .u32 y] w λe w'=>e=.returned (.tuple #[.int .u32 ((lo+4294967296*E) / y:Nat),.int .u32 ((lo+4294967296*E) % y:Nat)])/\∃k,w'=w.drewN k:=by
 have I:=dB E lo (by omega) (by omega);obtain⟨z,hz⟩:∃z,lo+4294967296*E=z:=⟨_,rfl⟩
 rw[hz]at I ⊢;have V:(lo:Int)+4294967296*(E:Int)=(z:Nat):=by omega
 obtain⟨q,hq⟩:∃q,z / y=q:=⟨_,rfl⟩
 obtain⟨r,hr⟩:∃r,z % y=r:=⟨_,rfl⟩
 have J:(z:Int) / (y:Int)=(q:Nat):=by rw[<-hq];exact(Int.natCast_ediv _ _).symm
 have O:(z:Int) % (y:Int)=(r:Nat):=by rw[<-hr];exact(Int.natCast_emod _ _).symm
 have U:r<y:=by rw[<-hr];exact Nat.mod_lt _ (by omega)
 have M:q<4294967296:=by
  rw[<-hq,Nat.div_lt_iff_lt_mul (by omega)];have:4294967296*(E+1)<=4294967296*y:=Nat.mul_le_mul_left _ (by omega);omega
 have bB:Int.tdiv (z:Int) (y:Int)=(q:Nat):=by rw[Int.tdiv_eq_ediv_of_nonneg (by omega)];exact J
 have bE:Int.tmod (z:Int) (y:Int)=(r:Nat):=by rw[Int.tmod_eq_emod_of_nonneg (by omega)];exact O
 have bA:((q:Nat):Int) % 4294967296=(q:Nat):=by omega
 have bC:((r:Nat):Int) % 4294967296=(r:Nat):=by omega
 have h:((q:Nat):Int) % 18446744073709551616=(q:Nat):=by omega
 have cA:(z:Int)<18446744073709551616:=by omega
 have Z:(q:Int)<4294967296:=by omega
 have aD:(r:Int)<4294967296:=by omega
 have bY:((y:Int) != 0)=true:=by rw[bne_iff_ne];omega
 have aN:¬((y:Int)<=(E:Int)):=by omega
 rw[hq,hr];clear hq hr M U hz V;go_enter func224,ntmps224
 go_wp2;go_quiet (fail)
 go_wp2;go_ret2
 exact⟨rfl,nq,rfl⟩
def Ml (w:World) (g n k d r:Nat) (a:Nat->Nat):Prop:=∃qr,Row w g n qr/\(∀l,l<k->qr l=0)/\vf qr n*d+4294967296 ^ k*r+vf a k=vf a n
theorem Ru {w:World} {g n k d r x q J:Nat} {a:Nat->Nat} (h:Ml w g n (k+1) d r a) (hx:a k=x) (hk:k<n) (hq:(x+4294967296*r) / d=q) (hr:(x+4294967296*r) % d=J) (I:q<4294967296):
  Ml (w.setCell ⟨g,k,none⟩ (.int .u32 q)) g n k d J a:=by
 obtain⟨qr,E,U,O⟩:=h;refine⟨_,E.set k q I,λl hl=>by unfold upd;rw[if_neg (by omega)];exact U l (by omega),?_⟩;have M:=Z9 (a:=qr) (k:=k) (d:=q) (n:=n) hk;rw[U k (by omega),Nat.mul_zero,Nat.add_zero]at M;have V:d*q+J=x+4294967296*r:=by rw[<-hq,<-hr];exact Nat.div_add_mod _ _
 have Z:=congrArg (4294967296 ^ k * ·) V;simp only[Nat.mul_add]at Z;rw[vf,hx,Ay]at O;rw[M,Nat.add_mul,Nat.mul_assoc,Nat.mul_comm q d];rw[show 4294967296*4294967296 ^ k*r=4294967296 ^ k*(4294967296*r)from by rw[Nat.mul_comm 4294967296,Nat.mul_assoc]]at O;omega
def jE (w':World) (e:Ending) (n t r:Nat):Prop:=∃p c qr,e=.returned (.tuple #[.slice p n c,.int .u32 (r:Nat)])/\Dg w' p c n qr/\vf qr n=t
theorem bQ (p:Option Addr) (c n:Nat) (a:Nat->Nat) (d:Nat) (w:World) (h1:Dg w p c n a) (hn:n<=70368744177660) (O:0<d) (hd:(d:Int)<4294967296):
  Calls prog 214 #[.slice p n c,.int .u32 d] w λe w'=>jE w' e n (vf a n / d) (vf a n % d)/\Below w.heap.size w w':=by
 have bY:∀w,(Instr.makeSlice 82 (.int .i64 (n:Int)) (.int .i64 (n:Int))).run prog w=.ok (.slice (some ⟨w.heap.size,0,none⟩) n n) (w.alloc (.cells (madeCells #[.int .u32 0] n) 200)):=Gj n (by omega)
 have E:=Row.made w n;have H1:=Kh h1;have HR:=Kh E;clear h1 E;go_enter func214,ntmps214
 go_wp2;obtain⟨wb,I⟩:∃wb,w.alloc (.cells (madeCells #[.int .u32 0] n) 200)=wb:=⟨_,rfl⟩
 rw[I];have J:Below w.heap.size w wb:=by rw[<-I];exact(Below.refl _ _).alloc (nL _) _
 rw[I]at HR;have bC:=Kh J;clear I J bY;go_loopw [7,8] (λv7 v8 wr=>∃k r:Nat,k<=n/\v7=.int .u32 r/\v8=.int .i64 ((k:Int) - 1)/\(r:Int)<(d:Int)/\Ml wr w.heap.size n k d r a/\Below w.heap.size w wr) (λ_ v8 _=>(intOf v8+1).toNat)
 case atStart=>exact⟨n,0,nL _,rfl,by go_num,by omega,⟨_,HR.1,λ_ _=>rfl,by rw[N1 (λ_ _=>rfl)];omega⟩,bC.1⟩
 case round=>
  obtain⟨k,r,hk,rfl,rfl,cA,hS,hb⟩:=hrel;have HB:=Kh hb;have HS:=Kh hS;clear hb hS;by_cases h0:k=0
  ·subst h0
   obtain⟨qr,E,_,hv⟩:=HS.1;simp only[Nat.pow_zero,Nat.one_mul,vf,Nat.add_zero]at hv;have hq:vf qr n=vf a n / d:=by rw[<-hv,Nat.mul_comm,Nat.mul_add_div O,Nat.div_eq_of_lt (by omega),Nat.add_zero]
   have hr:r=vf a n % d:=by rw[<-hv,Nat.mul_comm,Nat.mul_add_mod,Nat.mod_eq_of_lt (by omega)]
   have HQ:=Kh hq;have hR:jE wr (.returned (.tuple #[.slice (some ⟨w.heap.size,0,none⟩) n n,.int .u32 (r:Nat)])) n (vf a n / d) (vf a n % d):=by rw[<-hr];exact⟨_,_,qr,rfl,E.dg n (nL _),hq⟩
   have HF:=Kh hR;clear E hv hq hr hR;go_wp2;go_ret2
   exact⟨HF.1,HB.1⟩
  ·obtain⟨k,rfl⟩:∃j,k=j+1:=⟨k - 1,by omega⟩
   obtain⟨g1,o1,rfl,bE,U⟩:=H1.1.head (by omega);have c1:wr.cell? ⟨g1,o1+k,none⟩=_:=(HB.1.cell (p:=⟨g1,o1+k,none⟩) bE).trans (U k (by omega));have h:((a k:Nat):Int)<4294967296:=by have:=H1.1.lt k (by omega);omega
   obtain⟨x,hx⟩:∃x,a k=x:=⟨_,rfl⟩
   rw[hx]at c1 h;have Z:∃u,wr.cell? ⟨w.heap.size,k,none⟩=some u:=by obtain⟨qr,E,_⟩:=HS.1;exact⟨_,E.1.cell (by omega)⟩
   obtain⟨u,Z⟩:=Z;have eT:wr.frozen? ⟨w.heap.size,k,none⟩=false:=by obtain⟨qr,E,_⟩:=HS.1;exact E.1.frozen k
   have HC:=aR r x d wr h hd cA;obtain⟨q,hq⟩:∃q,(x+4294967296*r) / d=q:=⟨_,rfl⟩
   obtain⟨r',hr⟩:∃r',(x+4294967296*r) % d=r':=⟨_,rfl⟩
   have V:q<4294967296:=by
    rw[<-hq,Nat.div_lt_iff_lt_mul O];have:4294967296*(r+1)<=4294967296*d:=Nat.mul_le_mul_left _ (by omega);omega
   have cB:(r':Int)<(d:Int):=by have:r'<d:=(by rw[<-hr];exact Nat.mod_lt _ O);omega
   have eX:(q:Int)<4294967296:=by omega
   have M:=Ru HS.1 hx (by omega) hq hr V;rw[hq,hr]at HC;have HC:=Kh HC;have HN:=Kh M;have e1:(((k+1:Nat):Int) - 1)=(k:Int):=by omega
   rw[e1];clear M hq hr hx U V h0 e1;go_wp2_with (go_at_call 224;refine HC.1.mono ?_;rintro e w' ⟨rfl,kk,rfl⟩)
   go_roundw
   case rel=>exact⟨k,r',by omega,rfl,rfl,cB,HN.1,(Aa HB.1 kk).setCell (nL _) _⟩
   case measure=>simp[intOf]
theorem G2 (b:Int) (E:0<=b) (I:b<=255) {h:b.toNat<Lib.len8tab.size}:((Lib.len8tab[b.toNat]'h).toNat:Int)=(Lib.bitLen b.toNat:Int):=by
 rw[<-Lib.len8_of b E I];unfold Lib.len8;rw[getElem?_pos Lib.len8tab b.toNat h];rfl
theorem kG (x:Int) (y:Nat) (I:0<=x) (J:x<=4294967295) (M:16777216<=x) (E:x / 65536 / 256<=255) (O:(y:Int)=(Lib.bitLen (x / 65536 / 256).toNat:Int)):wrap64 (24+wrap64 (y:Int))=((Lib.bitLen x.toNat:Nat):Int):=by
 have l:=Lib.bitLen_le8' (x / 65536 / 256) (by omega) E;have s:=Lib.bitLen_shift24 x.toNat (by omega) (by omega);have e:(x / 65536 / 256).toNat=x.toNat / 16777216:=by omega
 rw[e]at O l;generalize Lib.bitLen (x.toNat / 16777216)=z at *;generalize Lib.bitLen x.toNat=t at *;have:y<=8:=by omega
 clear e I J M E;unfold wrap64;omega
theorem kF (x:Int) (y:Nat) (I:0<=x) (J:x<=4294967295) (M:65536<=x) (E:x / 65536<=255) (O:(y:Int)=(Lib.bitLen (x / 65536).toNat:Int)):wrap64 (16+wrap64 (y:Int))=((Lib.bitLen x.toNat:Nat):Int):=by
 have l:=Lib.bitLen_le8' (x / 65536) (by omega) E;have s:=Lib.bitLen_shift16 x.toNat (by omega) (by omega);have e:(x / 65536).toNat=x.toNat / 65536:=by omega
 rw[e]at O l;generalize Lib.bitLen (x.toNat / 65536)=z at *;generalize Lib.bitLen x.toNat=t at *;have:y<=8:=by omega
 clear e I J M E;unfold wrap64;omega
theorem len8 (x:Int) (y:Nat) (I:0<=x) (J:x<=4294967295) (M:256<=x) (E:x / 256<=255) (O:(y:Int)=(Lib.bitLen (x / 256).toNat:Int)):wrap64 (8+wrap64 (y:Int))=((Lib.bitLen x.toNat:Nat):Int):=by
 have l:=Lib.bitLen_le8' (x / 256) (by omega) E;have s:=Lib.bitLen_shift8 x.toNat (by omega) (by omega);have e:(x / 256).toNat=x.toNat / 256:=by omega
 rw[e]at O l;generalize Lib.bitLen (x.toNat / 256)=z at *;generalize Lib.bitLen x.toNat=t at *;have:y<=8:=by omega
 clear e I J M E;unfold wrap64;omega
theorem lZ (x:Int) (y:Nat) (E:0<=x) (I:x<=255) (J:(y:Int)=(Lib.bitLen x.toNat:Int)):wrap64 (wrap64 (y:Int))=((Lib.bitLen x.toNat:Nat):Int):=by
 have l:=Lib.bitLen_le8' x E I;generalize Lib.bitLen x.toNat=z at *;have:y<=8:=by omega
 unfold wrap64;omega
theorem aW (x:Int) (w:World) (E:0<=x) (I:x<=4294967295):
  Calls prog 225 #[.int .u32 x] w λe w'=>e=.returned (.int .i64 (Lib.bitLen x.toNat))/\w'=w:=by
 have J:(Lib.len8tab.size:Int)=256:=by rw[Lib.len8tab_size];rfl
 go_enter func225,ntmps225
 go_wp2
 ·go_ret
  exact⟨A5 (kG x _ E I (by omega) (by omega) (G2 _ (by omega) (by omega))),rfl⟩
 ·go_ret
  exact⟨A5 (kF x _ E I (by omega) (by omega) (G2 _ (by omega) (by omega))),rfl⟩
 ·go_ret
  exact⟨A5 (len8 x _ E I (by omega) (by omega) (G2 _ (by omega) (by omega))),rfl⟩
 ·go_ret
  exact⟨A5 (lZ x _ E (by omega) (G2 _ (by omega) (by omega))),rfl⟩
theorem fL (x:Int) (w:World) (I:0<=x) (J:x<=4294967295):
  Calls prog 215 #[.int .u32 x] w λe w'=>e=.returned (.int .i64 (32 - (Lib.bitLen x.toNat:Int)))/\w'=w:=by
 have l:Lib.bitLen x.toNat<=32:=Lib.bitLen_le x.toNat 32 (by omega) (by omega);have E:(32 - (Lib.bitLen x.toNat:Int)+9223372036854775808) % 18446744073709551616 - 9223372036854775808=32 - (Lib.bitLen x.toNat:Int):=by omega
 go_enter func215,ntmps215
 go_wp2_with (go_at_call 225;refine(aW x _ I J).mono ?_;rintro e w' ⟨rfl,rfl⟩)
 go_ret;refine⟨?_,rfl⟩;rw[<-E];rfl
end
end Go.Proofs.YtenlbhlllgppmaaGreatDoor
