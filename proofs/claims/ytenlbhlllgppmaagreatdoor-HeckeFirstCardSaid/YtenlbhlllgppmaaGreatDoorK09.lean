/- Digits to base 2^32: values, normal forms, lengths. No program in sight. -/
import Derived.Test.YtenlbhlllgppmaaGreatDoorK01
import Derived.Deep.OwnRows
import Derived.Laws.Bits64b
import Derived.Laws.BitsAllLaws
set_option maxRecDepth 100000
namespace Go.Proofs.YtenlbhlllgppmaaGreatDoor.Dig
def val:List Nat→Nat
 | []=>0
 | d :: l=>d+4294967296*val l
def digF:Nat→Nat→List Nat
 | 0,_=>[]
 | f+1,n=>if n=0 then []else n % 4294967296 :: digF f (n / 4294967296)
def dig (n:Nat):List Nat:=digF n n
theorem digF_eq:∀ (f g n:Nat),n≤f→n≤g→digF f n=digF g n
 | 0,0,_,_,_=>rfl
 | 0,g+1,n,h,_=>by
  have:n=0:=by omega
  subst this;simp[digF]
 | f+1,0,n,_,h=>by
  have:n=0:=by omega
  subst this;simp[digF]
 | f+1,g+1,n,h,h'=>by
  rw[digF,digF]
  split
  ·rfl
  ·rename_i h0
   have:n / 4294967296<n:=Nat.div_lt_self (by omega) (by omega)
   rw[digF_eq f g _ (by omega) (by omega)]
theorem dig_zero:dig 0=[]:=rfl
theorem dig_pos {n:Nat} (h:n≠0):dig n=n % 4294967296 :: dig (n / 4294967296):=by
 obtain⟨m,rfl⟩:∃ m,n=m+1:=⟨n - 1,by omega⟩
 unfold dig
 rw[digF,if_neg h]
 have:(m+1) / 4294967296<m+1:=Nat.div_lt_self (by omega) (by omega)
 rw[digF_eq m ((m+1) / 4294967296) _ (by omega) (Nat.le_refl _)]
theorem val_append (a b:List Nat):val (a++b)=val a+4294967296 ^ a.length*val b:=by
 induction a with
 | nil=>simp[val]
 | cons d a ih=>rw[List.cons_append,val,val,ih,List.length_cons,Nat.pow_succ,Nat.mul_add];rw[Nat.mul_comm (4294967296 ^ a.length) 4294967296,Nat.mul_assoc];omega
theorem pow_pos (k:Nat):0<4294967296 ^ k:=Nat.pow_pos (by omega)
theorem dig_lt {n k:Nat}:(dig n).length≤k↔n<4294967296 ^ k:=by
 induction k generalizing n with
 | zero=>
  by_cases h:n=0
  ·subst h;simp[dig_zero]
  ·rw[dig_pos h];simp;omega
 | succ k ih=>
  by_cases h:n=0
  ·subst h;have:=pow_pos (k+1);simp[dig_zero];omega
  ·rw[dig_pos h,List.length_cons,Nat.pow_succ,Nat.add_le_add_iff_right,ih,Nat.div_lt_iff_lt_mul (by omega)]
theorem dig_length_pos {n:Nat}:0<(dig n).length↔n≠0:=by
 by_cases h:n=0
 ·subst h;simp[dig_zero]
 ·rw[dig_pos h];simp;exact h
theorem dig_top {n:Nat} (h:n≠0):4294967296 ^ ((dig n).length - 1)≤n:=by
 rcases Nat.lt_or_ge n (4294967296 ^ ((dig n).length - 1))with hlt|hge
 ·have:=dig_lt.2 hlt
  have:=dig_length_pos.2 h
  omega
 ·exact hge
theorem dig_mono {a b:Nat} (h:a≤b):(dig a).length≤(dig b).length:=
 dig_lt.2 (Nat.lt_of_le_of_lt h (dig_lt.1 (Nat.le_refl _)))
theorem dig_add_len (a b:Nat):(dig (a+b)).length≤max (dig a).length (dig b).length+1:=by
 rw[dig_lt,Nat.pow_succ]
 have h1:=dig_lt.1 (show(dig a).length≤max (dig a).length (dig b).length from by omega)
 have h2:=dig_lt.1 (show(dig b).length≤max (dig a).length (dig b).length from by omega)
 omega
theorem dig_mul_len (a b:Nat):(dig (a*b)).length≤(dig a).length+(dig b).length:=by
 rw[dig_lt,Nat.pow_add]
 exact Nat.mul_lt_mul'' (dig_lt.1 (Nat.le_refl _)) (dig_lt.1 (Nat.le_refl _))
end Go.Proofs.YtenlbhlllgppmaaGreatDoor.Dig
namespace Go.Proofs.YtenlbhlllgppmaaGreatDoor
open Go.RowKit
def vf (a:Nat→Nat):Nat→Nat
 | 0=>0
 | n+1=>vf a n+4294967296 ^ n*a n
def shf (a:Nat→Nat) (m:Nat):Nat→Nat:=fun i=>a (m+i)
def upd (a:Nat→Nat) (k d:Nat):Nat→Nat:=fun j=>if j=k then d else a j
theorem vf_congr {a b:Nat→Nat} {n:Nat} (h:∀ i,i<n→a i=b i):vf a n=vf b n:=by
 induction n with
 | zero=>rfl
 | succ n ih=>rw[vf,vf,ih (fun i hi=>h i (by omega)),h n (by omega)]
theorem pow_succ' (n:Nat):4294967296 ^ (n+1)=4294967296*4294967296 ^ n:=by rw[Nat.pow_succ,Nat.mul_comm]
theorem vf_lt {a:Nat→Nat} {n:Nat} (h:∀ i,i<n→a i<4294967296):vf a n<4294967296 ^ n:=by
 induction n with
 | zero=>simp[vf]
 | succ n ih=>
  rw[vf,pow_succ']
  have h1:=ih (fun i hi=>h i (by omega))
  have h2:=Nat.mul_le_mul_left (4294967296 ^ n) (show a n≤4294967295 from by have:=h n (by omega);omega)
  rw[Nat.mul_comm _ 4294967295]at h2
  generalize 4294967296 ^ n*a n=y at *
  generalize 4294967296 ^ n=x at *
  omega
theorem vf_head (a:Nat→Nat) (n:Nat):vf a (n+1)=a 0+4294967296*vf (shf a 1) n:=by
 induction n with
 | zero=>simp[vf]
 | succ n ih=>
  rw[vf,ih,vf,pow_succ',Nat.mul_assoc,Nat.mul_add,show shf a 1 n=a (n+1)from by simp[shf,Nat.add_comm]]
  omega
theorem vf_split (a:Nat→Nat) (m n:Nat):vf a (m+n)=vf a m+4294967296 ^ m*vf (shf a m) n:=by
 induction n with
 | zero=>simp[vf]
 | succ n ih=>
  rw[← Nat.add_assoc,vf,ih,vf,Nat.pow_add,Nat.mul_add,Nat.mul_assoc,show shf a m n=a (m+n)from rfl]
  omega
theorem vf_zero {a:Nat→Nat} {n:Nat} (h:∀ i,i<n→a i=0):vf a n=0:=by
 induction n with
 | zero=>rfl
 | succ n ih=>rw[vf,ih (fun i hi=>h i (by omega)),h n (by omega)];simp
theorem vf_tail {a:Nat→Nat} {m n:Nat} (hm:m≤n) (h:∀ i,m≤i→i<n→a i=0):vf a n=vf a m:=by
 obtain⟨k,rfl⟩:∃ k,n=m+k:=⟨n - m,by omega⟩
 rw[vf_split,vf_zero (a:=shf a m) (n:=k) (fun i hi=>h (m+i) (by omega) (by omega))]
 simp
theorem vf_upd_ge {a:Nat→Nat} {k d n:Nat} (h:n≤k):vf (upd a k d) n=vf a n:=
 vf_congr fun i hi=>by unfold upd;rw[if_neg (by omega)]
theorem vf_upd {a:Nat→Nat} {k d n:Nat} (h:k<n):vf (upd a k d) n+4294967296 ^ k*a k=vf a n+4294967296 ^ k*d:=by
 induction n with
 | zero=>omega
 | succ n ih=>
  rw[vf,vf]
  by_cases hk:k=n
  ·subst hk
   rw[vf_upd_ge (Nat.le_refl _),show upd a k d k=d from by simp[upd]]
   omega
  ·have h1:=ih (by omega)
   rw[show upd a k d n=a n from by unfold upd;rw[if_neg (by omega)]]
   omega
theorem vf_inj {a b:Nat→Nat} {n:Nat} (ha:∀ i,i<n→a i<4294967296) (hb:∀ i,i<n→b i<4294967296) (h:vf a n=vf b n):∀ i,i<n→a i=b i:=by
 induction n generalizing a b with
 | zero=>intro i hi;omega
 | succ n ih=>
  rw[vf_head,vf_head]at h
  have h0:=ha 0 (by omega)
  have h1:=hb 0 (by omega)
  have h2:=ih (a:=shf a 1) (b:=shf b 1) (fun i hi=>ha (1+i) (by omega)) (fun i hi=>hb (1+i) (by omega)) (by omega)
  intro i hi
  cases i with
  | zero=>omega
  | succ i=>have:=h2 i (by omega);unfold shf at this;rwa [Nat.add_comm]at this
def nd (v:Nat):Nat:=(Dig.dig v).length
def dg (v:Nat) (i:Nat):Nat:=v / 4294967296 ^ i % 4294967296
theorem dg_lt (v i:Nat):dg v i<4294967296:=Nat.mod_lt _ (by omega)
theorem nd_le {v k:Nat}:nd v≤k↔v<4294967296 ^ k:=Dig.dig_lt
theorem nd_mono {a b:Nat} (h:a≤b):nd a≤nd b:=Dig.dig_mono h
theorem nd_add (a b:Nat):nd (a+b)≤max (nd a) (nd b)+1:=Dig.dig_add_len a b
theorem nd_mul (a b:Nat):nd (a*b)≤nd a+nd b:=Dig.dig_mul_len a b
theorem nd_zero:nd 0=0:=rfl
theorem nd_pos {v:Nat}:0<nd v↔v≠0:=Dig.dig_length_pos
theorem nd_top {v:Nat} (h:v≠0):4294967296 ^ (nd v - 1)≤v:=Dig.dig_top h
theorem vf_dg_mod (v n:Nat):vf (dg v) n=v % 4294967296 ^ n:=by
 induction n with
 | zero=>simp[vf,Nat.mod_one]
 | succ n ih=>rw[vf,ih,Nat.pow_succ,Nat.mod_mul];rfl
theorem vf_dg {v n:Nat} (h:v<4294967296 ^ n):vf (dg v) n=v:=by rw[vf_dg_mod,Nat.mod_eq_of_lt h]
theorem vf_nd (v:Nat):vf (dg v) (nd v)=v:=vf_dg (nd_le.1 (Nat.le_refl _))
theorem dg_vf {a:Nat→Nat} {n:Nat} (ha:∀ i,i<n→a i<4294967296):∀ i,i<n→a i=dg (vf a n) i:=
 vf_inj ha (fun i _=>dg_lt _ i) (vf_dg (vf_lt ha)).symm
theorem nd_vf {a:Nat→Nat} {n:Nat} (ha:∀ i,i<n→a i<4294967296) (h:n=0∨a (n - 1)≠0):nd (vf a n)=n:=by
 have h1:nd (vf a n)≤n:=nd_le.2 (vf_lt ha)
 rcases h with rfl|h
 ·rfl
 ·rcases Nat.lt_or_ge (nd (vf a n)) n with h2|h2
  ·exfalso
   obtain⟨m,rfl⟩:∃ m,n=m+1:=⟨n - 1,by omega⟩
   have h3:=nd_le.1 (show nd (vf a (m+1))≤m from by omega)
   rw[vf]at h3
   simp only[Nat.add_sub_cancel]at h
   have h4:=Nat.mul_le_mul_left (4294967296 ^ m) (show 1≤a m from by omega)
   omega
  ·omega
structure Dg (w:World) (p:Option Addr) (c n:Nat) (a:Nat→Nat):Prop where
 cap:n≤c
 lt:∀ j,j<n→a j<4294967296
 at':n=0∨∃ g o,p=some ⟨g,o,none⟩∧g<w.heap.size∧∀ j,j<n→w.cell? ⟨g,o+j,none⟩=some (.int .u32 (a j))
def Nm (w:World) (p:Option Addr) (c v:Nat):Prop:=Dg w p c (nd v) (dg v)
theorem Dg.keep {w w':World} {p:Option Addr} {c n:Nat} {a:Nat→Nat} (h:Dg w p c n a) (hb:Below w.heap.size w w'):Dg w' p c n a:=
 ⟨h.cap,h.lt,by
  rcases h.at' with h1 |⟨g,o,e,hg,hc⟩
  ·exact .inl h1
  ·exact .inr ⟨g,o,e,Nat.lt_of_lt_of_le hg hb.size,fun j hj=>(hb.cell (p:=⟨g,o+j,none⟩) hg).trans (hc j hj)⟩⟩
theorem Dg.below {B:Nat} {w w':World} {g o c n:Nat} {a:Nat→Nat} (h:Dg w (some ⟨g,o,none⟩) c n a) (hb:Below B w w') (hg:g<B):Dg w' (some ⟨g,o,none⟩) c n a:=
 ⟨h.cap,h.lt,by
  rcases h.at' with h1 |⟨g',o',e,hg',hc⟩
  ·exact .inl h1
  ·injection e with e;injection e with e1 e2;subst e1;subst e2
   exact .inr ⟨g,o,rfl,Nat.lt_of_lt_of_le hg' hb.size,fun j hj=>(hb.cell (p:=⟨g,o+j,none⟩) hg).trans (hc j hj)⟩⟩
theorem Dg.congr {w:World} {p:Option Addr} {c n:Nat} {a b:Nat→Nat} (h:Dg w p c n a) (e:∀ j,j<n→a j=b j):Dg w p c n b:=
 ⟨h.cap,fun j hj=>by rw[← e j hj];exact h.lt j hj,by
  rcases h.at' with h1 |⟨g,o,e',hg,hc⟩
  ·exact .inl h1
  ·exact .inr ⟨g,o,e',hg,fun j hj=>by rw[← e j hj];exact hc j hj⟩⟩
theorem Dg.take {w:World} {p:Option Addr} {c n:Nat} {a:Nat→Nat} (h:Dg w p c n a) {k:Nat} (hk:k≤n):Dg w p c k a:=
 ⟨by have:=h.cap;omega,fun j hj=>h.lt j (by omega),by
  rcases h.at' with h1 |⟨g,o,e,hg,hc⟩
  ·exact .inl (by omega)
  ·exact .inr ⟨g,o,e,hg,fun j hj=>hc j (by omega)⟩⟩
theorem Dg.head {w:World} {p:Option Addr} {c n:Nat} {a:Nat→Nat} (h:Dg w p c n a) (hn:0<n):∃ g o,p=some ⟨g,o,none⟩∧g<w.heap.size∧∀ j,j<n→w.cell? ⟨g,o+j,none⟩=some (.int .u32 (a j)):=
 h.at'.resolve_left (by omega)
theorem Dg.norm {w:World} {p:Option Addr} {c n:Nat} {a:Nat→Nat} (h:Dg w p c n a) (ht:n=0∨a (n - 1)≠0):nd (vf a n)=n∧Nm w p c (vf a n):=by
 have h1:=nd_vf h.lt ht
 exact⟨h1,by unfold Nm;rw[h1];exact h.congr (dg_vf h.lt)⟩
theorem Nm.keep {w w':World} {p:Option Addr} {c v:Nat} (h:Nm w p c v) (hb:Below w.heap.size w w'):Nm w' p c v:=Dg.keep h hb
theorem Nm.nil (w:World):Nm w none 0 0:=⟨Nat.le_refl _,fun j hj=>absurd hj (by simp[nd_zero]),.inl nd_zero⟩
def Row (w:World) (g n:Nat) (a:Nat→Nat):Prop:=w.rowIs g 200 n (fun i=>.int .u32 (a i))∧∀ j,j<n→a j<4294967296
theorem Row.dg {w:World} {g n:Nat} {a:Nat→Nat} (h:Row w g n a) (c:Nat) (hc:n≤c):Dg w (some ⟨g,0,none⟩) c n a:=
 ⟨hc,h.2,.inr ⟨g,0,rfl,h.1.lt,fun j hj=>by rw[Nat.zero_add];exact h.1.cell hj⟩⟩
theorem Row.set {w:World} {g n:Nat} {a:Nat→Nat} (h:Row w g n a) (k d:Nat) (hd:d<4294967296):Row (w.setCell ⟨g,k,none⟩ (.int .u32 d)) g n (upd a k d):=
 ⟨(h.1.set k _).congr (fun i _=>by unfold upd;split <;> rfl),fun j hj=>by unfold upd;split;exact hd;exact h.2 j hj⟩
theorem Row.made (w:World) (n:Nat):Row (w.alloc (.cells (madeCells #[.int .u32 0] n) 200)) w.heap.size n (fun _=>0):=
 ⟨World.rowIs_made w _ n _,fun _ _=>(by decide:(0:Nat)<4294967296)⟩
theorem Row.below {B:Nat} {w w':World} {g n:Nat} {a:Nat→Nat} (h:Row w g n a) (hb:Below B w w') (hg:g<B):Row w' g n a:=⟨h.1.of_block (hb.block g hg),h.2⟩
theorem Row.congr {w:World} {g n:Nat} {a b:Nat→Nat} (h:Row w g n a) (e:∀ j,j<n→a j=b j):Row w g n b:=
 ⟨h.1.congr (fun i hi=>by rw[e i hi]),fun j hj=>by rw[← e j hj];exact h.2 j hj⟩
theorem Row.alloc (w:World) (cs:Array Value) (n:Nat) (a:Nat→Nat) (hn:cs.size=n) (h:∀ i,i<n→cs[i]?=some (.int .u32 (a i))) (hl:∀ i,i<n→a i<4294967296):Row (w.alloc (.cells cs 200)) w.heap.size n a:=by
 subst hn
 exact⟨World.rowIs_alloc w cs _ _ h,hl⟩
theorem vf_cmp {a b:Nat→Nat} {n i:Nat} (hi:i<n) (ha:∀ j,j<n→a j<4294967296) (h:∀ j,i<j→j<n→a j=b j) (hlt:a i<b i):vf a n<vf b n:=by
 obtain⟨k,rfl⟩:∃ k,n=(i+1)+k:=⟨n - (i+1),by omega⟩
 rw[vf_split,vf_split b,vf_congr (a:=shf a (i+1)) (b:=shf b (i+1)) (n:=k) (fun j hj=>h (i+1+j) (by omega) (by omega)),vf,vf]
 have h1:=vf_lt (a:=a) (n:=i) (fun j hj=>ha j (by omega))
 have h2:=Nat.mul_le_mul_left (4294967296 ^ i) (show a i+1≤b i from hlt)
 rw[Nat.mul_add,Nat.mul_one]at h2
 omega
theorem nd_cmp {u v:Nat} (h:nd u<nd v):u<v:=by
 rcases Nat.lt_or_ge u v with h1|h1
 ·exact h1
 ·have:=nd_mono h1;omega
theorem or64 (y x:Nat) (hy:y<4294967296) (hx:x<4294967296):bits .or .u64 ((y:Int)*4294967296) (x:Int)=((x+4294967296*y:Nat):Int):=by
 rw[show(y:Int)*4294967296=((2 ^ 32*y:Nat):Int)from by omega,bits_or_u64_nat _ _ (by omega) (by omega),← Nat.two_pow_add_eq_or_of_lt (show x<2 ^ 32 from hx)]
 omega
def RetD (w':World) (e:Ending) (k t:Nat):Prop:=∃ p c r,e=.returned (.slice p k c)∧Dg w' p c k r∧vf r k=t
def RetN (w':World) (e:Ending) (v:Nat):Prop:=∃ p c,e=.returned (.slice p (nd v) c)∧Nm w' p c v
theorem u32Info:(Tryz.prog.info? 200).map (fun i=>(i.zero,i.size,i.bytes))=some (some (.int .u32 0),1,4):=by kernel_rfl
theorem make32 (n:Nat) (h:n≤70368744177664) (w:World):
  (Instr.makeSlice 82 (.int .i64 (n:Int)) (.int .i64 (n:Int))).run Tryz.prog w=.ok (.slice (some ⟨w.heap.size,0,none⟩) n n) (w.alloc (.cells (madeCells #[.int .u32 0] n) 200)):=
 run_make_row' 82 200 (.int .u32 0) 4 Tryz.underlying82 u32Info rfl .i64 .i64 n (by omega) (by omega) w
theorem c_trimmed (p:Option Addr) (c n:Nat) (a:Nat→Nat) (w:World) (h:Dg w p c n a) (hn:n≤70368744177664):
  Calls Tryz.prog 129 #[.slice p n c] w fun e w'=>(e=.returned (.slice p (nd (vf a n)) c)∧Nm w p c (vf a n))∧w'=w:=by
 have H:=Kh h
 have hcap:=h.cap
 clear h
 go_enter Tryz.func129,Tryz.ntmps129
 go_wp2
 go_loop [0] (fun m=>∃ k:Nat,m=.slice p k c∧k≤n∧vf a k=vf a n) (fun m=>(match m with |.slice _ k _=>k|_=>0))
 case atStart=>exact⟨n,rfl,Nat.le_refl _,rfl⟩
 case round=>
  obtain⟨k,rfl,hk,hv⟩:=hrel
  have HV:=Kh hv
  clear hv
  by_cases h0:k=0
  ·subst h0
   have hd:=(H.out.take hk).norm (.inl rfl)
   rw[HV.out]at hd
   have HD:=Kh hd
   clear hd
   go_wp2
   go_ret
   exact⟨⟨by rw[HD.out.1];rfl,HD.out.2⟩,rfl⟩
  ·have hk0:0<k:=by omega
   obtain⟨g,o,rfl,hg,hc⟩:=H.out.head (by omega)
   have c1:=hc (k - 1) (by omega)
   have e1:((k:Int) - 1).toNat=k - 1:=by omega
   clear hc
   by_cases hz:a (k - 1)=0
   ·have HZ:=Kh hz
    rw[hz]at c1
    clear hz
    go_wp2
    go_round
    case rel=>exact⟨k - 1,rfl,by omega,by
     rw[← HV.out];obtain⟨m,rfl⟩:∃ m,k=m+1:=⟨k - 1,by omega⟩
     rw[vf];have:=HZ.out;simp only[Nat.add_sub_cancel]at this ⊢;rw[this];simp⟩
    case measure=>simp only;omega
   ·have hd:=(H.out.take hk).norm (.inr hz)
    rw[HV.out]at hd
    have HD:=Kh hd
    have hzz:(((a (k - 1):Nat):Int)==0)=false:=beq_eq_false_iff_ne.2 (by omega)
    clear hd hz
    go_wp2
    go_ret
    exact⟨⟨by rw[HD.out.1];rfl,HD.out.2⟩,rfl⟩
theorem c_sign (n:Int) (w:World):
  Calls Tryz.prog 202 #[.int .i64 n] w fun e w'=>e=.returned (.int .i64 (Int.sign n))∧w'=w:=by
 go_enter Tryz.func202,Tryz.ntmps202
 go_wp2
 all_goals go_ret
 all_goals refine⟨ret_i ?_,rfl⟩
 all_goals try simp only[decide_eq_true_eq,decide_eq_false_iff_not,Int.not_lt]at *
 all_goals first|exact(Int.sign_eq_neg_one_of_neg (by omega)).symm|exact(Int.sign_eq_one_of_pos (by omega)).symm |(rw[show n=0 from by omega];rfl)
theorem nd_one {v:Nat} (h0:v≠0) (h:v<4294967296):nd v=1:=by
 have h1:=nd_pos.2 h0
 have h2:=(nd_le (v:=v) (k:=1)).2 (by omega)
 omega
theorem nd_two {v:Nat} (h0:4294967296≤v) (h:v<18446744073709551616):nd v=2:=by
 have h2:=(nd_le (v:=v) (k:=2)).2 (by omega)
 have h3:¬ nd v≤1:=fun h4=>by have:=nd_le.1 h4;omega
 omega
theorem c_wide (v:Nat) (w:World) (hv:v<18446744073709551616):
  Calls Tryz.prog 132 #[.int .u64 v] w fun e w'=>RetN w' e v∧Below w.heap.size w w':=by
 go_enter Tryz.func132,Tryz.ntmps132
 by_cases h0:v=0
 ·subst h0
  go_wp2
  go_ret
  exact⟨⟨none,0,rfl,Nm.nil _⟩,Below.refl _ _⟩
 ·have h0b:((v:Int)==0)=false:=beq_eq_false_iff_ne.2 (by omega)
  have hvi:(v:Int)<18446744073709551616:=by omega
  have H0:=Kh h0
  have HV:=Kh hv
  by_cases h1:(v:Int)<4294967296
  ·have em:(v:Int) % 4294967296=v:=by omega
   clear hv h0
   go_wp2
   go_ret
   have hn:=nd_one H0.out (by omega)
   refine⟨⟨_,1,by rw[hn];rfl,?_⟩,(Below.refl _ _).alloc (Nat.le_refl _) _⟩
   unfold Nm
   rw[hn]
   refine(Row.alloc w _ 1 (dg v) rfl (fun i hi=>?_) (fun i _=>dg_lt v i)).dg 1 (Nat.le_refl _)
   obtain rfl:i=0:=by omega
   simp[dg];omega
  ·clear hv h0
   go_wp2
   go_ret
   have hn:=nd_two (by omega) HV.out
   refine⟨⟨_,2,by rw[hn];rfl,?_⟩,(Below.refl _ _).alloc (Nat.le_refl _) _⟩
   unfold Nm
   rw[hn]
   refine(Row.alloc w _ 2 (dg v) rfl (fun i hi=>?_) (fun i _=>dg_lt v i)).dg 2 (Nat.le_refl _)
   rcases Nat.lt_or_ge i 1 with h2|h2
   ·obtain rfl:i=0:=by omega
    simp[dg]
   ·obtain rfl:i=1:=by omega
    simp[dg];omega
theorem c_word (p:Option Addr) (c n:Nat) (a:Nat→Nat) (w:World) (h:Dg w p c n a) (hn:n≤2):
  Calls Tryz.prog 204 #[.slice p n c] w fun e w'=>e=.returned (.int .u64 (vf a n:Nat))∧∃ k,w'=w.drewN k:=by
 by_cases h0:n=0
 ·subst h0
  go_enter Tryz.func204,Tryz.ntmps204
  go_wp2
  go_ret
  exact⟨rfl,0,rfl⟩
 ·obtain⟨g,o,rfl,hg,hc⟩:=h.head (by omega)
  have l0:=h.lt 0 (by omega)
  have c0:=hc 0 (by omega)
  obtain⟨x,hx⟩:∃ x,a 0=x:=⟨_,rfl⟩
  rw[hx]at l0 c0
  rw[Nat.add_zero]at c0
  have hxi:(x:Int)<4294967296:=by omega
  by_cases h1:n=1
  ·subst h1
   have hv:vf a 1=x:=by simp[vf,hx]
   have HV:=Kh hv
   clear hc h hx l0 hv
   go_enter Tryz.func204,Tryz.ntmps204
   go_wp2
   go_ret
   exact⟨ret_i (by rw[HV.out]),0,rfl⟩
  ·obtain rfl:n=2:=by omega
   have l1:=h.lt 1 (by omega)
   have c1:=hc 1 (by omega)
   obtain⟨y,hy⟩:∃ y,a 1=y:=⟨_,rfl⟩
   rw[hy]at l1 c1
   have hyi:(y:Int)<4294967296:=by omega
   have hv:vf a 2=x+4294967296*y:=by simp[vf,hx,hy]
   have HV:=Kh hv
   clear hc h hx hy l0 l1 hv
   go_enter Tryz.func204,Tryz.ntmps204
   go_wp2
   go_quiet (fail)
   go_wp2
   go_ret
   exact⟨ret_i (by rw[HV.out];exact or64 _ _ (by omega) (by omega)),nq,rfl⟩
theorem cmp_lt {u v:Nat} (h:u<v):Int.sign ((u:Int) - v)=-1:=Int.sign_eq_neg_one_of_neg (by omega)
theorem cmp_gt {u v:Nat} (h:v<u):Int.sign ((u:Int) - v)=1:=Int.sign_eq_one_of_pos (by omega)
theorem cmp_nd {u v:Nat} (h:nd u≠nd v):Int.sign ((nd u:Int) - nd v)=Int.sign ((u:Int) - v):=by
 rcases Nat.lt_or_gt_of_ne h with h1|h1
 ·rw[cmp_lt h1,cmp_lt (nd_cmp h1)]
 ·rw[cmp_gt h1,cmp_gt (nd_cmp h1)]
theorem c_cmpEq (p:Option Addr) (c:Nat) (q:Option Addr) (d n:Nat) (a b:Nat→Nat) (s:Int) (w:World) (h1:Dg w p c n a) (h2:Dg w q d n b) (hn:n≤70368744177664) (hs:Int.sign ((vf a n:Int) - (vf b n:Nat))=s):
  Calls Tryz.prog 167 #[.slice p n c,.slice q n d] w fun e w'=>e=.returned (.int .i64 s)∧∃ k,w'=w.drewN k:=by
 have H1:=Kh h1
 have H2:=Kh h2
 have HS:=Kh hs
 clear h1 h2 hs
 go_enter Tryz.func167,Tryz.ntmps167
 go_wp2
 go_loopw [5] (fun i wr=>∃ k:Nat,k≤n∧i=.int .i64 ((k:Int) - 1)∧(∀ j,k≤j→j<n→a j=b j)∧∃ m,wr=w.drewN m) (fun i _=>(intOf i+1).toNat)
 case atStart=>exact⟨n,Nat.le_refl _,by go_num,fun j h1 h2=>by omega,0,rfl⟩
 case round=>
  obtain⟨k,hk,rfl,heq,mr,rfl⟩:=hrel
  have HE:=Kh heq
  clear heq
  by_cases h0:k=0
  ·subst h0
   go_wp2
   go_ret
   refine⟨ret_i ?_,mr,rfl⟩
   rw[← HS.out,vf_congr fun i hi=>HE.out i (by omega) hi];simp
  ·have hk0:0<k:=by omega
   obtain⟨g1,o1,rfl,hg1,hc1⟩:=H1.out.head (by omega)
   obtain⟨g2,o2,rfl,hg2,hc2⟩:=H2.out.head (by omega)
   have c1:=hc1 (k - 1) (by omega)
   have c2:=hc2 (k - 1) (by omega)
   have e1:((k:Int) - 1).toNat=k - 1:=by omega
   have hki:(1:Int)≤(k:Int):=by omega
   obtain⟨x,hx⟩:∃ x,a (k - 1)=x:=⟨_,rfl⟩
   obtain⟨y,hy⟩:∃ y,b (k - 1)=y:=⟨_,rfl⟩
   rw[hx]at c1
   rw[hy]at c2
   have HX:=Kh hx
   have HY:=Kh hy
   clear hc1 hc2 hx hy
   by_cases hxy:x=y
   ·subst hxy
    go_wp2
    go_quiet (fail)
    go_wp2
    go_roundw
    case rel=>exact⟨k - 1,by omega,by go_num,fun j h1 h2=>by
     rcases Nat.lt_or_ge j k with h3|h3
     ·rw[show j=k - 1 from by omega,HX.out,HY.out]
     ·exact HE.out j h3 h2,_,rfl⟩
    case measure=>simp[intOf];omega
   ·have hxyb:((x:Int) !=(y:Int))=true:=by rw[bne_iff_ne];omega
    have HL:=Kh hxy
    clear hxy
    by_cases hlt:(x:Int)<(y:Int)
    ·have hv:=vf_cmp (a:=a) (b:=b) (n:=n) (i:=k - 1) (by omega) H1.out.lt (fun j h1 h2=>HE.out j (by omega) h2) (by rw[HX.out,HY.out];omega)
     have hsv:=cmp_lt hv
     rw[HS.out]at hsv
     have HSV:=Kh hsv
     clear hv hsv
     go_wp2
     go_quiet (fail)
     go_wp2
     go_quiet (fail)
     go_wp2
     go_ret
     exact⟨ret_i HSV.out.symm,_,by rw[dr2,dr2]⟩
    ·have hv:=vf_cmp (a:=b) (b:=a) (n:=n) (i:=k - 1) (by omega) H2.out.lt (fun j h1 h2=>(HE.out j (by omega) h2).symm) (by rw[HX.out,HY.out];have:=HL.out;omega)
     have hsv:=cmp_gt hv
     rw[HS.out]at hsv
     have HSV:=Kh hsv
     clear hv hsv
     go_wp2
     go_quiet (fail)
     go_wp2
     go_quiet (fail)
     go_wp2
     go_ret
     exact⟨ret_i HSV.out.symm,_,by rw[dr2,dr2]⟩
theorem c_compare (p:Option Addr) (c u:Nat) (q:Option Addr) (d v:Nat) (w:World) (h:Nm w p c u) (h':Nm w q d v) (hu:nd u≤70368744177664) (hv:nd v≤70368744177664):
  Calls Tryz.prog 167 #[.slice p (nd u) c,.slice q (nd v) d] w fun e w'=>e=.returned (.int .i64 (Int.sign ((u:Int) - v)))∧∃ k,w'=w.drewN k:=by
 by_cases hne:nd v=nd u
 ·have h2:Dg w q d (nd u) (dg v):=by rw[← hne];exact h'
  have hvv:vf (dg v) (nd u)=v:=by rw[← hne];exact vf_nd v
  rw[hne]
  exact c_cmpEq p c q d (nd u) (dg u) (dg v) _ w h h2 hu (by rw[vf_nd,hvv])
 ·have hs:=cmp_nd (Ne.symm hne)
  have hneb:((nd u:Int) !=(nd v:Int))=true:=by rw[bne_iff_ne];omega
  generalize Int.sign ((u:Int) - v)=s at *
  generalize nd u=n at *
  generalize nd v=m at *
  have HS:=Kh hs
  clear h h' hs hne
  go_enter Tryz.func167,Tryz.ntmps167
  go_wp2_with (go_at_call 202;refine(c_sign _ _).mono ?_;rw[HS.out];rintro e w' ⟨rfl,rfl⟩)
  go_ret
  exact⟨rfl,0,rfl⟩
theorem c_Add32 (x y z:Nat) (w:World) (hx:(x:Int)<4294967296) (hy:(y:Int)<4294967296) (hz:(z:Int)<4294967296):
  Calls Tryz.prog 201 #[.int .u32 x,.int .u32 y,.int .u32 z] w fun e w'=>e=.returned (.tuple #[.int .u32 ((x+y+z) % 4294967296:Nat),.int .u32 ((x+y+z) / 4294967296:Nat)])∧w'=w:=by
 have em:((x:Int)+(y:Int)+(z:Int)) / 4294967296 % 4294967296=((x:Int)+(y:Int)+(z:Int)) / 4294967296:=by omega
 go_enter Tryz.func201,Tryz.ntmps201
 go_wp2
 go_ret2
 exact⟨by simp,rfl⟩
theorem top_bit (n:Nat) (h:n<4294967296):n / 2147483648=if n.testBit 31 then 1 else 0:=by
 rw[Nat.testBit_eq_decide_div_mod_eq]
 have e:(2:Nat) ^ 31=2147483648:=by decide
 rw[e]
 simp only[decide_eq_true_eq]
 split <;> omega
theorem bit_top (n:Nat) (h:n<4294967296):n.testBit 31=decide (2147483648≤n):=by
 rw[Nat.testBit_eq_decide_div_mod_eq]
 have e:(2:Nat) ^ 31=2147483648:=by decide
 rw[e]
 rw[decide_eq_decide]
 omega
theorem borrowN (x y z d:Nat) (hx:x<4294967296) (hy:y<4294967296) (hz:z≤1) (hd:(d:Int)=((x:Int) - y - z) % 4294967296):
  (((4294967295 ^^^ x) &&& y) |||((4294967295 ^^^ (x ^^^ y)) &&& d)) / 2147483648=if x<y+z then 1 else 0:=by
 have hd2:d<4294967296:=by omega
 have e:(4294967296:Nat)=2 ^ 32:=by decide
 have h1:((4294967295 ^^^ x) &&& y)<2 ^ 32:=Nat.and_lt_two_pow _ (by omega)
 have h2:((4294967295 ^^^ (x ^^^ y)) &&& d)<2 ^ 32:=Nat.and_lt_two_pow _ (by omega)
 have h3:=Nat.or_lt_two_pow h1 h2
 rw[top_bit _ (by omega),Nat.testBit_or,Nat.testBit_and,Nat.testBit_and,Nat.testBit_xor,Nat.testBit_xor,Nat.testBit_xor,bit_top x hx,bit_top y hy,bit_top d hd2,show(4294967295:Nat).testBit 31=true from by decide]
 clear h1 h2 h3 e
 by_cases a1:2147483648≤x <;> by_cases a2:2147483648≤y <;> by_cases a3:2147483648≤d <;> simp only[a1,a2,a3,decide_true,decide_false,Bool.xor_true,Bool.xor_false,Bool.not_true,Bool.not_false,Bool.and_true,Bool.and_false,Bool.or_true,Bool.or_false,if_true,Bool.false_eq_true,if_false] <;> split <;> first|rfl |(exfalso;omega)|omega
theorem borrowI (x y z:Nat) (hx:x<4294967296) (hy:y<4294967296) (hz:z≤1):
  bits .or .u32 (bits .and .u32 (bits .xor .u32 (if IntKind.u32.signed=true then -1 else IntKind.u32.max) (x:Int)) (y:Int)) (bits .and .u32 (bits .xor .u32 (if IntKind.u32.signed=true then -1 else IntKind.u32.max) (bits .xor .u32 (x:Int) (y:Int))) (((x:Int) - y - z) % 4294967296)) / 2147483648=if x<y+z then 1 else 0:=by
 obtain⟨d,hd⟩:∃ d:Nat,(d:Int)=((x:Int) - y - z) % 4294967296:=⟨(((x:Int) - y - z) % 4294967296).toNat,by omega⟩
 have e1:(if IntKind.u32.signed=true then(-1:Int)else IntKind.u32.max)=((4294967295:Nat):Int):=by decide
 have e:(4294967296:Nat)=2 ^ 32:=by decide
 have h1:x ^^^ y<4294967296:=by rw[e];exact Nat.xor_lt_two_pow (by omega) (by omega)
 have h2:4294967295 ^^^ x<4294967296:=by rw[e];exact Nat.xor_lt_two_pow (by omega) (by omega)
 have h3:4294967295 ^^^ (x ^^^ y)<4294967296:=by rw[e];exact Nat.xor_lt_two_pow (by omega) (by omega)
 have h4:(4294967295 ^^^ x) &&& y<4294967296:=by rw[e];exact Nat.and_lt_two_pow _ (by omega)
 have h5:(4294967295 ^^^ (x ^^^ y)) &&& d<4294967296:=by rw[e];exact Nat.and_lt_two_pow _ (by omega)
 rw[← hd,e1,u32_xor_nat _ _ (by omega) hx,u32_xor_nat _ _ hx hy,u32_xor_nat _ _ (by omega) h1,u32_and_nat _ _ h2 hy,u32_and_nat _ _ h3 (by omega),u32_or_nat _ _ h4 h5]
 have:=borrowN x y z d hx hy hz hd
 have e2:=congrArg (Int.ofNat) this
 split at e2
 ·rename_i hh;rw[if_pos hh];simpa using e2
 ·rename_i hh;rw[if_neg hh];simpa using e2
theorem c_Sub32 (x y z:Nat) (w:World) (hx:(x:Int)<4294967296) (hy:(y:Int)<4294967296) (hz:(z:Int)≤1):
  Calls Tryz.prog 203 #[.int .u32 x,.int .u32 y,.int .u32 z] w fun e w'=>e=.returned (.tuple #[.int .u32 (((x:Int) - y - z) % 4294967296),.int .u32 (if x<y+z then 1 else 0)])∧w'=w:=by
 have hb:=borrowI x y z (by omega) (by omega) (by omega)
 obtain⟨b,hbb⟩:∃ b:Int,(if x<y+z then(1:Int)else 0)=b:=⟨_,rfl⟩
 rw[hbb]at hb ⊢
 have HB:=Kh hb
 have e1:((((x:Int) - y) % 4294967296 - z) % 4294967296)=((x:Int) - y - z) % 4294967296:=by omega
 clear hb hbb
 go_enter Tryz.func203,Tryz.ntmps203
 go_wp
 go_ret2
 refine⟨?_,rfl⟩
 rw[← HB.out]
 first|rfl |(rw[← e1];rfl) |(simp[e1];done)
def ext (b:Nat→Nat) (m:Nat):Nat→Nat:=fun j=>if j<m then b j else 0
theorem ext_vf (b:Nat→Nat) {m n:Nat} (h:m≤n):vf (ext b m) n=vf b m:=by
 rw[vf_tail h (fun i h1 _=>by unfold ext;rw[if_neg (by omega)])]
 exact vf_congr fun i hi=>by unfold ext;rw[if_pos hi]
def PlusAt (w:World) (g:Nat) (n1 i:Nat) (t:Nat) (cy:Nat):Prop:=∃ r,Row w g n1 r∧vf r i+4294967296 ^ i*cy=t
theorem plus_step {w:World} {g n1 i cy x y s cz:Nat} {a b r:Nat→Nat} (hrow:Row w g n1 r) (hval:vf r i+4294967296 ^ i*cy=vf a i+vf b i) (hx:a i=x) (hy:b i=y) (hs:(x+y+cy) % 4294967296=s) (hcz:(x+y+cy) / 4294967296=cz):
  PlusAt (w.setCell ⟨g,i,none⟩ (.int .u32 s)) g n1 (i+1) (vf a (i+1)+vf b (i+1)) cz:=by
 refine⟨_,hrow.set i s (by omega),?_⟩
 rw[vf,vf,vf,vf_upd_ge (Nat.le_refl _),show upd r i s i=s from by simp[upd],pow_succ',hx,hy]
 have h:x+y+cy=s+4294967296*cz:=by omega
 have h2:=congrArg (4294967296 ^ i * ·) h
 simp only[Nat.mul_add]at h2
 rw[Nat.mul_left_comm]at h2
 rw[Nat.mul_assoc]
 omega
theorem c_plus (p:Option Addr) (c n:Nat) (a:Nat→Nat) (q:Option Addr) (d m:Nat) (b:Nat→Nat) (w:World) (h1:Dg w p c n a) (h2:Dg w q d m b) (hn:n≤70368744177660) (hm:m≤70368744177660):
  Calls Tryz.prog 166 #[.slice p n c,.slice q m d] w fun e w'=>RetD w' e (max n m+1) (vf a n+vf b m)∧Below w.heap.size w w':=by
 obtain⟨T,hT⟩:∃ T,vf a n+vf b m=T:=⟨_,rfl⟩
 obtain⟨M,hM⟩:∃ M,max n m+1=M:=⟨_,rfl⟩
 rw[hT,hM]
 have H1:=Kh h1
 have H2:=Kh h2
 have HT:=Kh hT
 have HM:=Kh hM
 clear h1 h2 hT hM
 go_enter Tryz.func166,Tryz.ntmps166
 go_upto_if 14 with(fail)
 go_cut [0,1] (fun v0 v1 wc=>wc=w∧∃ p c n a q d m b,v0=.slice p n c∧v1=.slice q m d∧Dg w p c n a∧Dg w q d m b∧m≤n∧n≤70368744177660∧vf a n+vf b m=T∧n+1=M)
 case first=>
  by_cases hlt:(n:Int)<(m:Int)
  ·have hx:m+1=M:=by have:=HM.out;omega
   have HX:=Kh hx
   clear hx
   go_wp2
   go_meet
   case rel=>exact⟨rfl,q,d,m,b,p,c,n,a,rfl,rfl,H2.out,H1.out,by omega,by omega,by rw[Nat.add_comm];exact HT.out,HX.out⟩
  ·have hx:n+1=M:=by have:=HM.out;omega
   have HX:=Kh hx
   clear hx
   go_wp2
   go_meet
   case rel=>exact⟨rfl,p,c,n,a,q,d,m,b,rfl,rfl,H1.out,H2.out,by omega,by omega,HT.out,HX.out⟩
 case rest=>
  clear H1 H2 HT HM hn hm p c n a q d m b
  obtain⟨rfl,p,c,n,a,q,d,m,b,rfl,rfl,h1,h2,hmn,hn,hT,hM⟩:=hcut
  have hmk:∀ w,(Instr.makeSlice 82 (.int .i64 ((n:Int)+1)) (.int .i64 ((n:Int)+1))).run Tryz.prog w=.ok (.slice (some ⟨w.heap.size,0,none⟩) (n+1) (n+1)) (w.alloc (.cells (madeCells #[.int .u32 0] (n+1)) 200)):=make32 (n+1) (by omega)
  obtain⟨B,hB⟩:∃ B,B=wc.heap.size:=⟨_,rfl⟩
  have hrow:=Row.made wc (n+1)
  have H1:=Kh h1
  have H2:=Kh h2
  have HT:=Kh hT
  have HM:=Kh hM
  have HR:=Kh hrow
  clear h1 h2 hT hM hrow
  go_wp2
  obtain⟨wb,hwb⟩:∃ wb,wc.alloc (.cells (madeCells #[.int .u32 0] (n+1)) 200)=wb:=⟨_,rfl⟩
  rw[hwb]
  have hbel:Below wc.heap.size wc wb:=by rw[← hwb];exact(Below.refl _ _).alloc (Nat.le_refl _) _
  rw[hwb]at HR
  have HB0:=Kh hbel
  clear hwb hbel
  go_loopw [6,23] (fun v6 v23 wr=>∃ i cy:Nat,i≤n∧v6=.int .u32 cy∧v23=.int .i64 i∧(cy:Int)≤1∧PlusAt wr wc.heap.size (n+1) i (vf a i+vf (ext b m) i) cy∧Below wc.heap.size wc wr) (fun _ v23 _=>n - (intOf v23).toNat)
  case atStart=>exact⟨0,0,Nat.zero_le _,rfl,rfl,by decide,⟨_,HR.out,rfl⟩,HB0.out⟩
  case round=>
   obtain⟨i,cy,hi,rfl,rfl,hcy,⟨r,hrow,hval⟩,hb⟩:=hrel
   have HB:=Kh hb
   clear hb
   have hst:∃ u,wr.cell? ⟨wc.heap.size,i,none⟩=some u:=⟨_,hrow.1.cell (by omega)⟩
   obtain⟨u,hst⟩:=hst
   have hfz:wr.frozen? ⟨wc.heap.size,i,none⟩=false:=hrow.1.frozen i
   by_cases hlt:(i:Int)<(n:Int)
   ·obtain⟨g1,o1,rfl,hg1,hc1⟩:=H1.out.head (by omega)
    have c1:wr.cell? ⟨g1,o1+i,none⟩=_:=(HB.out.cell (p:=⟨g1,o1+i,none⟩) hg1).trans (hc1 i (by omega))
    have hxl:((a i:Nat):Int)<4294967296:=by have:=H1.out.lt i (by omega);omega
    obtain⟨x,hx⟩:∃ x,a i=x:=⟨_,rfl⟩
    rw[hx]at c1 hxl
    clear hc1
    by_cases hmi:(i:Int)<(m:Int)
    ·obtain⟨g2,o2,rfl,hg2,hc2⟩:=H2.out.head (by omega)
     have c2:wr.cell? ⟨g2,o2+i,none⟩=_:=(HB.out.cell (p:=⟨g2,o2+i,none⟩) hg2).trans (hc2 i (by omega))
     have hyl:((b i:Nat):Int)<4294967296:=by have:=H2.out.lt i (by omega);omega
     obtain⟨y,hyb⟩:∃ y,b i=y:=⟨_,rfl⟩
     have hy:ext b m i=y:=by unfold ext;rw[if_pos (by omega)];exact hyb
     rw[hyb]at c2 hyl
     clear hc2 hyb
     have HC:=c_Add32 x y cy wr (by omega) (by omega) (by omega)
     obtain⟨s,hs⟩:∃ s,(x+y+cy) % 4294967296=s:=⟨_,rfl⟩
     obtain⟨cz,hcz⟩:∃ cz,(x+y+cy) / 4294967296=cz:=⟨_,rfl⟩
     rw[hs,hcz]at HC
     have hsl:(s:Int)<4294967296:=by omega
     have hcl:(cz:Int)≤1:=by omega
     have hnew:=plus_step hrow hval hx hy hs hcz
     have HN:=Kh hnew
     have HC:=Kh HC
     clear hnew hs hcz hx hy hval hrow
     go_wp2_with (go_at_call 201;refine HC.out.mono ?_;rintro e w' ⟨rfl,rfl⟩)
     go_roundw
     case rel=>exact⟨i+1,cz,by omega,rfl,by go_num,hcl,HN.out,HB.out.setCell (Nat.le_refl _) _⟩
     case measure=>simp[intOf];omega
    ·obtain⟨y,hyb⟩:∃ y:Nat,0=y:=⟨_,rfl⟩
     have hy:ext b m i=y:=by unfold ext;rw[if_neg (by omega)];exact hyb
     subst hyb
     have hyl:((0:Nat):Int)<4294967296:=by decide
     have HC:=c_Add32 x 0 cy wr (by omega) (by omega) (by omega)
     obtain⟨s,hs⟩:∃ s,(x+0+cy) % 4294967296=s:=⟨_,rfl⟩
     obtain⟨cz,hcz⟩:∃ cz,(x+0+cy) / 4294967296=cz:=⟨_,rfl⟩
     rw[hs,hcz]at HC
     have hsl:(s:Int)<4294967296:=by omega
     have hcl:(cz:Int)≤1:=by omega
     have hnew:=plus_step hrow hval hx hy hs hcz
     have HN:=Kh hnew
     have HC:=Kh HC
     clear hnew hs hcz hx hy hval hrow
     go_wp2_with (go_at_call 201;refine HC.out.mono ?_;rintro e w' ⟨rfl,rfl⟩)
     go_roundw
     case rel=>exact⟨i+1,cz,by omega,rfl,by go_num,hcl,HN.out,HB.out.setCell (Nat.le_refl _) _⟩
     case measure=>simp[intOf];omega
   ·obtain rfl:i=n:=by omega
    have hfin:Row (wr.setCell ⟨wc.heap.size,i,none⟩ (.int .u32 cy)) wc.heap.size (i+1) (upd r i cy):=hrow.set i cy (by omega)
    have hsum:vf (upd r i cy) (i+1)=T:=by
     rw[vf,vf_upd_ge (Nat.le_refl _),show upd r i cy i=cy from by simp[upd],hval,ext_vf b hmn]
     exact HT.out
    have HF:=Kh hfin
    have HS:=Kh hsum
    have hM:=HM.out
    clear hfin hsum hval hrow hcy
    go_wp2
    go_ret
    exact⟨⟨_,_,_,by rw[← hM];rfl,by rw[← hM];exact HF.out.dg (i+1) (Nat.le_refl _),by rw[← hM];exact HS.out⟩,HB.out.setCell (Nat.le_refl _) _⟩
def LessAt (w:World) (g n i:Nat) (t u:Nat) (cy:Nat):Prop:=∃ r,Row w g n r∧vf r i+u=t+4294967296 ^ i*cy
theorem less_step {w:World} {g n i cy x y:Nat} {s:Nat} {a b r:Nat→Nat} (hrow:Row w g n r) (hval:vf r i+vf b i=vf a i+4294967296 ^ i*cy) (hx:a i=x) (hy:b i=y) (hxl:x<4294967296) (hyl:y<4294967296) (hcy:cy≤1) (hs:(s:Int)=((x:Int) - y - cy) % 4294967296):
  LessAt (w.setCell ⟨g,i,none⟩ (.int .u32 s)) g n (i+1) (vf a (i+1)) (vf b (i+1)) (if x<y+cy then 1 else 0):=by
 refine⟨_,hrow.set i s (by omega),?_⟩
 rw[vf,vf,vf,vf_upd_ge (Nat.le_refl _),show upd r i s i=s from by simp[upd],pow_succ',hx,hy]
 obtain⟨k,hk⟩:∃ k,(if x<y+cy then 1 else 0)=k:=⟨_,rfl⟩
 rw[hk]
 have h:s+y+cy=x+4294967296*k:=by split at hk <;> omega
 have h2:=congrArg (4294967296 ^ i * ·) h
 simp only[Nat.mul_add]at h2
 rw[Nat.mul_left_comm]at h2
 rw[Nat.mul_assoc]
 omega
theorem c_less (p:Option Addr) (c n:Nat) (a:Nat→Nat) (q:Option Addr) (d m:Nat) (b:Nat→Nat) (w:World) (h1:Dg w p c n a) (h2:Dg w q d m b) (hn:n≤70368744177660) (hmn:m≤n) (hle:vf b m≤vf a n):
  Calls Tryz.prog 168 #[.slice p n c,.slice q m d] w fun e w'=>RetD w' e n (vf a n - vf b m)∧Below w.heap.size w w':=by
 have hmk:∀ w,(Instr.makeSlice 82 (.int .i64 (n:Int)) (.int .i64 (n:Int))).run Tryz.prog w=.ok (.slice (some ⟨w.heap.size,0,none⟩) n n) (w.alloc (.cells (madeCells #[.int .u32 0] n) 200)):=make32 n (by omega)
 have hrow:=Row.made w n
 have H1:=Kh h1
 have H2:=Kh h2
 have HR:=Kh hrow
 have HL:=Kh hle
 clear h1 h2 hrow hle
 go_enter Tryz.func168,Tryz.ntmps168
 go_wp2
 obtain⟨wb,hwb⟩:∃ wb,w.alloc (.cells (madeCells #[.int .u32 0] n) 200)=wb:=⟨_,rfl⟩
 rw[hwb]
 have hbel:Below w.heap.size w wb:=by rw[← hwb];exact(Below.refl _ _).alloc (Nat.le_refl _) _
 rw[hwb]at HR
 have HB0:=Kh hbel
 clear hwb hbel
 go_loopw [6,15] (fun v6 v23 wr=>∃ i cy:Nat,i≤n∧v6=.int .u32 cy∧v23=.int .i64 i∧(cy:Int)≤1∧LessAt wr w.heap.size n i (vf a i) (vf (ext b m) i) cy∧Below w.heap.size w wr) (fun _ v23 _=>n - (intOf v23).toNat)
 case atStart=>exact⟨0,0,Nat.zero_le _,rfl,rfl,by decide,⟨_,HR.out,rfl⟩,HB0.out⟩
 case round=>
  obtain⟨i,cy,hi,rfl,rfl,hcy,⟨r,hrow,hval⟩,hb⟩:=hrel
  have HB:=Kh hb
  clear hb
  by_cases hlt:(i:Int)<(n:Int)
  ·have hst:∃ u,wr.cell? ⟨w.heap.size,i,none⟩=some u:=⟨_,hrow.1.cell (by omega)⟩
   obtain⟨u,hst⟩:=hst
   have hfz:wr.frozen? ⟨w.heap.size,i,none⟩=false:=hrow.1.frozen i
   obtain⟨g1,o1,rfl,hg1,hc1⟩:=H1.out.head (by omega)
   have c1:wr.cell? ⟨g1,o1+i,none⟩=_:=(HB.out.cell (p:=⟨g1,o1+i,none⟩) hg1).trans (hc1 i (by omega))
   have hxl:((a i:Nat):Int)<4294967296:=by have:=H1.out.lt i (by omega);omega
   obtain⟨x,hx⟩:∃ x,a i=x:=⟨_,rfl⟩
   rw[hx]at c1 hxl
   clear hc1
   by_cases hmi:(i:Int)<(m:Int)
   ·obtain⟨g2,o2,rfl,hg2,hc2⟩:=H2.out.head (by omega)
    have c2:wr.cell? ⟨g2,o2+i,none⟩=_:=(HB.out.cell (p:=⟨g2,o2+i,none⟩) hg2).trans (hc2 i (by omega))
    have hyl:((b i:Nat):Int)<4294967296:=by have:=H2.out.lt i (by omega);omega
    obtain⟨y,hyb⟩:∃ y,b i=y:=⟨_,rfl⟩
    have hy:ext b m i=y:=by unfold ext;rw[if_pos (by omega)];exact hyb
    rw[hyb]at c2 hyl
    clear hc2 hyb
    have HC:=c_Sub32 x y cy wr (by omega) (by omega) hcy
    obtain⟨s,hs⟩:∃ s:Nat,(s:Int)=((x:Int) - y - cy) % 4294967296:=⟨(((x:Int) - y - cy) % 4294967296).toNat,by omega⟩
    have hnew:=less_step hrow hval hx hy (by omega) (by omega) (by omega) hs
    obtain⟨cz,hcz⟩:∃ cz:Nat,(if x<y+cy then 1 else 0)=cz:=⟨_,rfl⟩
    have hczi:(if x<y+cy then(1:Int)else 0)=(cz:Nat):=by rw[← hcz];split <;> rfl
    have hcl:(cz:Int)≤1:=by rw[← hczi];split <;> decide
    rw[hcz]at hnew
    rw[← hs,hczi]at HC
    have HN:=Kh hnew
    have HC:=Kh HC
    clear hnew hs hcz hczi hx hy hval hrow
    go_wp2_with (go_at_call 203;refine HC.out.mono ?_;rintro e w' ⟨rfl,rfl⟩)
    go_roundw
    case rel=>exact⟨i+1,cz,by omega,rfl,by go_num,hcl,HN.out,HB.out.setCell (Nat.le_refl _) _⟩
    case measure=>simp[intOf];omega
   ·obtain⟨y,hyb⟩:∃ y:Nat,0=y:=⟨_,rfl⟩
    have hy:ext b m i=y:=by unfold ext;rw[if_neg (by omega)];exact hyb
    subst hyb
    have hyl:((0:Nat):Int)<4294967296:=by decide
    have HC:=c_Sub32 x 0 cy wr (by omega) (by omega) hcy
    obtain⟨s,hs⟩:∃ s:Nat,(s:Int)=((x:Int) - (0:Nat) - cy) % 4294967296:=⟨(((x:Int) - (0:Nat) - cy) % 4294967296).toNat,by omega⟩
    have hnew:=less_step hrow hval hx hy (by omega) (by omega) (by omega) hs
    obtain⟨cz,hcz⟩:∃ cz:Nat,(if x<0+cy then 1 else 0)=cz:=⟨_,rfl⟩
    have hczi:(if x<0+cy then(1:Int)else 0)=(cz:Nat):=by rw[← hcz];split <;> rfl
    have hcl:(cz:Int)≤1:=by rw[← hczi];split <;> decide
    rw[hcz]at hnew
    rw[← hs,hczi]at HC
    have HN:=Kh hnew
    have HC:=Kh HC
    clear hnew hs hcz hczi hx hy hval hrow
    go_wp2_with (go_at_call 203;refine HC.out.mono ?_;rintro e w' ⟨rfl,rfl⟩)
    go_roundw
    case rel=>exact⟨i+1,cz,by omega,rfl,by go_num,hcl,HN.out,HB.out.setCell (Nat.le_refl _) _⟩
    case measure=>simp[intOf];omega
  ·obtain rfl:i=n:=by omega
   have hfin:=hrow.dg i (Nat.le_refl _)
   have hsum:vf r i=vf a i - vf b m:=by
    rw[ext_vf b hmn]at hval
    have hle:=HL.out
    have h1:=vf_lt hrow.2
    rcases Nat.lt_or_ge 0 cy with h|h
    ·exfalso
     obtain rfl:cy=1:=by omega
     omega
    ·obtain rfl:cy=0:=by omega
     omega
   have HF:=Kh hfin
   have HS:=Kh hsum
   clear hfin hsum hval hrow hcy
   go_wp2
   go_ret
   exact⟨⟨_,_,_,rfl,HF.out,HS.out⟩,HB.out⟩
end Go.Proofs.YtenlbhlllgppmaaGreatDoor
