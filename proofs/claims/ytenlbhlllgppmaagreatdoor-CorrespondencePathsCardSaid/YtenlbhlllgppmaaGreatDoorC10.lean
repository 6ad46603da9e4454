/- Contracts of bigint's shifted and unshifted. -/
import Derived.Test.YtenlbhlllgppmaaGreatDoorC09
import Derived.Deep.CutBlock
set_option maxRecDepth 100000
set_option maxHeartbeats 8000000
namespace Go.Proofs.YtenlbhlllgppmaaGreatDoor
section
open Go.RowKit Tryz
theorem Ih {s:Nat} (E:s<32):(4294967296:Nat)=2 ^ s*2 ^ (32 - s):=by
 rw[<-Nat.pow_add,show s+(32 - s)=32 from by omega]
theorem Tg (x s:Nat) (E:s<32):x*2 ^ s % 4294967296=2 ^ s*(x % 2 ^ (32 - s)):=by
 rw[Ih E,Nat.mul_comm x,Nat.mul_mod_mul_left]
theorem Zn (x s r:Nat) (E:s<32) (hr:r<2 ^ s):r+x*2 ^ s % 4294967296<4294967296:=by
 rw[Tg x s E];have I:=Nat.mod_lt x (Nat.two_pow_pos (32 - s));have J:=Nat.mul_le_mul_left (2 ^ s) (show x % 2 ^ (32 - s)+1<=2 ^ (32 - s)from I);rw[<-Ih E,Nat.mul_add,Nat.mul_one]at J;omega
theorem iS (x s r:Nat) (E:s<32) (hr:r<2 ^ s):bits .or .u32 (r:Int) (((x*2 ^ s:Nat):Int) % 4294967296)=((r+x*2 ^ s % 4294967296:Nat):Int):=by
 have J:=Zn x s r E hr;have I:((x*2 ^ s:Nat):Int) % 4294967296=((x*2 ^ s % 4294967296:Nat):Int):=by rw[Int.natCast_emod];rfl
 rw[I,u32_or_nat _ _ (by omega) (Nat.mod_lt _ (by omega)),Nat.or_comm,Tg x s E,<-Nat.two_pow_add_eq_or_of_lt hr,Nat.add_comm]
theorem Th (x s:Nat) (E:x<4294967296):x*2 ^ s / 4294967296<2 ^ s:=by
 rw[Nat.div_lt_iff_lt_mul (by omega),Nat.mul_comm];exact Nat.mul_lt_mul_of_pos_left E (Nat.two_pow_pos s)
theorem Ey {s:Nat} (E:s<32):2 ^ s<=2147483648:=by
 have:=Nat.pow_le_pow_right (show 0<2 by omega) (show s<=31 by omega);omega
theorem Zo (x s:Nat) (I:s<32) (M:x<4294967296):IntKind.u64.wrap ((x:Int)*2 ^ s)=((x*2 ^ s:Nat):Int):=by
 have J:x*2 ^ s<=4294967295*2147483648:=Nat.mul_le_mul (by omega) (Ey I);have E:(x:Int)*2 ^ s=((x*2 ^ s:Nat):Int):=by rw[Int.natCast_mul,Int.natCast_pow];rfl
 rw[E,IntKind.wrap_u64];generalize x*2 ^ s=t at *;omega
def R5 (w:World) (g n1 k s t:Nat):Prop:=∃r,Row w g n1 r/\vf r (k+1)=t*2 ^ s/\r k<2 ^ s
theorem Rt {w:World} {g U k s x y z:Nat} {a r:Nat->Nat} (E:Row w g U r) (hv:vf r (k+1)=vf a k*2 ^ s) (I:r k<2 ^ s) (M:s<32) (hx:a k=x) (J:x<4294967296) (hy:r k+x*2 ^ s % 4294967296=y) (O:x*2 ^ s / 4294967296=z):
  R5 ((w.setCell ⟨g,k,none⟩ (.int .u32 y)).setCell ⟨g,k+1,none⟩ (.int .u32 z)) g U (k+1) s (vf a (k+1)):=by
 have h1:=Zn x s (r k) M I;have V:=Th x s J;have h3:=Ey M;refine⟨_,(E.set k y (by omega)).set (k+1) z (by omega),?_,by show(if k+1=k+1 then z else _)<_;rw[if_pos rfl,<-O];exact V⟩;rw[vf,Bu (nL _),vf,Bu (nL _),show upd (upd r k y) (k+1) z (k+1)=z from by simp[upd],show upd r k y k=y from by simp[upd],vf,hx,Nat.add_mul,<-hv,vf,Ay];have Z:x*2 ^ s=x*2 ^ s % 4294967296+4294967296*z:=by rw[<-O];omega
 have h:4294967296 ^ k*x*2 ^ s=4294967296 ^ k*(x*2 ^ s % 4294967296)+4294967296*4294967296 ^ k*z:=by
  rw[Nat.mul_assoc,Nat.mul_comm 4294967296,Nat.mul_assoc,<-Nat.mul_add,<-Z]
 rw[h,<-hy,Nat.mul_add];omega
def jD (B:Nat) (w':World) (e:Ending) (k t:Nat):Prop:=∃g c r,e=.returned (.slice (some ⟨g,0,none⟩) k c)/\k<=c/\B<=g/\Row w' g k r/\vf r k=t
theorem Lv (p:Option Addr) (c n:Nat) (a:Nat->Nat) (s:Nat) (w:World) (h1:Dg w p c n a) (hn:n<=70368744177660) (hs:(s:Int)<32):
  Calls prog 216 #[.slice p n c,.int .u64 s] w λe w'=>jD w.heap.size w' e (n+1) (vf a n*2 ^ s)/\Below w.heap.size w w':=by
 have bC:∀w,(Instr.makeSlice 82 (.int .i64 ((n:Int)+1)) (.int .i64 ((n:Int)+1))).run prog w=.ok (.slice (some ⟨w.heap.size,0,none⟩) (n+1) (n+1)) (w.alloc (.cells (madeCells #[.int .u32 0] (n+1)) 200)):=Gj (n+1) (by omega)
 have E:=Row.made w (n+1);have H1:=Kh h1;have HR:=Kh E;clear h1 E;go_enter func216,ntmps216
 go_wp2;obtain⟨wb,I⟩:∃wb,w.alloc (.cells (madeCells #[.int .u32 0] (n+1)) 200)=wb:=⟨_,rfl⟩
 rw[I];have J:Below w.heap.size w wb:=by rw[<-I];exact(Below.refl _ _).alloc (nL _) _
 rw[I]at HR;have aN:=Kh J;clear I J bC;go_loopw [15] (λO wr=>∃k:Nat,k<=n/\O=.int .i64 k/\R5 wr w.heap.size (n+1) k s (vf a k)/\Below w.heap.size w wr) (λO _=>n - (intOf O).toNat)
 case atStart=>exact⟨0,Nat.zero_le _,rfl,⟨_,HR.1,by simp[vf],Nat.two_pow_pos s⟩,aN.1⟩
 case round=>
  obtain⟨k,hk,rfl,⟨r,E,hv,h⟩,hb⟩:=hrel;have HB:=Kh hb;have HV:=Kh hv;have U:=Kh h;clear hb hv h;by_cases hlt:(k:Int)<(n:Int)
  ·obtain⟨g1,o1,rfl,bB,V⟩:=H1.1.head (by omega)
   have c1:wr.cell? ⟨g1,o1+k,none⟩=_:=(HB.1.cell (p:=⟨g1,o1+k,none⟩) bB).trans (V k (by omega));have bY:((a k:Nat):Int)<4294967296:=by have:=H1.1.lt k (by omega);omega
   obtain⟨x,hx⟩:∃x,a k=x:=⟨_,rfl⟩
   rw[hx]at c1 bY;have eG:wr.cell? ⟨w.heap.size,k,none⟩=some (.int .u32 (r k:Nat)):=E.1.cell (by omega);have eF:wr.frozen? ⟨w.heap.size,k,none⟩=false:=E.1.frozen _;have cM:wr.cell? ⟨w.heap.size,k+1,none⟩=some (.int .u32 (r (k+1):Nat)):=E.1.cell (by omega);have cI:wr.frozen? ⟨w.heap.size,k+1,none⟩=false:=E.1.frozen _;have aD:=Zo x s (by omega) (by omega);have Z:=iS x s (r k) (by omega) U.1;have M:=Rt E HV.1 U.1 (by omega) hx (by omega) rfl rfl
   have hcut:((x*2 ^ s:Nat):Int) / 4294967296 % 4294967296=((x*2 ^ s / 4294967296:Nat):Int):=by
    have h1:=Th x s (by omega);have h2:=Ey (s:=s) (by omega);generalize x*2 ^ s=t at *;omega
   have HN:=Kh M;have HW:=Kh aD;have HO:=Kh Z;have aX:=Kh hcut;clear M E V hx aD Z hcut;go_wp2;rw[HW.1,HO.1,aX.1];go_roundw
   case rel=>exact⟨k+1,by omega,by go_num,HN.1,(HB.1.setCell (nL _) _).setCell (nL _) _⟩
   case measure=>simp[intOf];omega
  ·obtain rfl:k=n:=by omega
   go_wp2;go_ret;have hR:jD w.heap.size wr (.returned (.slice (some ⟨w.heap.size,0,none⟩) (k+1) (k+1))) (k+1) (vf a k*2 ^ s):=⟨_,_,r,rfl,nL _,nL _,E,HV.1⟩
   exact⟨hR,HB.1⟩
theorem Z7 {a:Nat->Nat} {n:Nat} (h:∀i,i<n->a i<4294967296) {i:Nat} (E:i<=n):vf a n / 4294967296 ^ i=vf (shf a i) (n - i):=by
 obtain⟨k,rfl⟩:∃k,n=i+k:=⟨n - i,by omega⟩
 rw[Hn,Nat.add_sub_cancel_left,Nat.add_mul_div_left _ _ (Dig.pow_pos i),Nat.div_eq_of_lt (D1 λj I=>h j (by omega)),Nat.zero_add]
theorem Lk {a:Nat->Nat} {n s i:Nat} (h:∀i,i<n->a i<4294967296) (M:s<32) (I:i<n):dg (vf a n / 2 ^ s) i=(a i+4294967296*ext a n (i+1)) / 2 ^ s % 4294967296:=by
 unfold dg;rw[Nat.div_div_eq_div_mul,Nat.mul_comm,<-Nat.div_div_eq_div_mul,Z7 h (Nat.le_of_lt I)];obtain⟨m,J⟩:∃m,n - i=m+1:=⟨n - i - 1,by omega⟩
 rw[J,Hm,show shf a i 0=a i from rfl]
 have O:∃Z,vf (shf (shf a i) 1) m=ext a n (i+1)+4294967296*Z:=by
  cases m with
  | zero=>exact⟨0,by unfold ext;rw[if_neg (by omega)];rfl⟩
  | succ m=>exact⟨vf (shf (shf (shf a i) 1) 1) m,by rw[Hm];unfold ext;rw[if_pos (by omega)];unfold shf;simp⟩
 obtain⟨Z,E⟩:=O;rw[E]
 have e:a i+4294967296*(ext a n (i+1)+4294967296*Z)=(a i+4294967296*ext a n (i+1))+2 ^ s*(4294967296*(2 ^ (32 - s)*Z)):=by
  have:=Ih M;rw[Nat.mul_add,show 2 ^ s*(4294967296*(2 ^ (32 - s)*Z))=(2 ^ s*2 ^ (32 - s))*(4294967296*Z)from by simp only[Nat.mul_assoc,Nat.mul_comm,Nat.mul_left_comm],<-this];omega
 rw[e,Nat.add_mul_div_left _ _ (Nat.two_pow_pos s),Nat.add_mul_mod_self_left]
theorem lC (x y:Nat) (E:x<4294967296) (I:y<4294967296):bits .or .u64 (x:Int) ((y:Int)*4294967296)=((x+4294967296*y:Nat):Int):=by
 rw[show(y:Int)*4294967296=((2 ^ 32*y:Nat):Int)from by omega,bits_or_u64_nat _ _ (by omega) (by omega),Nat.or_comm,<-Nat.two_pow_add_eq_or_of_lt (show x<2 ^ 32 from E)];omega
theorem Tm (t s:Nat):((t:Nat):Int) / 2 ^ s % 4294967296=((t / 2 ^ s % 4294967296:Nat):Int):=by
 rw[Int.natCast_emod,Int.natCast_ediv,Int.natCast_pow];rfl
def jI (w:World) (g n k T:Nat):Prop:=∃r,Row w g n r/\∀i,i<k->r i=dg T i
theorem Tn {w:World} {g n k T:Nat} {r:Nat->Nat} (E:Row w g n r) (I:∀i,i<k->r i=dg T i):jI (w.setCell ⟨g,k,none⟩ (.int .u32 (dg T k:Nat))) g n (k+1) T:=
 ⟨_,E.set k _ (dg_lt T k),λi J=>by
  unfold upd;split
  ·rename_i h;rw[h]
  ·exact I i (by omega)⟩
theorem Ow (p:Option Addr) (c n:Nat) (a:Nat->Nat) (s:Nat) (w:World) (h1:Dg w p c n a) (hn:n<=70368744177660) (hs:(s:Int)<32):
  Calls prog 218 #[.slice p n c,.int .u64 s] w λe w'=>RetD w' e n (vf a n / 2 ^ s)/\Below w.heap.size w w':=by
 have cA:∀w,(Instr.makeSlice 82 (.int .i64 (n:Int)) (.int .i64 (n:Int))).run prog w=.ok (.slice (some ⟨w.heap.size,0,none⟩) n n) (w.alloc (.cells (madeCells #[.int .u32 0] n) 200)):=Gj n (by omega)
 have E:=Row.made w n;have H1:=Kh h1;have HR:=Kh E;clear h1 E;go_enter func218,ntmps218
 go_wp2;obtain⟨wb,O⟩:∃wb,w.alloc (.cells (madeCells #[.int .u32 0] n) 200)=wb:=⟨_,rfl⟩
 rw[O];have U:Below w.heap.size w wb:=by rw[<-O];exact(Below.refl _ _).alloc (nL _) _
 rw[O]at HR;have bC:=Kh U;clear O U cA;go_loopw [13] (λv wr=>∃k:Nat,k<=n/\v=.int .i64 k/\jI wr w.heap.size n k (vf a n / 2 ^ s)/\Below w.heap.size w wr) (λv _=>n - (intOf v).toNat)
 case atStart=>exact⟨0,Nat.zero_le _,rfl,⟨_,HR.1,λi hi=>absurd hi (Nat.not_lt_zero _)⟩,bC.1⟩
 case round=>
  obtain⟨k,hk,rfl,⟨r,E,hv⟩,hb⟩:=hrel;have HB:=Kh hb;have HV:=Kh hv;clear hb hv;by_cases hlt:(k:Int)<(n:Int)
  ·obtain⟨g1,o1,rfl,aN,M⟩:=H1.1.head (by omega)
   have c1:wr.cell? ⟨g1,o1+k,none⟩=_:=(HB.1.cell (p:=⟨g1,o1+k,none⟩) aN).trans (M k (by omega));have cC:((a k:Nat):Int)<4294967296:=by have:=H1.1.lt k (by omega);omega
   obtain⟨x,hx⟩:∃x,a k=x:=⟨_,rfl⟩
   have eG:wr.cell? ⟨w.heap.size,k,none⟩=some (.int .u32 (r k:Nat)):=E.1.cell (by omega);have dY:wr.frozen? ⟨w.heap.size,k,none⟩=false:=E.1.frozen _;have V:=Lk (a:=a) (n:=n) (s:=s) (i:=k) H1.1.lt (by omega) (by omega);rw[hx]at c1 cC V;by_cases hlt1:(k:Int)+1<(n:Int)
   ·have c2:wr.cell? ⟨g1,o1+(k+1),none⟩=_:=(HB.1.cell (p:=⟨g1,o1+(k+1),none⟩) aN).trans (M (k+1) (by omega))
    have cF:((a (k+1):Nat):Int)<4294967296:=by have:=H1.1.lt (k+1) (by omega);omega
    obtain⟨y,hy⟩:∃y,a (k+1)=y:=⟨_,rfl⟩
    rw[show ext a n (k+1)=y from by unfold ext;rw[if_pos (by omega)];exact hy]at V;rw[hy]at c2 cF;have e2:((k:Int)+1).toNat=k+1:=by omega
    have aX:=lC x y (by omega) (by omega);have J:=Tm (x+4294967296*y) s;rw[<-V]at J;have I:=Tn E HV.1;have HN:=Kh I;have HO:=Kh aX;have h:=Kh J;clear M hx hy aX J I V E;go_wp2;rw[HO.1,h.1];go_roundw
    case rel=>exact⟨k+1,by omega,by go_num,HN.1,HB.1.setCell (nL _) _⟩
    case measure=>simp[intOf];omega
   ·rw[show ext a n (k+1)=0 from by unfold ext;rw[if_neg (by omega)]]at V
    have J:=Tm x s;rw[Nat.mul_zero,Nat.add_zero]at V;rw[<-V]at J;have I:=Tn E HV.1;have HN:=Kh I;have h:=Kh J;clear M hx J I V E;go_wp2;rw[h.1];go_roundw
    case rel=>exact⟨k+1,by omega,by go_num,HN.1,HB.1.setCell (nL _) _⟩
    case measure=>simp[intOf];omega
  ·obtain rfl:k=n:=by omega
   have Z:vf r k=vf a k / 2 ^ s:=by
    rw[Dz HV.1,P9];exact Nat.lt_of_le_of_lt (Nat.div_le_self _ _) (D1 H1.1.lt)
   have hR:RetD wr (.returned (.slice (some ⟨w.heap.size,0,none⟩) k k)) k (vf a k / 2 ^ s):=⟨_,_,r,rfl,E.dg _ (nL _),Z⟩
   have HF:=Kh hR;clear hR Z E;go_wp2;go_ret;exact⟨HF.1,HB.1⟩
end
namespace Kn
structure Tops (P lu lv T u2 v1 v2 U V:Nat):Prop where
 hlu:lu<P
 hlv:lv<P
 hu2:u2<4294967296
 hv2:v2<4294967296
 hv1:2147483648<=v1
 hU:U=lu+P*(u2+4294967296*T)
 hV:V=lv+P*(v2+4294967296*v1)
 hlt:U<V*4294967296
section
variable {P lu lv T u2 v1 v2 U V:Nat}
theorem Tops.hP (h:Tops P lu lv T u2 v1 v2 U V):0<P:=by have:=h.hlu;omega
theorem Tops.Vpos (h:Tops P lu lv T u2 v1 v2 U V):0<V:=by
 have I:=h.hV;have E:=h.hP;have J:=h.hv1;have M:=Nat.mul_pos E (show 0<v2+4294967296*v1 by omega);omega
theorem Tops.Ult (h:Tops P lu lv T u2 v1 v2 U V):U<(P*4294967296)*(T+1):=by
 have E:=h.hU;have J:=h.hlu;have I:=Nat.mul_le_mul_left P (show u2+1<=4294967296 from h.hu2);rw[Nat.mul_add,Nat.mul_one]at I;rw[Nat.mul_add,<-Nat.mul_assoc]at E;rw[Nat.mul_add,Nat.mul_one];omega
theorem Tops.Vlt (h:Tops P lu lv T u2 v1 v2 U V):V<(P*4294967296)*(v1+1):=by
 have E:=h.hV;have J:=h.hlv;have I:=Nat.mul_le_mul_left P (show v2+1<=4294967296 from h.hv2);rw[Nat.mul_add,Nat.mul_one]at I;rw[Nat.mul_add,<-Nat.mul_assoc]at E;rw[Nat.mul_add,Nat.mul_one];omega
theorem Tops.Vge (h:Tops P lu lv T u2 v1 v2 U V):(P*4294967296)*v1<=V:=by
 have E:=h.hV;rw[Nat.mul_add,<-Nat.mul_assoc]at E;omega
theorem Tops.Uge (h:Tops P lu lv T u2 v1 v2 U V):(P*4294967296)*T<=U:=by
 have E:=h.hU;rw[Nat.mul_add,<-Nat.mul_assoc]at E;omega
theorem Tops.first (h:Tops P lu lv T u2 v1 v2 U V):U / V<=T / v1:=by
 have I:=Nat.div_mul_le_self U V;have J:=Nat.mul_le_mul_left (U / V) h.Vge;have M:=h.Ult;have O:=h.hv1;have Z:=h.hP;generalize U / V=Q at *;rw[Nat.le_div_iff_mul_le (by omega)]
 have E:(P*4294967296)*(Q*v1)<(P*4294967296)*(T+1):=by
  rw[show(P*4294967296)*(Q*v1)=Q*((P*4294967296)*v1)from by grind];omega
 have h7:=Nat.lt_of_mul_lt_mul_left E;omega
theorem Tops.small (h:Tops P lu lv T u2 v1 v2 U V):U / V<4294967296:=(Nat.div_lt_iff_lt_mul h.Vpos).2 (by rw[Nat.mul_comm];exact h.hlt)
theorem Tops.down (h:Tops P lu lv T u2 v1 v2 U V) {g r:Nat} (Z:g*v1+r=T) (ht:r*4294967296+u2<g*v2):U / V<g:=by
 rw[Nat.div_lt_iff_lt_mul h.Vpos];have I:g*(P*(v2+4294967296*v1))<=g*V:=Nat.mul_le_mul_left _ (by have:=h.hV;omega);have J:g*(P*(v2+4294967296*v1))=P*(g*v2+4294967296*(g*v1)):=by grind
 have E:P*(u2+4294967296*T+1)<=P*(g*v2+4294967296*(g*v1)):=Nat.mul_le_mul_left _ (by omega);have M:=h.hU;have O:=h.hlu;rw[Nat.mul_add P _ 1,Nat.mul_one]at E;omega
theorem Tops.upA (h:Tops P lu lv T u2 v1 v2 U V) {g r:Nat} (he:g*v1+r=T) (hg:g<4294967296) (ht:g*v2<=r*4294967296+u2):g<=U / V+1:=by
 have I:g*V=g*lv+P*(g*v2+4294967296*(g*v1)):=by
  rw[h.hV,Nat.mul_add];have:g*(P*(v2+4294967296*v1))=P*(g*v2+4294967296*(g*v1)):=by grind
  omega
 have J:P*(g*v2+4294967296*(g*v1))<=P*(u2+4294967296*T):=Nat.mul_le_mul_left _ (by omega);have M:g*lv<=4294967296*P:=Nat.mul_le_mul (by omega) (Nat.le_of_lt h.hlv);have O:=h.Vge;have Z:(P*4294967296)*1<=(P*4294967296)*v1:=Nat.mul_le_mul_left _ (by have:=h.hv1;omega);have h6:=h.hU;have h7:g*V<=U+V:=by omega
 have E:(g - 1)*V<=U:=by rw[Nat.sub_mul];omega
 have h9:=(Nat.le_div_iff_mul_le h.Vpos).2 E;omega
theorem Tops.upB (h:Tops P lu lv T u2 v1 v2 U V) {g r:Nat} (O:g*v1+r=T) (hg:g<=4294967296) (hr:4294967296<=r):g<=U / V:=by
 rw[Nat.le_div_iff_mul_le h.Vpos];have E:g*V<=g*((P*4294967296)*(v1+1)):=Nat.mul_le_mul_left _ (Nat.le_of_lt h.Vlt);have I:g*((P*4294967296)*(v1+1))=(P*4294967296)*(g*v1+g):=by grind
 have J:(P*4294967296)*(g*v1+g)<=(P*4294967296)*T:=Nat.mul_le_mul_left _ (by omega);have M:=h.Uge;omega
theorem Tops.start (h:Tops P lu lv T u2 v1 v2 U V):T / v1<=4294967297:=by
 have I:=h.Uge;have J:=h.hlt;have M:=Nat.mul_lt_mul_of_pos_right h.Vlt (show 0<4294967296 by omega);have E:(P*4294967296)*T<(P*4294967296)*((v1+1)*4294967296):=by rw[<-Nat.mul_assoc];omega
 have O:=Nat.lt_of_mul_lt_mul_left E;have Z:=h.hv1
 have:T / v1<4294967298:=by
  rw[Nat.div_lt_iff_lt_mul (by omega)];omega
 omega
end
end Kn
section
open Go.RowKit Tryz
structure Only (g:Nat) (w w':World):Prop where
 os:w'.os=w.os
 tape:w'.tape=w.tape
 output:w'.output=w.output
 size:w.heap.size<=w'.heap.size
 block:∀k,k<w.heap.size->k≠g->w'.heap[k]?=w.heap[k]?
theorem Only.refl (g:Nat) (w:World):Only g w w:=⟨rfl,rfl,rfl,nL _,λ_ _ _=>rfl⟩
theorem Only.trans {g:Nat} {a b c:World} (h:Only g a b) (k:Only g b c):Only g a c:=
 ⟨k.os.trans h.os,k.tape.trans h.tape,k.output.trans h.output,nM h.size k.size,λi I E=>(k.block i (nN I h.size) E).trans (h.block i I E)⟩
theorem Only.set {g:Nat} {a w:World} (h:Only g a w) (i:Nat) (v:Value):Only g a (w.setCell ⟨g,i,none⟩ v):=
 ⟨h.os,h.tape,h.output,by simpa using h.size,λk I E=>(Below.heap_setCell w ⟨g,i,none⟩ v k E).trans (h.block k I E)⟩
theorem Only.drewN {g:Nat} {a w:World} (h:Only g a w) (n:Nat):Only g a (w.drewN n):=⟨h.os,h.tape,h.output,h.size,h.block⟩
theorem Only.cell {g:Nat} {w w':World} (h:Only g w w') {p:Addr} (I:p.block<w.heap.size) (E:p.block≠g):w'.cell? p=w.cell? p:=World.cell?_of_block (w:=w) (h.block p.block I E)
theorem Only.below {g B:Nat} {w w':World} (h:Only g w w') (hg:B<=g) (hB:B<=w.heap.size):Below B w w':=⟨h.os,h.tape,h.output,h.size,λk E=>h.block k (by omega) (by omega)⟩
theorem Only.dg {g:Nat} {w w':World} (h:Only g w w') {E o c n:Nat} {a:Nat->Nat} (I:Dg w (some ⟨E,o,none⟩) c n a) (J:E≠g):Dg w' (some ⟨E,o,none⟩) c n a:=
 ⟨I.cap,I.lt,by
  rcases I.at' with M |⟨V,Z,e,hg,O⟩
  ·exact .inl M
  ·injection e with e;injection e with e1 e2;subst e1;subst e2
   exact .inr ⟨E,o,rfl,nN hg h.size,λj U=>(h.cell (p:=⟨E,o+j,none⟩) hg J).trans (O j U)⟩⟩
theorem Only.row {g:Nat} {w w':World} (h:Only g w w') {E n:Nat} {a:Nat->Nat} (hr:Row w E n a) (I:E≠g):Row w' E n a:=⟨hr.1.of_block (h.block E hr.1.lt I),hr.2⟩
theorem Z8 (a:Nat->Nat) (m:Nat):vf a (m+3)=vf a m+4294967296 ^ m*(a m+4294967296*(a (m+1)+4294967296*a (m+2))):=by
 rw[show m+3=m+2+1 from rfl,vf,show m+2=m+1+1 from rfl,vf,vf,Ay,Ay];grind
theorem iZ (a:Nat->Nat) (m:Nat):vf a (m+2)=vf a m+4294967296 ^ m*(a m+4294967296*a (m+1)):=by
 rw[show m+2=m+1+1 from rfl,vf,vf,Ay];grind
theorem dZ {a b:Nat->Nat} {N u0 u1 u2 v1 v2:Nat} (h:2<=N) (M:∀i,i<N+1->a i<4294967296) (O:∀i,i<N->b i<4294967296) (I:a N=u0) (J:a (N - 1)=u1) (hu2:a (N - 2)=u2) (hv1:b (N - 1)=v1) (hv2:b (N - 2)=v2) (E:2147483648<=v1) (hlt:vf a (N+1)<vf b N*4294967296):
  Kn.Tops (4294967296 ^ (N - 2)) (vf a (N - 2)) (vf b (N - 2)) (u1+4294967296*u0) u2 v1 v2 (vf a (N+1)) (vf b N):=by
 obtain⟨m,rfl⟩:∃m,N=m+2:=⟨N - 2,by omega⟩
 have V:=M m (by omega);have Z:=O m (by omega);simp only[show m+2 - 1=m+1 from rfl,show m+2 - 2=m from rfl]at *;exact⟨D1 λi U=>M i (by omega),D1 λi U=>O i (by omega),by omega,by omega,E,by rw[show m+2+1=m+3 from rfl,Z8,I,J,hu2],by rw[iZ,hv1,hv2],hlt⟩
theorem Jj (r:Nat->Nat) (j i d:Nat):shf (upd r (j+i) d) j=upd (shf r j) i d:=by
 funext l;unfold shf upd;by_cases h:l=i
 ·rw[if_pos h,if_pos (by omega)]
 ·rw[if_neg h,if_neg (by omega)]
def eM (w:World) (g K j i h cy:Nat) (r b:Nat->Nat):Prop:=∃r2,Row w g K r2/\(∀l,l<j∨j+i<=l->r2 l=r l)/\vf (shf r2 j) i+h*vf b i=vf (shf r j) i+4294967296 ^ i*cy
theorem Zx {w:World} {g K j i h V O x y tl Z s U:Nat} {r b M:Nat->Nat} (I:Row w g K M) (E:∀l,l<j∨j+i<=l->M l=r l) (J:vf (shf M j) i+h*vf b i=vf (shf r j) i+4294967296 ^ i*(V+O))
  (hx:r (j+i)=x) (hy:b i=y) (ht:tl+4294967296*Z=h*y+V) (hs:s+tl+O=x+4294967296*U) (aD:s<4294967296):
  eM (w.setCell ⟨g,j+i,none⟩ (.int .u32 s)) g K j (i+1) h (Z+U) r b:=by
 refine⟨_,I.set (j+i) s aD,λl hl=>by unfold upd;rw[if_neg (by omega)];exact E l (by omega),?_⟩;rw[Jj,vf,Bu (nL _),show upd (shf M j) i s i=s from by simp[upd],vf,vf,hy,show shf r j i=x from hx,Ay];have h1:s+h*y+(V+O)=x+4294967296*(Z+U):=by omega
 have h2:=congrArg (4294967296 ^ i * ·) h1;simp only[Nat.mul_add]at h2 J ⊢;grind
theorem Zw {w:World} {g K j N h cy V x s Z:Nat} {r b M:Nat->Nat} (I:Row w g K M) (E:∀l,l<j∨j+N<=l->M l=r l) (J:vf (shf M j) N+h*vf b N=vf (shf r j) N+4294967296 ^ N*(cy+V))
  (hx:r (j+N)=x) (hs:s+cy+V=x+4294967296*Z) (O:s<4294967296):
  ∃U,Row (w.setCell ⟨g,j+N,none⟩ (.int .u32 s)) g K U/\(∀l,l<j∨j+N<l->U l=r l)/\vf (shf U j) (N+1)+h*vf b N=vf (shf r j) (N+1)+4294967296 ^ (N+1)*Z:=by
 refine⟨_,I.set (j+N) s O,λl hl=>by unfold upd;rw[if_neg (by omega)];exact E l (by omega),?_⟩;rw[Jj,vf,Bu (nL _),show upd (shf M j) N s N=s from by simp[upd],vf,show shf r j N=x from hx,Ay];have h2:=congrArg (4294967296 ^ N * ·) hs;simp only[Nat.mul_add]at h2 J ⊢;grind
def I2 (w:World) (g K j N:Nat) (r:Nat->Nat) (R:Nat):Prop:=∃r',Row w g K r'/\(∀l,l<j∨j+N<l->r' l=r l)/\vf (shf r' j) (N+1)=R
theorem Q6 {w:World} {g K j N h U V Q P O:Nat} {r M:Nat->Nat} (hb:O=0) (I:Row w g K M) (E:∀l,l<j∨j+N<l->M l=r l) (J:vf (shf M j) (N+1)+h*V=U+P*O) (hQ:U / V=Q) (aD:Q<=h) (hV:0<V):h=Q/\I2 w g K j N r (U % V):=by
 subst hb;rw[Nat.mul_zero,Nat.add_zero]at J;have h1:h<=U / V:=(Nat.le_div_iff_mul_le hV).2 (by omega);have Z:h=Q:=by omega
 refine⟨Z,M,I,E,?_⟩;have h3:=Nat.div_add_mod U V;rw[hQ,<-Z,Nat.mul_comm]at h3;omega
def Vw (w:World) (g K j i bk:Nat) (r3 b:Nat->Nat):Prop:=∃r4,Row w g K r4/\(∀l,l<j∨j+i<=l->r4 l=r3 l)/\vf (shf r4 j) i+4294967296 ^ i*bk=vf (shf r3 j) i+vf b i
theorem T6 {w:World} {g K j i bk x y s U:Nat} {M b O:Nat->Nat} (I:Row w g K O) (E:∀l,l<j∨j+i<=l->O l=M l) (J:vf (shf O j) i+4294967296 ^ i*bk=vf (shf M j) i+vf b i)
  (h:M (j+i)=x) (hy:b i=y) (hs:(x+y+bk) % 4294967296=s) (hb:(x+y+bk) / 4294967296=U):
  Vw (w.setCell ⟨g,j+i,none⟩ (.int .u32 s)) g K j (i+1) U M b:=by
 refine⟨_,I.set (j+i) s (by omega),λl hl=>by unfold upd;rw[if_neg (by omega)];exact E l (by omega),?_⟩;rw[Jj,vf,Bu (nL _),show upd (shf O j) i s i=s from by simp[upd],vf,vf,hy,show shf M j i=x from h,Ay];have V:s+4294967296*U=x+y+bk:=by omega
 have Z:=congrArg (4294967296 ^ i * ·) V;simp only[Nat.mul_add]at Z J ⊢;grind
theorem fI {K j N h U V Q:Nat} {J:Nat->Nat} (I:∀l,l<K->J l<4294967296) {M:Nat} (hb:M=1) (E:vf (shf J j) (N+1)+h*V=U+4294967296 ^ (N+1)*M) (hj:j+N<K) (hQ:U / V=Q) (O:Q<=h) (bA:h<=Q+1):h=Q+1:=by
 subst hb;rw[Nat.mul_one]at E;have h0:vf (shf J j) (N+1)<4294967296 ^ (N+1):=D1 λi hi=>I (j+i) (by omega)
 rcases Nat.lt_or_ge Q h with Z|Z
 ·omega
 ·exfalso
  have h3:h=Q:=by omega
  have h4:=Nat.div_mul_le_self U V;rw[hQ,<-h3]at h4;omega
theorem T5 {w:World} {g K j N h bk U V Q x s:Nat} {r O r4:Nat->Nat} (M:Row w g K r4) (Z:∀l,l<j∨j+N<=l->r4 l=O l) (bE:vf (shf r4 j) N+4294967296 ^ N*bk=vf (shf O j) N+V)
  (J:∀l,l<j∨j+N<l->O l=r l) {bz:Nat} (hb:bz=1) (I:vf (shf O j) (N+1)+h*V=U+4294967296 ^ (N+1)*bz) (hj:j+N<K) (aK:∀l,l<K->O l<4294967296)
  (hx:O (j+N)=x) (hs:(x+bk) % 4294967296=s) (hQ:U / V=Q) (bB:Q<=h) (cT:h<=Q+1) (hV:0<V) (cG:V<4294967296 ^ N):
  h=Q+1/\I2 (w.setCell ⟨g,j+N,none⟩ (.int .u32 s)) g K j N r (U % V):=by
 subst hb;rw[Nat.mul_one]at I;have h0:vf (shf O j) (N+1)<4294967296 ^ (N+1):=D1 λi hi=>aK (j+i) (by omega)
 have h1:h=Q+1:=by
  rcases Nat.lt_or_ge Q h with h2|h2
  ·omega
  ·exfalso
   have h3:h=Q:=by omega
   have h4:=Nat.div_mul_le_self U V;rw[hQ,<-h3]at h4;omega
 refine⟨h1,_,M.set (j+N) s (by omega),λl hl=>by unfold upd;rw[if_neg (by omega),Z l (by omega)];exact J l hl,?_⟩;rw[Jj,vf,Bu (nL _),show upd (shf r4 j) N s N=s from by simp[upd]];have h5:=Nat.div_add_mod U V;have h6:=Nat.mod_lt U hV;rw[hQ,Nat.mul_comm]at h5;rw[h1,Nat.add_mul,Nat.one_mul,vf,show shf O j N=x from hx,Ay]at I;have h7:vf (shf r4 j) N<4294967296 ^ N:=D1 λi hi=>M.2 (j+i) (by omega)
 have h8:vf (shf r4 j) N+4294967296 ^ N*(x+bk)=U % V+4294967296 ^ N*4294967296:=by
  rw[Nat.mul_add,Nat.mul_comm (4294967296 ^ N) 4294967296];omega
 generalize U % V=R at *;generalize 4294967296 ^ N=P at *
 have h9:x+bk=4294967296:=by
  rcases Nat.lt_trichotomy (x+bk) 4294967296 with E|E|E
  ·exfalso
   have:=Nat.mul_le_mul_left P (show x+bk+1<=4294967296 from E);rw[Nat.mul_add,Nat.mul_one]at this;omega
  ·exact E
  ·exfalso
   have:=Nat.mul_le_mul_left P (show 4294967296+1<=x+bk from E);rw[Nat.mul_add,Nat.mul_one]at this;omega
 rw[h9]at hs h8;rw[<-hs];simp;omega
theorem bH (g j K N cu gv ov cv:Nat) (r b:Nat->Nat) (w:World) (E:Row w g K r) (oA:j+N<K) (hN:2<=N) (hv:Dg w (some ⟨gv,ov,none⟩) cv N b) (nY:gv≠g) (oJ:2147483648<=b (N - 1)) (hlt:vf (shf r j) (N+1)<vf b N*4294967296) (qP:N<=70368744177660):
  Calls prog 217 #[.slice (some ⟨g,j,none⟩) (N+1) cu,.slice (some ⟨gv,ov,none⟩) N cv] w λe w'=>e=.returned (.int .u32 (vf (shf r j) (N+1) / vf b N:Nat))/\Only g w w'/\I2 w' g K j N r (vf (shf r j) (N+1) % vf b N):=by
 obtain⟨qM,rJ,e,hG,gF⟩:=hv.head (by omega);injection e with e;injection e with e1 e2;subst e1;subst e2
 obtain⟨u0,iL⟩:∃x,r (j+N)=x:=⟨_,rfl⟩
 obtain⟨u1,mA⟩:∃x,r (j+(N - 1))=x:=⟨_,rfl⟩
 obtain⟨u2,hu2⟩:∃x,r (j+(N - 2))=x:=⟨_,rfl⟩
 obtain⟨v1,hv1⟩:∃x,b (N - 1)=x:=⟨_,rfl⟩
 obtain⟨v2,hv2⟩:∃x,b (N - 2)=x:=⟨_,rfl⟩
 have qH:w.cell? ⟨g,j+N,none⟩=some (.int .u32 u0):=by rw[<-iL];exact E.1.cell (by omega)
 have qI:w.cell? ⟨g,j+(N - 1),none⟩=some (.int .u32 u1):=by rw[<-mA];exact E.1.cell (by omega)
 have qJ:w.cell? ⟨g,j+(N - 2),none⟩=some (.int .u32 u2):=by rw[<-hu2];exact E.1.cell (by omega)
 have qK:w.cell? ⟨gv,ov+(N - 1),none⟩=some (.int .u32 v1):=by rw[<-hv1];exact gF _ (by omega)
 have qL:w.cell? ⟨gv,ov+(N - 2),none⟩=some (.int .u32 v2):=by rw[<-hv2];exact gF _ (by omega)
 have qZ:(u0:Int)<4294967296:=by have:=E.2 (j+N) (by omega);omega
 have rA:(u1:Int)<4294967296:=by have:=E.2 (j+(N - 1)) (by omega);omega
 have rB:(u2:Int)<4294967296:=by have:=E.2 (j+(N - 2)) (by omega);omega
 have rC:(v1:Int)<4294967296:=by have:=hv.lt (N - 1) (by omega);omega
 have rD:(v2:Int)<4294967296:=by have:=hv.lt (N - 2) (by omega);omega
 have qC:(2147483648:Int)<=(v1:Int):=by omega
 have qO:(2:Int)<=(N:Int):=by omega
 have cM:=Kh E;have HV:=Kh hv;have oX:=Kh hlt;have pH:=dB u0 u1 (by omega) (by omega);obtain⟨T,hT⟩:∃T,u1+4294967296*u0=T:=⟨_,rfl⟩
 have qQ:(T:Int)<18446744073709551616:=by omega
 rw[hT]at pH;have nD:=Kh gF;clear E hv hlt gF oJ;have hK:=dZ (a:=shf r j) (b:=b) hN (λi hi=>cM.1.2 (j+i) (by omega)) HV.1.lt iL mA hu2 hv1 hv2 (by omega) oX.1;rw[hT]at hK;obtain⟨U,hU⟩:∃U,vf (shf r j) (N+1)=U:=⟨_,rfl⟩
 obtain⟨V,hV⟩:∃V,vf b N=V:=⟨_,rfl⟩
 obtain⟨Q,hQ⟩:∃Q,U / V=Q:=⟨_,rfl⟩
 rw[hU,hV]at hK;rw[hU,hV,hQ];obtain⟨q0,eF⟩:∃q0,T / v1=q0:=⟨_,rfl⟩
 obtain⟨r0,gL⟩:∃r0,T % v1=r0:=⟨_,rfl⟩
 have pI:Int.tdiv (T:Int) (v1:Int)=(q0:Nat):=by rw[Int.tdiv_eq_ediv_of_nonneg (by omega),<-eF];exact(Int.natCast_ediv _ _).symm
 have pK:Int.tmod (T:Int) (v1:Int)=(r0:Nat):=by rw[Int.tmod_eq_emod_of_nonneg (by omega),<-gL];exact(Int.natCast_emod _ _).symm
 have oF:(T:Int) / (v1:Int)=(q0:Nat):=by rw[<-eF];exact(Int.natCast_ediv _ _).symm
 have oH:(T:Int) % (v1:Int)=(r0:Nat):=by rw[<-gL];exact(Int.natCast_emod _ _).symm
 have hY:(q0:Int)<=4294967297:=by have:=hK.start;omega
 have pJ:IntKind.u64.wrap (q0:Int)=q0:=by rw[IntKind.wrap_u64];omega
 have oE:Q<=q0:=by rw[<-hQ,<-eF];exact hK.first
 have oG:(r0:Int)<(v1:Int):=by have:=Nat.mod_lt T (show 0<v1 by omega);omega
 have eG:q0*v1+r0=T:=by rw[<-eF,<-gL,Nat.mul_comm];exact Nat.div_add_mod _ _
 have HK:=Kh hK;have HU:=Kh hU;have hS:=Kh hV;have HQ:=Kh hQ;have hP:=Kh oE;have cI:=Kh eG;have HT:=Kh hT;clear hK hU hV hQ oE eG hT eF gL iL mA hu2 hv1 hv2;go_enter func217,ntmps217
 go_wp2;go_quiet (fail)
 go_wp2;go_quiet (fail)
 go_upto_block 0 with(fail)
 clear pI pK oF oH pJ;go_cut [7]from 48 to 81 (λv7 wc=>∃h:Nat,v7=.int .u64 h/\Q<=h/\h<=Q+1/\(h:Int)<4294967296/\∃k,wc=w.drewN k)
 case first=>
  go_wp2_with fail
  go_loopw [7,8] (λv7 v8 wr=>∃q r':Nat,v7=.int .u64 q/\v8=.int .u64 r'/\q*v1+r'=T/\(r':Int)<4294967296/\Q<=q/\(q:Int)<=4294967297/\∃k,wr=w.drewN k) (λv7 _ _=>(intOf v7).toNat)
  case atStart=>exact⟨q0,r0,rfl,rfl,cI.1,by omega,hP.1,hY,_,by rw[Lx]⟩
  case round=>
   clear hP cI hY oG;obtain⟨q,r',rfl,rfl,eG,qX,nV,qW,k,rfl⟩:=hrel;have cI:=Kh eG;have pA:=Kh nV;clear eG nV;go_upto_region 4 with(fail)
   go_cut [69]from 48 to 69 (λv wc=>∃t:Bool,v=.bool t/\(t=true->Q<q)/\(t=false->q<4294967296/\q<=Q+1)/\∃k,wc=w.drewN k)
   case first=>
    have rI:IntKind.i64.wrap ((N:Int) - 2)=(N:Int) - 2:=IntWalk.i64_in _ (by omega);have rH:((N:Int) - 2).toNat=N - 2:=by omega
    have rE:0<=(N:Int) - 2:=by omega
    have rF:N - 2<N:=by omega
    have rG:N - 2<N+1:=by omega
    by_cases hge:(4294967296:Int)<=(q:Int)
    ·have hE:decide ((4294967296:Int)<=(q:Int))=true:=decide_eq_true hge
     have I:Q<q:=by have:=HK.1.small;have:=HQ.1;omega
     have bY:=Kh I;clear I;go_wp2;go_region
     go_wp2;go_meet
     case rel=>exact⟨true,rfl,λ_=>bY.1,λh=>by simp at h,_,by first|rfl|rw[Lx]|exact(Lx _ _ 1)⟩
    ·have hE:decide ((4294967296:Int)<=(q:Int))=false:=decide_eq_false hge
     have qE:=Kh hE;obtain⟨pv,gI⟩:∃pv,q*v2=pv:=⟨_,rfl⟩
     have qA:(q:Int)*(v2:Int)=(pv:Nat):=by rw[<-gI];exact(Int.natCast_mul _ _).symm
     have oC:pv<=4294967295*4294967295:=by rw[<-gI];exact Nat.mul_le_mul (by omega) (by omega)
     have pX:(pv:Int)<=18446744065119617025:=by omega
     have oB:=dB r' u2 (by omega) (by omega);obtain⟨z,hz⟩:∃z,u2+4294967296*r'=z:=⟨_,rfl⟩
     rw[hz]at oB;by_cases hgt:(z:Int)<(pv:Int)
     ·have I:Q<q:=by rw[<-HQ.1];exact HK.1.down cI.1 (by omega)
      have bY:=Kh I;clear I hz gI oC;go_wp2;go_region
      go_wp2;go_meet
      case rel=>exact⟨true,rfl,λ_=>bY.1,λh=>by simp at h,_,by first|rfl|rw[Lx]|exact(Lx _ _ 1)⟩
     ·have I:q<=Q+1:=by rw[<-HQ.1];exact HK.1.upA cI.1 (by omega) (by omega)
      have hZ:q<4294967296:=by omega
      have bY:=Kh I;have oZ:=Kh hZ;clear I hZ hz gI oC;go_wp2;go_region
      go_wp2;go_meet
      case rel=>exact⟨false,Z5 (decide_eq_false (by omega)),λh=>by simp at h,λ_=>⟨oZ.1,bY.1⟩,_,by first|rfl|rw[Lx]|exact(Lx _ _ 1)⟩
   case rest=>
    obtain⟨t,rfl,ht,hf,k2,rfl⟩:=hcut;cases t with
    | true=>
     have I:=ht rfl;obtain⟨h,rfl⟩:∃h,q=h+1:=⟨q - 1,by omega⟩
     have hH:h*v1+(r'+v1)=T:=by have:=cI.1;rw[Nat.add_mul]at this;omega
     have dY:Q<=h:=by omega
     have hD:=Kh hH;have nQ:=Kh dY;clear ht hf hH I dY;by_cases hbr:(4294967296:Int)<=(r':Int)+(v1:Int)
     ·have oK:h<=Q:=by rw[<-HQ.1];exact HK.1.upB hD.1 (by omega) (by omega)
      have nZ:(h:Int)<4294967296:=by have:=HK.1.small;have:=HQ.1;omega
      go_wp2;go_meet
      case rel=>exact⟨h,by go_num,nQ.1,by omega,nZ,_,by first|rfl|rw[Lx]⟩
     ·go_wp2
      go_roundw
      case rel=>exact⟨h,r'+v1,rfl,by go_num,hD.1,by omega,nQ.1,by omega,_,rfl⟩
      case measure=>simp[intOf]
    | false=>
     obtain⟨hZ,oK⟩:=hf rfl;clear ht hf;go_wp2;go_meet
     case rel=>exact⟨q,rfl,pA.1,oK,by omega,_,by first|rfl|rw[Lx]⟩
 case rest=>
  clear hP cI hY oG;obtain⟨h,rfl,hA,nS,nZ,k0,rfl⟩:=hcut;have nC:=Kh nS;have HA:=Kh hA;clear hA nS;go_wp2;go_loopw [9,10,84] (λv9 pQ mD wr=>∃i cy bw:Nat,i<=N/\v9=.int .u64 cy/\pQ=.int .u32 bw/\mD=.int .i64 i/\(cy:Int)<4294967296/\(bw:Int)<=1/\eM wr g K j i h (cy+bw) r b/\Only g w wr) (λ_ _ mD _=>N - (intOf mD).toNat)
  case atStart=>exact⟨0,0,0,Nat.zero_le _,rfl,rfl,rfl,by decide,by decide,⟨r,cM.1,λ_ _=>rfl,by simp[vf]⟩,(Only.refl _ _).drewN _⟩
  case round=>
   obtain⟨i,cy,bw,hi,rfl,rfl,rfl,pE,nW,⟨r2,E,bB,cT⟩,hO⟩:=hrel;have HO:=Kh hO;clear hO;have cC:r2 (j+i)=r (j+i):=bB (j+i) (.inr (nL _));by_cases hlt:(i:Int)<(N:Int)
   ·have cx:wr.cell? ⟨g,j+i,none⟩=some (.int .u32 (r (j+i):Nat)):=by rw[<-cC];exact E.1.cell (by omega)
    have fx:wr.frozen? ⟨g,j+i,none⟩=false:=E.1.frozen _;have cb:wr.cell? ⟨gv,ov+i,none⟩=some (.int .u32 (b i:Nat)):=(HO.1.cell (p:=⟨gv,ov+i,none⟩) hG nY).trans (nD.1 i (by omega));have cD:((r (j+i):Nat):Int)<4294967296:=by have:=cM.1.2 (j+i) (by omega);omega
    have gN:((b i:Nat):Int)<4294967296:=by have:=HV.1.lt i (by omega);omega
    obtain⟨x,hx⟩:∃x,r (j+i)=x:=⟨_,rfl⟩
    obtain⟨y,hy⟩:∃y,b i=y:=⟨_,rfl⟩
    rw[hx]at cx cD;rw[hy]at cb gN;obtain⟨pp,hX⟩:∃pp,h*y=pp:=⟨_,rfl⟩
    have pY:(h:Int)*(y:Int)=(pp:Nat):=by rw[<-hX];exact(Int.natCast_mul _ _).symm
    have oD:pp<=4294967295*4294967295:=by rw[<-hX];exact Nat.mul_le_mul (by omega) (by omega)
    have pZ:(pp:Int)<=18446744065119617025:=by omega
    obtain⟨tl,pN⟩:∃tl,(pp+cy) % 4294967296=tl:=⟨_,rfl⟩
    obtain⟨cz,pF⟩:∃cz,(pp+cy) / 4294967296=cz:=⟨_,rfl⟩
    have qB:((pp:Int)+(cy:Int)) % 4294967296=(tl:Nat):=by omega
    have pV:((pp:Int)+(cy:Int)) / 4294967296=(cz:Nat):=by omega
    have oI:(tl:Int)<4294967296:=by omega
    have nX:(cz:Int)<4294967296:=by omega
    have HC:=I3 x tl bw wr cD oI nW;obtain⟨s,hs⟩:∃s:Nat,(s:Int)=((x:Int) - tl - bw) % 4294967296:=⟨(((x:Int) - tl - bw) % 4294967296).toNat,by omega⟩
    obtain⟨bz,aX⟩:∃bz:Nat,(if x<tl+bw then 1 else 0)=bz:=⟨_,rfl⟩
    have bA:(if x<tl+bw then(1:Int)else 0)=(bz:Nat):=by rw[<-aX];split <;> rfl
    have cS:(bz:Int)<=1:=by rw[<-bA];split <;> decide
    have cB:s+tl+bw=x+4294967296*bz:=by split at aX <;> omega
    rw[<-hs,bA]at HC;have aD:=Zx E bB cT hx hy (show tl+4294967296*cz=h*y+cy by omega) cB (by omega);have HN:=Kh aD;have HC:=Kh HC;clear aD E bB cT hx hy hX oD pN pF hs aX bA cB cC;go_wp2_with (go_at_call 203;refine HC.1.mono ?_;rintro e w' ⟨rfl,rfl⟩)
    go_roundw
    case rel=>exact⟨i+1,cz,bz,by omega,rfl,rfl,by go_num,nX,cS,HN.1,HO.1.set _ _⟩
    case measure=>simp[intOf];omega
   ·obtain rfl:i=N:=by omega
    have cx:wr.cell? ⟨g,j+i,none⟩=some (.int .u32 (r (j+i):Nat)):=by rw[<-cC];exact E.1.cell (by omega)
    have fx:wr.frozen? ⟨g,j+i,none⟩=false:=E.1.frozen _;have cD:((r (j+i):Nat):Int)<4294967296:=by have:=cM.1.2 (j+i) (by omega);omega
    obtain⟨x,hx⟩:∃x,r (j+i)=x:=⟨_,rfl⟩
    rw[hx]at cx cD;have pU:(cy:Int) % 4294967296=(cy:Int):=by omega
    have HC:=I3 x cy bw wr cD pE nW;obtain⟨s,hs⟩:∃s:Nat,(s:Int)=((x:Int) - cy - bw) % 4294967296:=⟨(((x:Int) - cy - bw) % 4294967296).toNat,by omega⟩
    obtain⟨bz,aX⟩:∃bz:Nat,(if x<cy+bw then 1 else 0)=bz:=⟨_,rfl⟩
    have bA:(if x<cy+bw then(1:Int)else 0)=(bz:Nat):=by rw[<-aX];split <;> rfl
    have cS:(bz:Int)<=1:=by rw[<-bA];split <;> decide
    have cB:s+cy+bw=x+4294967296*bz:=by split at aX <;> omega
    rw[<-hs,bA]at HC;have aD:=Zw E bB cT hx cB (by omega);rw[HU.1,hS.1]at aD;have HN:=Kh aD;have HC:=Kh HC;have nT:=HO.1.set (j+i) (.int .u32 (s:Nat));have eX:=Kh nT;have qT:(h:Int) % 4294967296=(h:Int):=by omega
    clear aD E bB cT hx hs aX bA cB cC nT;by_cases hb0:bz=0
    ·subst hb0
     obtain⟨r3,J,O,aK⟩:=HN.1;have hd:=Q6 rfl J O aK HQ.1 HA.1 HK.1.Vpos;obtain⟨dE,hd⟩:=hd;have HD:=Kh hd;have hJ:=Kh dE;clear J O aK hd dE;go_wp2_with (go_at_call 203;refine HC.1.mono ?_;rintro e w' ⟨rfl,rfl⟩)
     go_ret;exact⟨A5 (by rw[hJ.1]),eX.1,HD.1⟩
    ·obtain rfl:bz=1:=by omega
     clear hb0;obtain⟨r3,J,O,aK⟩:=HN.1;have dE:=fI J.2 rfl aK oA HQ.1 HA.1 nC.1;have hJ:=Kh dE;have qS:(1:Int)<=(h:Int):=by omega
     have pW:((h:Int) - 1) % 4294967296=(h:Int) - 1:=by omega
     have nR:=Kh J.2;have hR:=Kh J;have oW:=Kh O;have pB:=Kh aK;clear J O aK dE HN;go_wp2_with (go_at_call 203;refine HC.1.mono ?_;rintro e w' ⟨rfl,rfl⟩)
     obtain⟨w3,oN⟩:∃w3,World.setCell w' ⟨g,j+i,none⟩ (.int .u32 (s:Nat))=w3:=⟨_,rfl⟩
     rw[oN]at hR eX ⊢;clear oN cx fx HC HO;go_loopw [14,132] (λpR eT wr=>∃i2 bk:Nat,i2<=i/\pR=.int .u32 bk/\eT=.int .i64 i2/\(bk:Int)<=1/\Vw wr g K j i2 bk r3 b/\Only g w wr) (λ_ eT _=>i - (intOf eT).toNat)
     case atStart=>exact⟨0,0,Nat.zero_le _,rfl,rfl,by decide,⟨r3,hR.1,λ_ _=>rfl,by simp[vf]⟩,eX.1⟩
     case round=>
      obtain⟨i2,bk,qV,rfl,rfl,qR,⟨r4,M,Z,bC⟩,nU⟩:=hrel;have eY:=Kh nU;clear nU eX hR;have cC:r4 (j+i2)=r3 (j+i2):=Z (j+i2) (.inr (nL _));have fx:wr.frozen? ⟨g,j+i2,none⟩=false:=M.1.frozen _;have cx:wr.cell? ⟨g,j+i2,none⟩=some (.int .u32 (r4 (j+i2):Nat)):=M.1.cell (by omega);have cD:((r4 (j+i2):Nat):Int)<4294967296:=by have:=M.2 (j+i2) (by omega);omega
      obtain⟨x4,hx⟩:∃x4,r3 (j+i2)=x4:=⟨_,rfl⟩
      rw[cC,hx]at cx cD;by_cases hlt4:(i2:Int)<(i:Int)
      ·have cb:wr.cell? ⟨gv,ov+i2,none⟩=some (.int .u32 (b i2:Nat)):=(eY.1.cell (p:=⟨gv,ov+i2,none⟩) hG nY).trans (nD.1 i2 (by omega))
       have gN:((b i2:Nat):Int)<4294967296:=by have:=HV.1.lt i2 (by omega);omega
       obtain⟨y,hy⟩:∃y,b i2=y:=⟨_,rfl⟩
       rw[hy]at cb gN;have HC:=Mq x4 y bk wr cD gN (by omega);obtain⟨s4,hs⟩:∃s4,(x4+y+bk) % 4294967296=s4:=⟨_,rfl⟩
       obtain⟨bz,aX⟩:∃bz,(x4+y+bk) / 4294967296=bz:=⟨_,rfl⟩
       have pL:(s4:Int)<4294967296:=by omega
       have cS:(bz:Int)<=1:=by omega
       have aD:=T6 M Z bC hx hy hs aX;rw[hs,aX]at HC;have HN:=Kh aD;have HC:=Kh HC;clear aD M Z bC hx hy hs aX cC;go_wp2_with (go_at_call 201;refine HC.1.mono ?_;rintro e w' ⟨rfl,rfl⟩)
       go_roundw
       case rel=>exact⟨i2+1,bz,by omega,rfl,by go_num,cS,HN.1,eY.1.set _ _⟩
       case measure=>simp[intOf];omega
      ·obtain rfl:i2=i:=by omega
       obtain⟨s4,hs⟩:∃s4,(x4+bk) % 4294967296=s4:=⟨_,rfl⟩
       have qY:((x4:Int)+(bk:Int)) % 4294967296=(s4:Nat):=by omega
       have pL:(s4:Int)<4294967296:=by omega
       have oM:V<4294967296 ^ i2:=by rw[<-hS.1];exact D1 HV.1.lt
       rw[hS.1]at bC;obtain⟨_,hd⟩:=T5 M Z bC oW.1 rfl pB.1 oA nR.1 hx hs HQ.1 HA.1 nC.1 HK.1.Vpos oM;have HD:=Kh hd;have oY:=Kh (eY.1.set (j+i2) (.int .u32 (s4:Nat)));clear M Z bC hx hs cC hd oM eY;go_wp2;go_ret;exact⟨A5 (by have:=hJ.1;omega),oY.1,HD.1⟩
def Ip (w':World) (e:Ending) (q r:Nat):Prop:=∃p c p' c',e=.returned (.tuple #[.slice p (nd q) c,.slice p' (nd r) c'])/\Nm w' p c q/\Nm w' p' c' r
theorem dR (a:Nat->Nat) (m k:Nat):shf (shf a m) k=shf a (m+k):=by
 funext i;unfold shf;rw[Nat.add_assoc]
theorem D4 (r:Nat->Nat) (k n:Nat):vf (shf r k) (n+1)=r k+4294967296*vf (shf r (k+1)) n:=by
 rw[Hm,dR];rfl
def Hr (w:World) (gu gq N M k:Nat) (r0:Nat->Nat) (V:Nat):Prop:=
 ∃r q,Row w gu (M+N) r/\Row w gq M q/\(∀l,l<k->r l=r0 l)/\vf (shf r k) N=vf (shf r0 k) (M+N - k) % V/\vf (shf q k) (M - k)=vf (shf r0 k) (M+N - k) / V
theorem Rf {w:World} {J I N M V:Nat} {E q:Nat->Nat} (O:Row w J (M+N) E) (hq:Row w I M q) (hV:vf (shf E M) N<V):Hr w J I N M M E V:=by
 refine⟨E,q,O,hq,λ_ _=>rfl,?_,?_⟩
 ·rw[show M+N - M=N from by omega,Nat.mod_eq_of_lt hV]
 ·rw[show M+N - M=N from by omega,Nat.sub_self,Nat.div_eq_of_lt hV];rfl
theorem Pf {N k V X:Nat} {r J:Nat->Nat} (E:∀l,l<k+1->r l=J l) (I:vf (shf r (k+1)) N=X % V) (hV:0<V):vf (shf r k) (N+1)=J k+4294967296*(X % V)/\(J k<4294967296->vf (shf r k) (N+1)<V*4294967296):=by
 have M:vf (shf r k) (N+1)=J k+4294967296*(X % V):=by rw[D4,I,E k (by omega)]
 refine⟨M,λO=>?_⟩;rw[M];have U:=Nat.mod_lt X hV;omega
theorem Ki {x X V:Nat} (hV:0<V):(x+4294967296*X) / V=(x+4294967296*(X % V)) / V+4294967296*(X / V)/\(x+4294967296*X) % V=(x+4294967296*(X % V)) % V:=by
 have h:x+4294967296*X=(x+4294967296*(X % V))+V*(4294967296*(X / V)):=by
  have:=Nat.div_add_mod X V;generalize X / V=Q at *;generalize X % V=R at *;rw[<-this];grind
 rw[h];exact⟨Nat.add_mul_div_left _ _ hV,Nat.add_mul_mod_self_left _ _ _⟩
theorem U5 {w:World} {h U N M k V X Q:Nat} {r E O q:Nat->Nat} (hk:k<M) (hX:vf (shf E (k+1)) (M+N - (k+1))=X) (Z:∀l,l<k+1->r l=E l)
  (hu:Row w h (M+N) O) (J:∀l,l<k∨k+N<l->O l=r l) (I:vf (shf O k) (N+1)=(E k+4294967296*(X % V)) % V)
  (hq:Row w U M q) (bB:vf (shf q (k+1)) (M - (k+1))=X / V) (hV:0<V) (cB:V<=4294967296 ^ N) (hQ:(E k+4294967296*(X % V)) / V=Q) (aX:Q<4294967296) (bA:U≠h):
  Hr (w.setCell ⟨U,k,none⟩ (.int .u32 Q)) h U N M k E V:=by
 refine⟨O,upd q k Q,⟨hu.1.of_block (Below.heap_setCell w ⟨U,k,none⟩ _ h (Ne.symm bA)),hu.2⟩,hq.set k Q aX,λl hl=>by rw[J l (.inl hl)];exact Z l (by omega),?_,?_⟩
 ·have h1:vf (shf E k) (M+N - k)=E k+4294967296*X:=by
   rw[show M+N - k=(M+N - (k+1))+1 from by omega,D4,hX]
  have h2:=(Ki (x:=E k) (X:=X) hV).2;rw[h1,h2,<-I];have h3:=Nat.mod_lt (E k+4294967296*(X % V)) hV;rw[<-I,vf]at h3;rw[vf];rcases Nat.eq_zero_or_pos (shf O k N)with h4|h4
  ·rw[h4];simp
  ·exfalso
   have h5:=Nat.mul_le_mul_left (4294967296 ^ N) (show 1<=shf O k N from h4);omega
 ·have h1:vf (shf E k) (M+N - k)=E k+4294967296*X:=by
   rw[show M+N - k=(M+N - (k+1))+1 from by omega,D4,hX]
  have h2:=(Ki (x:=E k) (X:=X) hV).1;rw[h1,h2,hQ,<-bB,show M - k=(M - (k+1))+1 from by omega,D4];rw[show upd q k Q k=Q from by simp[upd]];congr 2;exact Dz λi _=>by unfold shf upd;rw[if_neg (by omega)]
theorem Ye {w:World} {J I N M V:Nat} {E:Nat->Nat} (h:Hr w J I N M 0 E V):
  ∃r q,Row w J (M+N) r/\Row w I M q/\vf r N=vf E (M+N) % V/\vf q M=vf E (M+N) / V:=by
 obtain⟨r,q,Z,h2,_,O,U⟩:=h;have e:∀a:Nat->Nat,shf a 0=a:=λa=>by funext i;unfold shf;rw[Nat.zero_add]
 simp only[e,Nat.sub_zero]at O U;exact⟨r,q,Z,h2,O,U⟩
theorem G3:∀(f x:Nat),x<2 ^ f->x<2 ^ Lib.bitLenAux f x
 | 0,x,h=>by simpa [Lib.bitLenAux] using h
 | f+1,x,h=>by
  rw[Lib.bitLenAux];by_cases h0:x=0
  ·rw[if_pos h0,h0];simp
  ·rw[if_neg h0]
   have E:=G3 f (x / 2) (by rw[Nat.pow_succ]at h;omega);rw[Nat.add_comm,Nat.pow_succ];omega
theorem U7 (t:Nat) (h:t<2 ^ 64):t<2 ^ Lib.bitLen t:=G3 64 t h
theorem Ju (t:Nat) (h:t≠0):1<=Lib.bitLen t:=by
 unfold Lib.bitLen;rw[show(64:Nat)=63+1 from rfl,Lib.bitLenAux,if_neg h];omega
theorem T7 (t:Nat) (E:t≠0):2 ^ (Lib.bitLen t - 1)<=t:=by
 rcases Nat.lt_or_ge t (2 ^ (Lib.bitLen t - 1))with h|h
 ·exfalso
  have I:=Lib.bitLenAux_le 64 t _ h;have J:=Ju t E;unfold Lib.bitLen at I J;omega
 ·exact h
theorem Yg {v t s:Nat} (hv:v≠0) (O:v / 4294967296 ^ (nd v - 1)=t) (hs:s+Lib.bitLen t=32):
  s<32/\t<4294967296/\nd (v*2 ^ s)=nd v/\2147483648<=dg (v*2 ^ s) (nd v - 1)/\v*2 ^ s<4294967296 ^ (nd v)/\4294967296 ^ (nd v - 1)*2147483648<=v*2 ^ s:=by
 obtain⟨m,hm⟩:∃m,nd v=m+1:=⟨nd v - 1,by have:=Bs.2 hv;omega⟩
 have h1:=iF hv;have h2:=Bf.1 (nL (nd v));rw[hm]at h1 h2 O;rw[hm];simp only[Nat.add_sub_cancel]at *;have J:0<4294967296 ^ m:=Dig.pow_pos m
 have t0:t≠0:=by
  have:1<=v / 4294967296 ^ m:=(Nat.le_div_iff_mul_le J).2 (by omega);omega
 have t1:t<4294967296:=by rw[<-O,Nat.div_lt_iff_lt_mul J,<-Ay];exact h2
 have l3:=U7 t (by omega);have l2:=T7 t t0;have l1:=Ju t t0;generalize Lib.bitLen t=L at *;obtain⟨l,rfl⟩:∃l,L=l+1:=⟨L - 1,by omega⟩
 have V:s<32:=by omega
 have h:2 ^ s*2 ^ (l+1)=4294967296:=by rw[<-Nat.pow_add,hs]
 have e2:2 ^ s*2 ^ l=2147483648:=by rw[Nat.pow_succ,<-Nat.mul_assoc]at h;omega
 simp only[Nat.add_sub_cancel]at l2;have v1:4294967296 ^ m*t<=v:=by rw[<-O];exact Nat.mul_div_le _ _
 have v2:v<4294967296 ^ m*(t+1):=by rw[<-O];exact Nat.lt_mul_div_succ _ J
 obtain⟨P,E⟩:∃P,4294967296 ^ m=P:=⟨_,rfl⟩
 rw[E]at J v1 v2 ⊢
 have Z:P*2147483648<=v*2 ^ s:=by
  have I:=Nat.mul_le_mul_left P (Nat.mul_le_mul_left (2 ^ s) l2);have M:=Nat.mul_le_mul_right (2 ^ s) v1;rw[e2]at I;have e3:P*(2 ^ s*t)=P*t*2 ^ s:=by grind
  omega
 have U:v*2 ^ s<4294967296*P:=by
  have I:=Nat.mul_le_mul_left P (Nat.mul_le_mul_left (2 ^ s) (show t+1<=2 ^ (l+1)from l3));have M:=Nat.mul_lt_mul_of_pos_right v2 (Nat.two_pow_pos s);rw[h]at I;have e3:P*(2 ^ s*(t+1))=P*(t+1)*2 ^ s:=by grind
  omega
 have n1:nd (v*2 ^ s)=m+1:=by
  have I:=(Bf (v:=v*2 ^ s) (k:=m+1)).2 (by rw[Ay];exact E▸U)
  have M:¬nd (v*2 ^ s)<=m:=λh7=>by
   have h8:=Bf.1 h7;rw[E]at h8;have h9:=Nat.mul_le_mul_left P (show 1<=2147483648 by omega);omega
  omega
 refine⟨V,t1,n1,?_,by rw[Ay,E];exact U,Z⟩;unfold dg;rw[E];have I:2147483648<=v*2 ^ s / P:=(Nat.le_div_iff_mul_le J).2 (by rw[Nat.mul_comm];exact Z);have M:v*2 ^ s / P<4294967296:=by rw[Nat.div_lt_iff_lt_mul J];exact U
 rw[Nat.mod_eq_of_lt M];exact I
def sg (s:Bool) (m:Nat):Int:=if s then -(m:Int)else(m:Int)
theorem Nv (s:Bool) (m:Nat):(sg s m).natAbs=m:=by unfold sg;split <;> omega
theorem iQ (s:Bool) (m:Nat):decide (sg s m<0)=(s&&decide (m≠0)):=by
 cases s
 ·simp[sg]
 ·simp only[sg,if_true,Bool.true_and,decide_eq_decide];omega
theorem dQ (s:Bool) (u v:Nat):sg s u+sg s v=sg s (u+v):=by unfold sg;split <;> omega
theorem dO (s:Bool) (u v:Nat) (h:v<=u):sg s u+sg (!s) v=sg s (u - v):=by cases s <;> simp[sg] <;> omega
theorem dP (s:Bool) (u v:Nat) (h:u<=v):sg s u+sg (!s) v=sg (!s) (v - u):=by cases s <;> simp[sg] <;> omega
theorem iP (s t:Bool) (u v:Nat):sg s u*sg t v=sg (s != t) (u*v):=by
 cases s <;> cases t <;> simp[sg,Int.neg_mul,Int.mul_neg]
theorem iR (s:Bool) (u:Nat):sg (!s) u=- sg s u:=by cases s <;> simp[sg]
theorem Cy (u:Nat):sg false u=u:=rfl
theorem Tf (z:Int):sg (decide (z<0)) z.natAbs=z:=by
 by_cases h:z<0
 ·rw[decide_eq_true h];simp only[sg,if_true];omega
 ·rw[decide_eq_false h];simp only[sg,Bool.false_eq_true,if_false];omega
def Zr (w:World) (s:Bool) (p:Option Addr) (n c:Nat) (z:Int):Prop:=∃a,Dg w p c n a/\sg s (vf a n)=z
def Zs (w:World) (s:Bool) (p:Option Addr) (n c:Nat) (z:Int):Prop:=s=decide (z<0)/\nd z.natAbs=n/\Nm w p c z.natAbs
theorem Zr.keep {w w':World} {s:Bool} {p:Option Addr} {n c:Nat} {z:Int} (h:Zr w s p n c z) (J:Below w.heap.size w w'):Zr w' s p n c z:=by
 obtain⟨a,E,I⟩:=h;exact⟨a,E.keep J,I⟩
theorem Zs.keep {w w':World} {s:Bool} {p:Option Addr} {n c:Nat} {z:Int} (h:Zs w s p n c z) (E:Below w.heap.size w w'):Zs w' s p n c z:=⟨h.1,h.2.1,h.2.2.keep E⟩
theorem Zs.raw {w:World} {s:Bool} {p:Option Addr} {n c:Nat} {z:Int} (h:Zs w s p n c z):Zr w s p n c z:=by
 obtain⟨J,I,E⟩:=h;unfold Nm at E;rw[I]at E;exact⟨_,E,by rw[J,<-I,Bt,Tf]⟩
theorem Zr.size {w:World} {s:Bool} {p:Option Addr} {n c:Nat} {z:Int} (h:Zr w s p n c z):nd z.natAbs<=n:=by
 obtain⟨a,E,I⟩:=h;rw[<-I,Nv];exact Bf.2 (D1 E.lt)
def K7 (w':World) (e:Ending) (z:Int):Prop:=∃s p n c,e=.returned (.agg #[.bool s,.slice p n c])/\Zs w' s p n c z
theorem Ts {w:World} {p:Option Addr} {c m k:Nat} {s t:Bool} (h:Nm w p c m) (E:nd m=k) (I:t=(s&&decide (0<k))):Zs w t p k c (sg s m):=by
 refine⟨?_,by rw[Nv];exact E,by rw[Nv];exact h⟩;rw[iQ,I,<-E];congr 1;rw[decide_eq_decide];exact Bs
def Di (a:Nat->Nat) (n:Nat):List Value:=(List.range n).map λi=>.int .u32 (a i:Nat)
theorem Is (a:Nat->Nat) (n:Nat):(Di a n).length=n:=by simp[Di]
theorem Ir {a:Nat->Nat} {n j:Nat} (h:j<n):(Di a n)[j]?=some (.int .u32 (a j:Nat)):=by simp[Di,h]
theorem Qz {a:Nat->Nat} {n j:Nat} {u:Value} (h:(Di a n)[j]?=some u):j<n/\u=.int .u32 (a j:Nat):=by
 have E:j<n:=by
  rcases Nat.lt_or_ge j n with E|E
  ·exact E
  ·rw[List.getElem?_eq_none (by rw[Is];exact E)]at h;cases h
 rw[Ir E]at h;injection h with h
 exact⟨E,h.symm⟩
theorem Ox {a:Nat->Nat} {n:Nat}:∀u∈Di a n,u.oneCell'=true:=by
 intro u E;obtain⟨i,_,rfl⟩:=List.mem_map.1 E;rfl
theorem Dg.of_own {w:World} {B n:Nat} {v:Value} {a:Nat->Nat} (h:w.ownsRow B 200 1 v n (Di a n)) (E:∀j,j<n->a j<4294967296):∃p c,v=.slice p n c/\Dg w p c n a:=by
 rcases Cb h with⟨rfl,rfl,_⟩ |⟨g,cap,rfl,_,hg,I⟩
 ·exact⟨none,0,rfl,nL _,E,.inl rfl⟩
 ·exact⟨_,_,rfl,I,E,.inr ⟨g,0,rfl,hg,λj J=>by rw[Nat.zero_add];exact Ai h (Ir J)⟩⟩
theorem Z4:prog.underlying 82=some (.slice 200):=underlying82
theorem R9 (p:Option Addr) (c n:Nat) (a:Nat->Nat) (w:World) (h:Dg w p c n a) (hn:n<=35184372088830):
  Calls prog 147 #[.slice p n c] w λe w'=>RetD w' e n (vf a n)/\Below w.heap.size w w':=by
 cases p with
 | none=>
  obtain rfl:n=0:=by
   rcases h.at' with h1 |⟨g,o,e,_⟩
   ·exact h1
   ·cases e
  clear h;have aN:∀(w:World) (a:Option Addr) (n c O J:Nat),(binOp .eql 82 (.slice a n c) (.slice none O J)).run prog w=.ok (.bool a.isNone) w:=λw a n c O J=>Lib.run_eql_slice_nil w _ _ a n c O J Z4
  go_enter func147,ntmps147
  go_wp2;go_ret;exact⟨⟨none,0,a,rfl,⟨nL _,λj V=>absurd V (Nat.not_lt_zero _),.inl rfl⟩,rfl⟩,Below.refl _ _⟩
 | some q=>
  have E:∀(o:Obj) (j:Nat) (u:Value),(Di a n)[j]?=some u->(w.alloc o).cell? (q.add j)=some u:=by
   intro o j u hu;obtain⟨V,rfl⟩:=Qz hu;obtain⟨g,o',e,hg,hc⟩:=h.head (by omega);injection e with e
   subst e;rw[Addr.add_lit];exact Lib.cell?_alloc_some _ (hc j V)
  have HC:=Kh E;have HL:=Kh h.lt;have HN:=Kh hn;clear E h hn;obtain⟨i0,hi,Z,aD,aK⟩:=info_parts N0;have aN:∀(w:World) (a:Option Addr) (n c O J:Nat),(binOp .eql 82 (.slice a n c) (.slice none O J)).run prog w=.ok (.bool a.isNone) w:=λw a n c O J=>Lib.run_eql_slice_nil w _ _ a n c O J Z4
  go_enter func147,ntmps147
  go_wp2_with (at_builtin;refine wpList_append_own _ rfl _ _ 82 rfl w.heap.size 200 i0 (.int .u32 0) 1 4 Z4 hi Z aD aK rfl (by decide) _ _ _ rfl (World.ownsRow_made w #[] 0 (nL _) (Nat.zero_le _) rfl) q n c (Di a n) rfl ?qc1 ?qc2 ?qc3 ?qc4 ?qc5 ?qc6 ?_)
  case qc1=>rw[Is,Nat.mul_one]
  case qc2=>exact HC.1 _
  case qc3=>exact Ox
  case qc4=>have:=HN.1;unfold maxLen;omega
  case qc5=>have:=HN.1;omega
  case qc6=>simp
  intro v' w1 M I U;have hb:Below w.heap.size w w1:=((Below.refl _ w).alloc (nL _) _).grown I (by simp) (by intro k hk;simp[Value.ownBlock]at hk;omega);obtain⟨p',J,rfl,hd⟩:=Dg.of_own (n:=n) (a:=a) (by simpa using M) HL.1;have HD:=Kh hd;have HB:=Kh hb;clear M I U hd hb;go_wp2;go_ret;exact⟨⟨p',J,a,rfl,HD.1,rfl⟩,HB.1⟩
end
end Go.Proofs.YtenlbhlllgppmaaGreatDoor
