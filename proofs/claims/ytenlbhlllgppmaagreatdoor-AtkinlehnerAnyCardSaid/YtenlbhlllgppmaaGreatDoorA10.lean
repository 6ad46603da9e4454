/- Contracts of bigint's shifted and unshifted. -/
import Derived.Test.YtenlbhlllgppmaaGreatDoorA09
import Derived.Deep.CutBlock
set_option maxRecDepth 100000
set_option maxHeartbeats 8000000
namespace Go.Proofs.YtenlbhlllgppmaaGreatDoor
section
open Go.RowKit Tryz
theorem Ic {s:Nat} (I:s<32):(4294967296:Nat)=2 ^ s*2 ^ (32 - s):=by
 rw[<-Nat.pow_add,show s+(32 - s)=32 from by omega]
theorem S5 (x s:Nat) (I:s<32):x*2 ^ s % 4294967296=2 ^ s*(x % 2 ^ (32 - s)):=by
 rw[Ic I,Nat.mul_comm x,Nat.mul_mod_mul_left]
theorem Yj (x s r:Nat) (I:s<32) (hr:r<2 ^ s):r+x*2 ^ s % 4294967296<4294967296:=by
 rw[S5 x s I];have J:=Nat.mod_lt x (Nat.two_pow_pos (32 - s));have M:=Nat.mul_le_mul_left (2 ^ s) (show x % 2 ^ (32 - s)+1<=2 ^ (32 - s)from J);rw[<-Ic I,Nat.mul_add,Nat.mul_one]at M;omega
theorem fJ (x s r:Nat) (I:s<32) (hr:r<2 ^ s):bits .or .u32 (r:Int) (((x*2 ^ s:Nat):Int) % 4294967296)=((r+x*2 ^ s % 4294967296:Nat):Int):=by
 have M:=Yj x s r I hr;have J:((x*2 ^ s:Nat):Int) % 4294967296=((x*2 ^ s % 4294967296:Nat):Int):=by rw[Int.natCast_emod];rfl
 rw[J,u32_or_nat _ _ (by omega) (Nat.mod_lt _ (by omega)),Nat.or_comm,S5 x s I,<-Nat.two_pow_add_eq_or_of_lt hr,Nat.add_comm]
theorem S6 (x s:Nat) (I:x<4294967296):x*2 ^ s / 4294967296<2 ^ s:=by
 rw[Nat.div_lt_iff_lt_mul (by omega),Nat.mul_comm];exact Nat.mul_lt_mul_of_pos_left I (Nat.two_pow_pos s)
theorem Ex {s:Nat} (I:s<32):2 ^ s<=2147483648:=by
 have:=Nat.pow_le_pow_right (show 0<2 by omega) (show s<=31 by omega);omega
theorem Yk (x s:Nat) (J:s<32) (O:x<4294967296):IntKind.u64.wrap ((x:Int)*2 ^ s)=((x*2 ^ s:Nat):Int):=by
 have M:x*2 ^ s<=4294967295*2147483648:=Nat.mul_le_mul (by omega) (Ex J);have I:(x:Int)*2 ^ s=((x*2 ^ s:Nat):Int):=by rw[Int.natCast_mul,Int.natCast_pow];rfl
 rw[I,IntKind.wrap_u64];generalize x*2 ^ s=t at *;omega
def Rr (w:World) (g n1 k s t:Nat):Prop:=∃r,Row w g n1 r/\vf r (k+1)=t*2 ^ s/\r k<2 ^ s
theorem Ri {w:World} {g V k s x y z:Nat} {a r:Nat->Nat} (I:Row w g V r) (hv:vf r (k+1)=vf a k*2 ^ s) (J:r k<2 ^ s) (O:s<32) (hx:a k=x) (M:x<4294967296) (hy:r k+x*2 ^ s % 4294967296=y) (U:x*2 ^ s / 4294967296=z):
  Rr ((w.setCell ⟨g,k,none⟩ (.int .u32 y)).setCell ⟨g,k+1,none⟩ (.int .u32 z)) g V (k+1) s (vf a (k+1)):=by
 have h1:=Yj x s (r k) O J;have Y:=S6 x s M;have h3:=Ex O;refine⟨_,(I.set k y (by omega)).set (k+1) z (by omega),?_,by show(if k+1=k+1 then z else _)<_;rw[if_pos rfl,<-U];exact Y⟩;rw[vf,Bq (mG _),vf,Bq (mG _),show upd (upd r k y) (k+1) z (k+1)=z from by simp[upd],show upd r k y k=y from by simp[upd],vf,hx,Nat.add_mul,<-hv,vf,Ay];have Z:x*2 ^ s=x*2 ^ s % 4294967296+4294967296*z:=by rw[<-U];omega
 have h:4294967296 ^ k*x*2 ^ s=4294967296 ^ k*(x*2 ^ s % 4294967296)+4294967296*4294967296 ^ k*z:=by
  rw[Nat.mul_assoc,Nat.mul_comm 4294967296,Nat.mul_assoc,<-Nat.mul_add,<-Z]
 rw[h,<-hy,Nat.mul_add];omega
def fQ (B:Nat) (w':World) (e:Ending) (k t:Nat):Prop:=∃g c r,e=.returned (.slice (some ⟨g,0,none⟩) k c)/\k<=c/\B<=g/\Row w' g k r/\vf r k=t
theorem Lv (p:Option Addr) (c n:Nat) (a:Nat->Nat) (s:Nat) (w:World) (h1:Dg w p c n a) (hn:n<=70368744177660) (hs:(s:Int)<32):
  Calls prog 216 #[.slice p n c,.int .u64 s] w λe w'=>fQ w.heap.size w' e (n+1) (vf a n*2 ^ s)/\Below w.heap.size w w':=by
 have bC:∀w,(Instr.makeSlice 82 (.int .i64 ((n:Int)+1)) (.int .i64 ((n:Int)+1))).run prog w=.ok (.slice (some ⟨w.heap.size,0,none⟩) (n+1) (n+1)) (w.alloc (.cells (madeCells #[.int .u32 0] (n+1)) 200)):=Gk (n+1) (by omega)
 have I:=Row.made w (n+1);have H1:=Kh h1;have HR:=Kh I;clear h1 I;go_enter func216,ntmps216
 go_wp2;obtain⟨wb,J⟩:∃wb,w.alloc (.cells (madeCells #[.int .u32 0] (n+1)) 200)=wb:=⟨_,rfl⟩
 rw[J];have M:Below w.heap.size w wb:=by rw[<-J];exact(Below.refl _ _).alloc (mG _) _
 rw[J]at HR;have aN:=Kh M;clear J M bC;go_loopw [15] (λU wr=>∃k:Nat,k<=n/\U=.int .i64 k/\Rr wr w.heap.size (n+1) k s (vf a k)/\Below w.heap.size w wr) (λU _=>n - (intOf U).toNat)
 case atStart=>exact⟨0,Nat.zero_le _,rfl,⟨_,HR.1,by simp[vf],Nat.two_pow_pos s⟩,aN.1⟩
 case round=>
  obtain⟨k,hk,rfl,⟨r,I,hv,h⟩,hb⟩:=hrel;have HB:=Kh hb;have HV:=Kh hv;have V:=Kh h;clear hb hv h;by_cases hlt:(k:Int)<(n:Int)
  ·obtain⟨g1,o1,rfl,bB,Y⟩:=H1.1.head (by omega)
   have c1:wr.cell? ⟨g1,o1+k,none⟩=_:=(HB.1.cell (p:=⟨g1,o1+k,none⟩) bB).trans (Y k (by omega));have bG:((a k:Nat):Int)<4294967296:=by have:=H1.1.lt k (by omega);omega
   obtain⟨x,hx⟩:∃x,a k=x:=⟨_,rfl⟩
   rw[hx]at c1 bG;have dY:wr.cell? ⟨w.heap.size,k,none⟩=some (.int .u32 (r k:Nat)):=I.1.cell (by omega);have dX:wr.frozen? ⟨w.heap.size,k,none⟩=false:=I.1.frozen _;have cG:wr.cell? ⟨w.heap.size,k+1,none⟩=some (.int .u32 (r (k+1):Nat)):=I.1.cell (by omega);have cF:wr.frozen? ⟨w.heap.size,k+1,none⟩=false:=I.1.frozen _;have aD:=Yk x s (by omega) (by omega);have Z:=fJ x s (r k) (by omega) V.1;have O:=Ri I HV.1 V.1 (by omega) hx (by omega) rfl rfl
   have hcut:((x*2 ^ s:Nat):Int) / 4294967296 % 4294967296=((x*2 ^ s / 4294967296:Nat):Int):=by
    have h1:=S6 x s (by omega);have h2:=Ex (s:=s) (by omega);generalize x*2 ^ s=t at *;omega
   have HN:=Kh O;have HW:=Kh aD;have HO:=Kh Z;have aX:=Kh hcut;clear O I Y hx aD Z hcut;go_wp2;rw[HW.1,HO.1,aX.1];go_roundw
   case rel=>exact⟨k+1,by omega,by go_num,HN.1,(HB.1.setCell (mG _) _).setCell (mG _) _⟩
   case measure=>simp[intOf];omega
  ·obtain rfl:k=n:=by omega
   go_wp2;go_ret;have hR:fQ w.heap.size wr (.returned (.slice (some ⟨w.heap.size,0,none⟩) (k+1) (k+1))) (k+1) (vf a k*2 ^ s):=⟨_,_,r,rfl,mG _,mG _,I,HV.1⟩
   exact⟨hR,HB.1⟩
theorem lA {a:Nat->Nat} {n:Nat} (h:∀i,i<n->a i<4294967296) {i:Nat} (I:i<=n):vf a n / 4294967296 ^ i=vf (shf a i) (n - i):=by
 obtain⟨k,rfl⟩:∃k,n=i+k:=⟨n - i,by omega⟩
 rw[Hp,Nat.add_sub_cancel_left,Nat.add_mul_div_left _ _ (Dig.pow_pos i),Nat.div_eq_of_lt (Ds λj J=>h j (by omega)),Nat.zero_add]
theorem Lf {a:Nat->Nat} {n s i:Nat} (h:∀i,i<n->a i<4294967296) (O:s<32) (J:i<n):dg (vf a n / 2 ^ s) i=(a i+4294967296*ext a n (i+1)) / 2 ^ s % 4294967296:=by
 unfold dg;rw[Nat.div_div_eq_div_mul,Nat.mul_comm,<-Nat.div_div_eq_div_mul,lA h (Nat.le_of_lt J)];obtain⟨m,M⟩:∃m,n - i=m+1:=⟨n - i - 1,by omega⟩
 rw[M,Ho,show shf a i 0=a i from rfl]
 have U:∃Z,vf (shf (shf a i) 1) m=ext a n (i+1)+4294967296*Z:=by
  cases m with
  | zero=>exact⟨0,by unfold ext;rw[if_neg (by omega)];rfl⟩
  | succ m=>exact⟨vf (shf (shf (shf a i) 1) 1) m,by rw[Ho];unfold ext;rw[if_pos (by omega)];unfold shf;simp⟩
 obtain⟨Z,I⟩:=U;rw[I]
 have e:a i+4294967296*(ext a n (i+1)+4294967296*Z)=(a i+4294967296*ext a n (i+1))+2 ^ s*(4294967296*(2 ^ (32 - s)*Z)):=by
  have:=Ic O;rw[Nat.mul_add,show 2 ^ s*(4294967296*(2 ^ (32 - s)*Z))=(2 ^ s*2 ^ (32 - s))*(4294967296*Z)from by simp only[Nat.mul_assoc,Nat.mul_comm,Nat.mul_left_comm],<-this];omega
 rw[e,Nat.add_mul_div_left _ _ (Nat.two_pow_pos s),Nat.add_mul_mod_self_left]
theorem iQ (x y:Nat) (I:x<4294967296) (J:y<4294967296):bits .or .u64 (x:Int) ((y:Int)*4294967296)=((x+4294967296*y:Nat):Int):=by
 rw[show(y:Int)*4294967296=((2 ^ 32*y:Nat):Int)from by omega,bits_or_u64_nat _ _ (by omega) (by omega),Nat.or_comm,<-Nat.two_pow_add_eq_or_of_lt (show x<2 ^ 32 from I)];omega
theorem Tb (t s:Nat):((t:Nat):Int) / 2 ^ s % 4294967296=((t / 2 ^ s % 4294967296:Nat):Int):=by
 rw[Int.natCast_emod,Int.natCast_ediv,Int.natCast_pow];rfl
def fV (w:World) (g n k T:Nat):Prop:=∃r,Row w g n r/\∀i,i<k->r i=dg T i
theorem Tc {w:World} {g n k T:Nat} {r:Nat->Nat} (I:Row w g n r) (J:∀i,i<k->r i=dg T i):fV (w.setCell ⟨g,k,none⟩ (.int .u32 (dg T k:Nat))) g n (k+1) T:=
 ⟨_,I.set k _ (dg_lt T k),λi M=>by
  unfold upd;split
  ·rename_i h;rw[h]
  ·exact J i (by omega)⟩
theorem Ow (p:Option Addr) (c n:Nat) (a:Nat->Nat) (s:Nat) (w:World) (h1:Dg w p c n a) (hn:n<=70368744177660) (hs:(s:Int)<32):
  Calls prog 218 #[.slice p n c,.int .u64 s] w λe w'=>RetD w' e n (vf a n / 2 ^ s)/\Below w.heap.size w w':=by
 have bH:∀w,(Instr.makeSlice 82 (.int .i64 (n:Int)) (.int .i64 (n:Int))).run prog w=.ok (.slice (some ⟨w.heap.size,0,none⟩) n n) (w.alloc (.cells (madeCells #[.int .u32 0] n) 200)):=Gk n (by omega)
 have I:=Row.made w n;have H1:=Kh h1;have HR:=Kh I;clear h1 I;go_enter func218,ntmps218
 go_wp2;obtain⟨wb,U⟩:∃wb,w.alloc (.cells (madeCells #[.int .u32 0] n) 200)=wb:=⟨_,rfl⟩
 rw[U];have V:Below w.heap.size w wb:=by rw[<-U];exact(Below.refl _ _).alloc (mG _) _
 rw[U]at HR;have bC:=Kh V;clear U V bH;go_loopw [13] (λv wr=>∃k:Nat,k<=n/\v=.int .i64 k/\fV wr w.heap.size n k (vf a n / 2 ^ s)/\Below w.heap.size w wr) (λv _=>n - (intOf v).toNat)
 case atStart=>exact⟨0,Nat.zero_le _,rfl,⟨_,HR.1,λi hi=>absurd hi (Nat.not_lt_zero _)⟩,bC.1⟩
 case round=>
  obtain⟨k,hk,rfl,⟨r,I,hv⟩,hb⟩:=hrel;have HB:=Kh hb;have HV:=Kh hv;clear hb hv;by_cases hlt:(k:Int)<(n:Int)
  ·obtain⟨g1,o1,rfl,aN,O⟩:=H1.1.head (by omega)
   have c1:wr.cell? ⟨g1,o1+k,none⟩=_:=(HB.1.cell (p:=⟨g1,o1+k,none⟩) aN).trans (O k (by omega));have cA:((a k:Nat):Int)<4294967296:=by have:=H1.1.lt k (by omega);omega
   obtain⟨x,hx⟩:∃x,a k=x:=⟨_,rfl⟩
   have dY:wr.cell? ⟨w.heap.size,k,none⟩=some (.int .u32 (r k:Nat)):=I.1.cell (by omega);have dE:wr.frozen? ⟨w.heap.size,k,none⟩=false:=I.1.frozen _;have Y:=Lf (a:=a) (n:=n) (s:=s) (i:=k) H1.1.lt (by omega) (by omega);rw[hx]at c1 cA Y;by_cases hlt1:(k:Int)+1<(n:Int)
   ·have c2:wr.cell? ⟨g1,o1+(k+1),none⟩=_:=(HB.1.cell (p:=⟨g1,o1+(k+1),none⟩) aN).trans (O (k+1) (by omega))
    have cC:((a (k+1):Nat):Int)<4294967296:=by have:=H1.1.lt (k+1) (by omega);omega
    obtain⟨y,hy⟩:∃y,a (k+1)=y:=⟨_,rfl⟩
    rw[show ext a n (k+1)=y from by unfold ext;rw[if_pos (by omega)];exact hy]at Y;rw[hy]at c2 cC;have e2:((k:Int)+1).toNat=k+1:=by omega
    have aX:=iQ x y (by omega) (by omega);have M:=Tb (x+4294967296*y) s;rw[<-Y]at M;have J:=Tc I HV.1;have HN:=Kh J;have HO:=Kh aX;have h:=Kh M;clear O hx hy aX M J Y I;go_wp2;rw[HO.1,h.1];go_roundw
    case rel=>exact⟨k+1,by omega,by go_num,HN.1,HB.1.setCell (mG _) _⟩
    case measure=>simp[intOf];omega
   ·rw[show ext a n (k+1)=0 from by unfold ext;rw[if_neg (by omega)]]at Y
    have M:=Tb x s;rw[Nat.mul_zero,Nat.add_zero]at Y;rw[<-Y]at M;have J:=Tc I HV.1;have HN:=Kh J;have h:=Kh M;clear O hx M J Y I;go_wp2;rw[h.1];go_roundw
    case rel=>exact⟨k+1,by omega,by go_num,HN.1,HB.1.setCell (mG _) _⟩
    case measure=>simp[intOf];omega
  ·obtain rfl:k=n:=by omega
   have Z:vf r k=vf a k / 2 ^ s:=by
    rw[Dr HV.1,Pw];exact Nat.lt_of_le_of_lt (Nat.div_le_self _ _) (Ds H1.1.lt)
   have hR:RetD wr (.returned (.slice (some ⟨w.heap.size,0,none⟩) k k)) k (vf a k / 2 ^ s):=⟨_,_,r,rfl,I.dg _ (mG _),Z⟩
   have HF:=Kh hR;clear hR Z I;go_wp2;go_ret;exact⟨HF.1,HB.1⟩
end
namespace Kn
structure Tops (P lu lv T u2 v1 v2 U V:Nat):Prop where
 hlu:lu<P
 hlv:lv<P
 hu2:u2<4294967296
 hv2:v2<4294967296
 hv1:2147483648<=v1
 hU:U=lu+P*(u2+4294967296*T)
 hV:V=lv+P*(v2+4294967296*v1)
 hlt:U<V*4294967296
section
variable {P lu lv T u2 v1 v2 U V:Nat}
theorem Tops.hP (h:Tops P lu lv T u2 v1 v2 U V):0<P:=by have:=h.hlu;omega
theorem Tops.Vpos (h:Tops P lu lv T u2 v1 v2 U V):0<V:=by
 have J:=h.hV;have I:=h.hP;have M:=h.hv1;have O:=Nat.mul_pos I (show 0<v2+4294967296*v1 by omega);omega
theorem Tops.Ult (h:Tops P lu lv T u2 v1 v2 U V):U<(P*4294967296)*(T+1):=by
 have I:=h.hU;have M:=h.hlu;have J:=Nat.mul_le_mul_left P (show u2+1<=4294967296 from h.hu2);rw[Nat.mul_add,Nat.mul_one]at J;rw[Nat.mul_add,<-Nat.mul_assoc]at I;rw[Nat.mul_add,Nat.mul_one];omega
theorem Tops.Vlt (h:Tops P lu lv T u2 v1 v2 U V):V<(P*4294967296)*(v1+1):=by
 have I:=h.hV;have M:=h.hlv;have J:=Nat.mul_le_mul_left P (show v2+1<=4294967296 from h.hv2);rw[Nat.mul_add,Nat.mul_one]at J;rw[Nat.mul_add,<-Nat.mul_assoc]at I;rw[Nat.mul_add,Nat.mul_one];omega
theorem Tops.Vge (h:Tops P lu lv T u2 v1 v2 U V):(P*4294967296)*v1<=V:=by
 have I:=h.hV;rw[Nat.mul_add,<-Nat.mul_assoc]at I;omega
theorem Tops.Uge (h:Tops P lu lv T u2 v1 v2 U V):(P*4294967296)*T<=U:=by
 have I:=h.hU;rw[Nat.mul_add,<-Nat.mul_assoc]at I;omega
theorem Tops.first (h:Tops P lu lv T u2 v1 v2 U V):U / V<=T / v1:=by
 have J:=Nat.div_mul_le_self U V;have M:=Nat.mul_le_mul_left (U / V) h.Vge;have O:=h.Ult;have Y:=h.hv1;have Z:=h.hP;generalize U / V=Q at *;rw[Nat.le_div_iff_mul_le (by omega)]
 have I:(P*4294967296)*(Q*v1)<(P*4294967296)*(T+1):=by
  rw[show(P*4294967296)*(Q*v1)=Q*((P*4294967296)*v1)from by grind];omega
 have h7:=Nat.lt_of_mul_lt_mul_left I;omega
theorem Tops.small (h:Tops P lu lv T u2 v1 v2 U V):U / V<4294967296:=(Nat.div_lt_iff_lt_mul h.Vpos).2 (by rw[Nat.mul_comm];exact h.hlt)
theorem Tops.down (h:Tops P lu lv T u2 v1 v2 U V) {g r:Nat} (Z:g*v1+r=T) (ht:r*4294967296+u2<g*v2):U / V<g:=by
 rw[Nat.div_lt_iff_lt_mul h.Vpos];have J:g*(P*(v2+4294967296*v1))<=g*V:=Nat.mul_le_mul_left _ (by have:=h.hV;omega);have M:g*(P*(v2+4294967296*v1))=P*(g*v2+4294967296*(g*v1)):=by grind
 have I:P*(u2+4294967296*T+1)<=P*(g*v2+4294967296*(g*v1)):=Nat.mul_le_mul_left _ (by omega);have O:=h.hU;have Y:=h.hlu;rw[Nat.mul_add P _ 1,Nat.mul_one]at I;omega
theorem Tops.upA (h:Tops P lu lv T u2 v1 v2 U V) {g r:Nat} (he:g*v1+r=T) (hg:g<4294967296) (ht:g*v2<=r*4294967296+u2):g<=U / V+1:=by
 have J:g*V=g*lv+P*(g*v2+4294967296*(g*v1)):=by
  rw[h.hV,Nat.mul_add];have:g*(P*(v2+4294967296*v1))=P*(g*v2+4294967296*(g*v1)):=by grind
  omega
 have M:P*(g*v2+4294967296*(g*v1))<=P*(u2+4294967296*T):=Nat.mul_le_mul_left _ (by omega);have O:g*lv<=4294967296*P:=Nat.mul_le_mul (by omega) (Nat.le_of_lt h.hlv);have Y:=h.Vge;have Z:(P*4294967296)*1<=(P*4294967296)*v1:=Nat.mul_le_mul_left _ (by have:=h.hv1;omega);have h6:=h.hU;have h7:g*V<=U+V:=by omega
 have I:(g - 1)*V<=U:=by rw[Nat.sub_mul];omega
 have h9:=(Nat.le_div_iff_mul_le h.Vpos).2 I;omega
theorem Tops.upB (h:Tops P lu lv T u2 v1 v2 U V) {g r:Nat} (Y:g*v1+r=T) (hg:g<=4294967296) (hr:4294967296<=r):g<=U / V:=by
 rw[Nat.le_div_iff_mul_le h.Vpos];have I:g*V<=g*((P*4294967296)*(v1+1)):=Nat.mul_le_mul_left _ (Nat.le_of_lt h.Vlt);have J:g*((P*4294967296)*(v1+1))=(P*4294967296)*(g*v1+g):=by grind
 have M:(P*4294967296)*(g*v1+g)<=(P*4294967296)*T:=Nat.mul_le_mul_left _ (by omega);have O:=h.Uge;omega
theorem Tops.start (h:Tops P lu lv T u2 v1 v2 U V):T / v1<=4294967297:=by
 have J:=h.Uge;have M:=h.hlt;have O:=Nat.mul_lt_mul_of_pos_right h.Vlt (show 0<4294967296 by omega);have I:(P*4294967296)*T<(P*4294967296)*((v1+1)*4294967296):=by rw[<-Nat.mul_assoc];omega
 have Y:=Nat.lt_of_mul_lt_mul_left I;have Z:=h.hv1
 have:T / v1<4294967298:=by
  rw[Nat.div_lt_iff_lt_mul (by omega)];omega
 omega
end
end Kn
section
open Go.RowKit Tryz
structure Only (g:Nat) (w w':World):Prop where
 os:w'.os=w.os
 tape:w'.tape=w.tape
 output:w'.output=w.output
 size:w.heap.size<=w'.heap.size
 block:∀k,k<w.heap.size->k≠g->w'.heap[k]?=w.heap[k]?
theorem Only.refl (g:Nat) (w:World):Only g w w:=⟨rfl,rfl,rfl,mG _,λ_ _ _=>rfl⟩
theorem Only.trans {g:Nat} {a b c:World} (h:Only g a b) (k:Only g b c):Only g a c:=
 ⟨k.os.trans h.os,k.tape.trans h.tape,k.output.trans h.output,mH h.size k.size,λi J I=>(k.block i (mI J h.size) I).trans (h.block i J I)⟩
theorem Only.set {g:Nat} {a w:World} (h:Only g a w) (i:Nat) (v:Value):Only g a (w.setCell ⟨g,i,none⟩ v):=
 ⟨h.os,h.tape,h.output,by simpa using h.size,λk J I=>(Below.heap_setCell w ⟨g,i,none⟩ v k I).trans (h.block k J I)⟩
theorem Only.drewN {g:Nat} {a w:World} (h:Only g a w) (n:Nat):Only g a (w.drewN n):=⟨h.os,h.tape,h.output,h.size,h.block⟩
theorem Only.cell {g:Nat} {w w':World} (h:Only g w w') {p:Addr} (J:p.block<w.heap.size) (I:p.block≠g):w'.cell? p=w.cell? p:=World.cell?_of_block (w:=w) (h.block p.block J I)
theorem Only.below {g B:Nat} {w w':World} (h:Only g w w') (hg:B<=g) (hB:B<=w.heap.size):Below B w w':=⟨h.os,h.tape,h.output,h.size,λk I=>h.block k (by omega) (by omega)⟩
theorem Only.dg {g:Nat} {w w':World} (h:Only g w w') {I o c n:Nat} {a:Nat->Nat} (J:Dg w (some ⟨I,o,none⟩) c n a) (M:I≠g):Dg w' (some ⟨I,o,none⟩) c n a:=
 ⟨J.cap,J.lt,by
  rcases J.at' with O |⟨Y,Z,e,hg,U⟩
  ·exact .inl O
  ·injection e with e;injection e with e1 e2;subst e1;subst e2
   exact .inr ⟨I,o,rfl,mI hg h.size,λj V=>(h.cell (p:=⟨I,o+j,none⟩) hg M).trans (U j V)⟩⟩
theorem Only.row {g:Nat} {w w':World} (h:Only g w w') {I n:Nat} {a:Nat->Nat} (hr:Row w I n a) (J:I≠g):Row w' I n a:=⟨hr.1.of_block (h.block I hr.1.lt J),hr.2⟩
theorem Y6 (a:Nat->Nat) (m:Nat):vf a (m+3)=vf a m+4294967296 ^ m*(a m+4294967296*(a (m+1)+4294967296*a (m+2))):=by
 rw[show m+3=m+2+1 from rfl,vf,show m+2=m+1+1 from rfl,vf,vf,Ay,Ay];grind
theorem fN (a:Nat->Nat) (m:Nat):vf a (m+2)=vf a m+4294967296 ^ m*(a m+4294967296*a (m+1)):=by
 rw[show m+2=m+1+1 from rfl,vf,vf,Ay];grind
theorem bS {a b:Nat->Nat} {N u0 u1 u2 v1 v2:Nat} (h:2<=N) (O:∀i,i<N+1->a i<4294967296) (U:∀i,i<N->b i<4294967296) (J:a N=u0) (M:a (N - 1)=u1) (hu2:a (N - 2)=u2) (hv1:b (N - 1)=v1) (hv2:b (N - 2)=v2) (I:2147483648<=v1) (hlt:vf a (N+1)<vf b N*4294967296):
  Kn.Tops (4294967296 ^ (N - 2)) (vf a (N - 2)) (vf b (N - 2)) (u1+4294967296*u0) u2 v1 v2 (vf a (N+1)) (vf b N):=by
 obtain⟨m,rfl⟩:∃m,N=m+2:=⟨N - 2,by omega⟩
 have Y:=O m (by omega);have Z:=U m (by omega);simp only[show m+2 - 1=m+1 from rfl,show m+2 - 2=m from rfl]at *;exact⟨Ds λi V=>O i (by omega),Ds λi V=>U i (by omega),by omega,by omega,I,by rw[show m+2+1=m+3 from rfl,Y6,J,M,hu2],by rw[fN,hv1,hv2],hlt⟩
theorem Je (r:Nat->Nat) (j i d:Nat):shf (upd r (j+i) d) j=upd (shf r j) i d:=by
 funext l;unfold shf upd;by_cases h:l=i
 ·rw[if_pos h,if_pos (by omega)]
 ·rw[if_neg h,if_neg (by omega)]
def cN (w:World) (g K j i h cy:Nat) (r b:Nat->Nat):Prop:=∃r2,Row w g K r2/\(∀l,l<j∨j+i<=l->r2 l=r l)/\vf (shf r2 j) i+h*vf b i=vf (shf r j) i+4294967296 ^ i*cy
theorem Yr {w:World} {g K j i h Y U x y tl Z s V:Nat} {r b O:Nat->Nat} (J:Row w g K O) (I:∀l,l<j∨j+i<=l->O l=r l) (M:vf (shf O j) i+h*vf b i=vf (shf r j) i+4294967296 ^ i*(Y+U))
  (hx:r (j+i)=x) (hy:b i=y) (ht:tl+4294967296*Z=h*y+Y) (hs:s+tl+U=x+4294967296*V) (aD:s<4294967296):
  cN (w.setCell ⟨g,j+i,none⟩ (.int .u32 s)) g K j (i+1) h (Z+V) r b:=by
 refine⟨_,J.set (j+i) s aD,λl hl=>by unfold upd;rw[if_neg (by omega)];exact I l (by omega),?_⟩;rw[Je,vf,Bq (mG _),show upd (shf O j) i s i=s from by simp[upd],vf,vf,hy,show shf r j i=x from hx,Ay];have h1:s+h*y+(Y+U)=x+4294967296*(Z+V):=by omega
 have h2:=congrArg (4294967296 ^ i * ·) h1;simp only[Nat.mul_add]at h2 M ⊢;grind
theorem Yq {w:World} {g K j N h cy Y x s Z:Nat} {r b O:Nat->Nat} (J:Row w g K O) (I:∀l,l<j∨j+N<=l->O l=r l) (M:vf (shf O j) N+h*vf b N=vf (shf r j) N+4294967296 ^ N*(cy+Y))
  (hx:r (j+N)=x) (hs:s+cy+Y=x+4294967296*Z) (U:s<4294967296):
  ∃V,Row (w.setCell ⟨g,j+N,none⟩ (.int .u32 s)) g K V/\(∀l,l<j∨j+N<l->V l=r l)/\vf (shf V j) (N+1)+h*vf b N=vf (shf r j) (N+1)+4294967296 ^ (N+1)*Z:=by
 refine⟨_,J.set (j+N) s U,λl hl=>by unfold upd;rw[if_neg (by omega)];exact I l (by omega),?_⟩;rw[Je,vf,Bq (mG _),show upd (shf O j) N s N=s from by simp[upd],vf,show shf r j N=x from hx,Ay];have h2:=congrArg (4294967296 ^ N * ·) hs;simp only[Nat.mul_add]at h2 M ⊢;grind
def Ix (w:World) (g K j N:Nat) (r:Nat->Nat) (R:Nat):Prop:=∃r',Row w g K r'/\(∀l,l<j∨j+N<l->r' l=r l)/\vf (shf r' j) (N+1)=R
theorem Qw {w:World} {g K j N h U V Q P Y:Nat} {r O:Nat->Nat} (hb:Y=0) (J:Row w g K O) (I:∀l,l<j∨j+N<l->O l=r l) (M:vf (shf O j) (N+1)+h*V=U+P*Y) (hQ:U / V=Q) (aD:Q<=h) (hV:0<V):h=Q/\Ix w g K j N r (U % V):=by
 subst hb;rw[Nat.mul_zero,Nat.add_zero]at M;have h1:h<=U / V:=(Nat.le_div_iff_mul_le hV).2 (by omega);have Z:h=Q:=by omega
 refine⟨Z,O,J,I,?_⟩;have h3:=Nat.div_add_mod U V;rw[hQ,<-Z,Nat.mul_comm]at h3;omega
def U6 (w:World) (g K j i bk:Nat) (r3 b:Nat->Nat):Prop:=∃r4,Row w g K r4/\(∀l,l<j∨j+i<=l->r4 l=r3 l)/\vf (shf r4 j) i+4294967296 ^ i*bk=vf (shf r3 j) i+vf b i
theorem Tr {w:World} {g K j i bk x y s V:Nat} {O b U:Nat->Nat} (J:Row w g K U) (I:∀l,l<j∨j+i<=l->U l=O l) (M:vf (shf U j) i+4294967296 ^ i*bk=vf (shf O j) i+vf b i)
  (h:O (j+i)=x) (hy:b i=y) (hs:(x+y+bk) % 4294967296=s) (hb:(x+y+bk) / 4294967296=V):
  U6 (w.setCell ⟨g,j+i,none⟩ (.int .u32 s)) g K j (i+1) V O b:=by
 refine⟨_,J.set (j+i) s (by omega),λl hl=>by unfold upd;rw[if_neg (by omega)];exact I l (by omega),?_⟩;rw[Je,vf,Bq (mG _),show upd (shf U j) i s i=s from by simp[upd],vf,vf,hy,show shf O j i=x from h,Ay];have Y:s+4294967296*V=x+y+bk:=by omega
 have Z:=congrArg (4294967296 ^ i * ·) Y;simp only[Nat.mul_add]at Z M ⊢;grind
theorem dM {K j N h U V Q:Nat} {M:Nat->Nat} (J:∀l,l<K->M l<4294967296) {O:Nat} (hb:O=1) (I:vf (shf M j) (N+1)+h*V=U+4294967296 ^ (N+1)*O) (hj:j+N<K) (hQ:U / V=Q) (Y:Q<=h) (bA:h<=Q+1):h=Q+1:=by
 subst hb;rw[Nat.mul_one]at I;have h0:vf (shf M j) (N+1)<4294967296 ^ (N+1):=Ds λi hi=>J (j+i) (by omega)
 rcases Nat.lt_or_ge Q h with Z|Z
 ·omega
 ·exfalso
  have h3:h=Q:=by omega
  have h4:=Nat.div_mul_le_self U V;rw[hQ,<-h3]at h4;omega
theorem Tq {w:World} {g K j N h bk U V Q x s:Nat} {r Y r4:Nat->Nat} (O:Row w g K r4) (Z:∀l,l<j∨j+N<=l->r4 l=Y l) (bE:vf (shf r4 j) N+4294967296 ^ N*bk=vf (shf Y j) N+V)
  (M:∀l,l<j∨j+N<l->Y l=r l) {bz:Nat} (hb:bz=1) (J:vf (shf Y j) (N+1)+h*V=U+4294967296 ^ (N+1)*bz) (hj:j+N<K) (aK:∀l,l<K->Y l<4294967296)
  (hx:Y (j+N)=x) (hs:(x+bk) % 4294967296=s) (hQ:U / V=Q) (bB:Q<=h) (cV:h<=Q+1) (hV:0<V) (cD:V<4294967296 ^ N):
  h=Q+1/\Ix (w.setCell ⟨g,j+N,none⟩ (.int .u32 s)) g K j N r (U % V):=by
 subst hb;rw[Nat.mul_one]at J;have h0:vf (shf Y j) (N+1)<4294967296 ^ (N+1):=Ds λi hi=>aK (j+i) (by omega)
 have h1:h=Q+1:=by
  rcases Nat.lt_or_ge Q h with h2|h2
  ·omega
  ·exfalso
   have h3:h=Q:=by omega
   have h4:=Nat.div_mul_le_self U V;rw[hQ,<-h3]at h4;omega
 refine⟨h1,_,O.set (j+N) s (by omega),λl hl=>by unfold upd;rw[if_neg (by omega),Z l (by omega)];exact M l hl,?_⟩;rw[Je,vf,Bq (mG _),show upd (shf r4 j) N s N=s from by simp[upd]];have h5:=Nat.div_add_mod U V;have h6:=Nat.mod_lt U hV;rw[hQ,Nat.mul_comm]at h5;rw[h1,Nat.add_mul,Nat.one_mul,vf,show shf Y j N=x from hx,Ay]at J;have h7:vf (shf r4 j) N<4294967296 ^ N:=Ds λi hi=>O.2 (j+i) (by omega)
 have h8:vf (shf r4 j) N+4294967296 ^ N*(x+bk)=U % V+4294967296 ^ N*4294967296:=by
  rw[Nat.mul_add,Nat.mul_comm (4294967296 ^ N) 4294967296];omega
 generalize U % V=R at *;generalize 4294967296 ^ N=P at *
 have h9:x+bk=4294967296:=by
  rcases Nat.lt_trichotomy (x+bk) 4294967296 with I|I|I
  ·exfalso
   have:=Nat.mul_le_mul_left P (show x+bk+1<=4294967296 from I);rw[Nat.mul_add,Nat.mul_one]at this;omega
  ·exact I
  ·exfalso
   have:=Nat.mul_le_mul_left P (show 4294967296+1<=x+bk from I);rw[Nat.mul_add,Nat.mul_one]at this;omega
 rw[h9]at hs h8;rw[<-hs];simp;omega
theorem Zw (g j K N cu gv ov cv:Nat) (r b:Nat->Nat) (w:World) (I:Row w g K r) (nB:j+N<K) (hN:2<=N) (hv:Dg w (some ⟨gv,ov,none⟩) cv N b) (mZ:gv≠g) (nK:2147483648<=b (N - 1)) (hlt:vf (shf r j) (N+1)<vf b N*4294967296) (pQ:N<=70368744177660):
  Calls prog 217 #[.slice (some ⟨g,j,none⟩) (N+1) cu,.slice (some ⟨gv,ov,none⟩) N cv] w λe w'=>e=.returned (.int .u32 (vf (shf r j) (N+1) / vf b N:Nat))/\Only g w w'/\Ix w' g K j N r (vf (shf r j) (N+1) % vf b N):=by
 obtain⟨pN,qK,e,hI,gN⟩:=hv.head (by omega);injection e with e;injection e with e1 e2;subst e1;subst e2
 obtain⟨u0,mB⟩:∃x,r (j+N)=x:=⟨_,rfl⟩
 obtain⟨u1,mC⟩:∃x,r (j+(N - 1))=x:=⟨_,rfl⟩
 obtain⟨u2,hu2⟩:∃x,r (j+(N - 2))=x:=⟨_,rfl⟩
 obtain⟨v1,hv1⟩:∃x,b (N - 1)=x:=⟨_,rfl⟩
 obtain⟨v2,hv2⟩:∃x,b (N - 2)=x:=⟨_,rfl⟩
 have pI:w.cell? ⟨g,j+N,none⟩=some (.int .u32 u0):=by rw[<-mB];exact I.1.cell (by omega)
 have pJ:w.cell? ⟨g,j+(N - 1),none⟩=some (.int .u32 u1):=by rw[<-mC];exact I.1.cell (by omega)
 have pK:w.cell? ⟨g,j+(N - 2),none⟩=some (.int .u32 u2):=by rw[<-hu2];exact I.1.cell (by omega)
 have pL:w.cell? ⟨gv,ov+(N - 1),none⟩=some (.int .u32 v1):=by rw[<-hv1];exact gN _ (by omega)
 have pM:w.cell? ⟨gv,ov+(N - 2),none⟩=some (.int .u32 v2):=by rw[<-hv2];exact gN _ (by omega)
 have qA:(u0:Int)<4294967296:=by have:=I.2 (j+N) (by omega);omega
 have qB:(u1:Int)<4294967296:=by have:=I.2 (j+(N - 1)) (by omega);omega
 have qC:(u2:Int)<4294967296:=by have:=I.2 (j+(N - 2)) (by omega);omega
 have qD:(v1:Int)<4294967296:=by have:=hv.lt (N - 1) (by omega);omega
 have qE:(v2:Int)<4294967296:=by have:=hv.lt (N - 2) (by omega);omega
 have pD:(2147483648:Int)<=(v1:Int):=by omega
 have pP:(2:Int)<=(N:Int):=by omega
 have cG:=Kh I;have HV:=Kh hv;have nY:=Kh hlt;have oI:=aW u0 u1 (by omega) (by omega);obtain⟨T,hT⟩:∃T,u1+4294967296*u0=T:=⟨_,rfl⟩
 have pR:(T:Int)<18446744073709551616:=by omega
 rw[hT]at oI;have mQ:=Kh gN;clear I hv hlt gN nK;have hK:=bS (a:=shf r j) (b:=b) hN (λi hi=>cG.1.2 (j+i) (by omega)) HV.1.lt mB mC hu2 hv1 hv2 (by omega) nY.1;rw[hT]at hK;obtain⟨U,hU⟩:∃U,vf (shf r j) (N+1)=U:=⟨_,rfl⟩
 obtain⟨V,hV⟩:∃V,vf b N=V:=⟨_,rfl⟩
 obtain⟨Q,hQ⟩:∃Q,U / V=Q:=⟨_,rfl⟩
 rw[hU,hV]at hK;rw[hU,hV,hQ];obtain⟨q0,dX⟩:∃q0,T / v1=q0:=⟨_,rfl⟩
 obtain⟨r0,gS⟩:∃r0,T % v1=r0:=⟨_,rfl⟩
 have oJ:Int.tdiv (T:Int) (v1:Int)=(q0:Nat):=by rw[Int.tdiv_eq_ediv_of_nonneg (by omega),<-dX];exact(Int.natCast_ediv _ _).symm
 have oL:Int.tmod (T:Int) (v1:Int)=(r0:Nat):=by rw[Int.tmod_eq_emod_of_nonneg (by omega),<-gS];exact(Int.natCast_emod _ _).symm
 have nG:(T:Int) / (v1:Int)=(q0:Nat):=by rw[<-dX];exact(Int.natCast_ediv _ _).symm
 have nI:(T:Int) % (v1:Int)=(r0:Nat):=by rw[<-gS];exact(Int.natCast_emod _ _).symm
 have iL:(q0:Int)<=4294967297:=by have:=hK.start;omega
 have oK:IntKind.u64.wrap (q0:Int)=q0:=by rw[IntKind.wrap_u64];omega
 have nF:Q<=q0:=by rw[<-hQ,<-dX];exact hK.first
 have nH:(r0:Int)<(v1:Int):=by have:=Nat.mod_lt T (show 0<v1 by omega);omega
 have dY:q0*v1+r0=T:=by rw[<-dX,<-gS,Nat.mul_comm];exact Nat.div_add_mod _ _
 have HK:=Kh hK;have HU:=Kh hU;have hX:=Kh hV;have HQ:=Kh hQ;have hS:=Kh nF;have cF:=Kh dY;have HT:=Kh hT;clear hK hU hV hQ nF dY hT dX gS mB mC hu2 hv1 hv2;go_enter func217,ntmps217
 go_wp2;go_quiet (fail)
 go_wp2;go_quiet (fail)
 go_upto_block 0 with(fail)
 clear oJ oL nG nI oK;go_cut [7]from 48 to 81 (λv7 wc=>∃h:Nat,v7=.int .u64 h/\Q<=h/\h<=Q+1/\(h:Int)<4294967296/\∃k,wc=w.drewN k)
 case first=>
  go_wp2_with fail
  go_loopw [7,8] (λv7 v8 wr=>∃q r':Nat,v7=.int .u64 q/\v8=.int .u64 r'/\q*v1+r'=T/\(r':Int)<4294967296/\Q<=q/\(q:Int)<=4294967297/\∃k,wr=w.drewN k) (λv7 _ _=>(intOf v7).toNat)
  case atStart=>exact⟨q0,r0,rfl,rfl,cF.1,by omega,hS.1,iL,_,by rw[Ly]⟩
  case round=>
   clear hS cF iL nH;obtain⟨q,r',rfl,rfl,dY,pY,mW,pX,k,rfl⟩:=hrel;have cF:=Kh dY;have oB:=Kh mW;clear dY mW;go_upto_region 4 with(fail)
   go_cut [69]from 48 to 69 (λv wc=>∃t:Bool,v=.bool t/\(t=true->Q<q)/\(t=false->q<4294967296/\q<=Q+1)/\∃k,wc=w.drewN k)
   case first=>
    have qJ:IntKind.i64.wrap ((N:Int) - 2)=(N:Int) - 2:=IntWalk.i64_in _ (by omega);have qI:((N:Int) - 2).toNat=N - 2:=by omega
    have qF:0<=(N:Int) - 2:=by omega
    have qG:N - 2<N:=by omega
    have qH:N - 2<N+1:=by omega
    by_cases hge:(4294967296:Int)<=(q:Int)
    ·have hG:decide ((4294967296:Int)<=(q:Int))=true:=decide_eq_true hge
     have J:Q<q:=by have:=HK.1.small;have:=HQ.1;omega
     have bG:=Kh J;clear J;go_wp2;go_region
     go_wp2;go_meet
     case rel=>exact⟨true,rfl,λ_=>bG.1,λh=>by simp at h,_,by first|rfl|rw[Ly]|exact(Ly _ _ 1)⟩
    ·have hG:decide ((4294967296:Int)<=(q:Int))=false:=decide_eq_false hge
     have pF:=Kh hG;obtain⟨pv,gP⟩:∃pv,q*v2=pv:=⟨_,rfl⟩
     have pB:(q:Int)*(v2:Int)=(pv:Nat):=by rw[<-gP];exact(Int.natCast_mul _ _).symm
     have nD:pv<=4294967295*4294967295:=by rw[<-gP];exact Nat.mul_le_mul (by omega) (by omega)
     have oY:(pv:Int)<=18446744065119617025:=by omega
     have nC:=aW r' u2 (by omega) (by omega);obtain⟨z,hz⟩:∃z,u2+4294967296*r'=z:=⟨_,rfl⟩
     rw[hz]at nC;by_cases hgt:(z:Int)<(pv:Int)
     ·have J:Q<q:=by rw[<-HQ.1];exact HK.1.down cF.1 (by omega)
      have bG:=Kh J;clear J hz gP nD;go_wp2;go_region
      go_wp2;go_meet
      case rel=>exact⟨true,rfl,λ_=>bG.1,λh=>by simp at h,_,by first|rfl|rw[Ly]|exact(Ly _ _ 1)⟩
     ·have J:q<=Q+1:=by rw[<-HQ.1];exact HK.1.upA cF.1 (by omega) (by omega)
      have mA:q<4294967296:=by omega
      have bG:=Kh J;have oA:=Kh mA;clear J mA hz gP nD;go_wp2;go_region
      go_wp2;go_meet
      case rel=>exact⟨false,Yy (decide_eq_false (by omega)),λh=>by simp at h,λ_=>⟨oA.1,bG.1⟩,_,by first|rfl|rw[Ly]|exact(Ly _ _ 1)⟩
   case rest=>
    obtain⟨t,rfl,ht,hf,k2,rfl⟩:=hcut;cases t with
    | true=>
     have J:=ht rfl;obtain⟨h,rfl⟩:∃h,q=h+1:=⟨q - 1,by omega⟩
     have hJ:h*v1+(r'+v1)=T:=by have:=cF.1;rw[Nat.add_mul]at this;omega
     have dE:Q<=h:=by omega
     have hE:=Kh hJ;have mR:=Kh dE;clear ht hf hJ J dE;by_cases hbr:(4294967296:Int)<=(r':Int)+(v1:Int)
     ·have nL:h<=Q:=by rw[<-HQ.1];exact HK.1.upB hE.1 (by omega) (by omega)
      have nA:(h:Int)<4294967296:=by have:=HK.1.small;have:=HQ.1;omega
      go_wp2;go_meet
      case rel=>exact⟨h,by go_num,mR.1,by omega,nA,_,by first|rfl|rw[Ly]⟩
     ·go_wp2
      go_roundw
      case rel=>exact⟨h,r'+v1,rfl,by go_num,hE.1,by omega,mR.1,by omega,_,rfl⟩
      case measure=>simp[intOf]
    | false=>
     obtain⟨mA,nL⟩:=hf rfl;clear ht hf;go_wp2;go_meet
     case rel=>exact⟨q,rfl,oB.1,nL,by omega,_,by first|rfl|rw[Ly]⟩
 case rest=>
  clear hS cF iL nH;obtain⟨h,rfl,hA,mT,nA,k0,rfl⟩:=hcut;have mP:=Kh mT;have HA:=Kh hA;clear hA mT;go_wp2;go_loopw [9,10,84] (λv9 oR mL wr=>∃i cy bw:Nat,i<=N/\v9=.int .u64 cy/\oR=.int .u32 bw/\mL=.int .i64 i/\(cy:Int)<4294967296/\(bw:Int)<=1/\cN wr g K j i h (cy+bw) r b/\Only g w wr) (λ_ _ mL _=>N - (intOf mL).toNat)
  case atStart=>exact⟨0,0,0,Nat.zero_le _,rfl,rfl,rfl,by decide,by decide,⟨r,cG.1,λ_ _=>rfl,by simp[vf]⟩,(Only.refl _ _).drewN _⟩
  case round=>
   obtain⟨i,cy,bw,hi,rfl,rfl,rfl,oF,mX,⟨r2,I,bB,cV⟩,hO⟩:=hrel;have HO:=Kh hO;clear hO;have cA:r2 (j+i)=r (j+i):=bB (j+i) (.inr (mG _));by_cases hlt:(i:Int)<(N:Int)
   ·have cx:wr.cell? ⟨g,j+i,none⟩=some (.int .u32 (r (j+i):Nat)):=by rw[<-cA];exact I.1.cell (by omega)
    have fx:wr.frozen? ⟨g,j+i,none⟩=false:=I.1.frozen _;have cb:wr.cell? ⟨gv,ov+i,none⟩=some (.int .u32 (b i:Nat)):=(HO.1.cell (p:=⟨gv,ov+i,none⟩) hI mZ).trans (mQ.1 i (by omega));have cB:((r (j+i):Nat):Int)<4294967296:=by have:=cG.1.2 (j+i) (by omega);omega
    have gU:((b i:Nat):Int)<4294967296:=by have:=HV.1.lt i (by omega);omega
    obtain⟨x,hx⟩:∃x,r (j+i)=x:=⟨_,rfl⟩
    obtain⟨y,hy⟩:∃y,b i=y:=⟨_,rfl⟩
    rw[hx]at cx cB;rw[hy]at cb gU;obtain⟨pp,hZ⟩:∃pp,h*y=pp:=⟨_,rfl⟩
    have oZ:(h:Int)*(y:Int)=(pp:Nat):=by rw[<-hZ];exact(Int.natCast_mul _ _).symm
    have nE:pp<=4294967295*4294967295:=by rw[<-hZ];exact Nat.mul_le_mul (by omega) (by omega)
    have pA:(pp:Int)<=18446744065119617025:=by omega
    obtain⟨tl,oO⟩:∃tl,(pp+cy) % 4294967296=tl:=⟨_,rfl⟩
    obtain⟨cz,oG⟩:∃cz,(pp+cy) / 4294967296=cz:=⟨_,rfl⟩
    have pC:((pp:Int)+(cy:Int)) % 4294967296=(tl:Nat):=by omega
    have oW:((pp:Int)+(cy:Int)) / 4294967296=(cz:Nat):=by omega
    have nJ:(tl:Int)<4294967296:=by omega
    have mY:(cz:Int)<4294967296:=by omega
    have HC:=Iy x tl bw wr cB nJ mX;obtain⟨s,hs⟩:∃s:Nat,(s:Int)=((x:Int) - tl - bw) % 4294967296:=⟨(((x:Int) - tl - bw) % 4294967296).toNat,by omega⟩
    obtain⟨bz,aX⟩:∃bz:Nat,(if x<tl+bw then 1 else 0)=bz:=⟨_,rfl⟩
    have bA:(if x<tl+bw then(1:Int)else 0)=(bz:Nat):=by rw[<-aX];split <;> rfl
    have cT:(bz:Int)<=1:=by rw[<-bA];split <;> decide
    have bY:s+tl+bw=x+4294967296*bz:=by split at aX <;> omega
    rw[<-hs,bA]at HC;have aD:=Yr I bB cV hx hy (show tl+4294967296*cz=h*y+cy by omega) bY (by omega);have HN:=Kh aD;have HC:=Kh HC;clear aD I bB cV hx hy hZ nE oO oG hs aX bA bY cA;go_wp2_with (go_at_call 203;refine HC.1.mono ?_;rintro e w' ⟨rfl,rfl⟩)
    go_roundw
    case rel=>exact⟨i+1,cz,bz,by omega,rfl,rfl,by go_num,mY,cT,HN.1,HO.1.set _ _⟩
    case measure=>simp[intOf];omega
   ·obtain rfl:i=N:=by omega
    have cx:wr.cell? ⟨g,j+i,none⟩=some (.int .u32 (r (j+i):Nat)):=by rw[<-cA];exact I.1.cell (by omega)
    have fx:wr.frozen? ⟨g,j+i,none⟩=false:=I.1.frozen _;have cB:((r (j+i):Nat):Int)<4294967296:=by have:=cG.1.2 (j+i) (by omega);omega
    obtain⟨x,hx⟩:∃x,r (j+i)=x:=⟨_,rfl⟩
    rw[hx]at cx cB;have oV:(cy:Int) % 4294967296=(cy:Int):=by omega
    have HC:=Iy x cy bw wr cB oF mX;obtain⟨s,hs⟩:∃s:Nat,(s:Int)=((x:Int) - cy - bw) % 4294967296:=⟨(((x:Int) - cy - bw) % 4294967296).toNat,by omega⟩
    obtain⟨bz,aX⟩:∃bz:Nat,(if x<cy+bw then 1 else 0)=bz:=⟨_,rfl⟩
    have bA:(if x<cy+bw then(1:Int)else 0)=(bz:Nat):=by rw[<-aX];split <;> rfl
    have cT:(bz:Int)<=1:=by rw[<-bA];split <;> decide
    have bY:s+cy+bw=x+4294967296*bz:=by split at aX <;> omega
    rw[<-hs,bA]at HC;have aD:=Yq I bB cV hx bY (by omega);rw[HU.1,hX.1]at aD;have HN:=Kh aD;have HC:=Kh HC;have mU:=HO.1.set (j+i) (.int .u32 (s:Nat));have gA:=Kh mU;have pU:(h:Int) % 4294967296=(h:Int):=by omega
    clear aD I bB cV hx hs aX bA bY cA mU;by_cases hb0:bz=0
    ·subst hb0
     obtain⟨r3,M,Y,aK⟩:=HN.1;have hd:=Qw rfl M Y aK HQ.1 HA.1 HK.1.Vpos;obtain⟨dC,hd⟩:=hd;have HD:=Kh hd;have hM:=Kh dC;clear M Y aK hd dC;go_wp2_with (go_at_call 203;refine HC.1.mono ?_;rintro e w' ⟨rfl,rfl⟩)
     go_ret;exact⟨A3 (by rw[hM.1]),gA.1,HD.1⟩
    ·obtain rfl:bz=1:=by omega
     clear hb0;obtain⟨r3,M,Y,aK⟩:=HN.1;have dC:=dM M.2 rfl aK nB HQ.1 HA.1 mP.1;have hM:=Kh dC;have pT:(1:Int)<=(h:Int):=by omega
     have oX:((h:Int) - 1) % 4294967296=(h:Int) - 1:=by omega
     have mS:=Kh M.2;have hW:=Kh M;have nX:=Kh Y;have oC:=Kh aK;clear M Y aK dC HN;go_wp2_with (go_at_call 203;refine HC.1.mono ?_;rintro e w' ⟨rfl,rfl⟩)
     obtain⟨w3,nO⟩:∃w3,World.setCell w' ⟨g,j+i,none⟩ (.int .u32 (s:Nat))=w3:=⟨_,rfl⟩
     rw[nO]at hW gA ⊢;clear nO cx fx HC HO;go_loopw [14,132] (λoS eV wr=>∃i2 bk:Nat,i2<=i/\oS=.int .u32 bk/\eV=.int .i64 i2/\(bk:Int)<=1/\U6 wr g K j i2 bk r3 b/\Only g w wr) (λ_ eV _=>i - (intOf eV).toNat)
     case atStart=>exact⟨0,0,Nat.zero_le _,rfl,rfl,by decide,⟨r3,hW.1,λ_ _=>rfl,by simp[vf]⟩,gA.1⟩
     case round=>
      obtain⟨i2,bk,pW,rfl,rfl,pS,⟨r4,O,Z,bC⟩,mV⟩:=hrel;have gF:=Kh mV;clear mV gA hW;have cA:r4 (j+i2)=r3 (j+i2):=Z (j+i2) (.inr (mG _));have fx:wr.frozen? ⟨g,j+i2,none⟩=false:=O.1.frozen _;have cx:wr.cell? ⟨g,j+i2,none⟩=some (.int .u32 (r4 (j+i2):Nat)):=O.1.cell (by omega);have cB:((r4 (j+i2):Nat):Int)<4294967296:=by have:=O.2 (j+i2) (by omega);omega
      obtain⟨x4,hx⟩:∃x4,r3 (j+i2)=x4:=⟨_,rfl⟩
      rw[cA,hx]at cx cB;by_cases hlt4:(i2:Int)<(i:Int)
      ·have cb:wr.cell? ⟨gv,ov+i2,none⟩=some (.int .u32 (b i2:Nat)):=(gF.1.cell (p:=⟨gv,ov+i2,none⟩) hI mZ).trans (mQ.1 i2 (by omega))
       have gU:((b i2:Nat):Int)<4294967296:=by have:=HV.1.lt i2 (by omega);omega
       obtain⟨y,hy⟩:∃y,b i2=y:=⟨_,rfl⟩
       rw[hy]at cb gU;have HC:=Ms x4 y bk wr cB gU (by omega);obtain⟨s4,hs⟩:∃s4,(x4+y+bk) % 4294967296=s4:=⟨_,rfl⟩
       obtain⟨bz,aX⟩:∃bz,(x4+y+bk) / 4294967296=bz:=⟨_,rfl⟩
       have oM:(s4:Int)<4294967296:=by omega
       have cT:(bz:Int)<=1:=by omega
       have aD:=Tr O Z bC hx hy hs aX;rw[hs,aX]at HC;have HN:=Kh aD;have HC:=Kh HC;clear aD O Z bC hx hy hs aX cA;go_wp2_with (go_at_call 201;refine HC.1.mono ?_;rintro e w' ⟨rfl,rfl⟩)
       go_roundw
       case rel=>exact⟨i2+1,bz,by omega,rfl,by go_num,cT,HN.1,gF.1.set _ _⟩
       case measure=>simp[intOf];omega
      ·obtain rfl:i2=i:=by omega
       obtain⟨s4,hs⟩:∃s4,(x4+bk) % 4294967296=s4:=⟨_,rfl⟩
       have pZ:((x4:Int)+(bk:Int)) % 4294967296=(s4:Nat):=by omega
       have oM:(s4:Int)<4294967296:=by omega
       have nN:V<4294967296 ^ i2:=by rw[<-hX.1];exact Ds HV.1.lt
       rw[hX.1]at bC;obtain⟨_,hd⟩:=Tq O Z bC nX.1 rfl oC.1 nB mS.1 hx hs HQ.1 HA.1 mP.1 HK.1.Vpos nN;have HD:=Kh hd;have nZ:=Kh (gF.1.set (j+i2) (.int .u32 (s4:Nat)));clear O Z bC hx hs cA hd nN gF;go_wp2;go_ret;exact⟨A3 (by have:=hM.1;omega),nZ.1,HD.1⟩
def Ik (w':World) (e:Ending) (q r:Nat):Prop:=∃p c p' c',e=.returned (.tuple #[.slice p (nd q) c,.slice p' (nd r) c'])/\Nm w' p c q/\Nm w' p' c' r
theorem bN (a:Nat->Nat) (m k:Nat):shf (shf a m) k=shf a (m+k):=by
 funext i;unfold shf;rw[Nat.add_assoc]
theorem Dx (r:Nat->Nat) (k n:Nat):vf (shf r k) (n+1)=r k+4294967296*vf (shf r (k+1)) n:=by
 rw[Ho,bN];rfl
def Hr (w:World) (gu gq N M k:Nat) (r0:Nat->Nat) (V:Nat):Prop:=
 ∃r q,Row w gu (M+N) r/\Row w gq M q/\(∀l,l<k->r l=r0 l)/\vf (shf r k) N=vf (shf r0 k) (M+N - k) % V/\vf (shf q k) (M - k)=vf (shf r0 k) (M+N - k) / V
theorem cK {w:World} {O J N M V:Nat} {I q:Nat->Nat} (U:Row w O (M+N) I) (hq:Row w J M q) (hV:vf (shf I M) N<V):Hr w O J N M M I V:=by
 refine⟨I,q,U,hq,λ_ _=>rfl,?_,?_⟩
 ·rw[show M+N - M=N from by omega,Nat.mod_eq_of_lt hV]
 ·rw[show M+N - M=N from by omega,Nat.sub_self,Nat.div_eq_of_lt hV];rfl
theorem Pa {N k V X:Nat} {r M:Nat->Nat} (I:∀l,l<k+1->r l=M l) (J:vf (shf r (k+1)) N=X % V) (hV:0<V):vf (shf r k) (N+1)=M k+4294967296*(X % V)/\(M k<4294967296->vf (shf r k) (N+1)<V*4294967296):=by
 have O:vf (shf r k) (N+1)=M k+4294967296*(X % V):=by rw[Dx,J,I k (by omega)]
 refine⟨O,λU=>?_⟩;rw[O];have Y:=Nat.mod_lt X hV;omega
theorem Ki {x X V:Nat} (hV:0<V):(x+4294967296*X) / V=(x+4294967296*(X % V)) / V+4294967296*(X / V)/\(x+4294967296*X) % V=(x+4294967296*(X % V)) % V:=by
 have h:x+4294967296*X=(x+4294967296*(X % V))+V*(4294967296*(X / V)):=by
  have:=Nat.div_add_mod X V;generalize X / V=Q at *;generalize X % V=R at *;rw[<-this];grind
 rw[h];exact⟨Nat.add_mul_div_left _ _ hV,Nat.add_mul_mod_self_left _ _ _⟩
theorem Ud {w:World} {h Y N M k V X Q:Nat} {r I U q:Nat->Nat} (hk:k<M) (hX:vf (shf I (k+1)) (M+N - (k+1))=X) (Z:∀l,l<k+1->r l=I l)
  (hu:Row w h (M+N) U) (O:∀l,l<k∨k+N<l->U l=r l) (J:vf (shf U k) (N+1)=(I k+4294967296*(X % V)) % V)
  (hq:Row w Y M q) (bB:vf (shf q (k+1)) (M - (k+1))=X / V) (hV:0<V) (bY:V<=4294967296 ^ N) (hQ:(I k+4294967296*(X % V)) / V=Q) (aX:Q<4294967296) (bA:Y≠h):
  Hr (w.setCell ⟨Y,k,none⟩ (.int .u32 Q)) h Y N M k I V:=by
 refine⟨U,upd q k Q,⟨hu.1.of_block (Below.heap_setCell w ⟨Y,k,none⟩ _ h (Ne.symm bA)),hu.2⟩,hq.set k Q aX,λl hl=>by rw[O l (.inl hl)];exact Z l (by omega),?_,?_⟩
 ·have h1:vf (shf I k) (M+N - k)=I k+4294967296*X:=by
   rw[show M+N - k=(M+N - (k+1))+1 from by omega,Dx,hX]
  have h2:=(Ki (x:=I k) (X:=X) hV).2;rw[h1,h2,<-J];have h3:=Nat.mod_lt (I k+4294967296*(X % V)) hV;rw[<-J,vf]at h3;rw[vf];rcases Nat.eq_zero_or_pos (shf U k N)with h4|h4
  ·rw[h4];simp
  ·exfalso
   have h5:=Nat.mul_le_mul_left (4294967296 ^ N) (show 1<=shf U k N from h4);omega
 ·have h1:vf (shf I k) (M+N - k)=I k+4294967296*X:=by
   rw[show M+N - k=(M+N - (k+1))+1 from by omega,Dx,hX]
  have h2:=(Ki (x:=I k) (X:=X) hV).1;rw[h1,h2,hQ,<-bB,show M - k=(M - (k+1))+1 from by omega,Dx];rw[show upd q k Q k=Q from by simp[upd]];congr 2;exact Dr λi _=>by unfold shf upd;rw[if_neg (by omega)]
theorem W5 {w:World} {O J N M V:Nat} {I:Nat->Nat} (h:Hr w O J N M 0 I V):
  ∃r q,Row w O (M+N) r/\Row w J M q/\vf r N=vf I (M+N) % V/\vf q M=vf I (M+N) / V:=by
 obtain⟨r,q,Z,h2,_,U,Y⟩:=h;have e:∀a:Nat->Nat,shf a 0=a:=λa=>by funext i;unfold shf;rw[Nat.zero_add]
 simp only[e,Nat.sub_zero]at U Y;exact⟨r,q,Z,h2,U,Y⟩
theorem G8:∀(f x:Nat),x<2 ^ f->x<2 ^ Lib.bitLenAux f x
 | 0,x,h=>by simpa [Lib.bitLenAux] using h
 | f+1,x,h=>by
  rw[Lib.bitLenAux];by_cases h0:x=0
  ·rw[if_pos h0,h0];simp
  ·rw[if_neg h0]
   have I:=G8 f (x / 2) (by rw[Nat.pow_succ]at h;omega);rw[Nat.add_comm,Nat.pow_succ];omega
theorem Uf (t:Nat) (h:t<2 ^ 64):t<2 ^ Lib.bitLen t:=G8 64 t h
theorem Jp (t:Nat) (h:t≠0):1<=Lib.bitLen t:=by
 unfold Lib.bitLen;rw[show(64:Nat)=63+1 from rfl,Lib.bitLenAux,if_neg h];omega
theorem Ts (t:Nat) (I:t≠0):2 ^ (Lib.bitLen t - 1)<=t:=by
 rcases Nat.lt_or_ge t (2 ^ (Lib.bitLen t - 1))with h|h
 ·exfalso
  have J:=Lib.bitLenAux_le 64 t _ h;have M:=Jp t I;unfold Lib.bitLen at J M;omega
 ·exact h
theorem W7 {v t s:Nat} (hv:v≠0) (U:v / 4294967296 ^ (nd v - 1)=t) (hs:s+Lib.bitLen t=32):
  s<32/\t<4294967296/\nd (v*2 ^ s)=nd v/\2147483648<=dg (v*2 ^ s) (nd v - 1)/\v*2 ^ s<4294967296 ^ (nd v)/\4294967296 ^ (nd v - 1)*2147483648<=v*2 ^ s:=by
 obtain⟨m,hm⟩:∃m,nd v=m+1:=⟨nd v - 1,by have:=Bo.2 hv;omega⟩
 have h1:=eX hv;have h2:=Be.1 (mG (nd v));rw[hm]at h1 h2 U;rw[hm];simp only[Nat.add_sub_cancel]at *;have M:0<4294967296 ^ m:=Dig.pow_pos m
 have t0:t≠0:=by
  have:1<=v / 4294967296 ^ m:=(Nat.le_div_iff_mul_le M).2 (by omega);omega
 have t1:t<4294967296:=by rw[<-U,Nat.div_lt_iff_lt_mul M,<-Ay];exact h2
 have l3:=Uf t (by omega);have l2:=Ts t t0;have l1:=Jp t t0;generalize Lib.bitLen t=L at *;obtain⟨l,rfl⟩:∃l,L=l+1:=⟨L - 1,by omega⟩
 have Y:s<32:=by omega
 have h:2 ^ s*2 ^ (l+1)=4294967296:=by rw[<-Nat.pow_add,hs]
 have e2:2 ^ s*2 ^ l=2147483648:=by rw[Nat.pow_succ,<-Nat.mul_assoc]at h;omega
 simp only[Nat.add_sub_cancel]at l2;have v1:4294967296 ^ m*t<=v:=by rw[<-U];exact Nat.mul_div_le _ _
 have v2:v<4294967296 ^ m*(t+1):=by rw[<-U];exact Nat.lt_mul_div_succ _ M
 obtain⟨P,I⟩:∃P,4294967296 ^ m=P:=⟨_,rfl⟩
 rw[I]at M v1 v2 ⊢
 have Z:P*2147483648<=v*2 ^ s:=by
  have J:=Nat.mul_le_mul_left P (Nat.mul_le_mul_left (2 ^ s) l2);have O:=Nat.mul_le_mul_right (2 ^ s) v1;rw[e2]at J;have e3:P*(2 ^ s*t)=P*t*2 ^ s:=by grind
  omega
 have V:v*2 ^ s<4294967296*P:=by
  have J:=Nat.mul_le_mul_left P (Nat.mul_le_mul_left (2 ^ s) (show t+1<=2 ^ (l+1)from l3));have O:=Nat.mul_lt_mul_of_pos_right v2 (Nat.two_pow_pos s);rw[h]at J;have e3:P*(2 ^ s*(t+1))=P*(t+1)*2 ^ s:=by grind
  omega
 have n1:nd (v*2 ^ s)=m+1:=by
  have J:=(Be (v:=v*2 ^ s) (k:=m+1)).2 (by rw[Ay];exact I▸V)
  have O:¬nd (v*2 ^ s)<=m:=λh7=>by
   have h8:=Be.1 h7;rw[I]at h8;have h9:=Nat.mul_le_mul_left P (show 1<=2147483648 by omega);omega
  omega
 refine⟨Y,t1,n1,?_,by rw[Ay,I];exact V,Z⟩;unfold dg;rw[I];have J:2147483648<=v*2 ^ s / P:=(Nat.le_div_iff_mul_le M).2 (by rw[Nat.mul_comm];exact Z);have O:v*2 ^ s / P<4294967296:=by rw[Nat.div_lt_iff_lt_mul M];exact V
 rw[Nat.mod_eq_of_lt O];exact J
def sg (s:Bool) (m:Nat):Int:=if s then -(m:Int)else(m:Int)
theorem Nw (s:Bool) (m:Nat):(sg s m).natAbs=m:=by unfold sg;split <;> omega
theorem fH (s:Bool) (m:Nat):decide (sg s m<0)=(s&&decide (m≠0)):=by
 cases s
 ·simp[sg]
 ·simp only[sg,if_true,Bool.true_and,decide_eq_decide];omega
theorem bM (s:Bool) (u v:Nat):sg s u+sg s v=sg s (u+v):=by unfold sg;split <;> omega
theorem bK (s:Bool) (u v:Nat) (h:v<=u):sg s u+sg (!s) v=sg s (u - v):=by cases s <;> simp[sg] <;> omega
theorem bL (s:Bool) (u v:Nat) (h:u<=v):sg s u+sg (!s) v=sg (!s) (v - u):=by cases s <;> simp[sg] <;> omega
theorem fG (s t:Bool) (u v:Nat):sg s u*sg t v=sg (s != t) (u*v):=by
 cases s <;> cases t <;> simp[sg,Int.neg_mul,Int.mul_neg]
theorem fI (s:Bool) (u:Nat):sg (!s) u=- sg s u:=by cases s <;> simp[sg]
theorem Cp (u:Nat):sg false u=u:=rfl
theorem dJ (z:Int):sg (decide (z<0)) z.natAbs=z:=by
 by_cases h:z<0
 ·rw[decide_eq_true h];simp only[sg,if_true];omega
 ·rw[decide_eq_false h];simp only[sg,Bool.false_eq_true,if_false];omega
def Zr (w:World) (s:Bool) (p:Option Addr) (n c:Nat) (z:Int):Prop:=∃a,Dg w p c n a/\sg s (vf a n)=z
def Zs (w:World) (s:Bool) (p:Option Addr) (n c:Nat) (z:Int):Prop:=s=decide (z<0)/\nd z.natAbs=n/\Nm w p c z.natAbs
theorem Zr.keep {w w':World} {s:Bool} {p:Option Addr} {n c:Nat} {z:Int} (h:Zr w s p n c z) (M:Below w.heap.size w w'):Zr w' s p n c z:=by
 obtain⟨a,I,J⟩:=h;exact⟨a,I.keep M,J⟩
theorem Zs.keep {w w':World} {s:Bool} {p:Option Addr} {n c:Nat} {z:Int} (h:Zs w s p n c z) (I:Below w.heap.size w w'):Zs w' s p n c z:=⟨h.1,h.2.1,h.2.2.keep I⟩
theorem Zs.raw {w:World} {s:Bool} {p:Option Addr} {n c:Nat} {z:Int} (h:Zs w s p n c z):Zr w s p n c z:=by
 obtain⟨M,J,I⟩:=h;unfold Nm at I;rw[J]at I;exact⟨_,I,by rw[M,<-J,Bp,dJ]⟩
theorem Zr.size {w:World} {s:Bool} {p:Option Addr} {n c:Nat} {z:Int} (h:Zr w s p n c z):nd z.natAbs<=n:=by
 obtain⟨a,I,J⟩:=h;rw[<-J,Nw];exact Be.2 (Ds I.lt)
def K8 (w':World) (e:Ending) (z:Int):Prop:=∃s p n c,e=.returned (.agg #[.bool s,.slice p n c])/\Zs w' s p n c z
theorem Tg {w:World} {p:Option Addr} {c m k:Nat} {s t:Bool} (h:Nm w p c m) (I:nd m=k) (J:t=(s&&decide (0<k))):Zs w t p k c (sg s m):=by
 refine⟨?_,by rw[Nw];exact I,by rw[Nw];exact h⟩;rw[fH,J,<-I];congr 1;rw[decide_eq_decide];exact Bo
def C9 (a:Nat->Nat) (n:Nat):List Value:=(List.range n).map λi=>.int .u32 (a i:Nat)
theorem Im (a:Nat->Nat) (n:Nat):(C9 a n).length=n:=by simp[C9]
theorem Il {a:Nat->Nat} {n j:Nat} (h:j<n):(C9 a n)[j]?=some (.int .u32 (a j:Nat)):=by simp[C9,h]
theorem Qo {a:Nat->Nat} {n j:Nat} {u:Value} (h:(C9 a n)[j]?=some u):j<n/\u=.int .u32 (a j:Nat):=by
 have I:j<n:=by
  rcases Nat.lt_or_ge j n with I|I
  ·exact I
  ·rw[List.getElem?_eq_none (by rw[Im];exact I)]at h;cases h
 rw[Il I]at h;injection h with h
 exact⟨I,h.symm⟩
theorem Ox {a:Nat->Nat} {n:Nat}:∀u∈C9 a n,u.oneCell'=true:=by
 intro u I;obtain⟨i,_,rfl⟩:=List.mem_map.1 I;rfl
theorem Dg.of_own {w:World} {B n:Nat} {v:Value} {a:Nat->Nat} (h:w.ownsRow B 200 1 v n (C9 a n)) (I:∀j,j<n->a j<4294967296):∃p c,v=.slice p n c/\Dg w p c n a:=by
 rcases Dk h with⟨rfl,rfl,_⟩ |⟨g,cap,rfl,_,hg,J⟩
 ·exact⟨none,0,rfl,mG _,I,.inl rfl⟩
 ·exact⟨_,_,rfl,J,I,.inr ⟨g,0,rfl,hg,λj M=>by rw[Nat.zero_add];exact Aq h (Il M)⟩⟩
theorem Yx:prog.underlying 82=some (.slice 200):=underlying82
theorem Rz (p:Option Addr) (c n:Nat) (a:Nat->Nat) (w:World) (h:Dg w p c n a) (hn:n<=35184372088830):
  Calls prog 147 #[.slice p n c] w λe w'=>RetD w' e n (vf a n)/\Below w.heap.size w w':=by
 cases p with
 | none=>
  obtain rfl:n=0:=by
   rcases h.at' with h1 |⟨g,o,e,_⟩
   ·exact h1
   ·cases e
  clear h;have aN:∀(w:World) (a:Option Addr) (n c U M:Nat),(binOp .eql 82 (.slice a n c) (.slice none U M)).run prog w=.ok (.bool a.isNone) w:=λw a n c U M=>Lib.run_eql_slice_nil w _ _ a n c U M Yx
  go_enter func147,ntmps147
  go_wp2;go_ret;exact⟨⟨none,0,a,rfl,⟨mG _,λj Y=>absurd Y (Nat.not_lt_zero _),.inl rfl⟩,rfl⟩,Below.refl _ _⟩
 | some q=>
  have I:∀(o:Obj) (j:Nat) (u:Value),(C9 a n)[j]?=some u->(w.alloc o).cell? (q.add j)=some u:=by
   intro o j u hu;obtain⟨Y,rfl⟩:=Qo hu;obtain⟨g,o',e,hg,hc⟩:=h.head (by omega);injection e with e
   subst e;rw[Addr.add_lit];exact Lib.cell?_alloc_some _ (hc j Y)
  have HC:=Kh I;have HL:=Kh h.lt;have HN:=Kh hn;clear I h hn;obtain⟨i0,hi,Z,aD,aK⟩:=info_parts N1;have aN:∀(w:World) (a:Option Addr) (n c U M:Nat),(binOp .eql 82 (.slice a n c) (.slice none U M)).run prog w=.ok (.bool a.isNone) w:=λw a n c U M=>Lib.run_eql_slice_nil w _ _ a n c U M Yx
  go_enter func147,ntmps147
  go_wp2_with (at_builtin;refine wpList_append_own _ rfl _ _ 82 rfl w.heap.size 200 i0 (.int .u32 0) 1 4 Yx hi Z aD aK rfl (by decide) _ _ _ rfl (World.ownsRow_made w #[] 0 (mG _) (Nat.zero_le _) rfl) q n c (C9 a n) rfl ?qc1 ?qc2 ?qc3 ?qc4 ?qc5 ?qc6 ?_)
  case qc1=>rw[Im,Nat.mul_one]
  case qc2=>exact HC.1 _
  case qc3=>exact Ox
  case qc4=>have:=HN.1;unfold maxLen;omega
  case qc5=>have:=HN.1;omega
  case qc6=>simp
  intro v' w1 O J V;have hb:Below w.heap.size w w1:=((Below.refl _ w).alloc (mG _) _).grown J (by simp) (by intro k hk;simp[Value.ownBlock]at hk;omega);obtain⟨p',M,rfl,hd⟩:=Dg.of_own (n:=n) (a:=a) (by simpa using O) HL.1;have HD:=Kh hd;have HB:=Kh hb;clear O J V hd hb;go_wp2;go_ret;exact⟨⟨p',M,a,rfl,HD.1,rfl⟩,HB.1⟩
end
end Go.Proofs.YtenlbhlllgppmaaGreatDoor
