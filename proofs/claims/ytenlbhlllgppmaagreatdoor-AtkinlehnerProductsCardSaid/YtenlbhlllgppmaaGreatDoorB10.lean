/- Contracts of bigint's shifted and unshifted. -/
import Derived.Test.YtenlbhlllgppmaaGreatDoorB09
import Derived.Deep.CutBlock
set_option maxRecDepth 100000
set_option maxHeartbeats 8000000
namespace Go.Proofs.YtenlbhlllgppmaaGreatDoor
section
open Go.RowKit Tryz
theorem I2 {s:Nat} (I:s<32):(4294967296:Nat)=2 ^ s*2 ^ (32 - s):=by
 rw[<-Nat.pow_add,show s+(32 - s)=32 from by omega]
theorem Tx (x s:Nat) (I:s<32):x*2 ^ s % 4294967296=2 ^ s*(x % 2 ^ (32 - s)):=by
 rw[I2 I,Nat.mul_comm x,Nat.mul_mod_mul_left]
theorem Z6 (x s r:Nat) (I:s<32) (hr:r<2 ^ s):r+x*2 ^ s % 4294967296<4294967296:=by
 rw[Tx x s I];have J:=Nat.mod_lt x (Nat.two_pow_pos (32 - s));have O:=Nat.mul_le_mul_left (2 ^ s) (show x % 2 ^ (32 - s)+1<=2 ^ (32 - s)from J);rw[<-I2 I,Nat.mul_add,Nat.mul_one]at O;omega
theorem iS (x s r:Nat) (I:s<32) (hr:r<2 ^ s):bits .or .u32 (r:Int) (((x*2 ^ s:Nat):Int) % 4294967296)=((r+x*2 ^ s % 4294967296:Nat):Int):=by
 have O:=Z6 x s r I hr;have J:((x*2 ^ s:Nat):Int) % 4294967296=((x*2 ^ s % 4294967296:Nat):Int):=by rw[Int.natCast_emod];rfl
 rw[J,u32_or_nat _ _ (by omega) (Nat.mod_lt _ (by omega)),Nat.or_comm,Tx x s I,<-Nat.two_pow_add_eq_or_of_lt hr,Nat.add_comm]
theorem Ty (x s:Nat) (I:x<4294967296):x*2 ^ s / 4294967296<2 ^ s:=by
 rw[Nat.div_lt_iff_lt_mul (by omega),Nat.mul_comm];exact Nat.mul_lt_mul_of_pos_left I (Nat.two_pow_pos s)
theorem Fs {s:Nat} (I:s<32):2 ^ s<=2147483648:=by
 have:=Nat.pow_le_pow_right (show 0<2 by omega) (show s<=31 by omega);omega
theorem Z7 (x s:Nat) (J:s<32) (U:x<4294967296):IntKind.u64.wrap ((x:Int)*2 ^ s)=((x*2 ^ s:Nat):Int):=by
 have O:x*2 ^ s<=4294967295*2147483648:=Nat.mul_le_mul (by omega) (Fs J);have I:(x:Int)*2 ^ s=((x*2 ^ s:Nat):Int):=by rw[Int.natCast_mul,Int.natCast_pow];rfl
 rw[I,IntKind.wrap_u64];generalize x*2 ^ s=t at *;omega
def Sn (w:World) (g n1 k s t:Nat):Prop:=∃r,Row w g n1 r/\vf r (k+1)=t*2 ^ s/\r k<2 ^ s
theorem Sg {w:World} {g Y k s x y z:Nat} {a r:Nat->Nat} (I:Row w g Y r) (hv:vf r (k+1)=vf a k*2 ^ s) (J:r k<2 ^ s) (U:s<32) (hx:a k=x) (O:x<4294967296) (hy:r k+x*2 ^ s % 4294967296=y) (V:x*2 ^ s / 4294967296=z):
  Sn ((w.setCell ⟨g,k,none⟩ (.int .u32 y)).setCell ⟨g,k+1,none⟩ (.int .u32 z)) g Y (k+1) s (vf a (k+1)):=by
 have h1:=Z6 x s (r k) U J;have Z:=Ty x s O;have h3:=Fs U;refine⟨_,(I.set k y (by omega)).set (k+1) z (by omega),?_,by show(if k+1=k+1 then z else _)<_;rw[if_pos rfl,<-V];exact Z⟩;rw[vf,B6 (nR _),vf,B6 (nR _),show upd (upd r k y) (k+1) z (k+1)=z from by simp[upd],show upd r k y k=y from by simp[upd],vf,hx,Nat.add_mul,<-hv,vf,Aw];have h:x*2 ^ s=x*2 ^ s % 4294967296+4294967296*z:=by rw[<-V];omega
 have h5:4294967296 ^ k*x*2 ^ s=4294967296 ^ k*(x*2 ^ s % 4294967296)+4294967296*4294967296 ^ k*z:=by
  rw[Nat.mul_assoc,Nat.mul_comm 4294967296,Nat.mul_assoc,<-Nat.mul_add,<-h]
 rw[h5,<-hy,Nat.mul_add];omega
def jI (B:Nat) (w':World) (e:Ending) (k t:Nat):Prop:=∃g c r,e=.returned (.slice (some ⟨g,0,none⟩) k c)/\k<=c/\B<=g/\Row w' g k r/\vf r k=t
theorem Mm (p:Option Addr) (c n:Nat) (a:Nat->Nat) (s:Nat) (w:World) (h1:Dg w p c n a) (hn:n<=70368744177660) (hs:(s:Int)<32):
  Calls prog 216 #[.slice p n c,.int .u64 s] w λe w'=>jI w.heap.size w' e (n+1) (vf a n*2 ^ s)/\Below w.heap.size w w':=by
 have cB:∀w,(Instr.makeSlice 82 (.int .i64 ((n:Int)+1)) (.int .i64 ((n:Int)+1))).run prog w=.ok (.slice (some ⟨w.heap.size,0,none⟩) (n+1) (n+1)) (w.alloc (.cells (madeCells #[.int .u32 0] (n+1)) 200)):=F7 (n+1) (by omega)
 have I:=Row.made w (n+1);have H1:=Kh h1;have HR:=Kh I;clear h1 I;go_enter func216,ntmps216
 go_wp2;obtain⟨wb,J⟩:∃wb,w.alloc (.cells (madeCells #[.int .u32 0] (n+1)) 200)=wb:=⟨_,rfl⟩
 rw[J];have O:Below w.heap.size w wb:=by rw[<-J];exact(Below.refl _ _).alloc (nR _) _
 rw[J]at HR;have bC:=Kh O;clear J O cB;go_loopw [15] (λV wr=>∃k:Nat,k<=n/\V=.int .i64 k/\Sn wr w.heap.size (n+1) k s (vf a k)/\Below w.heap.size w wr) (λV _=>n - (intOf V).toNat)
 case atStart=>exact⟨0,Nat.zero_le _,rfl,⟨_,HR.1,by simp[vf],Nat.two_pow_pos s⟩,bC.1⟩
 case round=>
  obtain⟨k,hk,rfl,⟨r,I,hv,aX⟩,hb⟩:=hrel;have HB:=Kh hb;have HV:=Kh hv;have Y:=Kh aX;clear hb hv aX;by_cases hlt:(k:Int)<(n:Int)
  ·obtain⟨g1,o1,rfl,cA,Z⟩:=H1.1.head (by omega)
   have c1:wr.cell? ⟨g1,o1+k,none⟩=_:=(HB.1.cell (p:=⟨g1,o1+k,none⟩) cA).trans (Z k (by omega));have cD:((a k:Nat):Int)<4294967296:=by have:=H1.1.lt k (by omega);omega
   obtain⟨x,hx⟩:∃x,a k=x:=⟨_,rfl⟩
   rw[hx]at c1 cD;have hB:wr.cell? ⟨w.heap.size,k,none⟩=some (.int .u32 (r k:Nat)):=I.1.cell (by omega);have gU:wr.frozen? ⟨w.heap.size,k,none⟩=false:=I.1.frozen _;have eP:wr.cell? ⟨w.heap.size,k+1,none⟩=some (.int .u32 (r (k+1):Nat)):=I.1.cell (by omega);have dY:wr.frozen? ⟨w.heap.size,k+1,none⟩=false:=I.1.frozen _;have bA:=Z7 x s (by omega) (by omega);have h:=iS x s (r k) (by omega) Y.1;have U:=Sg I HV.1 Y.1 (by omega) hx (by omega) rfl rfl
   have hcut:((x*2 ^ s:Nat):Int) / 4294967296 % 4294967296=((x*2 ^ s / 4294967296:Nat):Int):=by
    have h1:=Ty x s (by omega);have h2:=Fs (s:=s) (by omega);generalize x*2 ^ s=t at *;omega
   have HN:=Kh U;have HW:=Kh bA;have HO:=Kh h;have bE:=Kh hcut;clear U I Z hx bA h hcut;go_wp2;rw[HW.1,HO.1,bE.1];go_roundw
   case rel=>exact⟨k+1,by omega,by go_num,HN.1,(HB.1.setCell (nR _) _).setCell (nR _) _⟩
   case measure=>simp[intOf];omega
  ·obtain rfl:k=n:=by omega
   go_wp2;go_ret;have hR:jI w.heap.size wr (.returned (.slice (some ⟨w.heap.size,0,none⟩) (k+1) (k+1))) (k+1) (vf a k*2 ^ s):=⟨_,_,r,rfl,nR _,nR _,I,HV.1⟩
   exact⟨hR,HB.1⟩
theorem aN {a:Nat->Nat} {n:Nat} (h:∀i,i<n->a i<4294967296) {i:Nat} (I:i<=n):vf a n / 4294967296 ^ i=vf (shf a i) (n - i):=by
 obtain⟨k,rfl⟩:∃k,n=i+k:=⟨n - i,by omega⟩
 rw[Il,Nat.add_sub_cancel_left,Nat.add_mul_div_left _ _ (Dig.pow_pos i),Nat.div_eq_of_lt (Dq λj J=>h j (by omega)),Nat.zero_add]
theorem Mc {a:Nat->Nat} {n s i:Nat} (h:∀i,i<n->a i<4294967296) (U:s<32) (J:i<n):dg (vf a n / 2 ^ s) i=(a i+4294967296*ext a n (i+1)) / 2 ^ s % 4294967296:=by
 unfold dg;rw[Nat.div_div_eq_div_mul,Nat.mul_comm,<-Nat.div_div_eq_div_mul,aN h (Nat.le_of_lt J)];obtain⟨m,O⟩:∃m,n - i=m+1:=⟨n - i - 1,by omega⟩
 rw[O,Ik,show shf a i 0=a i from rfl]
 have V:∃Z,vf (shf (shf a i) 1) m=ext a n (i+1)+4294967296*Z:=by
  cases m with
  | zero=>exact⟨0,by unfold ext;rw[if_neg (by omega)];rfl⟩
  | succ m=>exact⟨vf (shf (shf (shf a i) 1) 1) m,by rw[Ik];unfold ext;rw[if_pos (by omega)];unfold shf;simp⟩
 obtain⟨Z,I⟩:=V;rw[I]
 have e:a i+4294967296*(ext a n (i+1)+4294967296*Z)=(a i+4294967296*ext a n (i+1))+2 ^ s*(4294967296*(2 ^ (32 - s)*Z)):=by
  have:=I2 U;rw[Nat.mul_add,show 2 ^ s*(4294967296*(2 ^ (32 - s)*Z))=(2 ^ s*2 ^ (32 - s))*(4294967296*Z)from by simp only[Nat.mul_assoc,Nat.mul_comm,Nat.mul_left_comm],<-this];omega
 rw[e,Nat.add_mul_div_left _ _ (Nat.two_pow_pos s),Nat.add_mul_mod_self_left]
theorem lH (x y:Nat) (I:x<4294967296) (J:y<4294967296):bits .or .u64 (x:Int) ((y:Int)*4294967296)=((x+4294967296*y:Nat):Int):=by
 rw[show(y:Int)*4294967296=((2 ^ 32*y:Nat):Int)from by omega,bits_or_u64_nat _ _ (by omega) (by omega),Nat.or_comm,<-Nat.two_pow_add_eq_or_of_lt (show x<2 ^ 32 from I)];omega
theorem T4 (t s:Nat):((t:Nat):Int) / 2 ^ s % 4294967296=((t / 2 ^ s % 4294967296:Nat):Int):=by
 rw[Int.natCast_emod,Int.natCast_ediv,Int.natCast_pow];rfl
def jN (w:World) (g n k T:Nat):Prop:=∃r,Row w g n r/\∀i,i<k->r i=dg T i
theorem T5 {w:World} {g n k T:Nat} {r:Nat->Nat} (I:Row w g n r) (J:∀i,i<k->r i=dg T i):jN (w.setCell ⟨g,k,none⟩ (.int .u32 (dg T k:Nat))) g n (k+1) T:=
 ⟨_,I.set k _ (dg_lt T k),λi O=>by
  unfold upd;split
  ·rename_i h;rw[h]
  ·exact J i (by omega)⟩
theorem Pk (p:Option Addr) (c n:Nat) (a:Nat->Nat) (s:Nat) (w:World) (h1:Dg w p c n a) (hn:n<=70368744177660) (hs:(s:Int)<32):
  Calls prog 218 #[.slice p n c,.int .u64 s] w λe w'=>RetD w' e n (vf a n / 2 ^ s)/\Below w.heap.size w w':=by
 have cF:∀w,(Instr.makeSlice 82 (.int .i64 (n:Int)) (.int .i64 (n:Int))).run prog w=.ok (.slice (some ⟨w.heap.size,0,none⟩) n n) (w.alloc (.cells (madeCells #[.int .u32 0] n) 200)):=F7 n (by omega)
 have I:=Row.made w n;have H1:=Kh h1;have HR:=Kh I;clear h1 I;go_enter func218,ntmps218
 go_wp2;obtain⟨wb,V⟩:∃wb,w.alloc (.cells (madeCells #[.int .u32 0] n) 200)=wb:=⟨_,rfl⟩
 rw[V];have Y:Below w.heap.size w wb:=by rw[<-V];exact(Below.refl _ _).alloc (nR _) _
 rw[V]at HR;have cB:=Kh Y;clear V Y cF;go_loopw [13] (λv wr=>∃k:Nat,k<=n/\v=.int .i64 k/\jN wr w.heap.size n k (vf a n / 2 ^ s)/\Below w.heap.size w wr) (λv _=>n - (intOf v).toNat)
 case atStart=>exact⟨0,Nat.zero_le _,rfl,⟨_,HR.1,λi hi=>absurd hi (Nat.not_lt_zero _)⟩,cB.1⟩
 case round=>
  obtain⟨k,hk,rfl,⟨r,I,hv⟩,hb⟩:=hrel;have HB:=Kh hb;have HV:=Kh hv;clear hb hv;by_cases hlt:(k:Int)<(n:Int)
  ·obtain⟨g1,o1,rfl,bC,U⟩:=H1.1.head (by omega)
   have c1:wr.cell? ⟨g1,o1+k,none⟩=_:=(HB.1.cell (p:=⟨g1,o1+k,none⟩) bC).trans (U k (by omega));have cT:((a k:Nat):Int)<4294967296:=by have:=H1.1.lt k (by omega);omega
   obtain⟨x,hx⟩:∃x,a k=x:=⟨_,rfl⟩
   have hB:wr.cell? ⟨w.heap.size,k,none⟩=some (.int .u32 (r k:Nat)):=I.1.cell (by omega);have gS:wr.frozen? ⟨w.heap.size,k,none⟩=false:=I.1.frozen _;have Z:=Mc (a:=a) (n:=n) (s:=s) (i:=k) H1.1.lt (by omega) (by omega);rw[hx]at c1 cT Z;by_cases hlt1:(k:Int)+1<(n:Int)
   ·have c2:wr.cell? ⟨g1,o1+(k+1),none⟩=_:=(HB.1.cell (p:=⟨g1,o1+(k+1),none⟩) bC).trans (U (k+1) (by omega))
    have dC:((a (k+1):Nat):Int)<4294967296:=by have:=H1.1.lt (k+1) (by omega);omega
    obtain⟨y,hy⟩:∃y,a (k+1)=y:=⟨_,rfl⟩
    rw[show ext a n (k+1)=y from by unfold ext;rw[if_pos (by omega)];exact hy]at Z;rw[hy]at c2 dC;have e2:((k:Int)+1).toNat=k+1:=by omega
    have bE:=lH x y (by omega) (by omega);have O:=T4 (x+4294967296*y) s;rw[<-Z]at O;have J:=T5 I HV.1;have HN:=Kh J;have HO:=Kh bE;have aX:=Kh O;clear U hx hy bE O J Z I;go_wp2;rw[HO.1,aX.1];go_roundw
    case rel=>exact⟨k+1,by omega,by go_num,HN.1,HB.1.setCell (nR _) _⟩
    case measure=>simp[intOf];omega
   ·rw[show ext a n (k+1)=0 from by unfold ext;rw[if_neg (by omega)]]at Z
    have O:=T4 x s;rw[Nat.mul_zero,Nat.add_zero]at Z;rw[<-Z]at O;have J:=T5 I HV.1;have HN:=Kh J;have aX:=Kh O;clear U hx O J Z I;go_wp2;rw[aX.1];go_roundw
    case rel=>exact⟨k+1,by omega,by go_num,HN.1,HB.1.setCell (nR _) _⟩
    case measure=>simp[intOf];omega
  ·obtain rfl:k=n:=by omega
   have h:vf r k=vf a k / 2 ^ s:=by
    rw[D8 HV.1,Lt];exact Nat.lt_of_le_of_lt (Nat.div_le_self _ _) (Dq H1.1.lt)
   have hR:RetD wr (.returned (.slice (some ⟨w.heap.size,0,none⟩) k k)) k (vf a k / 2 ^ s):=⟨_,_,r,rfl,I.dg _ (nR _),h⟩
   have HF:=Kh hR;clear hR h I;go_wp2;go_ret;exact⟨HF.1,HB.1⟩
end
namespace Kn
structure Tops (P lu lv T u2 v1 v2 U V:Nat):Prop where
 hlu:lu<P
 hlv:lv<P
 hu2:u2<4294967296
 hv2:v2<4294967296
 hv1:2147483648<=v1
 hU:U=lu+P*(u2+4294967296*T)
 hV:V=lv+P*(v2+4294967296*v1)
 hlt:U<V*4294967296
section
variable {P lu lv T u2 v1 v2 U V:Nat}
theorem Tops.hP (h:Tops P lu lv T u2 v1 v2 U V):0<P:=by have:=h.hlu;omega
theorem Tops.Vpos (h:Tops P lu lv T u2 v1 v2 U V):0<V:=by
 have J:=h.hV;have I:=h.hP;have O:=h.hv1;have Y:=Nat.mul_pos I (show 0<v2+4294967296*v1 by omega);omega
theorem Tops.Ult (h:Tops P lu lv T u2 v1 v2 U V):U<(P*4294967296)*(T+1):=by
 have I:=h.hU;have O:=h.hlu;have J:=Nat.mul_le_mul_left P (show u2+1<=4294967296 from h.hu2);rw[Nat.mul_add,Nat.mul_one]at J;rw[Nat.mul_add,<-Nat.mul_assoc]at I;rw[Nat.mul_add,Nat.mul_one];omega
theorem Tops.Vlt (h:Tops P lu lv T u2 v1 v2 U V):V<(P*4294967296)*(v1+1):=by
 have I:=h.hV;have O:=h.hlv;have J:=Nat.mul_le_mul_left P (show v2+1<=4294967296 from h.hv2);rw[Nat.mul_add,Nat.mul_one]at J;rw[Nat.mul_add,<-Nat.mul_assoc]at I;rw[Nat.mul_add,Nat.mul_one];omega
theorem Tops.Vge (h:Tops P lu lv T u2 v1 v2 U V):(P*4294967296)*v1<=V:=by
 have I:=h.hV;rw[Nat.mul_add,<-Nat.mul_assoc]at I;omega
theorem Tops.Uge (h:Tops P lu lv T u2 v1 v2 U V):(P*4294967296)*T<=U:=by
 have I:=h.hU;rw[Nat.mul_add,<-Nat.mul_assoc]at I;omega
theorem Tops.first (h:Tops P lu lv T u2 v1 v2 U V):U / V<=T / v1:=by
 have J:=Nat.div_mul_le_self U V;have O:=Nat.mul_le_mul_left (U / V) h.Vge;have Y:=h.Ult;have Z:=h.hv1;have h5:=h.hP;generalize U / V=Q at *;rw[Nat.le_div_iff_mul_le (by omega)]
 have I:(P*4294967296)*(Q*v1)<(P*4294967296)*(T+1):=by
  rw[show(P*4294967296)*(Q*v1)=Q*((P*4294967296)*v1)from by grind];omega
 have h7:=Nat.lt_of_mul_lt_mul_left I;omega
theorem Tops.small (h:Tops P lu lv T u2 v1 v2 U V):U / V<4294967296:=(Nat.div_lt_iff_lt_mul h.Vpos).2 (by rw[Nat.mul_comm];exact h.hlt)
theorem Tops.down (h:Tops P lu lv T u2 v1 v2 U V) {g r:Nat} (he:g*v1+r=T) (ht:r*4294967296+u2<g*v2):U / V<g:=by
 rw[Nat.div_lt_iff_lt_mul h.Vpos];have J:g*(P*(v2+4294967296*v1))<=g*V:=Nat.mul_le_mul_left _ (by have:=h.hV;omega);have O:g*(P*(v2+4294967296*v1))=P*(g*v2+4294967296*(g*v1)):=by grind
 have I:P*(u2+4294967296*T+1)<=P*(g*v2+4294967296*(g*v1)):=Nat.mul_le_mul_left _ (by omega);have Y:=h.hU;have Z:=h.hlu;rw[Nat.mul_add P _ 1,Nat.mul_one]at I;omega
theorem Tops.upA (h:Tops P lu lv T u2 v1 v2 U V) {g r:Nat} (he:g*v1+r=T) (hg:g<4294967296) (ht:g*v2<=r*4294967296+u2):g<=U / V+1:=by
 have J:g*V=g*lv+P*(g*v2+4294967296*(g*v1)):=by
  rw[h.hV,Nat.mul_add];have:g*(P*(v2+4294967296*v1))=P*(g*v2+4294967296*(g*v1)):=by grind
  omega
 have O:P*(g*v2+4294967296*(g*v1))<=P*(u2+4294967296*T):=Nat.mul_le_mul_left _ (by omega);have Y:g*lv<=4294967296*P:=Nat.mul_le_mul (by omega) (Nat.le_of_lt h.hlv);have Z:=h.Vge;have h5:(P*4294967296)*1<=(P*4294967296)*v1:=Nat.mul_le_mul_left _ (by have:=h.hv1;omega);have h6:=h.hU;have h7:g*V<=U+V:=by omega
 have I:(g - 1)*V<=U:=by rw[Nat.sub_mul];omega
 have h9:=(Nat.le_div_iff_mul_le h.Vpos).2 I;omega
theorem Tops.upB (h:Tops P lu lv T u2 v1 v2 U V) {g r:Nat} (Z:g*v1+r=T) (hg:g<=4294967296) (hr:4294967296<=r):g<=U / V:=by
 rw[Nat.le_div_iff_mul_le h.Vpos];have I:g*V<=g*((P*4294967296)*(v1+1)):=Nat.mul_le_mul_left _ (Nat.le_of_lt h.Vlt);have J:g*((P*4294967296)*(v1+1))=(P*4294967296)*(g*v1+g):=by grind
 have O:(P*4294967296)*(g*v1+g)<=(P*4294967296)*T:=Nat.mul_le_mul_left _ (by omega);have Y:=h.Uge;omega
theorem Tops.start (h:Tops P lu lv T u2 v1 v2 U V):T / v1<=4294967297:=by
 have J:=h.Uge;have O:=h.hlt;have Y:=Nat.mul_lt_mul_of_pos_right h.Vlt (show 0<4294967296 by omega);have I:(P*4294967296)*T<(P*4294967296)*((v1+1)*4294967296):=by rw[<-Nat.mul_assoc];omega
 have Z:=Nat.lt_of_mul_lt_mul_left I;have h6:=h.hv1
 have:T / v1<4294967298:=by
  rw[Nat.div_lt_iff_lt_mul (by omega)];omega
 omega
end
end Kn
section
open Go.RowKit Tryz
structure Only (g:Nat) (w w':World):Prop where
 os:w'.os=w.os
 tape:w'.tape=w.tape
 output:w'.output=w.output
 size:w.heap.size<=w'.heap.size
 block:∀k,k<w.heap.size->k≠g->w'.heap[k]?=w.heap[k]?
theorem Only.refl (g:Nat) (w:World):Only g w w:=⟨rfl,rfl,rfl,nR _,λ_ _ _=>rfl⟩
theorem Only.trans {g:Nat} {a b c:World} (h:Only g a b) (k:Only g b c):Only g a c:=
 ⟨k.os.trans h.os,k.tape.trans h.tape,k.output.trans h.output,nS h.size k.size,λi J I=>(k.block i (nT J h.size) I).trans (h.block i J I)⟩
theorem Only.set {g:Nat} {a w:World} (h:Only g a w) (i:Nat) (v:Value):Only g a (w.setCell ⟨g,i,none⟩ v):=
 ⟨h.os,h.tape,h.output,by simpa using h.size,λk J I=>(Below.heap_setCell w ⟨g,i,none⟩ v k I).trans (h.block k J I)⟩
theorem Only.drewN {g:Nat} {a w:World} (h:Only g a w) (n:Nat):Only g a (w.drewN n):=⟨h.os,h.tape,h.output,h.size,h.block⟩
theorem Only.cell {g:Nat} {w w':World} (h:Only g w w') {p:Addr} (J:p.block<w.heap.size) (I:p.block≠g):w'.cell? p=w.cell? p:=World.cell?_of_block (w:=w) (h.block p.block J I)
theorem Only.below {g B:Nat} {w w':World} (h:Only g w w') (hg:B<=g) (hB:B<=w.heap.size):Below B w w':=⟨h.os,h.tape,h.output,h.size,λk I=>h.block k (by omega) (by omega)⟩
theorem Only.dg {g:Nat} {w w':World} (h:Only g w w') {I o c n:Nat} {a:Nat->Nat} (J:Dg w (some ⟨I,o,none⟩) c n a) (O:I≠g):Dg w' (some ⟨I,o,none⟩) c n a:=
 ⟨J.cap,J.lt,by
  rcases J.at' with U |⟨Z,o2,e,hg,V⟩
  ·exact .inl U
  ·injection e with e;injection e with e1 e2;subst e1;subst e2
   exact .inr ⟨I,o,rfl,nT hg h.size,λj Y=>(h.cell (p:=⟨I,o+j,none⟩) hg O).trans (V j Y)⟩⟩
theorem Only.row {g:Nat} {w w':World} (h:Only g w w') {I n:Nat} {a:Nat->Nat} (hr:Row w I n a) (J:I≠g):Row w' I n a:=⟨hr.1.of_block (h.block I hr.1.lt J),hr.2⟩
theorem aO (a:Nat->Nat) (m:Nat):vf a (m+3)=vf a m+4294967296 ^ m*(a m+4294967296*(a (m+1)+4294967296*a (m+2))):=by
 rw[show m+3=m+2+1 from rfl,vf,show m+2=m+1+1 from rfl,vf,vf,Aw,Aw];grind
theorem iY (a:Nat->Nat) (m:Nat):vf a (m+2)=vf a m+4294967296 ^ m*(a m+4294967296*a (m+1)):=by
 rw[show m+2=m+1+1 from rfl,vf,vf,Aw];grind
theorem eJ {a b:Nat->Nat} {N u0 u1 u2 v1 v2:Nat} (hN:2<=N) (U:∀i,i<N+1->a i<4294967296) (V:∀i,i<N->b i<4294967296) (J:a N=u0) (O:a (N - 1)=u1) (hu2:a (N - 2)=u2) (hv1:b (N - 1)=v1) (hv2:b (N - 2)=v2) (I:2147483648<=v1) (hlt:vf a (N+1)<vf b N*4294967296):
  Kn.Tops (4294967296 ^ (N - 2)) (vf a (N - 2)) (vf b (N - 2)) (u1+4294967296*u0) u2 v1 v2 (vf a (N+1)) (vf b N):=by
 obtain⟨m,rfl⟩:∃m,N=m+2:=⟨N - 2,by omega⟩
 have Z:=U m (by omega);have h:=V m (by omega);simp only[show m+2 - 1=m+1 from rfl,show m+2 - 2=m from rfl]at *;exact⟨Dq λi Y=>U i (by omega),Dq λi Y=>V i (by omega),by omega,by omega,I,by rw[show m+2+1=m+3 from rfl,aO,J,O,hu2],by rw[iY,hv1,hv2],hlt⟩
theorem J3 (r:Nat->Nat) (j i d:Nat):shf (upd r (j+i) d) j=upd (shf r j) i d:=by
 funext l;unfold shf upd;by_cases h:l=i
 ·rw[if_pos h,if_pos (by omega)]
 ·rw[if_neg h,if_neg (by omega)]
def eW (w:World) (g K j i h cy:Nat) (r b:Nat->Nat):Prop:=∃r2,Row w g K r2/\(∀l,l<j∨j+i<=l->r2 l=r l)/\vf (shf r2 j) i+h*vf b i=vf (shf r j) i+4294967296 ^ i*cy
theorem aF {w:World} {g K j i h Z V x y tl cz s Y:Nat} {r b U:Nat->Nat} (J:Row w g K U) (I:∀l,l<j∨j+i<=l->U l=r l) (O:vf (shf U j) i+h*vf b i=vf (shf r j) i+4294967296 ^ i*(Z+V))
  (hx:r (j+i)=x) (hy:b i=y) (ht:tl+4294967296*cz=h*y+Z) (hs:s+tl+V=x+4294967296*Y) (bA:s<4294967296):
  eW (w.setCell ⟨g,j+i,none⟩ (.int .u32 s)) g K j (i+1) h (cz+Y) r b:=by
 refine⟨_,J.set (j+i) s bA,λl hl=>by unfold upd;rw[if_neg (by omega)];exact I l (by omega),?_⟩;rw[J3,vf,B6 (nR _),show upd (shf U j) i s i=s from by simp[upd],vf,vf,hy,show shf r j i=x from hx,Aw];have h1:s+h*y+(Z+V)=x+4294967296*(cz+Y):=by omega
 have h2:=congrArg (4294967296 ^ i * ·) h1;simp only[Nat.mul_add]at h2 O ⊢;grind
theorem aE {w:World} {g K j N h cy Z x s bz:Nat} {r b U:Nat->Nat} (J:Row w g K U) (I:∀l,l<j∨j+N<=l->U l=r l) (O:vf (shf U j) N+h*vf b N=vf (shf r j) N+4294967296 ^ N*(cy+Z))
  (hx:r (j+N)=x) (hs:s+cy+Z=x+4294967296*bz) (V:s<4294967296):
  ∃Y,Row (w.setCell ⟨g,j+N,none⟩ (.int .u32 s)) g K Y/\(∀l,l<j∨j+N<l->Y l=r l)/\vf (shf Y j) (N+1)+h*vf b N=vf (shf r j) (N+1)+4294967296 ^ (N+1)*bz:=by
 refine⟨_,J.set (j+N) s V,λl hl=>by unfold upd;rw[if_neg (by omega)];exact I l (by omega),?_⟩;rw[J3,vf,B6 (nR _),show upd (shf U j) N s N=s from by simp[upd],vf,show shf r j N=x from hx,Aw];have h2:=congrArg (4294967296 ^ N * ·) hs;simp only[Nat.mul_add]at h2 O ⊢;grind
def Jj (w:World) (g K j N:Nat) (r:Nat->Nat) (R:Nat):Prop:=∃r',Row w g K r'/\(∀l,l<j∨j+N<l->r' l=r l)/\vf (shf r' j) (N+1)=R
theorem Ru {w:World} {g K j N h U V Q P Z:Nat} {r Y:Nat->Nat} (hb:Z=0) (J:Row w g K Y) (I:∀l,l<j∨j+N<l->Y l=r l) (O:vf (shf Y j) (N+1)+h*V=U+P*Z) (hQ:U / V=Q) (bA:Q<=h) (hV:0<V):h=Q/\Jj w g K j N r (U % V):=by
 subst hb;rw[Nat.mul_zero,Nat.add_zero]at O;have h1:h<=U / V:=(Nat.le_div_iff_mul_le hV).2 (by omega);have h2:h=Q:=by omega
 refine⟨h2,Y,J,I,?_⟩;have h3:=Nat.div_add_mod U V;rw[hQ,<-h2,Nat.mul_comm]at h3;omega
def Wa (w:World) (g K j i bk:Nat) (r3 b:Nat->Nat):Prop:=∃r4,Row w g K r4/\(∀l,l<j∨j+i<=l->r4 l=r3 l)/\vf (shf r4 j) i+4294967296 ^ i*bk=vf (shf r3 j) i+vf b i
theorem Um {w:World} {g K j i bk x y s Y:Nat} {U b V:Nat->Nat} (J:Row w g K V) (I:∀l,l<j∨j+i<=l->V l=U l) (O:vf (shf V j) i+4294967296 ^ i*bk=vf (shf U j) i+vf b i)
  (hx:U (j+i)=x) (hy:b i=y) (hs:(x+y+bk) % 4294967296=s) (hb:(x+y+bk) / 4294967296=Y):
  Wa (w.setCell ⟨g,j+i,none⟩ (.int .u32 s)) g K j (i+1) Y U b:=by
 refine⟨_,J.set (j+i) s (by omega),λl hl=>by unfold upd;rw[if_neg (by omega)];exact I l (by omega),?_⟩;rw[J3,vf,B6 (nR _),show upd (shf V j) i s i=s from by simp[upd],vf,vf,hy,show shf U j i=x from hx,Aw];have Z:s+4294967296*Y=x+y+bk:=by omega
 have h:=congrArg (4294967296 ^ i * ·) Z;simp only[Nat.mul_add]at h O ⊢;grind
theorem fQ {K j N h U V Q:Nat} {O:Nat->Nat} (J:∀l,l<K->O l<4294967296) {Y:Nat} (hb:Y=1) (I:vf (shf O j) (N+1)+h*V=U+4294967296 ^ (N+1)*Y) (hj:j+N<K) (hQ:U / V=Q) (Z:Q<=h) (bY:h<=Q+1):h=Q+1:=by
 subst hb;rw[Nat.mul_one]at I;have h0:vf (shf O j) (N+1)<4294967296 ^ (N+1):=Dq λi hi=>J (j+i) (by omega)
 rcases Nat.lt_or_ge Q h with h2|h2
 ·omega
 ·exfalso
  have h3:h=Q:=by omega
  have h4:=Nat.div_mul_le_self U V;rw[hQ,<-h3]at h4;omega
theorem Ul {w:World} {g K j N h bk U V Q x s:Nat} {r Z r4:Nat->Nat} (Y:Row w g K r4) (aX:∀l,l<j∨j+N<=l->r4 l=Z l) (cC:vf (shf r4 j) N+4294967296 ^ N*bk=vf (shf Z j) N+V)
  (O:∀l,l<j∨j+N<l->Z l=r l) {bz:Nat} (hb:bz=1) (J:vf (shf Z j) (N+1)+h*V=U+4294967296 ^ (N+1)*bz) (hj:j+N<K) (bB:∀l,l<K->Z l<4294967296)
  (hx:Z (j+N)=x) (hs:(x+bk) % 4294967296=s) (hQ:U / V=Q) (cA:Q<=h) (gF:h<=Q+1) (hV:0<V) (dE:V<4294967296 ^ N):
  h=Q+1/\Jj (w.setCell ⟨g,j+N,none⟩ (.int .u32 s)) g K j N r (U % V):=by
 subst hb;rw[Nat.mul_one]at J;have h0:vf (shf Z j) (N+1)<4294967296 ^ (N+1):=Dq λi hi=>bB (j+i) (by omega)
 have h1:h=Q+1:=by
  rcases Nat.lt_or_ge Q h with h2|h2
  ·omega
  ·exfalso
   have h3:h=Q:=by omega
   have h4:=Nat.div_mul_le_self U V;rw[hQ,<-h3]at h4;omega
 refine⟨h1,_,Y.set (j+N) s (by omega),λl hl=>by unfold upd;rw[if_neg (by omega),aX l (by omega)];exact O l hl,?_⟩;rw[J3,vf,B6 (nR _),show upd (shf r4 j) N s N=s from by simp[upd]];have h5:=Nat.div_add_mod U V;have h6:=Nat.mod_lt U hV;rw[hQ,Nat.mul_comm]at h5;rw[h1,Nat.add_mul,Nat.one_mul,vf,show shf Z j N=x from hx,Aw]at J;have h7:vf (shf r4 j) N<4294967296 ^ N:=Dq λi hi=>Y.2 (j+i) (by omega)
 have h8:vf (shf r4 j) N+4294967296 ^ N*(x+bk)=U % V+4294967296 ^ N*4294967296:=by
  rw[Nat.mul_add,Nat.mul_comm (4294967296 ^ N) 4294967296];omega
 generalize U % V=R at *;generalize 4294967296 ^ N=P at *
 have h9:x+bk=4294967296:=by
  rcases Nat.lt_trichotomy (x+bk) 4294967296 with I|I|I
  ·exfalso
   have:=Nat.mul_le_mul_left P (show x+bk+1<=4294967296 from I);rw[Nat.mul_add,Nat.mul_one]at this;omega
  ·exact I
  ·exfalso
   have:=Nat.mul_le_mul_left P (show 4294967296+1<=x+bk from I);rw[Nat.mul_add,Nat.mul_one]at this;omega
 rw[h9]at hs h8;rw[<-hs];simp;omega
theorem bV (g j K N cu gv ov cv:Nat) (r b:Nat->Nat) (w:World) (I:Row w g K r) (oT:j+N<K) (hN:2<=N) (hv:Dg w (some ⟨gv,ov,none⟩) cv N b) (oR:gv≠g) (pC:2147483648<=b (N - 1)) (hlt:vf (shf r j) (N+1)<vf b N*4294967296) (rI:N<=70368744177660):
  Calls prog 217 #[.slice (some ⟨g,j,none⟩) (N+1) cu,.slice (some ⟨gv,ov,none⟩) N cv] w λe w'=>e=.returned (.int .u32 (vf (shf r j) (N+1) / vf b N:Nat))/\Only g w w'/\Jj w' g K j N r (vf (shf r j) (N+1) % vf b N):=by
 obtain⟨rF,sC,e,iL,hJ⟩:=hv.head (by omega);injection e with e;injection e with e1 e2;subst e1;subst e2
 obtain⟨u0,nZ⟩:∃x,r (j+N)=x:=⟨_,rfl⟩
 obtain⟨u1,oA⟩:∃x,r (j+(N - 1))=x:=⟨_,rfl⟩
 obtain⟨u2,hu2⟩:∃x,r (j+(N - 2))=x:=⟨_,rfl⟩
 obtain⟨v1,hv1⟩:∃x,b (N - 1)=x:=⟨_,rfl⟩
 obtain⟨v2,hv2⟩:∃x,b (N - 2)=x:=⟨_,rfl⟩
 have rA:w.cell? ⟨g,j+N,none⟩=some (.int .u32 u0):=by rw[<-nZ];exact I.1.cell (by omega)
 have rB:w.cell? ⟨g,j+(N - 1),none⟩=some (.int .u32 u1):=by rw[<-oA];exact I.1.cell (by omega)
 have rC:w.cell? ⟨g,j+(N - 2),none⟩=some (.int .u32 u2):=by rw[<-hu2];exact I.1.cell (by omega)
 have rD:w.cell? ⟨gv,ov+(N - 1),none⟩=some (.int .u32 v1):=by rw[<-hv1];exact hJ _ (by omega)
 have rE:w.cell? ⟨gv,ov+(N - 2),none⟩=some (.int .u32 v2):=by rw[<-hv2];exact hJ _ (by omega)
 have rS:(u0:Int)<4294967296:=by have:=I.2 (j+N) (by omega);omega
 have rT:(u1:Int)<4294967296:=by have:=I.2 (j+(N - 1)) (by omega);omega
 have rU:(u2:Int)<4294967296:=by have:=I.2 (j+(N - 2)) (by omega);omega
 have rV:(v1:Int)<4294967296:=by have:=hv.lt (N - 1) (by omega);omega
 have rW:(v2:Int)<4294967296:=by have:=hv.lt (N - 2) (by omega);omega
 have qV:(2147483648:Int)<=(v1:Int):=by omega
 have rH:(2:Int)<=(N:Int):=by omega
 have eP:=Kh I;have HV:=Kh hv;have pQ:=Kh hlt;have qA:=dL u0 u1 (by omega) (by omega);obtain⟨T,hT⟩:∃T,u1+4294967296*u0=T:=⟨_,rfl⟩
 have rJ:(T:Int)<18446744073709551616:=by omega
 rw[hT]at qA;have oI:=Kh hJ;clear I hv hlt hJ pC;have hK:=eJ (a:=shf r j) (b:=b) hN (λi hi=>eP.1.2 (j+i) (by omega)) HV.1.lt nZ oA hu2 hv1 hv2 (by omega) pQ.1;rw[hT]at hK;obtain⟨U,hU⟩:∃U,vf (shf r j) (N+1)=U:=⟨_,rfl⟩
 obtain⟨V,hV⟩:∃V,vf b N=V:=⟨_,rfl⟩
 obtain⟨Q,hQ⟩:∃Q,U / V=Q:=⟨_,rfl⟩
 rw[hU,hV]at hK;rw[hU,hV,hQ];obtain⟨q0,gU⟩:∃q0,T / v1=q0:=⟨_,rfl⟩
 obtain⟨r0,hM⟩:∃r0,T % v1=r0:=⟨_,rfl⟩
 have qB:Int.tdiv (T:Int) (v1:Int)=(q0:Nat):=by rw[Int.tdiv_eq_ediv_of_nonneg (by omega),<-gU];exact(Int.natCast_ediv _ _).symm
 have qD:Int.tmod (T:Int) (v1:Int)=(r0:Nat):=by rw[Int.tmod_eq_emod_of_nonneg (by omega),<-hM];exact(Int.natCast_emod _ _).symm
 have oY:(T:Int) / (v1:Int)=(q0:Nat):=by rw[<-gU];exact(Int.natCast_ediv _ _).symm
 have pA:(T:Int) % (v1:Int)=(r0:Nat):=by rw[<-hM];exact(Int.natCast_emod _ _).symm
 have nX:(q0:Int)<=4294967297:=by have:=hK.start;omega
 have qC:IntKind.u64.wrap (q0:Int)=q0:=by rw[IntKind.wrap_u64];omega
 have oX:Q<=q0:=by rw[<-hQ,<-gU];exact hK.first
 have oZ:(r0:Int)<(v1:Int):=by have:=Nat.mod_lt T (show 0<v1 by omega);omega
 have hB:q0*v1+r0=T:=by rw[<-gU,<-hM,Nat.mul_comm];exact Nat.div_add_mod _ _
 have HK:=Kh hK;have HU:=Kh hU;have nC:=Kh hV;have HQ:=Kh hQ;have nA:=Kh oX;have dY:=Kh hB;have HT:=Kh hT;clear hK hU hV hQ oX hB hT gU hM nZ oA hu2 hv1 hv2;go_enter func217,ntmps217
 go_wp2;go_quiet (fail)
 go_wp2;go_quiet (fail)
 go_upto_block 0 with(fail)
 clear qB qD oY pA qC;go_cut [7]from 48 to 81 (λv7 wc=>∃h:Nat,v7=.int .u64 h/\Q<=h/\h<=Q+1/\(h:Int)<4294967296/\∃k,wc=w.drewN k)
 case first=>
  go_wp2_with fail
  go_loopw [7,8] (λv7 v8 wr=>∃q r':Nat,v7=.int .u64 q/\v8=.int .u64 r'/\q*v1+r'=T/\(r':Int)<4294967296/\Q<=q/\(q:Int)<=4294967297/\∃k,wr=w.drewN k) (λv7 _ _=>(intOf v7).toNat)
  case atStart=>exact⟨q0,r0,rfl,rfl,dY.1,by omega,nA.1,nX,_,by rw[L7]⟩
  case round=>
   clear nA dY nX oZ;obtain⟨q,r',rfl,rfl,hB,rQ,oO,rP,k,rfl⟩:=hrel;have dY:=Kh hB;have pT:=Kh oO;clear hB oO;go_upto_region 4 with(fail)
   go_cut [69]from 48 to 69 (λv wc=>∃t:Bool,v=.bool t/\(t=true->Q<q)/\(t=false->q<4294967296/\q<=Q+1)/\∃k,wc=w.drewN k)
   case first=>
    have sB:IntKind.i64.wrap ((N:Int) - 2)=(N:Int) - 2:=IntWalk.i64_in _ (by omega);have sA:((N:Int) - 2).toNat=N - 2:=by omega
    have rX:0<=(N:Int) - 2:=by omega
    have rY:N - 2<N:=by omega
    have rZ:N - 2<N+1:=by omega
    by_cases hge:(4294967296:Int)<=(q:Int)
    ·have hZ:decide ((4294967296:Int)<=(q:Int))=true:=decide_eq_true hge
     have J:Q<q:=by have:=HK.1.small;have:=HQ.1;omega
     have cD:=Kh J;clear J;go_wp2;go_region
     go_wp2;go_meet
     case rel=>exact⟨true,rfl,λ_=>cD.1,λh=>by simp at h,_,by first|rfl|rw[L7]|exact(L7 _ _ 1)⟩
    ·have hZ:decide ((4294967296:Int)<=(q:Int))=false:=decide_eq_false hge
     have qX:=Kh hZ;obtain⟨pv,hL⟩:∃pv,q*v2=pv:=⟨_,rfl⟩
     have qT:(q:Int)*(v2:Int)=(pv:Nat):=by rw[<-hL];exact(Int.natCast_mul _ _).symm
     have oV:pv<=4294967295*4294967295:=by rw[<-hL];exact Nat.mul_le_mul (by omega) (by omega)
     have qQ:(pv:Int)<=18446744065119617025:=by omega
     have oU:=dL r' u2 (by omega) (by omega);obtain⟨z,hz⟩:∃z,u2+4294967296*r'=z:=⟨_,rfl⟩
     rw[hz]at oU;by_cases hgt:(z:Int)<(pv:Int)
     ·have J:Q<q:=by rw[<-HQ.1];exact HK.1.down dY.1 (by omega)
      have cD:=Kh J;clear J hz hL oV;go_wp2;go_region
      go_wp2;go_meet
      case rel=>exact⟨true,rfl,λ_=>cD.1,λh=>by simp at h,_,by first|rfl|rw[L7]|exact(L7 _ _ 1)⟩
     ·have J:q<=Q+1:=by rw[<-HQ.1];exact HK.1.upA dY.1 (by omega) (by omega)
      have nY:q<4294967296:=by omega
      have cD:=Kh J;have pS:=Kh nY;clear J nY hz hL oV;go_wp2;go_region
      go_wp2;go_meet
      case rel=>exact⟨false,aL (decide_eq_false (by omega)),λh=>by simp at h,λ_=>⟨pS.1,cD.1⟩,_,by first|rfl|rw[L7]|exact(L7 _ _ 1)⟩
   case rest=>
    obtain⟨t,rfl,ht,hf,k2,rfl⟩:=hcut;cases t with
    | true=>
     have J:=ht rfl;obtain⟨h,rfl⟩:∃h,q=h+1:=⟨q - 1,by omega⟩
     have mA:h*v1+(r'+v1)=T:=by have:=dY.1;rw[Nat.add_mul]at this;omega
     have gS:Q<=h:=by omega
     have hY:=Kh mA;have oJ:=Kh gS;clear ht hf mA J gS;by_cases hbr:(4294967296:Int)<=(r':Int)+(v1:Int)
     ·have pD:h<=Q:=by rw[<-HQ.1];exact HK.1.upB hY.1 (by omega) (by omega)
      have oS:(h:Int)<4294967296:=by have:=HK.1.small;have:=HQ.1;omega
      go_wp2;go_meet
      case rel=>exact⟨h,by go_num,oJ.1,by omega,oS,_,by first|rfl|rw[L7]⟩
     ·go_wp2
      go_roundw
      case rel=>exact⟨h,r'+v1,rfl,by go_num,hY.1,by omega,oJ.1,by omega,_,rfl⟩
      case measure=>simp[intOf]
    | false=>
     obtain⟨nY,pD⟩:=hf rfl;clear ht hf;go_wp2;go_meet
     case rel=>exact⟨q,rfl,pT.1,pD,by omega,_,by first|rfl|rw[L7]⟩
 case rest=>
  clear nA dY nX oZ;obtain⟨h,rfl,hA,oL,oS,k0,rfl⟩:=hcut;have oH:=Kh oL;have HA:=Kh hA;clear hA oL;go_wp2;go_loopw [9,10,84] (λv9 qJ oD wr=>∃i cy bw:Nat,i<=N/\v9=.int .u64 cy/\qJ=.int .u32 bw/\oD=.int .i64 i/\(cy:Int)<4294967296/\(bw:Int)<=1/\eW wr g K j i h (cy+bw) r b/\Only g w wr) (λ_ _ oD _=>N - (intOf oD).toNat)
  case atStart=>exact⟨0,0,0,Nat.zero_le _,rfl,rfl,rfl,by decide,by decide,⟨r,eP.1,λ_ _=>rfl,by simp[vf]⟩,(Only.refl _ _).drewN _⟩
  case round=>
   obtain⟨i,cy,bw,hi,rfl,rfl,rfl,pX,oP,⟨r2,I,cA,gF⟩,hO⟩:=hrel;have HO:=Kh hO;clear hO;have cT:r2 (j+i)=r (j+i):=cA (j+i) (.inr (nR _));by_cases hlt:(i:Int)<(N:Int)
   ·have cx:wr.cell? ⟨g,j+i,none⟩=some (.int .u32 (r (j+i):Nat)):=by rw[<-cT];exact I.1.cell (by omega)
    have fx:wr.frozen? ⟨g,j+i,none⟩=false:=I.1.frozen _;have cb:wr.cell? ⟨gv,ov+i,none⟩=some (.int .u32 (b i:Nat)):=(HO.1.cell (p:=⟨gv,ov+i,none⟩) iL oR).trans (oI.1 i (by omega));have cX:((r (j+i):Nat):Int)<4294967296:=by have:=eP.1.2 (j+i) (by omega);omega
    have hP:((b i:Nat):Int)<4294967296:=by have:=HV.1.lt i (by omega);omega
    obtain⟨x,hx⟩:∃x,r (j+i)=x:=⟨_,rfl⟩
    obtain⟨y,hy⟩:∃y,b i=y:=⟨_,rfl⟩
    rw[hx]at cx cX;rw[hy]at cb hP;obtain⟨pp,nW⟩:∃pp,h*y=pp:=⟨_,rfl⟩
    have qR:(h:Int)*(y:Int)=(pp:Nat):=by rw[<-nW];exact(Int.natCast_mul _ _).symm
    have oW:pp<=4294967295*4294967295:=by rw[<-nW];exact Nat.mul_le_mul (by omega) (by omega)
    have qS:(pp:Int)<=18446744065119617025:=by omega
    obtain⟨tl,qG⟩:∃tl,(pp+cy) % 4294967296=tl:=⟨_,rfl⟩
    obtain⟨cz,pY⟩:∃cz,(pp+cy) / 4294967296=cz:=⟨_,rfl⟩
    have qU:((pp:Int)+(cy:Int)) % 4294967296=(tl:Nat):=by omega
    have qO:((pp:Int)+(cy:Int)) / 4294967296=(cz:Nat):=by omega
    have pB:(tl:Int)<4294967296:=by omega
    have oQ:(cz:Int)<4294967296:=by omega
    have HC:=Jl x tl bw wr cX pB oP;obtain⟨s,hs⟩:∃s:Nat,(s:Int)=((x:Int) - tl - bw) % 4294967296:=⟨(((x:Int) - tl - bw) % 4294967296).toNat,by omega⟩
    obtain⟨bz,bE⟩:∃bz:Nat,(if x<tl+bw then 1 else 0)=bz:=⟨_,rfl⟩
    have bY:(if x<tl+bw then(1:Int)else 0)=(bz:Nat):=by rw[<-bE];split <;> rfl
    have gA:(bz:Int)<=1:=by rw[<-bY];split <;> decide
    have cG:s+tl+bw=x+4294967296*bz:=by split at bE <;> omega
    rw[<-hs,bY]at HC;have bA:=aF I cA gF hx hy (show tl+4294967296*cz=h*y+cy by omega) cG (by omega);have HN:=Kh bA;have HC:=Kh HC;clear bA I cA gF hx hy nW oW qG pY hs bE bY cG cT;go_wp2_with (go_at_call 203;refine HC.1.mono ?_;rintro e w' ⟨rfl,rfl⟩)
    go_roundw
    case rel=>exact⟨i+1,cz,bz,by omega,rfl,rfl,by go_num,oQ,gA,HN.1,HO.1.set _ _⟩
    case measure=>simp[intOf];omega
   ·obtain rfl:i=N:=by omega
    have cx:wr.cell? ⟨g,j+i,none⟩=some (.int .u32 (r (j+i):Nat)):=by rw[<-cT];exact I.1.cell (by omega)
    have fx:wr.frozen? ⟨g,j+i,none⟩=false:=I.1.frozen _;have cX:((r (j+i):Nat):Int)<4294967296:=by have:=eP.1.2 (j+i) (by omega);omega
    obtain⟨x,hx⟩:∃x,r (j+i)=x:=⟨_,rfl⟩
    rw[hx]at cx cX;have qN:(cy:Int) % 4294967296=(cy:Int):=by omega
    have HC:=Jl x cy bw wr cX pX oP;obtain⟨s,hs⟩:∃s:Nat,(s:Int)=((x:Int) - cy - bw) % 4294967296:=⟨(((x:Int) - cy - bw) % 4294967296).toNat,by omega⟩
    obtain⟨bz,bE⟩:∃bz:Nat,(if x<cy+bw then 1 else 0)=bz:=⟨_,rfl⟩
    have bY:(if x<cy+bw then(1:Int)else 0)=(bz:Nat):=by rw[<-bE];split <;> rfl
    have gA:(bz:Int)<=1:=by rw[<-bY];split <;> decide
    have cG:s+cy+bw=x+4294967296*bz:=by split at bE <;> omega
    rw[<-hs,bY]at HC;have bA:=aE I cA gF hx cG (by omega);rw[HU.1,nC.1]at bA;have HN:=Kh bA;have HC:=Kh HC;have oM:=HO.1.set (j+i) (.int .u32 (s:Nat));have hG:=Kh oM;have rM:(h:Int) % 4294967296=(h:Int):=by omega
    clear bA I cA gF hx hs bE bY cG cT oM;by_cases hb0:bz=0
    ·subst hb0
     obtain⟨r3,O,Z,bB⟩:=HN.1;have hd:=Ru rfl O Z bB HQ.1 HA.1 HK.1.Vpos;obtain⟨gP,hd⟩:=hd;have HD:=Kh hd;have mC:=Kh gP;clear O Z bB hd gP;go_wp2_with (go_at_call 203;refine HC.1.mono ?_;rintro e w' ⟨rfl,rfl⟩)
     go_ret;exact⟨A5 (by rw[mC.1]),hG.1,HD.1⟩
    ·obtain rfl:bz=1:=by omega
     clear hb0;obtain⟨r3,O,Z,bB⟩:=HN.1;have gP:=fQ O.2 rfl bB oT HQ.1 HA.1 oH.1;have mC:=Kh gP;have rL:(1:Int)<=(h:Int):=by omega
     have qP:((h:Int) - 1) % 4294967296=(h:Int) - 1:=by omega
     have oK:=Kh O.2;have nB:=Kh O;have pP:=Kh Z;have pU:=Kh bB;clear O Z bB gP HN;go_wp2_with (go_at_call 203;refine HC.1.mono ?_;rintro e w' ⟨rfl,rfl⟩)
     obtain⟨w3,pG⟩:∃w3,World.setCell w' ⟨g,j+i,none⟩ (.int .u32 (s:Nat))=w3:=⟨_,rfl⟩
     rw[pG]at nB hG ⊢;clear pG cx fx HC HO;go_loopw [14,132] (λqK hE wr=>∃i2 bk:Nat,i2<=i/\qK=.int .u32 bk/\hE=.int .i64 i2/\(bk:Int)<=1/\Wa wr g K j i2 bk r3 b/\Only g w wr) (λ_ hE _=>i - (intOf hE).toNat)
     case atStart=>exact⟨0,0,Nat.zero_le _,rfl,rfl,by decide,⟨r3,nB.1,λ_ _=>rfl,by simp[vf]⟩,hG.1⟩
     case round=>
      obtain⟨i2,bk,rO,rfl,rfl,rK,⟨r4,Y,aX,cB⟩,oN⟩:=hrel;have hH:=Kh oN;clear oN hG nB;have cT:r4 (j+i2)=r3 (j+i2):=aX (j+i2) (.inr (nR _));have fx:wr.frozen? ⟨g,j+i2,none⟩=false:=Y.1.frozen _;have cx:wr.cell? ⟨g,j+i2,none⟩=some (.int .u32 (r4 (j+i2):Nat)):=Y.1.cell (by omega);have cX:((r4 (j+i2):Nat):Int)<4294967296:=by have:=Y.2 (j+i2) (by omega);omega
      obtain⟨x4,hx⟩:∃x4,r3 (j+i2)=x4:=⟨_,rfl⟩
      rw[cT,hx]at cx cX;by_cases hlt4:(i2:Int)<(i:Int)
      ·have cb:wr.cell? ⟨gv,ov+i2,none⟩=some (.int .u32 (b i2:Nat)):=(hH.1.cell (p:=⟨gv,ov+i2,none⟩) iL oR).trans (oI.1 i2 (by omega))
       have hP:((b i2:Nat):Int)<4294967296:=by have:=HV.1.lt i2 (by omega);omega
       obtain⟨y,hy⟩:∃y,b i2=y:=⟨_,rfl⟩
       rw[hy]at cb hP;have HC:=Np x4 y bk wr cX hP (by omega);obtain⟨s4,hs⟩:∃s4,(x4+y+bk) % 4294967296=s4:=⟨_,rfl⟩
       obtain⟨bz,bE⟩:∃bz,(x4+y+bk) / 4294967296=bz:=⟨_,rfl⟩
       have qE:(s4:Int)<4294967296:=by omega
       have gA:(bz:Int)<=1:=by omega
       have bA:=Um Y aX cB hx hy hs bE;rw[hs,bE]at HC;have HN:=Kh bA;have HC:=Kh HC;clear bA Y aX cB hx hy hs bE cT;go_wp2_with (go_at_call 201;refine HC.1.mono ?_;rintro e w' ⟨rfl,rfl⟩)
       go_roundw
       case rel=>exact⟨i2+1,bz,by omega,rfl,by go_num,gA,HN.1,hH.1.set _ _⟩
       case measure=>simp[intOf];omega
      ·obtain rfl:i2=i:=by omega
       obtain⟨s4,hs⟩:∃s4,(x4+bk) % 4294967296=s4:=⟨_,rfl⟩
       have rR:((x4:Int)+(bk:Int)) % 4294967296=(s4:Nat):=by omega
       have qE:(s4:Int)<4294967296:=by omega
       have pF:V<4294967296 ^ i2:=by rw[<-nC.1];exact Dq HV.1.lt
       rw[nC.1]at cB;obtain⟨_,hd⟩:=Ul Y aX cB pP.1 rfl pU.1 oT oK.1 hx hs HQ.1 HA.1 oH.1 HK.1.Vpos pF;have HD:=Kh hd;have pR:=Kh (hH.1.set (j+i2) (.int .u32 (s4:Nat)));clear Y aX cB hx hs cT hd pF hH;go_wp2;go_ret;exact⟨A5 (by have:=mC.1;omega),pR.1,HD.1⟩
def Ja (w':World) (e:Ending) (q r:Nat):Prop:=∃p c p' c',e=.returned (.tuple #[.slice p (nd q) c,.slice p' (nd r) c'])/\Nm w' p c q/\Nm w' p' c' r
theorem eC (a:Nat->Nat) (m k:Nat):shf (shf a m) k=shf a (m+k):=by
 funext i;unfold shf;rw[Nat.add_assoc]
theorem Eb (r:Nat->Nat) (k n:Nat):vf (shf r k) (n+1)=r k+4294967296*vf (shf r (k+1)) n:=by
 rw[Ik,eC];rfl
def Ip (w:World) (gu gq N M k:Nat) (r0:Nat->Nat) (V:Nat):Prop:=
 ∃r q,Row w gu (M+N) r/\Row w gq M q/\(∀l,l<k->r l=r0 l)/\vf (shf r k) N=vf (shf r0 k) (M+N - k) % V/\vf (shf q k) (M - k)=vf (shf r0 k) (M+N - k) / V
theorem R0 {w:World} {O J N M V:Nat} {I q:Nat->Nat} (U:Row w O (M+N) I) (hq:Row w J M q) (hV:vf (shf I M) N<V):Ip w O J N M M I V:=by
 refine⟨I,q,U,hq,λ_ _=>rfl,?_,?_⟩
 ·rw[show M+N - M=N from by omega,Nat.mod_eq_of_lt hV]
 ·rw[show M+N - M=N from by omega,Nat.sub_self,Nat.div_eq_of_lt hV];rfl
theorem P3 {N k V X:Nat} {r O:Nat->Nat} (I:∀l,l<k+1->r l=O l) (J:vf (shf r (k+1)) N=X % V) (hV:0<V):vf (shf r k) (N+1)=O k+4294967296*(X % V)/\(O k<4294967296->vf (shf r k) (N+1)<V*4294967296):=by
 have U:vf (shf r k) (N+1)=O k+4294967296*(X % V):=by rw[Eb,J,I k (by omega)]
 refine⟨U,λY=>?_⟩;rw[U];have Z:=Nat.mod_lt X hV;omega
theorem K9 {x X V:Nat} (hV:0<V):(x+4294967296*X) / V=(x+4294967296*(X % V)) / V+4294967296*(X / V)/\(x+4294967296*X) % V=(x+4294967296*(X % V)) % V:=by
 have h:x+4294967296*X=(x+4294967296*(X % V))+V*(4294967296*(X / V)):=by
  have:=Nat.div_add_mod X V;generalize X / V=Q at *;generalize X % V=R at *;rw[<-this];grind
 rw[h];exact⟨Nat.add_mul_div_left _ _ hV,Nat.add_mul_mod_self_left _ _ _⟩
theorem Vf {w:World} {h Y N M k V X Q:Nat} {r I U q:Nat->Nat} (hk:k<M) (hX:vf (shf I (k+1)) (M+N - (k+1))=X) (Z:∀l,l<k+1->r l=I l)
  (hu:Row w h (M+N) U) (O:∀l,l<k∨k+N<l->U l=r l) (J:vf (shf U k) (N+1)=(I k+4294967296*(X % V)) % V)
  (hq:Row w Y M q) (bY:vf (shf q (k+1)) (M - (k+1))=X / V) (hV:0<V) (cF:V<=4294967296 ^ N) (hQ:(I k+4294967296*(X % V)) / V=Q) (bC:Q<4294967296) (bE:Y≠h):
  Ip (w.setCell ⟨Y,k,none⟩ (.int .u32 Q)) h Y N M k I V:=by
 refine⟨U,upd q k Q,⟨hu.1.of_block (Below.heap_setCell w ⟨Y,k,none⟩ _ h (Ne.symm bE)),hu.2⟩,hq.set k Q bC,λl hl=>by rw[O l (.inl hl)];exact Z l (by omega),?_,?_⟩
 ·have h1:vf (shf I k) (M+N - k)=I k+4294967296*X:=by
   rw[show M+N - k=(M+N - (k+1))+1 from by omega,Eb,hX]
  have h2:=(K9 (x:=I k) (X:=X) hV).2;rw[h1,h2,<-J];have h3:=Nat.mod_lt (I k+4294967296*(X % V)) hV;rw[<-J,vf]at h3;rw[vf];rcases Nat.eq_zero_or_pos (shf U k N)with h4|h4
  ·rw[h4];simp
  ·exfalso
   have h5:=Nat.mul_le_mul_left (4294967296 ^ N) (show 1<=shf U k N from h4);omega
 ·have h1:vf (shf I k) (M+N - k)=I k+4294967296*X:=by
   rw[show M+N - k=(M+N - (k+1))+1 from by omega,Eb,hX]
  have h2:=(K9 (x:=I k) (X:=X) hV).1;rw[h1,h2,hQ,<-bY,show M - k=(M - (k+1))+1 from by omega,Eb];rw[show upd q k Q k=Q from by simp[upd]];congr 2;exact D8 λi _=>by unfold shf upd;rw[if_neg (by omega)]
theorem Yw {w:World} {O J N M V:Nat} {I:Nat->Nat} (h:Ip w O J N M 0 I V):
  ∃r q,Row w O (M+N) r/\Row w J M q/\vf r N=vf I (M+N) % V/\vf q M=vf I (M+N) / V:=by
 obtain⟨r,q,Z,h2,_,U,Y⟩:=h;have e:∀a:Nat->Nat,shf a 0=a:=λa=>by funext i;unfold shf;rw[Nat.zero_add]
 simp only[e,Nat.sub_zero]at U Y;exact⟨r,q,Z,h2,U,Y⟩
theorem Hw:∀(f x:Nat),x<2 ^ f->x<2 ^ Lib.bitLenAux f x
 | 0,x,h=>by simpa [Lib.bitLenAux] using h
 | f+1,x,h=>by
  rw[Lib.bitLenAux];by_cases h0:x=0
  ·rw[if_pos h0,h0];simp
  ·rw[if_neg h0]
   have I:=Hw f (x / 2) (by rw[Nat.pow_succ]at h;omega);rw[Nat.add_comm,Nat.pow_succ];omega
theorem Vh (t:Nat) (h:t<2 ^ 64):t<2 ^ Lib.bitLen t:=Hw 64 t h
theorem Kg (t:Nat) (h:t≠0):1<=Lib.bitLen t:=by
 unfold Lib.bitLen;rw[show(64:Nat)=63+1 from rfl,Lib.bitLenAux,if_neg h];omega
theorem Un (t:Nat) (I:t≠0):2 ^ (Lib.bitLen t - 1)<=t:=by
 rcases Nat.lt_or_ge t (2 ^ (Lib.bitLen t - 1))with h|h
 ·exfalso
  have J:=Lib.bitLenAux_le 64 t _ h;have O:=Kg t I;unfold Lib.bitLen at J O;omega
 ·exact h
theorem Yy {v t s:Nat} (hv:v≠0) (V:v / 4294967296 ^ (nd v - 1)=t) (hs:s+Lib.bitLen t=32):
  s<32/\t<4294967296/\nd (v*2 ^ s)=nd v/\2147483648<=dg (v*2 ^ s) (nd v - 1)/\v*2 ^ s<4294967296 ^ (nd v)/\4294967296 ^ (nd v - 1)*2147483648<=v*2 ^ s:=by
 obtain⟨m,hm⟩:∃m,nd v=m+1:=⟨nd v - 1,by have:=Bz.2 hv;omega⟩
 have h1:=iH hv;have h2:=Bj.1 (nR (nd v));rw[hm]at h1 h2 V;rw[hm];simp only[Nat.add_sub_cancel]at *;have O:0<4294967296 ^ m:=Dig.pow_pos m
 have t0:t≠0:=by
  have:1<=v / 4294967296 ^ m:=(Nat.le_div_iff_mul_le O).2 (by omega);omega
 have t1:t<4294967296:=by rw[<-V,Nat.div_lt_iff_lt_mul O,<-Aw];exact h2
 have l3:=Vh t (by omega);have l2:=Un t t0;have l1:=Kg t t0;generalize Lib.bitLen t=L at *;obtain⟨l,rfl⟩:∃l,L=l+1:=⟨L - 1,by omega⟩
 have Z:s<32:=by omega
 have e1:2 ^ s*2 ^ (l+1)=4294967296:=by rw[<-Nat.pow_add,hs]
 have e2:2 ^ s*2 ^ l=2147483648:=by rw[Nat.pow_succ,<-Nat.mul_assoc]at e1;omega
 simp only[Nat.add_sub_cancel]at l2;have v1:4294967296 ^ m*t<=v:=by rw[<-V];exact Nat.mul_div_le _ _
 have v2:v<4294967296 ^ m*(t+1):=by rw[<-V];exact Nat.lt_mul_div_succ _ O
 obtain⟨P,I⟩:∃P,4294967296 ^ m=P:=⟨_,rfl⟩
 rw[I]at O v1 v2 ⊢
 have h:P*2147483648<=v*2 ^ s:=by
  have J:=Nat.mul_le_mul_left P (Nat.mul_le_mul_left (2 ^ s) l2);have U:=Nat.mul_le_mul_right (2 ^ s) v1;rw[e2]at J;have e3:P*(2 ^ s*t)=P*t*2 ^ s:=by grind
  omega
 have Y:v*2 ^ s<4294967296*P:=by
  have J:=Nat.mul_le_mul_left P (Nat.mul_le_mul_left (2 ^ s) (show t+1<=2 ^ (l+1)from l3));have U:=Nat.mul_lt_mul_of_pos_right v2 (Nat.two_pow_pos s);rw[e1]at J;have e3:P*(2 ^ s*(t+1))=P*(t+1)*2 ^ s:=by grind
  omega
 have n1:nd (v*2 ^ s)=m+1:=by
  have J:=(Bj (v:=v*2 ^ s) (k:=m+1)).2 (by rw[Aw];exact I▸Y)
  have U:¬nd (v*2 ^ s)<=m:=λh7=>by
   have h8:=Bj.1 h7;rw[I]at h8;have h9:=Nat.mul_le_mul_left P (show 1<=2147483648 by omega);omega
  omega
 refine⟨Z,t1,n1,?_,by rw[Aw,I];exact Y,h⟩;unfold dg;rw[I];have J:2147483648<=v*2 ^ s / P:=(Nat.le_div_iff_mul_le O).2 (by rw[Nat.mul_comm];exact h);have U:v*2 ^ s / P<4294967296:=by rw[Nat.div_lt_iff_lt_mul O];exact Y
 rw[Nat.mod_eq_of_lt U];exact J
def sg (s:Bool) (m:Nat):Int:=if s then -(m:Int)else(m:Int)
theorem I6 (s:Bool) (m:Nat):(sg s m).natAbs=m:=by unfold sg;split <;> omega
theorem iQ (s:Bool) (m:Nat):decide (sg s m<0)=(s&&decide (m≠0)):=by
 cases s
 ·simp[sg]
 ·simp only[sg,if_true,Bool.true_and,decide_eq_decide];omega
theorem eB (s:Bool) (u v:Nat):sg s u+sg s v=sg s (u+v):=by unfold sg;split <;> omega
theorem dZ (s:Bool) (u v:Nat) (h:v<=u):sg s u+sg (!s) v=sg s (u - v):=by cases s <;> simp[sg] <;> omega
theorem eA (s:Bool) (u v:Nat) (h:u<=v):sg s u+sg (!s) v=sg (!s) (v - u):=by cases s <;> simp[sg] <;> omega
theorem Z3 (s t:Bool) (u v:Nat):sg s u*sg t v=sg (s != t) (u*v):=by
 cases s <;> cases t <;> simp[sg,Int.neg_mul,Int.mul_neg]
theorem iR (s:Bool) (u:Nat):sg (!s) u=- sg s u:=by cases s <;> simp[sg]
theorem Cp (u:Nat):sg false u=u:=rfl
theorem Ok (z:Int):sg (decide (z<0)) z.natAbs=z:=by
 by_cases h:z<0
 ·rw[decide_eq_true h];simp only[sg,if_true];omega
 ·rw[decide_eq_false h];simp only[sg,Bool.false_eq_true,if_false];omega
def Zr (w:World) (s:Bool) (p:Option Addr) (n c:Nat) (z:Int):Prop:=∃a,Dg w p c n a/\sg s (vf a n)=z
def Zs (w:World) (s:Bool) (p:Option Addr) (n c:Nat) (z:Int):Prop:=s=decide (z<0)/\nd z.natAbs=n/\Nm w p c z.natAbs
theorem Zr.keep {w w':World} {s:Bool} {p:Option Addr} {n c:Nat} {z:Int} (h:Zr w s p n c z) (O:Below w.heap.size w w'):Zr w' s p n c z:=by
 obtain⟨a,I,J⟩:=h;exact⟨a,I.keep O,J⟩
theorem Zs.keep {w w':World} {s:Bool} {p:Option Addr} {n c:Nat} {z:Int} (h:Zs w s p n c z) (I:Below w.heap.size w w'):Zs w' s p n c z:=⟨h.1,h.2.1,h.2.2.keep I⟩
theorem Zs.raw {w:World} {s:Bool} {p:Option Addr} {n c:Nat} {z:Int} (h:Zs w s p n c z):Zr w s p n c z:=by
 obtain⟨O,J,I⟩:=h;unfold Nm at I;rw[J]at I;exact⟨_,I,by rw[O,<-J,Bn,Ok]⟩
theorem Zr.size {w:World} {s:Bool} {p:Option Addr} {n c:Nat} {z:Int} (h:Zr w s p n c z):nd z.natAbs<=n:=by
 obtain⟨a,I,J⟩:=h;rw[<-J,I6];exact Bj.2 (Dq I.lt)
def Gx (w':World) (e:Ending) (z:Int):Prop:=∃s p n c,e=.returned (.agg #[.bool s,.slice p n c])/\Zs w' s p n c z
theorem Q5 {w:World} {p:Option Addr} {c m k:Nat} {s t:Bool} (h:Nm w p c m) (I:nd m=k) (J:t=(s&&decide (0<k))):Zs w t p k c (sg s m):=by
 refine⟨?_,by rw[I6];exact I,by rw[I6];exact h⟩;rw[iQ,J,<-I];congr 1;rw[decide_eq_decide];exact Bz
def Ca (a:Nat->Nat) (n:Nat):List Value:=(List.range n).map λi=>.int .u32 (a i:Nat)
theorem D9 (a:Nat->Nat) (n:Nat):(Ca a n).length=n:=by simp[Ca]
theorem Fx {a:Nat->Nat} {n j:Nat} (h:j<n):(Ca a n)[j]?=some (.int .u32 (a j:Nat)):=by simp[Ca,h]
theorem Hb {a:Nat->Nat} {n j:Nat} {u:Value} (h:(Ca a n)[j]?=some u):j<n/\u=.int .u32 (a j:Nat):=by
 have I:j<n:=by
  rcases Nat.lt_or_ge j n with I|I
  ·exact I
  ·rw[List.getElem?_eq_none (by rw[D9];exact I)]at h;cases h
 rw[Fx I]at h;injection h with h
 exact⟨I,h.symm⟩
theorem Fy {a:Nat->Nat} {n:Nat}:∀u∈Ca a n,u.oneCell'=true:=by
 intro u I;obtain⟨i,_,rfl⟩:=List.mem_map.1 I;rfl
theorem Dg.of_own {w:World} {B n:Nat} {v:Value} {a:Nat->Nat} (h:w.ownsRow B 200 1 v n (Ca a n)) (I:∀j,j<n->a j<4294967296):∃p c,v=.slice p n c/\Dg w p c n a:=by
 rcases De h with⟨rfl,rfl,_⟩ |⟨g,cap,rfl,_,hg,J⟩
 ·exact⟨none,0,rfl,nR _,I,.inl rfl⟩
 ·exact⟨_,_,rfl,J,I,.inr ⟨g,0,rfl,hg,λj O=>by rw[Nat.zero_add];exact An h (Fx O)⟩⟩
theorem Qz:prog.underlying 82=some (.slice 200):=underlying82
theorem St (p:Option Addr) (c n:Nat) (a:Nat->Nat) (w:World) (h:Dg w p c n a) (hn:n<=35184372088830):
  Calls prog 147 #[.slice p n c] w λe w'=>RetD w' e n (vf a n)/\Below w.heap.size w w':=by
 cases p with
 | none=>
  obtain rfl:n=0:=by
   rcases h.at' with h1 |⟨g,o,e,_⟩
   ·exact h1
   ·cases e
  clear h;have bC:∀(w:World) (a:Option Addr) (n c V O:Nat),(binOp .eql 82 (.slice a n c) (.slice none V O)).run prog w=.ok (.bool a.isNone) w:=λw a n c V O=>Lib.run_eql_slice_nil w _ _ a n c V O Qz
  go_enter func147,ntmps147
  go_wp2;go_ret;exact⟨⟨none,0,a,rfl,⟨nR _,λj Z=>absurd Z (Nat.not_lt_zero _),.inl rfl⟩,rfl⟩,Below.refl _ _⟩
 | some q=>
  have I:∀(o:Obj) (j:Nat) (u:Value),(Ca a n)[j]?=some u->(w.alloc o).cell? (q.add j)=some u:=by
   intro o j u hu;obtain⟨Z,rfl⟩:=Hb hu;obtain⟨g,o',e,hg,hc⟩:=h.head (by omega);injection e with e
   subst e;rw[Addr.add_lit];exact Lib.cell?_alloc_some _ (hc j Z)
  have HC:=Kh I;have HL:=Kh h.lt;have HN:=Kh hn;clear I h hn;obtain⟨i0,hi,aX,bA,bB⟩:=info_parts Gw;have bC:∀(w:World) (a:Option Addr) (n c V O:Nat),(binOp .eql 82 (.slice a n c) (.slice none V O)).run prog w=.ok (.bool a.isNone) w:=λw a n c V O=>Lib.run_eql_slice_nil w _ _ a n c V O Qz
  go_enter func147,ntmps147
  go_wp2_with (at_builtin;refine wpList_append_own _ rfl _ _ 82 rfl w.heap.size 200 i0 (.int .u32 0) 1 4 Qz hi aX bA bB rfl (by decide) _ _ _ rfl (World.ownsRow_made w #[] 0 (nR _) (Nat.zero_le _) rfl) q n c (Ca a n) rfl ?qc1 ?qc2 ?qc3 ?qc4 ?qc5 ?qc6 ?_)
  case qc1=>rw[D9,Nat.mul_one]
  case qc2=>exact HC.1 _
  case qc3=>exact Fy
  case qc4=>have:=HN.1;unfold maxLen;omega
  case qc5=>have:=HN.1;omega
  case qc6=>simp
  intro v' w1 U J Y;have hb:Below w.heap.size w w1:=((Below.refl _ w).alloc (nR _) _).grown J (by simp) (by intro k hk;simp[Value.ownBlock]at hk;omega);obtain⟨p',O,rfl,hd⟩:=Dg.of_own (n:=n) (a:=a) (by simpa using U) HL.1;have HD:=Kh hd;have HB:=Kh hb;clear U J Y hd hb;go_wp2;go_ret;exact⟨⟨p',O,a,rfl,HD.1,rfl⟩,HB.1⟩
end
end Go.Proofs.YtenlbhlllgppmaaGreatDoor
