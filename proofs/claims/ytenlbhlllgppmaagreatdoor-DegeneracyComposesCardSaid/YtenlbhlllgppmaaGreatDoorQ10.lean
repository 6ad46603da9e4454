/- Contracts of bigint's shifted and unshifted. -/
import Derived.Test.YtenlbhlllgppmaaGreatDoorQ09
import Derived.Deep.CutBlock
set_option maxRecDepth 100000
set_option maxHeartbeats 8000000
namespace Go.Proofs.YtenlbhlllgppmaaGreatDoor
section
open Go.RowKit Tryz
theorem Ic {s:Nat} (H:s<32):(4294967296:Nat)=2 ^ s*2 ^ (32 - s):=by
 rw[<-Nat.pow_add,show s+(32 - s)=32 from by omega]
theorem S5 (x s:Nat) (H:s<32):x*2 ^ s % 4294967296=2 ^ s*(x % 2 ^ (32 - s)):=by
 rw[Ic H,Nat.mul_comm x,Nat.mul_mod_mul_left]
theorem Yj (x s r:Nat) (H:s<32) (hr:r<2 ^ s):r+x*2 ^ s % 4294967296<4294967296:=by
 rw[S5 x s H];have I:=Nat.mod_lt x (Nat.two_pow_pos (32 - s));have J:=Nat.mul_le_mul_left (2 ^ s) (show x % 2 ^ (32 - s)+1<=2 ^ (32 - s)from I);rw[<-Ic H,Nat.mul_add,Nat.mul_one]at J;omega
theorem fJ (x s r:Nat) (H:s<32) (hr:r<2 ^ s):bits .or .u32 (r:Int) (((x*2 ^ s:Nat):Int) % 4294967296)=((r+x*2 ^ s % 4294967296:Nat):Int):=by
 have J:=Yj x s r H hr;have I:((x*2 ^ s:Nat):Int) % 4294967296=((x*2 ^ s % 4294967296:Nat):Int):=by rw[Int.natCast_emod];rfl
 rw[I,u32_or_nat _ _ (by omega) (Nat.mod_lt _ (by omega)),Nat.or_comm,S5 x s H,<-Nat.two_pow_add_eq_or_of_lt hr,Nat.add_comm]
theorem S6 (x s:Nat) (H:x<4294967296):x*2 ^ s / 4294967296<2 ^ s:=by
 rw[Nat.div_lt_iff_lt_mul (by omega),Nat.mul_comm];exact Nat.mul_lt_mul_of_pos_left H (Nat.two_pow_pos s)
theorem Ex {s:Nat} (H:s<32):2 ^ s<=2147483648:=by
 have:=Nat.pow_le_pow_right (show 0<2 by omega) (show s<=31 by omega);omega
theorem Yk (x s:Nat) (I:s<32) (O:x<4294967296):IntKind.u64.wrap ((x:Int)*2 ^ s)=((x*2 ^ s:Nat):Int):=by
 have J:x*2 ^ s<=4294967295*2147483648:=Nat.mul_le_mul (by omega) (Ex I);have H:(x:Int)*2 ^ s=((x*2 ^ s:Nat):Int):=by rw[Int.natCast_mul,Int.natCast_pow];rfl
 rw[H,IntKind.wrap_u64];generalize x*2 ^ s=t at *;omega
def Rr (w:World) (g n1 k s t:Nat):Prop:=∃r,Row w g n1 r/\vf r (k+1)=t*2 ^ s/\r k<2 ^ s
theorem Ri {w:World} {g V k s x y z:Nat} {a r:Nat->Nat} (H:Row w g V r) (hv:vf r (k+1)=vf a k*2 ^ s) (I:r k<2 ^ s) (O:s<32) (hx:a k=x) (J:x<4294967296) (hy:r k+x*2 ^ s % 4294967296=y) (U:x*2 ^ s / 4294967296=z):
  Rr ((w.setCell ⟨g,k,none⟩ (.int .u32 y)).setCell ⟨g,k+1,none⟩ (.int .u32 z)) g V (k+1) s (vf a (k+1)):=by
 have h1:=Yj x s (r k) O I;have Y:=S6 x s J;have h3:=Ex O;refine⟨_,(H.set k y (by omega)).set (k+1) z (by omega),?_,by show(if k+1=k+1 then z else _)<_;rw[if_pos rfl,<-U];exact Y⟩;rw[vf,Bq (kT _),vf,Bq (kT _),show upd (upd r k y) (k+1) z (k+1)=z from by simp[upd],show upd r k y k=y from by simp[upd],vf,hx,Nat.add_mul,<-hv,vf,Ay];have Z:x*2 ^ s=x*2 ^ s % 4294967296+4294967296*z:=by rw[<-U];omega
 have h:4294967296 ^ k*x*2 ^ s=4294967296 ^ k*(x*2 ^ s % 4294967296)+4294967296*4294967296 ^ k*z:=by
  rw[Nat.mul_assoc,Nat.mul_comm 4294967296,Nat.mul_assoc,<-Nat.mul_add,<-Z]
 rw[h,<-hy,Nat.mul_add];omega
def fQ (B:Nat) (w':World) (e:Ending) (k t:Nat):Prop:=∃g c r,e=.returned (.slice (some ⟨g,0,none⟩) k c)/\k<=c/\B<=g/\Row w' g k r/\vf r k=t
theorem Lv (p:Option Addr) (c n:Nat) (a:Nat->Nat) (s:Nat) (w:World) (h1:Dg w p c n a) (hn:n<=70368744177660) (hs:(s:Int)<32):
  Calls prog 216 #[.slice p n c,.int .u64 s] w λe w'=>fQ w.heap.size w' e (n+1) (vf a n*2 ^ s)/\Below w.heap.size w w':=by
 have aU:∀w,(Instr.makeSlice 82 (.int .i64 ((n:Int)+1)) (.int .i64 ((n:Int)+1))).run prog w=.ok (.slice (some ⟨w.heap.size,0,none⟩) (n+1) (n+1)) (w.alloc (.cells (madeCells #[.int .u32 0] (n+1)) 200)):=Gk (n+1) (by omega)
 have H:=Row.made w (n+1);have H1:=Kh h1;have HR:=Kh H;clear h1 H;go_enter func216,ntmps216
 go_wp2;obtain⟨wb,I⟩:∃wb,w.alloc (.cells (madeCells #[.int .u32 0] (n+1)) 200)=wb:=⟨_,rfl⟩
 rw[I];have J:Below w.heap.size w wb:=by rw[<-I];exact(Below.refl _ _).alloc (kT _) _
 rw[I]at HR;have aK:=Kh J;clear I J aU;go_loopw [15] (λU wr=>∃k:Nat,k<=n/\U=.int .i64 k/\Rr wr w.heap.size (n+1) k s (vf a k)/\Below w.heap.size w wr) (λU _=>n - (intOf U).toNat)
 case atStart=>exact⟨0,Nat.zero_le _,rfl,⟨_,HR.1,by simp[vf],Nat.two_pow_pos s⟩,aK.1⟩
 case round=>
  obtain⟨k,hk,rfl,⟨r,H,hv,h⟩,hb⟩:=hrel;have HB:=Kh hb;have HV:=Kh hv;have V:=Kh h;clear hb hv h;by_cases hlt:(k:Int)<(n:Int)
  ·obtain⟨g1,o1,rfl,aT,Y⟩:=H1.1.head (by omega)
   have c1:wr.cell? ⟨g1,o1+k,none⟩=_:=(HB.1.cell (p:=⟨g1,o1+k,none⟩) aT).trans (Y k (by omega));have bA:((a k:Nat):Int)<4294967296:=by have:=H1.1.lt k (by omega);omega
   obtain⟨x,hx⟩:∃x,a k=x:=⟨_,rfl⟩
   rw[hx]at c1 bA;have eP:wr.cell? ⟨w.heap.size,k,none⟩=some (.int .u32 (r k:Nat)):=H.1.cell (by omega);have dY:wr.frozen? ⟨w.heap.size,k,none⟩=false:=H.1.frozen _;have cD:wr.cell? ⟨w.heap.size,k+1,none⟩=some (.int .u32 (r (k+1):Nat)):=H.1.cell (by omega);have cC:wr.frozen? ⟨w.heap.size,k+1,none⟩=false:=H.1.frozen _;have aD:=Yk x s (by omega) (by omega);have Z:=fJ x s (r k) (by omega) V.1;have O:=Ri H HV.1 V.1 (by omega) hx (by omega) rfl rfl
   have hcut:((x*2 ^ s:Nat):Int) / 4294967296 % 4294967296=((x*2 ^ s / 4294967296:Nat):Int):=by
    have h1:=S6 x s (by omega);have h2:=Ex (s:=s) (by omega);generalize x*2 ^ s=t at *;omega
   have HN:=Kh O;have HW:=Kh aD;have HO:=Kh Z;have aL:=Kh hcut;clear O H Y hx aD Z hcut;go_wp2;rw[HW.1,HO.1,aL.1];go_roundw
   case rel=>exact⟨k+1,by omega,by go_num,HN.1,(HB.1.setCell (kT _) _).setCell (kT _) _⟩
   case measure=>simp[intOf];omega
  ·obtain rfl:k=n:=by omega
   go_wp2;go_ret;have hR:fQ w.heap.size wr (.returned (.slice (some ⟨w.heap.size,0,none⟩) (k+1) (k+1))) (k+1) (vf a k*2 ^ s):=⟨_,_,r,rfl,kT _,kT _,H,HV.1⟩
   exact⟨hR,HB.1⟩
theorem Y3 {a:Nat->Nat} {n:Nat} (h:∀i,i<n->a i<4294967296) {i:Nat} (H:i<=n):vf a n / 4294967296 ^ i=vf (shf a i) (n - i):=by
 obtain⟨k,rfl⟩:∃k,n=i+k:=⟨n - i,by omega⟩
 rw[Hp,Nat.add_sub_cancel_left,Nat.add_mul_div_left _ _ (Dig.pow_pos i),Nat.div_eq_of_lt (Ds λj I=>h j (by omega)),Nat.zero_add]
theorem Lf {a:Nat->Nat} {n s i:Nat} (h:∀i,i<n->a i<4294967296) (O:s<32) (I:i<n):dg (vf a n / 2 ^ s) i=(a i+4294967296*ext a n (i+1)) / 2 ^ s % 4294967296:=by
 unfold dg;rw[Nat.div_div_eq_div_mul,Nat.mul_comm,<-Nat.div_div_eq_div_mul,Y3 h (Nat.le_of_lt I)];obtain⟨m,J⟩:∃m,n - i=m+1:=⟨n - i - 1,by omega⟩
 rw[J,Ho,show shf a i 0=a i from rfl]
 have U:∃Z,vf (shf (shf a i) 1) m=ext a n (i+1)+4294967296*Z:=by
  cases m with
  | zero=>exact⟨0,by unfold ext;rw[if_neg (by omega)];rfl⟩
  | succ m=>exact⟨vf (shf (shf (shf a i) 1) 1) m,by rw[Ho];unfold ext;rw[if_pos (by omega)];unfold shf;simp⟩
 obtain⟨Z,H⟩:=U;rw[H]
 have e:a i+4294967296*(ext a n (i+1)+4294967296*Z)=(a i+4294967296*ext a n (i+1))+2 ^ s*(4294967296*(2 ^ (32 - s)*Z)):=by
  have:=Ic O;rw[Nat.mul_add,show 2 ^ s*(4294967296*(2 ^ (32 - s)*Z))=(2 ^ s*2 ^ (32 - s))*(4294967296*Z)from by simp only[Nat.mul_assoc,Nat.mul_comm,Nat.mul_left_comm],<-this];omega
 rw[e,Nat.add_mul_div_left _ _ (Nat.two_pow_pos s),Nat.add_mul_mod_self_left]
theorem iQ (x y:Nat) (H:x<4294967296) (I:y<4294967296):bits .or .u64 (x:Int) ((y:Int)*4294967296)=((x+4294967296*y:Nat):Int):=by
 rw[show(y:Int)*4294967296=((2 ^ 32*y:Nat):Int)from by omega,bits_or_u64_nat _ _ (by omega) (by omega),Nat.or_comm,<-Nat.two_pow_add_eq_or_of_lt (show x<2 ^ 32 from H)];omega
theorem Tb (t s:Nat):((t:Nat):Int) / 2 ^ s % 4294967296=((t / 2 ^ s % 4294967296:Nat):Int):=by
 rw[Int.natCast_emod,Int.natCast_ediv,Int.natCast_pow];rfl
def fV (w:World) (g n k T:Nat):Prop:=∃r,Row w g n r/\∀i,i<k->r i=dg T i
theorem Tc {w:World} {g n k T:Nat} {r:Nat->Nat} (H:Row w g n r) (I:∀i,i<k->r i=dg T i):fV (w.setCell ⟨g,k,none⟩ (.int .u32 (dg T k:Nat))) g n (k+1) T:=
 ⟨_,H.set k _ (dg_lt T k),λi J=>by
  unfold upd;split
  ·rename_i h;rw[h]
  ·exact I i (by omega)⟩
theorem Ow (p:Option Addr) (c n:Nat) (a:Nat->Nat) (s:Nat) (w:World) (h1:Dg w p c n a) (hn:n<=70368744177660) (hs:(s:Int)<32):
  Calls prog 218 #[.slice p n c,.int .u64 s] w λe w'=>RetD w' e n (vf a n / 2 ^ s)/\Below w.heap.size w w':=by
 have bB:∀w,(Instr.makeSlice 82 (.int .i64 (n:Int)) (.int .i64 (n:Int))).run prog w=.ok (.slice (some ⟨w.heap.size,0,none⟩) n n) (w.alloc (.cells (madeCells #[.int .u32 0] n) 200)):=Gk n (by omega)
 have H:=Row.made w n;have H1:=Kh h1;have HR:=Kh H;clear h1 H;go_enter func218,ntmps218
 go_wp2;obtain⟨wb,U⟩:∃wb,w.alloc (.cells (madeCells #[.int .u32 0] n) 200)=wb:=⟨_,rfl⟩
 rw[U];have V:Below w.heap.size w wb:=by rw[<-U];exact(Below.refl _ _).alloc (kT _) _
 rw[U]at HR;have aU:=Kh V;clear U V bB;go_loopw [13] (λv wr=>∃k:Nat,k<=n/\v=.int .i64 k/\fV wr w.heap.size n k (vf a n / 2 ^ s)/\Below w.heap.size w wr) (λv _=>n - (intOf v).toNat)
 case atStart=>exact⟨0,Nat.zero_le _,rfl,⟨_,HR.1,λi hi=>absurd hi (Nat.not_lt_zero _)⟩,aU.1⟩
 case round=>
  obtain⟨k,hk,rfl,⟨r,H,hv⟩,hb⟩:=hrel;have HB:=Kh hb;have HV:=Kh hv;clear hb hv;by_cases hlt:(k:Int)<(n:Int)
  ·obtain⟨g1,o1,rfl,aK,O⟩:=H1.1.head (by omega)
   have c1:wr.cell? ⟨g1,o1+k,none⟩=_:=(HB.1.cell (p:=⟨g1,o1+k,none⟩) aK).trans (O k (by omega));have bE:((a k:Nat):Int)<4294967296:=by have:=H1.1.lt k (by omega);omega
   obtain⟨x,hx⟩:∃x,a k=x:=⟨_,rfl⟩
   have eP:wr.cell? ⟨w.heap.size,k,none⟩=some (.int .u32 (r k:Nat)):=H.1.cell (by omega);have dE:wr.frozen? ⟨w.heap.size,k,none⟩=false:=H.1.frozen _;have Y:=Lf (a:=a) (n:=n) (s:=s) (i:=k) H1.1.lt (by omega) (by omega);rw[hx]at c1 bE Y;by_cases hlt1:(k:Int)+1<(n:Int)
   ·have c2:wr.cell? ⟨g1,o1+(k+1),none⟩=_:=(HB.1.cell (p:=⟨g1,o1+(k+1),none⟩) aK).trans (O (k+1) (by omega))
    have cA:((a (k+1):Nat):Int)<4294967296:=by have:=H1.1.lt (k+1) (by omega);omega
    obtain⟨y,hy⟩:∃y,a (k+1)=y:=⟨_,rfl⟩
    rw[show ext a n (k+1)=y from by unfold ext;rw[if_pos (by omega)];exact hy]at Y;rw[hy]at c2 cA;have e2:((k:Int)+1).toNat=k+1:=by omega
    have aL:=iQ x y (by omega) (by omega);have J:=Tb (x+4294967296*y) s;rw[<-Y]at J;have I:=Tc H HV.1;have HN:=Kh I;have HO:=Kh aL;have h:=Kh J;clear O hx hy aL J I Y H;go_wp2;rw[HO.1,h.1];go_roundw
    case rel=>exact⟨k+1,by omega,by go_num,HN.1,HB.1.setCell (kT _) _⟩
    case measure=>simp[intOf];omega
   ·rw[show ext a n (k+1)=0 from by unfold ext;rw[if_neg (by omega)]]at Y
    have J:=Tb x s;rw[Nat.mul_zero,Nat.add_zero]at Y;rw[<-Y]at J;have I:=Tc H HV.1;have HN:=Kh I;have h:=Kh J;clear O hx J I Y H;go_wp2;rw[h.1];go_roundw
    case rel=>exact⟨k+1,by omega,by go_num,HN.1,HB.1.setCell (kT _) _⟩
    case measure=>simp[intOf];omega
  ·obtain rfl:k=n:=by omega
   have Z:vf r k=vf a k / 2 ^ s:=by
    rw[Dr HV.1,Pw];exact Nat.lt_of_le_of_lt (Nat.div_le_self _ _) (Ds H1.1.lt)
   have hR:RetD wr (.returned (.slice (some ⟨w.heap.size,0,none⟩) k k)) k (vf a k / 2 ^ s):=⟨_,_,r,rfl,H.dg _ (kT _),Z⟩
   have HF:=Kh hR;clear hR Z H;go_wp2;go_ret;exact⟨HF.1,HB.1⟩
end
namespace Kn
structure Tops (P lu lv T u2 v1 v2 U V:Nat):Prop where
 hlu:lu<P
 hlv:lv<P
 hu2:u2<4294967296
 hv2:v2<4294967296
 hv1:2147483648<=v1
 hU:U=lu+P*(u2+4294967296*T)
 hV:V=lv+P*(v2+4294967296*v1)
 hlt:U<V*4294967296
section
variable {P lu lv T u2 v1 v2 U V:Nat}
theorem Tops.hP (h:Tops P lu lv T u2 v1 v2 U V):0<P:=by have:=h.hlu;omega
theorem Tops.Vpos (h:Tops P lu lv T u2 v1 v2 U V):0<V:=by
 have I:=h.hV;have H:=h.hP;have J:=h.hv1;have O:=Nat.mul_pos H (show 0<v2+4294967296*v1 by omega);omega
theorem Tops.Ult (h:Tops P lu lv T u2 v1 v2 U V):U<(P*4294967296)*(T+1):=by
 have H:=h.hU;have J:=h.hlu;have I:=Nat.mul_le_mul_left P (show u2+1<=4294967296 from h.hu2);rw[Nat.mul_add,Nat.mul_one]at I;rw[Nat.mul_add,<-Nat.mul_assoc]at H;rw[Nat.mul_add,Nat.mul_one];omega
theorem Tops.Vlt (h:Tops P lu lv T u2 v1 v2 U V):V<(P*4294967296)*(v1+1):=by
 have H:=h.hV;have J:=h.hlv;have I:=Nat.mul_le_mul_left P (show v2+1<=4294967296 from h.hv2);rw[Nat.mul_add,Nat.mul_one]at I;rw[Nat.mul_add,<-Nat.mul_assoc]at H;rw[Nat.mul_add,Nat.mul_one];omega
theorem Tops.Vge (h:Tops P lu lv T u2 v1 v2 U V):(P*4294967296)*v1<=V:=by
 have H:=h.hV;rw[Nat.mul_add,<-Nat.mul_assoc]at H;omega
theorem Tops.Uge (h:Tops P lu lv T u2 v1 v2 U V):(P*4294967296)*T<=U:=by
 have H:=h.hU;rw[Nat.mul_add,<-Nat.mul_assoc]at H;omega
theorem Tops.first (h:Tops P lu lv T u2 v1 v2 U V):U / V<=T / v1:=by
 have I:=Nat.div_mul_le_self U V;have J:=Nat.mul_le_mul_left (U / V) h.Vge;have O:=h.Ult;have Y:=h.hv1;have Z:=h.hP;generalize U / V=Q at *;rw[Nat.le_div_iff_mul_le (by omega)]
 have H:(P*4294967296)*(Q*v1)<(P*4294967296)*(T+1):=by
  rw[show(P*4294967296)*(Q*v1)=Q*((P*4294967296)*v1)from by grind];omega
 have h7:=Nat.lt_of_mul_lt_mul_left H;omega
theorem Tops.small (h:Tops P lu lv T u2 v1 v2 U V):U / V<4294967296:=(Nat.div_lt_iff_lt_mul h.Vpos).2 (by rw[Nat.mul_comm];exact h.hlt)
theorem Tops.down (h:Tops P lu lv T u2 v1 v2 U V) {g r:Nat} (Z:g*v1+r=T) (ht:r*4294967296+u2<g*v2):U / V<g:=by
 rw[Nat.div_lt_iff_lt_mul h.Vpos];have I:g*(P*(v2+4294967296*v1))<=g*V:=Nat.mul_le_mul_left _ (by have:=h.hV;omega);have J:g*(P*(v2+4294967296*v1))=P*(g*v2+4294967296*(g*v1)):=by grind
 have H:P*(u2+4294967296*T+1)<=P*(g*v2+4294967296*(g*v1)):=Nat.mul_le_mul_left _ (by omega);have O:=h.hU;have Y:=h.hlu;rw[Nat.mul_add P _ 1,Nat.mul_one]at H;omega
theorem Tops.upA (h:Tops P lu lv T u2 v1 v2 U V) {g r:Nat} (he:g*v1+r=T) (hg:g<4294967296) (ht:g*v2<=r*4294967296+u2):g<=U / V+1:=by
 have I:g*V=g*lv+P*(g*v2+4294967296*(g*v1)):=by
  rw[h.hV,Nat.mul_add];have:g*(P*(v2+4294967296*v1))=P*(g*v2+4294967296*(g*v1)):=by grind
  omega
 have J:P*(g*v2+4294967296*(g*v1))<=P*(u2+4294967296*T):=Nat.mul_le_mul_left _ (by omega);have O:g*lv<=4294967296*P:=Nat.mul_le_mul (by omega) (Nat.le_of_lt h.hlv);have Y:=h.Vge;have Z:(P*4294967296)*1<=(P*4294967296)*v1:=Nat.mul_le_mul_left _ (by have:=h.hv1;omega);have h6:=h.hU;have h7:g*V<=U+V:=by omega
 have H:(g - 1)*V<=U:=by rw[Nat.sub_mul];omega
 have h9:=(Nat.le_div_iff_mul_le h.Vpos).2 H;omega
theorem Tops.upB (h:Tops P lu lv T u2 v1 v2 U V) {g r:Nat} (Y:g*v1+r=T) (hg:g<=4294967296) (hr:4294967296<=r):g<=U / V:=by
 rw[Nat.le_div_iff_mul_le h.Vpos];have H:g*V<=g*((P*4294967296)*(v1+1)):=Nat.mul_le_mul_left _ (Nat.le_of_lt h.Vlt);have I:g*((P*4294967296)*(v1+1))=(P*4294967296)*(g*v1+g):=by grind
 have J:(P*4294967296)*(g*v1+g)<=(P*4294967296)*T:=Nat.mul_le_mul_left _ (by omega);have O:=h.Uge;omega
theorem Tops.start (h:Tops P lu lv T u2 v1 v2 U V):T / v1<=4294967297:=by
 have I:=h.Uge;have J:=h.hlt;have O:=Nat.mul_lt_mul_of_pos_right h.Vlt (show 0<4294967296 by omega);have H:(P*4294967296)*T<(P*4294967296)*((v1+1)*4294967296):=by rw[<-Nat.mul_assoc];omega
 have Y:=Nat.lt_of_mul_lt_mul_left H;have Z:=h.hv1
 have:T / v1<4294967298:=by
  rw[Nat.div_lt_iff_lt_mul (by omega)];omega
 omega
end
end Kn
section
open Go.RowKit Tryz
structure Only (g:Nat) (w w':World):Prop where
 os:w'.os=w.os
 tape:w'.tape=w.tape
 output:w'.output=w.output
 size:w.heap.size<=w'.heap.size
 block:∀k,k<w.heap.size->k≠g->w'.heap[k]?=w.heap[k]?
theorem Only.refl (g:Nat) (w:World):Only g w w:=⟨rfl,rfl,rfl,kT _,λ_ _ _=>rfl⟩
theorem Only.trans {g:Nat} {a b c:World} (h:Only g a b) (k:Only g b c):Only g a c:=
 ⟨k.os.trans h.os,k.tape.trans h.tape,k.output.trans h.output,kU h.size k.size,λi I H=>(k.block i (kV I h.size) H).trans (h.block i I H)⟩
theorem Only.set {g:Nat} {a w:World} (h:Only g a w) (i:Nat) (v:Value):Only g a (w.setCell ⟨g,i,none⟩ v):=
 ⟨h.os,h.tape,h.output,by simpa using h.size,λk I H=>(Below.heap_setCell w ⟨g,i,none⟩ v k H).trans (h.block k I H)⟩
theorem Only.drewN {g:Nat} {a w:World} (h:Only g a w) (n:Nat):Only g a (w.drewN n):=⟨h.os,h.tape,h.output,h.size,h.block⟩
theorem Only.cell {g:Nat} {w w':World} (h:Only g w w') {p:Addr} (I:p.block<w.heap.size) (H:p.block≠g):w'.cell? p=w.cell? p:=World.cell?_of_block (w:=w) (h.block p.block I H)
theorem Only.below {g B:Nat} {w w':World} (h:Only g w w') (hg:B<=g) (hB:B<=w.heap.size):Below B w w':=⟨h.os,h.tape,h.output,h.size,λk H=>h.block k (by omega) (by omega)⟩
theorem Only.dg {g:Nat} {w w':World} (h:Only g w w') {H o c n:Nat} {a:Nat->Nat} (I:Dg w (some ⟨H,o,none⟩) c n a) (J:H≠g):Dg w' (some ⟨H,o,none⟩) c n a:=
 ⟨I.cap,I.lt,by
  rcases I.at' with O |⟨Y,Z,e,hg,U⟩
  ·exact .inl O
  ·injection e with e;injection e with e1 e2;subst e1;subst e2
   exact .inr ⟨H,o,rfl,kV hg h.size,λj V=>(h.cell (p:=⟨H,o+j,none⟩) hg J).trans (U j V)⟩⟩
theorem Only.row {g:Nat} {w w':World} (h:Only g w w') {H n:Nat} {a:Nat->Nat} (hr:Row w H n a) (I:H≠g):Row w' H n a:=⟨hr.1.of_block (h.block H hr.1.lt I),hr.2⟩
theorem Y6 (a:Nat->Nat) (m:Nat):vf a (m+3)=vf a m+4294967296 ^ m*(a m+4294967296*(a (m+1)+4294967296*a (m+2))):=by
 rw[show m+3=m+2+1 from rfl,vf,show m+2=m+1+1 from rfl,vf,vf,Ay,Ay];grind
theorem fN (a:Nat->Nat) (m:Nat):vf a (m+2)=vf a m+4294967296 ^ m*(a m+4294967296*a (m+1)):=by
 rw[show m+2=m+1+1 from rfl,vf,vf,Ay];grind
theorem bS {a b:Nat->Nat} {N u0 u1 u2 v1 v2:Nat} (h:2<=N) (O:∀i,i<N+1->a i<4294967296) (U:∀i,i<N->b i<4294967296) (I:a N=u0) (J:a (N - 1)=u1) (hu2:a (N - 2)=u2) (hv1:b (N - 1)=v1) (hv2:b (N - 2)=v2) (H:2147483648<=v1) (hlt:vf a (N+1)<vf b N*4294967296):
  Kn.Tops (4294967296 ^ (N - 2)) (vf a (N - 2)) (vf b (N - 2)) (u1+4294967296*u0) u2 v1 v2 (vf a (N+1)) (vf b N):=by
 obtain⟨m,rfl⟩:∃m,N=m+2:=⟨N - 2,by omega⟩
 have Y:=O m (by omega);have Z:=U m (by omega);simp only[show m+2 - 1=m+1 from rfl,show m+2 - 2=m from rfl]at *;exact⟨Ds λi V=>O i (by omega),Ds λi V=>U i (by omega),by omega,by omega,H,by rw[show m+2+1=m+3 from rfl,Y6,I,J,hu2],by rw[fN,hv1,hv2],hlt⟩
theorem Je (r:Nat->Nat) (j i d:Nat):shf (upd r (j+i) d) j=upd (shf r j) i d:=by
 funext l;unfold shf upd;by_cases h:l=i
 ·rw[if_pos h,if_pos (by omega)]
 ·rw[if_neg h,if_neg (by omega)]
def cN (w:World) (g K j i h cy:Nat) (r b:Nat->Nat):Prop:=∃r2,Row w g K r2/\(∀l,l<j∨j+i<=l->r2 l=r l)/\vf (shf r2 j) i+h*vf b i=vf (shf r j) i+4294967296 ^ i*cy
theorem Yr {w:World} {g K j i h Y U x y tl Z s V:Nat} {r b O:Nat->Nat} (I:Row w g K O) (H:∀l,l<j∨j+i<=l->O l=r l) (J:vf (shf O j) i+h*vf b i=vf (shf r j) i+4294967296 ^ i*(Y+U))
  (hx:r (j+i)=x) (hy:b i=y) (ht:tl+4294967296*Z=h*y+Y) (hs:s+tl+U=x+4294967296*V) (aD:s<4294967296):
  cN (w.setCell ⟨g,j+i,none⟩ (.int .u32 s)) g K j (i+1) h (Z+V) r b:=by
 refine⟨_,I.set (j+i) s aD,λl hl=>by unfold upd;rw[if_neg (by omega)];exact H l (by omega),?_⟩;rw[Je,vf,Bq (kT _),show upd (shf O j) i s i=s from by simp[upd],vf,vf,hy,show shf r j i=x from hx,Ay];have h1:s+h*y+(Y+U)=x+4294967296*(Z+V):=by omega
 have h2:=congrArg (4294967296 ^ i * ·) h1;simp only[Nat.mul_add]at h2 J ⊢;grind
theorem Yq {w:World} {g K j N h cy Y x s Z:Nat} {r b O:Nat->Nat} (I:Row w g K O) (H:∀l,l<j∨j+N<=l->O l=r l) (J:vf (shf O j) N+h*vf b N=vf (shf r j) N+4294967296 ^ N*(cy+Y))
  (hx:r (j+N)=x) (hs:s+cy+Y=x+4294967296*Z) (U:s<4294967296):
  ∃V,Row (w.setCell ⟨g,j+N,none⟩ (.int .u32 s)) g K V/\(∀l,l<j∨j+N<l->V l=r l)/\vf (shf V j) (N+1)+h*vf b N=vf (shf r j) (N+1)+4294967296 ^ (N+1)*Z:=by
 refine⟨_,I.set (j+N) s U,λl hl=>by unfold upd;rw[if_neg (by omega)];exact H l (by omega),?_⟩;rw[Je,vf,Bq (kT _),show upd (shf O j) N s N=s from by simp[upd],vf,show shf r j N=x from hx,Ay];have h2:=congrArg (4294967296 ^ N * ·) hs;simp only[Nat.mul_add]at h2 J ⊢;grind
def Ix (w:World) (g K j N:Nat) (r:Nat->Nat) (R:Nat):Prop:=∃r',Row w g K r'/\(∀l,l<j∨j+N<l->r' l=r l)/\vf (shf r' j) (N+1)=R
theorem Qw {w:World} {g K j N h U V Q P Y:Nat} {r O:Nat->Nat} (hb:Y=0) (I:Row w g K O) (H:∀l,l<j∨j+N<l->O l=r l) (J:vf (shf O j) (N+1)+h*V=U+P*Y) (hQ:U / V=Q) (aD:Q<=h) (hV:0<V):h=Q/\Ix w g K j N r (U % V):=by
 subst hb;rw[Nat.mul_zero,Nat.add_zero]at J;have h1:h<=U / V:=(Nat.le_div_iff_mul_le hV).2 (by omega);have Z:h=Q:=by omega
 refine⟨Z,O,I,H,?_⟩;have h3:=Nat.div_add_mod U V;rw[hQ,<-Z,Nat.mul_comm]at h3;omega
def U6 (w:World) (g K j i bk:Nat) (r3 b:Nat->Nat):Prop:=∃r4,Row w g K r4/\(∀l,l<j∨j+i<=l->r4 l=r3 l)/\vf (shf r4 j) i+4294967296 ^ i*bk=vf (shf r3 j) i+vf b i
theorem Tr {w:World} {g K j i bk x y s V:Nat} {O b U:Nat->Nat} (I:Row w g K U) (H:∀l,l<j∨j+i<=l->U l=O l) (J:vf (shf U j) i+4294967296 ^ i*bk=vf (shf O j) i+vf b i)
  (h:O (j+i)=x) (hy:b i=y) (hs:(x+y+bk) % 4294967296=s) (hb:(x+y+bk) / 4294967296=V):
  U6 (w.setCell ⟨g,j+i,none⟩ (.int .u32 s)) g K j (i+1) V O b:=by
 refine⟨_,I.set (j+i) s (by omega),λl hl=>by unfold upd;rw[if_neg (by omega)];exact H l (by omega),?_⟩;rw[Je,vf,Bq (kT _),show upd (shf U j) i s i=s from by simp[upd],vf,vf,hy,show shf O j i=x from h,Ay];have Y:s+4294967296*V=x+y+bk:=by omega
 have Z:=congrArg (4294967296 ^ i * ·) Y;simp only[Nat.mul_add]at Z J ⊢;grind
theorem dM {K j N h U V Q:Nat} {J:Nat->Nat} (I:∀l,l<K->J l<4294967296) {O:Nat} (hb:O=1) (H:vf (shf J j) (N+1)+h*V=U+4294967296 ^ (N+1)*O) (hj:j+N<K) (hQ:U / V=Q) (Y:Q<=h) (aN:h<=Q+1):h=Q+1:=by
 subst hb;rw[Nat.mul_one]at H;have h0:vf (shf J j) (N+1)<4294967296 ^ (N+1):=Ds λi hi=>I (j+i) (by omega)
 rcases Nat.lt_or_ge Q h with Z|Z
 ·omega
 ·exfalso
  have h3:h=Q:=by omega
  have h4:=Nat.div_mul_le_self U V;rw[hQ,<-h3]at h4;omega
theorem Tq {w:World} {g K j N h bk U V Q x s:Nat} {r Y r4:Nat->Nat} (O:Row w g K r4) (Z:∀l,l<j∨j+N<=l->r4 l=Y l) (aX:vf (shf r4 j) N+4294967296 ^ N*bk=vf (shf Y j) N+V)
  (J:∀l,l<j∨j+N<l->Y l=r l) {bz:Nat} (hb:bz=1) (I:vf (shf Y j) (N+1)+h*V=U+4294967296 ^ (N+1)*bz) (hj:j+N<K) (aJ:∀l,l<K->Y l<4294967296)
  (hx:Y (j+N)=x) (hs:(x+bk) % 4294967296=s) (hQ:U / V=Q) (aT:Q<=h) (cG:h<=Q+1) (hV:0<V) (cB:V<4294967296 ^ N):
  h=Q+1/\Ix (w.setCell ⟨g,j+N,none⟩ (.int .u32 s)) g K j N r (U % V):=by
 subst hb;rw[Nat.mul_one]at I;have h0:vf (shf Y j) (N+1)<4294967296 ^ (N+1):=Ds λi hi=>aJ (j+i) (by omega)
 have h1:h=Q+1:=by
  rcases Nat.lt_or_ge Q h with h2|h2
  ·omega
  ·exfalso
   have h3:h=Q:=by omega
   have h4:=Nat.div_mul_le_self U V;rw[hQ,<-h3]at h4;omega
 refine⟨h1,_,O.set (j+N) s (by omega),λl hl=>by unfold upd;rw[if_neg (by omega),Z l (by omega)];exact J l hl,?_⟩;rw[Je,vf,Bq (kT _),show upd (shf r4 j) N s N=s from by simp[upd]];have h5:=Nat.div_add_mod U V;have h6:=Nat.mod_lt U hV;rw[hQ,Nat.mul_comm]at h5;rw[h1,Nat.add_mul,Nat.one_mul,vf,show shf Y j N=x from hx,Ay]at I;have h7:vf (shf r4 j) N<4294967296 ^ N:=Ds λi hi=>O.2 (j+i) (by omega)
 have h8:vf (shf r4 j) N+4294967296 ^ N*(x+bk)=U % V+4294967296 ^ N*4294967296:=by
  rw[Nat.mul_add,Nat.mul_comm (4294967296 ^ N) 4294967296];omega
 generalize U % V=R at *;generalize 4294967296 ^ N=P at *
 have h9:x+bk=4294967296:=by
  rcases Nat.lt_trichotomy (x+bk) 4294967296 with H|H|H
  ·exfalso
   have:=Nat.mul_le_mul_left P (show x+bk+1<=4294967296 from H);rw[Nat.mul_add,Nat.mul_one]at this;omega
  ·exact H
  ·exfalso
   have:=Nat.mul_le_mul_left P (show 4294967296+1<=x+bk from H);rw[Nat.mul_add,Nat.mul_one]at this;omega
 rw[h9]at hs h8;rw[<-hs];simp;omega
theorem Zw (g j K N cu gv ov cv:Nat) (r b:Nat->Nat) (w:World) (H:Row w g K r) (lX:j+N<K) (hN:2<=N) (hv:Dg w (some ⟨gv,ov,none⟩) cv N b) (lV:gv≠g) (mG:2147483648<=b (N - 1)) (hlt:vf (shf r j) (N+1)<vf b N*4294967296) (oM:N<=70368744177660):
  Calls prog 217 #[.slice (some ⟨g,j,none⟩) (N+1) cu,.slice (some ⟨gv,ov,none⟩) N cv] w λe w'=>e=.returned (.int .u32 (vf (shf r j) (N+1) / vf b N:Nat))/\Only g w w'/\Ix w' g K j N r (vf (shf r j) (N+1) % vf b N):=by
 obtain⟨oJ,pG,e,hP,gS⟩:=hv.head (by omega);injection e with e;injection e with e1 e2;subst e1;subst e2
 obtain⟨u0,lD⟩:∃x,r (j+N)=x:=⟨_,rfl⟩
 obtain⟨u1,lE⟩:∃x,r (j+(N - 1))=x:=⟨_,rfl⟩
 obtain⟨u2,hu2⟩:∃x,r (j+(N - 2))=x:=⟨_,rfl⟩
 obtain⟨v1,hv1⟩:∃x,b (N - 1)=x:=⟨_,rfl⟩
 obtain⟨v2,hv2⟩:∃x,b (N - 2)=x:=⟨_,rfl⟩
 have oE:w.cell? ⟨g,j+N,none⟩=some (.int .u32 u0):=by rw[<-lD];exact H.1.cell (by omega)
 have oF:w.cell? ⟨g,j+(N - 1),none⟩=some (.int .u32 u1):=by rw[<-lE];exact H.1.cell (by omega)
 have oG:w.cell? ⟨g,j+(N - 2),none⟩=some (.int .u32 u2):=by rw[<-hu2];exact H.1.cell (by omega)
 have oH:w.cell? ⟨gv,ov+(N - 1),none⟩=some (.int .u32 v1):=by rw[<-hv1];exact gS _ (by omega)
 have oI:w.cell? ⟨gv,ov+(N - 2),none⟩=some (.int .u32 v2):=by rw[<-hv2];exact gS _ (by omega)
 have oW:(u0:Int)<4294967296:=by have:=H.2 (j+N) (by omega);omega
 have oX:(u1:Int)<4294967296:=by have:=H.2 (j+(N - 1)) (by omega);omega
 have oY:(u2:Int)<4294967296:=by have:=H.2 (j+(N - 2)) (by omega);omega
 have oZ:(v1:Int)<4294967296:=by have:=hv.lt (N - 1) (by omega);omega
 have pA:(v2:Int)<4294967296:=by have:=hv.lt (N - 2) (by omega);omega
 have nZ:(2147483648:Int)<=(v1:Int):=by omega
 have oL:(2:Int)<=(N:Int):=by omega
 have cD:=Kh H;have HV:=Kh hv;have mU:=Kh hlt;have nE:=aW u0 u1 (by omega) (by omega);obtain⟨T,hT⟩:∃T,u1+4294967296*u0=T:=⟨_,rfl⟩
 have oN:(T:Int)<18446744073709551616:=by omega
 rw[hT]at nE;have lM:=Kh gS;clear H hv hlt gS mG;have hK:=bS (a:=shf r j) (b:=b) hN (λi hi=>cD.1.2 (j+i) (by omega)) HV.1.lt lD lE hu2 hv1 hv2 (by omega) mU.1;rw[hT]at hK;obtain⟨U,hU⟩:∃U,vf (shf r j) (N+1)=U:=⟨_,rfl⟩
 obtain⟨V,hV⟩:∃V,vf b N=V:=⟨_,rfl⟩
 obtain⟨Q,hQ⟩:∃Q,U / V=Q:=⟨_,rfl⟩
 rw[hU,hV]at hK;rw[hU,hV,hQ];obtain⟨q0,dY⟩:∃q0,T / v1=q0:=⟨_,rfl⟩
 obtain⟨r0,hB⟩:∃r0,T % v1=r0:=⟨_,rfl⟩
 have nF:Int.tdiv (T:Int) (v1:Int)=(q0:Nat):=by rw[Int.tdiv_eq_ediv_of_nonneg (by omega),<-dY];exact(Int.natCast_ediv _ _).symm
 have nH:Int.tmod (T:Int) (v1:Int)=(r0:Nat):=by rw[Int.tmod_eq_emod_of_nonneg (by omega),<-hB];exact(Int.natCast_emod _ _).symm
 have mC:(T:Int) / (v1:Int)=(q0:Nat):=by rw[<-dY];exact(Int.natCast_ediv _ _).symm
 have mE:(T:Int) % (v1:Int)=(r0:Nat):=by rw[<-hB];exact(Int.natCast_emod _ _).symm
 have lB:(q0:Int)<=4294967297:=by have:=hK.start;omega
 have nG:IntKind.u64.wrap (q0:Int)=q0:=by rw[IntKind.wrap_u64];omega
 have mB:Q<=q0:=by rw[<-hQ,<-dY];exact hK.first
 have mD:(r0:Int)<(v1:Int):=by have:=Nat.mod_lt T (show 0<v1 by omega);omega
 have eP:q0*v1+r0=T:=by rw[<-dY,<-hB,Nat.mul_comm];exact Nat.div_add_mod _ _
 have HK:=Kh hK;have HU:=Kh hU;have kY:=Kh hV;have HQ:=Kh hQ;have hZ:=Kh mB;have cC:=Kh eP;have HT:=Kh hT;clear hK hU hV hQ mB eP hT dY hB lD lE hu2 hv1 hv2;go_enter func217,ntmps217
 go_wp2;go_quiet (fail)
 go_wp2;go_quiet (fail)
 go_upto_block 0 with(fail)
 clear nF nH mC mE nG;go_cut [7]from 48 to 81 (λv7 wc=>∃h:Nat,v7=.int .u64 h/\Q<=h/\h<=Q+1/\(h:Int)<4294967296/\∃k,wc=w.drewN k)
 case first=>
  go_wp2_with fail
  go_loopw [7,8] (λv7 v8 wr=>∃q r':Nat,v7=.int .u64 q/\v8=.int .u64 r'/\q*v1+r'=T/\(r':Int)<4294967296/\Q<=q/\(q:Int)<=4294967297/\∃k,wr=w.drewN k) (λv7 _ _=>(intOf v7).toNat)
  case atStart=>exact⟨q0,r0,rfl,rfl,cC.1,by omega,hZ.1,lB,_,by rw[Ly]⟩
  case round=>
   clear hZ cC lB mD;obtain⟨q,r',rfl,rfl,eP,oU,lS,oT,k,rfl⟩:=hrel;have cC:=Kh eP;have mX:=Kh lS;clear eP lS;go_upto_region 4 with(fail)
   go_cut [69]from 48 to 69 (λv wc=>∃t:Bool,v=.bool t/\(t=true->Q<q)/\(t=false->q<4294967296/\q<=Q+1)/\∃k,wc=w.drewN k)
   case first=>
    have pF:IntKind.i64.wrap ((N:Int) - 2)=(N:Int) - 2:=IntWalk.i64_in _ (by omega);have pE:((N:Int) - 2).toNat=N - 2:=by omega
    have pB:0<=(N:Int) - 2:=by omega
    have pC:N - 2<N:=by omega
    have pD:N - 2<N+1:=by omega
    by_cases hge:(4294967296:Int)<=(q:Int)
    ·have hM:decide ((4294967296:Int)<=(q:Int))=true:=decide_eq_true hge
     have I:Q<q:=by have:=HK.1.small;have:=HQ.1;omega
     have bA:=Kh I;clear I;go_wp2;go_region
     go_wp2;go_meet
     case rel=>exact⟨true,rfl,λ_=>bA.1,λh=>by simp at h,_,by first|rfl|rw[Ly]|exact(Ly _ _ 1)⟩
    ·have hM:decide ((4294967296:Int)<=(q:Int))=false:=decide_eq_false hge
     have oB:=Kh hM;obtain⟨pv,gU⟩:∃pv,q*v2=pv:=⟨_,rfl⟩
     have nX:(q:Int)*(v2:Int)=(pv:Nat):=by rw[<-gU];exact(Int.natCast_mul _ _).symm
     have lZ:pv<=4294967295*4294967295:=by rw[<-gU];exact Nat.mul_le_mul (by omega) (by omega)
     have nU:(pv:Int)<=18446744065119617025:=by omega
     have lY:=aW r' u2 (by omega) (by omega);obtain⟨z,hz⟩:∃z,u2+4294967296*r'=z:=⟨_,rfl⟩
     rw[hz]at lY;by_cases hgt:(z:Int)<(pv:Int)
     ·have I:Q<q:=by rw[<-HQ.1];exact HK.1.down cC.1 (by omega)
      have bA:=Kh I;clear I hz gU lZ;go_wp2;go_region
      go_wp2;go_meet
      case rel=>exact⟨true,rfl,λ_=>bA.1,λh=>by simp at h,_,by first|rfl|rw[Ly]|exact(Ly _ _ 1)⟩
     ·have I:q<=Q+1:=by rw[<-HQ.1];exact HK.1.upA cC.1 (by omega) (by omega)
      have lC:q<4294967296:=by omega
      have bA:=Kh I;have mW:=Kh lC;clear I lC hz gU lZ;go_wp2;go_region
      go_wp2;go_meet
      case rel=>exact⟨false,Yy (decide_eq_false (by omega)),λh=>by simp at h,λ_=>⟨mW.1,bA.1⟩,_,by first|rfl|rw[Ly]|exact(Ly _ _ 1)⟩
   case rest=>
    obtain⟨t,rfl,ht,hf,k2,rfl⟩:=hcut;cases t with
    | true=>
     have I:=ht rfl;obtain⟨h,rfl⟩:∃h,q=h+1:=⟨q - 1,by omega⟩
     have hR:h*v1+(r'+v1)=T:=by have:=cC.1;rw[Nat.add_mul]at this;omega
     have dE:Q<=h:=by omega
     have hL:=Kh hR;have lN:=Kh dE;clear ht hf hR I dE;by_cases hbr:(4294967296:Int)<=(r':Int)+(v1:Int)
     ·have mH:h<=Q:=by rw[<-HQ.1];exact HK.1.upB hL.1 (by omega) (by omega)
      have lW:(h:Int)<4294967296:=by have:=HK.1.small;have:=HQ.1;omega
      go_wp2;go_meet
      case rel=>exact⟨h,by go_num,lN.1,by omega,lW,_,by first|rfl|rw[Ly]⟩
     ·go_wp2
      go_roundw
      case rel=>exact⟨h,r'+v1,rfl,by go_num,hL.1,by omega,lN.1,by omega,_,rfl⟩
      case measure=>simp[intOf]
    | false=>
     obtain⟨lC,mH⟩:=hf rfl;clear ht hf;go_wp2;go_meet
     case rel=>exact⟨q,rfl,mX.1,mH,by omega,_,by first|rfl|rw[Ly]⟩
 case rest=>
  clear hZ cC lB mD;obtain⟨h,rfl,hA,lP,lW,k0,rfl⟩:=hcut;have lL:=Kh lP;have HA:=Kh hA;clear hA lP;go_wp2;go_loopw [9,10,84] (λv9 nN lH wr=>∃i cy bw:Nat,i<=N/\v9=.int .u64 cy/\nN=.int .u32 bw/\lH=.int .i64 i/\(cy:Int)<4294967296/\(bw:Int)<=1/\cN wr g K j i h (cy+bw) r b/\Only g w wr) (λ_ _ lH _=>N - (intOf lH).toNat)
  case atStart=>exact⟨0,0,0,Nat.zero_le _,rfl,rfl,rfl,by decide,by decide,⟨r,cD.1,λ_ _=>rfl,by simp[vf]⟩,(Only.refl _ _).drewN _⟩
  case round=>
   obtain⟨i,cy,bw,hi,rfl,rfl,rfl,nB,lT,⟨r2,H,aT,cG⟩,hO⟩:=hrel;have HO:=Kh hO;clear hO;have bE:r2 (j+i)=r (j+i):=aT (j+i) (.inr (kT _));by_cases hlt:(i:Int)<(N:Int)
   ·have cx:wr.cell? ⟨g,j+i,none⟩=some (.int .u32 (r (j+i):Nat)):=by rw[<-bE];exact H.1.cell (by omega)
    have fx:wr.frozen? ⟨g,j+i,none⟩=false:=H.1.frozen _;have cb:wr.cell? ⟨gv,ov+i,none⟩=some (.int .u32 (b i:Nat)):=(HO.1.cell (p:=⟨gv,ov+i,none⟩) hP lV).trans (lM.1 i (by omega));have bY:((r (j+i):Nat):Int)<4294967296:=by have:=cD.1.2 (j+i) (by omega);omega
    have hD:((b i:Nat):Int)<4294967296:=by have:=HV.1.lt i (by omega);omega
    obtain⟨x,hx⟩:∃x,r (j+i)=x:=⟨_,rfl⟩
    obtain⟨y,hy⟩:∃y,b i=y:=⟨_,rfl⟩
    rw[hx]at cx bY;rw[hy]at cb hD;obtain⟨pp,lA⟩:∃pp,h*y=pp:=⟨_,rfl⟩
    have nV:(h:Int)*(y:Int)=(pp:Nat):=by rw[<-lA];exact(Int.natCast_mul _ _).symm
    have mA:pp<=4294967295*4294967295:=by rw[<-lA];exact Nat.mul_le_mul (by omega) (by omega)
    have nW:(pp:Int)<=18446744065119617025:=by omega
    obtain⟨tl,nK⟩:∃tl,(pp+cy) % 4294967296=tl:=⟨_,rfl⟩
    obtain⟨cz,nC⟩:∃cz,(pp+cy) / 4294967296=cz:=⟨_,rfl⟩
    have nY:((pp:Int)+(cy:Int)) % 4294967296=(tl:Nat):=by omega
    have nS:((pp:Int)+(cy:Int)) / 4294967296=(cz:Nat):=by omega
    have mF:(tl:Int)<4294967296:=by omega
    have lU:(cz:Int)<4294967296:=by omega
    have HC:=Iy x tl bw wr bY mF lT;obtain⟨s,hs⟩:∃s:Nat,(s:Int)=((x:Int) - tl - bw) % 4294967296:=⟨(((x:Int) - tl - bw) % 4294967296).toNat,by omega⟩
    obtain⟨bz,aL⟩:∃bz:Nat,(if x<tl+bw then 1 else 0)=bz:=⟨_,rfl⟩
    have aN:(if x<tl+bw then(1:Int)else 0)=(bz:Nat):=by rw[<-aL];split <;> rfl
    have cF:(bz:Int)<=1:=by rw[<-aN];split <;> decide
    have bC:s+tl+bw=x+4294967296*bz:=by split at aL <;> omega
    rw[<-hs,aN]at HC;have aD:=Yr H aT cG hx hy (show tl+4294967296*cz=h*y+cy by omega) bC (by omega);have HN:=Kh aD;have HC:=Kh HC;clear aD H aT cG hx hy lA mA nK nC hs aL aN bC bE;go_wp2_with (go_at_call 203;refine HC.1.mono ?_;rintro e w' ⟨rfl,rfl⟩)
    go_roundw
    case rel=>exact⟨i+1,cz,bz,by omega,rfl,rfl,by go_num,lU,cF,HN.1,HO.1.set _ _⟩
    case measure=>simp[intOf];omega
   ·obtain rfl:i=N:=by omega
    have cx:wr.cell? ⟨g,j+i,none⟩=some (.int .u32 (r (j+i):Nat)):=by rw[<-bE];exact H.1.cell (by omega)
    have fx:wr.frozen? ⟨g,j+i,none⟩=false:=H.1.frozen _;have bY:((r (j+i):Nat):Int)<4294967296:=by have:=cD.1.2 (j+i) (by omega);omega
    obtain⟨x,hx⟩:∃x,r (j+i)=x:=⟨_,rfl⟩
    rw[hx]at cx bY;have nR:(cy:Int) % 4294967296=(cy:Int):=by omega
    have HC:=Iy x cy bw wr bY nB lT;obtain⟨s,hs⟩:∃s:Nat,(s:Int)=((x:Int) - cy - bw) % 4294967296:=⟨(((x:Int) - cy - bw) % 4294967296).toNat,by omega⟩
    obtain⟨bz,aL⟩:∃bz:Nat,(if x<cy+bw then 1 else 0)=bz:=⟨_,rfl⟩
    have aN:(if x<cy+bw then(1:Int)else 0)=(bz:Nat):=by rw[<-aL];split <;> rfl
    have cF:(bz:Int)<=1:=by rw[<-aN];split <;> decide
    have bC:s+cy+bw=x+4294967296*bz:=by split at aL <;> omega
    rw[<-hs,aN]at HC;have aD:=Yq H aT cG hx bC (by omega);rw[HU.1,kY.1]at aD;have HN:=Kh aD;have HC:=Kh HC;have lQ:=HO.1.set (j+i) (.int .u32 (s:Nat));have gL:=Kh lQ;have oQ:(h:Int) % 4294967296=(h:Int):=by omega
    clear aD H aT cG hx hs aL aN bC bE lQ;by_cases hb0:bz=0
    ·subst hb0
     obtain⟨r3,J,Y,aJ⟩:=HN.1;have hd:=Qw rfl J Y aJ HQ.1 HA.1 HK.1.Vpos;obtain⟨dC,hd⟩:=hd;have HD:=Kh hd;have hW:=Kh dC;clear J Y aJ hd dC;go_wp2_with (go_at_call 203;refine HC.1.mono ?_;rintro e w' ⟨rfl,rfl⟩)
     go_ret;exact⟨A3 (by rw[hW.1]),gL.1,HD.1⟩
    ·obtain rfl:bz=1:=by omega
     clear hb0;obtain⟨r3,J,Y,aJ⟩:=HN.1;have dC:=dM J.2 rfl aJ lX HQ.1 HA.1 lL.1;have hW:=Kh dC;have oP:(1:Int)<=(h:Int):=by omega
     have nT:((h:Int) - 1) % 4294967296=(h:Int) - 1:=by omega
     have lO:=Kh J.2;have iL:=Kh J;have mT:=Kh Y;have mY:=Kh aJ;clear J Y aJ dC HN;go_wp2_with (go_at_call 203;refine HC.1.mono ?_;rintro e w' ⟨rfl,rfl⟩)
     obtain⟨w3,mK⟩:∃w3,World.setCell w' ⟨g,j+i,none⟩ (.int .u32 (s:Nat))=w3:=⟨_,rfl⟩
     rw[mK]at iL gL ⊢;clear mK cx fx HC HO;go_loopw [14,132] (λnO gF wr=>∃i2 bk:Nat,i2<=i/\nO=.int .u32 bk/\gF=.int .i64 i2/\(bk:Int)<=1/\U6 wr g K j i2 bk r3 b/\Only g w wr) (λ_ gF _=>i - (intOf gF).toNat)
     case atStart=>exact⟨0,0,Nat.zero_le _,rfl,rfl,by decide,⟨r3,iL.1,λ_ _=>rfl,by simp[vf]⟩,gL.1⟩
     case round=>
      obtain⟨i2,bk,oS,rfl,rfl,oO,⟨r4,O,Z,aU⟩,lR⟩:=hrel;have gN:=Kh lR;clear lR gL iL;have bE:r4 (j+i2)=r3 (j+i2):=Z (j+i2) (.inr (kT _));have fx:wr.frozen? ⟨g,j+i2,none⟩=false:=O.1.frozen _;have cx:wr.cell? ⟨g,j+i2,none⟩=some (.int .u32 (r4 (j+i2):Nat)):=O.1.cell (by omega);have bY:((r4 (j+i2):Nat):Int)<4294967296:=by have:=O.2 (j+i2) (by omega);omega
      obtain⟨x4,hx⟩:∃x4,r3 (j+i2)=x4:=⟨_,rfl⟩
      rw[bE,hx]at cx bY;by_cases hlt4:(i2:Int)<(i:Int)
      ·have cb:wr.cell? ⟨gv,ov+i2,none⟩=some (.int .u32 (b i2:Nat)):=(gN.1.cell (p:=⟨gv,ov+i2,none⟩) hP lV).trans (lM.1 i2 (by omega))
       have hD:((b i2:Nat):Int)<4294967296:=by have:=HV.1.lt i2 (by omega);omega
       obtain⟨y,hy⟩:∃y,b i2=y:=⟨_,rfl⟩
       rw[hy]at cb hD;have HC:=Ms x4 y bk wr bY hD (by omega);obtain⟨s4,hs⟩:∃s4,(x4+y+bk) % 4294967296=s4:=⟨_,rfl⟩
       obtain⟨bz,aL⟩:∃bz,(x4+y+bk) / 4294967296=bz:=⟨_,rfl⟩
       have nI:(s4:Int)<4294967296:=by omega
       have cF:(bz:Int)<=1:=by omega
       have aD:=Tr O Z aU hx hy hs aL;rw[hs,aL]at HC;have HN:=Kh aD;have HC:=Kh HC;clear aD O Z aU hx hy hs aL bE;go_wp2_with (go_at_call 201;refine HC.1.mono ?_;rintro e w' ⟨rfl,rfl⟩)
       go_roundw
       case rel=>exact⟨i2+1,bz,by omega,rfl,by go_num,cF,HN.1,gN.1.set _ _⟩
       case measure=>simp[intOf];omega
      ·obtain rfl:i2=i:=by omega
       obtain⟨s4,hs⟩:∃s4,(x4+bk) % 4294967296=s4:=⟨_,rfl⟩
       have oV:((x4:Int)+(bk:Int)) % 4294967296=(s4:Nat):=by omega
       have nI:(s4:Int)<4294967296:=by omega
       have mJ:V<4294967296 ^ i2:=by rw[<-kY.1];exact Ds HV.1.lt
       rw[kY.1]at aU;obtain⟨_,hd⟩:=Tq O Z aU mT.1 rfl mY.1 lX lO.1 hx hs HQ.1 HA.1 lL.1 HK.1.Vpos mJ;have HD:=Kh hd;have mV:=Kh (gN.1.set (j+i2) (.int .u32 (s4:Nat)));clear O Z aU hx hs bE hd mJ gN;go_wp2;go_ret;exact⟨A3 (by have:=hW.1;omega),mV.1,HD.1⟩
def Ik (w':World) (e:Ending) (q r:Nat):Prop:=∃p c p' c',e=.returned (.tuple #[.slice p (nd q) c,.slice p' (nd r) c'])/\Nm w' p c q/\Nm w' p' c' r
theorem bN (a:Nat->Nat) (m k:Nat):shf (shf a m) k=shf a (m+k):=by
 funext i;unfold shf;rw[Nat.add_assoc]
theorem Dx (r:Nat->Nat) (k n:Nat):vf (shf r k) (n+1)=r k+4294967296*vf (shf r (k+1)) n:=by
 rw[Ho,bN];rfl
def Hr (w:World) (gu gq N M k:Nat) (r0:Nat->Nat) (V:Nat):Prop:=
 ∃r q,Row w gu (M+N) r/\Row w gq M q/\(∀l,l<k->r l=r0 l)/\vf (shf r k) N=vf (shf r0 k) (M+N - k) % V/\vf (shf q k) (M - k)=vf (shf r0 k) (M+N - k) / V
theorem Q3 {w:World} {J I N M V:Nat} {H q:Nat->Nat} (O:Row w J (M+N) H) (hq:Row w I M q) (hV:vf (shf H M) N<V):Hr w J I N M M H V:=by
 refine⟨H,q,O,hq,λ_ _=>rfl,?_,?_⟩
 ·rw[show M+N - M=N from by omega,Nat.mod_eq_of_lt hV]
 ·rw[show M+N - M=N from by omega,Nat.sub_self,Nat.div_eq_of_lt hV];rfl
theorem Pa {N k V X:Nat} {r J:Nat->Nat} (H:∀l,l<k+1->r l=J l) (I:vf (shf r (k+1)) N=X % V) (hV:0<V):vf (shf r k) (N+1)=J k+4294967296*(X % V)/\(J k<4294967296->vf (shf r k) (N+1)<V*4294967296):=by
 have O:vf (shf r k) (N+1)=J k+4294967296*(X % V):=by rw[Dx,I,H k (by omega)]
 refine⟨O,λU=>?_⟩;rw[O];have Y:=Nat.mod_lt X hV;omega
theorem Ki {x X V:Nat} (hV:0<V):(x+4294967296*X) / V=(x+4294967296*(X % V)) / V+4294967296*(X / V)/\(x+4294967296*X) % V=(x+4294967296*(X % V)) % V:=by
 have h:x+4294967296*X=(x+4294967296*(X % V))+V*(4294967296*(X / V)):=by
  have:=Nat.div_add_mod X V;generalize X / V=Q at *;generalize X % V=R at *;rw[<-this];grind
 rw[h];exact⟨Nat.add_mul_div_left _ _ hV,Nat.add_mul_mod_self_left _ _ _⟩
theorem Ud {w:World} {Z U N M k V X Q:Nat} {r H O q:Nat->Nat} (hk:k<M) (hX:vf (shf H (k+1)) (M+N - (k+1))=X) (Y:∀l,l<k+1->r l=H l)
  (hu:Row w Z (M+N) O) (J:∀l,l<k∨k+N<l->O l=r l) (I:vf (shf O k) (N+1)=(H k+4294967296*(X % V)) % V)
  (hq:Row w U M q) (aN:vf (shf q (k+1)) (M - (k+1))=X / V) (hV:0<V) (bB:V<=4294967296 ^ N) (hQ:(H k+4294967296*(X % V)) / V=Q) (aK:Q<4294967296) (aL:U≠Z):
  Hr (w.setCell ⟨U,k,none⟩ (.int .u32 Q)) Z U N M k H V:=by
 refine⟨O,upd q k Q,⟨hu.1.of_block (Below.heap_setCell w ⟨U,k,none⟩ _ Z (Ne.symm aL)),hu.2⟩,hq.set k Q aK,λl hl=>by rw[J l (.inl hl)];exact Y l (by omega),?_,?_⟩
 ·have h:vf (shf H k) (M+N - k)=H k+4294967296*X:=by
   rw[show M+N - k=(M+N - (k+1))+1 from by omega,Dx,hX]
  have h2:=(Ki (x:=H k) (X:=X) hV).2;rw[h,h2,<-I];have h3:=Nat.mod_lt (H k+4294967296*(X % V)) hV;rw[<-I,vf]at h3;rw[vf];rcases Nat.eq_zero_or_pos (shf O k N)with h4|h4
  ·rw[h4];simp
  ·exfalso
   have h5:=Nat.mul_le_mul_left (4294967296 ^ N) (show 1<=shf O k N from h4);omega
 ·have h:vf (shf H k) (M+N - k)=H k+4294967296*X:=by
   rw[show M+N - k=(M+N - (k+1))+1 from by omega,Dx,hX]
  have h2:=(Ki (x:=H k) (X:=X) hV).1;rw[h,h2,hQ,<-aN,show M - k=(M - (k+1))+1 from by omega,Dx];rw[show upd q k Q k=Q from by simp[upd]];congr 2;exact Dr λi _=>by unfold shf upd;rw[if_neg (by omega)]
theorem W5 {w:World} {J I N M V:Nat} {H:Nat->Nat} (h:Hr w J I N M 0 H V):
  ∃r q,Row w J (M+N) r/\Row w I M q/\vf r N=vf H (M+N) % V/\vf q M=vf H (M+N) / V:=by
 obtain⟨r,q,Y,Z,_,O,U⟩:=h;have e:∀a:Nat->Nat,shf a 0=a:=λa=>by funext i;unfold shf;rw[Nat.zero_add]
 simp only[e,Nat.sub_zero]at O U;exact⟨r,q,Y,Z,O,U⟩
theorem G8:∀(f x:Nat),x<2 ^ f->x<2 ^ Lib.bitLenAux f x
 | 0,x,h=>by simpa [Lib.bitLenAux] using h
 | f+1,x,h=>by
  rw[Lib.bitLenAux];by_cases h0:x=0
  ·rw[if_pos h0,h0];simp
  ·rw[if_neg h0]
   have H:=G8 f (x / 2) (by rw[Nat.pow_succ]at h;omega);rw[Nat.add_comm,Nat.pow_succ];omega
theorem Uf (t:Nat) (h:t<2 ^ 64):t<2 ^ Lib.bitLen t:=G8 64 t h
theorem Jp (t:Nat) (h:t≠0):1<=Lib.bitLen t:=by
 unfold Lib.bitLen;rw[show(64:Nat)=63+1 from rfl,Lib.bitLenAux,if_neg h];omega
theorem Ts (t:Nat) (H:t≠0):2 ^ (Lib.bitLen t - 1)<=t:=by
 rcases Nat.lt_or_ge t (2 ^ (Lib.bitLen t - 1))with h|h
 ·exfalso
  have I:=Lib.bitLenAux_le 64 t _ h;have J:=Jp t H;unfold Lib.bitLen at I J;omega
 ·exact h
theorem W7 {v t s:Nat} (hv:v≠0) (U:v / 4294967296 ^ (nd v - 1)=t) (hs:s+Lib.bitLen t=32):
  s<32/\t<4294967296/\nd (v*2 ^ s)=nd v/\2147483648<=dg (v*2 ^ s) (nd v - 1)/\v*2 ^ s<4294967296 ^ (nd v)/\4294967296 ^ (nd v - 1)*2147483648<=v*2 ^ s:=by
 obtain⟨m,hm⟩:∃m,nd v=m+1:=⟨nd v - 1,by have:=Bo.2 hv;omega⟩
 have h1:=eX hv;have h2:=Be.1 (kT (nd v));rw[hm]at h1 h2 U;rw[hm];simp only[Nat.add_sub_cancel]at *;have J:0<4294967296 ^ m:=Dig.pow_pos m
 have t0:t≠0:=by
  have:1<=v / 4294967296 ^ m:=(Nat.le_div_iff_mul_le J).2 (by omega);omega
 have t1:t<4294967296:=by rw[<-U,Nat.div_lt_iff_lt_mul J,<-Ay];exact h2
 have l3:=Uf t (by omega);have l2:=Ts t t0;have l1:=Jp t t0;generalize Lib.bitLen t=L at *;obtain⟨l,rfl⟩:∃l,L=l+1:=⟨L - 1,by omega⟩
 have Y:s<32:=by omega
 have h:2 ^ s*2 ^ (l+1)=4294967296:=by rw[<-Nat.pow_add,hs]
 have e2:2 ^ s*2 ^ l=2147483648:=by rw[Nat.pow_succ,<-Nat.mul_assoc]at h;omega
 simp only[Nat.add_sub_cancel]at l2;have v1:4294967296 ^ m*t<=v:=by rw[<-U];exact Nat.mul_div_le _ _
 have v2:v<4294967296 ^ m*(t+1):=by rw[<-U];exact Nat.lt_mul_div_succ _ J
 obtain⟨P,H⟩:∃P,4294967296 ^ m=P:=⟨_,rfl⟩
 rw[H]at J v1 v2 ⊢
 have Z:P*2147483648<=v*2 ^ s:=by
  have I:=Nat.mul_le_mul_left P (Nat.mul_le_mul_left (2 ^ s) l2);have O:=Nat.mul_le_mul_right (2 ^ s) v1;rw[e2]at I;have e3:P*(2 ^ s*t)=P*t*2 ^ s:=by grind
  omega
 have V:v*2 ^ s<4294967296*P:=by
  have I:=Nat.mul_le_mul_left P (Nat.mul_le_mul_left (2 ^ s) (show t+1<=2 ^ (l+1)from l3));have O:=Nat.mul_lt_mul_of_pos_right v2 (Nat.two_pow_pos s);rw[h]at I;have e3:P*(2 ^ s*(t+1))=P*(t+1)*2 ^ s:=by grind
  omega
 have n1:nd (v*2 ^ s)=m+1:=by
  have I:=(Be (v:=v*2 ^ s) (k:=m+1)).2 (by rw[Ay];exact H▸V)
  have O:¬nd (v*2 ^ s)<=m:=λh7=>by
   have h8:=Be.1 h7;rw[H]at h8;have h9:=Nat.mul_le_mul_left P (show 1<=2147483648 by omega);omega
  omega
 refine⟨Y,t1,n1,?_,by rw[Ay,H];exact V,Z⟩;unfold dg;rw[H];have I:2147483648<=v*2 ^ s / P:=(Nat.le_div_iff_mul_le J).2 (by rw[Nat.mul_comm];exact Z);have O:v*2 ^ s / P<4294967296:=by rw[Nat.div_lt_iff_lt_mul J];exact V
 rw[Nat.mod_eq_of_lt O];exact I
def sg (s:Bool) (m:Nat):Int:=if s then -(m:Int)else(m:Int)
theorem Nw (s:Bool) (m:Nat):(sg s m).natAbs=m:=by unfold sg;split <;> omega
theorem fH (s:Bool) (m:Nat):decide (sg s m<0)=(s&&decide (m≠0)):=by
 cases s
 ·simp[sg]
 ·simp only[sg,if_true,Bool.true_and,decide_eq_decide];omega
theorem bM (s:Bool) (u v:Nat):sg s u+sg s v=sg s (u+v):=by unfold sg;split <;> omega
theorem bK (s:Bool) (u v:Nat) (h:v<=u):sg s u+sg (!s) v=sg s (u - v):=by cases s <;> simp[sg] <;> omega
theorem bL (s:Bool) (u v:Nat) (h:u<=v):sg s u+sg (!s) v=sg (!s) (v - u):=by cases s <;> simp[sg] <;> omega
theorem fG (s t:Bool) (u v:Nat):sg s u*sg t v=sg (s != t) (u*v):=by
 cases s <;> cases t <;> simp[sg,Int.neg_mul,Int.mul_neg]
theorem fI (s:Bool) (u:Nat):sg (!s) u=- sg s u:=by cases s <;> simp[sg]
theorem Cp (u:Nat):sg false u=u:=rfl
theorem S0 (z:Int):sg (decide (z<0)) z.natAbs=z:=by
 by_cases h:z<0
 ·rw[decide_eq_true h];simp only[sg,if_true];omega
 ·rw[decide_eq_false h];simp only[sg,Bool.false_eq_true,if_false];omega
def Zr (w:World) (s:Bool) (p:Option Addr) (n c:Nat) (z:Int):Prop:=∃a,Dg w p c n a/\sg s (vf a n)=z
def Zs (w:World) (s:Bool) (p:Option Addr) (n c:Nat) (z:Int):Prop:=s=decide (z<0)/\nd z.natAbs=n/\Nm w p c z.natAbs
theorem Zr.keep {w w':World} {s:Bool} {p:Option Addr} {n c:Nat} {z:Int} (h:Zr w s p n c z) (J:Below w.heap.size w w'):Zr w' s p n c z:=by
 obtain⟨a,H,I⟩:=h;exact⟨a,H.keep J,I⟩
theorem Zs.keep {w w':World} {s:Bool} {p:Option Addr} {n c:Nat} {z:Int} (h:Zs w s p n c z) (H:Below w.heap.size w w'):Zs w' s p n c z:=⟨h.1,h.2.1,h.2.2.keep H⟩
theorem Zs.raw {w:World} {s:Bool} {p:Option Addr} {n c:Nat} {z:Int} (h:Zs w s p n c z):Zr w s p n c z:=by
 obtain⟨J,I,H⟩:=h;unfold Nm at H;rw[I]at H;exact⟨_,H,by rw[J,<-I,Bp,S0]⟩
theorem Zr.size {w:World} {s:Bool} {p:Option Addr} {n c:Nat} {z:Int} (h:Zr w s p n c z):nd z.natAbs<=n:=by
 obtain⟨a,H,I⟩:=h;rw[<-I,Nw];exact Be.2 (Ds H.lt)
def K8 (w':World) (e:Ending) (z:Int):Prop:=∃s p n c,e=.returned (.agg #[.bool s,.slice p n c])/\Zs w' s p n c z
theorem Tg {w:World} {p:Option Addr} {c m k:Nat} {s t:Bool} (h:Nm w p c m) (H:nd m=k) (I:t=(s&&decide (0<k))):Zs w t p k c (sg s m):=by
 refine⟨?_,by rw[Nw];exact H,by rw[Nw];exact h⟩;rw[fH,I,<-H];congr 1;rw[decide_eq_decide];exact Bo
def C9 (a:Nat->Nat) (n:Nat):List Value:=(List.range n).map λi=>.int .u32 (a i:Nat)
theorem Im (a:Nat->Nat) (n:Nat):(C9 a n).length=n:=by simp[C9]
theorem Il {a:Nat->Nat} {n j:Nat} (h:j<n):(C9 a n)[j]?=some (.int .u32 (a j:Nat)):=by simp[C9,h]
theorem Qo {a:Nat->Nat} {n j:Nat} {u:Value} (h:(C9 a n)[j]?=some u):j<n/\u=.int .u32 (a j:Nat):=by
 have H:j<n:=by
  rcases Nat.lt_or_ge j n with H|H
  ·exact H
  ·rw[List.getElem?_eq_none (by rw[Im];exact H)]at h;cases h
 rw[Il H]at h;injection h with h
 exact⟨H,h.symm⟩
theorem Ox {a:Nat->Nat} {n:Nat}:∀u∈C9 a n,u.oneCell'=true:=by
 intro u H;obtain⟨i,_,rfl⟩:=List.mem_map.1 H;rfl
theorem Dg.of_own {w:World} {B n:Nat} {v:Value} {a:Nat->Nat} (h:w.ownsRow B 200 1 v n (C9 a n)) (H:∀j,j<n->a j<4294967296):∃p c,v=.slice p n c/\Dg w p c n a:=by
 rcases Dk h with⟨rfl,rfl,_⟩ |⟨g,cap,rfl,_,hg,I⟩
 ·exact⟨none,0,rfl,kT _,H,.inl rfl⟩
 ·exact⟨_,_,rfl,I,H,.inr ⟨g,0,rfl,hg,λj J=>by rw[Nat.zero_add];exact Aq h (Il J)⟩⟩
theorem Yx:prog.underlying 82=some (.slice 200):=underlying82
theorem Rz (p:Option Addr) (c n:Nat) (a:Nat->Nat) (w:World) (h:Dg w p c n a) (hn:n<=35184372088830):
  Calls prog 147 #[.slice p n c] w λe w'=>RetD w' e n (vf a n)/\Below w.heap.size w w':=by
 cases p with
 | none=>
  obtain rfl:n=0:=by
   rcases h.at' with h1 |⟨g,o,e,_⟩
   ·exact h1
   ·cases e
  clear h;have aJ:∀(w:World) (a:Option Addr) (n c n' J:Nat),(binOp .eql 82 (.slice a n c) (.slice none n' J)).run prog w=.ok (.bool a.isNone) w:=λw a n c n' J=>Lib.run_eql_slice_nil w _ _ a n c n' J Yx
  go_enter func147,ntmps147
  go_wp2;go_ret;exact⟨⟨none,0,a,rfl,⟨kT _,λj V=>absurd V (Nat.not_lt_zero _),.inl rfl⟩,rfl⟩,Below.refl _ _⟩
 | some q=>
  have H:∀(o:Obj) (j:Nat) (u:Value),(C9 a n)[j]?=some u->(w.alloc o).cell? (q.add j)=some u:=by
   intro o j u hu;obtain⟨V,rfl⟩:=Qo hu;obtain⟨g,o',e,hg,hc⟩:=h.head (by omega);injection e with e
   subst e;rw[Addr.add_lit];exact Lib.cell?_alloc_some _ (hc j V)
  have HC:=Kh H;have HL:=Kh h.lt;have HN:=Kh hn;clear H h hn;obtain⟨i0,hi,Y,Z,aD⟩:=info_parts N1;have aJ:∀(w:World) (a:Option Addr) (n c n' J:Nat),(binOp .eql 82 (.slice a n c) (.slice none n' J)).run prog w=.ok (.bool a.isNone) w:=λw a n c n' J=>Lib.run_eql_slice_nil w _ _ a n c n' J Yx
  go_enter func147,ntmps147
  go_wp2_with (at_builtin;refine wpList_append_own _ rfl _ _ 82 rfl w.heap.size 200 i0 (.int .u32 0) 1 4 Yx hi Y Z aD rfl (by decide) _ _ _ rfl (World.ownsRow_made w #[] 0 (kT _) (Nat.zero_le _) rfl) q n c (C9 a n) rfl ?qc1 ?qc2 ?qc3 ?qc4 ?qc5 ?qc6 ?_)
  case qc1=>rw[Im,Nat.mul_one]
  case qc2=>exact HC.1 _
  case qc3=>exact Ox
  case qc4=>have:=HN.1;unfold maxLen;omega
  case qc5=>have:=HN.1;omega
  case qc6=>simp
  intro v' w1 O I U;have hb:Below w.heap.size w w1:=((Below.refl _ w).alloc (kT _) _).grown I (by simp) (by intro k hk;simp[Value.ownBlock]at hk;omega);obtain⟨p',J,rfl,hd⟩:=Dg.of_own (n:=n) (a:=a) (by simpa using O) HL.1;have HD:=Kh hd;have HB:=Kh hb;clear O I U hd hb;go_wp2;go_ret;exact⟨⟨p',J,a,rfl,HD.1,rfl⟩,HB.1⟩
end
end Go.Proofs.YtenlbhlllgppmaaGreatDoor
