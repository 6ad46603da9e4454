/- Points, flags and places in memory, for projline.List and manin.enter. -/
import Derived.Test.YtenlbhlllgppmaaGreatDoorB21
set_option maxRecDepth 100000
set_option maxHeartbeats 8000000
namespace Go.Proofs.YtenlbhlllgppmaaGreatDoor
open Go.RowKit Tryz
/-! The units -/
def uns (n:Nat):Nat->List Nat
 | 0=>[]
 | m+1=>if pun n (m+1)then uns n m++[m+1]else uns n m
theorem Ij (n m:Nat):uns n (m+1)=if pun n (m+1)then uns n m++[m+1]else uns n m:=rfl
theorem T7 {n m s:Nat}:s∈uns n m↔1<=s/\s<=m/\pun n s=true:=by
 induction m with
 | zero=>constructor
         ·intro h;simp[uns]at h
         ·rintro⟨I,O,_⟩;omega
 | succ m ih=>
  rw[Ij];split
  ·rename_i hu
   rw[List.mem_append,ih,List.mem_singleton];constructor
   ·rintro(⟨I,O,J⟩|rfl)
    ·exact⟨I,by omega,J⟩
    ·exact⟨by omega,nR _,hu⟩
   ·rintro⟨I,O,J⟩
    rcases Nat.lt_or_ge s (m+1)with h|h
    ·exact .inl ⟨I,by omega,J⟩
    ·exact .inr (by omega)
  ·rename_i hu
   rw[ih];constructor
   ·rintro⟨I,O,J⟩;exact⟨I,by omega,J⟩
   ·rintro⟨I,O,J⟩
    refine⟨I,?_,J⟩;rcases Nat.lt_or_ge s (m+1)with h|h
    ·omega
    ·have:s=m+1:=by omega
     subst this;exact absurd J hu
theorem Lr (n m:Nat):(uns n m).length<=m:=by
 induction m with
 | zero=>exact nR _
 | succ m ih=>
  rw[Ij];split
  ·rw[List.length_append];simp;exact ih
  ·omega
def Yc (n:Nat) (l:List Nat) (a t i:Nat):Bool:=C5 n l i||((uns n n).take t).any λs=>Az n s a==i
theorem Ye (n:Nat) (l:List Nat) (a i:Nat):Yc n l a 0 i=C5 n l i:=by simp[Yc]
theorem Yd {n:Nat} {l:List Nat} {a t s:Nat} (h:(uns n n)[t]?=some s) (i:Nat):Yc n l a (t+1) i=if i=Az n s a then true else Yc n l a t i:=by
 unfold Yc;rw[List.take_add_one,h,Option.toList_some,List.any_append];simp only[List.any_cons,List.any_nil,Bool.or_false];by_cases e:i=Az n s a
 ·rw[if_pos e,e];simp
 ·rw[if_neg e]
  have:(Az n s a==i)=false:=by simpa using λh=>e h.symm
  rw[this,Bool.or_false]
theorem dA {n:Nat} {l:List Nat} {a:Nat} (i:Nat):Yc n l a (uns n n).length i=C5 n (l++[a]) i:=by
 unfold Yc;rw[List.take_length];unfold C5;rw[List.any_append];congr 1;simp only[List.any_cons,List.any_nil,Bool.or_false];rw[Bool.eq_iff_iff];simp only[List.any_eq_true,List.mem_range,Bool.and_eq_true,T7];constructor
 ·rintro⟨s,⟨J,O,I⟩,e⟩
  exact⟨s - 1,by omega,by rw[show s - 1+1=s by omega];exact⟨I,e⟩⟩
 ·rintro⟨j,U,I,e⟩
  exact⟨j+1,⟨by omega,by omega,I⟩,e⟩
/-! A row of cells of one kind,written in place: cell i holds f i -/
structure CRow (f:Nat->Value) (w:World) (g m:Nat):Prop where
 stk:Stk NotU32 w g
 free:∀i,i<m->w.frozen? ⟨g,i,none⟩=false
 val:∀i,i<m->w.cell? ⟨g,i,none⟩=some (f i)
theorem CRow.keep {f:Nat->Value} {w w':World} {g m:Nat} (h:CRow f w g m) (J:Below w.heap.size w w'):CRow f w' g m:=
 ⟨h.stk.next J,λi I=>Ab J (by rw[h.val i I];rfl) (h.free i I),λi I=>(J.cell (p:=⟨g,i,none⟩) h.stk.1).trans (h.val i I)⟩
theorem CRow.grown {f:Nat->Value} {w w':World} {g m:Nat} {o:Option Nat} (h:CRow f w g m) (hg:w.grownBy w' o) (O:∀b,o=some b->g≠b):CRow f w' g m:=by
 have I:w'.heap[g]?=w.heap[g]?:=hg.block g h.stk.1 (λe=>O _ e.symm rfl);refine⟨⟨nT h.stk.1 hg.size,λi v U=>h.stk.2 i v ((World.cell?_of_block (a:=⟨g,i,none⟩) I).symm.trans U)⟩,λi J=>(World.frozen?_of_block (a:=⟨g,i,none⟩) I).trans (h.free i J),λi J=>(World.cell?_of_block (a:=⟨g,i,none⟩) I).trans (h.val i J)⟩
theorem CRow.set {f:Nat->Value} {w:World} {g m:Nat} (h:CRow f w g m) (k:Nat) (u:Value) (U:NotU32 u) (J:Nat->Value) (O:∀i,i<m->J i=if i=k then u else f i):CRow J (w.setCell ⟨g,k,none⟩ u) g m:=by
 refine⟨Bd h.stk _ _ U,λi I=>Ao (h.free i I),λi I=>?_⟩;rw[O i I];by_cases e:i=k
 ·subst e
  rw[if_pos rfl];exact World.cell?_setCell_same' _ _ _ (by rw[h.val i I];rfl)
 ·rw[if_neg e,World.cell?_setCell_other _ _ _ _ (by simp <;> omega)]
  exact h.val i I
theorem CRow.congr {f I:Nat->Value} {w:World} {g m:Nat} (h:CRow f w g m) (e:∀i,i<m->I i=f i):CRow I w g m:=⟨h.stk,h.free,λi J=>by rw[e i J];exact h.val i J⟩
theorem CRow.i32 {f:Nat->Value} {w:World} {g m k:Nat} (h:CRow f w g m) (u:Value):I32 w (w.setCell ⟨g,k,none⟩ u):=I32.putU h.stk k u
theorem Wp:(prog.info? 4).map (λi=>(i.zero,i.size,i.bytes))=some (some (.bool false),1,1):=by kernel_rfl
theorem kT (n:Nat) (h:n<=1000000) (w:World):
  (Instr.makeSlice 240 (.int .i64 (n:Int)) (.int .i64 (n:Int))).run prog w=.ok (.slice (some ⟨w.heap.size,0,none⟩) n n) (w.alloc (.cells (madeCells #[.bool false] n) 4)):=by
 obtain⟨i,U,I,J,O⟩:=info_parts Wp;have hr:=run_make (P:=prog) w 240 4 i _ underlying240 U I .i64 .i64 n n (by omega) (Int.le_refl _) (by rw[O];omega) (by omega);rw[Int.toNat_natCast,J,Nat.mul_one]at hr;exact hr
theorem fB {z:Value} {n i:Nat} {v:Value} (h:(madeCells #[z] n)[i]?=some v):v=z:=by
 unfold madeCells at h;simp only[Array.getElem?_map,Array.getElem?_range]at h;split at h
 ·simp only[Option.map_some]at h
  injection h with h
  rw[<-h];have I:i % 1=0:=Nat.mod_one i;show(#[z]:Array Value)[i % 1]! = _;rw[I];rfl
 ·cases h
theorem CRow.made {z:Value} (U:NotU32 z) (w:World) (n:Nat) (t:TypeId):CRow (λ_=>z) (w.alloc (.cells (madeCells #[z] n) t)) w.heap.size n:=by
 have J:=Blk.new w t (madeCells #[z] n);refine⟨Stk.of J ?_,λi _=>J.free_ i,λi I=>?_⟩
 ·intro v O
  obtain⟨i,I⟩:=Array.getElem?_of_mem (Array.mem_toList_iff.1 O);rw[fB I];exact U
 ·rw[J.cell_ i,Array.getElem?_eq_getElem (by rw[size_madeCells];exact I)]
  congr 1;exact fB (Array.getElem?_eq_getElem (by rw[size_madeCells];exact I))
/-! Points -/
def Oq (n a:Nat):List Value:=[.int .i64 ((a / n:Nat):Int),.int .i64 ((a % n:Nat):Int),.int .i64 1]
def OwnPt (n:Nat) (l:List Nat) (w:World) (B:Nat) (v:Value):Prop:=OwnK NotU32 w B 213 3 v l.length (l.flatMap (Oq n))
theorem OwnPt.nil (n:Nat) (w:World) (B:Nat):OwnPt n [] w B (.slice none 0 0):=OwnK.nil _ _ _ _ _
theorem OwnPt.keep {n:Nat} {l:List Nat} {w w':World} {B:Nat} {v:Value} (h:OwnPt n l w B v) (I:Below w.heap.size w w'):OwnPt n l w' B v:=OwnK.keep h I
theorem OwnPt.push {n:Nat} {l:List Nat} {w':World} {B:Nat} {I:Value} {a:Nat} (h:OwnK NotU32 w' B 213 3 I (l.length+1) (l.flatMap (Oq n)++Oq n a)):OwnPt n (l++[a]) w' B I:=by
 unfold OwnPt;rw[List.flatMap_append,List.length_append]
 simpa using h
theorem OwnK.other {K:Value->Prop} {w:World} {B E I n:Nat} {v:Value} {J:List Value} (h:OwnK K w B E I v n J) {a:Addr} (O:a.block<B) {u:Value} (U:K u):OwnK K (w.setCell a u) B E I v n J:=
 ⟨ownsRow_setCell_below h.1 O u,λg hg=>Bd (h.2 g hg) _ _ U⟩
theorem Zx:(prog.info? 213).map (λi=>(i.zero,i.size,i.bytes))=some (some (.agg #[.int .i64 0,.int .i64 0,.int .i64 0]),3,24):=by kernel_rfl
def PtL (n:Nat) (l:List Nat) (w:World) (B:Nat) (v:Value):Prop:=(l=[]/\∃a c,v=.slice a 0 c)∨∃g cap,v=.slice (some ⟨g,0,none⟩) l.length cap/\g<B/\∀(j a:Nat),l[j]?=some a->w.cell? ⟨g,j*3,none⟩=some (.int .i64 ((a / n:Nat):Int))/\w.cell? ⟨g,j*3+1,none⟩=some (.int .i64 ((a % n:Nat):Int))/\w.cell? ⟨g,j*3+2,none⟩=some (.int .i64 1)
theorem Ep {n:Nat}:∀{l:List Nat} {j a i:Nat},l[j]?=some a->i<3->(l.flatMap (Oq n))[j*3+i]?=(Oq n a)[i]?
 | [],j,a,i,h,_=>by simp at h
 | x :: l,0,a,i,h,hi=>by
  simp at h;subst h;rw[List.flatMap_cons,List.getElem?_append_left (by simp[Oq];omega),Nat.zero_mul,Nat.zero_add]
 | x :: l,j+1,a,i,h,hi=>by
  rw[List.getElem?_cons_succ]at h;rw[List.flatMap_cons,List.getElem?_append_right (by simp[Oq];omega)];have e:(j+1)*3+i - (Oq n x).length=j*3+i:=by simp[Oq];omega
  rw[e];exact Ep h hi
theorem OwnPt.ptl {n:Nat} {l:List Nat} {w:World} {B:Nat} {v:Value} (h:OwnPt n l w B v):PtL n l w w.heap.size v:=by
 rcases h.1.2 with⟨I,U⟩ |⟨g,cap,cs,I,hB,hg,hn,V,Y,_⟩
 ·exact .inl ⟨List.eq_nil_of_length_eq_zero U,_,_,I⟩
 ·have Z:=h.2 g (by rw[I];rfl)
  have J:=h.1;subst I;refine .inr ⟨g,cap,rfl,Z.1,λj a O=>⟨?_,?_,?_⟩⟩
  ·exact An J ((Ep (i:=0) O (by omega)).trans rfl)
  ·exact An J ((Ep (i:=1) O (by omega)).trans rfl)
  ·exact An J ((Ep (i:=2) O (by omega)).trans rfl)
theorem PtL.next {n:Nat} {l:List Nat} {w w':World} {B:Nat} {v:Value} (h:PtL n l w B v) (I:Below B w w'):PtL n l w' B v:=by
 rcases h with h |⟨g,cap,e,hg,Y⟩
 ·exact .inl h
 ·exact .inr ⟨g,cap,e,hg,λj a V=>by
   obtain⟨J,O,U⟩:=Y j a V;exact⟨(I.cell (p:=⟨g,_,none⟩) hg).trans J,(I.cell (p:=⟨g,_,none⟩) hg).trans O,(I.cell (p:=⟨g,_,none⟩) hg).trans U⟩⟩
theorem PtL.up {n:Nat} {l:List Nat} {w:World} {B B':Nat} {v:Value} (h:PtL n l w B v) (hB:B<=B'):PtL n l w B' v:=by
 rcases h with h |⟨g,cap,e,hg,I⟩
 ·exact .inl h
 ·exact .inr ⟨g,cap,e,nT hg hB,I⟩
theorem Sw (n:Int) (w:World) (I:0<n) (hn:n<=120):Calls prog 186 #[.int .i64 n] w λe w'=>e=.returned (.int .i64 0)/\w'=w:=by
 go_enter func186,ntmps186
 go_wp2;go_ret;exact⟨rfl,rfl⟩
theorem Ns (n:Nat) (w:World) (h0:0<n) (hn:n<=120):
  Calls prog 142 #[.int .i64 n] w λe w'=>(∃v,e=.returned (.tuple #[v,.int .i64 0])/\OwnPt n (pts n (n*n)) w' w.heap.size v)/\Below w.heap.size w w':=by
 obtain⟨V,bY⟩:∃m,n*n=m:=⟨_,rfl⟩
 have pT:V<=14400:=by rw[<-bY];exact Nat.mul_le_mul hn hn
 have pW:(n:Int)*(n:Int)=(V:Nat):=by rw[<-bY];push_cast;rfl
 have pA:=kT V (by omega);have nD:=Kh bY;rw[bY];clear bY;go_enter func142,ntmps142
 go_wp2_with fail
 refine(Sw n w (by omega) (by omega)).mono ?_;rintro e w1 ⟨rfl,rfl⟩;go_wp2_with fail
 go_loopw [5,6] (λv s wr=>∃m:Nat,m<=n/\s=.int .i64 ((m:Int)+1)/\OwnN (uns n m) wr w1.heap.size v/\Below w1.heap.size w1 wr) (λ_ s _=>n+1 - (intOf s).toNat)
 case atStart=>exact⟨0,Nat.zero_le _,rfl,OwnN.nil _ _,Below.refl _ _⟩
 case round=>
  obtain⟨m,hm,rfl,hE,hb⟩:=hrel;obtain⟨w2,rfl⟩:∃w2:World,w2=wr:=⟨_,rfl⟩
  have bA:=Kh hE;have HB:=Kh hb;clear hE hb;by_cases hlt:m<n
  ·have pV:(m:Int)+1<=(n:Int):=by omega
   go_wp2_with fail
   refine(Em ((m:Int)+1) n w2 (by omega) (by omega) (by omega) (by omega)).mono ?_;rintro e w3 ⟨rfl,k,rfl⟩
   have oD:Int.gcd ((m:Int)+1) (n:Int)=Nat.gcd (m+1) n:=by
    have:((m:Int)+1)=((m+1:Nat):Int):=by push_cast;rfl
    rw[this];rfl
   rw[oD];have cT:=Kh (Aa HB.1 k);have nW:=Kh (bA.1.keep (Aa (Below.refl _ w2) k));clear oD;by_cases I:pun n (m+1)=true
   ·have hu2:(((Nat.gcd (m+1) n:Nat):Int)==1)=true:=by unfold pun at I;simp only[beq_iff_eq]at I;rw[I];rfl
    have HU:=Kh I;have bC:=Kh (Lr n m);have nC:=Kh (show OwnK NotU32 (w2.drewN k) w1.heap.size 3 1 u5 (uns n m).length ((uns n m).map λn:Nat=>Value.int .i64 (n:Int))from nW.1);clear I;go_wp2_with (at_builtin;refine B9 NotU32 rfl (.tmp 28) (.tmp 30) _ 3 rfl underlying93 Fc rfl (by decide) w1.heap.size (uns n m).length u5 ((uns n m).map λn:Nat=>Value.int .i64 (n:Int)) [.int .i64 ((m:Int)+1)] rfl nC.1 rfl rfl (by intro u I;simp at I;subst I;rfl) (by have:=bC.1;omega) (by have:=bC.1;omega) cT.1.size (by intro u I;simp at I;subst I;exact λ_ h=>by cases h) (by intro u I;simp[Value.cells]at I;subst I;exact λ_ h=>by cases h) ?_;intro v9 w9 J U cA;have dE:=Kh (show OwnN (uns n m++[m+1]) w9 w1.heap.size v9 from OwnN.push (by rw[show(((m+1:Nat):Int))=(m:Int)+1 by push_cast;rfl];exact J));have cG:=Kh (cT.1.trans (A7 (Below.refl _ _) nC.1.1 U (nR _) cT.1.size));clear J U cA)
    go_roundw
    case rel=>exact⟨m+1,by omega,by go_num,by rw[Ij,if_pos HU.1];exact dE.1,cG.1⟩
    case measure=>simp[intOf];omega
   ·have hu2:(((Nat.gcd (m+1) n:Nat):Int)==1)=false:=by
     unfold pun at I;simp only[beq_iff_eq]at I;simp;omega
    have HU:=Kh I;clear I;go_wp2;go_roundw
    case rel=>exact⟨m+1,by omega,by go_num,by rw[Ij,if_neg HU.1];exact nW.1,cT.1⟩
    case measure=>simp[intOf];omega
  ·obtain rfl:n=m:=by omega
   go_wp2_with fail
   obtain⟨O,oY⟩:∃g,w2.heap.size=g:=⟨_,rfl⟩
   have Y:=CRow.made (z:=.bool false) (λ_ h=>by cases h) w2 V 4;obtain⟨wS,hZ⟩:∃wS,w2.alloc (.cells (madeCells #[.bool false] V) 4)=wS:=⟨_,rfl⟩
   have hV:Below w2.heap.size w2 wS:=hZ▸(Below.refl _ _).alloc (nR _) _;rw[hZ]at Y ⊢;obtain⟨pu,cu,pD⟩:=Ba (show OwnK NotU32 w2 w1.heap.size 3 1 u5 (uns n n).length _ from bA.1).1;subst pD;have hW:=OwnN.nl bA.1;have hN:=Kh HB.1.size;rw[oY]at Y hV hW hN ⊢;have oR:=Kh hW;have mE:=Kh hV;have nB:=Kh (show CRow (λi=>.bool (C5 n (pts n 0) i)) wS O V from Y.congr (λi _=>rfl));have pP:=Kh (Lr n n);clear Y hV hW hZ bA pA;go_loopw [7,38] (λv ii wr=>∃k:Nat,k<=V/\ii=.int .i64 k/\OwnPt n (pts n k) wr (O+1) v/\CRow (λi=>.bool (C5 n (pts n k) i)) wr O V/\Below O wS wr) (λ_ ii _=>V - (intOf ii).toNat)
   case atStart=>exact⟨0,Nat.zero_le _,rfl,OwnPt.nil _ _ _,nB.1,Below.refl _ _⟩
   case round=>
    obtain⟨k,hk,rfl,oE,Y,oA⟩:=hrel;obtain⟨w3,rfl⟩:∃w3:World,w3=wr:=⟨_,rfl⟩
    have hP:=Kh oE;have hO:=Kh Y;have hI:=Kh oA;clear oE oA nB;by_cases hkN:k<V
    ·have pU:(k:Int)<(V:Int):=by omega
     have hq:(k:Int).tdiv (n:Int)=((k / n:Nat):Int):=by rw[Int.tdiv_eq_ediv_of_nonneg (by omega)];rfl
     have hr:(k:Int).tmod (n:Int)=((k % n:Nat):Int):=by rw[Int.tmod_eq_emod_of_nonneg (by omega)];rfl
     have oW:k / n<n:=Nat.div_lt_of_lt_mul (by rw[nD.1];exact hkN);have oX:k % n<n:=Nat.mod_lt _ h0;obtain⟨u,I⟩:∃u,k / n=u:=⟨_,rfl⟩
     obtain⟨v,hv⟩:∃v,k % n=v:=⟨_,rfl⟩
     rw[I]at hq oW;rw[hv]at hr oX;have HU:=Kh I;have HV:=Kh hv;have pB:(n:Int)≠0:=by omega
     have s0:=Y.val k hkN;clear I hv Y;go_wp2_with fail
     go_quiet (fail)
     generalize hw4:w3.drewN nq=w4;have cB:Below w3.heap.size w3 w4:=hw4▸Aa (Below.refl _ _) nq;have s4:=cell_next cB s0;have hJ:=Kh (hI.1.trans (cB.mono (Nat.le_of_lt hO.1.stk.1)));have bE:=Kh (hP.1.keep cB);have cX:=Kh (hO.1.keep cB);clear hw4 cB s0 hP hO hI hq hr;cases hs:C5 n (pts n k) k with
     | true=>
      rw[hs]at s4;have HP:=Kh (show pts n (k+1)=pts n k by rw[Co,hs];simp);clear hs;go_wp2;go_roundw
      case rel=>exact⟨k+1,by omega,by go_num,by rw[HP.1];exact bE.1,by rw[HP.1];exact cX.1,hJ.1⟩
      case measure=>simp[intOf];omega
     | false=>
      rw[hs]at s4;have HS:=Kh hs;clear hs;go_wp2_with fail
      refine(Em u v w4 (by omega) (by omega) (by omega) (by omega)).mono ?_;rintro e w5 ⟨rfl,m1,rfl⟩;have oB:Int.gcd (u:Int) (v:Int)=Nat.gcd u v:=rfl;rw[oB]
      have oZ:Nat.gcd u v<=n+n:=by
       rcases Nat.eq_zero_or_pos u with h|h
       ·subst h;rw[Nat.gcd_zero_left];omega
       ·have:=Nat.gcd_le_left v h;omega
      go_wp2_with fail
      refine(Em ((Nat.gcd u v:Nat):Int) n _ (by omega) (by omega) (by omega) (by omega)).mono ?_;rintro e w6 ⟨rfl,m2,rfl⟩;have oC:Int.gcd ((Nat.gcd u v:Nat):Int) (n:Int)=Nat.gcd (Nat.gcd u v) n:=rfl;rw[oC];generalize hw5:(w4.drewN m1).drewN m2=w5;have gN:Below w4.heap.size w4 w5:=hw5▸Aa (Aa (Below.refl _ _) m1) m2;have hL:=Kh (hJ.1.trans (gN.mono (Nat.le_of_lt cX.1.stk.1)));have Z:=Kh (bE.1.keep gN);have bB:=Kh (cX.1.keep gN);have nX:=Kh (show E6 n k=(Nat.gcd (Nat.gcd u v) n==1)by unfold E6;rw[HU.1,HV.1]);clear hw5 gN s4 bE cX hJ oB oC oZ;cases ho:(Nat.gcd (Nat.gcd u v) n==1)with
      | false=>
       have pC:(((Nat.gcd (Nat.gcd u v) n:Nat):Int) != 1)=true:=by
        simp only[beq_eq_false_iff_ne]at ho;simp;omega
       have HP:=Kh (show pts n (k+1)=pts n k by rw[Co,nX.1,ho];simp);clear ho;go_wp2;go_roundw
       case rel=>exact⟨k+1,by omega,by go_num,by rw[HP.1];exact Z.1,by rw[HP.1];exact bB.1,hL.1⟩
       case measure=>simp[intOf];omega
      | true=>
       have pC:(((Nat.gcd (Nat.gcd u v) n:Nat):Int) != 1)=false:=by
        simp only[beq_iff_eq]at ho;rw[ho];rfl
       have HP:=Kh (show pts n (k+1)=pts n k++[k]by rw[Co,nX.1,ho,HS.1];rfl)
       have bC:=Kh (show(pts n k).length<=14400 by
        have h1:(pts n k).length<=k:=Cj n k;omega)
       clear ho;go_wp2_with (at_builtin;refine B9 NotU32 rfl (.tmp 59) (.tmp 63) _ 213 rfl underlying159 Zx rfl (by decide) (O+1) (pts n k).length u7 ((pts n k).flatMap (Oq n)) [.int .i64 (u:Int),.int .i64 (v:Int),.int .i64 1] rfl Z.1 rfl rfl (by intro u I;simp at I;rcases I with rfl|rfl|rfl <;> rfl) (by have:=bC.1;omega) (by have:=bC.1;omega) bB.1.stk.1 (by intro u I;simp at I;rcases I with rfl|rfl|rfl <;> exact λ_ h=>by cases h) (by intro u I;simp[Value.cells]at I;rcases I with rfl|rfl|rfl <;> exact λ_ h=>by cases h) ?_;intro v9 w9 J U cA;have dE:=Kh (show OwnPt n (pts n k++[k]) w9 (O+1) v9 from OwnPt.push (by rw[show Oq n k=[.int .i64 (u:Int),.int .i64 (v:Int),.int .i64 1]by unfold Oq;rw[HU.1,HV.1]];exact J));have cG:=Kh (hL.1.trans ((A7 (Below.refl _ _) Z.1.1 U (nR _) bB.1.stk.1).mono (Nat.le_succ O)));have nA:=Kh (show CRow (λi=>.bool (Yc n (pts n k) k 0 i)) w9 O V from(bB.1.grown U (λb hb=>by have:=Cn Z.1.1 hb.symm;omega)).congr (λi _=>by rw[Ye]));clear J U cA)
       clear Z bB hL;go_loopw [67] (λii w6=>∃t:Nat,t<=(uns n n).length/\ii=.int .i64 t/\CRow (λi=>.bool (Yc n (pts n k) k t i)) w6 O V/\OwnPt n (pts n k++[k]) w6 (O+1) v9/\Below O wS w6) (λii _=>(uns n n).length - (intOf ii).toNat)
       case atStart=>exact⟨0,Nat.zero_le _,rfl,nA.1,dE.1,cG.1⟩
       case round=>
        obtain⟨t,ht,rfl,hD,hG,nZ⟩:=hrel;obtain⟨w6,rfl⟩:∃w6:World,w6=wr:=⟨_,rfl⟩
        have dC:=Kh hD;have hB:=Kh hG;have hM:=Kh nZ;clear hD hG nZ nA dE cG;by_cases htl:t<(uns n n).length
        ·have pZ:(t:Int)<((uns n n).length:Int):=by omega
         obtain⟨s,hs⟩:∃s,(uns n n)[t]?=some s:=⟨_,List.getElem?_eq_getElem htl⟩
         have hY:=T7.1 (List.mem_of_getElem? hs);have pX:=hY.1;have pY:=hY.2.1;have oT:=Kh hs;rcases oR.1.next (mE.1.trans hM.1)with⟨oV,_⟩ |⟨gU,pG,e,_,_,_,hx⟩
         ·rw[oV]at htl;simp at htl
         cases e;have c0:=hx t s hs;obtain⟨SU,gF⟩:∃x,s*u=x:=⟨_,rfl⟩
         obtain⟨SW,gL⟩:∃x,s*v=x:=⟨_,rfl⟩
         obtain⟨P1,dY⟩:∃x,SU % n=x:=⟨_,rfl⟩
         obtain⟨P2,eP⟩:∃x,SW % n=x:=⟨_,rfl⟩
         obtain⟨PN,gA⟩:∃x,P1*n=x:=⟨_,rfl⟩
         have b1:SU<=14400:=by rw[<-gF];exact Nat.mul_le_mul (by omega:s<=120) (by omega:u<=120)
         have b2:SW<=14400:=by rw[<-gL];exact Nat.mul_le_mul (by omega:s<=120) (by omega:v<=120)
         have b3:P1<n:=dY▸Nat.mod_lt _ h0;have b4:P2<n:=eP▸Nat.mod_lt _ h0;have b5:PN<=14400:=by rw[<-gA];exact Nat.mul_le_mul (by omega:P1<=120) (by omega:n<=120)
         have e1:(s:Int)*(u:Int)=(SU:Nat):=by rw[<-gF];push_cast;rfl
         have e2:(s:Int)*(v:Int)=(SW:Nat):=by rw[<-gL];push_cast;rfl
         have e3:(SU:Int).tmod (n:Int)=(P1:Nat):=by rw[Int.tmod_eq_emod_of_nonneg (by omega),<-dY];rfl
         have e4:(SW:Int).tmod (n:Int)=(P2:Nat):=by rw[Int.tmod_eq_emod_of_nonneg (by omega),<-eP];rfl
         have e5:(P1:Int)*(n:Int)=(PN:Nat):=by rw[<-gA];push_cast;rfl
         have hX:PN+P2=Az n s k:=by unfold Az;rw[HU.1,HV.1,gF,gL,dY,eP,gA]
         obtain⟨IX,hU⟩:∃x,PN+P2=x:=⟨_,rfl⟩
         have e6:(PN:Int)+(P2:Int)=(IX:Nat):=by omega
         have nY:IX<V:=by rw[<-hU,hX,<-nD.1];exact Tr h0 s k
         have pI:(IX:Int)<(V:Int):=by omega
         have oQ:=Kh (show IX=Az n s k by rw[<-hU,hX]);have d0:=dC.1.val IX nY;have d1:=dC.1.free IX nY;have i0:(0:Int)<=(IX:Int):=by omega
         have v1:IntKind.i64.wrap (SU:Int)=(SU:Nat):=IntWalk.i64_in _ (by omega);have v2:IntKind.i64.wrap (SW:Int)=(SW:Nat):=IntWalk.i64_in _ (by omega);have v3:IntKind.i64.wrap (PN:Int)=(PN:Nat):=IntWalk.i64_in _ (by omega);have v5:IntKind.i64.wrap (P1:Int)=(P1:Nat):=IntWalk.i64_in _ (by omega);have v6:IntKind.i64.wrap (P2:Int)=(P2:Nat):=IntWalk.i64_in _ (by omega);have z1:((n:Int)==0)=false:=by simpa using pB
         have z2:n≠0:=by omega
         have v4:IntKind.i64.wrap (IX:Int)=(IX:Nat):=IntWalk.i64_in _ (by omega);have oN:=Kh (show CRow (λi=>.bool (Yc n (pts n k) k (t+1) i)) (w6.setCell ⟨O,IX,none⟩ (.bool true)).drew O V from(dC.1.set IX (.bool true) (λ_ h=>by cases h) (λi=>.bool (Yc n (pts n k) k (t+1) i)) (λi _=>by rw[Yd oT.1 i,<-oQ.1];split <;> rfl)).keep (Below.refl _ _).drew);have oS:=Kh (show OwnPt n (pts n k++[k]) (w6.setCell ⟨O,IX,none⟩ (.bool true)).drew (O+1) v9 from OwnPt.keep (OwnK.other hB.1 (a:=⟨O,IX,none⟩) (nU O) (λ_ h=>by cases h)) (Below.refl _ _).drew);have oL:=Kh (show Below O wS (w6.setCell ⟨O,IX,none⟩ (.bool true)).drew from(hM.1.setCell (p:=⟨O,IX,none⟩) (nR _) _).drew);clear gF gL dY eP gA hX hU hs hY hx;go_upto_region 21 with(fail)
         go_region_held3 (λ_=>True) (trivial) (fail)
         all_goals go_wp2
         all_goals go_roundw
         all_goals first
          | exact⟨t+1,by omega,by go_num,oN.1,oS.1,oL.1⟩
          |(simp[intOf];omega)
        ·obtain rfl:(uns n n).length=t:=by omega
         have oM:=Kh (show CRow (λi=>.bool (C5 n (pts n k++[k]) i)) w6 O V from dC.1.congr (λi _=>by rw[dA]));go_wp2;go_roundw
         case rel=>exact⟨k+1,by omega,by go_num,by rw[HP.1];exact hB.1,by rw[HP.1];exact oM.1,hM.1⟩
         case measure=>simp[intOf];omega
    ·obtain rfl:V=k:=by omega
     have oP:=Kh (show OwnPt n (pts n V) w3 w1.heap.size u7 from by
      obtain⟨⟨e0,h1⟩,h2⟩:=hP.1;refine⟨⟨e0,?_⟩,h2⟩;rcases h1 with h1 |⟨g,cap,cs,e1,hg,rest⟩
      ·exact .inl h1
      ·exact .inr ⟨g,cap,cs,e1,by have:=hN.1;omega,rest⟩)
     have oO:=Kh (HB.1.trans ((mE.1.trans hI.1).mono hN.1));clear Y;go_wp2
     (first|go_ret2|go_ret)
     exact⟨⟨_,rfl,oP.1⟩,oO.1⟩
def plc (f:Nat->Nat×Int) (i:Nat):Value:=.int .i64 (if i % 2=0 then((f (i / 2)).1:Int)else(f (i / 2)).2)
theorem dO (f:Nat->Nat×Int) (p i:Nat) (x:Nat×Int):plc (Qy f p x) i=if i=p*2+1 then .int .i64 x.2 else if i=p*2 then .int .i64 (x.1:Int)else plc f i:=by
 unfold plc Qy;by_cases h1:i=p*2+1
 ·subst h1
  rw[if_pos rfl,if_neg (by omega),show(p*2+1) / 2=p by omega,if_pos rfl]
 ·rw[if_neg h1]
  by_cases h2:i=p*2
  ·subst h2
   rw[if_pos rfl,if_pos (by omega),show p*2 / 2=p by omega,if_pos rfl]
  ·have I:i / 2≠p:=by omega
   simp only[if_neg h2,if_neg I]
theorem CRow.place {f:Nat->Nat×Int} {w:World} {g m p:Nat} (h:CRow (plc f) w g m) (x:Nat×Int):CRow (plc (Qy f p x)) ((w.setCell ⟨g,p*2,none⟩ (.int .i64 (x.1:Int))).setCell ⟨g,p*2+1,none⟩ (.int .i64 x.2)) g m:=by
 have I:=h.set (p*2) (.int .i64 (x.1:Int)) (λ_ h=>by cases h) (λi=>if i=p*2 then .int .i64 (x.1:Int)else plc f i) (λi _=>rfl);exact I.set (p*2+1) (.int .i64 x.2) (λ_ h=>by cases h) _ (λi _=>by rw[dO])
theorem iN:(prog.info? 215).map (λi=>(i.zero,i.size,i.bytes))=some (some (.agg #[.int .i64 0,.int .i64 0]),2,16):=by kernel_rfl
theorem fC {z:Value} {n i:Nat} {v:Value} (h:(madeCells #[z,z] n)[i]?=some v):v=z:=by
 unfold madeCells at h;simp only[Array.getElem?_map,Array.getElem?_range]at h;split at h
 ·simp only[Option.map_some]at h
  injection h with h
  rw[<-h];have I:i % 2=0∨i % 2=1:=by omega
  show(#[z,z]:Array Value)[i % 2]! = _;rcases I with I|I <;> rw[I] <;> rfl
 ·cases h
theorem kV (n:Nat) (h:n<=1000000) (w:World):
  (Instr.makeSlice 160 (.int .i64 (n:Int)) (.int .i64 (n:Int))).run prog w=.ok (.slice (some ⟨w.heap.size,0,none⟩) n n) (w.alloc (.cells (madeCells #[.int .i64 0,.int .i64 0] (n*2)) 215)):=by
 obtain⟨i,U,I,J,O⟩:=info_parts iN;have hr:=run_make (P:=prog) w 160 215 i _ underlying160 U I .i64 .i64 n n (by omega) (Int.le_refl _) (by rw[O];omega) (by omega);rw[Int.toNat_natCast,J]at hr;exact hr
theorem CRow.places (w:World) (n:Nat):CRow (plc (λ_=>(0,0))) (w.alloc (.cells (madeCells #[.int .i64 0,.int .i64 0] (n*2)) 215)) w.heap.size (n*2):=by
 have J:=Blk.new w 215 (madeCells #[.int .i64 0,.int .i64 0] (n*2));refine⟨Stk.of J ?_,λi _=>J.free_ i,λi I=>?_⟩
 ·intro v O
  obtain⟨i,I⟩:=Array.getElem?_of_mem (Array.mem_toList_iff.1 O);rw[fC I];exact λ_ h=>by cases h
 ·rw[J.cell_ i,Array.getElem?_eq_getElem (by rw[size_madeCells];exact I)]
  congr 1;rw[fC (Array.getElem?_eq_getElem (by rw[size_madeCells];exact I))];unfold plc;split <;> rfl
structure WorldAt (w:World) (T B n wt:Nat) (L:List Nat) (f:Nat->Nat×Int):Prop where
 lt:T<B
 c0:w.cell? ⟨T,0,none⟩=some (.int .i64 (n:Int))
 c1:w.cell? ⟨T,1,none⟩=some (.int .i64 (wt:Int))
 c2:∃p c,w.cell? ⟨T,2,none⟩=some (.slice p L.length c)/\PtL n L w B (.slice p L.length c)
 c3:∃g,w.cell? ⟨T,3,none⟩=some (.slice (some ⟨g,0,none⟩) (n*n) (n*n))/\g<B/\∀i,i<n*n*2->w.cell? ⟨g,i,none⟩=some (plc f i)
theorem WorldAt.next {w w':World} {T B B' n wt:Nat} {L:List Nat} {f:Nat->Nat×Int} (h:WorldAt w T B n wt L f) (J:Below B' w w') (hB:B<=B'):WorldAt w' T B n wt L f:=by
 have I:∀g i v,g<B->w.cell? ⟨g,i,none⟩=some v->w'.cell? ⟨g,i,none⟩=some v:=λg i v hg e=>(J.cell (p:=⟨g,i,none⟩) (nT hg hB)).trans e
 obtain⟨p,c,O,V⟩:=h.c2;obtain⟨g,U,hg,Y⟩:=h.c3;exact⟨h.lt,I _ _ _ h.lt h.c0,I _ _ _ h.lt h.c1,⟨p,c,I _ _ _ h.lt O,V.next (J.mono hB)⟩,g,I _ _ _ h.lt U,hg,λi Z=>I _ _ _ hg (Y i Z)⟩
theorem WorldAt.keep {w w':World} {T B n wt:Nat} {L:List Nat} {f:Nat->Nat×Int} (h:WorldAt w T B n wt L f) (hB:B<=w.heap.size) (I:Below w.heap.size w w'):WorldAt w' T B n wt L f:=h.next I hB
theorem WorldAt.up {w:World} {T B B' n wt:Nat} {L:List Nat} {f:Nat->Nat×Int} (h:WorldAt w T B n wt L f) (hB:B<=B'):WorldAt w T B' n wt L f:=by
 obtain⟨p,c,I,O⟩:=h.c2;obtain⟨g,J,hg,U⟩:=h.c3;exact⟨nT h.lt hB,h.c0,h.c1,⟨p,c,I,O.up hB⟩,g,J,nT hg hB,U⟩
theorem PtL.but {n:Nat} {l:List Nat} {w w':World} {B G:Nat} {v:Value} (h:PtL n l w B v) (hg:w.grownBy w' (some G)) (hG:B<=G):PtL n l w' B v:=by
 rcases h with h |⟨g,cap,e,J,Z⟩
 ·exact .inl h
 ·have I:∀i,some (⟨g,i,none⟩:Addr).block≠some G:=λi e=>by injection e with e;simp at e;omega
  exact .inr ⟨g,cap,e,J,λj a Y=>by
   obtain⟨O,U,V⟩:=Z j a Y;exact⟨hg.cell O (I _),hg.cell U (I _),hg.cell V (I _)⟩⟩
theorem Ha (n wt:Nat) (D:Int) (w:World) (hT:Tab w) (h0:0<n) (hn:n<=120) (rG:wt<=22) (hD:-120<=D) (qU:D<=120) (oR:Pl.check n ((wt:Int)+2) D=0):
  Calls prog 91 #[.agg #[.int .i64 n,.int .i64 ((wt:Int)+2),.int .i64 D]] w λe w'=>(∃T,e=.returned (.tuple #[.pointer (some ⟨T,0,none⟩),.int .i64 0])/\WorldAt w' T w'.heap.size n wt (pts n (n*n)) (Bk n D (pts n (n*n)) n))/\Below w.heap.size w w':=by
 obtain⟨L,hL⟩:∃l,pts n (n*n)=l:=⟨_,rfl⟩
 have pV:L.length<=n*n:=hL▸Cj n (n*n);obtain⟨O,cC⟩:∃m,n*n=m:=⟨_,rfl⟩
 have qW:O<=14400:=by rw[<-cC];exact Nat.mul_le_mul hn hn
 have rF:(n:Int)*(n:Int)=(O:Nat):=by rw[<-cC];push_cast;rfl
 have pY:=kV O (by omega);have hR:=Kh cC;have oL:=Kh hT;have oD:=Kh oR;have oG:=Kh hL;rw[hL];rw[cC]at pV;clear cC hT oR hL;go_enter func91,ntmps91
 go_wp2_with fail
 obtain⟨w0,pA,X0,hZ⟩:=bx1 w #[.int .i64 n,.int .i64 ((wt:Int)+2),.int .i64 D] 23;rw[pA];refine(Ss n ((wt:Int)+2) D w0).mono ?_;rintro e w1 ⟨rfl,iL⟩;rw[oD.1];have X1:=X0.below_ iL X0.lt;have x0:=X1.at_ 0 rfl;have oB:=Kh (hZ.trans (iL.mono hZ.size));have oM:=Kh X1;clear pA X0 hZ iL X1;go_wp2_with fail
 refine(Ns n w1 h0 hn).mono ?_;rintro e U ⟨⟨lv,rfl,nD⟩,mA⟩;obtain⟨pl,cl,hlv⟩:=Ba nD.1;subst hlv;have cG:=nD.ptl;rw[oG.1]at cG ⊢;have oH:=Kh cG;have cA:=Kh (bk oM mA);have hN:=bt oB mA;have oK:=Kh (oL.1.below hN.1);have a0:=cA.1.at_ 0 rfl;have a1:=cA.1.at_ 1 rfl;have qL:(wt:Int)+2 - 2=(wt:Nat):=by omega
 have qM:(0:Int)<=(wt:Int):=by omega
 have vN:IntKind.i64.wrap (O:Int)=(O:Nat):=IntWalk.i64_in _ (by omega);have vW:IntKind.i64.wrap (wt:Int)=(wt:Nat):=IntWalk.i64_in _ (by omega);clear nD cG mA x0 oB oM oL oD;go_upto_region 8 with(fail)
 have aX:=Kh (show ∀w4,Below U.heap.size U w4->(w4.cell? ⟨w.heap.size,1,none⟩=some (.int .i64 ((wt:Int)+2)))from λw4 hb=>cell_next hb a1);have cD:=aX.1 _ (Below.refl _ U).drew
 go_region_held3 (λw4=>w4.cell? ⟨w.heap.size,1,none⟩=some (.int .i64 ((wt:Int)+2)))
  (first|with_reducible exact cD|exact aX.1 _ ((Below.refl _ U).drew.alloc (nR _) _)|exact aX.1 _ (((Below.refl _ U).alloc (nR _) _).drew)|exact aX.1 _ (((Below.refl _ U).drew.alloc (nR _) _).alloc (Nat.le_of_lt (by simp)) _)|exact aX.1 _ ((((Below.refl _ U).alloc (nR _) _).drew).alloc (Nat.le_of_lt (by simp)) _) |(exfalso;assumption))
  (fail)
 all_goals go_wp2
 have hI:=CRow.places U O;obtain⟨wx,hG⟩:∃wx,((U.alloc (.cells (madeCells #[.int .i64 0,.int .i64 0] (O*2)) 215)).alloc (.cells #[.int .i64 n,.int .i64 wt,.slice pl L.length cl,.slice (some ⟨U.heap.size,0,none⟩) O O] 162)).drew=wx:=⟨_,rfl⟩
 have mD:Below U.heap.size U (U.alloc (.cells (madeCells #[.int .i64 0,.int .i64 0] (O*2)) 215)):=(Below.refl _ _).alloc (nR _) _;have mE:Below (U.alloc (.cells (madeCells #[.int .i64 0,.int .i64 0] (O*2)) 215)).heap.size (U.alloc (.cells (madeCells #[.int .i64 0,.int .i64 0] (O*2)) 215)) wx:=hG▸((Below.refl _ _).alloc (nR _) _).drew;have oY:(U.alloc (.cells (madeCells #[.int .i64 0,.int .i64 0] (O*2)) 215)).heap.size=U.heap.size+1:=by simp
 have cF:=hI.keep mE
 have bB:Blk wx (U.heap.size+1) 162 #[.int .i64 n,.int .i64 wt,.slice pl L.length cl,.slice (some ⟨U.heap.size,0,none⟩) O O]:=by
  have h:=Blk.new (U.alloc (.cells (madeCells #[.int .i64 0,.int .i64 0] (O*2)) 215)) 162 #[.int .i64 n,.int .i64 wt,.slice pl L.length cl,.slice (some ⟨U.heap.size,0,none⟩) O O];rw[oY]at h;exact hG▸h.below_ (Below.refl _ _).drew h.lt
 have Y:Below U.heap.size U wx:=mD.trans (mE.mono mD.size);have nW:=bk cA Y;have cT:=oH.1.next Y
 rw[hG];obtain⟨J,nA⟩:∃J,U.heap.size=J:=⟨_,rfl⟩
 obtain⟨T,oO⟩:∃T,J+1=T:=⟨_,rfl⟩
 obtain⟨gs,oX⟩:∃gs,w.heap.size=gs:=⟨_,rfl⟩
 have pL:=Kh (show gs<J by have:=cA.1.lt;omega);have hS:=Kh (show w.heap.size<=J by have:=hN.1.size;omega);rw[nA]at cF bB Y cT ⊢;rw[oO]at bB ⊢;rw[oX]at nW ⊢;have oE:=Kh cF;have bY:=Kh bB;have pH:=Kh Y;have pR:=Kh nW;have oJ:=Kh cT;have oF:=Kh (show T≠J by omega);have pP:=Kh (show ∀w',wx.grownBy w' (some J)->Tab w' from λw' hg=>oK.1.below (nA▸Ae Y hg (by have:=Y.size;omega) (nR _)));have hQ:=Kh (show J<=wx.heap.size by have:=bB.lt;omega);have pN:=Kh (show T<wx.heap.size from bB.lt);clear hI cF bB Y nW cT hG mD mE oY nA oO oX pY aX cD a0 a1 cA oH oK;go_loopw [9] (λv wr=>∃I:Nat,1<=I/\I<=n+1/\v=.int .i64 I/\CRow (plc (Bk n D L (I - 1))) wr J (O*2)/\wx.grownBy wr (some J)) (λv _=>n+1 - (intOf v).toNat)
 case atStart=>exact⟨1,nR _,by omega,rfl,oE.1,Af J (Below.refl _ _)⟩
 case round=>
  obtain⟨I,rC,rD,rfl,oS,oW⟩:=hrel;obtain⟨w3,rfl⟩:∃w3:World,w3=wr:=⟨_,rfl⟩
  have dY:=Kh oS;have V:=Kh oW;clear oS oW oE;have qB:gs≠J:=Nat.ne_of_lt pL.1;by_cases hlt:I<=n
  ·have rE:(I:Int)<=(n:Int):=by omega
   go_wp2_with fail
   refine(Em I n w3 (by omega) (by omega) (by omega) (by omega)).mono ?_;rintro e w4 ⟨rfl,m1,rfl⟩;have oT:Int.gcd (I:Int) (n:Int)=Nat.gcd I n:=rfl;rw[oT];generalize hw4:w3.drewN m1=w4;have mB:Below w3.heap.size w3 w4:=hw4▸Aa (Below.refl _ _) m1;have hO:=Kh (dY.1.keep mB);have bE:=Kh (V.1.trans (Af J mB))
   have oA:=Kh (show Bk n D L I=if pun n I then Ft n I (Pl.kroP D I) L L.length (Bk n D L (I - 1))else Bk n D L (I - 1)by
    obtain⟨l,rfl⟩:∃l,I=l+1:=⟨I - 1,by omega⟩
    rfl)
   have oI:=Kh (show pun n I=(Nat.gcd I n==1)from rfl);clear hw4 mB oT dY V;cases ho:(Nat.gcd I n==1)with
   | false=>
    have qA:(((Nat.gcd I n:Nat):Int) != 1)=true:=by
     simp only[beq_eq_false_iff_ne]at ho;simp;omega
    have HP:=Kh (show Bk n D L I=Bk n D L (I - 1)by rw[oA.1,oI.1,ho];rfl);clear ho;go_wp2;go_roundw
    case rel=>exact⟨I+1,by omega,by omega,by go_num,by rw[Nat.add_sub_cancel,HP.1];exact hO.1,bE.1⟩
    case measure=>simp[intOf];omega
   | true=>
    have qA:(((Nat.gcd I n:Nat):Int) != 1)=false:=by
     simp only[beq_iff_eq]at ho;rw[ho];rfl
    have HP:=Kh (show Bk n D L I=Ft n I (Pl.kroP D I) L L.length (Bk n D L (I - 1))by rw[oA.1,oI.1,ho];rfl);have x2:=bE.1.cell (pR.1.at_ 2 rfl) (λe=>by injection e with e;exact qB e);clear ho;go_wp2_with fail
    refine(O6 D I w4 (pP.1 w4 bE.1) (by omega) (by omega) (by omega) (by omega)).mono ?_;rintro e w5 ⟨rfl,rfl⟩;obtain⟨ch,oQ⟩:∃ch,Pl.kroP D I=ch:=⟨_,rfl⟩
    rw[oQ]at HP ⊢;clear x2 oQ;go_wp2_with fail
    have oC:=Kh (show CRow (plc (Ft n I ch L 0 (Bk n D L (I - 1)))) w4 J (O*2)from hO.1);go_loopw [55] (λii w5=>∃j:Nat,j<=L.length/\ii=.int .i64 j/\CRow (plc (Ft n I ch L j (Bk n D L (I - 1)))) w5 J (O*2)/\wx.grownBy w5 (some J)) (λii _=>L.length - (intOf ii).toNat)
    case atStart=>exact⟨0,Nat.zero_le _,rfl,oC.1,bE.1⟩
    case round=>
     obtain⟨j,hj,rfl,hJ,hM⟩:=hrel;obtain⟨w5,rfl⟩:∃w5:World,w5=wr:=⟨_,rfl⟩
     have hP:=Kh hJ;have eP:=Kh hM;clear hJ hM oC hO bE;by_cases hjl:j<L.length
     ·have rB:(j:Int)<(L.length:Int):=by omega
      obtain⟨a,ha⟩:∃a,L[j]?=some a:=⟨_,List.getElem?_eq_getElem hjl⟩
      have oP:a<n*n:=by
       have h:=List.mem_of_getElem? ha;rw[<-oG.1]at h;exact Fk h
      have oV:L.getD j 0=a:=by rw[List.getD_eq_getElem?_getD,ha];rfl
      have pK:=Kh oV;rcases oJ.1.but eP.1 (nR _)with⟨pU,_⟩ |⟨gL,qI,e,qY,hx⟩
      ·rw[pU]at hjl;simp at hjl
      cases e;obtain⟨p0,p1,p2⟩:=hx j a ha;have pW:a / n<n:=Nat.div_lt_of_lt_mul oP;have pX:a % n<n:=Nat.mod_lt _ h0;obtain⟨u,hu⟩:∃u,a / n=u:=⟨_,rfl⟩
      obtain⟨v,hv⟩:∃v,a % n=v:=⟨_,rfl⟩
      rw[hu]at p0 pW;rw[hv]at p1 pX;have HU:=Kh hu;have HV:=Kh hv;clear hu hv oV ha oP hx;go_wp2_with fail
      obtain⟨wb,hE⟩:∃wb,w5.alloc (.cells #[.int .i64 (u:Int),.int .i64 (v:Int),.int .i64 1] 213)=wb:=⟨_,rfl⟩
      have mC:Below w5.heap.size w5 wb:=hE▸(Below.refl _ _).alloc (nR _) _;have X:=hE▸Blk.new w5 213 #[.int .i64 (u:Int),.int .i64 (v:Int),.int .i64 1];rw[hE];obtain⟨gb,oU⟩:∃gb,w5.heap.size=gb:=⟨_,rfl⟩
      rw[oU]at X ⊢;have hY:T≠J:=oF.1;have Z:gb≠J:=by have:=eP.1.size;have:=hQ.1;have:=hP.1.stk.1;omega
      obtain⟨SU,gS⟩:∃x,I*u=x:=⟨_,rfl⟩
      obtain⟨SW,gU⟩:∃x,I*v=x:=⟨_,rfl⟩
      obtain⟨P1,gA⟩:∃x,SU % n=x:=⟨_,rfl⟩
      obtain⟨P2,gF⟩:∃x,SW % n=x:=⟨_,rfl⟩
      obtain⟨PN,gN⟩:∃x,P1*n=x:=⟨_,rfl⟩
      have q1:SU<=14400:=by rw[<-gS];exact Nat.mul_le_mul (by omega:I<=120) (by omega:u<=120)
      have q2:SW<=14400:=by rw[<-gU];exact Nat.mul_le_mul (by omega:I<=120) (by omega:v<=120)
      have q3:P1<n:=gA▸Nat.mod_lt _ h0;have q4:P2<n:=gF▸Nat.mod_lt _ h0;have q5:PN<=14400:=by rw[<-gN];exact Nat.mul_le_mul (by omega:P1<=120) (by omega:n<=120)
      have e1:(I:Int)*(u:Int)=(SU:Nat):=by rw[<-gS];push_cast;rfl
      have e2:(I:Int)*(v:Int)=(SW:Nat):=by rw[<-gU];push_cast;rfl
      have e3:(SU:Int).tmod (n:Int)=(P1:Nat):=by rw[Int.tmod_eq_emod_of_nonneg (by omega),<-gA];rfl
      have e4:(SW:Int).tmod (n:Int)=(P2:Nat):=by rw[Int.tmod_eq_emod_of_nonneg (by omega),<-gF];rfl
      have e5:(P1:Int)*(n:Int)=(PN:Nat):=by rw[<-gN];push_cast;rfl
      have nC:PN+P2=Az n I a:=by unfold Az;rw[HU.1,HV.1,gS,gU,gA,gF,gN]
      obtain⟨IX,hX⟩:∃x,PN+P2=x:=⟨_,rfl⟩
      have e6:(PN:Int)+(P2:Int)=(IX:Nat):=by omega
      have qV:IX<O:=by rw[<-hX,nC,<-hR.1];exact Tr h0 I a
      have qJ:(IX:Int)<(O:Int):=by omega
      have pM:=Kh (show IX=Az n I a by rw[<-hX,nC]);have bA:=hP.1.keep mC;have d0:=bA.val (IX*2) (by omega);have d1:=bA.free (IX*2) (by omega);have d2:=bA.val (IX*2+1) (by omega);have d3:=bA.free (IX*2+1) (by omega);have pZ:(n:Int)≠0:=by omega
      have z1:((n:Int)==0)=false:=by simpa using pZ
      have z2:n≠0:=by omega
      have i0:(0:Int)<=(IX:Int):=by omega
      have v1:IntKind.i64.wrap (SU:Int)=(SU:Nat):=IntWalk.i64_in _ (by omega);have v2:IntKind.i64.wrap (SW:Int)=(SW:Nat):=IntWalk.i64_in _ (by omega);have v3:IntKind.i64.wrap (PN:Int)=(PN:Nat):=IntWalk.i64_in _ (by omega);have v5:IntKind.i64.wrap (P1:Int)=(P1:Nat):=IntWalk.i64_in _ (by omega);have v6:IntKind.i64.wrap (P2:Int)=(P2:Nat):=IntWalk.i64_in _ (by omega);have v4:IntKind.i64.wrap (IX:Int)=(IX:Nat):=IntWalk.i64_in _ (by omega);have nB:=eP.1.trans (Af J mC);have b0:=X.at_ 0 rfl;have b1:=X.at_ 1 rfl;have t3:=nB.cell (bY.1.at_ 3 rfl) (λe=>by injection e with e;exact hY e);have cD:wb.drew.cell? ⟨T,3,none⟩=some (.slice (some ⟨J,0,none⟩) O O)/\wb.drew.cell? ⟨gb,0,none⟩=some (.int .i64 (u:Int))/\wb.drew.cell? ⟨gb,1,none⟩=some (.int .i64 (v:Int)):=⟨t3,b0,b1⟩
      have pO:=Kh (show ∀(X:World) (i j:Nat) (v1 v2:Value),(X.cell? ⟨T,3,none⟩=some (.slice (some ⟨J,0,none⟩) O O)/\X.cell? ⟨gb,0,none⟩=some (.int .i64 (u:Int))/\X.cell? ⟨gb,1,none⟩=some (.int .i64 (v:Int)))->(((X.setCell ⟨J,i,none⟩ v1).setCell ⟨J,j,none⟩ v2).cell? ⟨T,3,none⟩=some (.slice (some ⟨J,0,none⟩) O O)/\((X.setCell ⟨J,i,none⟩ v1).setCell ⟨J,j,none⟩ v2).cell? ⟨gb,0,none⟩=some (.int .i64 (u:Int))/\((X.setCell ⟨J,i,none⟩ v1).setCell ⟨J,j,none⟩ v2).cell? ⟨gb,1,none⟩=some (.int .i64 (v:Int)))from λX i j v1 v2 h=>⟨by rw[World.cell?_setCell_far _ _ _ _ (by exact hY.symm),World.cell?_setCell_far _ _ _ _ (by exact hY.symm)];exact h.1,by rw[World.cell?_setCell_far _ _ _ _ (by exact Z.symm),World.cell?_setCell_far _ _ _ _ (by exact Z.symm)];exact h.2.1,by rw[World.cell?_setCell_far _ _ _ _ (by exact Z.symm),World.cell?_setCell_far _ _ _ _ (by exact Z.symm)];exact h.2.2⟩);have pI:=Kh bA;have pJ:=Kh nB;clear gS gU gA gF gN nC hX bA nB X hE mC b0 b1 t3 p0 p1 p2 oU;go_upto_region 17 with(fail)
      go_region_held3 (λw'=>w'.cell? ⟨T,3,none⟩=some (.slice (some ⟨J,0,none⟩) O O)/\w'.cell? ⟨gb,0,none⟩=some (.int .i64 (u:Int))/\w'.cell? ⟨gb,1,none⟩=some (.int .i64 (v:Int)))
       (first|with_reducible exact cD|exact pO.1 _ _ _ _ _ cD)
       (fail)
      all_goals go_wp2
      all_goals go_roundw
      all_goals first
       | exact⟨j+1,by omega,by go_num,by rw[Ft,pK.1,<-pM.1];exact(pI.1.place (p:=IX) (j,ch)).keep (Below.refl _ _).drew,(pJ.1.trans ((Ad wb J _ _).trans (Ad _ J _ _))).trans (Af J (Below.refl _ _).drew)⟩
       |(simp[intOf];omega)
     ·obtain rfl:L.length=j:=by omega
      go_wp2;go_roundw
      case rel=>exact⟨I+1,by omega,by omega,by go_num,by rw[Nat.add_sub_cancel,HP.1];exact hP.1,eP.1⟩
      case measure=>simp[intOf];omega
  ·obtain rfl:n+1=I:=by omega
   have qZ:¬((n:Int)+1<=(n:Int)):=by omega
   have hB:T≠J:=oF.1;have oZ:=V.1.size
   have pQ:=Kh (show WorldAt w3 T w3.heap.size n wt L (Bk n D L n)from
    ⟨by have:=pN.1;omega,V.1.cell (bY.1.at_ 0 rfl) (λe=>by injection e with e;exact hB e),V.1.cell (bY.1.at_ 1 rfl) (λe=>by injection e with e;exact hB e),
     ⟨pl,cl,V.1.cell (bY.1.at_ 2 rfl) (λe=>by injection e with e;exact hB e),(oJ.1.but V.1 (nR _)).up (nS hQ.1 oZ)⟩,
     J,by rw[hR.1];exact V.1.cell (bY.1.at_ 3 rfl) (λe=>by injection e with e;exact hB e),dY.1.stk.1,λi hi=>dY.1.val i (by rw[<-hR.1];exact hi)⟩)
   have pG:=Kh (show Below w.heap.size w w3 from Ae (hN.1.trans (pH.1.mono hS.1)) V.1 (nS hS.1 hQ.1) hS.1);clear oZ;go_wp2
   (first|go_ret2|go_ret)
   exact⟨⟨T,rfl,pQ.1⟩,pG.1⟩
theorem Pd (N k D:Int) (w:World) (U:Pl.check N k D≠0):
  Calls prog 91 #[.agg #[.int .i64 N,.int .i64 k,.int .i64 D]] w λe w'=>e=.returned (.tuple #[.pointer none,.int .i64 (Pl.check N k D)])/\Below w.heap.size w w':=by
 obtain⟨Z,J⟩:∃Z,Pl.check N k D=Z:=⟨_,rfl⟩
 have Y:=Kh J;rw[J]at U ⊢;clear J;go_enter func91,ntmps91
 go_wp2_with fail
 obtain⟨w0,V,X0,I⟩:=bx1 w #[.int .i64 N,.int .i64 k,.int .i64 D] 23;rw[V];refine(Ss N k D w0).mono ?_;rintro e w1 ⟨rfl,O⟩;have h:=Kh (I.trans (O.mono I.size));rw[Y.1];have bA:(Z != 0)=true:=by simpa using U
 clear V X0 I O;go_wp2
 (first|go_ret2|go_ret)
 exact⟨rfl,h.1⟩
theorem Iv (T B n wt:Nat) (L:List Nat) (f:Nat->Nat×Int) (x:Int) (w:World) (h:WorldAt w T B n wt L f) (O:0<n) (hn:n<=120):
  Calls prog 143 #[.pointer (some ⟨T,0,none⟩),.int .i64 x] w λe w'=>e=.returned (.int .i64 (x % (n:Int)))/\w'=w:=by
 have U:-(n:Int)<x.tmod n:=by have:=Int.lt_tmod_of_pos x (show(0:Int)<n by omega);omega
 have V:x.tmod n<n:=Int.tmod_lt_of_pos x (by omega);have I:=Kh (Dr x n (by omega));have c0:=h.c0;have J:(n:Int)≠0:=by omega
 clear h;go_enter func143,ntmps143
 go_wp2;all_goals (go_ret;refine⟨A5 ?_,rfl⟩;rw[<-I.1];first |(rw[if_pos (by omega)];done) |(rw[if_neg (by omega)];done))
theorem Ko (T B n wt:Nat) (L:List Nat) (f:Nat->Nat×Int) (w:World) (h:WorldAt w T B n wt L f) (U:wt<=22) (J:L.length<=14400):
  Calls prog 92 #[.pointer (some ⟨T,0,none⟩)] w λe w'=>e=.returned (.int .i64 (((wt+1)*L.length:Nat):Int))/\∃m,w'=w.drewN m:=by
 obtain⟨p,c,Y,_⟩:=h.c2;have c1:=h.c1;obtain⟨P,I⟩:∃P,(wt+1)*L.length=P:=⟨_,rfl⟩
 have O:P<=331200:=by rw[<-I];exact Nat.mul_le_mul (by omega:wt+1<=23) J
 have V:((wt:Int)+1)*(L.length:Int)=(P:Nat):=by rw[<-I];push_cast;rfl
 rw[I];clear h I;go_enter func92,ntmps92
 go_wp2_with fail
 go_quiet (fail)
 go_wp2;go_ret;exact⟨rfl,_,rfl⟩
theorem eY (T B n wt:Nat) (L:List Nat) (f:Nat->Nat×Int) (x y:Int) (w:World) (h:WorldAt w T B n wt L f) (hB:B<=w.heap.size) (h0:0<n) (hn:n<=120):
  Calls prog 144 #[.pointer (some ⟨T,0,none⟩),.int .i64 x,.int .i64 y] w λe w'=>e=.returned (.agg #[.int .i64 ((f ((x % n).toNat*n+(y % n).toNat)).1:Int),.int .i64 (f ((x % n).toNat*n+(y % n).toNat)).2])/\Below w.heap.size w w':=by
 obtain⟨U,Z⟩:∃m,n*n=m:=⟨_,rfl⟩
 have hS:U<=14400:=by rw[<-Z];exact Nat.mul_le_mul hn hn
 have hI:=Int.emod_nonneg x (show(n:Int)≠0 by omega);have hJ:=Int.emod_lt_of_pos x (show(0:Int)<n by omega);have hL:=Int.emod_nonneg y (show(n:Int)≠0 by omega);have hv1:=Int.emod_lt_of_pos y (show(0:Int)<n by omega);obtain⟨u,hu⟩:∃u:Nat,x % (n:Int)=u:=⟨(x % n).toNat,by omega⟩
 obtain⟨v,hv⟩:∃v:Nat,y % (n:Int)=v:=⟨(y % n).toNat,by omega⟩
 rw[hu,hv,Int.toNat_natCast,Int.toNat_natCast];rw[hu]at hI hJ;rw[hv]at hL hv1;obtain⟨UN,bA⟩:∃x,u*n=x:=⟨_,rfl⟩
 have e1:(u:Int)*(n:Int)=(UN:Nat):=by rw[<-bA];push_cast;rfl
 have gL:UN+v<U:=by
  rw[<-bA,<-Z]
  calc u*n+v<u*n+n:=by omega
   _=(u+1)*n:=by rw[Nat.add_mul,Nat.one_mul]
   _<=n*n:=Nat.mul_le_mul_right _ (by omega)
 rw[bA];obtain⟨I,cC⟩:∃x,UN+v=x:=⟨_,rfl⟩
 rw[cC]at gL ⊢;have e2:(UN:Int)+(v:Int)=(I:Nat):=by omega
 have V:=Kh (λw' (hb:Below w.heap.size w w')=>Iv T B n wt L f x w' (h.keep hB hb) h0 hn);have Y:=Kh (λw' (hb:Below w.heap.size w w')=>Iv T B n wt L f y w' (h.keep hB hb) h0 hn);rw[hu]at V;rw[hv]at Y;obtain⟨O,e3,hD,h3⟩:=h.c3;rw[Z]at e3 h3;have p0:=h3 (I*2) (by omega);have p1:=h3 (I*2+1) (by omega);have q0:plc f (I*2)=.int .i64 ((f I).1:Int):=by unfold plc;rw[if_pos (by omega),show I*2 / 2=I by omega]
 have q1:plc f (I*2+1)=.int .i64 (f I).2:=by unfold plc;rw[if_neg (by omega),show(I*2+1) / 2=I by omega]
 rw[q0]at p0;rw[q1]at p1;have t0:=h.c0;have t3:=e3;have gS:T<w.heap.size:=nT h.lt hB;have gU:O<w.heap.size:=nT hD hB;have i0:(0:Int)<=(I:Int):=by omega
 have i1:(I:Int)<(U:Int):=by omega
 have v1:IntKind.i64.wrap (UN:Int)=(UN:Nat):=IntWalk.i64_in _ (by omega);have v2:IntKind.i64.wrap (I:Int)=(I:Nat):=IntWalk.i64_in _ (by omega);clear hu hv bA cC h e3 h3 q0 q1 Z;go_enter func144,ntmps144
 go_upto_region 1 with(fail)
 obtain⟨w0,bC⟩:∃w0,w.alloc (.cells #[.int .i64 0,.int .i64 0] 215)=w0:=⟨_,rfl⟩
 have J:Below w.heap.size w w0:=bC▸(Below.refl _ _).alloc (nR _) _;have X:=bC▸Blk.new w 215 #[.int .i64 0,.int .i64 0];rw[bC];obtain⟨R,hR⟩:∃R,w.heap.size=R:=⟨_,rfl⟩
 have t0:=cell_next J t0;have t3:=cell_next J t3;have p0:=cell_next J p0;have p1:=cell_next J p1;have V:=Kh (λw' (hb:Below w0.heap.size w0 w')=>V.1 w' (J.trans (hb.mono J.size)));have Y:=Kh (λw' (hb:Below w0.heap.size w0 w')=>Y.1 w' (J.trans (hb.mono J.size)));have aX:R≠T:=by omega
 have bB:R≠O:=by omega
 have cA:=Kh J;have eP:=Kh hR;rw[hR]at X cA ⊢;have hG:=V.1 w0.drew (Below.refl _ w0).drew;have hH:=Y.1 w0.drew (Below.refl _ w0).drew;have cB:=Kh X;have r0:=X.at_ 0 rfl;have r1:=X.at_ 1 rfl;have f0:=X.free_ 0;have f1:=X.free_ 1;clear bC J gS gU hR X;have cD:w0.drew.cell? ⟨T,0,none⟩=some (.int .i64 (n:Int))/\w0.drew.cell? ⟨T,3,none⟩=some (.slice (some ⟨O,0,none⟩) U U)/\w0.drew.cell? ⟨O,I*2,none⟩=some (.int .i64 ((f I).1:Int))/\w0.drew.cell? ⟨O,I*2+1,none⟩=some (.int .i64 (f I).2):=⟨t0,t3,p0,p1⟩
 have gA:=Kh (show ∀(X:World) (v1 v2:Value),(X.cell? ⟨T,0,none⟩=some (.int .i64 (n:Int))/\X.cell? ⟨T,3,none⟩=some (.slice (some ⟨O,0,none⟩) U U)/\X.cell? ⟨O,I*2,none⟩=some (.int .i64 ((f I).1:Int))/\X.cell? ⟨O,I*2+1,none⟩=some (.int .i64 (f I).2))->(((X.setCell ⟨R,0,none⟩ v1).setCell ⟨R,1,none⟩ v2).cell? ⟨T,0,none⟩=some (.int .i64 (n:Int))/\((X.setCell ⟨R,0,none⟩ v1).setCell ⟨R,1,none⟩ v2).cell? ⟨T,3,none⟩=some (.slice (some ⟨O,0,none⟩) U U)/\((X.setCell ⟨R,0,none⟩ v1).setCell ⟨R,1,none⟩ v2).cell? ⟨O,I*2,none⟩=some (.int .i64 ((f I).1:Int))/\((X.setCell ⟨R,0,none⟩ v1).setCell ⟨R,1,none⟩ v2).cell? ⟨O,I*2+1,none⟩=some (.int .i64 (f I).2))from λX v1 v2 h=>⟨by rw[World.cell?_setCell_far _ _ _ _ (by exact aX),World.cell?_setCell_far _ _ _ _ (by exact aX)];exact h.1,by rw[World.cell?_setCell_far _ _ _ _ (by exact aX),World.cell?_setCell_far _ _ _ _ (by exact aX)];exact h.2.1,by rw[World.cell?_setCell_far _ _ _ _ (by exact bB),World.cell?_setCell_far _ _ _ _ (by exact bB)];exact h.2.2.1,by rw[World.cell?_setCell_far _ _ _ _ (by exact bB),World.cell?_setCell_far _ _ _ _ (by exact bB)];exact h.2.2.2⟩);clear t0 t3 p0 p1
 go_region_held3 (λw1=>w1.cell? ⟨T,0,none⟩=some (.int .i64 (n:Int))/\w1.cell? ⟨T,3,none⟩=some (.slice (some ⟨O,0,none⟩) U U)/\w1.cell? ⟨O,I*2,none⟩=some (.int .i64 ((f I).1:Int))/\w1.cell? ⟨O,I*2+1,none⟩=some (.int .i64 (f I).2))
  (first|with_reducible exact cD|exact gA.1 _ _ _ cD)
  (first
   |(go_at_call 143;with_reducible refine hG.mono ?_;rintro e w2 ⟨rfl,rfl⟩)
   |(go_at_call 143;with_reducible refine hH.mono ?_;rintro e w2 ⟨rfl,rfl⟩))
 all_goals go_wp2
 have hE:=(((cB.1.set_ 0 (.int .i64 ((f I).1:Int))).set_ 1 (.int .i64 (f I).2)).below_ (Below.refl _ _).drew (by have:=cB.1.lt;simpa using this))
 have e0:=hE.at_ 0 rfl;have e1:=hE.at_ 1 rfl;try simp only[Exit.inBlock,Exit.then]
 refine bodyPost_ret (by simp[results,results144,go_sem,e0,e1];try rfl) rfl ?_;exact⟨rfl,eP.1▸((cA.1.setCell (p:=⟨R,0,none⟩) (nR _) _).setCell (p:=⟨R,1,none⟩) (nR _) _).drew⟩
end Go.Proofs.YtenlbhlllgppmaaGreatDoor
