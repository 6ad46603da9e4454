/- Points, flags and places in memory, for projline.List and manin.enter. -/
import Derived.Test.YtenlbhlllgppmaaGreatDoorA20
set_option maxRecDepth 100000
set_option maxHeartbeats 8000000
namespace Go.Proofs.YtenlbhlllgppmaaGreatDoor
open Go.RowKit Tryz
/-! The units -/
def uns (n:Nat):Nat->List Nat
 | 0=>[]
 | m+1=>if pun n (m+1)then uns n m++[m+1]else uns n m
theorem Hn (n m:Nat):uns n (m+1)=if pun n (m+1)then uns n m++[m+1]else uns n m:=rfl
theorem Td {n m s:Nat}:s∈uns n m↔1<=s/\s<=m/\pun n s=true:=by
 induction m with
 | zero=>constructor
         ·intro h;simp[uns]at h
         ·rintro⟨I,M,_⟩;omega
 | succ m ih=>
  rw[Hn];split
  ·rename_i hu
   rw[List.mem_append,ih,List.mem_singleton];constructor
   ·rintro(⟨I,M,J⟩|rfl)
    ·exact⟨I,by omega,J⟩
    ·exact⟨by omega,mG _,hu⟩
   ·rintro⟨I,M,J⟩
    rcases Nat.lt_or_ge s (m+1)with h|h
    ·exact .inl ⟨I,by omega,J⟩
    ·exact .inr (by omega)
  ·rename_i hu
   rw[ih];constructor
   ·rintro⟨I,M,J⟩;exact⟨I,by omega,J⟩
   ·rintro⟨I,M,J⟩
    refine⟨I,?_,J⟩;rcases Nat.lt_or_ge s (m+1)with h|h
    ·omega
    ·have:s=m+1:=by omega
     subst this;exact absurd J hu
theorem Ky (n m:Nat):(uns n m).length<=m:=by
 induction m with
 | zero=>exact mG _
 | succ m ih=>
  rw[Hn];split
  ·rw[List.length_append];simp;exact ih
  ·omega
def Wl (n:Nat) (l:List Nat) (a t i:Nat):Bool:=Cm n l i||((uns n n).take t).any λs=>Az n s a==i
theorem Wn (n:Nat) (l:List Nat) (a i:Nat):Wl n l a 0 i=Cm n l i:=by simp[Wl]
theorem Wm {n:Nat} {l:List Nat} {a t s:Nat} (h:(uns n n)[t]?=some s) (i:Nat):Wl n l a (t+1) i=if i=Az n s a then true else Wl n l a t i:=by
 unfold Wl;rw[List.take_add_one,h,Option.toList_some,List.any_append];simp only[List.any_cons,List.any_nil,Bool.or_false];by_cases e:i=Az n s a
 ·rw[if_pos e,e];simp
 ·rw[if_neg e]
  have:(Az n s a==i)=false:=by simpa using λh=>e h.symm
  rw[this,Bool.or_false]
theorem aH {n:Nat} {l:List Nat} {a:Nat} (i:Nat):Wl n l a (uns n n).length i=Cm n (l++[a]) i:=by
 unfold Wl;rw[List.take_length];unfold Cm;rw[List.any_append];congr 1;simp only[List.any_cons,List.any_nil,Bool.or_false];rw[Bool.eq_iff_iff];simp only[List.any_eq_true,List.mem_range,Bool.and_eq_true,Td];constructor
 ·rintro⟨s,⟨J,M,I⟩,e⟩
  exact⟨s - 1,by omega,by rw[show s - 1+1=s by omega];exact⟨I,e⟩⟩
 ·rintro⟨j,O,I,e⟩
  exact⟨j+1,⟨by omega,by omega,I⟩,e⟩
/-! A row of cells of one kind,written in place: cell i holds f i -/
structure CRow (f:Nat->Value) (w:World) (g m:Nat):Prop where
 stk:Stk NotU32 w g
 free:∀i,i<m->w.frozen? ⟨g,i,none⟩=false
 val:∀i,i<m->w.cell? ⟨g,i,none⟩=some (f i)
theorem CRow.keep {f:Nat->Value} {w w':World} {g m:Nat} (h:CRow f w g m) (J:Below w.heap.size w w'):CRow f w' g m:=
 ⟨h.stk.next J,λi I=>Ac J (by rw[h.val i I];rfl) (h.free i I),λi I=>(J.cell (p:=⟨g,i,none⟩) h.stk.1).trans (h.val i I)⟩
theorem CRow.grown {f:Nat->Value} {w w':World} {g m:Nat} {o:Option Nat} (h:CRow f w g m) (hg:w.grownBy w' o) (M:∀b,o=some b->g≠b):CRow f w' g m:=by
 have I:w'.heap[g]?=w.heap[g]?:=hg.block g h.stk.1 (λe=>M _ e.symm rfl);refine⟨⟨mI h.stk.1 hg.size,λi v O=>h.stk.2 i v ((World.cell?_of_block (a:=⟨g,i,none⟩) I).symm.trans O)⟩,λi J=>(World.frozen?_of_block (a:=⟨g,i,none⟩) I).trans (h.free i J),λi J=>(World.cell?_of_block (a:=⟨g,i,none⟩) I).trans (h.val i J)⟩
theorem CRow.set {f:Nat->Value} {w:World} {g m:Nat} (h:CRow f w g m) (k:Nat) (u:Value) (O:NotU32 u) (J:Nat->Value) (M:∀i,i<m->J i=if i=k then u else f i):CRow J (w.setCell ⟨g,k,none⟩ u) g m:=by
 refine⟨Bc h.stk _ _ O,λi I=>At (h.free i I),λi I=>?_⟩;rw[M i I];by_cases e:i=k
 ·subst e
  rw[if_pos rfl];exact World.cell?_setCell_same' _ _ _ (by rw[h.val i I];rfl)
 ·rw[if_neg e,World.cell?_setCell_other _ _ _ _ (by simp <;> omega)]
  exact h.val i I
theorem CRow.congr {f I:Nat->Value} {w:World} {g m:Nat} (h:CRow f w g m) (e:∀i,i<m->I i=f i):CRow I w g m:=⟨h.stk,h.free,λi J=>by rw[e i J];exact h.val i J⟩
theorem CRow.i32 {f:Nat->Value} {w:World} {g m k:Nat} (h:CRow f w g m) (u:Value):I32 w (w.setCell ⟨g,k,none⟩ u):=I32.putU h.stk k u
theorem Vj:(prog.info? 4).map (λi=>(i.zero,i.size,i.bytes))=some (some (.bool false),1,1):=by kernel_rfl
theorem iC (n:Nat) (h:n<=1000000) (w:World):
  (Instr.makeSlice 240 (.int .i64 (n:Int)) (.int .i64 (n:Int))).run prog w=.ok (.slice (some ⟨w.heap.size,0,none⟩) n n) (w.alloc (.cells (madeCells #[.bool false] n) 4)):=by
 obtain⟨i,O,I,J,M⟩:=info_parts Vj;have hr:=run_make (P:=prog) w 240 4 i _ underlying240 O I .i64 .i64 n n (by omega) (Int.le_refl _) (by rw[M];omega) (by omega);rw[Int.toNat_natCast,J,Nat.mul_one]at hr;exact hr
theorem cR {z:Value} {n i:Nat} {v:Value} (h:(madeCells #[z] n)[i]?=some v):v=z:=by
 unfold madeCells at h;simp only[Array.getElem?_map,Array.getElem?_range]at h;split at h
 ·simp only[Option.map_some]at h
  injection h with h
  rw[<-h];have I:i % 1=0:=Nat.mod_one i;show(#[z]:Array Value)[i % 1]! = _;rw[I];rfl
 ·cases h
theorem CRow.made {z:Value} (O:NotU32 z) (w:World) (n:Nat) (t:TypeId):CRow (λ_=>z) (w.alloc (.cells (madeCells #[z] n) t)) w.heap.size n:=by
 have J:=Blk.new w t (madeCells #[z] n);refine⟨Stk.of J ?_,λi _=>J.free_ i,λi I=>?_⟩
 ·intro v M
  obtain⟨i,I⟩:=Array.getElem?_of_mem (Array.mem_toList_iff.1 M);rw[cR I];exact O
 ·rw[J.cell_ i,Array.getElem?_eq_getElem (by rw[size_madeCells];exact I)]
  congr 1;exact cR (Array.getElem?_eq_getElem (by rw[size_madeCells];exact I))
/-! Points -/
def N3 (n a:Nat):List Value:=[.int .i64 ((a / n:Nat):Int),.int .i64 ((a % n:Nat):Int),.int .i64 1]
def OwnPt (n:Nat) (l:List Nat) (w:World) (B:Nat) (v:Value):Prop:=OwnK NotU32 w B 213 3 v l.length (l.flatMap (N3 n))
theorem OwnPt.nil (n:Nat) (w:World) (B:Nat):OwnPt n [] w B (.slice none 0 0):=OwnK.nil _ _ _ _ _
theorem OwnPt.keep {n:Nat} {l:List Nat} {w w':World} {B:Nat} {v:Value} (h:OwnPt n l w B v) (I:Below w.heap.size w w'):OwnPt n l w' B v:=OwnK.keep h I
theorem OwnPt.push {n:Nat} {l:List Nat} {w':World} {B:Nat} {I:Value} {a:Nat} (h:OwnK NotU32 w' B 213 3 I (l.length+1) (l.flatMap (N3 n)++N3 n a)):OwnPt n (l++[a]) w' B I:=by
 unfold OwnPt;rw[List.flatMap_append,List.length_append]
 simpa using h
theorem OwnK.other {K:Value->Prop} {w:World} {B E I n:Nat} {v:Value} {J:List Value} (h:OwnK K w B E I v n J) {a:Addr} (M:a.block<B) {u:Value} (O:K u):OwnK K (w.setCell a u) B E I v n J:=
 ⟨ownsRow_setCell_below h.1 M u,λg hg=>Bc (h.2 g hg) _ _ O⟩
theorem Ya:(prog.info? 213).map (λi=>(i.zero,i.size,i.bytes))=some (some (.agg #[.int .i64 0,.int .i64 0,.int .i64 0]),3,24):=by kernel_rfl
def PtL (n:Nat) (l:List Nat) (w:World) (B:Nat) (v:Value):Prop:=(l=[]/\∃a c,v=.slice a 0 c)∨∃g cap,v=.slice (some ⟨g,0,none⟩) l.length cap/\g<B/\∀(j a:Nat),l[j]?=some a->w.cell? ⟨g,j*3,none⟩=some (.int .i64 ((a / n:Nat):Int))/\w.cell? ⟨g,j*3+1,none⟩=some (.int .i64 ((a % n:Nat):Int))/\w.cell? ⟨g,j*3+2,none⟩=some (.int .i64 1)
theorem Ea {n:Nat}:∀{l:List Nat} {j a i:Nat},l[j]?=some a->i<3->(l.flatMap (N3 n))[j*3+i]?=(N3 n a)[i]?
 | [],j,a,i,h,_=>by simp at h
 | x :: l,0,a,i,h,hi=>by
  simp at h;subst h;rw[List.flatMap_cons,List.getElem?_append_left (by simp[N3];omega),Nat.zero_mul,Nat.zero_add]
 | x :: l,j+1,a,i,h,hi=>by
  rw[List.getElem?_cons_succ]at h;rw[List.flatMap_cons,List.getElem?_append_right (by simp[N3];omega)];have e:(j+1)*3+i - (N3 n x).length=j*3+i:=by simp[N3];omega
  rw[e];exact Ea h hi
theorem OwnPt.ptl {n:Nat} {l:List Nat} {w:World} {B:Nat} {v:Value} (h:OwnPt n l w B v):PtL n l w w.heap.size v:=by
 rcases h.1.2 with⟨I,O⟩ |⟨g,cap,cs,I,hB,hg,hn,U,V,_⟩
 ·exact .inl ⟨List.eq_nil_of_length_eq_zero O,_,_,I⟩
 ·have Y:=h.2 g (by rw[I];rfl)
  have J:=h.1;subst I;refine .inr ⟨g,cap,rfl,Y.1,λj a M=>⟨?_,?_,?_⟩⟩
  ·exact Aq J ((Ea (i:=0) M (by omega)).trans rfl)
  ·exact Aq J ((Ea (i:=1) M (by omega)).trans rfl)
  ·exact Aq J ((Ea (i:=2) M (by omega)).trans rfl)
theorem PtL.next {n:Nat} {l:List Nat} {w w':World} {B:Nat} {v:Value} (h:PtL n l w B v) (I:Below B w w'):PtL n l w' B v:=by
 rcases h with h |⟨g,cap,e,hg,V⟩
 ·exact .inl h
 ·exact .inr ⟨g,cap,e,hg,λj a U=>by
   obtain⟨J,M,O⟩:=V j a U;exact⟨(I.cell (p:=⟨g,_,none⟩) hg).trans J,(I.cell (p:=⟨g,_,none⟩) hg).trans M,(I.cell (p:=⟨g,_,none⟩) hg).trans O⟩⟩
theorem PtL.up {n:Nat} {l:List Nat} {w:World} {B B':Nat} {v:Value} (h:PtL n l w B v) (hB:B<=B'):PtL n l w B' v:=by
 rcases h with h |⟨g,cap,e,hg,I⟩
 ·exact .inl h
 ·exact .inr ⟨g,cap,e,mI hg hB,I⟩
theorem R4 (n:Int) (w:World) (I:0<n) (hn:n<=120):Calls prog 186 #[.int .i64 n] w λe w'=>e=.returned (.int .i64 0)/\w'=w:=by
 go_enter func186,ntmps186
 go_wp2;go_ret;exact⟨rfl,rfl⟩
theorem Mv (n:Nat) (w:World) (h0:0<n) (hn:n<=120):
  Calls prog 142 #[.int .i64 n] w λe w'=>(∃v,e=.returned (.tuple #[v,.int .i64 0])/\OwnPt n (pts n (n*n)) w' w.heap.size v)/\Below w.heap.size w w':=by
 obtain⟨U,bA⟩:∃m,n*n=m:=⟨_,rfl⟩
 have oA:U<=14400:=by rw[<-bA];exact Nat.mul_le_mul hn hn
 have oD:(n:Int)*(n:Int)=(U:Nat):=by rw[<-bA];push_cast;rfl
 have nI:=iC U (by omega);have hY:=Kh bA;rw[bA];clear bA;go_enter func142,ntmps142
 go_wp2_with fail
 refine(R4 n w (by omega) (by omega)).mono ?_;rintro e w1 ⟨rfl,rfl⟩;go_wp2_with fail
 go_loopw [5,6] (λv s wr=>∃m:Nat,m<=n/\s=.int .i64 ((m:Int)+1)/\OwnN (uns n m) wr w1.heap.size v/\Below w1.heap.size w1 wr) (λ_ s _=>n+1 - (intOf s).toNat)
 case atStart=>exact⟨0,Nat.zero_le _,rfl,OwnN.nil _ _,Below.refl _ _⟩
 case round=>
  obtain⟨m,hm,rfl,dY,hb⟩:=hrel;obtain⟨w2,rfl⟩:∃w2:World,w2=wr:=⟨_,rfl⟩
  have aD:=Kh dY;have HB:=Kh hb;clear dY hb;by_cases hlt:m<n
  ·have oC:(m:Int)+1<=(n:Int):=by omega
   go_wp2_with fail
   refine(E7 ((m:Int)+1) n w2 (by omega) (by omega) (by omega) (by omega)).mono ?_;rintro e w3 ⟨rfl,k,rfl⟩
   have mL:Int.gcd ((m:Int)+1) (n:Int)=Nat.gcd (m+1) n:=by
    have:((m:Int)+1)=((m+1:Nat):Int):=by push_cast;rfl
    rw[this];rfl
   rw[mL];have cA:=Kh (Aa HB.1 k);have hZ:=Kh (aD.1.keep (Aa (Below.refl _ w2) k));clear mL;by_cases I:pun n (m+1)=true
   ·have hu2:(((Nat.gcd (m+1) n:Nat):Int)==1)=true:=by unfold pun at I;simp only[beq_iff_eq]at I;rw[I];rfl
    have HU:=Kh I;have aN:=Kh (Ky n m);have hX:=Kh (show OwnK NotU32 (w2.drewN k) w1.heap.size 3 1 u5 (uns n m).length ((uns n m).map λn:Nat=>Value.int .i64 (n:Int))from hZ.1);clear I;go_wp2_with (at_builtin;refine Bj NotU32 rfl (.tmp 28) (.tmp 30) _ 3 rfl underlying93 Ep rfl (by decide) w1.heap.size (uns n m).length u5 ((uns n m).map λn:Nat=>Value.int .i64 (n:Int)) [.int .i64 ((m:Int)+1)] rfl hX.1 rfl rfl (by intro u I;simp at I;subst I;rfl) (by have:=aN.1;omega) (by have:=aN.1;omega) cA.1.size (by intro u I;simp at I;subst I;exact λ_ h=>by cases h) (by intro u I;simp[Value.cells]at I;subst I;exact λ_ h=>by cases h) ?_;intro v9 w9 J O bB;have cD:=Kh (show OwnN (uns n m++[m+1]) w9 w1.heap.size v9 from OwnN.push (by rw[show(((m+1:Nat):Int))=(m:Int)+1 by push_cast;rfl];exact J));have bY:=Kh (cA.1.trans (Aw (Below.refl _ _) hX.1.1 O (mG _) cA.1.size));clear J O bB)
    go_roundw
    case rel=>exact⟨m+1,by omega,by go_num,by rw[Hn,if_pos HU.1];exact cD.1,bY.1⟩
    case measure=>simp[intOf];omega
   ·have hu2:(((Nat.gcd (m+1) n:Nat):Int)==1)=false:=by
     unfold pun at I;simp only[beq_iff_eq]at I;simp;omega
    have HU:=Kh I;clear I;go_wp2;go_roundw
    case rel=>exact⟨m+1,by omega,by go_num,by rw[Hn,if_neg HU.1];exact hZ.1,cA.1⟩
    case measure=>simp[intOf];omega
  ·obtain rfl:n=m:=by omega
   go_wp2_with fail
   obtain⟨M,nG⟩:∃g,w2.heap.size=g:=⟨_,rfl⟩
   have V:=CRow.made (z:=.bool false) (λ_ h=>by cases h) w2 U 4;obtain⟨wS,hO⟩:∃wS,w2.alloc (.cells (madeCells #[.bool false] U) 4)=wS:=⟨_,rfl⟩
   have hJ:Below w2.heap.size w2 wS:=hO▸(Below.refl _ _).alloc (mG _) _;rw[hO]at V ⊢;obtain⟨pu,cu,nL⟩:=Bf (show OwnK NotU32 w2 w1.heap.size 3 1 u5 (uns n n).length _ from aD.1).1;subst nL;have hL:=OwnN.nl aD.1;have gP:=Kh HB.1.size;rw[nG]at V hJ hL gP ⊢;have mZ:=Kh hL;have hU:=Kh hJ;have hW:=Kh (show CRow (λi=>.bool (Cm n (pts n 0) i)) wS M U from V.congr (λi _=>rfl));have nX:=Kh (Ky n n);clear V hJ hL hO aD nI;go_loopw [7,38] (λv ii wr=>∃k:Nat,k<=U/\ii=.int .i64 k/\OwnPt n (pts n k) wr (M+1) v/\CRow (λi=>.bool (Cm n (pts n k) i)) wr M U/\Below M wS wr) (λ_ ii _=>U - (intOf ii).toNat)
   case atStart=>exact⟨0,Nat.zero_le _,rfl,OwnPt.nil _ _ _,hW.1,Below.refl _ _⟩
   case round=>
    obtain⟨k,hk,rfl,mM,V,mC⟩:=hrel;obtain⟨w3,rfl⟩:∃w3:World,w3=wr:=⟨_,rfl⟩
    have gY:=Kh mM;have gX:=Kh V;have gA:=Kh mC;clear mM mC hW;by_cases hkN:k<U
    ·have oB:(k:Int)<(U:Int):=by omega
     have hq:(k:Int).tdiv (n:Int)=((k / n:Nat):Int):=by rw[Int.tdiv_eq_ediv_of_nonneg (by omega)];rfl
     have hr:(k:Int).tmod (n:Int)=((k % n:Nat):Int):=by rw[Int.tmod_eq_emod_of_nonneg (by omega)];rfl
     have nE:k / n<n:=Nat.div_lt_of_lt_mul (by rw[hY.1];exact hkN);have nF:k % n<n:=Nat.mod_lt _ h0;obtain⟨u,I⟩:∃u,k / n=u:=⟨_,rfl⟩
     obtain⟨v,hv⟩:∃v,k % n=v:=⟨_,rfl⟩
     rw[I]at hq nE;rw[hv]at hr nF;have HU:=Kh I;have HV:=Kh hv;have nJ:(n:Int)≠0:=by omega
     have s0:=V.val k hkN;clear I hv V;go_wp2_with fail
     go_quiet (fail)
     generalize hw4:w3.drewN nq=w4;have bC:Below w3.heap.size w3 w4:=hw4▸Aa (Below.refl _ _) nq;have s4:=cell_next bC s0;have gF:=Kh (gA.1.trans (bC.mono (Nat.le_of_lt gX.1.stk.1)));have aX:=Kh (gY.1.keep bC);have cB:=Kh (gX.1.keep bC);clear hw4 bC s0 gY gX gA hq hr;cases hs:Cm n (pts n k) k with
     | true=>
      rw[hs]at s4;have HP:=Kh (show pts n (k+1)=pts n k by rw[Cn,hs];simp);clear hs;go_wp2;go_roundw
      case rel=>exact⟨k+1,by omega,by go_num,by rw[HP.1];exact aX.1,by rw[HP.1];exact cB.1,gF.1⟩
      case measure=>simp[intOf];omega
     | false=>
      rw[hs]at s4;have HS:=Kh hs;clear hs;go_wp2_with fail
      refine(E7 u v w4 (by omega) (by omega) (by omega) (by omega)).mono ?_;rintro e w5 ⟨rfl,m1,rfl⟩;have mD:Int.gcd (u:Int) (v:Int)=Nat.gcd u v:=rfl;rw[mD]
      have nH:Nat.gcd u v<=n+n:=by
       rcases Nat.eq_zero_or_pos u with h|h
       ·subst h;rw[Nat.gcd_zero_left];omega
       ·have:=Nat.gcd_le_left v h;omega
      go_wp2_with fail
      refine(E7 ((Nat.gcd u v:Nat):Int) n _ (by omega) (by omega) (by omega) (by omega)).mono ?_;rintro e w6 ⟨rfl,m2,rfl⟩;have mE:Int.gcd ((Nat.gcd u v:Nat):Int) (n:Int)=Nat.gcd (Nat.gcd u v) n:=rfl;rw[mE];generalize hw5:(w4.drewN m1).drewN m2=w5;have cY:Below w4.heap.size w4 w5:=hw5▸Aa (Aa (Below.refl _ _) m1) m2;have gL:=Kh (gF.1.trans (cY.mono (Nat.le_of_lt cB.1.stk.1)));have Y:=Kh (aX.1.keep cY);have aK:=Kh (cB.1.keep cY);have iL:=Kh (show E4 n k=(Nat.gcd (Nat.gcd u v) n==1)by unfold E4;rw[HU.1,HV.1]);clear hw5 cY s4 aX cB gF mD mE nH;cases ho:(Nat.gcd (Nat.gcd u v) n==1)with
      | false=>
       have nK:(((Nat.gcd (Nat.gcd u v) n:Nat):Int) != 1)=true:=by
        simp only[beq_eq_false_iff_ne]at ho;simp;omega
       have HP:=Kh (show pts n (k+1)=pts n k by rw[Cn,iL.1,ho];simp);clear ho;go_wp2;go_roundw
       case rel=>exact⟨k+1,by omega,by go_num,by rw[HP.1];exact Y.1,by rw[HP.1];exact aK.1,gL.1⟩
       case measure=>simp[intOf];omega
      | true=>
       have nK:(((Nat.gcd (Nat.gcd u v) n:Nat):Int) != 1)=false:=by
        simp only[beq_iff_eq]at ho;rw[ho];rfl
       have HP:=Kh (show pts n (k+1)=pts n k++[k]by rw[Cn,iL.1,ho,HS.1];rfl)
       have aN:=Kh (show(pts n k).length<=14400 by
        have h1:(pts n k).length<=k:=B6 n k;omega)
       clear ho;go_wp2_with (at_builtin;refine Bj NotU32 rfl (.tmp 59) (.tmp 63) _ 213 rfl underlying159 Ya rfl (by decide) (M+1) (pts n k).length u7 ((pts n k).flatMap (N3 n)) [.int .i64 (u:Int),.int .i64 (v:Int),.int .i64 1] rfl Y.1 rfl rfl (by intro u I;simp at I;rcases I with rfl|rfl|rfl <;> rfl) (by have:=aN.1;omega) (by have:=aN.1;omega) aK.1.stk.1 (by intro u I;simp at I;rcases I with rfl|rfl|rfl <;> exact λ_ h=>by cases h) (by intro u I;simp[Value.cells]at I;rcases I with rfl|rfl|rfl <;> exact λ_ h=>by cases h) ?_;intro v9 w9 J O bB;have cD:=Kh (show OwnPt n (pts n k++[k]) w9 (M+1) v9 from OwnPt.push (by rw[show N3 n k=[.int .i64 (u:Int),.int .i64 (v:Int),.int .i64 1]by unfold N3;rw[HU.1,HV.1]];exact J));have bY:=Kh (gL.1.trans ((Aw (Below.refl _ _) Y.1.1 O (mG _) aK.1.stk.1).mono (Nat.le_succ M)));have hV:=Kh (show CRow (λi=>.bool (Wl n (pts n k) k 0 i)) w9 M U from(aK.1.grown O (λb hb=>by have:=Ch Y.1.1 hb.symm;omega)).congr (λi _=>by rw[Wn]));clear J O bB)
       clear Y aK gL;go_loopw [67] (λii w6=>∃t:Nat,t<=(uns n n).length/\ii=.int .i64 t/\CRow (λi=>.bool (Wl n (pts n k) k t i)) w6 M U/\OwnPt n (pts n k++[k]) w6 (M+1) v9/\Below M wS w6) (λii _=>(uns n n).length - (intOf ii).toNat)
       case atStart=>exact⟨0,Nat.zero_le _,rfl,hV.1,cD.1,bY.1⟩
       case round=>
        obtain⟨t,ht,rfl,dX,eP,mB⟩:=hrel;obtain⟨w6,rfl⟩:∃w6:World,w6=wr:=⟨_,rfl⟩
        have cC:=Kh dX;have dE:=Kh eP;have gN:=Kh mB;clear dX eP mB hV cD bY;by_cases htl:t<(uns n n).length
        ·have oG:(t:Int)<((uns n n).length:Int):=by omega
         obtain⟨s,hs⟩:∃s,(uns n n)[t]?=some s:=⟨_,List.getElem?_eq_getElem htl⟩
         have hN:=Td.1 (List.mem_of_getElem? hs);have oE:=hN.1;have oF:=hN.2.1;have nB:=Kh hs;rcases mZ.1.next (hU.1.trans gN.1)with⟨nD,_⟩ |⟨gU,nO,e,_,_,_,hx⟩
         ·rw[nD]at htl;simp at htl
         cases e;have c0:=hx t s hs;obtain⟨SU,cV⟩:∃x,s*u=x:=⟨_,rfl⟩
         obtain⟨SW,cX⟩:∃x,s*v=x:=⟨_,rfl⟩
         obtain⟨P1,cF⟩:∃x,SU % n=x:=⟨_,rfl⟩
         obtain⟨P2,cG⟩:∃x,SW % n=x:=⟨_,rfl⟩
         obtain⟨PN,cT⟩:∃x,P1*n=x:=⟨_,rfl⟩
         have b1:SU<=14400:=by rw[<-cV];exact Nat.mul_le_mul (by omega:s<=120) (by omega:u<=120)
         have b2:SW<=14400:=by rw[<-cX];exact Nat.mul_le_mul (by omega:s<=120) (by omega:v<=120)
         have b3:P1<n:=cF▸Nat.mod_lt _ h0;have b4:P2<n:=cG▸Nat.mod_lt _ h0;have b5:PN<=14400:=by rw[<-cT];exact Nat.mul_le_mul (by omega:P1<=120) (by omega:n<=120)
         have e1:(s:Int)*(u:Int)=(SU:Nat):=by rw[<-cV];push_cast;rfl
         have e2:(s:Int)*(v:Int)=(SW:Nat):=by rw[<-cX];push_cast;rfl
         have e3:(SU:Int).tmod (n:Int)=(P1:Nat):=by rw[Int.tmod_eq_emod_of_nonneg (by omega),<-cF];rfl
         have e4:(SW:Int).tmod (n:Int)=(P2:Nat):=by rw[Int.tmod_eq_emod_of_nonneg (by omega),<-cG];rfl
         have e5:(P1:Int)*(n:Int)=(PN:Nat):=by rw[<-cT];push_cast;rfl
         have hM:PN+P2=Az n s k:=by unfold Az;rw[HU.1,HV.1,cV,cX,cF,cG,cT]
         obtain⟨Z,hI⟩:∃x,PN+P2=x:=⟨_,rfl⟩
         have e6:(PN:Int)+(P2:Int)=(Z:Nat):=by omega
         have mA:Z<U:=by rw[<-hI,hM,<-hY.1];exact Su h0 s k
         have nQ:(Z:Int)<(U:Int):=by omega
         have mY:=Kh (show Z=Az n s k by rw[<-hI,hM]);have d0:=cC.1.val Z mA;have d1:=cC.1.free Z mA;have i0:(0:Int)<=(Z:Int):=by omega
         have v1:IntKind.i64.wrap (SU:Int)=(SU:Nat):=IntWalk.i64_in _ (by omega);have v2:IntKind.i64.wrap (SW:Int)=(SW:Nat):=IntWalk.i64_in _ (by omega);have v3:IntKind.i64.wrap (PN:Int)=(PN:Nat):=IntWalk.i64_in _ (by omega);have v5:IntKind.i64.wrap (P1:Int)=(P1:Nat):=IntWalk.i64_in _ (by omega);have v6:IntKind.i64.wrap (P2:Int)=(P2:Nat):=IntWalk.i64_in _ (by omega);have z1:((n:Int)==0)=false:=by simpa using nJ
         have z2:n≠0:=by omega
         have v4:IntKind.i64.wrap (Z:Int)=(Z:Nat):=IntWalk.i64_in _ (by omega);have mV:=Kh (show CRow (λi=>.bool (Wl n (pts n k) k (t+1) i)) (w6.setCell ⟨M,Z,none⟩ (.bool true)).drew M U from(cC.1.set Z (.bool true) (λ_ h=>by cases h) (λi=>.bool (Wl n (pts n k) k (t+1) i)) (λi _=>by rw[Wm nB.1 i,<-mY.1];split <;> rfl)).keep (Below.refl _ _).drew);have nA:=Kh (show OwnPt n (pts n k++[k]) (w6.setCell ⟨M,Z,none⟩ (.bool true)).drew (M+1) v9 from OwnPt.keep (OwnK.other dE.1 (a:=⟨M,Z,none⟩) (mJ M) (λ_ h=>by cases h)) (Below.refl _ _).drew);have mT:=Kh (show Below M wS (w6.setCell ⟨M,Z,none⟩ (.bool true)).drew from(gN.1.setCell (p:=⟨M,Z,none⟩) (mG _) _).drew);clear cV cX cF cG cT hM hI hs hN hx;go_upto_region 21 with(fail)
         go_region_held3 (λ_=>True) (trivial) (fail)
         all_goals go_wp2
         all_goals go_roundw
         all_goals first
          | exact⟨t+1,by omega,by go_num,mV.1,nA.1,mT.1⟩
          |(simp[intOf];omega)
        ·obtain rfl:(uns n n).length=t:=by omega
         have mU:=Kh (show CRow (λi=>.bool (Cm n (pts n k++[k]) i)) w6 M U from cC.1.congr (λi _=>by rw[aH]));go_wp2;go_roundw
         case rel=>exact⟨k+1,by omega,by go_num,by rw[HP.1];exact dE.1,by rw[HP.1];exact mU.1,gN.1⟩
         case measure=>simp[intOf];omega
    ·obtain rfl:U=k:=by omega
     have mX:=Kh (show OwnPt n (pts n U) w3 w1.heap.size u7 from by
      obtain⟨⟨e0,h1⟩,h2⟩:=gY.1;refine⟨⟨e0,?_⟩,h2⟩;rcases h1 with h1 |⟨g,cap,cs,e1,hg,rest⟩
      ·exact .inl h1
      ·exact .inr ⟨g,cap,cs,e1,by have:=gP.1;omega,rest⟩)
     have mW:=Kh (HB.1.trans ((hU.1.trans gA.1).mono gP.1));clear V;go_wp2
     (first|go_ret2|go_ret)
     exact⟨⟨_,rfl,mX.1⟩,mW.1⟩
def plc (f:Nat->Nat×Int) (i:Nat):Value:=.int .i64 (if i % 2=0 then((f (i / 2)).1:Int)else(f (i / 2)).2)
theorem aZ (f:Nat->Nat×Int) (p i:Nat) (x:Nat×Int):plc (Pv f p x) i=if i=p*2+1 then .int .i64 x.2 else if i=p*2 then .int .i64 (x.1:Int)else plc f i:=by
 unfold plc Pv;by_cases h1:i=p*2+1
 ·subst h1
  rw[if_pos rfl,if_neg (by omega),show(p*2+1) / 2=p by omega,if_pos rfl]
 ·rw[if_neg h1]
  by_cases h2:i=p*2
  ·subst h2
   rw[if_pos rfl,if_pos (by omega),show p*2 / 2=p by omega,if_pos rfl]
  ·have I:i / 2≠p:=by omega
   simp only[if_neg h2,if_neg I]
theorem CRow.place {f:Nat->Nat×Int} {w:World} {g m p:Nat} (h:CRow (plc f) w g m) (x:Nat×Int):CRow (plc (Pv f p x)) ((w.setCell ⟨g,p*2,none⟩ (.int .i64 (x.1:Int))).setCell ⟨g,p*2+1,none⟩ (.int .i64 x.2)) g m:=by
 have I:=h.set (p*2) (.int .i64 (x.1:Int)) (λ_ h=>by cases h) (λi=>if i=p*2 then .int .i64 (x.1:Int)else plc f i) (λi _=>rfl);exact I.set (p*2+1) (.int .i64 x.2) (λ_ h=>by cases h) _ (λi _=>by rw[aZ])
theorem fD:(prog.info? 215).map (λi=>(i.zero,i.size,i.bytes))=some (some (.agg #[.int .i64 0,.int .i64 0]),2,16):=by kernel_rfl
theorem cS {z:Value} {n i:Nat} {v:Value} (h:(madeCells #[z,z] n)[i]?=some v):v=z:=by
 unfold madeCells at h;simp only[Array.getElem?_map,Array.getElem?_range]at h;split at h
 ·simp only[Option.map_some]at h
  injection h with h
  rw[<-h];have I:i % 2=0∨i % 2=1:=by omega
  show(#[z,z]:Array Value)[i % 2]! = _;rcases I with I|I <;> rw[I] <;> rfl
 ·cases h
theorem iE (n:Nat) (h:n<=1000000) (w:World):
  (Instr.makeSlice 160 (.int .i64 (n:Int)) (.int .i64 (n:Int))).run prog w=.ok (.slice (some ⟨w.heap.size,0,none⟩) n n) (w.alloc (.cells (madeCells #[.int .i64 0,.int .i64 0] (n*2)) 215)):=by
 obtain⟨i,O,I,J,M⟩:=info_parts fD;have hr:=run_make (P:=prog) w 160 215 i _ underlying160 O I .i64 .i64 n n (by omega) (Int.le_refl _) (by rw[M];omega) (by omega);rw[Int.toNat_natCast,J]at hr;exact hr
theorem CRow.places (w:World) (n:Nat):CRow (plc (λ_=>(0,0))) (w.alloc (.cells (madeCells #[.int .i64 0,.int .i64 0] (n*2)) 215)) w.heap.size (n*2):=by
 have J:=Blk.new w 215 (madeCells #[.int .i64 0,.int .i64 0] (n*2));refine⟨Stk.of J ?_,λi _=>J.free_ i,λi I=>?_⟩
 ·intro v M
  obtain⟨i,I⟩:=Array.getElem?_of_mem (Array.mem_toList_iff.1 M);rw[cS I];exact λ_ h=>by cases h
 ·rw[J.cell_ i,Array.getElem?_eq_getElem (by rw[size_madeCells];exact I)]
  congr 1;rw[cS (Array.getElem?_eq_getElem (by rw[size_madeCells];exact I))];unfold plc;split <;> rfl
structure WorldAt (w:World) (T B n wt:Nat) (L:List Nat) (f:Nat->Nat×Int):Prop where
 lt:T<B
 c0:w.cell? ⟨T,0,none⟩=some (.int .i64 (n:Int))
 c1:w.cell? ⟨T,1,none⟩=some (.int .i64 (wt:Int))
 c2:∃p c,w.cell? ⟨T,2,none⟩=some (.slice p L.length c)/\PtL n L w B (.slice p L.length c)
 c3:∃g,w.cell? ⟨T,3,none⟩=some (.slice (some ⟨g,0,none⟩) (n*n) (n*n))/\g<B/\∀i,i<n*n*2->w.cell? ⟨g,i,none⟩=some (plc f i)
theorem WorldAt.next {w w':World} {T B B' n wt:Nat} {L:List Nat} {f:Nat->Nat×Int} (h:WorldAt w T B n wt L f) (J:Below B' w w') (hB:B<=B'):WorldAt w' T B n wt L f:=by
 have I:∀g i v,g<B->w.cell? ⟨g,i,none⟩=some v->w'.cell? ⟨g,i,none⟩=some v:=λg i v hg e=>(J.cell (p:=⟨g,i,none⟩) (mI hg hB)).trans e
 obtain⟨p,c,M,U⟩:=h.c2;obtain⟨g,O,hg,V⟩:=h.c3;exact⟨h.lt,I _ _ _ h.lt h.c0,I _ _ _ h.lt h.c1,⟨p,c,I _ _ _ h.lt M,U.next (J.mono hB)⟩,g,I _ _ _ h.lt O,hg,λi Y=>I _ _ _ hg (V i Y)⟩
theorem WorldAt.keep {w w':World} {T B n wt:Nat} {L:List Nat} {f:Nat->Nat×Int} (h:WorldAt w T B n wt L f) (hB:B<=w.heap.size) (I:Below w.heap.size w w'):WorldAt w' T B n wt L f:=h.next I hB
theorem WorldAt.up {w:World} {T B B' n wt:Nat} {L:List Nat} {f:Nat->Nat×Int} (h:WorldAt w T B n wt L f) (hB:B<=B'):WorldAt w T B' n wt L f:=by
 obtain⟨p,c,I,M⟩:=h.c2;obtain⟨g,J,hg,O⟩:=h.c3;exact⟨mI h.lt hB,h.c0,h.c1,⟨p,c,I,M.up hB⟩,g,J,mI hg hB,O⟩
theorem PtL.but {n:Nat} {l:List Nat} {w w':World} {B G:Nat} {v:Value} (h:PtL n l w B v) (hg:w.grownBy w' (some G)) (Z:B<=G):PtL n l w' B v:=by
 rcases h with h |⟨g,cap,e,J,Y⟩
 ·exact .inl h
 ·have I:∀i,some (⟨g,i,none⟩:Addr).block≠some G:=λi e=>by injection e with e;simp at e;omega
  exact .inr ⟨g,cap,e,J,λj a V=>by
   obtain⟨M,O,U⟩:=Y j a V;exact⟨hg.cell M (I _),hg.cell O (I _),hg.cell U (I _)⟩⟩
theorem Gf (n wt:Nat) (D:Int) (w:World) (hT:Tab w) (h0:0<n) (hn:n<=120) (pO:wt<=22) (hD:-120<=D) (pC:D<=120) (mZ:Pl.check n ((wt:Int)+2) D=0):
  Calls prog 91 #[.agg #[.int .i64 n,.int .i64 ((wt:Int)+2),.int .i64 D]] w λe w'=>(∃T,e=.returned (.tuple #[.pointer (some ⟨T,0,none⟩),.int .i64 0])/\WorldAt w' T w'.heap.size n wt (pts n (n*n)) (Bb n D (pts n (n*n)) n))/\Below w.heap.size w w':=by
 obtain⟨L,hL⟩:∃l,pts n (n*n)=l:=⟨_,rfl⟩
 have oD:L.length<=n*n:=hL▸B6 n (n*n);obtain⟨M,bE⟩:∃m,n*n=m:=⟨_,rfl⟩
 have pE:M<=14400:=by rw[<-bE];exact Nat.mul_le_mul hn hn
 have pN:(n:Int)*(n:Int)=(M:Nat):=by rw[<-bE];push_cast;rfl
 have oG:=iE M (by omega);have gY:=Kh bE;have mT:=Kh hT;have mL:=Kh mZ;have mO:=Kh hL;rw[hL];rw[bE]at oD;clear bE hT mZ hL;go_enter func91,ntmps91
 go_wp2_with fail
 obtain⟨w0,nI,X0,hN⟩:=bx1 w #[.int .i64 n,.int .i64 ((wt:Int)+2),.int .i64 D] 23;rw[nI];refine(Zj n ((wt:Int)+2) D w0).mono ?_;rintro e w1 ⟨rfl,hO⟩;rw[mL.1];have X1:=X0.below_ hO X0.lt;have x0:=X1.at_ 0 rfl;have mD:=Kh (hN.trans (hO.mono hN.size));have mU:=Kh X1;clear nI X0 hN hO X1;go_wp2_with fail
 refine(Mv n w1 h0 hn).mono ?_;rintro e O ⟨⟨lv,rfl,hY⟩,hP⟩;obtain⟨pl,cl,hlv⟩:=Bf hY.1;subst hlv;have bY:=hY.ptl;rw[mO.1]at bY ⊢;have mP:=Kh bY;have bB:=Kh (bk mU hP);have gN:=bt mD hP;have mS:=Kh (mT.1.below gN.1);have a0:=bB.1.at_ 0 rfl;have a1:=bB.1.at_ 1 rfl;have oT:(wt:Int)+2 - 2=(wt:Nat):=by omega
 have oU:(0:Int)<=(wt:Int):=by omega
 have vN:IntKind.i64.wrap (M:Int)=(M:Nat):=IntWalk.i64_in _ (by omega);have vW:IntKind.i64.wrap (wt:Int)=(wt:Nat):=IntWalk.i64_in _ (by omega);clear hY bY hP x0 mD mU mT mL;go_upto_region 8 with(fail)
 have Z:=Kh (show ∀w4,Below O.heap.size O w4->(w4.cell? ⟨w.heap.size,1,none⟩=some (.int .i64 ((wt:Int)+2)))from λw4 hb=>cell_next hb a1);have bG:=Z.1 _ (Below.refl _ O).drew
 go_region_held3 (λw4=>w4.cell? ⟨w.heap.size,1,none⟩=some (.int .i64 ((wt:Int)+2)))
  (first|with_reducible exact bG|exact Z.1 _ ((Below.refl _ O).drew.alloc (mG _) _)|exact Z.1 _ (((Below.refl _ O).alloc (mG _) _).drew)|exact Z.1 _ (((Below.refl _ O).drew.alloc (mG _) _).alloc (Nat.le_of_lt (by simp)) _)|exact Z.1 _ ((((Below.refl _ O).alloc (mG _) _).drew).alloc (Nat.le_of_lt (by simp)) _) |(exfalso;assumption))
  (fail)
 all_goals go_wp2
 have eV:=CRow.places O M;obtain⟨wx,dY⟩:∃wx,((O.alloc (.cells (madeCells #[.int .i64 0,.int .i64 0] (M*2)) 215)).alloc (.cells #[.int .i64 n,.int .i64 wt,.slice pl L.length cl,.slice (some ⟨O.heap.size,0,none⟩) M M] 162)).drew=wx:=⟨_,rfl⟩
 have hS:Below O.heap.size O (O.alloc (.cells (madeCells #[.int .i64 0,.int .i64 0] (M*2)) 215)):=(Below.refl _ _).alloc (mG _) _;have hU:Below (O.alloc (.cells (madeCells #[.int .i64 0,.int .i64 0] (M*2)) 215)).heap.size (O.alloc (.cells (madeCells #[.int .i64 0,.int .i64 0] (M*2)) 215)) wx:=dY▸((Below.refl _ _).alloc (mG _) _).drew;have nG:(O.alloc (.cells (madeCells #[.int .i64 0,.int .i64 0] (M*2)) 215)).heap.size=O.heap.size+1:=by simp
 have bH:=eV.keep hU
 have aK:Blk wx (O.heap.size+1) 162 #[.int .i64 n,.int .i64 wt,.slice pl L.length cl,.slice (some ⟨O.heap.size,0,none⟩) M M]:=by
  have h:=Blk.new (O.alloc (.cells (madeCells #[.int .i64 0,.int .i64 0] (M*2)) 215)) 162 #[.int .i64 n,.int .i64 wt,.slice pl L.length cl,.slice (some ⟨O.heap.size,0,none⟩) M M];rw[nG]at h;exact dY▸h.below_ (Below.refl _ _).drew h.lt
 have V:Below O.heap.size O wx:=hS.trans (hU.mono hS.size);have hZ:=bk bB V;have cA:=mP.1.next V
 rw[dY];obtain⟨J,hV⟩:∃J,O.heap.size=J:=⟨_,rfl⟩
 obtain⟨T,mW⟩:∃T,J+1=T:=⟨_,rfl⟩
 obtain⟨gs,nF⟩:∃gs,w.heap.size=gs:=⟨_,rfl⟩
 have nT:=Kh (show gs<J by have:=bB.1.lt;omega);have hB:=Kh (show w.heap.size<=J by have:=gN.1.size;omega);rw[hV]at bH aK V cA ⊢;rw[mW]at aK ⊢;rw[nF]at hZ ⊢;have mM:=Kh bH;have bA:=Kh aK;have nP:=Kh V;have nZ:=Kh hZ;have mR:=Kh cA;have mN:=Kh (show T≠J by omega);have nX:=Kh (show ∀w',wx.grownBy w' (some J)->Tab w' from λw' hg=>mS.1.below (hV▸An V hg (by have:=V.size;omega) (mG _)));have gX:=Kh (show J<=wx.heap.size by have:=aK.lt;omega);have nV:=Kh (show T<wx.heap.size from aK.lt);clear eV bH aK V hZ cA dY hS hU nG hV mW nF oG Z bG a0 a1 bB mP mS;go_loopw [9] (λv wr=>∃I:Nat,1<=I/\I<=n+1/\v=.int .i64 I/\CRow (plc (Bb n D L (I - 1))) wr J (M*2)/\wx.grownBy wr (some J)) (λv _=>n+1 - (intOf v).toNat)
 case atStart=>exact⟨1,mG _,by omega,rfl,mM.1,Af J (Below.refl _ _)⟩
 case round=>
  obtain⟨I,pK,pL,rfl,nA,nE⟩:=hrel;obtain⟨w3,rfl⟩:∃w3:World,w3=wr:=⟨_,rfl⟩
  have cF:=Kh nA;have U:=Kh nE;clear nA nE mM;have oJ:gs≠J:=Nat.ne_of_lt nT.1;by_cases hlt:I<=n
  ·have pM:(I:Int)<=(n:Int):=by omega
   go_wp2_with fail
   refine(E7 I n w3 (by omega) (by omega) (by omega) (by omega)).mono ?_;rintro e w4 ⟨rfl,m1,rfl⟩;have nB:Int.gcd (I:Int) (n:Int)=Nat.gcd I n:=rfl;rw[nB];generalize hw4:w3.drewN m1=w4;have hQ:Below w3.heap.size w3 w4:=hw4▸Aa (Below.refl _ _) m1;have gS:=Kh (cF.1.keep hQ);have aX:=Kh (U.1.trans (Af J hQ))
   have mC:=Kh (show Bb n D L I=if pun n I then Ez n I (Pl.kroP D I) L L.length (Bb n D L (I - 1))else Bb n D L (I - 1)by
    obtain⟨l,rfl⟩:∃l,I=l+1:=⟨I - 1,by omega⟩
    rfl)
   have mQ:=Kh (show pun n I=(Nat.gcd I n==1)from rfl);clear hw4 hQ nB cF U;cases ho:(Nat.gcd I n==1)with
   | false=>
    have oI:(((Nat.gcd I n:Nat):Int) != 1)=true:=by
     simp only[beq_eq_false_iff_ne]at ho;simp;omega
    have HP:=Kh (show Bb n D L I=Bb n D L (I - 1)by rw[mC.1,mQ.1,ho];rfl);clear ho;go_wp2;go_roundw
    case rel=>exact⟨I+1,by omega,by omega,by go_num,by rw[Nat.add_sub_cancel,HP.1];exact gS.1,aX.1⟩
    case measure=>simp[intOf];omega
   | true=>
    have oI:(((Nat.gcd I n:Nat):Int) != 1)=false:=by
     simp only[beq_iff_eq]at ho;rw[ho];rfl
    have HP:=Kh (show Bb n D L I=Ez n I (Pl.kroP D I) L L.length (Bb n D L (I - 1))by rw[mC.1,mQ.1,ho];rfl);have x2:=aX.1.cell (nZ.1.at_ 2 rfl) (λe=>by injection e with e;exact oJ e);clear ho;go_wp2_with fail
    refine(Oh D I w4 (nX.1 w4 aX.1) (by omega) (by omega) (by omega) (by omega)).mono ?_;rintro e w5 ⟨rfl,rfl⟩;obtain⟨ch,mY⟩:∃ch,Pl.kroP D I=ch:=⟨_,rfl⟩
    rw[mY]at HP ⊢;clear x2 mY;go_wp2_with fail
    have mE:=Kh (show CRow (plc (Ez n I ch L 0 (Bb n D L (I - 1)))) w4 J (M*2)from gS.1);go_loopw [55] (λii w5=>∃j:Nat,j<=L.length/\ii=.int .i64 j/\CRow (plc (Ez n I ch L j (Bb n D L (I - 1)))) w5 J (M*2)/\wx.grownBy w5 (some J)) (λii _=>L.length - (intOf ii).toNat)
    case atStart=>exact⟨0,Nat.zero_le _,rfl,mE.1,aX.1⟩
    case round=>
     obtain⟨j,hj,rfl,gA,gF⟩:=hrel;obtain⟨w5,rfl⟩:∃w5:World,w5=wr:=⟨_,rfl⟩
     have gU:=Kh gA;have cG:=Kh gF;clear gA gF mE gS aX;by_cases hjl:j<L.length
     ·have pJ:(j:Int)<(L.length:Int):=by omega
      obtain⟨a,ha⟩:∃a,L[j]?=some a:=⟨_,List.getElem?_eq_getElem hjl⟩
      have mX:a<n*n:=by
       have h:=List.mem_of_getElem? ha;rw[<-mO.1]at h;exact Gn h
      have nD:L.getD j 0=a:=by rw[List.getD_eq_getElem?_getD,ha];rfl
      have nS:=Kh nD;rcases mR.1.but cG.1 (mG _)with⟨oC,_⟩ |⟨gL,oQ,e,pG,hx⟩
      ·rw[oC]at hjl;simp at hjl
      cases e;obtain⟨p0,p1,p2⟩:=hx j a ha;have oE:a / n<n:=Nat.div_lt_of_lt_mul mX;have oF:a % n<n:=Nat.mod_lt _ h0;obtain⟨u,hu⟩:∃u,a / n=u:=⟨_,rfl⟩
      obtain⟨v,hv⟩:∃v,a % n=v:=⟨_,rfl⟩
      rw[hu]at p0 oE;rw[hv]at p1 oF;have HU:=Kh hu;have HV:=Kh hv;clear hu hv nD ha mX hx;go_wp2_with fail
      obtain⟨wb,dX⟩:∃wb,w5.alloc (.cells #[.int .i64 (u:Int),.int .i64 (v:Int),.int .i64 1] 213)=wb:=⟨_,rfl⟩
      have hR:Below w5.heap.size w5 wb:=dX▸(Below.refl _ _).alloc (mG _) _;have X:=dX▸Blk.new w5 213 #[.int .i64 (u:Int),.int .i64 (v:Int),.int .i64 1];rw[dX];obtain⟨gb,nC⟩:∃gb,w5.heap.size=gb:=⟨_,rfl⟩
      rw[nC]at X ⊢;have hM:T≠J:=mN.1;have Y:gb≠J:=by have:=cG.1.size;have:=gX.1;have:=gU.1.stk.1;omega
      obtain⟨SU,cY⟩:∃x,I*u=x:=⟨_,rfl⟩
      obtain⟨SW,dC⟩:∃x,I*v=x:=⟨_,rfl⟩
      obtain⟨P1,cT⟩:∃x,SU % n=x:=⟨_,rfl⟩
      obtain⟨P2,cV⟩:∃x,SW % n=x:=⟨_,rfl⟩
      obtain⟨PN,cX⟩:∃x,P1*n=x:=⟨_,rfl⟩
      have q1:SU<=14400:=by rw[<-cY];exact Nat.mul_le_mul (by omega:I<=120) (by omega:u<=120)
      have q2:SW<=14400:=by rw[<-dC];exact Nat.mul_le_mul (by omega:I<=120) (by omega:v<=120)
      have q3:P1<n:=cT▸Nat.mod_lt _ h0;have q4:P2<n:=cV▸Nat.mod_lt _ h0;have q5:PN<=14400:=by rw[<-cX];exact Nat.mul_le_mul (by omega:P1<=120) (by omega:n<=120)
      have e1:(I:Int)*(u:Int)=(SU:Nat):=by rw[<-cY];push_cast;rfl
      have e2:(I:Int)*(v:Int)=(SW:Nat):=by rw[<-dC];push_cast;rfl
      have e3:(SU:Int).tmod (n:Int)=(P1:Nat):=by rw[Int.tmod_eq_emod_of_nonneg (by omega),<-cT];rfl
      have e4:(SW:Int).tmod (n:Int)=(P2:Nat):=by rw[Int.tmod_eq_emod_of_nonneg (by omega),<-cV];rfl
      have e5:(P1:Int)*(n:Int)=(PN:Nat):=by rw[<-cX];push_cast;rfl
      have hX:PN+P2=Az n I a:=by unfold Az;rw[HU.1,HV.1,cY,dC,cT,cV,cX]
      obtain⟨IX,hJ⟩:∃x,PN+P2=x:=⟨_,rfl⟩
      have e6:(PN:Int)+(P2:Int)=(IX:Nat):=by omega
      have pD:IX<M:=by rw[<-hJ,hX,<-gY.1];exact Su h0 I a
      have oR:(IX:Int)<(M:Int):=by omega
      have nU:=Kh (show IX=Az n I a by rw[<-hJ,hX]);have aD:=gU.1.keep hR;have d0:=aD.val (IX*2) (by omega);have d1:=aD.free (IX*2) (by omega);have d2:=aD.val (IX*2+1) (by omega);have d3:=aD.free (IX*2+1) (by omega);have oH:(n:Int)≠0:=by omega
      have z1:((n:Int)==0)=false:=by simpa using oH
      have z2:n≠0:=by omega
      have i0:(0:Int)<=(IX:Int):=by omega
      have v1:IntKind.i64.wrap (SU:Int)=(SU:Nat):=IntWalk.i64_in _ (by omega);have v2:IntKind.i64.wrap (SW:Int)=(SW:Nat):=IntWalk.i64_in _ (by omega);have v3:IntKind.i64.wrap (PN:Int)=(PN:Nat):=IntWalk.i64_in _ (by omega);have v5:IntKind.i64.wrap (P1:Int)=(P1:Nat):=IntWalk.i64_in _ (by omega);have v6:IntKind.i64.wrap (P2:Int)=(P2:Nat):=IntWalk.i64_in _ (by omega);have v4:IntKind.i64.wrap (IX:Int)=(IX:Nat):=IntWalk.i64_in _ (by omega);have hW:=cG.1.trans (Af J hR);have b0:=X.at_ 0 rfl;have b1:=X.at_ 1 rfl;have t3:=hW.cell (bA.1.at_ 3 rfl) (λe=>by injection e with e;exact hM e);have bG:wb.drew.cell? ⟨T,3,none⟩=some (.slice (some ⟨J,0,none⟩) M M)/\wb.drew.cell? ⟨gb,0,none⟩=some (.int .i64 (u:Int))/\wb.drew.cell? ⟨gb,1,none⟩=some (.int .i64 (v:Int)):=⟨t3,b0,b1⟩
      have nW:=Kh (show ∀(X:World) (i j:Nat) (v1 v2:Value),(X.cell? ⟨T,3,none⟩=some (.slice (some ⟨J,0,none⟩) M M)/\X.cell? ⟨gb,0,none⟩=some (.int .i64 (u:Int))/\X.cell? ⟨gb,1,none⟩=some (.int .i64 (v:Int)))->(((X.setCell ⟨J,i,none⟩ v1).setCell ⟨J,j,none⟩ v2).cell? ⟨T,3,none⟩=some (.slice (some ⟨J,0,none⟩) M M)/\((X.setCell ⟨J,i,none⟩ v1).setCell ⟨J,j,none⟩ v2).cell? ⟨gb,0,none⟩=some (.int .i64 (u:Int))/\((X.setCell ⟨J,i,none⟩ v1).setCell ⟨J,j,none⟩ v2).cell? ⟨gb,1,none⟩=some (.int .i64 (v:Int)))from λX i j v1 v2 h=>⟨by rw[World.cell?_setCell_far _ _ _ _ (by exact hM.symm),World.cell?_setCell_far _ _ _ _ (by exact hM.symm)];exact h.1,by rw[World.cell?_setCell_far _ _ _ _ (by exact Y.symm),World.cell?_setCell_far _ _ _ _ (by exact Y.symm)];exact h.2.1,by rw[World.cell?_setCell_far _ _ _ _ (by exact Y.symm),World.cell?_setCell_far _ _ _ _ (by exact Y.symm)];exact h.2.2⟩);have nQ:=Kh aD;have nR:=Kh hW;clear cY dC cT cV cX hX hJ aD hW X dX hR b0 b1 t3 p0 p1 p2 nC;go_upto_region 17 with(fail)
      go_region_held3 (λw'=>w'.cell? ⟨T,3,none⟩=some (.slice (some ⟨J,0,none⟩) M M)/\w'.cell? ⟨gb,0,none⟩=some (.int .i64 (u:Int))/\w'.cell? ⟨gb,1,none⟩=some (.int .i64 (v:Int)))
       (first|with_reducible exact bG|exact nW.1 _ _ _ _ _ bG)
       (fail)
      all_goals go_wp2
      all_goals go_roundw
      all_goals first
       | exact⟨j+1,by omega,by go_num,by rw[Ez,nS.1,<-nU.1];exact(nQ.1.place (p:=IX) (j,ch)).keep (Below.refl _ _).drew,(nR.1.trans ((Ai wb J _ _).trans (Ai _ J _ _))).trans (Af J (Below.refl _ _).drew)⟩
       |(simp[intOf];omega)
     ·obtain rfl:L.length=j:=by omega
      go_wp2;go_roundw
      case rel=>exact⟨I+1,by omega,by omega,by go_num,by rw[Nat.add_sub_cancel,HP.1];exact gU.1,cG.1⟩
      case measure=>simp[intOf];omega
  ·obtain rfl:n+1=I:=by omega
   have pH:¬((n:Int)+1<=(n:Int)):=by omega
   have dE:T≠J:=mN.1;have nH:=U.1.size
   have nY:=Kh (show WorldAt w3 T w3.heap.size n wt L (Bb n D L n)from
    ⟨by have:=nV.1;omega,U.1.cell (bA.1.at_ 0 rfl) (λe=>by injection e with e;exact dE e),U.1.cell (bA.1.at_ 1 rfl) (λe=>by injection e with e;exact dE e),
     ⟨pl,cl,U.1.cell (bA.1.at_ 2 rfl) (λe=>by injection e with e;exact dE e),(mR.1.but U.1 (mG _)).up (mH gX.1 nH)⟩,
     J,by rw[gY.1];exact U.1.cell (bA.1.at_ 3 rfl) (λe=>by injection e with e;exact dE e),cF.1.stk.1,λi hi=>cF.1.val i (by rw[<-gY.1];exact hi)⟩)
   have nO:=Kh (show Below w.heap.size w w3 from An (gN.1.trans (nP.1.mono hB.1)) U.1 (mH hB.1 gX.1) hB.1);clear nH;go_wp2
   (first|go_ret2|go_ret)
   exact⟨⟨T,rfl,nY.1⟩,nO.1⟩
theorem Vt (N k D:Int) (w:World) (O:Pl.check N k D≠0):
  Calls prog 91 #[.agg #[.int .i64 N,.int .i64 k,.int .i64 D]] w λe w'=>e=.returned (.tuple #[.pointer none,.int .i64 (Pl.check N k D)])/\Below w.heap.size w w':=by
 obtain⟨Y,J⟩:∃Y,Pl.check N k D=Y:=⟨_,rfl⟩
 have V:=Kh J;rw[J]at O ⊢;clear J;go_enter func91,ntmps91
 go_wp2_with fail
 obtain⟨w0,U,h,I⟩:=bx1 w #[.int .i64 N,.int .i64 k,.int .i64 D] 23;rw[U];refine(Zj N k D w0).mono ?_;rintro e w1 ⟨rfl,M⟩;have Z:=Kh (I.trans (M.mono I.size));rw[V.1];have aD:(Y != 0)=true:=by simpa using O
 clear U h I M;go_wp2
 (first|go_ret2|go_ret)
 exact⟨rfl,Z.1⟩
theorem Hv (T B n wt:Nat) (L:List Nat) (f:Nat->Nat×Int) (x:Int) (w:World) (h:WorldAt w T B n wt L f) (M:0<n) (hn:n<=120):
  Calls prog 143 #[.pointer (some ⟨T,0,none⟩),.int .i64 x] w λe w'=>e=.returned (.int .i64 (x % (n:Int)))/\w'=w:=by
 have O:-(n:Int)<x.tmod n:=by have:=Int.lt_tmod_of_pos x (show(0:Int)<n by omega);omega
 have U:x.tmod n<n:=Int.tmod_lt_of_pos x (by omega);have I:=Kh (Da x n (by omega));have c0:=h.c0;have J:(n:Int)≠0:=by omega
 clear h;go_enter func143,ntmps143
 go_wp2;all_goals (go_ret;refine⟨A3 ?_,rfl⟩;rw[<-I.1];first |(rw[if_pos (by omega)];done) |(rw[if_neg (by omega)];done))
theorem Jv (T B n wt:Nat) (L:List Nat) (f:Nat->Nat×Int) (w:World) (h:WorldAt w T B n wt L f) (O:wt<=22) (J:L.length<=14400):
  Calls prog 92 #[.pointer (some ⟨T,0,none⟩)] w λe w'=>e=.returned (.int .i64 (((wt+1)*L.length:Nat):Int))/\∃m,w'=w.drewN m:=by
 obtain⟨p,c,V,_⟩:=h.c2;have c1:=h.c1;obtain⟨P,I⟩:∃P,(wt+1)*L.length=P:=⟨_,rfl⟩
 have M:P<=331200:=by rw[<-I];exact Nat.mul_le_mul (by omega:wt+1<=23) J
 have U:((wt:Int)+1)*(L.length:Int)=(P:Nat):=by rw[<-I];push_cast;rfl
 rw[I];clear h I;go_enter func92,ntmps92
 go_wp2_with fail
 go_quiet (fail)
 go_wp2;go_ret;exact⟨rfl,_,rfl⟩
theorem cO (T B n wt:Nat) (L:List Nat) (f:Nat->Nat×Int) (x y:Int) (w:World) (h:WorldAt w T B n wt L f) (hB:B<=w.heap.size) (h0:0<n) (hn:n<=120):
  Calls prog 144 #[.pointer (some ⟨T,0,none⟩),.int .i64 x,.int .i64 y] w λe w'=>e=.returned (.agg #[.int .i64 ((f ((x % n).toNat*n+(y % n).toNat)).1:Int),.int .i64 (f ((x % n).toNat*n+(y % n).toNat)).2])/\Below w.heap.size w w':=by
 obtain⟨O,Y⟩:∃m,n*n=m:=⟨_,rfl⟩
 have gY:O<=14400:=by rw[<-Y];exact Nat.mul_le_mul hn hn
 have eV:=Int.emod_nonneg x (show(n:Int)≠0 by omega);have gA:=Int.emod_lt_of_pos x (show(0:Int)<n by omega);have gF:=Int.emod_nonneg y (show(n:Int)≠0 by omega);have hv1:=Int.emod_lt_of_pos y (show(0:Int)<n by omega);obtain⟨u,hu⟩:∃u:Nat,x % (n:Int)=u:=⟨(x % n).toNat,by omega⟩
 obtain⟨v,hv⟩:∃v:Nat,y % (n:Int)=v:=⟨(y % n).toNat,by omega⟩
 rw[hu,hv,Int.toNat_natCast,Int.toNat_natCast];rw[hu]at eV gA;rw[hv]at gF hv1;obtain⟨UN,aD⟩:∃x,u*n=x:=⟨_,rfl⟩
 have e1:(u:Int)*(n:Int)=(UN:Nat):=by rw[<-aD];push_cast;rfl
 have cX:UN+v<O:=by
  rw[<-aD,<-Y]
  calc u*n+v<u*n+n:=by omega
   _=(u+1)*n:=by rw[Nat.add_mul,Nat.one_mul]
   _<=n*n:=Nat.mul_le_mul_right _ (by omega)
 rw[aD];obtain⟨I,bE⟩:∃x,UN+v=x:=⟨_,rfl⟩
 rw[bE]at cX ⊢;have e2:(UN:Int)+(v:Int)=(I:Nat):=by omega
 have U:=Kh (λw' (hb:Below w.heap.size w w')=>Hv T B n wt L f x w' (h.keep hB hb) h0 hn);have V:=Kh (λw' (hb:Below w.heap.size w w')=>Hv T B n wt L f y w' (h.keep hB hb) h0 hn);rw[hu]at U;rw[hv]at V;obtain⟨M,e3,dX,h3⟩:=h.c3;rw[Y]at e3 h3;have p0:=h3 (I*2) (by omega);have p1:=h3 (I*2+1) (by omega);have q0:plc f (I*2)=.int .i64 ((f I).1:Int):=by unfold plc;rw[if_pos (by omega),show I*2 / 2=I by omega]
 have q1:plc f (I*2+1)=.int .i64 (f I).2:=by unfold plc;rw[if_neg (by omega),show(I*2+1) / 2=I by omega]
 rw[q0]at p0;rw[q1]at p1;have t0:=h.c0;have t3:=e3;have dC:T<w.heap.size:=mI h.lt hB;have dE:M<w.heap.size:=mI dX hB;have i0:(0:Int)<=(I:Int):=by omega
 have i1:(I:Int)<(O:Int):=by omega
 have v1:IntKind.i64.wrap (UN:Int)=(UN:Nat):=IntWalk.i64_in _ (by omega);have v2:IntKind.i64.wrap (I:Int)=(I:Nat):=IntWalk.i64_in _ (by omega);clear hu hv aD bE h e3 h3 q0 q1 Y;go_enter func144,ntmps144
 go_upto_region 1 with(fail)
 obtain⟨w0,aN⟩:∃w0,w.alloc (.cells #[.int .i64 0,.int .i64 0] 215)=w0:=⟨_,rfl⟩
 have J:Below w.heap.size w w0:=aN▸(Below.refl _ _).alloc (mG _) _;have X:=aN▸Blk.new w 215 #[.int .i64 0,.int .i64 0];rw[aN];obtain⟨R,hR⟩:∃R,w.heap.size=R:=⟨_,rfl⟩
 have t0:=cell_next J t0;have t3:=cell_next J t3;have p0:=cell_next J p0;have p1:=cell_next J p1;have U:=Kh (λw' (hb:Below w0.heap.size w0 w')=>U.1 w' (J.trans (hb.mono J.size)));have V:=Kh (λw' (hb:Below w0.heap.size w0 w')=>V.1 w' (J.trans (hb.mono J.size)));have Z:R≠T:=by omega
 have aK:R≠M:=by omega
 have bB:=Kh J;have cG:=Kh hR;rw[hR]at X bB ⊢;have dY:=U.1 w0.drew (Below.refl _ w0).drew;have eP:=V.1 w0.drew (Below.refl _ w0).drew;have bC:=Kh X;have r0:=X.at_ 0 rfl;have r1:=X.at_ 1 rfl;have f0:=X.free_ 0;have f1:=X.free_ 1;clear aN J dC dE hR X;have bG:w0.drew.cell? ⟨T,0,none⟩=some (.int .i64 (n:Int))/\w0.drew.cell? ⟨T,3,none⟩=some (.slice (some ⟨M,0,none⟩) O O)/\w0.drew.cell? ⟨M,I*2,none⟩=some (.int .i64 ((f I).1:Int))/\w0.drew.cell? ⟨M,I*2+1,none⟩=some (.int .i64 (f I).2):=⟨t0,t3,p0,p1⟩
 have cT:=Kh (show ∀(X:World) (v1 v2:Value),(X.cell? ⟨T,0,none⟩=some (.int .i64 (n:Int))/\X.cell? ⟨T,3,none⟩=some (.slice (some ⟨M,0,none⟩) O O)/\X.cell? ⟨M,I*2,none⟩=some (.int .i64 ((f I).1:Int))/\X.cell? ⟨M,I*2+1,none⟩=some (.int .i64 (f I).2))->(((X.setCell ⟨R,0,none⟩ v1).setCell ⟨R,1,none⟩ v2).cell? ⟨T,0,none⟩=some (.int .i64 (n:Int))/\((X.setCell ⟨R,0,none⟩ v1).setCell ⟨R,1,none⟩ v2).cell? ⟨T,3,none⟩=some (.slice (some ⟨M,0,none⟩) O O)/\((X.setCell ⟨R,0,none⟩ v1).setCell ⟨R,1,none⟩ v2).cell? ⟨M,I*2,none⟩=some (.int .i64 ((f I).1:Int))/\((X.setCell ⟨R,0,none⟩ v1).setCell ⟨R,1,none⟩ v2).cell? ⟨M,I*2+1,none⟩=some (.int .i64 (f I).2))from λX v1 v2 h=>⟨by rw[World.cell?_setCell_far _ _ _ _ (by exact Z),World.cell?_setCell_far _ _ _ _ (by exact Z)];exact h.1,by rw[World.cell?_setCell_far _ _ _ _ (by exact Z),World.cell?_setCell_far _ _ _ _ (by exact Z)];exact h.2.1,by rw[World.cell?_setCell_far _ _ _ _ (by exact aK),World.cell?_setCell_far _ _ _ _ (by exact aK)];exact h.2.2.1,by rw[World.cell?_setCell_far _ _ _ _ (by exact aK),World.cell?_setCell_far _ _ _ _ (by exact aK)];exact h.2.2.2⟩);clear t0 t3 p0 p1
 go_region_held3 (λw1=>w1.cell? ⟨T,0,none⟩=some (.int .i64 (n:Int))/\w1.cell? ⟨T,3,none⟩=some (.slice (some ⟨M,0,none⟩) O O)/\w1.cell? ⟨M,I*2,none⟩=some (.int .i64 ((f I).1:Int))/\w1.cell? ⟨M,I*2+1,none⟩=some (.int .i64 (f I).2))
  (first|with_reducible exact bG|exact cT.1 _ _ _ bG)
  (first
   |(go_at_call 143;with_reducible refine dY.mono ?_;rintro e w2 ⟨rfl,rfl⟩)
   |(go_at_call 143;with_reducible refine eP.mono ?_;rintro e w2 ⟨rfl,rfl⟩))
 all_goals go_wp2
 have hE:=(((bC.1.set_ 0 (.int .i64 ((f I).1:Int))).set_ 1 (.int .i64 (f I).2)).below_ (Below.refl _ _).drew (by have:=bC.1.lt;simpa using this))
 have e0:=hE.at_ 0 rfl;have e1:=hE.at_ 1 rfl;try simp only[Exit.inBlock,Exit.then]
 refine bodyPost_ret (by simp[results,results144,go_sem,e0,e1];try rfl) rfl ?_;exact⟨rfl,cG.1▸((bB.1.setCell (p:=⟨R,0,none⟩) (mG _) _).setCell (p:=⟨R,1,none⟩) (mG _) _).drew⟩
end Go.Proofs.YtenlbhlllgppmaaGreatDoor
