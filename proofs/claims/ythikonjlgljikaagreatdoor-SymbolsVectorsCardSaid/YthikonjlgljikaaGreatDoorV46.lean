/- Contract of halfplaneref40.class: a pair is looked for in the list. -/
import Derived.Test.YthikonjlgljikaaGreatDoorV45
import Derived.Test.YthikonjlgljikaaGreatDoorV07
import Derived.Test.YthikonjlgljikaaGreatDoorV32
import Derived.Test.YthikonjlgljikaaGreatDoorV25
import Derived.Test.YthikonjlgljikaaGreatDoorV34
import Derived.Test.YthikonjlgljikaaGreatDoorV40
import Derived.Test.YthikonjlgljikaaGreatDoorV24
set_option linter.unusedSimpArgs false
set_option maxRecDepth 100000
set_option maxHeartbeats 8000000
namespace Go.Proofs.YthikonjlgljikaaGreatDoor
open Go.RowKit
theorem pm_iff {n f a X Y:Nat} (_hX:X<n) (hY:Y<n):pmul n f a=X*n+Y↔f*(a / n) % n=X∧f*(a % n) % n=Y:=by
 have hn:0<n:=by omega
 constructor
 ·intro h
  have h1:=pmul_div hn f a
  have h2:=pmul_mod n f a
  rw[h]at h1 h2
  rw[← h1,← h2]
  exact⟨by rw[Nat.mul_comm,Nat.mul_add_div hn,Nat.div_eq_of_lt hY,Nat.add_zero],by rw[Nat.mul_comm,Nat.mul_add_mod,Nat.mod_eq_of_lt hY]⟩
 ·rintro⟨h1,h2⟩
  rw[pmul,h1,h2]
theorem c_class (n wt:Nat) (D:Int) (L:List Nat) (T:Nat→Nat×Int) (B:Nat) (v:Value) (x y:Int) (w:World) (h0:0<n) (hn:n≤120) (hD:-120≤D) (hD':D≤120) (hLl:L.length≤14400) (hLn:∀ a,a∈L→a<n*n)
  (hit:∀ j f k,j<L.length→f<n→pun n f=true→pmul n f (L.getD j 0)=k→T k=(j,Pl.chiR n D f))
  (miss:∀ k,(∀ j f,j<L.length→f<n→pun n f=true→pmul n f (L.getD j 0)≠k)→T k=(0,0))
  (hv:PtL n L w B v) (hB:B≤w.heap.size):
  Calls Tryz.prog 171 #[.agg #[.int .i64 n,.int .i64 ((wt:Int)+2),.int .i64 D],v,.int .i64 x,.int .i64 y] w fun e w'=>e=.returned (.tuple #[.int .i64 (((T ((x % n).toNat*n+(y % n).toNat)).1:Nat):Int),.int .i64 (T ((x % n).toNat*n+(y % n).toNat)).2])∧Below w.heap.size w w':=by
 obtain⟨X,hX⟩:∃ X,(x % n).toNat=X:=⟨_,rfl⟩
 obtain⟨Y,hY⟩:∃ Y,(y % n).toNat=Y:=⟨_,rfl⟩
 have hx0:=Int.emod_nonneg x (show(n:Int)≠0 by omega)
 have hx1:=Int.emod_lt_of_pos x (show(0:Int)<n by omega)
 have hy0:=Int.emod_nonneg y (show(n:Int)≠0 by omega)
 have hy1:=Int.emod_lt_of_pos y (show(0:Int)<n by omega)
 have hXn:X<n:=by omega
 have hYn:Y<n:=by omega
 have HM1:=Kh (fun(W:World)=>show Calls Tryz.prog 151 #[.int .i64 x,.int .i64 n] W fun e w'=>e=.returned (.int .i64 (X:Nat))∧w'=W by
  have h:=c_Mod x n W (by omega) (by omega)
  rw[show x % (n:Int)=(X:Nat)by omega]at h
  exact h)
 have HM2:=Kh (fun(W:World)=>show Calls Tryz.prog 151 #[.int .i64 y,.int .i64 n] W fun e w'=>e=.returned (.int .i64 (Y:Nat))∧w'=W by
  have h:=c_Mod y n W (by omega) (by omega)
  rw[show y % (n:Int)=(Y:Nat)by omega]at h
  exact h)
 obtain⟨K,hK⟩:∃ K,X*n+Y=K:=⟨_,rfl⟩
 have HIT:=Kh (show ∀ j f,j<L.length→f<n→pun n f=true→f*(L.getD j 0 / n) % n=X→f*(L.getD j 0 % n) % n=Y→T K=(j,Pl.chiR n D f)from fun j f h1 h2 h3 h4 h5=>hit j f K h1 h2 h3 (by rw[← hK];exact(pm_iff hXn hYn).2 ⟨h4,h5⟩))
 have HNO:=Kh (show ∀ j f,¬ (pun n f=true∧f*(L.getD j 0 / n) % n=X∧f*(L.getD j 0 % n) % n=Y)→pun n f=true→pmul n f (L.getD j 0)≠K from fun j f h1 h2 h3=>h1 ⟨h2,(pm_iff hXn hYn).1 (by rw[hK];exact h3)⟩)
 have HMISS:=Kh (miss K)
 rw[hX,hY,hK]
 obtain⟨p,c,rfl⟩:∃ p c,v=.slice p L.length c:=by
  rcases hv with⟨rfl,a,c,e⟩ |⟨g,cap,e,_⟩
  ·exact⟨a,c,e⟩
  ·exact⟨_,cap,e⟩
 have HPT:=Kh (show ∀ j a,L[j]?=some a→∃ g,p=some ⟨g,0,none⟩∧g<w.heap.size∧w.cell? ⟨g,j*3,none⟩=some (.int .i64 ((a / n:Nat):Int))∧w.cell? ⟨g,j*3+1,none⟩=some (.int .i64 ((a % n:Nat):Int))from fun j a ha=>by
  rcases hv with⟨rfl,_⟩ |⟨g,cap,e,hg,hx⟩
  ·simp at ha
  ·cases e
   exact⟨g,rfl,Nat.lt_of_lt_of_le hg hB,(hx j a ha).1,(hx j a ha).2.1⟩)
 have HLN:=Kh hLn
 have HCH:=Kh (fun W f=>c_Chi n f ((wt:Int)+2) D W h0 hn hD hD')
 clear hit miss hv hx0 hx1 hy0 hy1 hX hY hK
 go_enter Tryz.func171,Tryz.ntmps171
 go_wp2_with fail
 obtain⟨w0,hw0,X0,hb0⟩:=bx1 w #[.int .i64 n,.int .i64 ((wt:Int)+2),.int .i64 D] 23
 rw[hw0]
 obtain⟨bs,hbs⟩:∃ x,w.heap.size=x:=⟨_,rfl⟩
 have HBS:=Kh hbs
 rw[hbs]at X0 ⊢
 have HX0:=Kh X0
 have HB0:=Kh hb0
 have x0:=X0.at_ 0 rfl
 clear hw0 X0 hb0 hbs
 go_quiet (first|with_reducible exact Calls.quiet_of_same (HM1.out _)|with_reducible exact Calls.quiet_of_same (HM2.out _))
 generalize hw1:w0.drewN nq=w1
 have hb1:Below w0.heap.size w0 w1:=hw1▸below_drewN' (Below.refl _ _) nq
 have HX1:=Kh (bk HX0 hb1)
 have HB1:=bt HB0 hb1
 clear hw1 hb1 x0 HX0 HB0
 go_wp2_with fail
 go_loopw [10] (fun jj wr=>∃ j:Nat,j≤L.length∧jj=.int .i64 j∧(∀ i f,i<j→f<n→pun n f=true→pmul n f (L.getD i 0)≠K)∧Below w1.heap.size w1 wr) (fun jj _=>L.length - (intOf jj).toNat)
 case atStart=>exact⟨0,Nat.zero_le _,rfl,fun i f hi=>absurd hi (Nat.not_lt_zero _),Below.refl _ _⟩
 case round=>
  obtain⟨j,hj,rfl,hms,hb2⟩:=hrel
  obtain⟨w2,rfl⟩:∃ w2:World,w2=wr:=⟨_,rfl⟩
  have HMS:=Kh hms
  have HB2:=Kh hb2
  clear hms hb2
  by_cases hlt:j<L.length
  ·have hji:(j:Int)<(L.length:Int):=by omega
   obtain⟨a,ha⟩:∃ a,L.getD j 0=a:=⟨_,rfl⟩
   have ha2:L[j]?=some a:=by rw[← ha,List.getD_eq_getElem?_getD,List.getElem?_eq_getElem hlt];rfl
   obtain⟨g,hp,hg,hc0,hc1⟩:=HPT.out j a ha2
   obtain⟨U,hU⟩:∃ U,a / n=U:=⟨_,rfl⟩
   obtain⟨V,hV⟩:∃ V,a % n=V:=⟨_,rfl⟩
   rw[hU]at hc0
   rw[hV]at hc1
   have HITJ:=Kh (show ∀ f,f<n→pun n f=true→f*U % n=X→f*V % n=Y→T K=(j,Pl.chiR n D f)from fun f h1 h2 h3 h4=>HIT.out j f hlt h1 h2 (by rw[ha,hU];exact h3) (by rw[ha,hV];exact h4))
   have HNOJ:=Kh (show ∀ f,¬ (pun n f=true∧f*U % n=X∧f*V % n=Y)→pun n f=true→pmul n f a≠K from fun f h1 h2=>by rw[← ha];exact HNO.out j f (by rw[ha,hU,hV];exact h1) h2)
   have HA:=Kh ha
   have HGL:=Kh hg
   have HC0:=Kh (show ∀ W,Below w.heap.size w W→W.cell? ⟨g,j*3,none⟩=some (.int .i64 (U:Int))∧W.cell? ⟨g,j*3+1,none⟩=some (.int .i64 (V:Int))from fun W hb=>⟨(hb.cell (p:=⟨g,j*3,none⟩) hg).trans hc0,(hb.cell (p:=⟨g,j*3+1,none⟩) hg).trans hc1⟩)
   have hUb:U<n:=by
    rw[← hU]
    exact Nat.div_lt_of_lt_mul (HLN.out a (List.mem_of_getElem? ha2))
   have hVb:V<n:=by rw[← hV];exact Nat.mod_lt _ h0
   clear ha ha2 hc0 hc1 hU hV hg
   subst hp
   go_wp2_with fail
   go_loopw [11] (fun ff wr=>∃ f:Nat,f≤n∧ff=.int .i64 f∧(∀ i,i<f→pun n i=true→pmul n i a≠K)∧Below w1.heap.size w1 wr) (fun ff _=>n - (intOf ff).toNat)
   case atStart=>exact⟨0,Nat.zero_le _,rfl,fun i hi=>absurd hi (Nat.not_lt_zero _),HB2.out⟩
   case round=>
    obtain⟨f,hf,rfl,hnf,hb3⟩:=hrel
    obtain⟨w3,rfl⟩:∃ w3:World,w3=wr:=⟨_,rfl⟩
    have HNF:=Kh hnf
    have HB3:=Kh hb3
    have X3:=bk HX1 hb3
    have x0:=X3.at_ 0 rfl
    have x1:=X3.at_ 1 rfl
    have x2:=X3.at_ 2 rfl
    have hc:=HC0.out w3 (HB1.out.trans (hb3.mono HB1.out.size))
    obtain⟨u0,u1⟩:=hc
    clear hnf hb3 X3
    by_cases hlf:f<n
    ·have hfi:(f:Int)<(n:Int):=by omega
     obtain⟨P,hP⟩:∃ x,f*U=x:=⟨_,rfl⟩
     obtain⟨Q,hQ⟩:∃ x,f*V=x:=⟨_,rfl⟩
     obtain⟨A,hA⟩:∃ x,P % n=x:=⟨_,rfl⟩
     obtain⟨Bb,hBb⟩:∃ x,Q % n=x:=⟨_,rfl⟩
     have hPl:P≤14400:=by rw[← hP];exact Nat.mul_le_mul (by omega:f≤120) (by omega:U≤120)
     have hQl:Q≤14400:=by rw[← hQ];exact Nat.mul_le_mul (by omega:f≤120) (by omega:V≤120)
     have e1:(f:Int)*(U:Int)=(P:Nat):=by rw[← hP];push_cast;rfl
     have e2:(f:Int)*(V:Int)=(Q:Nat):=by rw[← hQ];push_cast;rfl
     have e3:Int.tmod (P:Int) (n:Int)=(A:Nat):=by rw[Int.tmod_eq_emod_of_nonneg (by omega),← hA];rfl
     have e4:Int.tmod (Q:Int) (n:Int)=(Bb:Nat):=by rw[Int.tmod_eq_emod_of_nonneg (by omega),← hBb];rfl
     have e5:((n:Int)==0)=false:=by simp;omega
     have hAn:A<n:=by rw[← hA];exact Nat.mod_lt _ (by omega)
     have hBn:Bb<n:=by rw[← hBb];exact Nat.mod_lt _ (by omega)
     have v1:IntKind.i64.wrap (P:Int)=(P:Nat):=IntWalk.i64_in _ (by omega)
     have v2:IntKind.i64.wrap (Q:Int)=(Q:Nat):=IntWalk.i64_in _ (by omega)
     have v3:IntKind.i64.wrap (A:Int)=(A:Nat):=IntWalk.i64_in _ (by omega)
     have v4:IntKind.i64.wrap (Bb:Int)=(Bb:Nat):=IntWalk.i64_in _ (by omega)
     obtain⟨gg,hgg⟩:∃ x,Nat.gcd f n=x:=⟨_,rfl⟩
     have HGC:=Kh (fun(W:World)=>show Calls Tryz.prog 152 #[.int .i64 f,.int .i64 n] W fun e w'=>e=.returned (.int .i64 (gg:Nat))∧∃ m,w'=W.drewN m by
      have h:=c_gcd40 f n W (by omega) (by omega) (by omega) (by omega)
      rw[show Int.gcd (f:Int) (n:Int)=gg from hgg]at h
      exact h)
     have HPU:=Kh (show pun n f=decide (gg=1)by
      unfold pun
      rw[hgg]
      by_cases h:gg=1
      ·rw[h];rfl
      ·rw[decide_eq_false h];simpa using h)
     have HITF:=Kh (show gg=1→A=X→Bb=Y→T K=(j,Pl.chiR n D f)from fun h1 h2 h3=>HITJ.out f hlf (by rw[HPU.out,h1];rfl) (by rw[hP,hA,h2]) (by rw[hQ,hBb,h3]))
     have HNX:=Kh (show ¬ (gg=1∧A=X∧Bb=Y)→∀ i,i<f+1→pun n i=true→pmul n i a≠K from fun h i hi h1=>by
      rcases Nat.eq_or_lt_of_le (Nat.lt_succ_iff.1 hi)with rfl|h3
      ·refine HNOJ.out i (fun⟨g1,g2,g3⟩=>h ⟨?_,?_,?_⟩) h1
       ·rw[HPU.out]at g1;simpa using g1
       ·rw[hP,hA]at g2;exact g2
       ·rw[hQ,hBb]at g3;exact g3
      ·exact HNF.out i h3 h1)
     have hgl:gg≤120:=by
      have h1:=Nat.gcd_le_right f (show 0<n by omega)
      rw[hgg]at h1
      omega
     clear hP hQ hA hBb hgg
     by_cases g1:gg=1
     ·have d1:((gg:Int)==1)=true:=by rw[g1];rfl
      by_cases g2:A=X
      ·have d2:((A:Int)==(X:Int))=true:=by rw[g2];simp
       by_cases g3:Bb=Y
       ·have d3:((Bb:Int)==(Y:Int))=true:=by rw[g3];simp
        have HTK:=Kh (HITF.out g1 g2 g3)
        clear g1 g2 g3
        go_wp2_with fail
        go_quiet ((go_at_call 152;exact Calls.quiet_of (HGC.out _)))
        generalize hw4:w3.drewN nq=w4
        have hb4:Below w3.heap.size w3 w4:=hw4▸below_drewN' (Below.refl _ _) nq
        have HB4:=bt HB3 hb4
        clear hw4 x0 x1 x2 u0 u1
        have X4:=HX1.out.below_ HB4.out HX1.out.lt
        have x0:=X4.at_ 0 rfl
        have x1:=X4.at_ 1 rfl
        have x2:=X4.at_ 2 rfl
        clear X4 hb4
        go_wp2_with fail
        refine(HCH.out w4 f).mono ?_
        rintro e w5 ⟨rfl,hb5⟩
        have HB5:=bt HB4 hb5
        clear hb5 x0 x1 x2
        go_wp2
        (first|go_ret2|go_ret)
        exact⟨by rw[HTK.out];rfl,HBS.out▸HB1.out.trans (HB5.out.mono HB1.out.size)⟩
       ·have d3:((Bb:Int)==(Y:Int))=false:=beq_eq_false_iff_ne.2 (by omega)
        have HNK:=Kh (HNX.out (fun h=>g3 h.2.2))
        clear g1 g2 g3
        go_wp2_with fail
        go_quiet ((go_at_call 152;exact Calls.quiet_of (HGC.out _)))
        go_wp2
        go_roundw
        case rel=>exact⟨f+1,by omega,by go_num,HNK.out,below_drewN' HB3.out nq⟩
        case measure=>simp[intOf];omega
      ·have d2:((A:Int)==(X:Int))=false:=beq_eq_false_iff_ne.2 (by omega)
       have HNK:=Kh (HNX.out (fun h=>g2 h.2.1))
       clear g1 g2
       go_wp2_with fail
       go_quiet ((go_at_call 152;exact Calls.quiet_of (HGC.out _)))
       go_wp2
       go_roundw
       case rel=>exact⟨f+1,by omega,by go_num,HNK.out,below_drewN' HB3.out nq⟩
       case measure=>simp[intOf];omega
     ·have d1:((gg:Int)==1)=false:=beq_eq_false_iff_ne.2 (by omega)
      have HNK:=Kh (HNX.out (fun h=>g1 h.1))
      clear g1
      go_wp2_with fail
      go_quiet ((go_at_call 152;exact Calls.quiet_of (HGC.out _)))
      go_wp2
      go_roundw
      case rel=>exact⟨f+1,by omega,by go_num,HNK.out,below_drewN' HB3.out nq⟩
      case measure=>simp[intOf];omega
    ·obtain rfl:f=n:=by omega
     go_wp2
     go_roundw
     case rel=>exact⟨j+1,by omega,by go_num,fun i f hi h1 h2=>by
      rcases Nat.eq_or_lt_of_le (Nat.lt_succ_iff.1 hi)with rfl|h3
      ·rw[HA.out];exact HNF.out f h1 h2
      ·exact HMS.out i f h3 h1 h2,HB3.out⟩
     case measure=>simp[intOf];omega
  ·obtain rfl:j=L.length:=by omega
   have HT:=Kh (HMISS.out (fun i f hi h1 h2=>HMS.out i f hi h1 h2))
   go_wp2
   (first|go_ret2|go_ret)
   exact⟨by rw[HT.out];rfl,HBS.out▸HB1.out.trans (HB2.out.mono HB1.out.size)⟩
abbrev D2_3 (B:Nat) (w0 w:World) (a0 a1 b0 b1 b2:Addr) (v0 v1:Value):Prop:=w.cell? a0=some v0∧w.cell? a1=some v1∧w.cell? b0=some (cellOf w b0)∧w.frozen? b0=false∧w.cell? b1=some (cellOf w b1)∧w.frozen? b1=false∧w.cell? b2=some (cellOf w b2)∧w.frozen? b2=false∧Below B w0 w∧B≤w.heap.size
theorem T2_3_next {B:Nat} {w0 w w':World} {a0 a1 b0 b1 b2:Addr} {v0 v1:Value} (hb:Below w.heap.size w w') (h:D2_3 B w0 w a0 a1 b0 b1 b2 v0 v1):D2_3 B w0 w' a0 a1 b0 b1 b2 v0 v1:=TT.next (B:=B) (w0:=w0) (l:=[(a0,v0),(a1,v1)]) (m:=[b0,b1,b2]) hb h
theorem T2_3_below {B:Nat} {w0 w:World} {a0 a1 b0 b1 b2:Addr} {v0 v1:Value} (h:D2_3 B w0 w a0 a1 b0 b1 b2 v0 v1):Below B w0 w:=TT.below (B:=B) (w0:=w0) (l:=[(a0,v0),(a1,v1)]) (m:=[b0,b1,b2]) h
theorem T2_3_put {B:Nat} {w0 w:World} {a0 a1 b0 b1 b2:Addr} {v0 v1:Value} (h:D2_3 B w0 w a0 a1 b0 b1 b2 v0 v1) {p0 p1 p2:Addr} {u0 u1 u2:Value} (hp0:B≤p0.block) (hn0_0:p0.block≠a0.block) (hn0_1:p0.block≠a1.block) (hp1:B≤p1.block) (hn1_0:p1.block≠a0.block) (hn1_1:p1.block≠a1.block) (hp2:B≤p2.block) (hn2_0:p2.block≠a0.block) (hn2_1:p2.block≠a1.block):D2_3 B w0 (((w.setCell p0 u0).setCell p1 u1).setCell p2 u2) a0 a1 b0 b1 b2 v0 v1:=(TT.put (B:=B) (w0:=w0) (l:=[(a0,v0),(a1,v1)]) (m:=[b0,b1,b2]) (TT.put (B:=B) (w0:=w0) (l:=[(a0,v0),(a1,v1)]) (m:=[b0,b1,b2]) (TT.put (B:=B) (w0:=w0) (l:=[(a0,v0),(a1,v1)]) (m:=[b0,b1,b2]) h p0 u0 hp0 (by simp[*])) p1 u1 hp1 (by simp[*])) p2 u2 hp2 (by simp[*]))
theorem put4_at {w:World} {R:Nat} {v0 v1 v2 v3:Value} (h0:(w.cell? ⟨R,0,none⟩).isSome=true) (h1:(w.cell? ⟨R,1,none⟩).isSome=true) (h2:(w.cell? ⟨R,2,none⟩).isSome=true) (h3:(w.cell? ⟨R,3,none⟩).isSome=true):
  ((((w.setCell ⟨R,0,none⟩ v0).setCell ⟨R,1,none⟩ v1).setCell ⟨R,2,none⟩ v2).setCell ⟨R,3,none⟩ v3).cell? ⟨R,0,none⟩=some v0∧((((w.setCell ⟨R,0,none⟩ v0).setCell ⟨R,1,none⟩ v1).setCell ⟨R,2,none⟩ v2).setCell ⟨R,3,none⟩ v3).cell? ⟨R,1,none⟩=some v1∧((((w.setCell ⟨R,0,none⟩ v0).setCell ⟨R,1,none⟩ v1).setCell ⟨R,2,none⟩ v2).setCell ⟨R,3,none⟩ v3).cell? ⟨R,2,none⟩=some v2∧((((w.setCell ⟨R,0,none⟩ v0).setCell ⟨R,1,none⟩ v1).setCell ⟨R,2,none⟩ v2).setCell ⟨R,3,none⟩ v3).cell? ⟨R,3,none⟩=some v3:=by
 refine⟨?_,?_,?_,?_⟩
 ·rw[World.cell?_setCell_other _ _ _ _ (by simp),World.cell?_setCell_other _ _ _ _ (by simp),World.cell?_setCell_other _ _ _ _ (by simp),World.cell?_setCell_same' _ _ _ h0]
 ·rw[World.cell?_setCell_other _ _ _ _ (by simp),World.cell?_setCell_other _ _ _ _ (by simp),World.cell?_setCell_same' _ _ _ (some_put h1)]
 ·rw[World.cell?_setCell_other _ _ _ _ (by simp),World.cell?_setCell_same' _ _ _ (some_put (some_put h2))]
 ·rw[World.cell?_setCell_same' _ _ _ (some_put (some_put (some_put h3)))]
theorem c_S40 (w:World):Calls Tryz.prog 105 #[] w fun e w'=>e=.returned (.agg #[.int .i64 0,.int .i64 (-1),.int .i64 1,.int .i64 0])∧Below w.heap.size w w':=by
 go_enter Tryz.func105,Tryz.ntmps105
 go_upto_region 1 with(fail)
 obtain⟨w0,hw0,X0,hb0⟩:=bx1 w #[.int .i64 0,.int .i64 0,.int .i64 0,.int .i64 0] 97
 rw[hw0]
 have r0:=X0.at_ 0 rfl
 have r1:=X0.at_ 1 rfl
 have r2:=X0.at_ 2 rfl
 have r3:=X0.at_ 3 rfl
 have f0:=X0.free_ 0
 have f1:=X0.free_ 1
 have f2:=X0.free_ 2
 have f3:=X0.free_ 3
 have HE:=Kh (put4_at (w:=w0) (R:=w.heap.size) (v0:=.int .i64 0) (v1:=.int .i64 (-1)) (v2:=.int .i64 1) (v3:=.int .i64 0) (by rw[r0];rfl) (by rw[r1];rfl) (by rw[r2];rfl) (by rw[r3];rfl))
 go_wp2
 obtain⟨e0,e1,e2,e3⟩:=HE.out
 try simp only[Exit.inBlock,Exit.then]
 refine bodyPost_ret (by simp[results,Tryz.results105,go_sem,e0,e1,e2,e3];try rfl) rfl ?_
 exact⟨rfl,(((hb0.setCell (p:=⟨w.heap.size,0,none⟩) (Nat.le_refl _) _).setCell (p:=⟨w.heap.size,1,none⟩) (Nat.le_refl _) _).setCell (p:=⟨w.heap.size,2,none⟩) (Nat.le_refl _) _).setCell (p:=⟨w.heap.size,3,none⟩) (Nat.le_refl _) _⟩
theorem c_R40 (w:World):Calls Tryz.prog 108 #[] w fun e w'=>e=.returned (.agg #[.int .i64 0,.int .i64 (-1),.int .i64 1,.int .i64 (-1)])∧Below w.heap.size w w':=by
 go_enter Tryz.func108,Tryz.ntmps108
 go_upto_region 1 with(fail)
 obtain⟨w0,hw0,X0,hb0⟩:=bx1 w #[.int .i64 0,.int .i64 0,.int .i64 0,.int .i64 0] 97
 rw[hw0]
 have r0:=X0.at_ 0 rfl
 have r1:=X0.at_ 1 rfl
 have r2:=X0.at_ 2 rfl
 have r3:=X0.at_ 3 rfl
 have f0:=X0.free_ 0
 have f1:=X0.free_ 1
 have f2:=X0.free_ 2
 have f3:=X0.free_ 3
 have HE:=Kh (put4_at (w:=w0) (R:=w.heap.size) (v0:=.int .i64 0) (v1:=.int .i64 (-1)) (v2:=.int .i64 1) (v3:=.int .i64 (-1)) (by rw[r0];rfl) (by rw[r1];rfl) (by rw[r2];rfl) (by rw[r3];rfl))
 go_wp2
 obtain⟨e0,e1,e2,e3⟩:=HE.out
 try simp only[Exit.inBlock,Exit.then]
 refine bodyPost_ret (by simp[results,Tryz.results108,go_sem,e0,e1,e2,e3];try rfl) rfl ?_
 exact⟨rfl,(((hb0.setCell (p:=⟨w.heap.size,0,none⟩) (Nat.le_refl _) _).setCell (p:=⟨w.heap.size,1,none⟩) (Nat.le_refl _) _).setCell (p:=⟨w.heap.size,2,none⟩) (Nat.le_refl _) _).setCell (p:=⟨w.heap.size,3,none⟩) (Nat.le_refl _) _⟩
theorem c_R240 (w:World):Calls Tryz.prog 109 #[] w fun e w'=>e=.returned (.agg #[.int .i64 (-1),.int .i64 1,.int .i64 (-1),.int .i64 0])∧Below w.heap.size w w':=by
 go_enter Tryz.func109,Tryz.ntmps109
 go_upto_region 1 with(fail)
 obtain⟨w0,hw0,X0,hb0⟩:=bx1 w #[.int .i64 0,.int .i64 0,.int .i64 0,.int .i64 0] 97
 rw[hw0]
 have r0:=X0.at_ 0 rfl
 have r1:=X0.at_ 1 rfl
 have r2:=X0.at_ 2 rfl
 have r3:=X0.at_ 3 rfl
 have f0:=X0.free_ 0
 have f1:=X0.free_ 1
 have f2:=X0.free_ 2
 have f3:=X0.free_ 3
 have HE:=Kh (put4_at (w:=w0) (R:=w.heap.size) (v0:=.int .i64 (-1)) (v1:=.int .i64 1) (v2:=.int .i64 (-1)) (v3:=.int .i64 0) (by rw[r0];rfl) (by rw[r1];rfl) (by rw[r2];rfl) (by rw[r3];rfl))
 go_wp2
 obtain⟨e0,e1,e2,e3⟩:=HE.out
 try simp only[Exit.inBlock,Exit.then]
 refine bodyPost_ret (by simp[results,Tryz.results109,go_sem,e0,e1,e2,e3];try rfl) rfl ?_
 exact⟨rfl,(((hb0.setCell (p:=⟨w.heap.size,0,none⟩) (Nat.le_refl _) _).setCell (p:=⟨w.heap.size,1,none⟩) (Nat.le_refl _) _).setCell (p:=⟨w.heap.size,2,none⟩) (Nat.le_refl _) _).setCell (p:=⟨w.heap.size,3,none⟩) (Nat.le_refl _) _⟩
theorem c_Symbol (n wt:Nat) (D:Int) (L:List Nat) (C:Nat) (x:Nat) (w:World) (hck:Pl.check n ((wt:Int)+2) D=0) (hL:pts n (n*n)=L) (hC:(wt+1)*L.length=C) (hx:x<C):
  Calls Tryz.prog 169 #[.agg #[.int .i64 n,.int .i64 ((wt:Int)+2),.int .i64 D],.int .i64 x] w fun e w'=>e=.returned (.tuple #[.agg #[.int .i64 ((x / L.length:Nat):Int),.int .i64 ((L.getD (x % L.length) 0 / n:Nat):Int),.int .i64 ((L.getD (x % L.length) 0 % n:Nat):Int)],.int .i64 0])∧Below w.heap.size w w':=by
 obtain⟨h1,h2,h3,h4,h5,h6⟩:=check_zero hck
 have hLb:L.length≤14400:=by
  rw[← hL]
  exact Nat.le_trans (pts_length n (n*n)) (by have:n*n≤120*120:=Nat.mul_le_mul (by omega) (by omega);omega)
 have hCb:C≤331200:=by rw[← hC];exact Nat.mul_le_mul (by omega:wt+1≤23) hLb
 have hL0:0<L.length:=by
  rcases Nat.eq_zero_or_pos L.length with h|h
  ·rw[h,Nat.mul_zero]at hC;omega
  ·exact h
 have HCO:=Kh (fun W=>c_Count40 n wt D W hck)
 have HLI:=Kh (fun W=>c_List21 n W (by omega) (by omega))
 rw[hL]at HCO HLI
 rw[hC]at HCO
 obtain⟨l,hl⟩:∃ l,L.length=l:=⟨_,rfl⟩
 obtain⟨q,hq⟩:∃ q,x / l=q:=⟨_,rfl⟩
 obtain⟨m,hm⟩:∃ m,x % l=m:=⟨_,rfl⟩
 have hml:m<l:=by rw[← hm];exact Nat.mod_lt _ (by omega)
 obtain⟨a,ha⟩:∃ a,L.getD m 0=a:=⟨_,rfl⟩
 have ha2:L[m]?=some a:=by rw[← ha,List.getD_eq_getElem?_getD,List.getElem?_eq_getElem (by omega)];rfl
 obtain⟨U,hU⟩:∃ U,a / n=U:=⟨_,rfl⟩
 obtain⟨V,hV⟩:∃ V,a % n=V:=⟨_,rfl⟩
 have HA:=Kh ha2
 have HUV:=Kh (And.intro hU hV)
 rw[hl,hq,hm,ha,hU,hV]
 have hqx:q≤x:=by rw[← hq];exact Nat.div_le_self _ _
 have e1:Int.tdiv (x:Int) (l:Int)=(q:Nat):=by rw[Int.tdiv_eq_ediv_of_nonneg (by omega),← hq];rfl
 have e2:Int.tmod (x:Int) (l:Int)=(m:Nat):=by rw[Int.tmod_eq_emod_of_nonneg (by omega),← hm];rfl
 have e3:((l:Int)==0)=false:=beq_eq_false_iff_ne.2 (by omega)
 have e6:l≠0:=by omega
 have e7:((l:Int) == -1)=false:=beq_eq_false_iff_ne.2 (by omega)
 have v1:IntKind.i64.wrap (q:Int)=(q:Nat):=IntWalk.i64_in _ (by omega)
 have v2:IntKind.i64.wrap (m:Int)=(m:Nat):=IntWalk.i64_in _ (by omega)
 have hxi:(x:Int)<(C:Int):=by omega
 have hx0:(0:Int)≤(x:Int):=by omega
 have hmi:(m:Int)<(l:Int):=by omega
 have HL:=Kh hl
 clear hck hL hC hq hm ha ha2 hU hV hl h1 h2 h3 h4 h5 h6
 go_enter Tryz.func169,Tryz.ntmps169
 go_wp2_with fail
 obtain⟨w0,hw0,X0,X1,hb0⟩:=bx2 w #[.int .i64 n,.int .i64 ((wt:Int)+2),.int .i64 D] 23 #[.int .i64 0,.int .i64 0,.int .i64 0] 220
 rw[hw0]
 obtain⟨bs,hbs⟩:∃ y,w.heap.size=y:=⟨_,rfl⟩
 obtain⟨br,hbr⟩:∃ y,w.heap.size+1=y:=⟨_,rfl⟩
 have HBR:=Kh (And.intro hbs hbr)
 rw[hbr]at X1 ⊢
 rw[hbs]at X0 ⊢
 refine(HCO.out w0).mono ?_
 rintro e w1 ⟨rfl,hb1⟩
 have HX0:=Kh (X0.below_ hb1 X0.lt)
 have HX1:=Kh (X1.below_ hb1 X1.lt)
 have HB1:=Kh (hb0.trans (hb1.mono hb0.size))
 have x0:=HX0.out.at_ 0 rfl
 clear hw0 X0 X1 hb0 hb1 hbs hbr
 go_wp2_with fail
 refine(HLI.out w1).mono ?_
 rintro e w2 ⟨⟨v,rfl,hown⟩,hb2⟩
 have hpt:=hown.ptl
 have hge:=hown.1.2
 obtain⟨g,cap,hv,hg,hc⟩:=hpt.resolve_left (fun h=>by have:=HL.out;rw[h.1]at this;simp at this;omega)
 rw[HL.out]at hv
 subst hv
 obtain⟨u0,u1,_⟩:=hc m a HA.out
 rw[HUV.out.1]at u0
 rw[HUV.out.2]at u1
 have X2:=bk HX1 hb2
 have y0:=X2.at_ 0 rfl
 have y1:=X2.at_ 1 rfl
 have y2:=X2.at_ 2 rfl
 have g0:=X2.free_ 0
 have g1:=X2.free_ 1
 have g2:=X2.free_ 2
 have hbrl:br<w2.heap.size:=X2.lt
 have hbd:Below w.heap.size w w2:=HB1.out.trans (hb2.mono HB1.out.size)
 have hgr:br≠g:=by
  have h1:w1.heap.size≤g:=by
   rcases hge with⟨e,_⟩ |⟨g',cap',cs,e,hB,_⟩
   ·cases e
   ·cases e;exact hB
  have h2:=HX1.out.lt
  omega
 have hsw:w.heap.size≤br:=by have:=HBR.out;omega
 have HE:=Kh (fun(W:World) (k0:(W.cell? ⟨br,0,none⟩).isSome=true) (k1:(W.cell? ⟨br,1,none⟩).isSome=true) (k2:(W.cell? ⟨br,2,none⟩).isSome=true)=>put3_at (w:=W) (R:=br) (v0:=.int .i64 (q:Int)) (v1:=.int .i64 (U:Int)) (v2:=.int .i64 (V:Int)) k0 k1 k2)
 clear hb2 hown hc x0 X2 HX0 HX1 HB1 HCO HLI
 go_upto_region 7 with(fail)
 have hS1:w2.cell? ⟨g,m*3,none⟩=some (.int .i64 (U:Int))∧w2.cell? ⟨g,m*3+1,none⟩=some (.int .i64 (V:Int))∧w2.cell? ⟨br,0,none⟩=some (cellOf w2 ⟨br,0,none⟩)∧w2.frozen? ⟨br,0,none⟩=false∧w2.cell? ⟨br,1,none⟩=some (cellOf w2 ⟨br,1,none⟩)∧w2.frozen? ⟨br,1,none⟩=false∧w2.cell? ⟨br,2,none⟩=some (cellOf w2 ⟨br,2,none⟩)∧w2.frozen? ⟨br,2,none⟩=false∧Below w.heap.size w w2∧w.heap.size≤w2.heap.size:=⟨u0,u1,cellOf_some (by rw[y0];rfl),g0,cellOf_some (by rw[y1];rfl),g1,cellOf_some (by rw[y2];rfl),g2,hbd,Below.size (show Below w.heap.size w w2 from hbd)⟩
 have hS0:w2.drew.cell? ⟨g,m*3,none⟩=some (.int .i64 (U:Int))∧w2.drew.cell? ⟨g,m*3+1,none⟩=some (.int .i64 (V:Int))∧w2.drew.cell? ⟨br,0,none⟩=some (cellOf w2.drew ⟨br,0,none⟩)∧w2.drew.frozen? ⟨br,0,none⟩=false∧w2.drew.cell? ⟨br,1,none⟩=some (cellOf w2.drew ⟨br,1,none⟩)∧w2.drew.frozen? ⟨br,1,none⟩=false∧w2.drew.cell? ⟨br,2,none⟩=some (cellOf w2.drew ⟨br,2,none⟩)∧w2.drew.frozen? ⟨br,2,none⟩=false∧Below w.heap.size w w2.drew∧w.heap.size≤w2.drew.heap.size:=T2_3_next (Below.refl _ w2).drew hS1
 clear u0 u1 hbd
 have M1:True:=trivial
 go_region_held3 (fun w1=>w1.cell? ⟨g,m*3,none⟩=some (.int .i64 (U:Int))∧w1.cell? ⟨g,m*3+1,none⟩=some (.int .i64 (V:Int))∧w1.cell? ⟨br,0,none⟩=some (cellOf w1 ⟨br,0,none⟩)∧w1.frozen? ⟨br,0,none⟩=false∧w1.cell? ⟨br,1,none⟩=some (cellOf w1 ⟨br,1,none⟩)∧w1.frozen? ⟨br,1,none⟩=false∧w1.cell? ⟨br,2,none⟩=some (cellOf w1 ⟨br,2,none⟩)∧w1.frozen? ⟨br,2,none⟩=false∧Below w.heap.size w w1∧w.heap.size≤w1.heap.size)
  (first|with_reducible exact hS0 |(refine T2_3_next (Below.refl _ _).drew (T2_3_put hS1 ?_ ?_ ?_ ?_ ?_ ?_ ?_ ?_ ?_) <;> first|assumption |(dsimp only;omega))|with_reducible assumption |(refine T2_3_next (by with_reducible assumption) ?_;assumption) |(refine T2_3_put ?_ ?_ ?_ ?_ ?_ ?_ ?_ ?_ ?_ ?_ <;> first|assumption |(dsimp only;omega) |(simp;done)))
  (fail)
 all_goals go_wp2
 all_goals (try simp only[Exit.inBlock,Exit.then])
 all_goals obtain⟨e0,e1,e2⟩:=HE.out w2 (by rw[y0];rfl) (by rw[y1];rfl) (by rw[y2];rfl)
 all_goals refine bodyPost_ret (by simp[results,Tryz.results169,go_sem,e0,e1,e2];try rfl) rfl ?_
 all_goals exact⟨rfl,T2_3_below (by assumption)⟩
theorem c_Ints_eq (v1 v2:Value) (l:List Nat) (w:World) (h1:NL l w w.heap.size v1) (h2:NL l w w.heap.size v2):
  Calls Tryz.prog 26 #[v1,v2] w fun e w'=>e=.returned (.bool true)∧∃ m,w'=w.drewN m:=by
 rcases Nat.eq_zero_or_pos l.length with h0|hpos
 ·have e1:∃ a c,v1=.slice a 0 c:=by
   rcases h1 with⟨_,h⟩ |⟨g,cap,e,_⟩
   ·exact h
   ·rw[h0]at e;exact⟨_,_,e⟩
  have e2:∃ a c,v2=.slice a 0 c:=by
   rcases h2 with⟨_,h⟩ |⟨g,cap,e,_⟩
   ·exact h
   ·rw[h0]at e;exact⟨_,_,e⟩
  obtain⟨a1,c1,rfl⟩:=e1
  obtain⟨a2,c2,rfl⟩:=e2
  clear h1 h2 h0
  go_enter Tryz.func26,Tryz.ntmps26
  go_wp2
  go_loopw [5] (fun i wr=>i=.int .i64 0∧wr=w) (fun _ _=>0)
  case atStart=>exact⟨rfl,rfl⟩
  case round=>
   obtain⟨rfl,rfl⟩:=hrel
   go_wp2
   go_ret
   exact⟨rfl,0,rfl⟩
 ·obtain⟨g1,c1,rfl,_,_,hg1,r1⟩:=h1.resolve_left (fun h=>by rw[h.1]at hpos;simp at hpos)
  obtain⟨g2,c2,rfl,_,_,hg2,r2⟩:=h2.resolve_left (fun h=>by rw[h.1]at hpos;simp at hpos)
  have R1:=Kh r1
  have R2:=Kh r2
  clear h1 h2 r1 r2 hg1 hg2
  go_enter Tryz.func26,Tryz.ntmps26
  go_wp2
  go_loopw [5] (fun i wr=>∃ k:Nat,k≤l.length∧i=.int .i64 k∧∃ m,wr=w.drewN m) (fun i _=>l.length - (intOf i).toNat)
  case atStart=>exact⟨0,Nat.zero_le _,rfl,0,rfl⟩
  case round=>
   obtain⟨k,hk,rfl,m,rfl⟩:=hrel
   by_cases hlt:k<l.length
   ·have hki:(k:Int)<(l.length:Int):=by omega
    obtain⟨x,hx⟩:∃ x,l[k]?=some x:=⟨_,List.getElem?_eq_getElem hlt⟩
    have a0:=R1.out k x hx
    have b0:=R2.out k x hx
    have hxx:((x:Int) !=(x:Int))=false:=by simp
    clear hx
    go_wp2_with fail
    go_quiet (fail)
    go_wp2
    go_roundw
    case rel=>exact⟨k+1,by omega,by go_num,_,rfl⟩
    case measure=>simp[intOf];omega
   ·obtain rfl:l.length=k:=by omega
    go_wp2
    go_ret
    exact⟨rfl,_,rfl⟩
theorem c_Qs (g c n:Nat) (f:Nat→Int) (w:World) (hg:g<w.heap.size) (hc:∀ j,j<n→w.cell? ⟨g,j,none⟩=some (.int .i64 (f j))) (hf:∀ j,j<n→-2147483648≤f j∧f j≤2147483648) (hn:n≤1000000):
  Calls Tryz.prog 53 #[.slice (some ⟨g,0,none⟩) n c] w fun e w'=>(∃ v',e=.returned v'∧OwnQ (fun j=>IsQ (f j:Rat)) w' w.heap.size v' n)∧Below w.heap.size w w':=by
 have HN:=Kh (OwnQ.nil (fun j=>IsQ (f j:Rat)) w w.heap.size)
 have R1:=Kh hc
 have HF:=Kh hf
 clear hc hf
 go_enter Tryz.func53,Tryz.ntmps53
 go_wp2
 go_loopw [3,4] (fun v i wr=>∃ k:Nat,k≤n∧i=.int .i64 k∧OwnQ (fun j=>IsQ (f j:Rat)) wr w.heap.size v k∧Below w.heap.size w wr) (fun _ i _=>n - (intOf i).toNat)
 case atStart=>exact⟨0,Nat.zero_le _,rfl,HN.out,Below.refl _ _⟩
 case round=>
  obtain⟨k,hk,rfl,ho,hb⟩:=hrel
  have HO:=Kh ho
  have HB:=Kh hb
  clear ho HN
  by_cases hlt:k<n
  ·have a0:wr.cell? ⟨g,k,none⟩=some (.int .i64 (f k)):=(hb.cell (p:=⟨g,k,none⟩) hg).trans (R1.out k hlt)
   have HC:=Kh (c_Q (f k) wr (HF.out k hlt).1 (HF.out k hlt).2)
   clear hb
   go_wp2_with fail
   refine HC.out.mono ?_
   rintro e w2 ⟨⟨s,p1,i1,c1,t,q1,m,d1,rfl,hq⟩,hb2⟩
   obtain⟨xs,hK,hX⟩:=HO.out.keep (fun _=>IsQ.solid _) hb2
   have HK:=Kh hK
   have HX:=Kh hX
   have HQ:=Kh (show IsQ (f k:Rat) w2 s p1 i1 c1 t q1 m d1 from hq)
   have HB1:=bt HB hb2
   clear hK hX hq hb2 HO HB a0 HC
   go_wp2_with (at_builtin;refine wpl_app2 NotInt rfl (.tmp 11) (.tmp 17) _ 35 rfl Tryz.underlying24 ratInfo rfl (by decide) w.heap.size k u3 xs [.bool s,.slice p1 i1 c1,.bool t,.slice q1 m d1] rfl HK.out rfl rfl (one4 _ _ _ _ _ _ _ _) (by omega) (by omega) HB1.out.size (ni4 _ _ _ _ _ _ _ _) niz ?_;intro v' w' hown' hgr hat;have HO2:=Kh (OwnQ.push (W:=_) (fun _=>IsQ.solid _) HK.out HX.out HQ.out hown' hgr);have HB2:=Kh (own_below HB1.out HK.out.1 hgr (Nat.le_refl _) HB1.out.size);clear hown' hgr hat)
   go_roundw
   case rel=>exact⟨k+1,by omega,by go_num,HO2.out,HB2.out⟩
   case measure=>simp[intOf];omega
  ·obtain rfl:k=n:=by omega
   clear hb
   go_wp2
   go_ret
   exact⟨⟨_,rfl,HO.out⟩,HB.out⟩
end Go.Proofs.YthikonjlgljikaaGreatDoor
namespace Go.Proofs.YthikonjlgljikaaGreatDoor
open Go.RowKit Eli
theorem kro3 (D:Int) (l:Nat):Pl.kroP D l=0∨Pl.kroP D l=1∨Pl.kroP D l=-1:=by
 have h:-1≤Pl.kroP D l∧Pl.kroP D l≤1:=by
  unfold Pl.kroP
  dsimp only
  split
  ·omega
  ·have h:=jac_pm (l / 2 ^ Lib.ctz 64 l+1) (D % (l / 2 ^ Lib.ctz 64 l:Nat)).toNat (l / 2 ^ Lib.ctz 64 l) 1 (.inl rfl)
   split <;> omega
 omega
def relF (n wt:Nat) (D:Int) (p:Nat):Int:=relOf n wt D (p / ((wt+1)*(pts n (n*n)).length)) (p % ((wt+1)*(pts n (n*n)).length))
def cntF (n wt:Nat):Nat:=(wt+1)*(pts n (n*n)).length
def elF (n wt:Nat) (D:Int):Nat→List (Nat×Rat):=elim (cntF n wt) (rowF (cntF n wt) (relF n wt D)) (2*cntF n wt)
theorem relF_small {n wt:Nat} {D:Int} (hw:wt≤22) (p:Nat):(relF n wt D p).natAbs≤16777216:=relE_small (plAll_ok (kro3 D) n) hw _ _
theorem elF_good {n wt:Nat} {D:Int} (hw:wt≤22):Eli.Good (cntF n wt) 16777216 (elF n wt D):=Eli.Good.elim (by omega) (rowF_small (relF_small hw)) (rowF_zero _ _) _
theorem pts_zero {n:Nat} (hn:0<n):0<(pts n (n*n)).length:=by
 have key:∀ a,a<n*n→pok n a=true→plst n a=true→0<(pts n (n*n)).length:=by
  intro a h1 h2 h3
  refine List.length_pos_of_mem (a:=a) ?_
  rw[pts_filter hn _ (Nat.le_refl _),List.mem_filter]
  exact⟨List.mem_range.2 h1,by rw[h2,h3];rfl⟩
 rcases Nat.eq_or_lt_of_le (show 1≤n from hn)with rfl|h
 ·exact key 0 (by omega) (by decide) (by decide)
 ·have h1:1<n*n:=Nat.lt_of_lt_of_le h (Nat.le_mul_of_pos_left n hn)
  have hd:1 / n=0:=Nat.div_eq_of_lt h
  have hm:1 % n=1:=Nat.mod_eq_of_lt h
  refine key 1 h1 ?_ ?_
  ·unfold pok;rw[hd,hm];simp
  ·rw[plst_iff]
   intro s h2 h3 h4
   have h5:s≠n:=fun e=>by
    subst e
    unfold pun at h4
    simp only[beq_iff_eq,Nat.gcd_self]at h4
    omega
   unfold pmul
   rw[hd,hm,Nat.mul_zero,Nat.zero_mod,Nat.zero_mul,Nat.zero_add,Nat.mul_one,Nat.mod_eq_of_lt (by omega)]
   exact h2
theorem cntF_pos {n wt:Nat} (hn:0<n):0<cntF n wt:=Nat.mul_pos (by omega) (pts_zero hn)
theorem c_New (n wt:Nat) (D:Int) (w:World) (hT:Tab w) (hck:Pl.check n ((wt:Int)+2) D=0) (hC:cntF n wt≤72):
  Calls Tryz.prog 19 #[.agg #[.int .i64 n,.int .i64 ((wt:Int)+2),.int .i64 D]] w fun e w'=>(∃ M,e=.returned (.tuple #[.pointer (some ⟨M,0,none⟩),.int .i64 0])∧w.heap.size≤M∧ModAt w' M w'.heap.size n ((wt:Int)+2) D (frs (elF n wt D) (cntF n wt)) (cntF n wt) (crd (elF n wt D) (cntF n wt) (cntF n wt)))∧Below w.heap.size w w':=by
 obtain⟨h1,h2,h3,h4,h5,h6⟩:=check_zero hck
 exact c_New_ok n ((wt:Int)+2) D (2*cntF n wt) (cntF n wt) (relF n wt D) w (fun w1 hb=>c_Relations_ok n wt D (pts n (n*n)) (cntF n wt) w1 (hT.below hb) (by omega) (by omega) (by omega) (by omega) (by omega) hck (kro3 D) rfl rfl (cntF_pos (by omega)) hC) (by omega) (cntF_pos (by omega)) hC (relF_small (by omega))
theorem coord_size {n wt:Nat} {D:Int} (hw:wt≤22) (hC:cntF n wt≤72) {j f:Nat} (hj:j<cntF n wt) (hf:f∈frs (elF n wt D) (cntF n wt)):hq (crd (elF n wt D) (cntF n wt) (cntF n wt) j f)≤80:=by
 obtain⟨h1,h2⟩:=frs_mem.1 hf
 exact Nat.le_trans (crd_size (by omega) (elF_good hw) (by omega) (Nat.le_refl _) hj h1 h2) (top_72 hC (Nat.le_refl _))
theorem aw_frs:frs (elF 1 2 1) (cntF 1 2)=[2]:=by decide +kernel
theorem aw_crd:crd (elF 1 2 1) (cntF 1 2) (cntF 1 2) 0 2=-1:=by decide +kernel
theorem aw_cnt:cntF 1 2=3:=by decide +kernel
theorem aw_check:Pl.check ((1:Nat):Int) (((2:Nat):Int)+2) 1=0:=by decide +kernel
theorem c_awake (w:World) (hT:Tab w):
  Calls Tryz.prog 17 #[] w fun e w'=>e=.returned (.bool true)∧Below w.heap.size w w':=by
 have HNW:=Kh (show ∀ W,Below w.heap.size w W→Calls Tryz.prog 19 #[.agg #[.int .i64 1,.int .i64 4,.int .i64 1]] W fun e w'=>(∃ M,e=.returned (.tuple #[.pointer (some ⟨M,0,none⟩),.int .i64 0])∧W.heap.size≤M∧ModAt w' M w'.heap.size 1 4 1 [2] 3 (crd (elF 1 2 1) 3 3))∧Below W.heap.size W w' from fun W hb=>by
  have h:=c_New 1 2 1 W (hT.below hb) aw_check (by rw[aw_cnt];omega)
  rw[aw_frs,aw_cnt]at h
  exact h)
 obtain⟨X,hX⟩:∃ X,crd (elF 1 2 1) 3 3=X:=⟨_,rfl⟩
 have HX:=Kh (show X 0 2=-1 by have h:=aw_crd;rw[aw_cnt,hX]at h;exact h)
 rw[hX]at HNW
 clear hT hX
 go_enter Tryz.func17,Tryz.ntmps17
 go_wp2_with fail
 refine(HNW.out w (Below.refl _ w)).mono ?_
 rintro e w1 ⟨⟨M,rfl,hM,hmod⟩,hb1⟩
 have HM1:=Kh hmod
 have HB1:=Kh hb1
 clear hM hmod hb1 HNW
 go_wp2_with fail
 refine(c_Reduce M w1.heap.size 1 4 1 [2] 3 X 0 w1 HM1.out (by omega) (by decide) (fun f hf=>by
  simp only[List.mem_singleton]at hf
  subst hf
  rw[HX.out];decide)).mono ?_
 rintro e w2 ⟨⟨g,rfl,hg,hrow⟩,hb2⟩
 have HR2:=Kh (show QRow (fun _=>IsQ (-1)) w2 g 1 1 from QRow.congr hrow (fun j hj=>by
  have hj':j<1:=hj
  obtain rfl:j=0:=by omega
  show IsQ (X 0 2)=_
  rw[HX.out]))
 have HM2:=Kh (HM1.out.keep (Nat.le_refl _) hb2)
 have HB2:=bt HB1 hb2
 have HS2:=Kh hb2.size
 clear hg hrow hb2 HM1 HB1
 go_wp2_with fail
 refine(c_Dim M w1.heap.size 1 4 1 [2] 3 X w2 HM2.out).mono ?_
 rintro e w3 ⟨rfl,hw⟩
 rw[hw]
 clear hw
 go_wp2_with fail
 refine(c_Free M w1.heap.size 1 4 1 [2] 3 X w2 HM2.out (by decide)).mono ?_
 rintro e w3 ⟨⟨v,rfl,hown⟩,hb3⟩
 obtain⟨p,c,rfl⟩:=own_slice hown.1
 have HO3:=Kh hown
 have HR3:=Kh (QRow.keep (fun _=>IsQ.solid _) HR2.out hb3)
 have HB3:=bt HB2 hb3
 clear hown hb3 HR2 HB2 HM2 HS2
 go_wp2_with fail
 obtain⟨w4,hw4,X4,hb4⟩:=bx1 w3 #[.int .i64 2] 3
 rw[hw4]
 have HN1:=Kh ((HO3.out.keep hb4).nl)
 have HN2:=Kh (show NL [2] w4 w4.heap.size (.slice (some ⟨w3.heap.size,0,none⟩) 1 1)from .inr ⟨w3.heap.size,1,rfl,Nat.le_refl _,by omega,X4.lt,fun j x hj=>by
  rcases j with _|j
  ·injection hj with hj;subst hj;exact X4.at_ 0 rfl
  ·cases hj⟩)
 have HR4:=Kh (QRow.keep (fun _=>IsQ.solid _) HR3.out hb4)
 have HB4:=bt HB3 hb4
 clear hw4 X4 hb4 HO3 HR3 HB3
 refine(c_Ints_eq _ _ [2] w4 HN1.out HN2.out).mono ?_
 rintro e w5 ⟨rfl,m,rfl⟩
 have hb5:Below w4.heap.size w4 (w4.drewN m):=below_drewN' (Below.refl _ _) m
 generalize w4.drewN m=w5 at hb5 ⊢
 have HR5:=Kh (QRow.keep (fun _=>IsQ.solid _) HR4.out hb5)
 have HB5:=bt HB4 hb5
 clear hb5 HN1 HN2 HR4 HB4
 go_wp2_with fail
 obtain⟨w6,hw6,X6,hb6⟩:=bx1 w5 #[.int .i64 (-1)] 3
 rw[hw6]
 have HR6:=Kh (QRow.keep (fun _=>IsQ.solid _) HR5.out hb6)
 have HB6:=bt HB5 hb6
 refine(c_Qs w5.heap.size 1 1 (fun _=>-1) w6 X6.lt (fun j hj=>by
  obtain rfl:j=0:=by omega
  exact X6.at_ 0 rfl) (fun j _=>by omega) (by omega)).mono ?_
 rintro e w7 ⟨⟨v7,rfl,hq7⟩,hb7⟩
 have HR7:=Kh ((QRow.keep (fun _=>IsQ.solid _) HR6.out hb7).ql 1)
 have HQ7:=Kh (show QL (fun _=>IsQ (-1)) w7 v7 1 from hq7.ql)
 have HB7:=bt HB6 hb7
 clear hw6 X6 hb6 hq7 hb7 HR5 HB5 HR6 HB6
 go_wp2_with fail
 refine(c_SameRats_eq _ _ 1 (fun _=>-1) w7 HR7.out HQ7.out (by omega) (fun j _=>by decide)).mono ?_
 rintro e w8 ⟨rfl,hb8⟩
 have HB8:=bt HB7 hb8
 clear hb8 HR7 HQ7 HB7
 go_wp2
 go_ret
 exact⟨rfl,HB8.out⟩
end Go.Proofs.YthikonjlgljikaaGreatDoor
