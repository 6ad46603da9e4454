/- lower, large, valid and modules of halfplanelaw47; what Down returns where there is no map. -/
import Derived.Test.YtenlbhlllgppmaaGreatDoorQ32
set_option linter.unusedSimpArgs false
set_option maxRecDepth 100000
set_option maxHeartbeats 8000000
namespace Go.Proofs.YtenlbhlllgppmaaGreatDoor
section
open Go.RowKit Eli Tryz
theorem Iz (N k D L T:Int) (w:World):
  Calls prog 28 #[.agg #[.int .i64 N,.int .i64 k,.int .i64 D,.int .i64 L,.int .i64 T]] w λe w'=>e=.returned (.agg #[.int .i64 L,.int .i64 k,.int .i64 D])/\Below w.heap.size w w':=by
 go_enter func28,ntmps28
 go_wp2_with fail
 have I:=Kh (((Below.refl w.heap.size w).alloc (kT _) (.cells #[.int .i64 N,.int .i64 k,.int .i64 D,.int .i64 L,.int .i64 T] 44)).alloc (by simp) (.cells #[.int .i64 L,.int .i64 k,.int .i64 D] 23));have H:=Blk.new (w.alloc (.cells #[.int .i64 N,.int .i64 k,.int .i64 D,.int .i64 L,.int .i64 T] 44)) 23 #[.int .i64 L,.int .i64 k,.int .i64 D];have V:(w.alloc (.cells #[.int .i64 N,.int .i64 k,.int .i64 D,.int .i64 L,.int .i64 T] 44)).heap.size=w.heap.size+1:=by simp
 rw[V]at H;have J:=H.at_ 0 rfl;have O:=H.at_ 1 rfl;have U:=H.at_ 2 rfl;try simp only[Exit.inBlock,Exit.then]
 refine bodyPost_ret (by simp[results,results28,go_sem,J,O,U];try rfl) rfl ?_;exact⟨rfl,I.1⟩
theorem Eb (N k D:Int):∃I:Bool,(∀W,Calls prog 10 #[.agg #[.int .i64 N,.int .i64 k,.int .i64 D]] W λe w'=>e=.returned (.bool I)/\Below W.heap.size W w')/\(I=false->∀n wt:Nat,N=n->k=(wt:Int)+2->Pl.check N k D=0->cntF n wt<=72):=by
 by_cases hck:Pl.check N k D=0
 ·obtain⟨Y,Z,h3,h4,_,_⟩:=Aj hck
  obtain⟨n,rfl⟩:∃n:Nat,N=n:=⟨N.toNat,by omega⟩
  obtain⟨wt,rfl⟩:∃wt:Nat,k=(wt:Int)+2:=⟨(k - 2).toNat,by omega⟩
  refine⟨_,λW=>Zp n wt D W hck,λJ O H U V _=>?_⟩;obtain rfl:n=O:=by omega
  obtain rfl:wt=H:=by omega
  have h:=of_decide_eq_false J;unfold cntF;omega
 ·exact⟨false,λW=>Oi N k D W hck,λ_ n wt _ _ h=>absurd h hck⟩
theorem Lw (N k D:Int) (W:World):Calls prog 46 #[.agg #[.int .i64 N,.int .i64 k,.int .i64 D]] W λe w'=>(∃c:Int,e=.returned (.tuple #[.int .i64 c,.int .i64 (Pl.check N k D)]))/\Below W.heap.size W w':=by
 by_cases hck:Pl.check N k D=0
 ·obtain⟨I,J,O,U,_,_⟩:=Aj hck
  obtain⟨n,rfl⟩:∃n:Nat,N=n:=⟨N.toNat,by omega⟩
  obtain⟨wt,rfl⟩:∃wt:Nat,k=(wt:Int)+2:=⟨(k - 2).toNat,by omega⟩
  refine(Lm n wt D W hck).mono ?_;rintro e w' ⟨rfl,H⟩;exact⟨⟨_,by rw[hck]⟩,H⟩
 ·refine(F6 N k D W hck).mono ?_
  rintro e w' ⟨rfl,H⟩;exact⟨⟨0,rfl⟩,H⟩
theorem Jw (N k D L T:Int) (lb aJ:Bool) (w:World) (H1:∀W,Calls prog 10 #[.agg #[.int .i64 N,.int .i64 k,.int .i64 D]] W λe w'=>e=.returned (.bool lb)/\Below W.heap.size W w') (H2:∀W,Calls prog 10 #[.agg #[.int .i64 L,.int .i64 k,.int .i64 D]] W λe w'=>e=.returned (.bool aJ)/\Below W.heap.size W w'):
  Calls prog 19 #[.agg #[.int .i64 N,.int .i64 k,.int .i64 D,.int .i64 L,.int .i64 T]] w λe w'=>e=.returned (.bool (lb||aJ))/\Below w.heap.size w w':=by
 have HA:=Kh H1;have HC:=Kh H2;clear H1 H2;go_enter func19,ntmps19
 go_wp2_with fail
 obtain⟨w0,aD,XP,Z⟩:=bx1 w #[.int .i64 N,.int .i64 k,.int .i64 D,.int .i64 L,.int .i64 T] 44;rw[aD];obtain⟨gp,V⟩:∃x,w.heap.size=x:=⟨_,rfl⟩
 have Y:=Kh Z;rw[V]at XP;try rw[V]
 have H:=Kh XP;clear aD XP Z V;have p0:=H.1.at_ 0 rfl;have p1:=H.1.at_ 1 rfl;have p2:=H.1.at_ 2 rfl;have p3:=H.1.at_ 3 rfl;have p4:=H.1.at_ 4 rfl;go_wp2_with fail
 refine(HA.1 w0).mono ?_;rintro e w1 ⟨rfl,O⟩;have I:=Kh (bk H O);have J:=bt Y O;clear O H Y p0 p1 p2 p3 p4;have p0:=I.1.at_ 0 rfl;have p1:=I.1.at_ 1 rfl;have p2:=I.1.at_ 2 rfl;have p3:=I.1.at_ 3 rfl;have p4:=I.1.at_ 4 rfl;cases lb with
 | true=>
  go_wp2;go_ret;exact⟨rfl,J.1⟩
 | false=>
  go_wp2_with fail
  refine(Iz N k D L T w1).mono ?_;rintro e w2 ⟨rfl,U⟩;have cB:=Kh (bk I U);have aK:=bt J U;clear U I J p0 p1 p2 p3 p4;go_wp2_with fail
  refine(HC.1 w2).mono ?_;rintro e w3 ⟨rfl,h⟩;have aL:=bt aK h;clear h;go_wp2;go_ret;exact⟨rfl,aL.1⟩
theorem J0 (N k D L T:Int) (w:World):
  Calls prog 20 #[.agg #[.int .i64 N,.int .i64 k,.int .i64 D,.int .i64 L,.int .i64 T]] w λe w'=>e=.returned (.bool (decide (Pl.check N k D=0/\Pl.check L k D=0)))/\Below w.heap.size w w':=by
 have HA:=Kh (λW=>Lw N k D W);have HC:=Kh (λW=>Lw L k D W);obtain⟨e1,aT⟩:∃x,Pl.check N k D=x:=⟨_,rfl⟩
 obtain⟨e2,aU⟩:∃x,Pl.check L k D=x:=⟨_,rfl⟩
 rw[aT]at HA ⊢;rw[aU]at HC ⊢;clear aT aU;go_enter func20,ntmps20
 go_wp2_with fail
 obtain⟨w0,aX,XP,aL⟩:=bx1 w #[.int .i64 N,.int .i64 k,.int .i64 D,.int .i64 L,.int .i64 T] 44;rw[aX];obtain⟨gp,Y⟩:∃x,w.heap.size=x:=⟨_,rfl⟩
 have Z:=Kh aL;rw[Y]at XP;try rw[Y]
 have H:=Kh XP;clear aX XP aL Y;have p0:=H.1.at_ 0 rfl;have p1:=H.1.at_ 1 rfl;have p2:=H.1.at_ 2 rfl;have p3:=H.1.at_ 3 rfl;have p4:=H.1.at_ 4 rfl;go_wp2_with fail
 refine(HA.1 w0).mono ?_;rintro e w1 ⟨⟨c1,rfl⟩,U⟩;have I:=Kh (bk H U);have aD:=bt Z U;clear U H Z p0 p1 p2 p3 p4;have p0:=I.1.at_ 0 rfl;have p1:=I.1.at_ 1 rfl;have p2:=I.1.at_ 2 rfl;have p3:=I.1.at_ 3 rfl;have p4:=I.1.at_ 4 rfl;go_wp2_with fail
 refine(Iz N k D L T w1).mono ?_;rintro e w2 ⟨rfl,V⟩;have cG:=Kh (bk I V);have bA:=bt aD V;clear V I aD p0 p1 p2 p3 p4;go_wp2_with fail
 refine(HC.1 w2).mono ?_;rintro e w3 ⟨⟨c2,rfl⟩,aN⟩;have O:=bt bA aN;clear aN;by_cases h1:e1=0
 ·have bC:(e1==0)=true:=by simpa using h1
  by_cases h2:e2=0
  ·have bE:(e2==0)=true:=by simpa using h2
   have J:=Kh (And.intro h1 h2);clear h1 h2;go_wp2;go_ret;exact⟨Ca (decide_eq_true J.1).symm,O.1⟩
  ·have bE:(e2==0)=false:=by simpa using h2
   have J:=Kh (show ¬(e1=0/\e2=0)from λh=>h2 h.2);clear h1 h2;go_wp2;go_ret;exact⟨Ca (decide_eq_false J.1).symm,O.1⟩
 ·have bC:(e1==0)=false:=by simpa using h1
  have J:=Kh (show ¬(e1=0/\e2=0)from λh=>h1 h.1);clear h1;go_wp2;go_ret;exact⟨Ca (decide_eq_false J.1).symm,O.1⟩
theorem Gg (n wt n':Nat) (D T:Int) (w:World) (hT:Tab w) (bC:Pl.check n ((wt:Int)+2) D=0) (U:Pl.check n' ((wt:Int)+2) D=0) (hC:cntF n wt<=72) (aT:cntF n' wt<=72):
  Calls prog 21 #[.agg #[.int .i64 n,.int .i64 ((wt:Int)+2),.int .i64 D,.int .i64 n',.int .i64 T]] w λe w'=>(∃M M',e=.returned (.tuple #[.pointer (some ⟨M,0,none⟩),.pointer (some ⟨M',0,none⟩),.bool true])/\ModR w' M n wt D (frs (Cb n wt D) (cntF n wt)) (cntF n wt) (Bk (Cb n wt D) (cntF n wt) (cntF n wt))/\ModR w' M' n' wt D (frs (Cb n' wt D) (cntF n' wt)) (cntF n' wt) (Bk (Cb n' wt D) (cntF n' wt) (cntF n' wt)))/\Below w.heap.size w w':=by
 have HA:=Kh (λW (hb:Below w.heap.size w W)=>Mu n wt D W (hT.below hb) bC hC);have HC:=Kh (λW (hb:Below w.heap.size w W)=>Mu n' wt D W (hT.below hb) U aT);obtain⟨F,hF⟩:∃F,frs (Cb n wt D) (cntF n wt)=F:=⟨_,rfl⟩
 obtain⟨X,hX⟩:∃X,Bk (Cb n wt D) (cntF n wt) (cntF n wt)=X:=⟨_,rfl⟩
 obtain⟨F',aX⟩:∃F,frs (Cb n' wt D) (cntF n' wt)=F:=⟨_,rfl⟩
 obtain⟨X',bA⟩:∃X,Bk (Cb n' wt D) (cntF n' wt) (cntF n' wt)=X:=⟨_,rfl⟩
 obtain⟨C,aU⟩:∃C,cntF n wt=C:=⟨_,rfl⟩
 obtain⟨C',O⟩:∃C,cntF n' wt=C:=⟨_,rfl⟩
 rw[hF,hX,aU]at HA ⊢;rw[aX,bA,O]at HC ⊢;clear hT bC U hC aT hF hX aX bA aU O;obtain⟨N,hN⟩:∃N:Int,(n:Int)=N:=⟨_,rfl⟩
 obtain⟨L,hL⟩:∃N:Int,(n':Int)=N:=⟨_,rfl⟩
 obtain⟨k,hk⟩:∃k:Int,(wt:Int)+2=k:=⟨_,rfl⟩
 rw[hN,hk]at HA ⊢;rw[hL,hk]at HC;rw[hL];clear hN hL hk;go_enter func21,ntmps21
 go_wp2_with fail
 obtain⟨w0,bY,XP,bB⟩:=bx1 w #[.int .i64 N,.int .i64 k,.int .i64 D,.int .i64 L,.int .i64 T] 44;rw[bY];obtain⟨gp,h⟩:∃x,w.heap.size=x:=⟨_,rfl⟩
 have V:=Kh bB;rw[h]at XP;try rw[h]
 have H:=Kh XP;clear bY XP bB h;have p0:=H.1.at_ 0 rfl;have p1:=H.1.at_ 1 rfl;have p2:=H.1.at_ 2 rfl;have p3:=H.1.at_ 3 rfl;have p4:=H.1.at_ 4 rfl;go_wp2_with fail
 refine(HA.1 w0 V.1).mono ?_;rintro e w1 ⟨⟨M,rfl,hm⟩,Y⟩;have aK:=Kh hm;clear hm;have I:=Kh (bk H Y);have aD:=bt V Y;clear Y H V p0 p1 p2 p3 p4;have p0:=I.1.at_ 0 rfl;have p1:=I.1.at_ 1 rfl;have p2:=I.1.at_ 2 rfl;have p3:=I.1.at_ 3 rfl;have p4:=I.1.at_ 4 rfl;go_wp2_with fail
 refine(Iz N k D L T w1).mono ?_;rintro e w2 ⟨rfl,J⟩;have aL:=Kh (aK.1.keep J);clear aK;have gP:=Kh (bk I J);have aJ:=bt aD J;clear J I aD p0 p1 p2 p3 p4;go_wp2_with fail
 refine(HC.1 w2 aJ.1).mono ?_;rintro e w3 ⟨⟨M',rfl,hm⟩,Z⟩;have cD:=Kh (aL.1.keep Z);have aN:=Kh hm;have cB:=bt aJ Z;clear Z hm aL;go_wp2;try simp only[Exit.inBlock,Exit.then]
 refine bodyPost_ret (by simp[results,results21,go_sem];try rfl) rfl ?_;exact⟨⟨M,M',rfl,cD.1,aN.1⟩,cB.1⟩
theorem Js {M M' n n' wt:Nat} {D T:Int} {F F':List Nat} {C C':Nat} {X X':Nat->Nat->Rat} (w:World) (hm:ModR w M n wt D F C X) (cB:ModR w M' n' wt D F' C' X') (hY:-9223372036854775808<=T) (hZ:T<=9223372036854775807) (hd:¬(0<T/\n'*T.toNat∣n)):
  Calls prog 22 #[.pointer (some ⟨M,0,none⟩),.pointer (some ⟨M',0,none⟩),.int .i64 T] w λe w'=>(∃er:Int,er≠0/\e=.returned (.tuple #[.agg #[.int .i64 0,.int .i64 0,.slice none 0 0],.int .i64 er]))/\Below w.heap.size w w':=by
 have bY:=hm.check;have aL:=cB.check;have hJ:0<n:=by have:=Aj bY;omega
 have gL:0<n':=by have:=Aj aL;omega
 have I:n<=120:=by have:=Aj bY;omega
 have cF:=Kh (λW (hb:Below w.heap.size w W)=>Ge M W.heap.size n ((wt:Int)+2) D F C X W (hm.keep hb).mod (kT _));have aK:=Kh (λW (hb:Below w.heap.size w W)=>Ge M' W.heap.size n' ((wt:Int)+2) D F' C' X' W (cB.keep hb).mod (kT _));obtain⟨r,hr⟩:∃r,n % n'=r:=⟨_,rfl⟩
 obtain⟨q,hq⟩:∃q,n / n'=q:=⟨_,rfl⟩
 have m1:(n:Int).tmod (n':Int)=(r:Int):=by rw[Int.tmod_eq_emod_of_nonneg (by omega),<-hr];rfl
 have m2:(n:Int).tdiv (n':Int)=(q:Int):=by rw[Int.tdiv_eq_ediv_of_nonneg (by omega),<-hq];rfl
 have hL:q<=120:=by rw[<-hq];exact kU (Nat.div_le_self _ _) I
 have V:r<=120:=by rw[<-hr];exact kU (Nat.mod_le _ _) I
 have m3:IntKind.i64.wrap (r:Int)=(r:Int):=IntWalk.i64_in _ (by omega);have m4:IntKind.i64.wrap (q:Int)=(q:Int):=IntWalk.i64_in _ (by omega)
 have bE:r≠0∨(r=0/\(T<1∨(¬T<1/\(q:Int).tmod T≠0))):=by
  rcases Nat.eq_zero_or_pos r with h0|h0
  ·refine .inr ⟨h0,?_⟩
   by_cases h1:T<1
   ·exact .inl h1
   ·refine .inr ⟨h1,λh2=>hd ⟨by omega,?_⟩⟩
    obtain⟨t,rfl⟩:∃t:Nat,T=t:=⟨T.toNat,by omega⟩
    rw[Int.tmod_eq_emod_of_nonneg (by omega)]at h2;have h3:q % t=0:=by omega
    rw[Int.toNat_natCast];have h4:n=n'*q:=by rw[<-hq];exact(Nat.mul_div_cancel' (Nat.dvd_of_mod_eq_zero (by omega))).symm
    rw[h4];exact Nat.mul_dvd_mul_left n' (Nat.dvd_of_mod_eq_zero h3)
  ·exact .inl (by omega)
 have aJ:∀(_:¬T<1),∃z:Int,(q:Int).tmod T=z/\0<=z/\z<=120:=λh=>⟨_,rfl,Int.tmod_nonneg _ (by omega),by
  rw[Int.tmod_eq_emod_of_nonneg (by omega)]
  have h2:(q:Int) % T<=q:=by
   rcases(show(q:Int)<T∨T<=q by omega)with h3|h3
   ·rw[Int.emod_eq_of_lt (by omega) h3];exact Int.le_refl _
   ·have:=Int.emod_lt_of_pos (q:Int) (show 0<T by omega);omega
  omega⟩
 have kY:(n':Int)≠0:=by omega
 have hR:¬(n':Int)<1:=by omega
 clear bY aL hm cB hd hq hr hJ gL I;go_enter func22,ntmps22
 go_wp2_with fail
 obtain⟨w0,gN,X0,gF⟩:=bx1 w #[.int .i64 0,.int .i64 0,.slice none 0 0] 32;rw[gN];obtain⟨gr,aD⟩:∃x,w.heap.size=x:=⟨_,rfl⟩
 have aX:=Kh aD;rw[aD]at X0;try rw[aD]
 have cG:=Kh X0;have aN:=Kh gF;clear gN X0 gF aD;refine(cF.1 w0 aN.1).mono ?_;rintro e w1 ⟨rfl,bB⟩;have cT:=Kh (bk cG bB);have aT:=bt aN bB;clear bB cG aN cF;go_wp2_with fail
 refine(aK.1 w1 aT.1).mono ?_;rintro e w2 ⟨rfl,bC⟩;have cX:=Kh (bk cT bC);have cD:=bt aT bC;clear bC cT aT aK;go_upto_region 4 with(fail)
 obtain⟨w3,gP⟩:∃w3,(w2.alloc (.cells #[.int .i64 n,.int .i64 ((wt:Int)+2),.int .i64 D] 23)).alloc (.cells #[.int .i64 n',.int .i64 ((wt:Int)+2),.int .i64 D] 23)=w3:=⟨_,rfl⟩
 obtain⟨S3,O,Z⟩:=Oc w2 #[.int .i64 n,.int .i64 ((wt:Int)+2),.int .i64 D] 23 #[.int .i64 n',.int .i64 ((wt:Int)+2),.int .i64 D] 23;rw[gP]at S3 O Z ⊢;obtain⟨gs,cA⟩:∃x,w2.heap.size=x:=⟨_,rfl⟩
 obtain⟨hU,U⟩:∃x,w2.heap.size+1=x:=⟨_,rfl⟩
 rw[U]at O;rw[cA]at S3;try rw[U]
 try rw[cA]
 have Y:=bk cX Z;have J:=bt cD Z;have s0:=S3.at_ 0 rfl;have s1:=S3.at_ 1 rfl;have s2:=S3.at_ 2 rfl;have r0:=O.at_ 0 rfl;have r1:=O.at_ 1 rfl;have r2:=O.at_ 2 rfl;have x0:=Y.at_ 0 rfl;have x1:=Y.at_ 1 rfl;have x2:=Y.at_ 2 rfl;have f0:=Y.free_ 0;have f1:=Y.free_ 1;have f2:=Y.free_ 2;have iL:((wt:Int) !=(wt:Int))=false:=by simp
 have hP:(((wt:Int)+2) !=((wt:Int)+2))=false:=by simp
 have hW:(D != D)=false:=by simp
 clear gP S3 O Z cA U cX cD;have H:=Kh (C1 (w:=w3) (R:=gr) (v0:=.int .i64 0) (v1:=.int .i64 0) (v2:=.slice none 0 0) (by rw[x0];rfl) (by rw[x1];rfl) (by rw[x2];rfl));have aU:=Kh (((Ai w3 gr 0 (.int .i64 0)).trans (Ai _ gr 1 (.int .i64 0))).trans (Ai _ gr 2 (.slice none 0 0)));have hT:=Kh (Y);rcases bE with h1 |⟨rfl,h1 |⟨h1,h2⟩⟩
 ·have h3:(((r:Nat):Int) != 0)=true:=by simp;omega
  clear h1 aJ Y;go_wp2;have e0:=H.1.1;have e1:=H.1.2.1;have e2:=H.1.2.2;try simp only[Exit.inBlock,Exit.then]
  refine bodyPost_ret (by simp[results,results22,go_sem,e0,e1,e2];try rfl) rfl ?_;exact⟨⟨_,by decide,rfl⟩,An J.1 aU.1 J.1.size (by have:=aX.1;omega)⟩
 ·have hM:(n:Int).tmod (n':Int)=0:=m1
  clear aJ Y m1 m3 V m2 m4;go_wp2;have e0:=H.1.1;have e1:=H.1.2.1;have e2:=H.1.2.2;try simp only[Exit.inBlock,Exit.then]
  refine bodyPost_ret (by simp[results,results22,go_sem,e0,e1,e2];try rfl) rfl ?_;exact⟨⟨_,by decide,rfl⟩,An J.1 aU.1 J.1.size (by have:=aX.1;omega)⟩
 ·obtain⟨z,hz,lA,lB⟩:=aJ h1
  rw[hz]at h2;have lD:IntKind.i64.wrap z=z:=IntWalk.i64_in _ (by omega);have lC:(z != 0)=true:=by simpa using h2
  have hX:T≠0:=by omega
  have hM:(n:Int).tmod (n':Int)=0:=m1;clear aJ Y m1 m3 V;go_wp2;have e0:=H.1.1;have e1:=H.1.2.1;have e2:=H.1.2.2;try simp only[Exit.inBlock,Exit.then]
  refine bodyPost_ret (by simp[results,results22,go_sem,e0,e1,e2];try rfl) rfl ?_;exact⟨⟨_,by decide,rfl⟩,An J.1 aU.1 J.1.size (by have:=aX.1;omega)⟩
theorem Oj (R C:Int) (v1 v2:Value) (n:Nat) (f:Nat->Rat) (w:World) (Z:QL (λj=>IsQ (f j)) w v1 n) (h:QL (λj=>IsQ (f j)) w v2 n) (hn:n<=1000000) (hf:∀j,j<n->hq (f j)<=35184372088830):
  Calls prog 17 #[.agg #[.int .i64 R,.int .i64 C,v1],.agg #[.int .i64 R,.int .i64 C,v2]] w λe w'=>e=.returned (.bool true)/\Below w.heap.size w w':=by
 obtain⟨p1,c1,rfl⟩:=Fk Z;obtain⟨p2,c2,rfl⟩:=Fk h;have Y:=Kh (λW (hb:Below w.heap.size w W)=>Dz (.slice p1 n c1) (.slice p2 n c2) n f W (Z.keep (λ_=>IsQ.solid _) hb) (h.keep (λ_=>IsQ.solid _) hb) hn hf);clear Z h hf;go_enter func17,ntmps17
 go_upto_region 1 with(fail)
 obtain⟨w0,J,O,U,H⟩:=bx2 w #[.int .i64 R,.int .i64 C,.slice p1 n c1] 32 #[.int .i64 R,.int .i64 C,.slice p2 n c2] 32;rw[J];have a0:=O.at_ 0 rfl;have a1:=O.at_ 1 rfl;have a2:=O.at_ 2 rfl;have b0:=U.at_ 0 rfl;have b1:=U.at_ 1 rfl;have b2:=U.at_ 2 rfl;clear J O U;go_wp2_with fail
 refine(Y.1 w0 H).mono ?_;rintro e w1 ⟨rfl,I⟩;have V:=Kh (H.trans (I.mono H.size));clear I H a0 a1 a2 b0 b1 b2;go_wp2;go_ret;exact⟨rfl,V.1⟩
end
section
open Go.RowKit
theorem OwnQ.fromO {F:Nat->FP} {w:World} {B n:Nat} {p:Option Addr} {c:Nat} (h:OwnQ F w B (.slice p n c) n):∀a,p=some a->B<=a.block:=by
 intro a I;rcases h.row with⟨_,H⟩ |⟨g,cap,H,hB,_⟩
 ·injection H with h2
  rw[I]at h2;cases h2
 ·injection H with h2
  rw[I]at h2;injection h2 with h2
  rw[h2];exact hB
end
end Go.Proofs.YtenlbhlllgppmaaGreatDoor
