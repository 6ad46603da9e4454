/- projline.find, normal, Normal, Index at a listed point. -/
import Derived.Test.YtenlbhlllgppmaaGreatDoorA29
set_option linter.unusedSimpArgs false
set_option maxRecDepth 100000
set_option maxHeartbeats 8000000
namespace Go.Proofs.YtenlbhlllgppmaaGreatDoor
section
open Go.RowKit Eli Tryz
theorem lM (n p a u v:Nat) (w:World) (h0:0<n) (hn:n<=120) (hp:p<(pts n (n*n)).length) (ha:(pts n (n*n)).getD p 0=a) (hu:a / n=u) (hv:a % n=v):
  Calls prog 155 #[.int .i64 n,.agg #[.int .i64 (u:Int),.int .i64 (v:Int),.int .i64 1]] w λe w'=>e=.returned (.int .i64 p)/\Below w.heap.size w w':=by
 have HS:=Kh (λg cap W I=>V7 n p a u v g cap (pts n (n*n)) W h0 hn (mH (B6 n (n*n)) (Nat.mul_le_mul hn hn)) (λi j h1 h2=>fE h0 h1 h2) hp ha hu hv I);have J:=Kh (λW=>Mv n W h0 hn);have bG:0<(pts n (n*n)).length:=by omega
 obtain⟨L,hL⟩:∃L,pts n (n*n)=L:=⟨_,rfl⟩
 rw[hL]at HS J bG;clear hp ha hu hv hL;go_enter func155,ntmps155
 go_wp2_with fail
 obtain⟨w1,aD,X,Y⟩:=bx1 w #[.int .i64 (u:Int),.int .i64 (v:Int),.int .i64 1] 213;rw[aD];obtain⟨gb,U⟩:∃x,w.heap.size=x:=⟨_,rfl⟩
 rw[U]at X;try rw[U]
 have HX:=Kh X;have V:=Kh Y;clear aD X Y U;refine(J.1 w1).mono ?_;rintro e w2 ⟨⟨vl,rfl,h⟩,O⟩;obtain⟨g,cap,rfl,_,_,_,cT,_,I,_⟩:=He h (by omega);have bA:=Kh (λW (hb:Below w2.heap.size w2 W)=>HS.1 g cap W (λi x z hi k h1 h2=>(Au hb (I _ _ (by rw[Ea hi h2];exact h1)))));have M:=Kh (bk HX O);have aK:=bt V O;clear h I O HS HX V J;have r0:=M.1.at_ 0 rfl;have r1:=M.1.at_ 1 rfl;have r2:=M.1.at_ 2 rfl;go_wp2_with fail
 refine(bA.1 w2 (Below.refl _ _)).mono ?_;rintro e w3 ⟨⟨b,rfl⟩,Z⟩;have aN:=bt aK Z;clear Z;go_wp2;go_ret;exact⟨rfl,aN.1⟩
theorem cQ (x:Int) (w:World) (I:-1073741824<=x) (J:x<=1073741824):Calls prog 190 #[.int .i64 x] w λe w'=>e=.returned (.bool true)/\w'=w:=by
 go_enter func190,ntmps190
 go_wp2;go_ret;exact⟨rfl,rfl⟩
theorem V4 (x m:Nat) (w:World) (h:x<m) (_hm:m<=1000):Calls prog 192 #[.int .i64 x,.int .i64 m] w λe w'=>e=.returned (.int .i64 x)/\w'=w:=by
 have J:(x:Int).tmod (m:Int)=(x:Int):=by rw[Int.tmod_eq_of_lt (by omega) (by omega)]
 have I:(m:Int)≠0:=by omega
 go_enter func192,ntmps192
 go_wp2;go_ret;exact⟨rfl,rfl⟩
theorem V0 (n a u v:Nat) (w:World) (h0:0<n) (hn:n<=120) (ha:Fj n a=true) (hu:a / n=u) (hv:a % n=v) (cX:a<n*n):
  Calls prog 191 #[.int .i64 n,.int .i64 u,.int .i64 v] w λe w'=>e=.returned (.agg #[.int .i64 (u:Int),.int .i64 (v:Int),.int .i64 1])/\Below w.heap.size w w':=by
 have HC:=Kh (λu v t u' v' t' w=>R3 u v t u' v' t' w)
 have hL:=Kh (λ(s:Nat) (h1:1<=s) (h2:s<n) (h3:Nat.gcd s n=1)=>(show ¬M3 ((s*u % n:Nat):Int) ((s*v % n:Nat):Int) u v<0 from λh=>by
  have h4:=Cl.1 ha s h1 (by omega) (by simp[pun,h3]);have h5:=(R9 (a:=Az n s a) (b:=a) h0)
  rw[C6 h0,C7,hu,hv]at h5;have h6:=h5.1 h;omega))
 have nE:u<n:=by rw[<-hu];exact Nat.div_lt_of_lt_mul cX
 have nF:v<n:=by rw[<-hv];exact Nat.mod_lt _ h0
 have hJ:=Kh (λW=>Lo 1 n W h0 (by omega) (by simp));have nB:(n:Int)≠0:=by omega
 clear ha hu hv cX;go_enter func191,ntmps191
 go_upto_region 2 with(fail)
 obtain⟨w1,eP,X,Y,cY⟩:=bx2 w #[.int .i64 0,.int .i64 0,.int .i64 0] 213 #[.int .i64 (u:Int),.int .i64 (v:Int),.int .i64 0] 213;rw[eP];obtain⟨gr,bE⟩:∃x,w.heap.size=x:=⟨_,rfl⟩
 obtain⟨gl,bC⟩:∃x,w.heap.size+1=x:=⟨_,rfl⟩
 rw[bC]at Y;rw[bE]at X;try rw[bC]
 try rw[bE]
 have HX:=Kh X;have HY:=Kh Y;have gX:=Kh cY;have I:=Kh (show w.heap.size<=gr/\w.heap.size<=gl/\gr≠gl by omega);clear eP X Y cY bC bE;go_wp2_with fail
 go_loopw [8,9] (λvb vs wr=>∃s:Nat,vb=.int .i64 1/\vs=.int .i64 s/\2<=s/\s<=n+2/\Below w1.heap.size w1 wr) (λ_ vs _=>n+2 - (intOf vs).toNat)
 case atStart=>exact⟨2,rfl,rfl,by omega,by omega,Below.refl _ _⟩
 case round=>
  obtain⟨s,rfl,rfl,nC,nD,hb⟩:=hrel;obtain⟨w3,rfl⟩:∃w3:World,w3=wr:=⟨_,rfl⟩
  have cC:=Kh (bk HX hb);have cD:=Kh (bk HY hb);have gY:=bt gX hb;have hE:=Kh hb;clear hb;by_cases hlt:s<n
  ·have dX:(s:Int)<n:=by omega
   obtain⟨g,hg⟩:∃g,Nat.gcd s n=g:=⟨_,rfl⟩
   have HG:=Kh (show((Int.gcd (s:Int) (n:Int):Nat):Int)=g by rw[Int.gcd_natCast_natCast,hg]);have hI:=Kh hg;clear hg;go_wp2_with fail
   refine(E7 (s:Int) (n:Int) w3 (by omega) (by omega) (by omega) (by omega)).mono ?_;rw[HG.1];rintro e V ⟨rfl,nd,dY⟩;have J:Below w3.heap.size w3 V:=by rw[dY];exact Aa (Below.refl _ _) nd
   have Z:=bt hE J;have mU:=Kh (bk cC J);have cF:=Kh (bk cD J);clear dY J;by_cases hg1:g=1
   ·subst hg1
    have cA:=Kh (hL.1 s (by omega) hlt hI.1);obtain⟨x,hx⟩:∃x,s*u % n=x:=⟨_,rfl⟩
    obtain⟨y,hy⟩:∃y,s*v % n=y:=⟨_,rfl⟩
    have hS:s*u<=120*120:=Nat.mul_le_mul (by omega) (by omega);have hT:s*v<=120*120:=Nat.mul_le_mul (by omega) (by omega);obtain⟨su,M⟩:∃x,s*u=x:=⟨_,rfl⟩
    obtain⟨sv,O⟩:∃x,s*v=x:=⟨_,rfl⟩
    rw[M]at hS hx;rw[O]at hT hy;have m1:IntKind.i64.wrap ((s:Int)*(u:Int))=(su:Int):=by rw[show(s:Int)*(u:Int)=(su:Int)by rw[<-M];push_cast;rfl];exact IntWalk.i64_in _ (by omega)
    have m2:IntKind.i64.wrap ((s:Int)*(v:Int))=(sv:Int):=by rw[show(s:Int)*(v:Int)=(sv:Int)by rw[<-O];push_cast;rfl];exact IntWalk.i64_in _ (by omega)
    have m3:(su:Int).tmod (n:Int)=(x:Int):=by rw[Int.tmod_eq_emod_of_nonneg (by omega),<-hx];push_cast;rfl
    have m4:(sv:Int).tmod (n:Int)=(y:Int):=by rw[Int.tmod_eq_emod_of_nonneg (by omega),<-hy];push_cast;rfl
    obtain⟨z,hz⟩:∃z,M3 x y u v=z:=⟨_,rfl⟩
    rw[M,O,hx,hy,hz]at cA;have hG:=Kh (λW=>(by rw[<-hz];exact HC.1 x y 0 u v 0 W:Calls prog 194 #[.agg #[.int .i64 (x:Int),.int .i64 (y:Int),.int .i64 0],.agg #[.int .i64 (u:Int),.int .i64 (v:Int),.int .i64 0]] W λe w'=>e=.returned (.int .i64 z)/\Below W.heap.size W w'));have mP:n≠0:=by omega
    clear M O hx hy hz;have y0:=cF.1.at_ 0 rfl;go_upto_region 6 with(fail)
    refine K6 (λW=>W.cell? ⟨gl,0,none⟩=some (.int .i64 (u:Int))) (λW hb=>Au hb y0) (λcB hHeld0=>?_);refine Al 0 ?_;refine Al 1 ?_;refine Al 2 ?_;refine Al 3 ?_;refine Al 4 ?_;refine Al 5 ?_;refine Al 6 ?_;refine Al 7 ?_;refine Al 8 ?_;refine Al 9 ?_;refine Al 10 ?_;refine F9 11 rfl (λK hK=>?_);focus(go_simp;refine hK.out _ _ ?_ (λhHeld1=>?_))
    focus((try dsimp only);exact cB.1 _ ((Below.refl _ V).drew.alloc (mG _) _))
    focus(clear hK K;(try simp only[Act.put,Br,Bt,Bs]))
    refine K5 12 rfl (λK hK=>?_);go_simp
    refine hK.out _ _ ?_;clear hK K
    (try simp only[Act.put,Br,Bt,Bs])
    obtain⟨X5,bA⟩:=Gs V #[.int .i64 x,.int .i64 y,.int .i64 0] 213;obtain⟨w5,bH⟩:∃w5,(V.alloc (.cells #[.int .i64 x,.int .i64 y,.int .i64 0] 213)).drew=w5:=⟨_,rfl⟩
    have bB:Below (V.alloc (.cells #[.int .i64 x,.int .i64 y,.int .i64 0] 213)).heap.size (V.alloc (.cells #[.int .i64 x,.int .i64 y,.int .i64 0] 213)) w5:=bH▸(Below.refl _ _).drew;have X6:=X5.below_ bB X5.lt;have U:Below V.heap.size V w5:=bA.trans (bB.mono bA.size);rw[bH];obtain⟨g5,dC⟩:∃g5,V.heap.size=g5:=⟨_,rfl⟩
    rw[dC]at X6 ⊢;have hB:=bt Z U;have Y5:=bk cF U;have x0:=X6.at_ 0 rfl;have x1:=X6.at_ 1 rfl;have x2:=X6.at_ 2 rfl;have mA:=Y5.at_ 0 rfl;have mB:=Y5.at_ 1 rfl;have mC:=Y5.at_ 2 rfl;clear X5 bA bB bH U X6 Y5 dC y0 cB hHeld0;go_wp2_with fail
    refine(hG.1 w5).mono ?_;rintro e w6 ⟨rfl,U⟩;have hD:=bt hB U;have nG:¬z<0:=Int.not_lt.2 cA.1;have hR:IntKind.i64.wrap ((s:Int)+1)=((s+1:Nat):Int):=by rw[show(s:Int)+1=((s+1:Nat):Int)by push_cast;rfl];exact IntWalk.i64_in _ (by omega)
    clear U x0 x1 x2 mA mB mC;go_wp2;go_roundw
    case rel=>exact⟨s+1,rfl,by go_num,by omega,by omega,hD.1⟩
    case measure=>simp[intOf];omega
   ·have mY:((g:Int) != 1)=true:=by rw[bne_iff_ne];omega
    have hR:IntKind.i64.wrap ((s:Int)+1)=((s+1:Nat):Int):=by rw[show(s:Int)+1=((s+1:Nat):Int)by push_cast;rfl];exact IntWalk.i64_in _ (by omega)
    go_wp2;go_roundw
    case rel=>exact⟨s+1,rfl,by go_num,by omega,by omega,Z.1⟩
    case measure=>simp[intOf];omega
  ·have dX:¬(s:Int)<n:=by omega
   go_wp2_with fail
   refine(hJ.1 w3).mono ?_;rintro e V ⟨⟨k,rfl,mZ,hk⟩,J⟩
   have dE:n≠1->k=1:=λbG=>by
    obtain⟨q,hq⟩:=hk;rcases Int.lt_trichotomy q 0 with h|h|h
    ·have h2:(n:Int)*q<=n*(-1):=Int.mul_le_mul_of_nonneg_left (by omega) (by omega)
     omega
    ·rw[h,Int.mul_zero]at hq;omega
    ·have h2:(n:Int)*1<=n*q:=Int.mul_le_mul_of_nonneg_left (by omega) (by omega)
     omega
   have X4:=bk cC J;have Y4:=bk cD J;have Z:=bt gY J;have x0:=X4.at_ 0 rfl;have x1:=X4.at_ 1 rfl;have x2:=X4.at_ 2 rfl;have y0:=Y4.at_ 0 rfl;have y1:=Y4.at_ 1 rfl;have y2:=Y4.at_ 2 rfl;have f0:=X4.free_ 0;have f1:=X4.free_ 1;have f2:=X4.free_ 2;have k2:=Y4.free_ 2;have hQ:=I.1.2.2;have mN:gl≠gr:=λh=>hQ h.symm
   have lx:=X4.lt;have ly:=Y4.lt;clear hk J;by_cases bG:n=1
   ·subst bG
    clear dE;go_wp2;have aD:=Kh (Hy (w:=((V.setCell ⟨gl,2,none⟩ (.int .i64 (k:Int))).setCell ⟨gl,2,none⟩ (.int .i64 1))) (R:=gr) (v0:=.int .i64 (u:Int)) (v1:=.int .i64 (v:Int)) (v2:=.int .i64 1) (Ah (Ah (by rw[x0];rfl))) (Ah (Ah (by rw[x1];rfl))) (Ah (Ah (by rw[x2];rfl))));obtain⟨e0,e1,e2⟩:=aD.1;try simp only[Exit.inBlock,Exit.then]
    refine bodyPost_ret (by simp[results,results191,go_sem,e0,e1,e2];try rfl) rfl ?_;exact⟨rfl,((((Z.1.setCell I.1.2.1 _).setCell I.1.2.1 _).setCell I.1.1 _).setCell I.1.1 _).setCell I.1.1 _⟩
   ·obtain rfl:=dE bG
    have nA:((n:Int)==1)=false:=beq_eq_false_iff_ne.2 (by omega);go_wp2;have aD:=Kh (Hy (w:=(V.setCell ⟨gl,2,none⟩ (.int .i64 1))) (R:=gr) (v0:=.int .i64 (u:Int)) (v1:=.int .i64 (v:Int)) (v2:=.int .i64 1) (Ah (by rw[x0];rfl)) (Ah (by rw[x1];rfl)) (Ah (by rw[x2];rfl)));obtain⟨e0,e1,e2⟩:=aD.1;try simp only[Exit.inBlock,Exit.then]
    refine bodyPost_ret (by simp[results,results191,go_sem,e0,e1,e2];try rfl) rfl ?_;exact⟨rfl,(((Z.1.setCell I.1.2.1 _).setCell I.1.1 _).setCell I.1.1 _).setCell I.1.1 _⟩
theorem Tt (n p a u v:Nat) (w:World) (h0:0<n) (hn:n<=120) (hp:p<(pts n (n*n)).length) (ha:(pts n (n*n)).getD p 0=a) (hu:a / n=u) (hv:a % n=v):
  Calls prog 154 #[.int .i64 n,.int .i64 u,.int .i64 v] w λe w'=>e=.returned (.tuple #[.agg #[.int .i64 (u:Int),.int .i64 (v:Int),.int .i64 1],.int .i64 0])/\Below w.heap.size w w':=by
 have hm:=Bd hp;rw[ha]at hm;have O:=Jc (Ig hm).1;have Y:=Gn hm;have hf:=hm;rw[B5 h0 _ (mG _),List.mem_filter]at hf;simp only[Bool.and_eq_true]at hf;have cG:=Kh (λW=>V0 n a u v W h0 hn hf.2.2 hu hv Y);have cX:u<n:=by rw[<-hu];exact Nat.div_lt_of_lt_mul Y
 have cY:v<n:=by rw[<-hv];exact Nat.mod_lt _ h0
 rw[hu,hv]at O;obtain⟨g,hg⟩:∃g,Nat.gcd u v=g:=⟨_,rfl⟩
 rw[hg]at O;have HG:=Kh (show((Int.gcd (u:Int) (v:Int):Nat):Int)=g by rw[Int.gcd_natCast_natCast,hg]);have cF:=Kh (show((Int.gcd (g:Int) (n:Int):Nat):Int)=1 by rw[Int.gcd_natCast_natCast,O];rfl)
 have gF:g<=120:=by
  rcases Nat.eq_zero_or_pos u with h|h
  ·rw[h,Nat.gcd_zero_left]at hg;omega
  ·have:=Nat.gcd_le_left v h;omega
 clear hm O Y hf hp ha hu hv hg;go_enter func154,ntmps154
 go_wp2_with fail
 obtain⟨w0,bE,X,bA⟩:=bx1 w #[.int .i64 0,.int .i64 0,.int .i64 0] 213;rw[bE];obtain⟨gr,Z⟩:∃x,w.heap.size=x:=⟨_,rfl⟩
 rw[Z]at X;try rw[Z]
 have cT:=Kh X;have cB:=Kh bA;have V:=Kh (show w.heap.size<=gr by omega);clear bE X bA Z;refine(R4 n w0 (by omega) (by omega)).mono ?_;rintro e w' ⟨rfl,I⟩;obtain rfl:w0=w':=I.symm;go_wp2_with fail
 refine(cQ u w0 (by omega) (by omega)).mono ?_;rintro e w' ⟨rfl,I⟩;obtain rfl:w0=w':=I.symm;go_wp2_with fail
 refine(cQ v w0 (by omega) (by omega)).mono ?_;rintro e w' ⟨rfl,I⟩;obtain rfl:w0=w':=I.symm;go_wp2_with fail
 refine(E7 (u:Int) (v:Int) w0 (by omega) (by omega) (by omega) (by omega)).mono ?_;rw[HG.1];rintro e w1 ⟨rfl,nd,M⟩;have aK:=Kh (show Below w0.heap.size w0 w1 by rw[M];exact Aa (Below.refl _ _) nd);clear M;go_wp2_with fail
 refine(E7 (g:Int) (n:Int) w1 (by omega) (by omega) (by omega) (by omega)).mono ?_;rw[cF.1];rintro e w2 ⟨rfl,dC,M⟩;have aN:=Kh (aK.1.trans ((show Below w1.heap.size w1 w2 by rw[M];exact Aa (Below.refl _ _) dC).mono aK.1.size));clear M;go_wp2_with fail
 refine(V4 u n w2 cX (by omega)).mono ?_;rintro e w' ⟨rfl,I⟩;obtain rfl:w2=w':=I.symm;go_wp2_with fail
 refine(V4 v n w2 cY (by omega)).mono ?_;rintro e w' ⟨rfl,I⟩;obtain rfl:w2=w':=I.symm;go_wp2_with fail
 refine(cG.1 w2).mono ?_;rintro e w3 ⟨rfl,bB⟩;have J:=aN.1.trans (bB.mono aN.1.size);have U:=bk cT J;have cC:=bt cB J;have x0:=U.at_ 0 rfl;have x1:=U.at_ 1 rfl;have x2:=U.at_ 2 rfl;have f0:=U.free_ 0;have f1:=U.free_ 1;have f2:=U.free_ 2;have lx:=U.lt;clear bB J U;go_wp2;have cD:=Kh (Hy (w:=w3) (R:=gr) (v0:=.int .i64 (u:Int)) (v1:=.int .i64 (v:Int)) (v2:=.int .i64 1) (by rw[x0];rfl) (by rw[x1];rfl) (by rw[x2];rfl));obtain⟨e0,e1,e2⟩:=cD.1;try simp only[Exit.inBlock,Exit.then]
 refine bodyPost_ret (by simp[results,results154,go_sem,e0,e1,e2];try rfl) rfl ?_;exact⟨rfl,((cC.1.setCell (p:=⟨gr,0,none⟩) V.1 _).setCell (p:=⟨gr,1,none⟩) V.1 _).setCell (p:=⟨gr,2,none⟩) V.1 _⟩
theorem Zo (n p a u v:Nat) (w:World) (h0:0<n) (hn:n<=120) (hp:p<(pts n (n*n)).length) (h:(pts n (n*n)).getD p 0=a) (hu:a / n=u) (hv:a % n=v):
  Calls prog 108 #[.int .i64 n,.int .i64 u,.int .i64 v] w λe w'=>e=.returned (.tuple #[.int .i64 p,.int .i64 0])/\Below w.heap.size w w':=by
 have HN:=Kh (λW=>Tt n p a u v W h0 hn hp h hu hv);have HF:=Kh (λW=>lM n p a u v W h0 hn hp h hu hv);clear hp h hu hv;go_enter func108,ntmps108
 go_wp2_with fail
 refine(HN.1 w).mono ?_;rintro e w1 ⟨rfl,J⟩;have V:=Kh J;clear J;go_upto_region 2 with(fail)
 obtain⟨w2,U,X,M⟩:=bx1 w1 #[.int .i64 (u:Int),.int .i64 (v:Int),.int .i64 1] 213;rw[U];obtain⟨gr,I⟩:∃x,w1.heap.size=x:=⟨_,rfl⟩
 rw[I]at X;try rw[I]
 have Y:=bt V M;have x0:=X.at_ 0 rfl;have x1:=X.at_ 1 rfl;have x2:=X.at_ 2 rfl;clear U X M I;go_wp2_with fail
 refine(HF.1 w2).mono ?_;rintro e w3 ⟨rfl,O⟩;have Z:=bt Y O;clear O;go_wp2;go_ret2
 exact⟨rfl,Z.1⟩
theorem dR (n wt:Nat) (D:Int) (j q t a u v:Nat) (w:World) (hT:Tab w) (bG:Pl.check n ((wt:Int)+2) D=0) (hj:j<(wt+1)*(pts n (n*n)).length) (hq:j % (pts n (n*n)).length=q) (ht:j / (pts n (n*n)).length=t) (ha:(pts n (n*n)).getD q 0=a) (hu:a / n=u) (hv:a % n=v):
  Calls prog 107 #[.agg #[.int .i64 n,.int .i64 ((wt:Int)+2),.int .i64 D],.int .i64 j] w λe w'=>e=.returned (.tuple #[.agg #[.int .i64 t,.int .i64 u,.int .i64 v],.int .i64 0])/\Below w.heap.size w w':=by
 obtain⟨h1,h2,h3,h4,h5,h6⟩:=Aj bG;have Y:(pts n (n*n)).length<=14400:=mH (B6 n (n*n)) (by have:n*n<=120*120:=Nat.mul_le_mul (by omega) (by omega);omega);have aK:=Kh (λW (I:Below w.heap.size w W)=>Gf n wt D W (hT.below I) (by omega) (by omega) (by omega) (by omega) (by omega) bG);have gU:wt<=22:=by omega
 obtain⟨L,hL⟩:∃L,pts n (n*n)=L:=⟨_,rfl⟩
 rw[hL]at aK Y hj hq ht ha
 have O:0<L.length:=by
  rcases Nat.eq_zero_or_pos L.length with h|h
  ·rw[h,Nat.mul_zero]at hj;omega
  ·exact h
 have cX:q<L.length:=by rw[<-hq];exact Nat.mod_lt _ O
 have cD:=Kh (show L[q]?=some a by rw[<-ha,List.getD_eq_getElem?_getD,List.getElem?_eq_getElem cX];rfl);have aD:=Kh (λT B f W (h:WorldAt W T B n wt L f)=>Jv T B n wt L f W h gU Y)
 have cC:=Kh (λT B f W (h:WorldAt W T B n wt L f)=>(show ∃g cap,W.cell? ⟨T,2,none⟩=some (.slice (some ⟨g,0,none⟩) L.length cap)/\W.cell? ⟨g,q*3,none⟩=some (.int .i64 (u:Int))/\W.cell? ⟨g,q*3+1,none⟩=some (.int .i64 (v:Int))/\W.cell? ⟨g,q*3+2,none⟩=some (.int .i64 1)from by
  obtain⟨p,c,e2,hp⟩:=h.c2;rcases hp with⟨e,_⟩ |⟨g,cap,e,_,hc⟩
  ·rw[e]at O;exact absurd O (by simp)
  ·injection e with e1 e2' e3
   subst e1;obtain⟨b1,b2,b3⟩:=hc q a cD.1;rw[hu]at b1;rw[hv]at b2;exact⟨g,c,e2,b1,b2,b3⟩))
 obtain⟨N,hN⟩:∃N,L.length=N:=⟨_,rfl⟩
 rw[hN]at Y hj hq ht O cX aD cC;obtain⟨C,hC⟩:∃C,(wt+1)*N=C:=⟨_,rfl⟩
 rw[hC]at hj aD;have mM:C<=23*14400:=by rw[<-hC];exact Nat.mul_le_mul (by omega) Y
 have mU:t<=331200:=by rw[<-ht];exact mH (Nat.div_le_self _ _) (by omega)
 have m1:(j:Int).tmod (N:Int)=(q:Int):=by rw[Int.tmod_eq_emod_of_nonneg (by omega),<-hq];push_cast;rfl
 have m2:(j:Int).tdiv (N:Int)=(t:Int):=by rw[Int.tdiv_eq_ediv_of_nonneg (by omega),<-ht];push_cast;rfl
 have m3:IntKind.i64.wrap (t:Int)=(t:Int):=IntWalk.i64_in _ (by omega);have mN:(N:Int)≠0:=by omega
 have mO:N≠0:=by omega
 have mQ:¬(j:Int)<0:=by omega
 have mR:¬(C:Int)<=(j:Int):=by omega
 have mT:(q:Int)<(N:Int):=by omega
 clear hT bG h1 h2 h3 h4 h5 h6 hL hN hC hq ht ha hu hv cD;go_enter func107,ntmps107
 go_wp2_with fail
 obtain⟨w0,dC,_,X,cG⟩:=bx2 w #[.int .i64 n,.int .i64 ((wt:Int)+2),.int .i64 D] 23 #[.int .i64 0,.int .i64 0,.int .i64 0] 180;rw[dC];obtain⟨J,bY⟩:∃x,w.heap.size+1=x:=⟨_,rfl⟩
 rw[bY]at X;try rw[bY]
 have HX:=Kh X;have Z:=Kh cG;have aN:=Kh (show w.heap.size<=J by omega);clear dC X cG bY;refine(aK.1 w0 Z.1).mono ?_;rintro e w1 ⟨⟨T,rfl,dE⟩,bC⟩;have cF:=Kh (bk HX bC);have cB:=bt Z bC;have bA:=Kh dE;clear dE bC HX Z aK;go_wp2_with fail
 refine(aD.1 T _ _ w1 bA.1).mono ?_;rintro e M ⟨rfl,nd,cV⟩;have U:Below w1.heap.size w1 M:=by rw[cV];exact Aa (Below.refl _ _) nd
 have gL:=Kh (bk cF U);have gA:=bt cB U;obtain⟨g,cap,t2,l0,l1,l2⟩:=cC.1 T _ _ M (bA.1.keep (mG _) U);clear cV U cF cB bA;go_upto_region 6 with(fail)
 refine K6 (λW=>W.cell? ⟨T,2,none⟩=some (.slice (some ⟨g,0,none⟩) N cap)/\W.cell? ⟨g,q*3,none⟩=some (.int .i64 (u:Int))/\W.cell? ⟨g,q*3+1,none⟩=some (.int .i64 (v:Int))/\W.cell? ⟨g,q*3+2,none⟩=some (.int .i64 1)) (λW I=>⟨Au I t2,Au I l0,Au I l1,Au I l2⟩) (λaX hHeld0=>?_);refine Al 0 ?_;refine Al 1 ?_;refine Al 2 ?_;refine Al 3 ?_;refine Al 4 ?_;refine Al 5 ?_;refine Al 6 ?_;refine Al 7 ?_;refine Al 8 ?_;refine Al 9 ?_;refine Al 10 ?_;refine Al 11 ?_;refine Al 12 ?_;refine F9 13 rfl (λK hK=>?_);focus(go_simp;refine hK.out _ _ ?_ (λhHeld1=>?_))
 focus((try dsimp only);exact aX.1 _ ((Below.refl _ M).drew.alloc (mG _) _))
 focus(clear hK K;(try simp only[Act.put,Br,Bt,Bs]))
 refine K5 14 rfl (λK hK=>?_);go_simp
 refine hK.out _ _ ?_;clear hK K
 (try simp only[Act.put,Br,Bt,Bs])
 obtain⟨X3,bE⟩:=Gs M #[.int .i64 (u:Int),.int .i64 (v:Int),.int .i64 1] 213;obtain⟨w3,cA⟩:∃w3,(M.alloc (.cells #[.int .i64 (u:Int),.int .i64 (v:Int),.int .i64 1] 213)).drew=w3:=⟨_,rfl⟩
 have bH:Below (M.alloc (.cells #[.int .i64 (u:Int),.int .i64 (v:Int),.int .i64 1] 213)).heap.size (M.alloc (.cells #[.int .i64 (u:Int),.int .i64 (v:Int),.int .i64 1] 213)) w3:=cA▸(Below.refl _ _).drew;have X4:=X3.below_ bH X3.lt;have V:Below M.heap.size M w3:=bE.trans (bH.mono bE.size);rw[cA];obtain⟨gp,cT⟩:∃x,M.heap.size=x:=⟨_,rfl⟩
 rw[cT]at X4 ⊢;have XR:=bk gL V;have gF:=bt gA V;have t2:=cell_next V t2;have x0:=X4.at_ 0 rfl;have x1:=X4.at_ 1 rfl;have r0:=XR.at_ 0 rfl;have r1:=XR.at_ 1 rfl;have r2:=XR.at_ 2 rfl;have f0:=XR.free_ 0;have f1:=XR.free_ 1;have f2:=XR.free_ 2;clear X3 bE cA bH X4 V cT XR l0 l1 l2 aX hHeld0 hHeld1;go_upto_region 7 with(fail)
 refine iW [13] (λW=>W.cell? ⟨T,2,none⟩=some (.slice (some ⟨g,0,none⟩) N cap)/\W.cell? ⟨gp,0,none⟩=some (.int .i64 (u:Int))/\W.cell? ⟨gp,1,none⟩=some (.int .i64 (v:Int))/\W.cell? ⟨J,0,none⟩=some (.int .i64 0)/\W.frozen? ⟨J,0,none⟩=false/\W.cell? ⟨J,1,none⟩=some (.int .i64 0)/\W.frozen? ⟨J,1,none⟩=false/\W.cell? ⟨J,2,none⟩=some (.int .i64 0)/\W.frozen? ⟨J,2,none⟩=false) (λW I=>⟨Au I t2,Au I x0,Au I x1,Au I r0,Ac I (by rw[r0];rfl) (f0),Au I r1,Ac I (by rw[r1];rfl) (f1),Au I r2,Ac I (by rw[r2];rfl) (f2)⟩) (λaX hHeld0=>?_);refine De 0 ?_;refine De 1 ?_;refine De 2 ?_;refine De 3 ?_;refine De 4 ?_;refine De 5 ?_;refine De 6 ?_;refine De 7 ?_;refine De 8 ?_;refine De 9 ?_;refine De 10 ?_;refine De 11 ?_;refine iX 12 rfl (λK hK=>?_);go_simp
 refine hK.out _ _ ?_;clear hK K
 (try simp only[Act.put,Br,Bt,Bs])
 refine jA 13 ?_;refine iT ?_;go_wp2
 (try simp only[Exit.inBlock,Exit.then])
 exact bodyPost_ret (v:=.tuple #[.agg #[.int .i64 t,.int .i64 u,.int .i64 v],.int .i64 0]) (by rw[results_cell_tmp rfl];go_simp) rfl ⟨rfl,Aa (((gF.1.setCell (p:=⟨J,0,none⟩) aN.1 _).setCell (p:=⟨J,1,none⟩) aN.1 _).setCell (p:=⟨J,2,none⟩) aN.1 _) 1⟩
end
section
open Eli
structure G0 (n:Nat) (a b c d:Int):Prop where
 det:a*d - b*c=1
 low:(n:Int)∣c
theorem bZ {n:Nat} {a b c d:Int} (hn:0<n) (h:G0 n a b c d):∃s:Nat,1<=s/\s<=n/\pun n s=true/\(s:Int) % n=d % n/\s % n=(d % n).toNat % n:=by
 have hr:((d % n).toNat:Int)=d % n:=Int.toNat_of_nonneg (Int.emod_nonneg _ (by omega));obtain⟨r,I⟩:∃r,(d % n).toNat=r:=⟨_,rfl⟩
 rw[I]at hr ⊢
 have hp:pun n r=true:=by
  have O:((Nat.gcd r n:Nat):Int)∣r:=Int.natCast_dvd_natCast.2 (Nat.gcd_dvd_left ..);have J:((Nat.gcd r n:Nat):Int)∣n:=Int.natCast_dvd_natCast.2 (Nat.gcd_dvd_right ..)
  have U:((Nat.gcd r n:Nat):Int)∣d:=by
   have e:d=n*(d / n)+r:=by rw[hr];exact(Int.mul_ediv_add_emod d n).symm
   rw[e];exact Int.dvd_add (Int.dvd_trans J (Int.dvd_mul_right _ _)) O
  have V:((Nat.gcd r n:Nat):Int)∣1:=by
   rw[<-h.det];exact Int.dvd_sub (Int.dvd_trans U (Int.dvd_mul_left _ _)) (Int.dvd_trans (Int.dvd_trans J h.low) (Int.dvd_mul_left _ _))
  simp only[pun,beq_iff_eq];exact Nat.dvd_one.1 (Int.natCast_dvd_natCast.1 V)
 obtain⟨s,Y,Z,h3,M⟩:=Ee hn hp;have h5:(s:Int) % n=(r:Int) % n:=by exact_mod_cast congrArg (λz:Nat=>(z:Int)) M
 exact⟨s,Y,Z,h3,by rw[h5,hr,Int.emod_emod],M⟩
theorem Wy {k d:Int} {m:Nat} (V:0<m) (J:k.natAbs=m) (hg:Int.gcd k d=1):∃r:Nat,r<m/\(m:Int)∣r*d - 1:=by
 have Y:=Int.toNat_of_nonneg (Int.emod_nonneg d (show(m:Int)≠0 by omega));obtain⟨s,M⟩:∃s,(d % m).toNat=s:=⟨_,rfl⟩
 rw[M]at Y;have I:=Int.mul_ediv_add_emod d m;rw[<-Y]at I
 have h1:Nat.gcd s m=1:=by
  have g1:((Nat.gcd s m:Nat):Int)∣s:=Int.natCast_dvd_natCast.2 (Nat.gcd_dvd_left ..);have O:((Nat.gcd s m:Nat):Int)∣m:=Int.natCast_dvd_natCast.2 (Nat.gcd_dvd_right ..);have g3:((Nat.gcd s m:Nat):Int)∣k:=Int.dvd_natAbs.1 (by rw[J];exact O);have g4:((Nat.gcd s m:Nat):Int)∣d:=by rw[<-I];exact Int.dvd_add (Int.dvd_trans O (Int.dvd_mul_right _ _)) g1
  have U:=Int.dvd_coe_gcd g3 g4;rw[hg]at U;exact Nat.dvd_one.1 (Int.natCast_dvd_natCast.1 U)
 obtain⟨r,_,_,_,h2⟩:=Kx m s V h1;have h3:((r*s:Nat):Int) % m=(1:Nat) % m:=by exact_mod_cast congrArg (λz:Nat=>(z:Int)) h2
 obtain⟨e,he⟩:=Int.dvd_of_emod_eq_zero (Int.emod_eq_emod_iff_emod_sub_eq_zero.1 h3);have h4:=Nat.div_add_mod r m;have h5:(m:Int)*((r / m:Nat):Int)+((r % m:Nat):Int)=r:=by exact_mod_cast congrArg (λz:Nat=>(z:Int)) h4
 rw[Int.natCast_mul]at he;refine⟨r % m,Nat.mod_lt _ V,e+r*(d / m) - ((r / m:Nat):Int)*d,?_⟩;obtain⟨q,hq⟩:∃q,d / m=q:=⟨_,rfl⟩
 rw[hq]at I ⊢;obtain⟨t,Z⟩:∃t:Int,((r / m:Nat):Int)=t:=⟨_,rfl⟩
 obtain⟨v,h⟩:∃v:Int,((r % m:Nat):Int)=v:=⟨_,rfl⟩
 rw[Z,h]at h5;rw[Z,h];have e1:v=r - m*t:=by omega
 have e2:(r:Int)*s=1+m*e:=by omega
 rw[e1];have e3:(r:Int)*d=r*(m*q)+r*s:=by rw[<-Int.mul_add,I]
 grind
theorem Wt {x y:Int×Int} (h:Nb x y):Int.gcd x.1 x.2=1/\Int.gcd y.1 y.2=1:=by
 have one:∀u v p q:Int,u*p+v*q=1->Int.gcd u v=1:=λu v p q h=>by
  have I:((Int.gcd u v:Nat):Int)∣1:=by
   rw[<-h];exact Int.dvd_add (Int.dvd_trans (Int.gcd_dvd_left ..) (Int.dvd_mul_right _ _)) (Int.dvd_trans (Int.gcd_dvd_right ..) (Int.dvd_mul_right _ _))
  exact Nat.dvd_one.1 (Int.natCast_dvd_natCast.1 I)
 rcases h with h|h
 ·exact⟨one _ _ (-y.2) y.1 (by rw[<-h];grind),one _ _ x.2 (-x.1) (by rw[<-h];grind)⟩
 ·exact⟨one _ _ y.2 (-y.1) (by grind),one _ _ (-x.2) x.1 (by grind)⟩
def img (a b c d:Int) (x:Int×Int):Int×Int:=low (a*x.1+b*x.2) (c*x.1+d*x.2)
theorem G3 {a b c d:Int} (h:a*d - b*c=1) {x:Int×Int} (hx:Int.gcd x.1 x.2=1):
  Gd (img a b c d x)/\(((img a b c d x).1=a*x.1+b*x.2/\(img a b c d x).2=c*x.1+d*x.2)∨((img a b c d x).1=-(a*x.1+b*x.2)/\(img a b c d x).2=-(c*x.1+d*x.2))):=by
 have hg:Int.gcd (a*x.1+b*x.2) (c*x.1+d*x.2)=1:=by
  obtain⟨A,hA⟩:∃A,a*x.1+b*x.2=A:=⟨_,rfl⟩
  obtain⟨B,hB⟩:∃B,c*x.1+d*x.2=B:=⟨_,rfl⟩
  rw[hA,hB];have V:x.1=A*d+B*(-b):=by rw[<-hA,<-hB];grind
  have Y:x.2=A*(-c)+B*a:=by rw[<-hA,<-hB];grind
  have Z:((Int.gcd A B:Nat):Int)∣x.1:=by
   rw[V];exact Int.dvd_add (Int.dvd_trans (Int.gcd_dvd_left ..) (Int.dvd_mul_right _ _)) (Int.dvd_trans (Int.gcd_dvd_right ..) (Int.dvd_mul_right _ _))
  have h2:((Int.gcd A B:Nat):Int)∣x.2:=by
   rw[Y];exact Int.dvd_add (Int.dvd_trans (Int.gcd_dvd_left ..) (Int.dvd_mul_right _ _)) (Int.dvd_trans (Int.gcd_dvd_right ..) (Int.dvd_mul_right _ _))
  have U:=Int.dvd_coe_gcd Z h2;rw[hx]at U;exact Nat.dvd_one.1 (Int.natCast_dvd_natCast.1 U)
 obtain⟨k,u,v,hk,M,O,hq,I,J,_⟩:=Ec (p:=a*x.1+b*x.2) (q:=c*x.1+d*x.2) (by rw[hg];decide);have e:img a b c d x=(u,v):=I;rw[e];refine⟨J,?_⟩;rw[O,hq,Int.gcd_mul_left,M,Nat.mul_one]at hg;rcases(show k=1∨k=-1 by omega)with rfl|rfl
 ·left;rw[O,hq,Int.one_mul,Int.one_mul];exact⟨rfl,rfl⟩
 ·right;rw[O,hq];constructor <;>(dsimp only;omega)
section
variable {n wt:Nat} {D:Int} {x:Nat->Rat} {Q:Nat->Rat} {a b c d:Int} {s:Nat}
theorem Ss (I:Pl.check n ((wt:Int)+2) D=0) (hg:G0 n a b c d) (O:1<=s) (U:s<=n) (V:pun n s=true) (Y:(s:Int) % n=d % n) {p q r t:Int} (Z:p*t - q*r=1):
  ph n wt D x (subst Q wt d (-b) (-c) a (wt+1)) (a*p+b*r) (a*q+b*t) (c*p+d*r) (c*q+d*t)=(Pl.kroP D s:Rat)*ph n wt D x Q p q r t:=by
 have J:=hg.det
 have M:∀z y:Int,(c*z+d*y) % (n:Int)=((s:Int)*y) % n:=λz y=>by
  rw[Int.emod_eq_emod_iff_emod_sub_eq_zero];have e:c*z+d*y - s*y=c*z - (s - d)*y:=by grind
  rw[e];refine Int.emod_eq_zero_of_dvd (Int.dvd_sub (Int.dvd_trans hg.low (Int.dvd_mul_right _ _)) (Int.dvd_trans (Int.dvd_of_emod_eq_zero ?_) (Int.dvd_mul_right _ _)));exact Int.emod_eq_emod_iff_emod_sub_eq_zero.1 Y
 unfold ph;rw[Iw,show d*(a*p+b*r)+-b*(c*p+d*r)=p by grind,show d*(a*q+b*t)+-b*(c*q+d*t)=q by grind,show -c*(a*p+b*r)+a*(c*p+d*r)=r by grind,show -c*(a*q+b*t)+a*(c*q+d*t)=t by grind,Mf I (I4 (n:=n) (by omega) Z) O U V (M p r) (M q t),Gu]
theorem Kt {y z:Int×Int} (h:Nb y z):Ag n wt D x Q (-y.1,-y.2) z=Ag n wt D x Q y z:=by
 unfold Ag;dsimp only;rcases h with h|h
 ·rw[if_neg (by grind),if_pos h,Int.neg_neg,Int.neg_neg]
 ·rw[if_pos (by grind),if_neg (by omega)]
theorem Ku (I:Pl.check n ((wt:Int)+2) D=0) (M:RelZ n wt D x) {y z:Int×Int} (h:Nb y z):Ag n wt D x Q y (-z.1,-z.2)=Ag n wt D x Q y z:=by
 unfold Ag;dsimp only;rcases h with h|h
 ·rw[if_neg (by grind),if_pos h]
  exact Kl I M (by grind)
 ·rw[if_pos (by grind),if_neg (by omega)]
  have J:=Kl (Q:=Q) I M (a:=z.1) (b:=-y.1) (c:=z.2) (d:=-y.2) (by grind);rw[Int.neg_neg,Int.neg_neg]at J;exact J
theorem eU (I:a*d - b*c=1) {y z:Int×Int} (h:Nb y z):Nb (a*y.1+b*y.2,c*y.1+d*y.2) (a*z.1+b*z.2,c*z.1+d*z.2):=by
 have e:(a*z.1+b*z.2)*(c*y.1+d*y.2) - (a*y.1+b*y.2)*(c*z.1+d*z.2)=(a*d - b*c)*(z.1*y.2 - y.1*z.2):=by grind
 rw[I,Int.one_mul]at e;unfold Nb at *;dsimp only;rw[e];exact h
theorem Nl {y z:Int×Int} (h:Nb y z):Nb (-y.1,-y.2) z:=by
 have e:z.1 * -y.2 - -y.1*z.2=-(z.1*y.2 - y.1*z.2):=by grind
 unfold Nb at *;dsimp only;rw[e];omega
theorem Nn {y z:Int×Int} (h:Nb y z):Nb y (-z.1,-z.2):=(Nl h.symm).symm
theorem Yn (I:Pl.check n ((wt:Int)+2) D=0) (hg:G0 n a b c d) (J:1<=s) (M:s<=n) (O:pun n s=true) (U:(s:Int) % n=d % n) {y z:Int×Int} (h:Nb y z):
  Ag n wt D x (subst Q wt d (-b) (-c) a (wt+1)) (a*y.1+b*y.2,c*y.1+d*y.2) (a*z.1+b*z.2,c*z.1+d*z.2)=(Pl.kroP D s:Rat)*Ag n wt D x Q y z:=by
 have e:(a*z.1+b*z.2)*(c*y.1+d*y.2) - (a*y.1+b*y.2)*(c*z.1+d*z.2)=(a*d - b*c)*(z.1*y.2 - y.1*z.2):=by grind
 rw[hg.det,Int.one_mul]at e;unfold Ag;dsimp only;rw[e];rcases h with h|h
 ·rw[if_pos h,if_pos h]
  exact Ss I hg J M O U h
 ·rw[if_neg (by omega),if_neg (by omega),show -(a*y.1+b*y.2)=a * -y.1+b * -y.2 by grind,show -(c*y.1+d*y.2)=c * -y.1+d * -y.2 by grind]
  exact Ss I hg J M O U (by grind)
theorem Yo (J:Pl.check n ((wt:Int)+2) D=0) (hR:RelZ n wt D x) (hg:G0 n a b c d) (h1:1<=s) (h2:s<=n) (h3:pun n s=true) (h4:(s:Int) % n=d % n) {y z:Int×Int} (h:Nb y z):
  Nb (img a b c d y) (img a b c d z)/\Ag n wt D x (subst Q wt d (-b) (-c) a (wt+1)) (img a b c d y) (img a b c d z)=(Pl.kroP D s:Rat)*Ag n wt D x Q y z:=by
 obtain⟨gy,gz⟩:=Wt h;have I:=eU hg.det h;rw[<-Yn (x:=x) (Q:=Q) J hg h1 h2 h3 h4 h];obtain⟨_,M⟩:=G3 hg.det gy;obtain⟨_,O⟩:=G3 hg.det gz;obtain⟨Y,hY⟩:∃Y:Int×Int,(a*y.1+b*y.2,c*y.1+d*y.2)=Y:=⟨_,rfl⟩
 obtain⟨Z,hZ⟩:∃Z:Int×Int,(a*z.1+b*z.2,c*z.1+d*z.2)=Z:=⟨_,rfl⟩
 have U:img a b c d y=Y∨img a b c d y=(-Y.1,-Y.2):=by
  rw[<-hY];rcases M with M|M
  ·left;exact Prod.ext M.1 M.2
  ·right;exact Prod.ext M.1 M.2
 have V:img a b c d z=Z∨img a b c d z=(-Z.1,-Z.2):=by
  rw[<-hZ];rcases O with O|O
  ·left;exact Prod.ext O.1 O.2
  ·right;exact Prod.ext O.1 O.2
 rw[hY,hZ]at I ⊢;rcases U with e1|e1 <;> rcases V with e2|e2 <;> rw[e1,e2]
 ·exact⟨I,rfl⟩
 ·exact⟨Nn I,Ku J hR I⟩
 ·exact⟨Nl I,Kt I⟩
 ·exact⟨Nl (Nn I),(Kt (Nn I)).trans (Ku J hR I)⟩
end
def Cu (x:Int×Int):Prop:=Gd x/\Int.gcd x.1 x.2=1
theorem Cu.inf:Cu (1,0):=⟨⟨Int.le_refl 0,λ_=>rfl⟩,by decide⟩
theorem Cu.zero:Cu (0,1):=⟨⟨by decide,λh=>absurd h (by decide)⟩,by decide⟩
theorem fC {x:Int×Int} (h:Cu x) (Z:0<x.2):∃y:Int×Int,y.1*x.2 - x.1*y.2=1/\0<=y.2/\y.2<x.2/\Cu y:=by
 obtain⟨m,Y⟩:∃m:Nat,x.2.natAbs=m:=⟨_,rfl⟩
 obtain⟨r,hr,e,V⟩:=Wy (k:=x.2) (d:=-x.1) (m:=m) (by omega) Y (by rw[Int.gcd_neg,Int.gcd_comm];exact h.2);have J:(m:Int)=x.2:=by omega
 rw[J]at V;have I:-e*x.2 - x.1*r=1:=by grind
 have hn:Nb x (-e,(r:Int)):=.inl I;refine⟨(-e,(r:Int)),I,Int.natCast_nonneg r,by show(r:Int)<x.2;omega,⟨Int.natCast_nonneg r,λM=>?_⟩,(Wt hn).2⟩;have O:(r:Int)=0:=M;show -e=1;rw[O,Int.mul_zero,Int.sub_zero]at I;have U:x.2=1:=Int.eq_one_of_dvd_one (by omega) ⟨-e,by rw[Int.mul_comm];exact I.symm⟩;rw[U,Int.mul_one]at I;exact I
theorem M7 {P:Int×Int->Prop} (h1:P (1,0)) (h2:∀x y:Int×Int,Cu x->Cu y->0<x.2->y.1*x.2 - x.1*y.2=1->0<=y.2->y.2<x.2->P y->P x):∀x,Cu x->P x:=by
 have U:∀k:Nat,∀x:Int×Int,x.2.toNat<=k->Cu x->P x:=by
  intro k;induction k with
  | zero=>
   intro x O I;have J:=I.1.1;have M:x.2=0:=by omega
   have Y:=I.1.2 M;obtain⟨p,q⟩:=x;dsimp only at M Y;rw[M,Y];exact h1
  | succ k ih=>
   intro x O I;rcases Int.lt_or_le 0 x.2 with J|J
   ·obtain⟨y,Z,h,g3,V⟩:=fC I J
    exact h2 x y I V J Z h g3 (ih y (by omega) V)
   ·exact ih x (by omega) I
 exact λx O=>U _ x (mG _) O
section
variable {n wt:Nat} {D:Int} {x:Nat->Rat} {Q:Nat->Rat} {a b c d:Int} {s:Nat}
theorem Xx (M:Pl.check n ((wt:Int)+2) D=0) (h:RelZ n wt D x) (hg:G0 n a b c d) (h1:1<=s) (h2:s<=n) (h3:pun n s=true) (h4:(s:Int) % n=d % n) {u v:Int×Int} (hu:Cu u) (hv:Cu v):
  Pot (Ag n wt D x (subst Q wt d (-b) (-c) a (wt+1))) (img a b c d v) - Pot (Ag n wt D x (subst Q wt d (-b) (-c) a (wt+1))) (img a b c d u)=(Pl.kroP D s:Rat)*(Pot (Ag n wt D x Q) v - Pot (Ag n wt D x Q) u):=by
 obtain⟨J,I⟩:∃J,Ag n wt D x (subst Q wt d (-b) (-c) a (wt+1))=J:=⟨_,rfl⟩
 obtain⟨st,O⟩:∃st,Ag n wt D x Q=st:=⟨_,rfl⟩
 have U:∀u,Cu u->Pot J (img a b c d u) - Pot J (img a b c d (1,0))=(Pl.kroP D s:Rat)*(Pot st u - Pot st (1,0)):=by
  refine M7 (by grind) (λz y hz hy h0 Z g2 g3 ih=>?_);have hn:Nb y z:=Nb.symm (.inl Z);obtain⟨e1,V⟩:=Yo (x:=x) (Q:=Q) M h hg h1 h2 h3 h4 hn;have Y:=(Pq (Q:=subst Q wt d (-b) (-c) a (wt+1)) M h).diff _ _ _ (G3 hg.det hy.2).1 (G3 hg.det hz.2).1 e1 (mG _);have e4:=Cj (st:=st) Z g2 g3;rw[I,O]at V;rw[I]at Y;rw[Y]at V;rw[e4];grind
 rw[I,O];have k1:=U u hu;have k2:=U v hv;grind
end
theorem Fs {a b c d:Int} (h:a*d - b*c≠0) {x:Int×Int} (Z:Cu x):Int.gcd (a*x.1+b*x.2) (c*x.1+d*x.2)≠0:=by
 intro Y;obtain⟨I,J⟩:=Int.gcd_eq_zero_iff.1 Y
 have M:(a*d - b*c)*x.1=0:=by
  have:(a*d - b*c)*x.1=d*(a*x.1+b*x.2) - b*(c*x.1+d*x.2):=by grind
  rw[this,I,J];simp
 have O:(a*d - b*c)*x.2=0:=by
  have:(a*d - b*c)*x.2=a*(c*x.1+d*x.2) - c*(a*x.1+b*x.2):=by grind
  rw[this,I,J];simp
 have U:=(Int.mul_eq_zero.1 M).resolve_left h;have V:=(Int.mul_eq_zero.1 O).resolve_left h;have:=Z.2;rw[U,V]at this;simp at this
theorem Bn {a b c d:Int} (h:a*d - b*c≠0) {x:Int×Int} (M:Cu x):Cu (img a b c d x):=by
 obtain⟨k,u,v,_,hg,_,_,J,I,_⟩:=Ec (Fs h M);have e:img a b c d x=(u,v):=J;rw[e];exact⟨I,hg⟩
theorem Eo {a b c d I J M O:Int} (h:a*d - b*c≠0) (V:I*O - J*M≠0) {x:Int×Int} (U:Cu x):img I J M O (img a b c d x)=img (I*a+J*c) (I*b+J*d) (M*a+O*c) (M*b+O*d) x:=
 Ue (Fs h U) (Fs V (Bn h U))
theorem W6 {k:Int} {x:Int×Int} (M:k≠0) (I:Cu x):low (k*x.1) (k*x.2)=x:=by
 rw[Nj M I.2,if_neg];rintro(h |⟨J,O⟩)
 ·have:=I.1.1;omega
 ·have:=I.1.2 J;omega
theorem Nh {a b c d k:Int} {x y:Int×Int} (M:k≠0) (O:Cu y) (I:a*x.1+b*x.2=k*y.1) (J:c*x.1+d*x.2=k*y.2):img a b c d x=y:=by
 unfold img;rw[I,J];exact W6 M O
def mono (i:Nat):Nat->Rat:=λj=>if j=i then 1 else 0
theorem Kw {i wt:Nat} (I:i<wt+1) (a b c d:Int) (l:Nat):subst (mono i) wt a b c d (wt+1) l=(mv i a b c d wt l:Rat):=by
 unfold subst;rw[Ba I]
 ·unfold mono;rw[if_pos rfl,Rat.one_mul]
 ·intro k _ J
  unfold mono;rw[if_neg J,Rat.zero_mul]
structure PF (n wt:Nat) (D:Int) (Φ:(Nat->Rat)->Int×Int->Int×Int->Rat):Prop where
 congr:∀Q Q' u v,(∀j,j<wt+1->Q j=Q' j)->Φ Q u v=Φ Q' u v
 lin:∀(q:Nat->Rat) (f:Nat->Nat->Rat) (m:Nat) u v,Cu u->Cu v->Φ (λj=>sumQ (λi=>q i*f i j) m) u v=sumQ (λi=>q i*Φ (f i) u v) m
 add:∀Q u v z,Cu u->Cu v->Cu z->Φ Q u v+Φ Q v z=Φ Q u z
 move:∀Q (a b c d:Int) (s:Nat) u v,G0 n a b c d->1<=s->s<=n->pun n s=true->(s:Int) % n=d % n->Cu u->Cu v->Φ (subst Q wt d (-b) (-c) a (wt+1)) (img a b c d u) (img a b c d v)=(Pl.kroP D s:Rat)*Φ Q u v
def D3 (n:Nat) (γ:Nat->M4):Prop:=∀p,p<(pts n (n*n)).length->(γ p).1*(γ p).2.2.2 - (γ p).2.1*(γ p).2.2.1=1/\(γ p).2.2.1 % n=(((pts n (n*n)).getD p 0 / n:Nat):Int) % n/\(γ p).2.2.2 % n=(((pts n (n*n)).getD p 0 % n:Nat):Int) % n
def Qa (wt m:Nat) (γ:Nat->M4) (Φ:(Nat->Rat)->Int×Int->Int×Int->Rat) (j:Nat):Rat:=
 Φ (subst (mono (j / m)) wt (γ (j % m)).2.2.2 (-(γ (j % m)).2.1) (-(γ (j % m)).2.2.1) (γ (j % m)).1 (wt+1)) (img (γ (j % m)).1 (γ (j % m)).2.1 (γ (j % m)).2.2.1 (γ (j % m)).2.2.2 (0,1)) (img (γ (j % m)).1 (γ (j % m)).2.1 (γ (j % m)).2.2.1 (γ (j % m)).2.2.2 (1,0))
theorem Ux (Q:Nat->Rat) (wt j:Nat) (J:j<wt+1):subst Q wt 1 0 0 1 (wt+1) j=Q j:=by
 have h:∀i k l,mv i 1 0 0 1 k l=if l=min k i then 1 else 0:=by
  intro i k;induction k with
  | zero=>intro l;rw[mv,Nat.zero_min]
  | succ k ih=>
   intro l;rw[mv];split
   ·unfold lin
    rw[ih,ih,Int.zero_mul,Int.add_zero,Int.one_mul];rcases l with _|l
    ·rw[if_neg (Nat.lt_irrefl 0),if_neg (show ¬0=min (k+1) i by omega)]
    ·rw[if_pos (Nat.succ_pos l),Nat.add_sub_cancel]
     by_cases hl:l=min k i
     ·rw[if_pos hl,if_pos (show l+1=min (k+1) i by omega)]
     ·rw[if_neg hl,if_neg (show ¬l+1=min (k+1) i by omega)]
   ·unfold lin
    rw[ih,ih,Int.one_mul];have I:∀z:Int,(if 0<l then(0:Int)*z else 0)=0:=λz=>by split <;> simp
    rw[I,Int.zero_add];by_cases hl:l=min k i
    ·rw[if_pos hl,if_pos (show l=min (k+1) i by omega)]
    ·rw[if_neg hl,if_neg (show ¬l=min (k+1) i by omega)]
 unfold subst;rw[Ba J]
 ·rw[h,if_pos (by omega)]
  show Q j*((1:Int):Rat)=Q j;grind
 ·intro i O M
  rw[h,if_neg (by omega)];show Q i*((0:Int):Rat)=0;grind
section
variable {n wt:Nat} {D:Int} {Φ:(Nat->Rat)->Int×Int->Int×Int->Rat} {γ:Nat->M4}
theorem PF.ph_eq (aD:Pl.check n ((wt:Int)+2) D=0) (J:PF n wt D Φ) (aX:D3 n γ) (Q:Nat->Rat) {A B C E:Int} (hd:A*E - B*C=1):
  ph n wt D (Qa wt (pts n (n*n)).length γ Φ) Q A B C E=Φ Q (img A B C E (0,1)) (img A B C E (1,0)):=by
 obtain⟨⟨a1,a2⟩,_⟩:=Pl.check_ok aD;have hn:0<n:=by omega
 obtain⟨p,s,Z,h1,h2,h3,h4,h5⟩:=Hg (D:=D) hn (I4 (n:=n) hn hd);obtain⟨m,hm⟩:∃m,(pts n (n*n)).length=m:=⟨_,rfl⟩
 obtain⟨g1,U,V⟩:=aX p Z;rw[hm]at Z ⊢;obtain⟨⟨a,b,c,d⟩,hg⟩:∃g,γ p=g:=⟨_,rfl⟩
 rw[hg]at g1 U V;dsimp only at g1 U V;have hk:=I5 hn C E;have I:=I6 hn C E;rw[<-h4,C6 hn]at hk;rw[<-h4,C7]at I;obtain⟨c0,h⟩:∃c0,(pts n (n*n)).getD p 0 / n=c0:=⟨_,rfl⟩
 obtain⟨O,aK⟩:∃O,(pts n (n*n)).getD p 0 % n=O:=⟨_,rfl⟩
 rw[h]at hk U;rw[aK]at I V
 have mC:C % n=((s:Int)*c0) % n:=by
  have e:((s*c0 % n:Nat):Int)=C % n:=by rw[hk];exact Int.toNat_of_nonneg (Int.emod_nonneg _ (by omega))
  rw[<-e];push_cast;rfl
 have mE:E % n=((s:Int)*O) % n:=by
  have e:((s*O % n:Nat):Int)=E % n:=by rw[I];exact Int.toNat_of_nonneg (Int.emod_nonneg _ (by omega))
  rw[<-e];push_cast;rfl
 have dC:(n:Int)∣C - s*c:=by
  refine Int.dvd_of_emod_eq_zero (Int.emod_eq_emod_iff_emod_sub_eq_zero.1 ?_);rw[mC,Int.mul_emod,Int.mul_emod (s:Int) c,U]
 have dE:(n:Int)∣E - s*d:=by
  refine Int.dvd_of_emod_eq_zero (Int.emod_eq_emod_iff_emod_sub_eq_zero.1 ?_);rw[mE,Int.mul_emod,Int.mul_emod (s:Int) d,V]
 have hG:G0 n (A*d - B*c) (-(A*b)+B*a) (C*d - E*c) (-(C*b)+E*a):=by
  refine⟨by grind,?_⟩;have e:C*d - E*c=(C - s*c)*d - (E - s*d)*c:=by grind
  rw[e];exact Int.dvd_sub (Int.dvd_trans dC (Int.dvd_mul_right _ _)) (Int.dvd_trans dE (Int.dvd_mul_right _ _))
 have hs:(s:Int) % n=(-(C*b)+E*a) % n:=by
  refine Int.emod_eq_emod_iff_emod_sub_eq_zero.2 (Int.emod_eq_zero_of_dvd ?_);have e:(s:Int) - (-(C*b)+E*a)=(C - s*c)*b - (E - s*d)*a:=by grind
  rw[e];exact Int.dvd_sub (Int.dvd_trans dC (Int.dvd_mul_right _ _)) (Int.dvd_trans dE (Int.dvd_mul_right _ _))
 have i0:∀x,Cu x->img (A*d - B*c) (-(A*b)+B*a) (C*d - E*c) (-(C*b)+E*a) (img a b c d x)=img A B C E x:=λx hx=>by
  rw[Eo (by omega) (by rw[hG.det];decide) hx,show(A*d - B*c)*a+(-(A*b)+B*a)*c=A by grind,show(A*d - B*c)*b+(-(A*b)+B*a)*d=B by grind,show(C*d - E*c)*a+(-(C*b)+E*a)*c=C by grind,show(C*d - E*c)*b+(-(C*b)+E*a)*d=E by grind]
 have hv:∀i,i<wt+1->(Pl.kroP D s:Rat)*Qa wt m γ Φ (i*m+p)=Φ (subst (mono i) wt E (-B) (-C) A (wt+1)) (img A B C E (0,1)) (img A B C E (1,0)):=λi Y=>by
  have e1:(i*m+p) / m=i:=by rw[Nat.mul_comm,Nat.mul_add_div (by omega),Nat.div_eq_of_lt Z,Nat.add_zero]
  have e2:(i*m+p) % m=p:=by rw[Nat.mul_comm,Nat.mul_add_mod,Nat.mod_eq_of_lt Z]
  unfold Qa;rw[e1,e2,hg];dsimp only;rw[<-J.move _ _ _ _ _ s _ _ hG h1 h2 h3 hs (Bn (by omega) Cu.zero) (Bn (by omega) Cu.inf),i0 _ Cu.zero,i0 _ Cu.inf,Iw];congr 2 <;> grind
 unfold ph;rw[h5];unfold cP;dsimp only;rw[hm];have M:sumQ (λi=>subst Q wt A B C E (wt+1) i*(Pl.kroP D s:Rat)*Qa wt m γ Φ (i*m+p)) (wt+1)=sumQ (λi=>subst Q wt A B C E (wt+1) i*Φ (subst (mono i) wt E (-B) (-C) A (wt+1)) (img A B C E (0,1)) (img A B C E (1,0))) (wt+1):=Ad (λi Y=>by rw[<-hv i Y];grind);rw[M,<-J.lin _ _ _ _ _ (Bn (by omega) Cu.zero) (Bn (by omega) Cu.inf)];refine J.congr _ _ _ _ (λl hl=>?_)
 have e3:sumQ (λi=>subst Q wt A B C E (wt+1) i*subst (mono i) wt E (-B) (-C) A (wt+1) l) (wt+1)=subst (subst Q wt A B C E (wt+1)) wt E (-B) (-C) A (wt+1) l:=by
  show _=sumQ (λi=>subst Q wt A B C E (wt+1) i*(mv i E (-B) (-C) A wt l:Rat)) (wt+1);exact Ad (λi Y=>by rw[Kw Y])
 rw[e3,Iw,show A*E+B * -C=1 by grind,show A * -B+B*A=0 by grind,show C*E+E * -C=0 by grind,show C * -B+E*A=1 by grind];exact Ux Q wt l hl
theorem PF.step_eq (I:Pl.check n ((wt:Int)+2) D=0) (J:PF n wt D Φ) (M:D3 n γ) (Q:Nat->Rat) {u v:Int×Int} (O:Cu u) (U:Cu v) (h:Nb u v):
  Ag n wt D (Qa wt (pts n (n*n)).length γ Φ) Q u v=Φ Q u v:=by
 unfold Ag;rcases h with h|h
 ·rw[if_pos h,J.ph_eq I M Q h,Nh (k:=1) (by decide) O (by dsimp only;omega) (by dsimp only;omega),Nh (k:=1) (by decide) U (by dsimp only;omega) (by dsimp only;omega)]
 ·rw[if_neg (by omega),J.ph_eq I M Q (by grind),Nh (k:=-1) (by decide) O (by dsimp only;omega) (by dsimp only;omega),Nh (k:=1) (by decide) U (by dsimp only;omega) (by dsimp only;omega)]
theorem PF.self (J:PF n wt D Φ) (Q:Nat->Rat) {u:Int×Int} (I:Cu u):Φ Q u u=0:=by
 have:=J.add Q u u u I I I;grind
theorem PF.pot_eq (O:Pl.check n ((wt:Int)+2) D=0) (I:PF n wt D Φ) (U:D3 n γ) (Q:Nat->Rat) {u v:Int×Int} (Z:Cu u) (h:Cu v):
  Pot (Ag n wt D (Qa wt (pts n (n*n)).length γ Φ) Q) v - Pot (Ag n wt D (Qa wt (pts n (n*n)).length γ Φ) Q) u=Φ Q u v:=by
 obtain⟨st,J⟩:∃st,Ag n wt D (Qa wt (pts n (n*n)).length γ Φ) Q=st:=⟨_,rfl⟩
 have M:∀u,Cu u->Pot st u - Pot st (1,0)=Φ Q (1,0) u:=by
  refine M7 ?_ (λz y hz hy h0 Y g2 g3 ih=>?_)
  ·rw[I.self Q Cu.inf];grind
  ·have V:=I.step_eq O U Q hy hz (Nb.symm (.inl Y))
   rw[J]at V;rw[Cj (st:=st) Y g2 g3,<-I.add Q (1,0) y z Cu.inf hy hz,<-V,<-ih];grind
 rw[J];have k1:=M u Z;have k2:=M v h;have k3:=I.add Q (1,0) u v Cu.inf Z h;grind
theorem Sh {x:Int×Int} (p q:Int) (hx:Cu x) (h:low p q=x) (J:Int.gcd p q≠0):low (-p) (-q)=x:=by
 obtain⟨k,u,v,hk,hg,M,O,Z,Y,_⟩:=Ec J;rw[Z]at h;have I:(u,v)=x:=h;have U:-p=(-k)*x.1:=by rw[<-I,M];grind
 have V:-q=(-k)*x.2:=by rw[<-I,O];grind
 rw[U,V];exact W6 (by omega) hx
theorem PF.rel (aD:Pl.check n ((wt:Int)+2) D=0) (V:PF n wt D Φ) (bB:D3 n γ):RelZ n wt D (Qa wt (pts n (n*n)).length γ Φ):=by
 obtain⟨⟨a1,a2⟩,_⟩:=Pl.check_ok aD;have hn:0<n:=by omega
 obtain⟨y,hy⟩:∃y,Qa wt (pts n (n*n)).length γ Φ=y:=⟨_,rfl⟩
 obtain⟨m,Z⟩:∃m,(pts n (n*n)).length=m:=⟨_,rfl⟩
 have aK:∀r,r<(wt+1)*m->∀I J M O:Int,I*O - J*M=1->∃a b c d:Int,γ (r % m)=(a,b,c,d)/\a*d - b*c=1 /\
   sumQ (λk=>(L8 n wt (pts n (n*n)) (Bb n D (pts n (n*n)) n) (r / m) (r % m) (I,J,M,O) k:Rat)*y k) ((wt+1)*m)=Φ (subst (mono (r / m)) wt d (-b) (-c) a (wt+1)) (img (a*I+b*M) (a*J+b*O) (c*I+d*M) (c*J+d*O) (0,1)) (img (a*I+b*M) (a*J+b*O) (c*I+d*M) (c*J+d*O) (1,0)):=by
  intro r hr I J M O cF
  have cT:0<m:=by
   rcases Nat.eq_zero_or_pos m with h|h
   ·rw[h,Nat.mul_zero]at hr;omega
   ·exact h
  have hj:r % m<m:=Nat.mod_lt _ cT;have hi:r / m<wt+1:=Nat.div_lt_of_lt_mul (by rw[Nat.mul_comm];exact hr);obtain⟨p,hp⟩:∃p,r % m=p:=⟨_,rfl⟩
  obtain⟨i,cG⟩:∃i,r / m=i:=⟨_,rfl⟩
  rw[hp]at hj ⊢;rw[cG]at hi ⊢;obtain⟨g1,g2,g3⟩:=bB p (by rw[Z];exact hj);obtain⟨⟨a,b,c,d⟩,hg⟩:∃g,γ p=g:=⟨_,rfl⟩
  rw[hg]at g1 g2 g3;dsimp only at g1 g2 g3;refine⟨a,b,c,d,hg,g1,?_⟩
  have aX:(a*I+b*M)*(c*J+d*O) - (a*J+b*O)*(c*I+d*M)=1:=by
   have:(a*I+b*M)*(c*J+d*O) - (a*J+b*O)*(c*I+d*M)=(a*d - b*c)*(I*O - J*M):=by grind
   rw[this,g1,cF];rfl
  rw[<-V.ph_eq aD bB _ aX,hy]
  have cX:Ao n D (((pts n (n*n)).getD p 0 / n:Nat)*I+((pts n (n*n)).getD p 0 % n:Nat)*M) (((pts n (n*n)).getD p 0 / n:Nat)*J+((pts n (n*n)).getD p 0 % n:Nat)*O)=Ao n D (c*I+d*M) (c*J+d*O):=by
   unfold Ao
   have e:∀z t:Int,((((pts n (n*n)).getD p 0 / n:Nat):Int)*z+(((pts n (n*n)).getD p 0 % n:Nat):Int)*t) % n=(c*z+d*t) % n:=λz t=>by
    rw[Int.add_emod,Int.mul_emod _ z,Int.mul_emod _ t,<-g2,<-g3,<-Int.mul_emod,<-Int.mul_emod,<-Int.add_emod]
   rw[e,e]
  have cV:=Gm (D:=D) aD (I4 (n:=n) hn aX);have h6:=I9 (wt:=wt) y (i:=i) (j:=p) cX (λ_=>cV.2);rw[Z]at h6;rw[h6];unfold ph;rw[Iw];unfold cP;refine Ad (λl hl=>?_);dsimp only;rw[<-Kw hi,show d*(a*I+b*M)+-b*(c*I+d*M)=I by grind,show d*(a*J+b*O)+-b*(c*J+d*O)=J by grind,show -c*(a*I+b*M)+a*(c*I+d*M)=M by grind,show -c*(a*J+b*O)+a*(c*J+d*O)=O by grind]
 intro r hr;rw[Z]at hr;rw[hy];unfold Ks Kr;rw[Z];by_cases hlt:r<(wt+1)*m
 ·simp only[if_pos hlt]
  obtain⟨a,b,c,d,hg,h1,h2⟩:=aK r hlt 0 (-1) 1 0 (by decide);rw[show(gTurn:M4)=(0,-1,1,0)from rfl]
  have h3:sumQ (λk=>(((if k=r then 1 else 0)+L8 n wt (pts n (n*n)) (Bb n D (pts n (n*n)) n) (r / m) (r % m) (0,-1,1,0) k:Int):Rat)*y k) ((wt+1)*m)=y r+sumQ (λk=>(L8 n wt (pts n (n*n)) (Bb n D (pts n (n*n)) n) (r / m) (r % m) (0,-1,1,0) k:Rat)*y k) ((wt+1)*m):=by
   rw[<-Jb (n:=n) (x:=y) (by rw[Z];exact hlt),Z,<-Ar];exact Ad (λk _=>by push_cast;grind)
  rw[h3,h2,<-hy];unfold Qa;rw[Z,hg];dsimp only;have c0:Cu (img a b c d (0,1)):=Bn (by omega) Cu.zero;have c1:Cu (img a b c d (1,0)):=Bn (by omega) Cu.inf
  have e0:img (a*0+b*1) (a * -1+b*0) (c*0+d*1) (c * -1+d*0) (0,1)=img a b c d (1,0):=by
   have:=Sh _ _ c1 rfl (Fs (by omega) Cu.inf);unfold img at this ⊢;dsimp only at this ⊢;rw[<-this];congr 1 <;> omega
  have e1:img (a*0+b*1) (a * -1+b*0) (c*0+d*1) (c * -1+d*0) (1,0)=img a b c d (0,1):=by
   unfold img;dsimp only;congr 1 <;> omega
  rw[e0,e1,V.add _ _ _ _ c0 c1 c0,V.self _ c0]
 ·simp only[if_neg hlt]
  obtain⟨U,cY⟩:∃U,r - (wt+1)*m=U:=⟨_,rfl⟩
  rw[cY];have Y:U<(wt+1)*m:=by omega
  obtain⟨a,b,c,d,hg,h1,h2⟩:=aK U Y 0 (-1) 1 (-1) (by decide);obtain⟨_,_,_,_,bA,_,cC⟩:=aK U Y (-1) 1 (-1) 0 (by decide);rw[hg]at bA
  obtain⟨rfl,rfl,rfl,rfl⟩:a=_/\b=_/\c=_/\d=_:=by
   injection bA with q1 q2;injection q2 with q2 q3;injection q3 with q3 q4
   exact⟨q1,q2,q3,q4⟩
  rw[show(gThird:M4)=(0,-1,1,-1)from rfl,show(gTwice:M4)=(-1,1,-1,0)from rfl]
  have h3:sumQ (λk=>(((if k=U then 1 else 0)+L8 n wt (pts n (n*n)) (Bb n D (pts n (n*n)) n) (U / m) (U % m) (0,-1,1,-1) k+L8 n wt (pts n (n*n)) (Bb n D (pts n (n*n)) n) (U / m) (U % m) (-1,1,-1,0) k:Int):Rat)*y k) ((wt+1)*m)=y U+sumQ (λk=>(L8 n wt (pts n (n*n)) (Bb n D (pts n (n*n)) n) (U / m) (U % m) (0,-1,1,-1) k:Rat)*y k) ((wt+1)*m)+sumQ (λk=>(L8 n wt (pts n (n*n)) (Bb n D (pts n (n*n)) n) (U / m) (U % m) (-1,1,-1,0) k:Rat)*y k) ((wt+1)*m):=by
   rw[<-Jb (n:=n) (x:=y) (by rw[Z];exact Y),Z,<-Ar,<-Ar];exact Ad (λk _=>by push_cast;grind)
  rw[h3,h2,cC,<-hy];unfold Qa;rw[Z,hg];dsimp only;have c0:Cu (img a b c d (0,1)):=Bn (by omega) Cu.zero;have c1:Cu (img a b c d (1,0)):=Bn (by omega) Cu.inf;have k1:Cu ((1:Int),(1:Int)):=⟨⟨by decide,λh=>absurd h (by decide)⟩,by decide⟩
  have c2:Cu (img a b c d (1,1)):=Bn (by omega) k1;have n2:=Sh _ _ c2 rfl (Fs (by omega) k1)
  have e0:img (a*0+b*1) (a * -1+b * -1) (c*0+d*1) (c * -1+d * -1) (0,1)=img a b c d (1,1):=by
   unfold img at n2 ⊢;dsimp only at n2 ⊢;rw[<-n2];congr 1 <;> omega
  have e1:img (a*0+b*1) (a * -1+b * -1) (c*0+d*1) (c * -1+d * -1) (1,0)=img a b c d (0,1):=by
   unfold img;dsimp only;congr 1 <;> omega
  have e2:img (a * -1+b * -1) (a*1+b*0) (c * -1+d * -1) (c*1+d*0) (0,1)=img a b c d (1,0):=by
   unfold img;dsimp only;congr 1 <;> omega
  have e3:img (a * -1+b * -1) (a*1+b*0) (c * -1+d * -1) (c*1+d*0) (1,0)=img a b c d (1,1):=by
   unfold img at n2 ⊢;dsimp only at n2 ⊢;rw[<-n2];congr 1 <;> omega
  rw[e0,e1,e2,e3];have t1:=V.add (subst (mono (U / m)) wt d (-b) (-c) a (wt+1)) _ _ _ c2 c0 c1;have t2:=V.add (subst (mono (U / m)) wt d (-b) (-c) a (wt+1)) _ _ _ c2 c1 c2;have t3:=V.self (subst (mono (U / m)) wt d (-b) (-c) a (wt+1)) c2;grind
end
theorem Nt {n wt:Nat} {D:Int} (J:wt<=22) {f:Nat} (Y:f∈frs (Cb n wt D) (cntF n wt)):RelZ n wt D (λj=>Bk (Cb n wt D) (cntF n wt) (cntF n wt) j f):=by
 intro r hr;obtain⟨U,V⟩:=G1.1 Y;have h:=Qq (Gz J) ((Lz (by omega) (Cv (Eu J)) (Dl _ _) _).1 r hr) U V;rw[<-h];refine Ad (λk Z=>?_);have I:k<cntF n wt:=Z
 have e:Bv (cntF n wt) (Iv n wt D) r k=Ks n wt D r k:=by
  unfold Bv Iv;rw[if_pos I]
  have M:(r*cntF n wt+k) / ((wt+1)*(pts n (n*n)).length)=r:=by
   show(r*cntF n wt+k) / cntF n wt=r;rw[Nat.mul_comm,Nat.mul_add_div (by omega),Nat.div_eq_of_lt I,Nat.add_zero]
  have O:(r*cntF n wt+k) % ((wt+1)*(pts n (n*n)).length)=k:=by
   show(r*cntF n wt+k) % cntF n wt=k;rw[Nat.mul_comm,Nat.mul_add_mod,Nat.mod_eq_of_lt I]
  rw[M,O]
 rw[e]
theorem S8 (leads:Nat->List (Nat×Rat)) (g:Nat->Rat):∀n,sumQ (λf=>if ldOf leads f then 0 else g f) n=sumQ (λi=>g ((frs leads n).getD i 0)) (frs leads n).length
 | 0=>rfl
 | n+1=>by
  rw[sumQ,S8 leads g n,C5];by_cases h:leads n=[]
  ·rw[if_pos h,Bz h,List.length_append,List.length_singleton,sumQ]
   have e:(frs leads n++[n]).getD (frs leads n).length 0=n:=by
    rw[List.getD_eq_getElem?_getD,List.getElem?_append_right (mG _),Nat.sub_self];rfl
   rw[e];congr 1;refine Ad (λi I=>?_);rw[List.getD_eq_getElem?_getD,List.getD_eq_getElem?_getD,List.getElem?_append_left I]
  ·rw[if_neg h,Ct h,if_pos rfl,Rat.add_zero]
theorem fK {n wt:Nat} {D:Int} (hw:wt<=22) {y:Nat->Rat} (hy:RelZ n wt D y) {j:Nat} (V:j<cntF n wt):
  y j=sumQ (λi=>Bk (Cb n wt D) (cntF n wt) (cntF n wt) j ((frs (Cb n wt D) (cntF n wt)).getD i 0)*y ((frs (Cb n wt D) (cntF n wt)).getD i 0)) (frs (Cb n wt D) (cntF n wt)).length:=by
 obtain⟨C,hC⟩:∃C,cntF n wt=C:=⟨_,rfl⟩
 have hg:=Gz (n:=n) (D:=D) hw;have hs:=(Lz (n:=cntF n wt) (by omega) (Cv (Eu (n:=n) (D:=D) hw)) (Dl _ _) (2*cntF n wt)).2
 have hv:∀r,r<2*cntF n wt->sumQ (λq=>(Bv (cntF n wt) (Iv n wt D) r q:Rat)*y q) (cntF n wt)=0:=λr hr=>by
  rw[<-hy r hr];refine Ad (λk O=>?_);have I:k<cntF n wt:=O
  have e:Bv (cntF n wt) (Iv n wt D) r k=Ks n wt D r k:=by
   unfold Bv Iv;rw[if_pos I]
   have M:(r*cntF n wt+k) / ((wt+1)*(pts n (n*n)).length)=r:=by
    show(r*cntF n wt+k) / cntF n wt=r;rw[Nat.mul_comm,Nat.mul_add_div (by omega),Nat.div_eq_of_lt I,Nat.add_zero]
   have e2:(r*cntF n wt+k) % ((wt+1)*(pts n (n*n)).length)=k:=by
    show(r*cntF n wt+k) % cntF n wt=k;rw[Nat.mul_comm,Nat.mul_add_mod,Nat.mod_eq_of_lt I]
   rw[M,e2]
  rw[e]
 have J:∀j,ldOf (Cb n wt D) j=true->RSp (Bv (cntF n wt) (Iv n wt D)) (2*cntF n wt) (rowOf (Cb n wt D) j):=hs
 obtain⟨w,⟨z,h,U⟩,e⟩:=Rf hg (cntF n wt) j (by omega) V (cntF n wt) (by omega) (mG _);rw[hC]at hv J hg e U h V ⊢;obtain⟨ld,Z⟩:∃ld,Cb n wt D=ld:=⟨_,rfl⟩
 rw[Z]at J hg e U h ⊢
 have h1:∀l,ldOf ld l=true->sumQ (λq=>rowOf ld l q*y q) C=0:=λl Y=>by
  obtain⟨t,ht⟩:=J l Y
  have M:sumQ (λq=>rowOf ld l q*y q) C=sumQ (λq=>sumQ (λi=>t i*((Bv C (Iv n wt D) i q:Rat)*y q)) (2*C)) C:=Ad (λq _=>by
   rw[ht q,show sumQ (λi=>t i*(Bv C (Iv n wt D) i q:Rat)) (2*C)*y q=y q*sumQ (λi=>t i*(Bv C (Iv n wt D) i q:Rat)) (2*C)by grind,<-Ap];exact Ad (λi _=>by grind))
  rw[M,Cx];refine A4 (λi hi=>?_);rw[Ap,hv i hi];grind
 have h2:sumQ (λq=>w q*y q) C=0:=by
  have M:sumQ (λq=>w q*y q) C=sumQ (λq=>sumQ (λl=>z l*(rowOf ld l q*y q)) C) C:=Ad (λq _=>by
   rw[U q,show sumQ (λl=>z l*rowOf ld l q) C*y q=y q*sumQ (λl=>z l*rowOf ld l q) C by grind,<-Ap];exact Ad (λi _=>by grind))
  rw[M,Cx];refine A4 (λl Y=>?_);rw[Ap];cases hb:ldOf ld l with
  | false=>rw[h l Y hb];grind
  | true=>rw[h1 l hb];grind
 have h3:y j=sumQ (λq=>(if q=j then(1:Rat)else 0)*y q) C:=by
  rw[Ba V]
  ·rw[if_pos rfl,Rat.one_mul]
  ·intro k _ O
   rw[if_neg O,Rat.zero_mul]
 have h4:sumQ (λq=>(if q=j then(1:Rat)else 0)*y q) C=sumQ (λq=>sumQ (λf=>(if ldOf ld f then 0 else Bk ld C C j f)*(rowOf ld f q*y q)) C) C+sumQ (λq=>w q*y q) C:=by
  rw[<-Ar];refine Ad (λq hq=>?_);rw[e q,show(sumQ (λf=>(if ldOf ld f then 0 else Bk ld C C j f)*rowOf ld f q) C+w q)*y q=y q*sumQ (λf=>(if ldOf ld f then 0 else Bk ld C C j f)*rowOf ld f q) C+w q*y q by grind,<-Ap];congr 1;exact Ad (λi _=>by grind)
 rw[h3,h4,h2,Rat.add_zero,Cx,<-S8 ld (λf=>Bk ld C C j f*y f) C];refine Ad (λf hf=>?_);rw[Ap];cases hb:ldOf ld f with
 | true=>simp
 | false=>
  have e5:sumQ (λq=>rowOf ld f q*y q) C=y f:=by
   rw[Ba hf]
   ·unfold rowOf;rw[hb];simp
   ·intro k _ O
    unfold rowOf;rw[hb];simp[O]
  rw[e5];simp
theorem aE {n wt:Nat} {D:Int} (Y:wt<=22) {i k:Nat} (I:i<(frs (Cb n wt D) (cntF n wt)).length) (U:k<(frs (Cb n wt D) (cntF n wt)).length):
  Bk (Cb n wt D) (cntF n wt) (cntF n wt) ((frs (Cb n wt D) (cntF n wt)).getD i 0) ((frs (Cb n wt D) (cntF n wt)).getD k 0)=if k=i then 1 else 0:=by
 have V:∀i,i<(frs (Cb n wt D) (cntF n wt)).length->(frs (Cb n wt D) (cntF n wt)).getD i 0∈frs (Cb n wt D) (cntF n wt):=λi I=>Bd I
 obtain⟨M,O⟩:=G1.1 (V i I);have J:(frs (Cb n wt D) (cntF n wt)).Nodup:=(G2 _ _).imp (λh=>Nat.ne_of_lt h);rw[J6 (Gz Y) (by omega) (mG _) M O];by_cases h:k=i
 ·rw[h,if_pos rfl,if_pos rfl]
 ·rw[if_neg h,if_neg (λe=>h (O5 J U I e))]
structure Crd (n wt:Nat) (D:Int) (F:List Nat) (X:Nat->Nat->Rat):Prop where
 rel:∀f,f∈F->RelZ n wt D (λj=>X j f)
 span:∀y,RelZ n wt D y->∀j,j<cntF n wt->y j=sumQ (λi=>X j (F.getD i 0)*y (F.getD i 0)) F.length
 low:∀f,f∈F->f<cntF n wt
 one:∀i k,i<F.length->k<F.length->X (F.getD i 0) (F.getD k 0)=if k=i then 1 else 0
theorem J7 {n wt:Nat} {D:Int} (J:wt<=22):Crd n wt D (frs (Cb n wt D) (cntF n wt)) (Bk (Cb n wt D) (cntF n wt) (cntF n wt)) where
 rel:=λ_ I=>Nt J I
 span:=λ_ V _ O=>fK J V O
 low:=λ_ I=>(G1.1 I).1
 one:=λ_ _ M U=>aE J M U
section
variable {n wt:Nat} {D:Int} {F:List Nat} {X:Nat->Nat->Rat}
theorem Sr (I:Pl.check n ((wt:Int)+2) D=0) (Y:Crd n wt D F X) {y:Nat->Rat} (hy:RelZ n wt D y) (Q:Nat->Rat) {a b c d:Int} (h:a*d - b*c=1):
  ph n wt D y Q a b c d=sumQ (λi=>y (F.getD i 0)*ph n wt D (λj=>X j (F.getD i 0)) Q a b c d) F.length:=by
 obtain⟨⟨a1,a2⟩,_⟩:=Pl.check_ok I;have J:=Gm (D:=D) I (I4 (n:=n) (by omega) h);unfold ph cP;obtain⟨p,Z⟩:∃p,Ao n D c d=p:=⟨_,rfl⟩
 rw[Z]at J ⊢
 have O:∀i,i<wt+1->y (i*(pts n (n*n)).length+p.1)=sumQ (λk=>X (i*(pts n (n*n)).length+p.1) (F.getD k 0)*y (F.getD k 0)) F.length:=λi M=>Y.span y hy _ (by
  have V:i*(pts n (n*n)).length+p.1<(i+1)*(pts n (n*n)).length:=by rw[Nat.succ_mul];have:=J.2;omega
  exact mI V (Nat.mul_le_mul_right _ (by omega)))
 have U:sumQ (λi=>subst Q wt a b c d (wt+1) i*(p.2:Rat)*y (i*(pts n (n*n)).length+p.1)) (wt+1)=sumQ (λi=>sumQ (λk=>y (F.getD k 0)*(subst Q wt a b c d (wt+1) i*(p.2:Rat)*X (i*(pts n (n*n)).length+p.1) (F.getD k 0))) F.length) (wt+1):=Ad (λi M=>by
  rw[O i M,<-Ap];exact Ad (λk _=>by grind))
 rw[U,Cx];exact Ad (λk _=>by rw[Ap])
theorem Uw (I:Pl.check n ((wt:Int)+2) D=0) (J:Crd n wt D F X) {y:Nat->Rat} (M:RelZ n wt D y) (Q:Nat->Rat) {u v:Int×Int} (h:Nb u v):
  Ag n wt D y Q u v=sumQ (λi=>y (F.getD i 0)*Ag n wt D (λj=>X j (F.getD i 0)) Q u v) F.length:=by
 unfold Ag;rcases h with h|h
 ·simp only[if_pos h]
  exact Sr I J M Q h
 ·have O:¬v.1*u.2 - u.1*v.2=1:=by omega
  simp only[if_neg O];exact Sr I J M Q (by grind)
theorem Fl (st:Int×Int->Int×Int->Rat):Pot st (1,0)=0:=rfl
theorem Ph (J:Pl.check n ((wt:Int)+2) D=0) (U:Crd n wt D F X) {y:Nat->Rat} (V:RelZ n wt D y) (Q:Nat->Rat):∀u,Cu u->Pot (Ag n wt D y Q) u=sumQ (λi=>y (F.getD i 0)*Pot (Ag n wt D (λj=>X j (F.getD i 0)) Q) u) F.length:=by
 refine M7 ?_ (λz t hz h Z I M O Y=>?_)
 ·rw[Fl,A4 (λi _=>?_)]
  rw[Fl,Rat.mul_zero]
 ·rw[Cj I M O,Y,Uw J U V Q (Nb.symm (.inl I)),<-Ar]
  exact Ad (λi _=>by rw[Cj (st:=Ag n wt D (λj=>X j (F.getD i 0)) Q) I M O];grind)
theorem PF.coords {Φ:(Nat->Rat)->Int×Int->Int×Int->Rat} {γ:Nat->M4} (I:Pl.check n ((wt:Int)+2) D=0) (O:Crd n wt D F X) (J:PF n wt D Φ) (M:D3 n γ) (Q:Nat->Rat) {u v:Int×Int} (U:Cu u) (V:Cu v):
  Φ Q u v=sumQ (λi=>(Pot (Ag n wt D (λj=>X j (F.getD i 0)) Q) v - Pot (Ag n wt D (λj=>X j (F.getD i 0)) Q) u)*Qa wt (pts n (n*n)).length γ Φ (F.getD i 0)) F.length:=by
 have Y:=J.rel I M;rw[<-J.pot_eq I M Q U V,Ph I O Y Q v V,Ph I O Y Q u U]
 have e:∀a b:Nat->Rat,∀m,sumQ a m - sumQ b m=sumQ (λi=>a i - b i) m:=λa b m=>by
  induction m with
  | zero=>show(0:Rat) - 0=0;grind
  | succ m ih=>rw[sumQ,sumQ,sumQ,<-ih];grind
 rw[e];exact Ad (λi _=>by grind)
end
end
end Go.Proofs.YtenlbhlllgppmaaGreatDoor
