/- Contract of correspondence.Images. -/
import Derived.Test.YtenlbhlllgppmaaGreatDoorC17
import Derived.Lib.SmallJoins
set_option linter.unusedSimpArgs false
set_option maxRecDepth 100000
set_option maxHeartbeats 8000000
namespace Go.Proofs.YtenlbhlllgppmaaGreatDoor
open Tryz
open Go.RowKit
abbrev aF (B:Nat) (w0 w:World) (a0 a1 b0 b1 b2 b3:Addr) (v0 v1:Value):Prop:=w.cell? a0=some v0/\w.cell? a1=some v1/\w.cell? b0=some (cellOf w b0)/\w.frozen? b0=false/\Sts w b0.block/\w.cell? b1=some (cellOf w b1)/\w.frozen? b1=false/\Sts w b1.block/\w.cell? b2=some (cellOf w b2)/\w.frozen? b2=false/\Sts w b2.block/\w.cell? b3=some (cellOf w b3)/\w.frozen? b3=false/\Sts w b3.block/\Below B w0 w/\B<=w.heap.size
theorem Cz {B:Nat} {w0 w w':World} {a0 E I J M O:Addr} {v0 v1:Value} (U:Below w.heap.size w w') (h:aF B w0 w a0 E I J M O v0 v1):aF B w0 w' a0 E I J M O v0 v1:=SS.next (B:=B) (w0:=w0) (l:=[(a0,v0),(E,v1)]) (m:=[I,J,M,O]) U h
theorem N6 {B:Nat} {w0 w:World} {a0 E I J M O:Addr} {v0 v1:Value} (h:aF B w0 w a0 E I J M O v0 v1) {p0 U V Z:Addr} {u0 u1 u2 u3:Value} (aD:NotInt u0) (cD:B<=p0.block) (bA:p0.block≠a0.block) (bB:p0.block≠E.block) (aK:NotInt u1) (cF:B<=U.block) (bC:U.block≠a0.block) (bE:U.block≠E.block) (aN:NotInt u2) (cG:B<=V.block) (bY:V.block≠a0.block) (cA:V.block≠E.block) (aX:NotInt u3) (cI:B<=Z.block) (cB:Z.block≠a0.block) (cC:Z.block≠E.block):aF B w0 ((((w.setCell p0 u0).setCell U u1).setCell V u2).setCell Z u3) a0 E I J M O v0 v1:=(SS.put (B:=B) (w0:=w0) (l:=[(a0,v0),(E,v1)]) (m:=[I,J,M,O]) (SS.put (B:=B) (w0:=w0) (l:=[(a0,v0),(E,v1)]) (m:=[I,J,M,O]) (SS.put (B:=B) (w0:=w0) (l:=[(a0,v0),(E,v1)]) (m:=[I,J,M,O]) (SS.put (B:=B) (w0:=w0) (l:=[(a0,v0),(E,v1)]) (m:=[I,J,M,O]) h p0 u0 aD cD (by simp[*])) U u1 aK cF (by simp[*])) V u2 aN cG (by simp[*])) Z u3 aX cI (by simp[*]))
theorem dG {w:World} {B n:Nat} {v:Value} {L:List Pl.Cos} (h:w.ownsRow B 63 4 v n (L.flatMap matc)) (hn:n=L.length):
  ∃p cap,v=.slice p n cap/\∀i (E:i<L.length),∃g,p=some ⟨g,0,none⟩/\g<w.heap.size/\w.cell? ⟨g,i*4,none⟩=some (.int .i64 L[i].1.1)/\w.cell? ⟨g,i*4+1,none⟩=some (.int .i64 L[i].1.2.1)/\w.cell? ⟨g,i*4+2,none⟩=some (.int .i64 0)/\w.cell? ⟨g,i*4+3,none⟩=some (.int .i64 L[i].1.2.2):=by
 rcases Cb h with⟨rfl,rfl,_⟩ |⟨g,cap,rfl,_,hg,_⟩
 ·exact⟨none,0,rfl,λi E=>by omega⟩
 ·refine⟨_,cap,rfl,λi E=>⟨g,rfl,hg,?_,?_,?_,?_⟩⟩
  ·exact Ai h (by rw[show i*4=i*4+0 from rfl,Ft matc 4 (λ_=>rfl) L i E 0 (by omega)];rfl)
  ·exact Ai h (by rw[Ft matc 4 (λ_=>rfl) L i E 1 (by omega)];rfl)
  ·exact Ai h (by rw[Ft matc 4 (λ_=>rfl) L i E 2 (by omega)];rfl)
  ·exact Ai h (by rw[Ft matc 4 (λ_=>rfl) L i E 3 (by omega)];rfl)
theorem dF {w:World} {B n:Nat} {v:Value} {L:List Pl.Cos} (h:w.ownsRow B 3 1 v n (L.flatMap facc)) (hn:n=L.length):
  ∃p cap,v=.slice p n cap/\∀i (E:i<L.length),∃g,p=some ⟨g,0,none⟩/\g<w.heap.size/\w.cell? ⟨g,i,none⟩=some (.int .i64 L[i].2):=by
 rcases Cb h with⟨rfl,rfl,_⟩ |⟨g,cap,rfl,_,hg,_⟩
 ·exact⟨none,0,rfl,λi E=>by omega⟩
 ·refine⟨_,cap,rfl,λi E=>⟨g,rfl,hg,?_⟩⟩
  have I:=Ft facc 1 (λ_=>rfl) L i E 0 (by omega);rw[Nat.mul_one,Nat.add_zero]at I;exact Ai h (by rw[I];rfl)
theorem Xs {N k D n:Int} {len:Nat} {p q p' q':Int} {L:List Pl.Cos} (h:Pl.cosE N k D n≠0):I0 N k D n len p q p' q' L=Pl.cosE N k D n:=by unfold I0;rw[if_pos h]
theorem Q9 {N k D n:Int} {len:Nat} {p q p' q':Int} {L:List Pl.Cos} (h:Pl.cosE N k D n=0) (E:(len:Int)≠k - 1):I0 N k D n len p q p' q' L=4:=by unfold I0;rw[if_neg (by rw[h];simp),if_pos E]
theorem cN {N k D n:Int} {len:Nat} {p q p' q':Int} {L:List Pl.Cos} (h:Pl.cosE N k D n=0) (E:(len:Int)=k - 1):I0 N k D n len p q p' q' L=Xr p q p' q' L:=by unfold I0;rw[if_neg (by rw[h];simp),if_neg (by rw[E];simp)]
theorem Lq (K:Nat) (oM:1<=K) (sL:K<=4000) (N k D n p q p' q':Int) (v:Value) (len:Nat) (x y:Nat->Int) (w:World)  (hT:Tab w) (h:QL (λj=>IsB K (x j) (y j)) w v len) (rU:len<=30)
  (hp:-9223372036854775808<=p) (oW:p<=9223372036854775807) (oP:-9223372036854775808<=q) (hN:q<=9223372036854775807) (hr:-9223372036854775808<=p') (oX:p'<=9223372036854775807) (hs:-9223372036854775808<=q') (oZ:q'<=9223372036854775807):
  Calls prog 36 #[Ku N k D,.int .i64 n,.agg #[v,.int .i64 p,.int .i64 q,.int .i64 p',.int .i64 q']] w λe w'=>(∃B,w.heap.size<=B/\fC w' e B (I0 N k D n len p q p' q' (Pl.cosL (Pl.kroP D) N k D n)) (Pl.cosL (Pl.kroP D) N k D n) (λi=>N2 (λi=>Rat.divInt (x i) (y i)) len ((Pl.cosL (Pl.kroP D) N k D n).getD i ((0,0,0),0))) (λi=>D2 p q ((Pl.cosL (Pl.kroP D) N k D n).getD i ((0,0,0),0))) (λi=>D2 p' q' ((Pl.cosL (Pl.kroP D) N k D n).getD i ((0,0,0),0))) len)/\Below w.heap.size w w':=by
 have hB:=h
 obtain⟨vp,vc,rfl⟩:∃p c,v=.slice p len c:=by
  rcases h with⟨rfl,a,c,rfl⟩ |⟨g,o,c,rfl,_⟩
  ·exact⟨_,_,rfl⟩
  ·exact⟨_,_,rfl⟩
 have sC:=Kh hB;have gL:=Kh (λ(h:Pl.cosE N k D n=0)=>(Pl.check_ok (Pl.cosE_ok h).1).2.1);have hW:=Kh (bX N k D n);have oB:=Kh (bZ N k D n (Pl.kroP D));have gN:=Kh (λh=>Xs (len:=len) (p:=p) (q:=q) (p':=p') (q':=q') (L:=Pl.cosL (Pl.kroP D) N k D n) (N:=N) (k:=k) (D:=D) (n:=n) h);have cS:=Kh (λh=>Q9 (len:=len) (p:=p) (q:=q) (p':=p') (q':=q') (L:=Pl.cosL (Pl.kroP D) N k D n) (N:=N) (k:=k) (D:=D) (n:=n) h);have cT:=Kh (λh=>cN (len:=len) (p:=p) (q:=q) (p':=p') (q':=q') (L:=Pl.cosL (Pl.kroP D) N k D n) (N:=N) (k:=k) (D:=D) (n:=n) h);have hV:=Kh (λV (hb:Below w.heap.size w V)=>Od N k D n V (hT.below hb));obtain⟨L,hL⟩:∃L,Pl.cosL (Pl.kroP D) N k D n=L:=⟨_,rfl⟩
 obtain⟨E,hE⟩:∃E,Pl.cosE N k D n=E:=⟨_,rfl⟩
 obtain⟨er,oR⟩:∃er,I0 N k D n len p q p' q' L=er:=⟨_,rfl⟩
 simp only[hL,hE,oR]at hV hW oB gN cS cT gL ⊢;obtain⟨Q,hQ⟩:∃Q:Nat->Rat,(λi=>Rat.divInt (x i) (y i))=Q:=⟨_,rfl⟩
 have qA:=Kh (λi (hi:i<len)=>show hq (Q i)<=K by
  rw[<-hQ];rcases hB with⟨h1,_⟩ |⟨_,_,_,_,_,h1⟩
  ·omega
  ·obtain⟨_,_,_,_,_,_,_,_,_,_,_,_,h5,h6,h7,h8⟩:=h1 i hi
   exact Gy oM (nM h5.size h7) (nM h6.size h8))
 have oD:=Kh (λ(a b d:Nat) (ch:Int) (hx:R4 ((a,b,d),ch)) (h0:0<len) (qN:len<=23) V (hb:Below w.heap.size w V)=>Gt K oM (by omega) (.slice vp len vc) len x y p q p' q' a b 0 d V (hB.keep (λj=>IsB.solid _ _ _) hb) h0 qN (by omega) (by have:=hx.1;dsimp only at this;omega) (by omega) (by have:=hx.2.1;dsimp only at this;omega) (by omega) (by omega) (by omega) (by have:=hx.2.2.1;dsimp only at this;omega) (by rw[Int.mul_zero,Int.sub_zero];have h1:=hx.1;have h2:=hx.2.2.1;dsimp only at h1 h2;exact Int.mul_ne_zero (by omega) (by omega)) hp oW oP hN hr oX hs oZ);rw[hQ];simp only[hQ]at oD;obtain⟨G,hG⟩:∃G:Nat->Pl.Cos,(λi=>L.getD i ((0,0,0),0))=G:=⟨_,rfl⟩
 have HG:=Kh (λi (hi:i<L.length)=>(show L[i]=G i by rw[<-hG];simp[hi]));have pU:=Kh (λi (hi:i<L.length)=>(show R4 (G i)by rw[<-HG.1 i hi];exact hW.1 _ (List.getElem_mem hi)));have eG:∀i,L.getD i ((0,0,0),0)=G i:=λi=>congrFun hG i
 simp only[eG]
 have pV:=Kh (λi (hi:i<L.length) (h0:∀j,j<i->tE (G j) p q p' q'=0) (h1:tE (G i) p q p' q'≠0)=>(show Xr p q p' q' L=tE (G i) p q p' q' by
  rw[<-HG.1 i hi];exact Q8 i hi (λj hj=>by rw[HG.1 j (by omega)];exact h0 j hj) (by rw[HG.1 i hi];exact h1)))
 have pW:=Kh (λ(h0:∀j,j<L.length->tE (G j) p q p' q'=0)=>(show Xr p q p' q' L=0 from I8 (λx hx=>by
  obtain⟨i,hi,rfl⟩:=List.getElem_of_mem hx;rw[HG.1 i hi];exact h0 i hi)))
 clear h hp oW oP hN hr oX hs oZ hB hL hE oR hQ eG hG hW;go_enter func36,ntmps36
 go_wp2_with fail
 obtain⟨w0,pC,X0,X1,oO⟩:=bx2 w #[.int .i64 N,.int .i64 k,.int .i64 D] 23 #[.slice vp len vc,.int .i64 p,.int .i64 q,.int .i64 p',.int .i64 q'] 57;rw[pC];have hR:=Kh oO;have hZ:=Kh X0;have gP:=Kh X1;clear pC X0 X1 oO;refine(hV.1 w0 hR.1).mono ?_;rintro e w2 ⟨⟨v1,v2,rfl,ht⟩,gS⟩;obtain⟨lp,lc,rfl,hP⟩:=dG ht.mats rfl;obtain⟨fp,fc,rfl,hO⟩:=dF ht.facs rfl;have pY:=Kh hP;have pS:=Kh hO;replace hZ:=Kh (bk hZ gS);replace gP:=Kh (bk gP gS);have cI:=bt hR gS;have hD:w.heap.size<=w2.heap.size:=cI.1.size;clear ht gS hP hO hR hV;by_cases hE0:E=0
 ·subst hE0
  obtain⟨oH,oI⟩:=gL.1 rfl;have x1:w2.cell? ⟨w.heap.size,1,none⟩=some (.int .i64 k):=hZ.1.at_ 1 rfl;have y0:w2.cell? ⟨w.heap.size+1,0,none⟩=some (.slice vp len vc):=gP.1.at_ 0 rfl;obtain⟨k1,oU⟩:∃k1:Nat,k=k1+1:=⟨(k - 1).toNat,by omega⟩
  have sR:k - 1=(k1:Nat):=by omega
  have sS:IntKind.i64.wrap (k1:Int)=(k1:Nat):=IntWalk.i64_in _ (by omega);have sB:=Kh oU;clear oU gL gN;by_cases hl:len=k1
  ·have aN:=Kh (cT.1 rfl (by omega))
   have qS:0<len:=by omega
   have oV:len<=23:=by omega
   subst hl;clear cS cT oH oI;go_wp2;go_loopw [11,36] (λvo ii wr=>∃i:Nat,i<=L.length/\ii=.int .i64 i/\OwnP (λi=>N2 Q len (G i)) (λi=>D2 p q (G i)) (λi=>D2 p' q' (G i)) wr w2.heap.size vo i len/\(∀j,j<i->tE (G j) p q p' q'=0)/\Below w2.heap.size w2 wr) (λ_ ii _=>L.length - (intOf ii).toNat)
   case atStart=>exact⟨0,Nat.zero_le _,rfl,OwnP.nil _ _ _ _ _ _,λj hj=>absurd hj (Nat.not_lt_zero _),Below.refl _ _⟩
   case round=>
    obtain⟨i,hi,rfl,ho,hz,aK⟩:=hrel;obtain⟨wx,rfl⟩:∃wx:World,wx=wr:=⟨_,rfl⟩
    have HO:=Kh ho;have HZ:=Kh hz;have cF:=Kh aK;clear ho hz;by_cases hlt:i<L.length
    ·obtain⟨gl,rfl,dY,m0,m1,m2,m3⟩:=pY.1 i hlt
     obtain⟨gf,rfl,oS,dC⟩:=pS.1 i hlt;rw[HG.1 i hlt]at m0 m1 m3 dC;have bB:=pU.1 i hlt;obtain⟨⟨⟨a,b,d⟩,ch⟩,hx⟩:∃x,G i=x:=⟨_,rfl⟩
     rw[hx]at m0 m1 m3 dC bB;dsimp only at m0 m1 m3 dC;have dE:=oD.1 a b d ch bB qS oV;have eF:∀j,N2 Q len (G i) j=(ch:Rat)*subst Q (len - 1) (d:Nat) (-(b:Nat)) (-0) (a:Nat) len j:=λj=>by rw[hx];rfl
     have eX:(Cg (a:Nat) (b:Nat) 0 (d:Nat) p q).1=D2 p q (G i):=by rw[hx];rfl
     have eY:(Cg (a:Nat) (b:Nat) 0 (d:Nat) p' q').1=D2 p' q' (G i):=by rw[hx];rfl
     have eT:eZ (a:Nat) (b:Nat) 0 (d:Nat) p q p' q'=tE (G i) p q p' q':=by rw[hx];rfl
     have mD:∀j,hq (subst Q (len - 1) (d:Nat) (-(b:Nat)) (-0) (a:Nat) len j)<=130000:=λj=>nM (Cm qA.1 (Cq (by have:=bB.2.2.1;dsimp only at this;omega) (by have:=bB.2.2.1;dsimp only at this;omega)) (Cq (by have:=bB.2.1;dsimp only at this;omega) (by omega)) (Cq (by omega) (by omega)) (Cq (by omega) (by have:=bB.1;dsimp only at this;omega)) (by omega) (by omega)) (by omega)
     have qR:=bB.2.2.2;dsimp only at qR;rw[eX,eY,eT]at dE;generalize subst Q (len - 1) (d:Nat) (-(b:Nat)) (-0) (a:Nat) len=fn at dE eF mD;obtain⟨te,bC⟩:∃te,tE (G i) p q p' q'=te:=⟨_,rfl⟩
     obtain⟨⟨x1,y1⟩,nC⟩:∃z,D2 p q (G i)=z:=⟨_,rfl⟩
     obtain⟨⟨x2,y2⟩,nD⟩:∃z,D2 p' q' (G i)=z:=⟨_,rfl⟩
     rw[nC,nD,bC]at dE;have HT:=Kh dE;have pR:=Kh eF;have nY:=Kh mD;have qE:=Kh nC;have qF:=Kh nD;have hX:=Kh bC;have pT:=Kh dC;have nZ:=Kh oS;have nV:=Kh (show hq (ch:Rat)<=10 by rw[Dw];have:=Cq (a:=ch) (by omega) (by omega);omega);have c0:wx.cell? ⟨gl,i*4,none⟩=some (.int .i64 a):=(aK.cell (p:=⟨gl,i*4,none⟩) dY).trans m0;have c1:wx.cell? ⟨gl,i*4+1,none⟩=some (.int .i64 b):=(aK.cell (p:=⟨gl,i*4+1,none⟩) dY).trans m1;have c2:wx.cell? ⟨gl,i*4+2,none⟩=some (.int .i64 0):=(aK.cell (p:=⟨gl,i*4+2,none⟩) dY).trans m2;have c3:wx.cell? ⟨gl,i*4+3,none⟩=some (.int .i64 d):=(aK.cell (p:=⟨gl,i*4+3,none⟩) dY).trans m3;have sP:(i:Int)<(L.length:Int):=by omega
     have bA:=Kh (bk gP aK);have aX:=Kh (cI.1.trans (aK.mono hD));clear dE eF eX eY eT mD bC nC nD bB hx m0 m1 m2 m3 dC dY oS aK;have z0:∀o,(wx.alloc o).cell? ⟨w.heap.size+1,0,none⟩=some (.slice vp len vc):=λo=>(bA.1.alloc_ o).at_ 0 rfl
     have z1:∀o,(wx.alloc o).cell? ⟨w.heap.size+1,1,none⟩=some (.int .i64 p):=λo=>(bA.1.alloc_ o).at_ 1 rfl
     have z2:∀o,(wx.alloc o).cell? ⟨w.heap.size+1,2,none⟩=some (.int .i64 q):=λo=>(bA.1.alloc_ o).at_ 2 rfl
     have z3:∀o,(wx.alloc o).cell? ⟨w.heap.size+1,3,none⟩=some (.int .i64 p'):=λo=>(bA.1.alloc_ o).at_ 3 rfl
     have z4:∀o,(wx.alloc o).cell? ⟨w.heap.size+1,4,none⟩=some (.int .i64 q'):=λo=>(bA.1.alloc_ o).at_ 4 rfl
     go_wp2_with fail
     refine(HT.1 _ (aX.1.alloc aX.1.size _)).mono ?_;rintro e w3 ⟨oY,gU⟩;have pA:wx.heap.size<w3.heap.size:=nN (by simp) gU.size;have hS:=Kh (((Below.refl _ wx).alloc (nL _) (.cells #[.int .i64 a,.int .i64 b,.int .i64 0,.int .i64 d] 63)).trans (gU.mono (by simp)));clear z0 z1 z2 z3 z4 c0 c1 c2 c3 HT;rcases oY with⟨bC,rfl⟩ |⟨bC,g,cap,rfl,hg,J⟩
     ·have cB:=Kh (show er=te by rw[aN.1,pV.1 i hlt HZ.1 (by rw[hX.1];exact bC),hX.1])
      clear gU;go_wp2;go_ret2
      exact⟨⟨w2.heap.size,hD,.inl ⟨by rw[cB.1];exact bC,by rw[cB.1];rfl⟩⟩,(aX.1.trans (hS.1.mono aX.1.size)).alloc (nM aX.1.size (Nat.le_of_lt pA)) _⟩
     ·subst bC
      have oT:wx.heap.size<=g:=nM (by simp) hg;obtain⟨w4,nB⟩:∃w4,w3.alloc (.cells #[.slice (some ⟨g,0,none⟩) len cap,.int .i64 x1,.int .i64 y1,.int .i64 x2,.int .i64 y2] 57)=w4:=⟨_,rfl⟩
      have mC:Below w3.heap.size w3 w4:=nB▸(Below.refl _ _).alloc (nL _) _;have oQ:Blk w4 w3.heap.size 57 #[.slice (some ⟨g,0,none⟩) len cap,.int .i64 x1,.int .i64 y1,.int .i64 x2,.int .i64 y2]:=nB▸Blk.new w3 _ _;have cG:=Kh oQ;have rT:g<w3.heap.size:=J.sts.1;have oC:=Kh ((J.keep (λ_=>IsQ.solid _) mC).congr (G:=λj=>IsQ (mixQ fn (λk=>(ch:Rat)*fn k) 0 j)) (λj _=>by rw[L7]));have hU:=Kh (hS.1.trans (mC.mono (Nat.le_of_lt pA)));have nX:=Kh (show w4.cell? ⟨gf,i,none⟩=some (.int .i64 ch)from((cF.1.trans (hU.1.mono cF.1.size)).cell (p:=⟨gf,i,none⟩) nZ.1).trans pT.1);have rS:gf<wx.heap.size:=nN nZ.1 cF.1.size;have q0:w4.cell? ⟨w3.heap.size,0,none⟩=some (.slice (some ⟨g,0,none⟩) len cap):=cG.1.at_ 0 rfl;clear gU hg J mC oQ hS;go_wp2;clear q0 nB;go_loopw [53] (λjj I=>∃j:Nat,j<=len/\jj=.int .i64 j/\QRow (λk=>IsQ (mixQ fn (λk=>(ch:Rat)*fn k) j k)) I g len len/\w4.grownBy I (some g)) (λjj _=>len - (intOf jj).toNat)
      case atStart=>exact⟨0,Nat.zero_le _,rfl,oC.1,Ag g (Below.refl _ _)⟩
      case round=>
       obtain⟨j,hj,rfl,J,Z⟩:=hrel;obtain⟨I,rfl⟩:∃I:World,I=wr:=⟨_,rfl⟩
       have cX:=Kh J;have nU:=Kh Z;have hY:=Kh (Aq hU.1 Z (nM hU.1.size (nL _)) oT);have oE:=Kh (aX.1.trans (hY.1.mono aX.1.size));have b0:=Z.cell (cG.1.at_ 0 rfl) (λe=>by injection e with e;dsimp only at e;omega);clear oC;by_cases hjn:j<len
       ·obtain⟨s5,p5,n5,c5,t5,q5,m5,d5,e0,e1,e2,e3,hy⟩:=J.val j hjn
        have nW:=Kh (show Cells4 I g (j*4) s5 p5 n5 c5 t5 q5 m5 d5 from⟨e0,e1,e2,e3⟩);have U:=Kh (show Cells4 I.drew g (j*4) s5 p5 n5 c5 t5 q5 m5 d5 from⟨e0,e1,e2,e3⟩);have oF:=Kh (show Qs I s5 p5 n5 c5 t5 q5 m5 d5 (fn j)by rw[<-Sq fn (λk=>(ch:Rat)*fn k) j];exact hy);have ff:=Z.cell nX.1 (λe=>by injection e with e;dsimp only at e;omega);have sQ:(j:Int)<(len:Int):=by omega
        have O:=J;have sO:w.heap.size<=g:=nM aX.1.size oT;clear hy e0 e1 e2 e3 J Z;go_upto_region 16 with(fail)
        have mA:I.drew.cell? ⟨w3.heap.size,0,none⟩=some (.slice (some ⟨g,0,none⟩) len cap)/\I.drew.cell? ⟨gf,i,none⟩=some (.int .i64 ch)/\I.drew.cell? ⟨g,j*4,none⟩=some (cellOf I.drew ⟨g,j*4,none⟩)/\I.drew.frozen? ⟨g,j*4,none⟩=false/\Sts I.drew (g)/\I.drew.cell? ⟨g,j*4+1,none⟩=some (cellOf I.drew ⟨g,j*4+1,none⟩)/\I.drew.frozen? ⟨g,j*4+1,none⟩=false/\Sts I.drew (g)/\I.drew.cell? ⟨g,j*4+2,none⟩=some (cellOf I.drew ⟨g,j*4+2,none⟩)/\I.drew.frozen? ⟨g,j*4+2,none⟩=false/\Sts I.drew (g)/\I.drew.cell? ⟨g,j*4+3,none⟩=some (cellOf I.drew ⟨g,j*4+3,none⟩)/\I.drew.frozen? ⟨g,j*4+3,none⟩=false/\Sts I.drew (g)/\Below w.heap.size w I.drew/\w.heap.size<=I.drew.heap.size:=Cz (Below.refl _ I).drew ⟨b0,ff,Ah (O.has _ (by omega)),O.free _ (by omega),O.sts,Ah (O.has _ (by omega)),O.free _ (by omega),O.sts,Ah (O.has _ (by omega)),O.free _ (by omega),O.sts,Ah (O.has _ (by omega)),O.free _ (by omega),O.sts,oE.1,Below.size (show Below w.heap.size w I from oE.1)⟩;clear ff O;have M1:True:=trivial;refine wp_region_held_drew (S:=(λV=>V.cell? ⟨w3.heap.size,0,none⟩=some (.slice (some ⟨g,0,none⟩) len cap)/\V.cell? ⟨gf,i,none⟩=some (.int .i64 ch)/\V.cell? ⟨g,j*4,none⟩=some (cellOf V ⟨g,j*4,none⟩)/\V.frozen? ⟨g,j*4,none⟩=false/\Sts V (g)/\V.cell? ⟨g,j*4+1,none⟩=some (cellOf V ⟨g,j*4+1,none⟩)/\V.frozen? ⟨g,j*4+1,none⟩=false/\Sts V (g)/\V.cell? ⟨g,j*4+2,none⟩=some (cellOf V ⟨g,j*4+2,none⟩)/\V.frozen? ⟨g,j*4+2,none⟩=false/\Sts V (g)/\V.cell? ⟨g,j*4+3,none⟩=some (cellOf V ⟨g,j*4+3,none⟩)/\V.frozen? ⟨g,j*4+3,none⟩=false/\Sts V (g)/\Below w.heap.size w V/\w.heap.size<=V.heap.size)) (by kernel_rfl) ?_ (λhHeld0=>?_);focus((try dsimp only);with_reducible exact mA)
        refine Fl 0 ?_;refine Fl 1 ?_;refine Fl 2 ?_;refine Fl 3 ?_;refine Fl 4 ?_;refine Fl 5 ?_;refine Fl 6 ?_;refine Fl 8 ?_;refine Fl 9 ?_;refine Fl 10 ?_;refine Fl 11 ?_;refine Px [7,12] ?_;refine AllReadyH.cons rfl (λK hK=>?_) ?_;focus(go_simp;(go_at_call 49;refine(Du ch _ (by omega) (by omega)).mono ?_;rintro e w5 ⟨⟨s3,p3,n3,c3,t3,q3,m3,d3,rfl,gA⟩,bE⟩;have aD:=Kh (show Below I.heap.size I w5 from(by first|exact(Below.refl _ I).drew.trans bE|exact bE));have iL:=Kh gA;have M:=Kh (nW.1.keep aD.1);clear gA);(first|done|with_reducible refine hK.out _ _ ?_ (λhHeld1=>?_) |(go_wp2_with fail;with_reducible refine hK.out _ _ ?_ (λhHeld1=>?_))))
        focus((try dsimp only);(first|with_reducible assumption |(refine Cz (by with_reducible assumption) ?_;assumption)))
        focus(clear hK K hHeld0;(try simp only[Act.put,Bn,Bp,Bo]))
        refine Px [12] ?_;refine AllReadyH.cons rfl (λK hK=>?_) ?_;focus(go_simp;refine hK.out _ _ ?_ (λhHeld2=>?_))
        focus((try dsimp only);(first|with_reducible exact mA|with_reducible assumption |(refine Cz (by with_reducible assumption) ?_;assumption)))
        focus(clear hK K hHeld1;(try simp only[Act.put,Bn,Bp,Bo]))
        refine Px [13] ?_;refine AllReadyH.cons rfl (λK hK=>?_) ?_;focus(go_simp;(go_at_call 44;(first|rw[Af U.1.1,Af U.1.2.1,Af U.1.2.2.1,Af U.1.2.2.2]|rw[Af M.1.1,Af M.1.2.1,Af M.1.2.2.1,Af M.1.2.2.2]);refine(Co s3 p3 n3 c3 t3 q3 m3 d3 (ch:Rat) s5 p5 n5 c5 t5 q5 m5 d5 (fn j) _ iL.1 (oF.1.keep aD.1) (by have:=nV.1;omega) (by have:=nY.1 j;omega)).mono ?_;rintro e w6 ⟨⟨s6,p6,n6,c6,t6,q6,m6,d6,rfl,gF⟩,mB⟩;have bY:Below I.heap.size I w6:=aD.1.trans (mB.mono aD.1.size);have hJ:=Kh (Kj (f':=λk=>(ch:Rat)*fn k) (cX.1.keep (λ_=>IsQ.solid _) bY) hjn gF);have oA:=Kh (nU.1.trans (Ag g bY));clear gF bY bE);(first|done|with_reducible refine hK.out _ _ ?_ (λhHeld3=>?_) |(go_wp2_with fail;with_reducible refine hK.out _ _ ?_ (λhHeld3=>?_))))
        focus((try dsimp only);(first|with_reducible assumption |(refine Cz (by with_reducible assumption) ?_;assumption)))
        focus(clear hK K hHeld2;(try simp only[Act.put,Bn,Bp,Bo]))
        refine Fl 14 ?_;refine Px [15] ?_;refine AllReadyH.cons rfl (λK hK=>?_) ?_;focus(go_simp;refine hK.out _ _ ?_ (λhHeld4=>?_))
        focus((try dsimp only);(refine N6 ?_ ?_ ?_ ?_ ?_ ?_ ?_ ?_ ?_ ?_ ?_ ?_ ?_ ?_ ?_ ?_ ?_ <;> first|assumption|exact NotInt.bool _|exact NotInt.slice _ _ _ |(dsimp only;omega) |(simp;done)))
        focus(clear hK K hHeld3;(try simp only[Act.put,Bn,Bp,Bo]))
        focus(refine wpAnyH_done (by kernel_rfl) ?_ _)
        rotate_left
        exact AllReadyH.nil;exact AllReadyH.nil;exact AllReadyH.nil;refine AllReadyH.cons rfl (λK hK=>?_) ?_;focus(go_simp;refine hK.out _ _ ?_ (λhHeld1=>?_))
        focus((try dsimp only);(first|with_reducible exact mA|with_reducible assumption |(refine Cz (by with_reducible assumption) ?_;assumption)))
        focus(clear hK K hHeld0;(try simp only[Act.put,Bn,Bp,Bo]))
        refine Px [7] ?_;refine AllReadyH.cons rfl (λK hK=>?_) ?_;focus(go_simp;(go_at_call 49;refine(Du ch _ (by omega) (by omega)).mono ?_;rintro e w5 ⟨⟨s3,p3,n3,c3,t3,q3,m3,d3,rfl,gA⟩,bE⟩;have aD:=Kh (show Below I.heap.size I w5 from(by first|exact(Below.refl _ I).drew.trans bE|exact bE));have iL:=Kh gA;have M:=Kh (nW.1.keep aD.1);clear gA);(first|done|with_reducible refine hK.out _ _ ?_ (λhHeld2=>?_) |(go_wp2_with fail;with_reducible refine hK.out _ _ ?_ (λhHeld2=>?_))))
        focus((try dsimp only);(first|with_reducible assumption |(refine Cz (by with_reducible assumption) ?_;assumption)))
        focus(clear hK K hHeld1;(try simp only[Act.put,Bn,Bp,Bo]))
        refine Px [13] ?_;refine AllReadyH.cons rfl (λK hK=>?_) ?_;focus(go_simp;(go_at_call 44;(first|rw[Af U.1.1,Af U.1.2.1,Af U.1.2.2.1,Af U.1.2.2.2]|rw[Af M.1.1,Af M.1.2.1,Af M.1.2.2.1,Af M.1.2.2.2]);refine(Co s3 p3 n3 c3 t3 q3 m3 d3 (ch:Rat) s5 p5 n5 c5 t5 q5 m5 d5 (fn j) _ iL.1 (oF.1.keep aD.1) (by have:=nV.1;omega) (by have:=nY.1 j;omega)).mono ?_;rintro e w6 ⟨⟨s6,p6,n6,c6,t6,q6,m6,d6,rfl,gF⟩,mB⟩;have bY:Below I.heap.size I w6:=aD.1.trans (mB.mono aD.1.size);have hJ:=Kh (Kj (f':=λk=>(ch:Rat)*fn k) (cX.1.keep (λ_=>IsQ.solid _) bY) hjn gF);have oA:=Kh (nU.1.trans (Ag g bY));clear gF bY bE);(first|done|with_reducible refine hK.out _ _ ?_ (λhHeld3=>?_) |(go_wp2_with fail;with_reducible refine hK.out _ _ ?_ (λhHeld3=>?_))))
        focus((try dsimp only);(first|with_reducible assumption |(refine Cz (by with_reducible assumption) ?_;assumption)))
        focus(clear hK K hHeld2;(try simp only[Act.put,Bn,Bp,Bo]))
        refine Fl 14 ?_;refine Px [15] ?_;refine AllReadyH.cons rfl (λK hK=>?_) ?_;focus(go_simp;refine hK.out _ _ ?_ (λhHeld4=>?_))
        focus((try dsimp only);(refine N6 ?_ ?_ ?_ ?_ ?_ ?_ ?_ ?_ ?_ ?_ ?_ ?_ ?_ ?_ ?_ ?_ ?_ <;> first|assumption|exact NotInt.bool _|exact NotInt.slice _ _ _ |(dsimp only;omega) |(simp;done)))
        focus(clear hK K hHeld3;(try simp only[Act.put,Bn,Bp,Bo]))
        focus(refine wpAnyH_done (by kernel_rfl) ?_ _)
        rotate_left
        exact AllReadyH.nil;exact AllReadyH.nil;exact AllReadyH.nil;exact AllReadyH.nil;all_goals go_wp2
        all_goals go_roundw
        all_goals first
         | exact⟨j+1,by omega,by go_num,hJ.1,oA.1.trans (E8 _ _ _ _ _ _ _ _ _ _)⟩
         |(simp[intOf];omega)
       ·obtain rfl:len=j:=by omega
        have b1:=Z.cell (cG.1.at_ 1 rfl) (λe=>by injection e with e;dsimp only at e;omega);have b2:=Z.cell (cG.1.at_ 2 rfl) (λe=>by injection e with e;dsimp only at e;omega);have b3:=Z.cell (cG.1.at_ 3 rfl) (λe=>by injection e with e;dsimp only at e;omega);have b4:=Z.cell (cG.1.at_ 4 rfl) (λe=>by injection e with e;dsimp only at e;omega);have qB:=Kh (J.congr (G:=λj=>IsQ (N2 Q len (G i) j)) (λj hj=>by rw[Pj hj,pR.1]));obtain⟨pB,xs,hK,oN⟩:=HO.1.keep hY.1;have HK:=Kh hK;have qD:=Kh oN;have qC:=Kh pB;have cM:=Kh (cF.1.trans (hY.1.mono cF.1.size));have sM:=oB.1;clear J Z cX pB hK oN;go_wp2_with (at_builtin;refine Bk NotU32 rfl (.tmp 72) (.tmp 74) _ 57 rfl underlying78 Yz rfl (by decide) w2.heap.size i u11 xs [.slice (some ⟨g,0,none⟩) len cap,.int .i64 x1,.int .i64 y1,.int .i64 x2,.int .i64 y2] rfl HK.1 rfl rfl (mS _ _ _ _ _ _ _) (by omega) (by omega) cM.1.size (nI _ _ _ _ _ _ _) nJ ?_;intro v' w' eP mE qP;have pZ:=Kh (OwnP.push (F:=λi=>N2 Q len (G i)) (X:=λi=>D2 p q (G i)) (Y:=λi=>D2 p' q' (G i)) qC.1 HK.1 qD.1 qB.1 qE.1 qF.1 eP mE);have pQ:=Kh (At cM.1 HK.1.1 mE (nL _) cM.1.size);clear eP mE qP)
        go_roundw
        case rel=>exact⟨i+1,by omega,by go_num,pZ.1,λj hj=>by
         by_cases h:j<i
         ·exact HZ.1 j h
         ·obtain rfl:j=i:=by omega
          exact hX.1,pQ.1⟩
        case measure=>simp[intOf];omega
    ·obtain rfl:L.length=i:=by omega
     have cB:=Kh (show er=0 by rw[aN.1,pW.1 HZ.1]);clear aK;go_wp2;go_ret2
     exact⟨⟨w2.heap.size,hD,.inr ⟨cB.1,_,rfl,HO.1⟩⟩,cI.1.trans (cF.1.mono hD)⟩
  ·have aN:=Kh (cS.1 rfl (by omega))
   have sT:((len:Int) !=(k1:Int))=true:=by simp;omega
   clear cS cT oH oI;go_wp2;go_ret2
   exact⟨⟨w.heap.size,nL _,.inl ⟨by rw[aN.1];decide,by rw[aN.1];rfl⟩⟩,cI.1⟩
 ·have aN:=Kh (gN.1 hE0)
  clear gN cS cT gL;go_wp2;go_ret2
  exact⟨⟨w.heap.size,nL _,.inl ⟨by rw[aN.1];exact hE0,by rw[aN.1];rfl⟩⟩,cI.1⟩
def PLs (F:Nat->Nat->Rat) (X Y:Nat->Int×Int) (w:World) (v:Value) (k n:Nat):Prop:=
 (k=0/\∃a c,v=.slice a 0 c)∨∃g0 c0,v=.slice (some ⟨g0,0,none⟩) k c0/\g0<w.heap.size/\∀i,i<k->∃g cap,w.cell? ⟨g0,i*5,none⟩=some (.slice (some ⟨g,0,none⟩) n cap)/\w.cell? ⟨g0,i*5+1,none⟩=some (.int .i64 (X i).1)/\w.cell? ⟨g0,i*5+2,none⟩=some (.int .i64 (X i).2)/\w.cell? ⟨g0,i*5+3,none⟩=some (.int .i64 (Y i).1)/\w.cell? ⟨g0,i*5+4,none⟩=some (.int .i64 (Y i).2)/\QRow (λj=>IsQ (F i j)) w g n n
theorem PLs.keep {F:Nat->Nat->Rat} {X Y:Nat->Int×Int} {w w':World} {k n:Nat} {v:Value} (h:PLs F X Y w v k n) (J:Below w.heap.size w w'):PLs F X Y w' v k n:=by
 rcases h with h |⟨I,c0,e,hg,hc⟩
 ·exact .inl h
 ·refine .inr ⟨I,c0,e,nN hg J.size,λi hi=>?_⟩
  obtain⟨g,cap,M,O,U,V,Z,e5⟩:=hc i hi;have E:∀j v,w.cell? ⟨I,j,none⟩=some v->w'.cell? ⟨I,j,none⟩=some v:=λj v e=>(J.cell (p:=⟨I,j,none⟩) hg).trans e
  exact⟨g,cap,E _ _ M,E _ _ O,E _ _ U,E _ _ V,E _ _ Z,e5.keep (λ_=>IsQ.solid _) J⟩
def IsA (x y:Int):FP:=λw s p n c t q m d=>Zr w s p n c x/\Zr w t q m d y
theorem IsA.solid (x y:Int):Bi (IsA x y):=λ_ _ _ _ _ _ _ _ _ _ h hq=>⟨hq.1.i32 h,hq.2.i32 h⟩
def Shorts (x y:Nat->Int) (w:World) (vp:Option Addr) (i:Nat):Prop:=∀j,j<i->∃g o,vp=some ⟨g,o,none⟩/\g<w.heap.size/\QE (IsR (x j) (y j)) w g (o+j*4)
theorem Shorts.ql {x y:Nat->Int} {w:World} {E:Option Addr} {n c:Nat} (h:Shorts x y w E n):QL (λj=>IsR (x j) (y j)) w (.slice E n c) n:=by
 rcases Nat.eq_zero_or_pos n with rfl|I
 ·exact .inl ⟨rfl,_,_,rfl⟩
 ·obtain⟨g,o,rfl,hg,_⟩:=h 0 I
  refine .inr ⟨g,o,c,rfl,hg,λj J=>?_⟩;obtain⟨M,O,e,_,hq⟩:=h j J;injection e with e
  injection e with e1 e2
  subst e1;subst e2;exact hq
end Go.Proofs.YtenlbhlllgppmaaGreatDoor
namespace Go.Proofs.YtenlbhlllgppmaaGreatDoor
open Tryz
open Go.RowKit Go.ChangeShapes Go.WideShapes Go.Deep
theorem bS:prog.cellsOf 47=2:=by kernel_rfl
theorem gB:prog.cellsOf 3=1:=by kernel_rfl
theorem dS {w:World} {a:Addr} {v:Value} (h:w.cell? a=some v):a.spot=none:=by
 cases hsp:a.spot with
 | none=>rfl
 | some s=>
  simp only[World.cell?]at h;split at h
  ·simp[hsp]at h
  ·cases h
theorem aH {w:World} {a:Addr} {v:Value} (h:w.cell? (a.add 0)=some v):∃g o,a=⟨g,o,none⟩/\g<w.heap.size:=by
 have e:a.add 0=a:=by unfold Addr.add;rw[if_pos rfl]
 rw[e]at h;have E:=dS h;have I:=World.block_lt_of_cell? w a h;obtain⟨g,o,s⟩:=a;dsimp only at E I;subst E;exact⟨g,o,rfl,I⟩
theorem Tr {k:IntKind} {n:Int} (h:(Lit.int k n).wf=true):k.min<=n/\n<=k.max:=by simpa [Lit.wf] using h
section
variable {H:Type} {enc:TypeId×Value->H} {w:World} {sp:Nat->Bool} {hd:Bool}
theorem Gb {P:Program} {W J:World}:∀{O:List TypeId} {U:List Value} {M:List (DataW H)} {I:List MemPlace},DataW.TrodAll enc P W 0 sp hd O U M I->(∀p∈I,W.sameAt J p)->DataW.TrodAll enc P J 0 sp hd O U M I
 | [],[],[],_,h,_=>h
 | _ :: _,_ :: _,_ :: _,_,⟨p,q,⟨n,h1⟩,h2,e⟩,hs=>⟨p,q,⟨n,DataW.trod_carry n _ _ _ h1 (λx E=>hs x (by rw[e];exact List.mem_append_left _ E))⟩,Gb h2 (λx E=>hs x (by rw[e];exact List.mem_append_right _ E)),e⟩
end
theorem cO:Kids prog (·<prog.types.size):=kids_rows (by kernel_rfl) (by kernel_rfl)
theorem cL:∀t e,t<prog.types.size->prog.underlying t=some (.slice e)->0<prog.cellsOf e:=slices_full_of prog (by kernel_rfl)
end Go.Proofs.YtenlbhlllgppmaaGreatDoor
namespace Go.Proofs.YtenlbhlllgppmaaGreatDoor
open Tryz
open Go.ChangeShapes Go.WideShapes Go.ChangeAt Go.RowKit Go.Joins
theorem Se:prog.cellsOf 48=1:=by kernel_rfl
theorem bT:prog.cellsOf 45=1:=by kernel_rfl
theorem bU:prog.cellsOf 50=11:=by kernel_rfl
theorem aI {V:Type} {cs:Array V} (h:cs.size=11):∃c0 c1 c2 c3 c4 I J M O U E,cs=#[c0,c1,c2,c3,c4,I,J,M,O,U,E]:=by
 obtain⟨l⟩:=cs
 match l,h with
 | [c0,c1,c2,c3,c4,I,J,M,O,U,E],_=>exact⟨c0,c1,c2,c3,c4,I,J,M,O,U,E,rfl⟩
theorem kH {M:Type} {l:List M} (h:l.length=8):∃c0 c1 c2 c3 c4 E I J,l=[c0,c1,c2,c3,c4,E,I,J]:=by
 match l,h with
 | [c0,c1,c2,c3,c4,E,I,J],_=>exact⟨c0,c1,c2,c3,c4,E,I,J,rfl⟩
section
variable {H:Type} {enc:TypeId×Value->H} {w:World} {sp:Nat->Bool} {hd:Bool}
theorem Yu {n:Nat} {v:Value} {y:DataW H×List MemPlace} (h:DataW.trod enc prog w 0 sp hd n 45 [v]=some y):
  ∃(p:Option Addr) (Z c:Nat) (x:Nat->Int),v=.slice p Z c/\(∀k,k<Z->∃g o,p=some ⟨g,o,none⟩/\g<w.heap.size/\w.cell? ⟨g,o+k,none⟩=some (.int .i8 (x k)))/\∀k,k<Z->-128<=x k/\x k<=127:=by
 rcases open_ints underlying45 underlying48 Se h with⟨U,_⟩ |⟨a,len,cap,E,U,_,h3,_,h5,_,h7,h8⟩
 ·have V:v=.slice none 0 0:=by
   have O:[v]=[.slice none 0 0]:=U;injection O
  subst V;exact⟨none,0,0,λ_=>0,rfl,λk I=>absurd I (Nat.not_lt_zero _),λk I=>absurd I (Nat.not_lt_zero _)⟩
 ·have V:v=.slice (some a) len cap:=by
   have O:[v]=[.slice (some a) len cap]:=U;injection O
  subst V;have aX:len<=E.length:=by rw[h5];split <;> omega
  refine⟨some a,len,cap,λi=>E.getD i 0,rfl,λk I=>?_,λk I=>?_⟩
  ·obtain⟨g,o,rfl,hg⟩:=aH (h7 0 (by omega))
   have M:=h7 k (by omega);rw[Addr.add_lit]at M;exact⟨g,o,rfl,hg,M⟩
  ·have J:k<E.length:=by omega
   have e:E.getD k 0=E[k]:=by rw[List.getD_eq_getElem?_getD,List.getElem?_eq_getElem J];rfl
   have M:=Tr (h8 (E.getD k 0) (by rw[e];exact List.getElem_mem J));exact M
theorem Ic {n:Nat} {v0 v1:Value} {y:DataW H×List MemPlace} (h:DataW.trod enc prog w 0 sp hd n 47 [v0,v1]=some y):∃p q:Int,v0=.int .i64 p/\v1=.int .i64 q/\(-9223372036854775808<=p/\p<=9223372036854775807)/\(-9223372036854775808<=q/\q<=9223372036854775807):=by
 obtain⟨V,Z,U,_,_,E,I⟩:=trod_struct2 (cs:=[v0,v1]) underlying47 h;dsimp only at E I;rw[gB]at E I;obtain⟨p,J,_,w0⟩:=DataW.trod_int underlying3 E;obtain⟨q,M,_,O⟩:=DataW.trod_int underlying3 I;simp at J M;exact⟨p,q,J,M,Tr w0,Tr O⟩
theorem Fz {n:Nat} {v:Value} {y:DataW H×List MemPlace} (h:DataW.trod enc prog w 0 sp hd n 48 [v]=some y):∃a:Int,v=.int .i8 a/\(-128<=a/\a<=127):=by
 obtain⟨a,E,_,w0⟩:=DataW.trod_int underlying48 h;simp at E;exact⟨a,E,Tr w0⟩
theorem Nz {P:Program} {E:Nat} {t:TypeId} {J M O U V Z f6 f7:Field} {aN:Nat} {cs:List Value} {x:DataW H×List MemPlace} (ht:P.underlying t=some (.struct #[J,M,O,U,V,Z,f6,f7])) (h:DataW.trod enc P w E sp hd aN t cs=some x):
  ∃y0 y1 y2 y3 y4 y5 y6 y7 n,DataW.trod enc P w E sp hd n J.type ((cs.drop J.offset).take (P.cellsOf J.type))=some y0/\DataW.trod enc P w E sp hd n M.type ((cs.drop M.offset).take (P.cellsOf M.type))=some y1/\DataW.trod enc P w E sp hd n O.type ((cs.drop O.offset).take (P.cellsOf O.type))=some y2/\DataW.trod enc P w E sp hd n U.type ((cs.drop U.offset).take (P.cellsOf U.type))=some y3/\DataW.trod enc P w E sp hd n V.type ((cs.drop V.offset).take (P.cellsOf V.type))=some y4/\DataW.trod enc P w E sp hd n Z.type ((cs.drop Z.offset).take (P.cellsOf Z.type))=some y5/\DataW.trod enc P w E sp hd n f6.type ((cs.drop f6.offset).take (P.cellsOf f6.type))=some y6/\DataW.trod enc P w E sp hd n f7.type ((cs.drop f7.offset).take (P.cellsOf f7.type))=some y7:=by
 obtain⟨xs,n,_,rfl,hl,aX,I⟩:=DataW.trod_struct ht h;obtain⟨y0,y1,y2,y3,y4,y5,y6,y7,rfl⟩:=kH aX;exact⟨y0,y1,y2,y3,y4,y5,y6,y7,n,by simpa using I 0 J rfl,by simpa using I 1 M rfl,by simpa using I 2 O rfl,by simpa using I 3 U rfl,by simpa using I 4 V rfl,by simpa using I 5 Z rfl,by simpa using I 6 f6 rfl,by simpa using I 7 f7 rfl⟩
theorem Nn {r:Reach} {b0:Nat} {v:Value} {d:DataW H} {ps:List MemPlace} (hv:Value.okWide prog w r b0 50 v) (h:DataW.Trod enc prog w 0 sp hd 50 v d ps):
  ∃(p:Option Addr) (I cp:Nat) (x:Nat->Int) (J M O U V Z a b c e:Int),v=.agg #[.slice p I cp,.int .i64 J,.int .i64 M,.int .i64 O,.int .i64 U,.int .i64 V,.int .i64 Z,.int .i8 a,.int .i8 b,.int .i8 c,.int .i8 e] /\
   ((∀k,k<I->∃g o,p=some ⟨g,o,none⟩/\g<w.heap.size/\w.cell? ⟨g,o+k,none⟩=some (.int .i8 (x k)))/\∀k,k<I->-128<=x k/\x k<=127) /\
   ((-9223372036854775808<=J/\J<=9223372036854775807)/\(-9223372036854775808<=M/\M<=9223372036854775807))/\((-9223372036854775808<=O/\O<=9223372036854775807)/\(-9223372036854775808<=U/\U<=9223372036854775807))/\((-9223372036854775808<=V/\V<=9223372036854775807)/\(-9223372036854775808<=Z/\Z<=9223372036854775807)) /\
   (-128<=a/\a<=127)/\(-128<=b/\b<=127)/\(-128<=c/\c<=127)/\(-128<=e/\e<=127):=by
 obtain⟨cs,rfl,E⟩:=okWide_struct underlying50 hv;obtain⟨v0,v1,v2,v3,v4,v5,v6,v7,v8,v9,cD,rfl⟩:=aI (E.trans bU);clear hv E;obtain⟨cF,hf⟩:=h;obtain⟨y0,O,U,y3,y4,y5,y6,y7,n,h0,h1,h2,h3,h4,h5,h6,h7⟩:=Nz underlying50 hf;dsimp only at h0 h1 h2 h3 h4 h5 h6 h7;rw[bT]at h0;rw[bS]at h1 h2 h3;rw[Se]at h4 h5 h6 h7;have g0:DataW.trod enc prog w 0 sp hd n 45 [v0]=some y0:=h0;have g1:DataW.trod enc prog w 0 sp hd n 47 [v1,v2]=some O:=h1;have g2:DataW.trod enc prog w 0 sp hd n 47 [v3,v4]=some U:=h2;have g3:DataW.trod enc prog w 0 sp hd n 47 [v5,v6]=some y3:=h3;have g4:DataW.trod enc prog w 0 sp hd n 48 [v7]=some y4:=h4;have g5:DataW.trod enc prog w 0 sp hd n 48 [v8]=some y5:=h5;have g6:DataW.trod enc prog w 0 sp hd n 48 [v9]=some y6:=h6;have g7:DataW.trod enc prog w 0 sp hd n 48 [cD]=some y7:=h7;clear h0 h1 h2 h3 h4 h5 h6 h7 hf;obtain⟨p,I,cp,x,rfl,hp⟩:=Yu g0;obtain⟨J,M,rfl,rfl,cB⟩:=Ic g1;obtain⟨u1,u2,rfl,rfl,cA⟩:=Ic g2;obtain⟨V,Z,rfl,rfl,cC⟩:=Ic g3;obtain⟨a,rfl,ha⟩:=Fz g4;obtain⟨b,rfl,hb⟩:=Fz g5;obtain⟨c,rfl,hc⟩:=Fz g6;obtain⟨e,rfl,he⟩:=Fz g7;exact⟨p,I,cp,x,J,M,u1,u2,V,Z,a,b,c,e,rfl,hp,cB,cA,cC,ha,hb,hc,he⟩
end
end Go.Proofs.YtenlbhlllgppmaaGreatDoor
namespace Go.Proofs.YtenlbhlllgppmaaGreatDoor
open Tryz
open Go.RowKit
theorem Yp (x:Rat):Rat.divInt (-x.num) x.den=-x:=by
 rw[<-Rat.neg_divInt,Bj]
theorem Pw (x y:Rat):Rat.divInt (x.num*y.den) (x.den*y.num)=x / y:=by
 rw[<-Rat.divInt_mul_divInt,Bj,Rat.div_def,Rat.inv_def]
theorem Gu (s:Bool) (p:Option Addr) (n c:Nat) (t:Bool) (q:Option Addr) (m d:Nat) (x:Rat) (w:World) (h:Qs w s p n c t q m d x) (I:hq x<=1000000000):
  Calls prog 97 #[.agg #[.bool s,.slice p n c,.bool t,.slice q m d]] w λe w'=>V4 e x/\Below w.heap.size w w':=by
 have E:=My s p n c x.num t q m d x.den w h.1.raw h.2.raw (by have:=h.sizes;omega) (by have:=h.sizes;omega);rw[Bj]at E;exact E
theorem Wz (s:Bool) (p:Option Addr) (n c:Nat) (t:Bool) (q:Option Addr) (m d:Nat) (x:Rat) (w:World) (h:Qs w s p n c t q m d x) (I:hq x<=1000000000000):
  Calls prog 97 #[.agg #[.bool s,.slice p n c,.bool t,.slice q m d]] w λe w'=>V4 e x/\Below w.heap.size w w':=by
 have E:=My s p n c x.num t q m d x.den w h.1.raw h.2.raw (by have:=h.sizes;omega) (by have:=h.sizes;omega);rw[Bj]at E;exact E
theorem I5 (s:Bool) (p:Option Addr) (n c:Nat) (t:Bool) (q:Option Addr) (m d:Nat) (x:Rat) (w:World) (h:Qs w s p n c t q m d x) (hx:hq x<=1000000000):
  Calls prog 51 #[.agg #[.bool s,.slice p n c,.bool t,.slice q m d]] w λe w'=>F6 w' e (-x)/\Below w.heap.size w w':=by
 have HV:=Kh (Yp x);have HS:=Kh h.sizes;have bB:=Kh (show nd (-x.num).natAbs<=4398046511100 by rw[Int.natAbs_neg];have:=Er x;omega);have HD:=Kh (λE (hb:Below w.heap.size w E)=>h.2.keep hb);have aX:=Kh (λE (hb:Below w.heap.size w E)=>Wi s p n c x.num E (h.1.keep hb).raw (by have:=HS.1;omega));clear h;go_enter func51,ntmps51
 go_upto_region 1 with(fail)
 obtain⟨w0,Z,M,I,O⟩:=bx2 w #[.bool s,.slice p n c,.bool t,.slice q m d] 86 #[.bool false,.slice none 0 0,.bool false,.slice none 0 0] 86;rw[Z];have cG:w.heap.size<=w0.heap.size:=O.size;clear Z;have M1:True:=trivial;have T1:=Sts.of I (by intro v hv;simp at hv;rcases hv with rfl|rfl|rfl|rfl <;> first|exact NotInt.bool _|exact NotInt.slice _ _ _);have cB:=D7 (Below.refl _ w0).drew ⟨M.c0,M.c1,M.c2,M.c3,I.so 0,I.free_ 0,T1,I.so 1,I.free_ 1,T1,I.so 2,I.free_ 2,T1,I.so 3,I.free_ 3,T1,O,cG⟩;clear M I
 go_region_held3 (λE=>E.cell? ⟨w.heap.size,0,none⟩=some (.bool s)/\E.cell? ⟨w.heap.size,1,none⟩=some (.slice p n c)/\E.cell? ⟨w.heap.size,2,none⟩=some (.bool t)/\E.cell? ⟨w.heap.size,3,none⟩=some (.slice q m d)/\E.cell? ⟨w.heap.size+1,0,none⟩=some (cellOf E ⟨w.heap.size+1,0,none⟩)/\E.frozen? ⟨w.heap.size+1,0,none⟩=false/\Sts E (w.heap.size+1)/\E.cell? ⟨w.heap.size+1,1,none⟩=some (cellOf E ⟨w.heap.size+1,1,none⟩)/\E.frozen? ⟨w.heap.size+1,1,none⟩=false/\Sts E (w.heap.size+1)/\E.cell? ⟨w.heap.size+1,2,none⟩=some (cellOf E ⟨w.heap.size+1,2,none⟩)/\E.frozen? ⟨w.heap.size+1,2,none⟩=false/\Sts E (w.heap.size+1)/\E.cell? ⟨w.heap.size+1,3,none⟩=some (cellOf E ⟨w.heap.size+1,3,none⟩)/\E.frozen? ⟨w.heap.size+1,3,none⟩=false/\Sts E (w.heap.size+1)/\Below w.heap.size w E/\w.heap.size<=E.heap.size)
  (first|with_reducible exact cB |(refine D7 (by with_reducible assumption) ?_;assumption) |(refine N7 ?_ ?_ ?_ ?_ ?_ ?_ ?_ ?_ ?_ ?_ ?_ ?_ ?_ ?_ ?_ ?_ ?_ ?_ ?_ ?_ ?_ ?_ ?_ ?_ ?_ <;> first|assumption|exact NotInt.bool _|exact NotInt.slice _ _ _ |(dsimp only;omega) |(simp;done)))
  (first
   |(go_at_call 98;refine(aX.1 _ (Eo (by with_reducible assumption))).mono ?_;rintro e w2 ⟨⟨s2,p2,n2,e2,rfl,aD⟩,U⟩;have J:=Kh aD;have aN:=Kh (show Below w.heap.size w w2 from Below.trans (Eo (by with_reducible assumption)) (Below.mono U (Below.size (Eo (by with_reducible assumption)))));have bA:=Kh (J1 s2 p2 n2 e2 (-x.num) t q m d x.den w2 J.1.raw (HD.1 _ aN.1).raw (by rw[<-J.1.2.1];exact bB.1) (by have:=HS.1;omega));clear aD)
   |(go_at_call 85;refine bA.1.mono ?_;rintro e w4 ⟨⟨s4,p4,n4,e4,t4,q4,m4,d4,rfl,V⟩,cD⟩;clear U;obtain⟨⟨bC,hT⟩,⟨bE,_⟩,⟨bY,_⟩,⟨cA,_⟩⟩:=V6 cD (by with_reducible assumption);have cF:=Kh (V.put4 hT (.bool s4) (.slice p4 n4 e4) (.bool t4) (.slice q4 m4 d4) (NotInt.bool _) (NotInt.slice _ _ _) (NotInt.bool _));clear V hT))
 go_wp2;try simp only[Exit.inBlock,Exit.then]
 refine bodyPost_ret (by simp[results,results51,go_sem,bC,bE,bY,cA];try rfl) rfl ?_;exact⟨⟨s4,p4,n4,e4,t4,q4,m4,d4,rfl,HV.1▸cF.1⟩,Eo (by assumption)⟩
theorem bP (s:Bool) (p:Option Addr) (n c:Nat) (t:Bool) (q:Option Addr) (m d:Nat) (x:Rat) (s':Bool) (p':Option Addr) (n' O:Nat) (t':Bool) (q':Option Addr) (m' U:Nat) (y:Rat) (w:World) (h:Qs w s p n c t q m d x) (h':Qs w s' p' n' O t' q' m' U y) (hx:hq x<=1000000000) (hy:hq y<=1000000000):
  Calls prog 146 #[.agg #[.bool s,.slice p n c,.bool t,.slice q m d],.agg #[.bool s',.slice p' n' O,.bool t',.slice q' m' U]] w λe w'=>F6 w' e (x - y)/\Below w.heap.size w w':=by
 have HV:=Kh (Rat.sub_eq_add_neg x y).symm;have HY:=Kh (show hq (-y)<=1000000000 by rw[hq,Rat.neg_num,Rat.neg_den,Int.natAbs_neg];exact hy);have HD:=Kh (λE (hb:Below w.heap.size w E)=>h.keep hb);have cA:=Kh (λE (hb:Below w.heap.size w E)=>I5 s' p' n' O t' q' m' U y E (h'.keep hb) hy);clear h h';go_enter func146,ntmps146
 go_upto_region 1 with(fail)
 obtain⟨w0,aK,J,M,I,V⟩:=T9 w #[.bool s,.slice p n c,.bool t,.slice q m d] 86 #[.bool s',.slice p' n' O,.bool t',.slice q' m' U] 86 #[.bool false,.slice none 0 0,.bool false,.slice none 0 0] 86;rw[aK];have dC:w.heap.size<=w0.heap.size:=V.size;clear aK;have M1:True:=trivial;have T2:=Sts.of I (by intro v hv;simp at hv;rcases hv with rfl|rfl|rfl|rfl <;> first|exact NotInt.bool _|exact NotInt.slice _ _ _);have cM:=A9 (Below.refl _ w0).drew ⟨J.c0,J.c1,J.c2,J.c3,M.c0,M.c1,M.c2,M.c3,I.so 0,I.free_ 0,T2,I.so 1,I.free_ 1,T2,I.so 2,I.free_ 2,T2,I.so 3,I.free_ 3,T2,V,dC⟩;clear J M I
 go_region_held3 (λE=>E.cell? ⟨w.heap.size,0,none⟩=some (.bool s)/\E.cell? ⟨w.heap.size,1,none⟩=some (.slice p n c)/\E.cell? ⟨w.heap.size,2,none⟩=some (.bool t)/\E.cell? ⟨w.heap.size,3,none⟩=some (.slice q m d)/\E.cell? ⟨w.heap.size+1,0,none⟩=some (.bool s')/\E.cell? ⟨w.heap.size+1,1,none⟩=some (.slice p' n' O)/\E.cell? ⟨w.heap.size+1,2,none⟩=some (.bool t')/\E.cell? ⟨w.heap.size+1,3,none⟩=some (.slice q' m' U)/\E.cell? ⟨w.heap.size+1+1,0,none⟩=some (cellOf E ⟨w.heap.size+1+1,0,none⟩)/\E.frozen? ⟨w.heap.size+1+1,0,none⟩=false/\Sts E (w.heap.size+1+1)/\E.cell? ⟨w.heap.size+1+1,1,none⟩=some (cellOf E ⟨w.heap.size+1+1,1,none⟩)/\E.frozen? ⟨w.heap.size+1+1,1,none⟩=false/\Sts E (w.heap.size+1+1)/\E.cell? ⟨w.heap.size+1+1,2,none⟩=some (cellOf E ⟨w.heap.size+1+1,2,none⟩)/\E.frozen? ⟨w.heap.size+1+1,2,none⟩=false/\Sts E (w.heap.size+1+1)/\E.cell? ⟨w.heap.size+1+1,3,none⟩=some (cellOf E ⟨w.heap.size+1+1,3,none⟩)/\E.frozen? ⟨w.heap.size+1+1,3,none⟩=false/\Sts E (w.heap.size+1+1)/\Below w.heap.size w E/\w.heap.size<=E.heap.size)
  (first|with_reducible exact cM |(refine A9 (by with_reducible assumption) ?_;assumption) |(refine D9 ?_ ?_ ?_ ?_ ?_ ?_ ?_ ?_ ?_ ?_ ?_ ?_ ?_ ?_ ?_ ?_ ?_ ?_ ?_ ?_ ?_ ?_ ?_ ?_ ?_ ?_ ?_ ?_ ?_ ?_ ?_ ?_ ?_ ?_ ?_ ?_ ?_ ?_ ?_ ?_ ?_ <;> first|assumption|exact NotInt.bool _|exact NotInt.slice _ _ _ |(dsimp only;omega) |(simp;done)))
  (first
   |(go_at_call 51;refine(cA.1 _ (Bm (by with_reducible assumption))).mono ?_;rintro e w2 ⟨⟨s2,p2,n2,e2,t2,q2,m2,d2,rfl,aN⟩,Z⟩;have cC:=Kh aN;have bY:=Kh (show Below w.heap.size w w2 from Below.trans (Bm (by with_reducible assumption)) (Below.mono Z (Below.size (Bm (by with_reducible assumption)))));have cB:=Kh (Fp s p n c t q m d x s2 p2 n2 e2 t2 q2 m2 d2 (-y) w2 (HD.1 _ bY.1) cC.1 hx HY.1);clear aN)
   |(go_at_call 39;refine cB.1.mono ?_;rintro e w4 ⟨⟨s4,p4,n4,e4,t4,q4,m4,d4,rfl,aD⟩,cT⟩;clear Z;obtain⟨⟨cD,hT⟩,⟨cF,_⟩,⟨cG,_⟩,⟨cI,_⟩⟩:=Jr cT (by with_reducible assumption);have cX:=Kh (aD.put4 hT (.bool s4) (.slice p4 n4 e4) (.bool t4) (.slice q4 m4 d4) (NotInt.bool _) (NotInt.slice _ _ _) (NotInt.bool _));clear aD hT))
 go_wp2;try simp only[Exit.inBlock,Exit.then]
 refine bodyPost_ret (by simp[results,results146,go_sem,cD,cF,cG,cI];try rfl) rfl ?_;exact⟨⟨s4,p4,n4,e4,t4,q4,m4,d4,rfl,HV.1▸cX.1⟩,Bm (by assumption)⟩
theorem W0 (s:Bool) (p:Option Addr) (n c:Nat) (z:Int) (w:World) (h:Zs w s p n c z) (hn:n<=1000000000):
  Calls prog 94 #[.agg #[.bool s,.slice p n c]] w λe w'=>F6 w' e (z:Rat)/\Below w.heap.size w w':=by
 have HC:=Kh (λw1 (hb:Below w.heap.size w w1)=>Jy s p n c z w1 (h.keep hb).raw (by omega));have HO:=Kh (λw1=>Ge 1 w1 (by omega) (by omega));clear h;go_enter func94,ntmps94
 go_wp2_with fail
 obtain⟨w0,aX,X1,X0,aD⟩:=bx2 w #[.bool s,.slice p n c] 84 #[.bool false,.slice none 0 0,.bool false,.slice none 0 0] 86;rw[aX];have I:=Kh X0;have O:=Kh aD;clear X0 X1 aD aX;refine(HC.1 _ O.1).mono ?_;rintro e w1 ⟨⟨s2,p2,n2,e2,rfl,bA⟩,U⟩;have Z:=Kh bA;have V:=bt O U;replace I:=Kh (bk I U);clear bA U HC;go_wp2_with fail
 refine(HO.1 _).mono ?_;rintro e w2 ⟨⟨t2,q2,m2,d2,rfl,bB⟩,J⟩;have HQ:=Kh (show Qs w2 s2 p2 n2 e2 t2 q2 m2 d2 (z:Rat)from⟨Z.1.keep J,bB⟩);have E:=Kh (bk I J);have HB:=bt V J;clear bB J I V Z HO O;have r0:=E.1.at_ 0 rfl;have r1:=E.1.at_ 1 rfl;have r2:=E.1.at_ 2 rfl;have r3:=E.1.at_ 3 rfl;have f0:=E.1.free_ 0;have f1:=E.1.free_ 1;have f2:=E.1.free_ 2;have f3:=E.1.free_ 3;obtain⟨w9,M⟩:∃w9,(((w2.setCell ⟨w.heap.size+1,0,none⟩ (.bool s2)).setCell ⟨w.heap.size+1,1,none⟩ (.slice p2 n2 e2)).setCell ⟨w.heap.size+1,2,none⟩ (.bool t2)).setCell ⟨w.heap.size+1,3,none⟩ (.slice q2 m2 d2)=w9:=⟨_,rfl⟩
 obtain⟨E0,E1,E2,E3,aN⟩:=Cc E.1 HQ.1 M;have aK:Below w.heap.size w w9:=by rw[<-M];exact Au HB.1 (by omega) _ _ _ _
 have cG:=Kh M;have cD:=Kh (And.intro E0 (And.intro E1 (And.intro E2 E3)));have cF:=Kh aN;have cC:=Kh aK;clear E0 E1 E2 E3 aN aK M HQ HB E;go_wp2;try rw[cG.1]
 obtain⟨E0,E1,E2,E3⟩:=cD.1;try simp only[Exit.inBlock,Exit.then]
 refine bodyPost_ret (by simp[results,results94,go_sem,E0,E1,E2,E3];try rfl) rfl ?_;exact⟨⟨s2,p2,n2,e2,t2,q2,m2,d2,rfl,cF.1⟩,cC.1⟩
theorem bO (s:Bool) (p:Option Addr) (n c:Nat) (t:Bool) (q:Option Addr) (m d:Nat) (x:Rat) (s':Bool) (p':Option Addr) (n' c':Nat) (t':Bool) (q':Option Addr) (m' d':Nat) (y:Rat) (w:World) (h:Qs w s p n c t q m d x) (h':Qs w s' p' n' c' t' q' m' d' y) (hx:hq x<=1000000000) (hy:hq y<=1000000000) (h0:y≠0):
  Calls prog 96 #[.agg #[.bool s,.slice p n c,.bool t,.slice q m d],.agg #[.bool s',.slice p' n' c',.bool t',.slice q' m' d']] w λe w'=>(∃s4 p4 n4 c4 t4 q4 m4 d4,e=.returned (.tuple #[.agg #[.bool s4,.slice p4 n4 c4,.bool t4,.slice q4 m4 d4],.int .i64 0])/\Qs w' s4 p4 n4 c4 t4 q4 m4 d4 (x / y))/\Below w.heap.size w w':=by
 have HV:=Kh (Pw x y);have HS:=Kh (And.intro h.sizes h'.sizes);have gI:=Kh (show nd (x.num*y.den).natAbs<=4398046511100 by rw[Int.natAbs_mul,Int.natAbs_natCast];have:=Cf x.num.natAbs y.den;have:=Er x;have:=Ff y;omega);have gL:=Kh (show nd (x.den*y.num).natAbs<=4398046511100 by rw[Int.natAbs_mul,Int.natAbs_natCast];have:=Cf x.den y.num.natAbs;have:=Ff x;have:=Er y;omega);have cB:=Kh (λE (hb:Below w.heap.size w E)=>Gu s' p' n' c' t' q' m' d' y E (h'.keep hb) hy);have eY:=Kh (λE (hb:Below w.heap.size w E)=>Gs s p n c x.num t' q' m' d' y.den E (h.1.keep hb).raw (h'.2.keep hb).raw (by have:=HS.1;omega) (by have:=HS.1;omega));have gA:=Kh (λE (hb:Below w.heap.size w E)=>Gs t q m d x.den s' p' n' c' y.num E (h.2.keep hb).raw (h'.1.keep hb).raw (by have:=HS.1;omega) (by have:=HS.1;omega));clear h h';go_enter func96,ntmps96
 go_wp2_with fail
 obtain⟨w0,cT,V,Z,J,M⟩:=T9 w #[.bool s,.slice p n c,.bool t,.slice q m d] 86 #[.bool s',.slice p' n' c',.bool t',.slice q' m' d'] 86 #[.bool false,.slice none 0 0,.bool false,.slice none 0 0] 86;rw[cT];have aN:w.heap.size<=w0.heap.size:=M.size;clear cT;have cC:=Kh V;have I:=Kh Z;have cD:=Kh J;have U:=Kh M;clear V Z J M aN;have r0:=I.1.at_ 0 rfl;have r1:=I.1.at_ 1 rfl;have r2:=I.1.at_ 2 rfl;have r3:=I.1.at_ 3 rfl;go_wp2_with fail
 refine(cB.1 _ U.1).mono ?_;rintro e E ⟨⟨sg,rfl,cS⟩,O⟩
 have hJ:(sg==0)=false:=by
  have:sg≠0:=λe=>h0 (cS.1 e)
  simpa using this
 have M:=U.1.trans (O.mono U.1.size);have aN:=M.size;have V:=bk cC O;have Z:=bk I O;have J:=bk cD O;clear cB cC I cD U O cS r0 r1 r2 r3;obtain⟨w0,rfl⟩:∃w0:World,w0=E:=⟨_,rfl⟩
 go_upto_region 3 with(fail)
 have M1:True:=trivial;have T2:=Sts.of J (by intro v hv;simp at hv;rcases hv with rfl|rfl|rfl|rfl <;> first|exact NotInt.bool _|exact NotInt.slice _ _ _);have hB:=A9 (Below.refl _ w0).drew ⟨V.c0,V.c1,V.c2,V.c3,Z.c0,Z.c1,Z.c2,Z.c3,J.so 0,J.free_ 0,T2,J.so 1,J.free_ 1,T2,J.so 2,J.free_ 2,T2,J.so 3,J.free_ 3,T2,M,aN⟩;clear V Z J
 go_region_held3 (λE=>E.cell? ⟨w.heap.size,0,none⟩=some (.bool s)/\E.cell? ⟨w.heap.size,1,none⟩=some (.slice p n c)/\E.cell? ⟨w.heap.size,2,none⟩=some (.bool t)/\E.cell? ⟨w.heap.size,3,none⟩=some (.slice q m d)/\E.cell? ⟨w.heap.size+1,0,none⟩=some (.bool s')/\E.cell? ⟨w.heap.size+1,1,none⟩=some (.slice p' n' c')/\E.cell? ⟨w.heap.size+1,2,none⟩=some (.bool t')/\E.cell? ⟨w.heap.size+1,3,none⟩=some (.slice q' m' d')/\E.cell? ⟨w.heap.size+1+1,0,none⟩=some (cellOf E ⟨w.heap.size+1+1,0,none⟩)/\E.frozen? ⟨w.heap.size+1+1,0,none⟩=false/\Sts E (w.heap.size+1+1)/\E.cell? ⟨w.heap.size+1+1,1,none⟩=some (cellOf E ⟨w.heap.size+1+1,1,none⟩)/\E.frozen? ⟨w.heap.size+1+1,1,none⟩=false/\Sts E (w.heap.size+1+1)/\E.cell? ⟨w.heap.size+1+1,2,none⟩=some (cellOf E ⟨w.heap.size+1+1,2,none⟩)/\E.frozen? ⟨w.heap.size+1+1,2,none⟩=false/\Sts E (w.heap.size+1+1)/\E.cell? ⟨w.heap.size+1+1,3,none⟩=some (cellOf E ⟨w.heap.size+1+1,3,none⟩)/\E.frozen? ⟨w.heap.size+1+1,3,none⟩=false/\Sts E (w.heap.size+1+1)/\Below w.heap.size w E/\w.heap.size<=E.heap.size)
  (first|with_reducible exact hB |(refine A9 (by with_reducible assumption) ?_;assumption) |(refine D9 ?_ ?_ ?_ ?_ ?_ ?_ ?_ ?_ ?_ ?_ ?_ ?_ ?_ ?_ ?_ ?_ ?_ ?_ ?_ ?_ ?_ ?_ ?_ ?_ ?_ ?_ ?_ ?_ ?_ ?_ ?_ ?_ ?_ ?_ ?_ ?_ ?_ ?_ ?_ ?_ ?_ <;> first|assumption|exact NotInt.bool _|exact NotInt.slice _ _ _ |(dsimp only;omega) |(simp;done)))
  (first
   |(go_at_call 84;clear M1;refine(eY.1 _ (Bm (by with_reducible assumption))).mono ?_;rintro e w2 ⟨⟨s2,p2,n2,e2,rfl,cX⟩,hD⟩;have aD:=Kh cX;clear cX)
   |(go_at_call 84;refine(gA.1 _ (Bm (by with_reducible assumption))).mono ?_;rintro e w3 ⟨⟨s3,p3,n3,e3,rfl,aX⟩,cI⟩;have gF:=Kh (J1 s2 p2 n2 e2 (x.num*y.den) s3 p3 n3 e3 (x.den*y.num) w3 (aD.1.keep cI).raw aX.raw (by rw[<-aD.1.2.1];exact gI.1) (by rw[<-aX.2.1];exact gL.1));clear aX hD aD)
   |(go_at_call 85;refine gF.1.mono ?_;rintro e w4 ⟨⟨s4,p4,n4,e4,t4,q4,m4,d4,rfl,cM⟩,hE⟩;clear cI;obtain⟨⟨gN,hT⟩,⟨gP,_⟩,⟨gS,_⟩,⟨gU,_⟩⟩:=Jr hE (by with_reducible assumption);have hG:=Kh (cM.put4 hT (.bool s4) (.slice p4 n4 e4) (.bool t4) (.slice q4 m4 d4) (NotInt.bool _) (NotInt.slice _ _ _) (NotInt.bool _));clear cM hT))
 go_wp2;try simp only[Exit.inBlock,Exit.then]
 refine bodyPost_ret (by simp[results,results96,go_sem,gN,gP,gS,gU];try rfl) rfl ?_;exact⟨⟨s4,p4,n4,e4,t4,q4,m4,d4,rfl,HV.1▸hG.1⟩,Bm (by assumption)⟩
end Go.Proofs.YtenlbhlllgppmaaGreatDoor
namespace Go.Proofs.YtenlbhlllgppmaaGreatDoor
open Tryz
namespace Sie
open Tryz
theorem Na {J:Type} (l:List J) (f:J->Nat) (W:Nat) (I:∀x∈l,f x<W+1):l.length=(l.filter (λx=>f x=W)).length+(l.filter (λx=>f x<W)).length:=by
 induction l with
 | nil=>rfl
 | cons x l ih=>
  have O:=ih (λy M=>I y (List.mem_cons_of_mem _ M));have U:=I x (List.mem_cons_self ..);by_cases h:f x=W
  ·have E:¬f x<W:=by omega
   simp only[List.filter_cons,h,decide_true,if_true,List.length_cons,Nat.lt_irrefl,decide_false,Bool.false_eq_true,if_false];omega
  ·have E:f x<W:=by omega
   simp only[List.filter_cons,h,decide_false,Bool.false_eq_true,if_false,List.length_cons,E,decide_true,if_true];omega
theorem box {J:Type} (W:Nat):∀(l:List J) (f:J->Nat) (c:Nat),(∀x∈l,f x<W)->W*c<l.length->∃v,v<W/\c<(l.filter (λx=>f x=v)).length:=by
 induction W with
 | zero=>
  intro l f c E I;cases l with
  | nil=>simp at I
  | cons x l=>exact absurd (E x (List.mem_cons_self ..)) (Nat.not_lt_zero _)
 | succ W ih=>
  intro l f c E I;have Z:=Na l f W E;by_cases h:c<(l.filter (λx=>f x=W)).length
  ·exact⟨W,nO _,h⟩
  ·have M:W*c<(l.filter (λx=>f x<W)).length:=by
    rw[Nat.succ_mul]at I;omega
   obtain⟨v,U,O⟩:=ih (l.filter (λx=>f x<W)) f c (λx V=>by simpa using (List.mem_filter.1 V).2) M;refine⟨v,by omega,nN O ?_⟩;rw[List.filter_filter]
   exact Nat.le_of_eq (congrArg List.length (List.filter_congr λx _=>by
    by_cases h:f x=v
    ·simp[h,U]
    ·simp[h]))
theorem fA (W:Nat) (n:Nat):∀(l:List Nat) (s:Nat->Nat->Nat),l.Nodup->(∀q,q<n->∀x∈l,s q x<W)->W ^ n<l.length->∃x y,x∈l/\y∈l/\x≠y/\∀q,q<n->s q x=s q y:=by
 induction n with
 | zero=>
  intro l s E M I;rw[Nat.pow_zero]at I
  match l,E,I with
  | x :: y :: l,E,_=>
   refine⟨x,y,List.mem_cons_self ..,List.mem_cons_of_mem _ (List.mem_cons_self ..),?_,λq hq=>absurd hq (Nat.not_lt_zero _)⟩;intro h;rw[List.nodup_cons]at E;exact E.1 (h▸List.mem_cons_self ..)
 | succ n ih=>
  intro l s E M I;rw[Nat.pow_succ,Nat.mul_comm]at I;obtain⟨v,_,h2⟩:=box W l (s n) (W ^ n) (M n (nO _)) I;obtain⟨x,y,O,hy,J,he⟩:=ih (l.filter (λx=>s n x=v)) s (E.sublist List.filter_sublist) (λq hq x O=>M q (by omega) x (List.mem_filter.1 O).1) h2;have U:=List.mem_filter.1 O;have V:=List.mem_filter.1 hy;refine⟨x,y,U.1,V.1,J,λq hq=>?_⟩;by_cases h:q=n
  ·subst h
   have Z:=U.2;have b2:=V.2;simp at Z b2;rw[Z,b2]
  ·exact he q (by omega)
theorem Gh (r:Nat) (k:Nat):∀x y:Nat,x<r ^ k->y<r ^ k->(∀i,i<k->x / r ^ i % r=y / r ^ i % r)->x=y:=by
 induction k with
 | zero=>intro x y E I _;rw[Nat.pow_zero]at E I;omega
 | succ k ih=>
  intro x y E I h;have M:=h 0 (Nat.succ_pos _);rw[Nat.pow_zero,Nat.div_one,Nat.div_one]at M;rw[Nat.pow_succ]at E I
  have V:x / r=y / r:=by
   refine ih (x / r) (y / r) (Nat.div_lt_of_lt_mul (by rw[Nat.mul_comm];exact E)) (Nat.div_lt_of_lt_mul (by rw[Nat.mul_comm];exact I)) (λi Z=>?_);have O:=h (i+1) (by omega);rw[Nat.pow_succ,Nat.mul_comm,<-Nat.div_div_eq_div_mul,<-Nat.div_div_eq_div_mul]at O;exact O
  have J:=Nat.div_add_mod x r;have U:=Nat.div_add_mod y r;rw[V]at J;rw[<-J,M,U]
def sum (f:Nat->Int):Nat->Int
 | 0=>0
 | n+1=>sum f n+f n
theorem dU (f g:Nat->Int) (n:Nat):sum (λi=>f i - g i) n=sum f n - sum g n:=by
 induction n with
 | zero=>rfl
 | succ n ih=>rw[sum,sum,sum,ih];omega
theorem Mi {f:Nat->Int} {n:Nat} {K:Int} (h:∀i,i<n->-K<=f i/\f i<=K):-(n*K)<=sum f n/\sum f n<=n*K:=by
 induction n with
 | zero=>rw[sum];omega
 | succ n ih=>
  have I:=ih (λi M=>h i (by omega));have J:=h n (nO _);have E:((n+1:Nat):Int)*K=(n:Int)*K+K:=by rw[Int.natCast_add,Int.add_mul];omega
  rw[sum,E];omega
theorem Ib {a x:Int} {B X:Nat} (E:a.natAbs<=B) (I:0<=x) (O:x<=X):-((B:Int)*X)<=a*x/\a*x<=(B:Int)*X:=by
 have J:(a*x).natAbs<=B*X:=by
  rw[Int.natAbs_mul];exact Nat.mul_le_mul E (by omega)
 have M:((B*X:Nat):Int)=(B:Int)*X:=by rw[Int.natCast_mul]
 omega
def cap (n B:Nat):Nat:=(2*(n+1)*B+1) ^ n
theorem kY (n B:Nat):(2*(n+1)*B*cap n B+1) ^ n<(cap n B+1) ^ (n+1):=by
 have O:0<cap n B:=Nat.pow_pos (Nat.succ_pos _)
 have I:2*(n+1)*B*cap n B+1<=(2*(n+1)*B+1)*cap n B:=by
  rw[Nat.add_mul,Nat.one_mul];omega
 have E:=Nat.pow_le_pow_left I n;rw[Nat.mul_pow]at E;have J:(2*(n+1)*B+1) ^ n=cap n B:=rfl;rw[J]at E;have M:cap n B ^ n<=(cap n B+1) ^ n:=Nat.pow_le_pow_left (Nat.le_succ _) n;have U:0<(cap n B+1) ^ n:=Nat.pow_pos (Nat.succ_pos _);have V:cap n B*cap n B ^ n<=cap n B*(cap n B+1) ^ n:=Nat.mul_le_mul_left _ M;have Z:(cap n B+1) ^ (n+1)=cap n B*(cap n B+1) ^ n+(cap n B+1) ^ n:=by rw[Nat.pow_succ,Nat.mul_comm,Nat.add_mul,Nat.one_mul]
 omega
theorem small (n B:Nat) (a:Nat->Nat->Int) (ha:∀q i,q<n->i<n+1->(a q i).natAbs<=B):
  ∃m:Nat->Int,(∃i,i<n+1/\m i≠0)/\(∀i,i<n+1->(m i).natAbs<=cap n B)/\∀q,q<n->sum (λi=>a q i*m i) (n+1)=0:=by
 obtain⟨X,hX⟩:∃X,cap n B=X:=⟨_,rfl⟩
 have E:=kY n B;rw[hX]at E ⊢;obtain⟨r,hr⟩:∃r,X+1=r:=⟨_,rfl⟩
 rw[hr]at E;obtain⟨d,hd⟩:∃d:Nat->Nat->Int,d=λx i=>((x / r ^ i % r:Nat):Int):=⟨_,rfl⟩
 have I:∀x i,0<=d x i/\d x i<=(X:Int):=λx i=>by
  have J:x / r ^ i % r<r:=Nat.mod_lt _ (by omega);rw[hd];dsimp only;omega
 have U:∀q x,q<n->-((n+1:Nat)*((B:Int)*X))<=sum (λi=>a q i*d x i) (n+1)/\sum (λi=>a q i*d x i) (n+1)<=(n+1:Nat)*((B:Int)*X):=λq x hq=>
  Mi (λi O=>Ib (ha q i hq O) (I x i).1 (I x i).2)
 obtain⟨T,hT⟩:∃T:Nat,(n+1)*(B*X)=T:=⟨_,rfl⟩
 have M:((n+1:Nat):Int)*((B:Int)*X)=(T:Int):=by rw[<-hT,Int.natCast_mul,Int.natCast_mul]
 have hW:2*(n+1)*B*X+1=2*T+1:=by rw[<-hT,Nat.mul_assoc 2,Nat.mul_assoc 2,Nat.mul_assoc (n+1)]
 rw[hW]at E
 obtain⟨x,y,hx,hy,V,he⟩:=fA (2*T+1) n (List.range (r ^ (n+1))) (λq x=>(sum (λi=>a q i*d x i) (n+1)+T).toNat) List.nodup_range (λq hq x _=>by
  have J:=U q x hq;rw[M]at J;omega) (by rw[List.length_range];exact E)
 rw[List.mem_range]at hx hy;refine⟨λi=>d x i - d y i,?_,λi O=>?_,λq hq=>?_⟩
 ·refine Classical.byContradiction λZ=>V (Gh r (n+1) x y hx hy λi O=>?_)
  have J:d x i - d y i=0:=Classical.byContradiction λh=>Z ⟨i,O,h⟩
  rw[hd]at J;dsimp only at J;omega
 ·have J:=I x i
  have h2:=I y i;show(d x i - d y i).natAbs<=X;omega
 ·have J:=he q hq
  have h2:=U q x hq;have h3:=U q y hq;rw[M]at h2 h3;have h4:(λi=>a q i*(d x i - d y i))=λi=>a q i*d x i - a q i*d y i:=by funext i;rw[Int.mul_sub]
  rw[h4,dU];omega
end Sie
end Go.Proofs.YtenlbhlllgppmaaGreatDoor
