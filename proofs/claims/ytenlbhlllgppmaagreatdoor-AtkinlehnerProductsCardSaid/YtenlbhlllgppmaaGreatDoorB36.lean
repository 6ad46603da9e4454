/- product, operators and awake of halfplanelaw48. -/
import Derived.Test.YtenlbhlllgppmaaGreatDoorB35
set_option linter.unusedSimpArgs false
set_option maxRecDepth 100000
set_option maxHeartbeats 8000000
namespace Go.Proofs.YtenlbhlllgppmaaGreatDoor
section
open Go.RowKit Eli Tryz
theorem fV (n wt:Nat) (D:Int) (w:World) (V:Tab w) (I:Pl.check n ((wt:Int)+2) D=0) (O:cntF n wt<=72):
  Calls prog 11 #[.agg #[.int .i64 n,.int .i64 ((wt:Int)+2),.int .i64 D]] w λe w'=>(∃M,e=.returned (.tuple #[.pointer (some ⟨M,0,none⟩),.int .i64 0])/\ModR w' M n wt D (frs (C9 n wt D) (cntF n wt)) (cntF n wt) (B5 (C9 n wt D) (cntF n wt) (cntF n wt))/\∀v g,w'.cell? ⟨M,3,none⟩=some v->v.ownBlock=some g->w.heap.size<=g)/\Below w.heap.size w w':=by
 obtain⟨h,h2,h3,h4,_,_⟩:=Av I;refine(eX n wt D w V I O).mono ?_;rintro e w' ⟨⟨M,rfl,J,Z⟩,U⟩;exact⟨⟨M,rfl,⟨I,rfl,nS (E8 _ _) O,Z,λj f Y J=>nS (Kv (by omega) O Y J) (by omega),λf J=>J1 (by omega) J⟩,J.2⟩,U⟩
theorem ModR.box {w w':World} {M n wt R:Nat} {D:Int} {F:List Nat} {C:Nat} {X:Nat->Nat->Rat} {i:Int} {v:Value} (h:ModR w M n wt D F C X) (h0:w.cell? ⟨R,0,none⟩=some (.int .i64 i)) (h2:w.cell? ⟨R,2,none⟩=some v) (hv:∀k z,v≠.int k z) (hf:∀u g,w.cell? ⟨M,3,none⟩=some u->u.ownBlock=some g->g≠R) (aX:I32 w w') (hg:w.grownBy w' (some R)):ModR w' M n wt D F C X:=by
 refine⟨h.check,h.cnt,h.len,?_,h.size,h.rel⟩;have O:=h.mod
 have V:M≠R:=λe=>by
  have:=O.c2;rw[e,h2]at this;injection this with this
  exact hv _ _ this
 have U:∀g i u,g≠R->w.cell? ⟨g,i,none⟩=some u->w'.cell? ⟨g,i,none⟩=some u:=λg i u bY e=>hg.cell e (λI=>by injection I with I;exact bY I)
 obtain⟨u,e3,h3⟩:=O.c3;obtain⟨GR,e4,hG,h4⟩:=O.c4;have cA:=hg.size;refine ModAt.up (B:=w.heap.size) ⟨O.lt,U _ _ _ V O.c0,U _ _ _ V O.c1,U _ _ _ V O.c2,⟨u,U _ _ _ V e3,h3.but hg (λg bE=>hf u g e3 bE)⟩,GR,U _ _ _ V e4,hG,λj hj=>?_⟩ cA;obtain⟨g,e,bB,hq⟩:=h4 j hj
 have bA:GR≠R:=λI=>by
  obtain⟨g0,Y,_⟩:=h4 0 (by omega);rw[I,h0]at Y;injection Y with Y
  cases Y
 refine⟨g,U _ _ _ bA e,bB,λi f J=>?_⟩
 have bC:g≠R:=λI=>by
  have hl:0<F.length:=by
   rcases Nat.eq_zero_or_pos F.length with h|h
   ·rw[List.getElem?_eq_none (by omega)]at J;cases J
   ·exact h
  obtain⟨s,p,n,c,t,q,m,d,Z,_⟩:=hq 0 (F[0]) (List.getElem?_eq_getElem hl);rw[I,Nat.zero_mul,h0]at Z;injection Z with Z
  cases Z
 exact(hq i f J).butR aX hg bC
theorem WAny.keep {n wt R:Nat} {D q:Int} {F:List Nat} {X:Nat->Nat->Rat} {γ:Nat->M4} {w w':World} {a b:Int} {v:Option Addr} {s c:Nat} {I:Int} (h:WAny n wt R D q F X γ w a b v s c I) (hb:Below w.heap.size w w'):WAny n wt R D q F X γ w' a b v s c I:=
 ⟨h.1,λe=>by
  obtain⟨m,A,B,C,E,J,O,U,V,Y,Z,h7,h8⟩:=h.2 e;exact⟨m,A,B,C,E,J,O,U,V,Y,Z,h7.keep (λ_=>IsQ.solid _) hb,h8⟩⟩
theorem WAny.i32 {n wt R:Nat} {D q:Int} {F:List Nat} {X:Nat->Nat->Rat} {γ:Nat->M4} {w w':World} {a b:Int} {v:Option Addr} {s c:Nat} {I:Int} (h:WAny n wt R D q F X γ w a b v s c I) (hk:∀f:Nat->Rat,QL (λj=>IsQ (f j)) w (.slice v s c) s->QL (λj=>IsQ (f j)) w' (.slice v s c) s):WAny n wt R D q F X γ w' a b v s c I:=
 ⟨h.1,λe=>by
  obtain⟨m,A,B,C,E,J,O,U,V,Y,Z,h7,h8⟩:=h.2 e;subst Z;exact⟨m,A,B,C,E,J,O,U,V,Y,rfl,hk _ h7,h8⟩⟩
theorem QL.nobool {f:Nat->Rat} {w w':World} {v:Value} {n R:Nat} (h:QL (λj=>IsQ (f j)) w v n) (V:Stk (λv=>∀b,v≠.bool b) w R) (U:I32 w w') (hg:w.grownBy w' (some R)):QL (λj=>IsQ (f j)) w' v n:=by
 rcases Nat.eq_zero_or_pos n with I|I
 ·rcases h with h |⟨g,o,c,J,O,h3⟩
  ·exact .inl h
  ·exact .inl ⟨I,_,_,by rw[J,I]⟩
 ·obtain⟨g,o,cap,rfl,J,O⟩:=h.resolve_left (λh=>by omega)
  have Y:g≠R:=λe=>by
   obtain⟨s,p,n',c,t,q,m',d,Z,_⟩:=O 0 I;rw[e]at Z;exact V.2 _ _ Z _ rfl
  exact .inr ⟨g,o,cap,rfl,nT J hg.size,λj hj=>(O j hj).butR U hg Y⟩
theorem Jx {w:World} {g:Nat} (h:Blk w g 32 #[.int .i64 0,.int .i64 0,.slice none 0 0]):Stk (λv=>∀b,v≠.bool b) w g:=Stk.of h (by intro v I;simp at I;rcases I with rfl|rfl|rfl <;> exact λ_ h=>by cases h)
theorem Zi {w:World} {g:Nat} (h:Blk w g 32 #[.int .i64 0,.int .i64 0,.slice none 0 0]):Stk NotU32 w g:=Stk.of h (by intro v I;simp at I;rcases I with rfl|rfl|rfl <;> exact λ_ h=>by cases h)
theorem Od {n wt M C J I B:Nat} {D q r:Int} {F:List Nat} {X:Nat->Nat->Rat} {γ:Nat->M4} {w0 w W:World} {Z b1 a2 b2 e1 e2:Int} {v1 v2:Option Addr} {s1 c1 s2 c2:Nat}
  (hW:(((((((w.setCell ⟨J,0,none⟩ (.int .i64 Z)).setCell ⟨J,1,none⟩ (.int .i64 b1)).setCell ⟨J,2,none⟩ (.slice v1 s1 c1)).setCell ⟨I,0,none⟩ (.int .i64 a2)).setCell ⟨I,1,none⟩ (.int .i64 b2)).setCell ⟨I,2,none⟩ (.slice v2 s2 c2)).drew)=W)
  (hu:Blk w J 32 #[.int .i64 0,.int .i64 0,.slice none 0 0]) (hz:Blk w I 32 #[.int .i64 0,.int .i64 0,.slice none 0 0]) (cD:J≠I) (h1:B<=J) (h2:B<=I) (hB:B<=w.heap.size) (hb:Below B w0 w) (hm:ModR w M n wt D F C X) (hf:∀u g,w.cell? ⟨M,3,none⟩=some u->u.ownBlock=some g->g≠J/\g≠I)
  (k1:WAny n wt F.length D q F X γ w Z b1 v1 s1 c1 e1) (k2:WAny n wt F.length D r F X γ w a2 b2 v2 s2 c2 e2):
  (W.cell? ⟨J,0,none⟩=some (.int .i64 Z)/\W.cell? ⟨J,1,none⟩=some (.int .i64 b1)/\W.cell? ⟨J,2,none⟩=some (.slice v1 s1 c1)/\W.cell? ⟨I,0,none⟩=some (.int .i64 a2)/\W.cell? ⟨I,1,none⟩=some (.int .i64 b2)/\W.cell? ⟨I,2,none⟩=some (.slice v2 s2 c2))/\ModR W M n wt D F C X/\WAny n wt F.length D q F X γ W Z b1 v1 s1 c1 e1/\WAny n wt F.length D r F X γ W a2 b2 v2 s2 c2 e2/\Below B w0 W:=by
 have x0:=hu.at_ 0 rfl;have x1:=hu.at_ 1 rfl;have x2:=hu.at_ 2 rfl;obtain⟨p,hp⟩:∃p,((w.setCell ⟨J,0,none⟩ (.int .i64 Z)).setCell ⟨J,1,none⟩ (.int .i64 b1)).setCell ⟨J,2,none⟩ (.slice v1 s1 c1)=p:=⟨_,rfl⟩
 have e3:=A9 (w:=w) (R:=J) (v0:=.int .i64 Z) (v1:=.int .i64 b1) (v2:=.slice v1 s1 c1) (by rw[x0];rfl) (by rw[x1];rfl) (by rw[x2];rfl);have i3:=Cc (Zi hu) (v0:=.int .i64 Z) (v1:=.int .i64 b1) (v2:=.slice v1 s1 c1) (λ_ h=>by cases h) (λ_ h=>by cases h);have V:=((Ad w J 0 (.int .i64 Z)).trans (Ad _ J 1 (.int .i64 b1))).trans (Ad _ J 2 (.slice v1 s1 c1));rw[hp]at e3 i3 V hW;have O:Blk p I 32 #[.int .i64 0,.int .i64 0,.slice none 0 0]:=(V.block I hz.lt (λe=>by injection e with e;exact cD e.symm)).trans hz;have y0:=O.at_ 0 rfl;have y1:=O.at_ 1 rfl;have y2:=O.at_ 2 rfl;have gA:=hm.box x0 x2 (λ_ _ h=>by cases h) (λu g h1 h2=>(hf u g h1 h2).1) i3 V
 have hM:M≠J:=λe=>by
  have:=hm.mod.c2;rw[e,x2]at this;injection this with this
  cases this
 have j1:=k1.i32 (w':=p) (λf h=>h.nobool (Jx hu) i3 V);have j2:=k2.i32 (w':=p) (λf h=>h.nobool (Jx hu) i3 V);obtain⟨s,hs⟩:∃s,((p.setCell ⟨I,0,none⟩ (.int .i64 a2)).setCell ⟨I,1,none⟩ (.int .i64 b2)).setCell ⟨I,2,none⟩ (.slice v2 s2 c2)=s:=⟨_,rfl⟩
 have e6:=A9 (w:=p) (R:=I) (v0:=.int .i64 a2) (v1:=.int .i64 b2) (v2:=.slice v2 s2 c2) (by rw[y0];rfl) (by rw[y1];rfl) (by rw[y2];rfl);have i6:=Cc (Zi O) (v0:=.int .i64 a2) (v1:=.int .i64 b2) (v2:=.slice v2 s2 c2) (λ_ h=>by cases h) (λ_ h=>by cases h);have Y:=((Ad p I 0 (.int .i64 a2)).trans (Ad _ I 1 (.int .i64 b2))).trans (Ad _ I 2 (.slice v2 s2 c2));rw[hs]at e6 i6 Y hW
 have gF:=gA.box y0 y2 (λ_ _ h=>by cases h) (λu g h1 h2=>by
  obtain⟨u',e',_⟩:=hm.mod.c3;have h3:=V.cell e' (λe=>by injection e with e;exact hM e);rw[h3]at h1;injection h1 with h1
  subst h1;exact(hf _ g e' h2).2) i6 Y
 have l1:=j1.i32 (w':=s) (λf h=>h.nobool (Jx O) i6 Y);have l2:=j2.i32 (w':=s) (λf h=>h.nobool (Jx O) i6 Y);have U:Below s.heap.size s W:=by rw[<-hW];exact(Below.refl _ _).drew
 have cA:(some J:Option Nat)≠some I:=λe=>by injection e with e;exact cD e
 have dC:=Ae hb V hB h1;have dE:=Ae dC Y (nS hB V.size) h2;exact⟨⟨cell_next U (Y.cell e3.1 cA),cell_next U (Y.cell e3.2.1 cA),cell_next U (Y.cell e3.2.2 cA),cell_next U e6.1,cell_next U e6.2.1,cell_next U e6.2.2⟩,gF.keep U,l1.keep U,l2.keep U,dE.trans (U.mono (nS hB (nS V.size Y.size)))⟩
theorem Pg {γ:Nat->M4} (n wt:Nat) (D q r:Int) (w:World) (hT:Tab w) (pA:Pl.check n ((wt:Int)+2) D=0) (hC:cntF n wt<=72) (pE:Dj n γ) (qC:-9223372036854775808<=q) (qD:q<=9223372036854775807) (nW:-9223372036854775808<=r) (nX:r<=9223372036854775807):
  Calls prog 31 #[.agg #[.int .i64 n,.int .i64 ((wt:Int)+2),.int .i64 D],.int .i64 q,.int .i64 r] w λe w'=>(∃M a1 b1 v1 s1 c1 e1 a2 b2 v2 s2 c2 e2,e=.returned (.tuple #[.pointer (some ⟨M,0,none⟩),.agg #[.int .i64 a1,.int .i64 b1,.slice v1 s1 c1],.agg #[.int .i64 a2,.int .i64 b2,.slice v2 s2 c2],.bool (decide (e1=0/\e2=0))])/\ModR w' M n wt D (frs (C9 n wt D) (cntF n wt)) (cntF n wt) (B5 (C9 n wt D) (cntF n wt) (cntF n wt))/\WAny n wt (frs (C9 n wt D) (cntF n wt)).length D q (frs (C9 n wt D) (cntF n wt)) (B5 (C9 n wt D) (cntF n wt) (cntF n wt)) γ w' a1 b1 v1 s1 c1 e1/\WAny n wt (frs (C9 n wt D) (cntF n wt)).length D r (frs (C9 n wt D) (cntF n wt)) (B5 (C9 n wt D) (cntF n wt) (cntF n wt)) γ w' a2 b2 v2 s2 c2 e2)/\Below w.heap.size w w':=by
 have nZ:=Kh (λW (hb:Below w.heap.size w W)=>fV n wt D W (hT.below hb) pA hC);have hV:∀f,f∈frs (C9 n wt D) (cntF n wt)->f<cntF n wt:=(Rt (n:=n) (wt:=wt) (D:=D) (by have:=Av pA;omega)).low
 obtain⟨F,hF⟩:∃F,frs (C9 n wt D) (cntF n wt)=F:=⟨_,rfl⟩
 obtain⟨X,hX⟩:∃X,B5 (C9 n wt D) (cntF n wt) (cntF n wt)=X:=⟨_,rfl⟩
 obtain⟨C,oG⟩:∃C,cntF n wt=C:=⟨_,rfl⟩
 rw[hF,hX,oG]at nZ;rw[hF,oG]at hV;rw[hF,hX,oG];have pP:=Kh (λM W (hb:Below w.heap.size w W) (hm:ModR W M n wt D F C X)=>Nn q W (hT.below hb) hm hV pE qC qD);have pQ:=Kh (λM W (hb:Below w.heap.size w W) (hm:ModR W M n wt D F C X)=>Nn r W (hT.below hb) hm hV pE nW nX);clear hT pA hC hV pE qC qD nW nX hF hX oG;obtain⟨N,hN⟩:∃N:Int,(n:Int)=N:=⟨_,rfl⟩
 obtain⟨k,hk⟩:∃k:Int,(wt:Int)+2=k:=⟨_,rfl⟩
 rw[hN,hk]at nZ ⊢;clear hN hk;go_enter func31,ntmps31
 go_wp2_with fail
 obtain⟨w0,qE,XS,XU,XV,qA⟩:=Kk w #[.int .i64 N,.int .i64 k,.int .i64 D] 23 #[.int .i64 0,.int .i64 0,.slice none 0 0] 32 #[.int .i64 0,.int .i64 0,.slice none 0 0] 32;rw[qE];obtain⟨gs,pB⟩:∃x,w.heap.size=x:=⟨_,rfl⟩
 obtain⟨tu,pD⟩:∃x,w.heap.size+1=x:=⟨_,rfl⟩
 obtain⟨zv,oL⟩:∃x,w.heap.size+2=x:=⟨_,rfl⟩
 have nY:w.heap.size+1+1=zv:=oL;have Y:=Kh (show w.heap.size<=tu/\w.heap.size<=zv/\tu≠zv by omega);rw[pB]at XS;rw[pD]at XU
 (first|rw[oL]at XV|rw[nY]at XV)
 try rw[oL]
 try rw[nY]
 try rw[pD]
 try rw[pB]
 have oR:=Kh (And.intro XU.lt XV.lt);have Z:=Kh XS;have dC:=Kh XU;have eP:=Kh XV;have gN:=Kh qA;clear qE XS XU XV qA pB pD oL nY;have s0:=Z.1.at_ 0 rfl;have s1:=Z.1.at_ 1 rfl;have s2:=Z.1.at_ 2 rfl;go_wp2_with fail
 refine(nZ.1 w0 gN.1).mono ?_;rintro e w1 ⟨⟨M,rfl,hm,qB⟩,nD⟩;clear nZ;clear s0 s1 s2;have hQ:=Kh (bk Z nD);have dE:=Kh (bk dC nD);have gA:=Kh (bk eP nD);have gP:=bt gN nD;clear Z dC eP gN nD;have hG:=Kh hm;have pR:=Kh (show tu<w0.heap.size/\zv<w0.heap.size from⟨oR.1.1,oR.1.2⟩);obtain⟨uF,oZ,_⟩:=hm.mod.c3;have gU:=Kh (show w1.cell? ⟨M,3,none⟩=some uF/\∀g,uF.ownBlock=some g->g≠tu/\g≠zv from⟨oZ,λg hg=>by have h1:=qB uF g oZ hg;have h2:=pR.1;omega⟩);clear hm qB oZ pR oR;go_wp2_with fail
 refine(pP.1 M w1 gP.1 hG.1).mono ?_;rintro e w2 ⟨⟨a1,b1,v1,s1,c1,e1,rfl,nW⟩,hJ⟩;clear pP;have hR:=Kh (bk hQ hJ);have bE:=Kh (bk dE hJ);have cA:=Kh (bk gA hJ);have hB:=Kh (show w2.cell? ⟨M,3,none⟩=some uF/\∀g,uF.ownBlock=some g->g≠tu/\g≠zv from⟨cell_next hJ gU.1.1,gU.1.2⟩);have iL:=Kh (hG.1.keep hJ);have hW:=bt gP hJ;clear hQ dE gA gU hG gP hJ;have hL:=Kh nW;clear nW;go_wp2_with fail
 obtain⟨w3,qF⟩:∃x,w2.alloc (.cells #[.int .i64 a1,.int .i64 b1,.slice v1 s1 c1] 32)=x:=⟨_,rfl⟩
 obtain⟨oE,aX⟩:=Gy w2 #[.int .i64 a1,.int .i64 b1,.slice v1 s1 c1] 32;rw[qF]at oE aX ⊢;obtain⟨gx,oO⟩:∃x,w2.heap.size=x:=⟨_,rfl⟩
 rw[oO]at oE ⊢;have oA:=Kh (show tu≠gx from λh=>by have:=bE.1.lt;omega);have oC:=Kh (show zv≠gx from λh=>by have:=cA.1.lt;omega);have oM:=Kh oE;clear qF oE oO;have hS:=Kh (bk hR aX);have dY:=Kh (bk bE aX);have gF:=Kh (bk cA aX);have hD:=Kh (show w3.cell? ⟨M,3,none⟩=some uF/\∀g,uF.ownBlock=some g->g≠tu/\g≠zv from⟨cell_next aX hB.1.1,hB.1.2⟩);have hH:=Kh (iL.1.keep aX);have hM:=Kh (hL.1.keep aX);have gS:=bt hW aX;clear hR bE cA hB iL hL hW aX;have cT:=oM;clear oM;go_wp2_with fail
 refine(pQ.1 M w3 gS.1 hH.1).mono ?_;rintro e w4 ⟨⟨a2,b2,v2,s2,c2,e2,rfl,nX⟩,cF⟩;clear pQ;have hU:=Kh (bk hS cF);have bY:=Kh (bk dY cF);have cB:=Kh (bk gF cF);have cX:=Kh (bk cT cF);have hE:=Kh (show w4.cell? ⟨M,3,none⟩=some uF/\∀g,uF.ownBlock=some g->g≠tu/\g≠zv from⟨cell_next cF hD.1.1,hD.1.2⟩);have mA:=Kh (hH.1.keep cF);have hO:=Kh (hM.1.keep cF);have hY:=bt gS cF;clear hS dY gF cT hD hH hM gS cF;have hP:=Kh nX;clear nX;go_upto_region 6 with(fail)
 obtain⟨w5,qG⟩:∃x,w4.alloc (.cells #[.int .i64 a2,.int .i64 b2,.slice v2 s2 c2] 32)=x:=⟨_,rfl⟩
 obtain⟨oF,V⟩:=Gy w4 #[.int .i64 a2,.int .i64 b2,.slice v2 s2 c2] 32;rw[qG]at oF V ⊢;obtain⟨gy,oP⟩:∃x,w4.heap.size=x:=⟨_,rfl⟩
 rw[oP]at oF ⊢;have oB:=Kh (show tu≠gy from λh=>by have:=bY.1.lt;omega);have oD:=Kh (show zv≠gy from λh=>by have:=cB.1.lt;omega);have oN:=Kh oF;clear qG oF oP;have qN:=Kh (bk hU V);have J:=Kh (bk bY V);have O:=Kh (bk cB V);have bB:=Kh (bk cX V);have hZ:=Kh (show w5.cell? ⟨M,3,none⟩=some uF/\∀g,uF.ownBlock=some g->g≠tu/\g≠zv from⟨cell_next V hE.1.1,hE.1.2⟩);have hI:=Kh (mA.1.keep V);have cC:=Kh (hO.1.keep V);have cD:=Kh (hP.1.keep V);have bA:=bt hY V;clear hU bY cB cX hE mA hO hP hY V;have bC:=oN;clear oN;have oS:=bB.1.at_ 0 rfl;have oT:=bB.1.at_ 1 rfl;have oU:=bB.1.at_ 2 rfl;have oV:=bC.1.at_ 0 rfl;have oW:=bC.1.at_ 1 rfl;have oX:=bC.1.at_ 2 rfl;have pH:=J.1.at_ 0 rfl;have pI:=J.1.at_ 1 rfl;have pJ:=J.1.at_ 2 rfl;have pK:=O.1.at_ 0 rfl;have pL:=O.1.at_ 1 rfl;have pM:=O.1.at_ 2 rfl;have mB:=J.1.free_ 0;have mC:=J.1.free_ 1;have mD:=J.1.free_ 2;have mE:=O.1.free_ 0;have nA:=O.1.free_ 1;have nB:=O.1.free_ 2;have qH:tu≠zv:=Y.1.2.2;have rD:zv≠tu:=λh=>qH h.symm
 have oH:tu≠gx:=oA.1;have qQ:gx≠tu:=λh=>oH h.symm
 have oI:tu≠gy:=oB.1;have qR:gy≠tu:=λh=>oI h.symm
 have oJ:zv≠gx:=oC.1;have qS:gx≠zv:=λh=>oJ h.symm
 have oK:zv≠gy:=oD.1;have qT:gy≠zv:=λh=>oK h.symm
 have oQ:=Kh (show ∀u g,w5.cell? ⟨M,3,none⟩=some u->u.ownBlock=some g->g≠tu/\g≠zv from λu g h1 h2=>by
  rw[hZ.1.1]at h1;injection h1 with h1
  subst h1;exact hZ.1.2 g h2)
 by_cases h1:e1=0
 case neg=>
  have rH:(e1==0)=false:=by simpa using h1
  have qW:=Kh h1;clear h1;go_region
  have I:=Od rfl J.1 O.1 Y.1.2.2 Y.1.1 Y.1.2.1 bA.1.size bA.1 hI.1 oQ.1 cC.1 cD.1;have q0:=I.1.1;have q1:=I.1.2.1;have q2:=I.1.2.2.1;have q3:=I.1.2.2.2.1;have q4:=I.1.2.2.2.2.1;have q5:=I.1.2.2.2.2.2;have U:=Kh I.2;clear I oS oT oU oV oW oX pH pI pJ pK pL pM mB mC mD mE nA nB;go_wp2;try simp only[Exit.inBlock,Exit.then]
  refine bodyPost_ret (by simp[results,results31,go_sem,q0,q1,q2,q3,q4,q5];try rfl) rfl ?_;exact⟨⟨M,_,_,_,_,_,_,_,_,_,_,_,_,by simp[qW.1],U.1.1,U.1.2.1,U.1.2.2.1⟩,U.1.2.2.2⟩
 by_cases h2:e2=0
 case neg=>
  have rI:(e2==0)=false:=by simpa using h2
  have qX:=Kh h2;subst h1;clear h2;go_region
  have I:=Od rfl J.1 O.1 Y.1.2.2 Y.1.1 Y.1.2.1 bA.1.size bA.1 hI.1 oQ.1 cC.1 cD.1;have q0:=I.1.1;have q1:=I.1.2.1;have q2:=I.1.2.2.1;have q3:=I.1.2.2.2.1;have q4:=I.1.2.2.2.2.1;have q5:=I.1.2.2.2.2.2;have U:=Kh I.2;clear I oS oT oU oV oW oX pH pI pJ pK pL pM mB mC mD mE nA nB;go_wp2;try simp only[Exit.inBlock,Exit.then]
  refine bodyPost_ret (by simp[results,results31,go_sem,q0,q1,q2,q3,q4,q5];try rfl) rfl ?_;exact⟨⟨M,_,_,_,_,_,_,_,_,_,_,_,_,by simp[qX.1],U.1.1,U.1.2.1,U.1.2.2.1⟩,U.1.2.2.2⟩
 subst h1 h2;go_region
 have I:=Od rfl J.1 O.1 Y.1.2.2 Y.1.1 Y.1.2.1 bA.1.size bA.1 hI.1 oQ.1 cC.1 cD.1;have q0:=I.1.1;have q1:=I.1.2.1;have q2:=I.1.2.2.1;have q3:=I.1.2.2.2.1;have q4:=I.1.2.2.2.2.1;have q5:=I.1.2.2.2.2.2;have U:=Kh I.2;clear I oS oT oU oV oW oX pH pI pJ pK pL pM mB mC mD mE nA nB;go_wp2;try simp only[Exit.inBlock,Exit.then]
 refine bodyPost_ret (by simp[results,results31,go_sem,q0,q1,q2,q3,q4,q5];try rfl) rfl ?_;exact⟨⟨M,_,_,_,_,_,_,_,_,_,_,_,_,by simp,U.1.1,U.1.2.1,U.1.2.2.1⟩,U.1.2.2.2⟩
def CoGood (w':World) (v:Option Addr) (m c:Nat) (p q p' q':Int) (n wt:Nat) (D:Int) (F:List Nat) (X:Nat->Nat->Rat) (Q:Nat->Rat):Prop:=
 (At p q=0/\At p' q'=0)/\∃g,v=some ⟨g,0,none⟩/\m=F.length/\c=F.length/\QRow (λj=>IsQ (Pot (Ah n wt D (λi=>X i (F.getD j 0)) Q) (p',q') - Pot (Ah n wt D (λi=>X i (F.getD j 0)) Q) (p,q))) w' g F.length F.length/\∀j,j<F.length->hq (Pot (Ah n wt D (λi=>X i (F.getD j 0)) Q) (p',q') - Pot (Ah n wt D (λi=>X i (F.getD j 0)) Q) (p,q))<=430000000
theorem CoGood.keep {w w':World} {v:Option Addr} {m c:Nat} {p q p' I:Int} {n wt:Nat} {D:Int} {F:List Nat} {X:Nat->Nat->Rat} {Q:Nat->Rat} (h:CoGood w v m c p q p' I n wt D F X Q) (hb:Below w.heap.size w w'):CoGood w' v m c p q p' I n wt D F X Q:=by
 obtain⟨J,g,O,U,V,Y,Z⟩:=h;exact⟨J,g,O,U,V,Y.keep (λ_=>IsQ.solid _) hb,Z⟩
theorem CoRet.val {w w':World} {e:Ending} {p q p' V:Int} {n wt:Nat} {D:Int} {F:List Nat} {X:Nat->Nat->Rat} {Q:Nat->Rat} (h:CoRet w w' e p q p' V n wt D F X Q):
  ∃v m c J,e=.returned (.tuple #[.slice v m c,.int .i64 J])/\(J≠0->m=0)/\(J=0->CoGood w' v m c p q p' V n wt D F X Q)/\(At p q=0->At p' V=0->J=0):=by
 rcases h with⟨I,J,Z,U⟩ |⟨I,g,U,Y,O,h4⟩
 ·exact⟨none,0,0,J,U,λ_=>rfl,λh=>absurd h Z.1,λY O=>by rcases I with I|I;exact absurd Y I;exact absurd O I⟩
 ·exact⟨some ⟨g,0,none⟩,F.length,F.length,0,U,λh=>absurd rfl h,λ_=>⟨I,g,rfl,rfl,rfl,O,h4⟩,λ_ _=>rfl⟩
theorem ALm.ok {n q:Nat} {A B C E:Int} (h:ALm n q A B C E):Ke n q:=by
 refine⟨q,rfl,h.hq,⟨n / q,h.dv⟩,?_⟩;obtain⟨x,_,I⟩:=h.one
 have J:((Nat.gcd q (n / q):Nat):Int)∣1:=by
  rw[<-I];exact Int.dvd_sub (Int.dvd_trans (Int.natCast_dvd_natCast.2 (Nat.gcd_dvd_left ..)) (Int.dvd_mul_right _ _)) (Int.dvd_trans (Int.natCast_dvd_natCast.2 (Nat.gcd_dvd_right ..)) (Int.dvd_mul_left _ _))
 have O:Nat.gcd q (n / q)∣1:=by exact_mod_cast J
 exact Nat.dvd_one.1 O
theorem Jg (N k D q r:Int) (w:World) (aX:Pl.check N k D≠0):
  Calls prog 31 #[.agg #[.int .i64 N,.int .i64 k,.int .i64 D],.int .i64 q,.int .i64 r] w λe w'=>e=.returned (.tuple #[.pointer none,.agg #[.int .i64 0,.int .i64 0,.slice none 0 0],.agg #[.int .i64 0,.int .i64 0,.slice none 0 0],.bool false])/\Below w.heap.size w w':=by
 have cA:=Kh (λW=>O8 N k D W aX);obtain⟨er,gA⟩:∃er,Pl.check N k D=er:=⟨_,rfl⟩
 rw[gA]at cA aX;have hS:(er != 0)=true:=by rw[bne_iff_ne];exact aX
 clear gA aX;go_enter func31,ntmps31
 go_wp2_with fail
 obtain⟨w0,gF,XS,XU,XV,eP⟩:=Kk w #[.int .i64 N,.int .i64 k,.int .i64 D] 23 #[.int .i64 0,.int .i64 0,.slice none 0 0] 32 #[.int .i64 0,.int .i64 0,.slice none 0 0] 32;rw[gF];obtain⟨gs,cB⟩:∃x,w.heap.size=x:=⟨_,rfl⟩
 obtain⟨O,cC⟩:∃x,w.heap.size+1=x:=⟨_,rfl⟩
 obtain⟨U,bA⟩:∃x,w.heap.size+2=x:=⟨_,rfl⟩
 have Y:w.heap.size+1+1=U:=bA;have V:=Kh (show w.heap.size<=O/\w.heap.size<=U/\O≠U by omega);rw[cB]at XS;rw[cC]at XU
 (first|rw[bA]at XV|rw[Y]at XV)
 try rw[bA]
 try rw[Y]
 try rw[cC]
 try rw[cB]
 have s0:=XS.at_ 0 rfl;have s1:=XS.at_ 1 rfl;have s2:=XS.at_ 2 rfl;have cT:=Kh XU;have cX:=Kh XV;have cF:=Kh eP;clear gF XS XU XV eP cB cC bA Y;go_wp2_with fail
 refine(cA.1 w0).mono ?_;rintro e w1 ⟨rfl,Z⟩;have I:=bk cT Z;have J:=bk cX Z;have bY:=bt cF Z;clear Z cT cX cF cA s0 s1 s2;have t0:=I.at_ 0 rfl;have t1:=I.at_ 1 rfl;have t2:=I.at_ 2 rfl;have z0:=J.at_ 0 rfl;have z1:=J.at_ 1 rfl;have z2:=J.at_ 2 rfl;have hE:=I.free_ 0;have hG:=I.free_ 1;have hH:=I.free_ 2;have hI:=J.free_ 0;have hJ:=J.free_ 1;have hL:=J.free_ 2;have bE:O≠U:=V.1.2.2;have gL:U≠O:=λh=>bE h.symm
 have hN:=Kh I;have bC:=Kh J;clear I J;go_wp2;have g3:=((Ad w1 O 0 (.int .i64 0)).trans (Ad _ O 1 (.int .i64 0))).trans (Ad _ O 2 (.slice none 0 0));have e3:=A9 (w:=w1) (R:=O) (v0:=.int .i64 0) (v1:=.int .i64 0) (v2:=.slice none 0 0) (by rw[t0];rfl) (by rw[t1];rfl) (by rw[t2];rfl);obtain⟨p,hp⟩:∃p,((w1.setCell ⟨O,0,none⟩ (.int .i64 0)).setCell ⟨O,1,none⟩ (.int .i64 0)).setCell ⟨O,2,none⟩ (.slice none 0 0)=p:=⟨_,rfl⟩
 rw[hp]at g3 e3;try rw[hp]
 have bB:Blk p U 32 #[.int .i64 0,.int .i64 0,.slice none 0 0]:=(g3.block U bC.1.lt (λe=>by injection e with e;exact gL e)).trans bC.1;have y0:=bB.at_ 0 rfl;have y1:=bB.at_ 1 rfl;have y2:=bB.at_ 2 rfl;have e6:=A9 (w:=p) (R:=U) (v0:=.int .i64 0) (v1:=.int .i64 0) (v2:=.slice none 0 0) (by rw[y0];rfl) (by rw[y1];rfl) (by rw[y2];rfl);have g6:=((Ad p U 0 (.int .i64 0)).trans (Ad _ U 1 (.int .i64 0))).trans (Ad _ U 2 (.slice none 0 0));have cD:(some O:Option Nat)≠some U:=λe=>by injection e with e;exact bE e
 have q0:=g6.cell e3.1 cD;have q1:=g6.cell e3.2.1 cD;have q2:=g6.cell e3.2.2 cD;have q3:=e6.1;have q4:=e6.2.1;have q5:=e6.2.2;have gU:=Kh g6;have cG:=Kh g3;clear g3 g6 e3 e6 bB y0 y1 y2 t0 t1 t2 z0 z1 z2 hE hG hH hI hJ hL;try simp only[Exit.inBlock,Exit.then]
 refine bodyPost_ret (by simp[results,results31,go_sem,q0,q1,q2,q3,q4,q5];try rfl) rfl ?_;exact⟨rfl,Ae (Ae bY.1 cG.1 bY.1.size V.1.1) gU.1 (nS bY.1.size cG.1.size) V.1.2.1⟩
theorem O5 (n:Nat) (w:World) (hn:n<=1000):
  Calls prog 13 #[.int .i64 n] w λe w'=>jG n (uF n) w' e/\Below w.heap.size w w':=by
 rcases Nat.eq_zero_or_pos n with rfl|I
 ·refine(O4 w).mono ?_
  rintro e w' ⟨rfl,J⟩;exact⟨⟨none,0,rfl,.inl ⟨rfl,none,0,rfl⟩⟩,J⟩
 ·exact Ri n w I hn
theorem Rj (z:Int) (W:World) (Y:-2147483648<=z/\z<=2147483648):
  Calls prog 45 #[.slice (some ⟨W.heap.size+1,0,none⟩) 1 1] ((W.alloc (.cells #[.int .i64 z] 3)).alloc (.cells #[.slice (some ⟨W.heap.size,0,none⟩) 1 1] 93)) λe w'=>(∃p c,e=.returned (.agg #[.int .i64 1,.int .i64 1,.slice p 1 c])/\QL (λ_=>IsQ (z:Rat)) w' (.slice p 1 c) 1)/\Below W.heap.size W w':=by
 obtain⟨I,J,O⟩:=Lx W #[.int .i64 z] 3 #[.slice (some ⟨W.heap.size,0,none⟩) 1 1] 93;refine(bQ z (W.heap.size+1) W.heap.size _ J.lt I.lt (J.at_ 0 rfl) (I.at_ 0 rfl) Y).mono ?_;rintro e w' ⟨U,V⟩;exact⟨U,O.trans (V.mono O.size)⟩
theorem Ut (w:World) (hT:Tab w):
  Calls prog 30 #[] w λe w'=>e=.returned (.bool true)/\Below w.heap.size w w':=by
 have bC:=Kh (show ∀W,Below w.heap.size w W->Calls prog 11 #[.agg #[.int .i64 2,.int .i64 2,.int .i64 1]] W λe w'=>(∃M,e=.returned (.tuple #[.pointer (some ⟨M,0,none⟩),.int .i64 0])/\ModR w' M 2 0 1 (frs (C9 2 0 1) (cntF 2 0)) (cntF 2 0) (B5 (C9 2 0 1) (cntF 2 0) (cntF 2 0)))/\Below W.heap.size W w' from λW V=>fW 2 0 1 W (hT.below V) Oz (by rw[fN];omega));obtain⟨γ,Z⟩:=Py (n:=2) (by omega)
 have bE:=Kh (λM W (V:Below w.heap.size w W) (hm:ModR W M 2 0 1 (frs (C9 2 0 1) (cntF 2 0)) (cntF 2 0) (B5 (C9 2 0 1) (cntF 2 0) (cntF 2 0)))=>show Calls prog 41 #[.pointer (some ⟨M,0,none⟩),.int .i64 2] W λe w'=>(∃p c,e=.returned (.tuple #[.agg #[.int .i64 1,.int .i64 1,.slice p 1 c],.int .i64 0])/\QL (λ_=>IsQ (((-1:Int)):Rat)) w' (.slice p 1 c) 1)/\Below W.heap.size W w' from by
  have cG:∀f,f∈frs (C9 2 0 1) (cntF 2 0)->f<cntF 2 0:=(Rt (n:=2) (wt:=0) (D:=1) (by omega)).low
  refine(Nn 2 W (hT.below V) hm cG Z (by omega) (by omega)).mono ?_;rintro e w' ⟨⟨a,b,v,s,c,er,rfl,hw⟩,I⟩;obtain rfl:=hw.1 rfl ⟨2,rfl,by omega,⟨1,rfl⟩,by decide⟩;obtain⟨m,A,B,C,E,_,hG,gN,rfl,rfl,rfl,hq,_⟩:=hw.2 rfl;obtain rfl:m=2:=by omega
  obtain⟨rfl,rfl,rfl,rfl⟩:=gN.uniq jS;have hl:(frs (C9 2 0 1) (cntF 2 0)).length=1:=by rw[Nh];rfl
  rw[hl]at hq ⊢;refine⟨⟨v,c,rfl,QL.eqv hq (λj hj=>?_)⟩,I⟩;obtain rfl:j=0:=by have h1:j<1:=hj;omega
  exact fP Z)
 clear hT Z;go_enter func30,ntmps30
 go_wp2_with fail
 refine(bC.1 w (Below.refl _ w)).mono ?_;rintro e w1 ⟨⟨M,rfl,hm⟩,cB⟩;have bB:=Kh hm;have J:=Kh cB;clear hm cB bC;go_wp2_with fail
 refine(bE.1 M w1 J.1 bB.1).mono ?_;rintro e w2 ⟨⟨p2,c2,rfl,cT⟩,I⟩;have bY:=Kh cT;have aX:=bt J I;clear cT I bB J bE;go_upto_region 5 with(fail)
 obtain⟨h,dC,X3,Y⟩:=bx1 w2 #[.int .i64 1,.int .i64 1,.slice p2 1 c2] 32;rw[dC];obtain⟨g3,cF⟩:∃x,w2.heap.size=x:=⟨_,rfl⟩
 rw[cF]at X3 ⊢;have x0:=X3.at_ 0 rfl;have x1:=X3.at_ 1 rfl;have x2:=X3.at_ 2 rfl;have eP:=Kh (bY.1.keep (λ_=>IsQ.solid _) Y);have bA:=bt aX Y;clear dC X3 Y cF bY aX;refine jC [8,9] (λW=>W.cell? ⟨g3,0,none⟩=some (.int .i64 1)/\W.cell? ⟨g3,1,none⟩=some (.int .i64 1)/\W.cell? ⟨g3,2,none⟩=some (.slice p2 1 c2)) (λW V=>⟨Aq V x0,Aq V x1,Aq V x2⟩) (λU hHeld0=>?_);refine C8 0 ?_;refine C8 1 ?_;refine C8 2 ?_;refine C8 3 ?_;refine aA 4 rfl (λK hK=>?_);focus(go_simp;refine hK.out _ _ ?_ (λhHeld1=>?_))
 focus((try dsimp only);exact U.1 _ ((Below.refl _ h).drew.alloc (nR _) _))
 focus(clear hK K;(try simp only[Act.put,Bo,Bt,Bp]))
 refine aA 5 rfl (λK hK=>?_);focus(go_simp;refine hK.out _ _ ?_ (λhHeld2=>?_))
 focus((try dsimp only);exact U.1 _ (((Below.refl _ h).drew.alloc (nR _) _).alloc (by simp) _))
 focus(clear hK K;(try simp only[Act.put,Bo,Bt,Bp]))
 refine aA 6 rfl (λK hK=>?_);focus(go_simp;refine(Rj (-1) h.drew (by decide)).mono ?_;rintro e w4 ⟨⟨p4,c4,rfl,cX⟩,cC⟩;have O:=Kh ((Below.refl _ h).drew.trans cC:Below h.heap.size h w4);have gA:=Kh cX;clear cX cC;(first|with_reducible refine hK.out _ _ ?_ (λhHeld3=>?_) |(go_wp2_with fail;with_reducible refine hK.out _ _ ?_ (λhHeld3=>?_))))
 focus((try dsimp only);exact U.1 _ O.1)
 focus(clear hK K;(try simp only[Act.put,Bo,Bt,Bp]))
 refine fG 7 rfl (λK hK=>?_);focus(go_simp;refine(Hp 1 1 (.slice p2 1 c2) (.slice p4 1 c4) 1 (λ_=>(((-1:Int)):Rat)) w4 (eP.1.keep (λ_=>IsQ.solid _) O.1) gA.1 (by decide) (λ_ _=>by decide +kernel)).mono ?_;rintro e w5 ⟨rfl,cD⟩;have dY:=bt O cD;clear cD;(first|with_reducible refine hK.out _ _ ?_ |(go_wp2_with fail;with_reducible refine hK.out _ _ ?_)))
 clear hK K
 (try simp only[Act.put,Bo,Bt,Bp])
 refine eH 8 ?_;refine eH 9 ?_;refine fA ?_;go_wp2;go_ret;exact⟨rfl,bA.1.trans (dY.1.mono bA.1.size)⟩
end
theorem Zq {n v:Nat} (hn:2<=n) (O:v<n):Fi n (n+v)=true/\E6 n (n+v)=true:=by
 have U:(n+v) / n=1:=by rw[Nat.add_comm,Nat.add_div_right _ (by omega),Nat.div_eq_of_lt O]
 have V:(n+v) % n=v:=by rw[Nat.add_comm,Nat.add_mod_right,Nat.mod_eq_of_lt O]
 refine⟨?_,?_⟩
 ·unfold Fi
  rw[List.all_eq_true];intro i _;rw[Bool.or_eq_true,decide_eq_true_eq];by_cases hp:pun n (i+1)=true
  ·refine .inr ?_
   unfold Az;rw[U,V,Nat.mul_one];obtain⟨r,hr⟩:∃r,(i+1) % n=r:=⟨_,rfl⟩
   have Y:r≠0:=by
    intro h;rw[h]at hr;have I:n∣i+1:=Nat.dvd_of_mod_eq_zero hr;have J:Nat.gcd (i+1) n=n:=Nat.gcd_eq_right I;simp only[pun,beq_iff_eq]at hp;omega
   rw[hr];by_cases I:r=1
   ·have J:(i+1)*v % n=v:=by rw[Nat.mul_mod,hr,I,Nat.one_mul,Nat.mod_mod,Nat.mod_eq_of_lt O]
    rw[I,J];omega
   ·have J:2*n<=r*n:=Nat.mul_le_mul_right _ (by omega)
    omega
  ·exact .inl (by simp at hp ⊢;exact hp)
 ·unfold E6
  rw[U,V,Nat.gcd_one_left,Nat.gcd_one_left];rfl
theorem Zy {n k m:Nat} (h:k<=m):(pts n k).length<=(pts n m).length:=by
 induction m with
 | zero=>rw[Nat.le_zero.1 h];exact nR _
 | succ m ih=>
  rcases Nat.lt_or_ge k (m+1)with I|I
  ·have J:=ih (by omega)
   rw[Co];split
   ·rw[List.length_append];omega
   ·exact J
  ·rw[Nat.le_antisymm h I];exact nR _
theorem Qi {n:Nat} (hn:0<n):n<=(pts n (n*n)).length:=by
 rcases Nat.lt_or_ge 1 n with h|h
 ·have J:∀j,j<=n->j<=(pts n (n+j)).length:=by
   intro j;induction j with
   | zero=>intro _;exact Nat.zero_le _
   | succ j ih=>
    intro Y;obtain⟨I,O⟩:=Zq (n:=n) (v:=j) h (by omega)
    have U:n+j<n*n:=by
     have V:2*n<=n*n:=Nat.mul_le_mul_right _ h;omega
    rw[<-Nat.add_assoc,Qj hn U,I,O];have:=ih (by omega);simp only[Bool.and_self,if_true,List.length_append,List.length_singleton];omega
  have I:=J n (nR _);exact nS I (Zy (by have V:2*n<=n*n:=Nat.mul_le_mul_right _ h;omega))
 ·obtain rfl:n=1:=by omega
  decide
section
open Go.RowKit Eli Tryz
theorem Va (N k D:Int):∃J:Bool,(∀W,Calls prog 10 #[.agg #[.int .i64 N,.int .i64 k,.int .i64 D]] W λe w'=>e=.returned (.bool J)/\Below W.heap.size W w')/\(J=false->∀n wt:Nat,N=n->k=(wt:Int)+2->Pl.check N k D=0->cntF n wt<=72):=by
 by_cases hck:Pl.check N k D=0
 ·obtain⟨Z,h2,h3,h4,_,_⟩:=Av hck
  obtain⟨n,rfl⟩:∃n:Nat,N=n:=⟨N.toNat,by omega⟩
  obtain⟨wt,rfl⟩:∃wt:Nat,k=(wt:Int)+2:=⟨(k - 2).toNat,by omega⟩
  refine⟨_,λW=>bN n wt D W hck,λO U I V Y _=>?_⟩;obtain rfl:n=U:=by omega
  obtain rfl:wt=I:=by omega
  have h:=of_decide_eq_false O;unfold cntF;omega
 ·exact⟨false,λW=>O7 N k D W hck,λ_ n wt _ _ h=>absurd h hck⟩
end
end Go.Proofs.YtenlbhlllgppmaaGreatDoor
