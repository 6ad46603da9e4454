/- Contract of bigint's divide. -/
import Derived.Test.YtenlbhlllgppmaaGreatDoorA10
set_option linter.unusedSimpArgs false
set_option maxRecDepth 100000
set_option maxHeartbeats 8000000
namespace Go.Proofs.YtenlbhlllgppmaaGreatDoor
open Go.RowKit Tryz
theorem Dg.nm {w:World} {p:Option Addr} {c k t:Nat} {r:Nat->Nat} (h:Dg w p c k r) (J:vf r k=t) (I:nd t=k):Nm w p c t:=by
 unfold Nm;rw[I];exact h.congr (by rw[<-J];exact Wi h.lt)
theorem Nm.drewN {w:World} {p:Option Addr} {c v:Nat} (h:Nm w p c v) (n:Nat):Nm (w.drewN n) p c v:=h.keep (Aa (Below.refl _ _) n)
theorem Xj {w:World} {p:Option Addr} {c u v:Nat} (h:Nm w p c u) (I:u<v):Ik w (.returned (.tuple #[.slice none 0 0,.slice p (nd u) c])) (u / v) (u % v):=by
 rw[Nat.div_eq_of_lt I,Nat.mod_eq_of_lt I];exact⟨none,0,p,c,rfl,Nm.nil _,h⟩
def jB (w':World) (e:Ending) (v:Nat):Prop:=∃p n c,e=.returned (.slice p n c)/\nd v=n/\Nm w' p c v
theorem RetN.op {w':World} {e:Ending} {v:Nat} (h:RetN w' e v):jB w' e v:=by
 obtain⟨p,c,I,J⟩:=h;exact⟨p,_,c,I,rfl,J⟩
theorem Xi {w:World} {p p':Option Addr} {c I n J q r:Nat} (M:nd q=n) (O:nd r=J) (U:Nm w p c q) (V:Nm w p' I r):Ik w (.returned (.tuple #[.slice p n c,.slice p' J I])) q r:=by
 subst M;subst O;exact⟨p,c,p',I,rfl,U,V⟩
theorem Ol (p:Option Addr) (c u:Nat) (q:Option Addr) (d v:Nat) (w:World) (V:Nm w p c u) (Y:Nm w q d v) (hu:nd u<=35184372088830) (hv:nd v<=35184372088830) (I:u<v):
  Calls prog 205 #[.slice p (nd u) c,.slice q (nd v) d] w λe w'=>Ik w' e (u / v) (u % v)/\Below w.heap.size w w':=by
 have M:=D7 p c u q d v w V Y (by omega) (by omega);rw[J5 I]at M;replace M:=Kh M;have O:=Kh (λk=>Rz p c (nd u) (dg u) (w.drewN k) (V.drewN k) hu);have U:=Kh I;clear V Y I;go_enter func205,ntmps205
 go_wp2_with (go_at_call 167;refine M.1.mono ?_;rintro e w' ⟨rfl,k,rfl⟩)
 refine(O.1 k).mono ?_;rintro e w1 ⟨⟨p1,c1,r1,rfl,h,hv1⟩,Z⟩;have hn:Ik w1 (.returned (.tuple #[.slice none 0 0,.slice p1 (nd u) c1])) (u / v) (u % v):=Xj (h.nm (by rw[hv1,Bp]) rfl) U.1;have J:Below w.heap.size w w1:=(Aa (Below.refl _ _) k).trans Z;have HN:=Kh hn;have HB:=Kh J;clear h hv1 Z hn J;go_wp2;go_ret2
 exact⟨HN.1,HB.1⟩
theorem M5 {u v:Nat} (h:v<=u):∃s:Nat,Int.sign ((u:Int) - v)=s:=by
 rcases Nat.lt_or_ge v u with I|I
 ·exact⟨1,M6 I⟩
 ·obtain rfl:u=v:=by omega
  exact⟨0,by simp⟩
theorem I2 (p:Option Addr) (c u:Nat) (w:World) (h:Nm w p c u) (hn:nd u<=2):
  Calls prog 204 #[.slice p (nd u) c] w λe w'=>e=.returned (.int .u64 (u:Nat))/\∃k,w'=w.drewN k:=by
 have:=eF p c (nd u) (dg u) w h hn;rw[Bp]at this;exact this
theorem Ft {u:Nat} (h:nd u<=2):u<18446744073709551616:=by
 have:=Be.1 h;omega
theorem Qk (p:Option Addr) (c u:Nat) (q:Option Addr) (d v:Nat) (w:World) (h1:Nm w p c u) (h2:Nm w q d v) (hu:nd u<=2) (hv:0<v) (aK:v<=u):
  Calls prog 205 #[.slice p (nd u) c,.slice q (nd v) d] w λe w'=>Ik w' e (u / v) (u % v)/\Below w.heap.size w w':=by
 have aN:nd v<=2:=mH (Bm aK) hu;obtain⟨s,hs⟩:=M5 aK;have gL:decide ((s:Int)<0)=false:=decide_eq_false (by omega);have HC:=D7 p c u q d v w h1 h2 (by omega) (by omega);rw[hs]at HC;replace HC:=Kh HC;have H1:=Kh (λ(w1:World) (hb:Below w.heap.size w w1)=>I2 p c u w1 (h1.keep hb) hu);have H2:=Kh (λ(w1:World) (hb:Below w.heap.size w w1)=>I2 q d v w1 (h2.keep hb) aN);have cC:=Ft hu;have cD:=Ft aN;obtain⟨Q,hQ⟩:∃Q,u / v=Q:=⟨_,rfl⟩
 obtain⟨R,hR⟩:∃R,u % v=R:=⟨_,rfl⟩
 have bY:Q<=u:=by rw[<-hQ];exact Nat.div_le_self _ _
 have cA:R<v:=by rw[<-hR];exact Nat.mod_lt _ hv
 have HQ:=Kh (λw=>(Hw Q w (by omega)).mono (λ_ _ h=>And.imp_left RetN.op h));have HR:=Kh (λw=>(Hw R w (by omega)).mono (λ_ _ h=>And.imp_left RetN.op h));have eV:Int.tdiv (u:Int) (v:Int)=(Q:Nat):=by rw[Int.tdiv_eq_ediv_of_nonneg (by omega),<-hQ];exact(Int.natCast_ediv _ _).symm
 have gF:Int.tmod (u:Int) (v:Int)=(R:Nat):=by rw[Int.tmod_eq_emod_of_nonneg (by omega),<-hR];exact(Int.natCast_emod _ _).symm
 have cV:(u:Int) / (v:Int)=(Q:Nat):=by rw[<-hQ];exact(Int.natCast_ediv _ _).symm
 have cX:(u:Int) % (v:Int)=(R:Nat):=by rw[<-hR];exact(Int.natCast_emod _ _).symm
 have gA:IntKind.u64.wrap (Q:Int)=Q:=by rw[IntKind.wrap_u64];omega
 have gP:((v:Int)==0)=false:=beq_eq_false_iff_ne.2 (by omega);have hv1:(v:Int)≠0:=by omega
 have hv2:v≠0:=by omega
 rw[hQ,hR];have M:(nd u:Int)<=2:=by omega
 clear h1 h2 aK cC cD hs hQ hR bY cA hu aN;generalize nd u=n at *;generalize nd v=m at *;go_enter func205,ntmps205
 go_wp2_with fail
 refine HC.1.mono ?_;rintro e w1 ⟨rfl,hq⟩;have B1:=Bi hq;have O:=Kh B1;clear hq B1;go_wp2_with fail
 refine(H1.1 _ O.1).mono ?_;rintro e w2 ⟨rfl,hq⟩;have B2:=O.1.trans ((Bi hq).mono O.1.size);have U:=Kh B2;clear hq B2;go_wp2_with fail
 refine(H2.1 _ U.1).mono ?_;rintro e w3 ⟨rfl,hq⟩;have B3:=U.1.trans ((Bi hq).mono U.1.size);have V:=Kh B3;clear hq B3;go_upto_region 5 with(fail)
 have M1:True:=trivial;go_region_held3 (λ_=>True) (exact trivial) (first |(go_at_call 132;clear M1;refine(HQ.1 _).mono ?_;rintro e w4 ⟨⟨p1,n1,c1,rfl,aD,Y⟩,I⟩;replace aD:=Kh aD;replace Y:=Kh Y;replace I:=Kh I) |(go_at_call 132;refine(HR.1 _).mono ?_;rintro e w5 ⟨⟨p2,n2,c2,rfl,M,Z⟩,J⟩;replace M:=Kh M;replace Z:=Kh Z;replace J:=Kh J))
 go_wp2;go_ret2
 exact⟨Xi aD.1 M.1 (Y.1.keep J.1) Z.1,((Aa V.1 1).trans (I.1.mono V.1.size)).trans (J.1.mono (mH V.1.size I.1.size))⟩
theorem Uj {v:Nat} (h:nd v=1):dg v 0=v/\v<4294967296/\v≠0:=by
 have M:=(Be (v:=v) (k:=1)).1 (by omega);have J:=Bo.1 (show 0<nd v by omega);have I:=Bp v;rw[h,vf,vf]at I;refine⟨by simpa using I,by omega,J⟩
theorem Ok (p:Option Addr) (c u:Nat) (q:Option Addr) (d v:Nat) (w:World) (h1:Nm w p c u) (h2:Nm w q d v) (hu:2<nd u) (bA:nd u<=35184372088830) (hv:nd v=1) (bB:v<=u):
  Calls prog 205 #[.slice p (nd u) c,.slice q (nd v) d] w λe w'=>Ik w' e (u / v) (u % v)/\Below w.heap.size w w':=by
 obtain⟨hv1,hv2,cY⟩:=Uj hv;obtain⟨s,hs⟩:=M5 bB;have gU:decide ((s:Int)<0)=false:=decide_eq_false (by omega);have U:=D7 p c u q d v w h1 h2 (by omega) (by omega);rw[hs]at U;replace U:=Kh U;have HS:=Kh (λ(O:World) (hb:Below w.heap.size w O)=>Z7 p c (nd u) (dg u) v O (Dg.keep h1 hb) (by omega) (by omega) (by omega));rw[Bp]at HS;obtain⟨g,o,rfl,hg,I⟩:=h2.head (by omega)
 have aD:∀O,Below w.heap.size w O->O.cell? ⟨g,o,none⟩=some (.int .u32 (v:Nat)):=λO hb=>by
  have:=(hb.cell (p:=⟨g,o,none⟩) hg).trans (I 0 (by omega));rw[hv1]at this;exact this
 have Y:=Kh aD;obtain⟨Q,hQ⟩:∃Q,u / v=Q:=⟨_,rfl⟩
 obtain⟨R,hR⟩:∃R,u % v=R:=⟨_,rfl⟩
 have cT:R<v:=by rw[<-hR];exact Nat.mod_lt _ (by omega)
 have HW:=Kh (λw=>(Hw R w (by omega)).mono (λ_ _ h=>And.imp_left RetN.op h));rw[hQ,hR]at HS;rw[hQ,hR,hv];rw[hv]at U;have gS:(2:Int)<(nd u:Int):=by omega
 have eP:decide ((nd u:Int)<=2)=false:=decide_eq_false (by omega);have cC:=Kh bA;have cA:=Kh (show(R:Int)<4294967296 by omega);clear h1 h2 bB hs hQ hR cT hu I aD hv hv1 hv2 cY bA;generalize nd u=n at *;go_enter func205,ntmps205
 go_wp2_with fail
 refine U.1.mono ?_;rintro e O ⟨rfl,hq⟩;have B1:=Bi hq;have J:=Kh B1;have c0:=Y.1 _ B1;clear hq B1 U Y;go_wp2_with fail
 refine(HS.1 _ J.1).mono ?_;rintro e w2 ⟨⟨p2,c2,r2,rfl,aK,hv2⟩,Z⟩;have HT:=Kh (Dj p2 c2 n r2 w2 aK (by have:=cC.1;omega));rw[hv2]at HT;have B2:=J.1.trans (Z.mono J.1.size);have V:=Kh B2;clear Z B2 aK hv2 HS c0;go_wp2_with fail
 refine HT.1.mono ?_;rintro e w3 ⟨⟨rfl,hm⟩,rfl⟩;obtain⟨k,hk⟩:∃k,nd Q=k:=⟨_,rfl⟩
 rw[hk];have HM:=Kh hm;have HK:=Kh hk;have gP:=cA.1;clear HT hm hk;go_wp2_with fail
 refine(HW.1 _).mono ?_;rintro e w4 ⟨⟨p4,n4,c4,rfl,aX,aN⟩,M⟩;have hf:=Xi HK.1 aX (HM.1.keep M) aN;have B4:=V.1.trans (M.mono V.1.size);have HF:=Kh hf;have bY:=Kh B4;clear hf B4 M aX aN;go_wp2;go_ret2
 exact⟨HF.1,bY.1⟩
theorem hH {v:Nat} (U:v≠0):∃t S,dg v (nd v - 1)=t/\t<4294967296/\S<32/\(32 - (Lib.bitLen t:Int))=(S:Nat)/\nd (v*2 ^ S)=nd v/\2147483648<=dg (v*2 ^ S) (nd v - 1)/\v*2 ^ S<4294967296 ^ (nd v)/\4294967296 ^ (nd v - 1)*2147483648<=v*2 ^ S:=by
 obtain⟨m,hm⟩:∃m,nd v=m+1:=⟨nd v - 1,by have:=Bo.2 U;omega⟩
 have M:=Be.1 (mG (nd v))
 have O:dg v (nd v - 1)=v / 4294967296 ^ (nd v - 1):=by
  unfold dg;rw[hm]at M ⊢;simp only[Nat.add_sub_cancel];rw[Nat.mod_eq_of_lt];rw[Nat.div_lt_iff_lt_mul (Dig.pow_pos m),<-Ay];exact M
 obtain⟨t,I⟩:∃t,v / 4294967296 ^ (nd v - 1)=t:=⟨_,rfl⟩
 have J:t<4294967296:=by rw[<-I,<-O];exact dg_lt _ _
 have hl:Lib.bitLen t<=32:=Lib.bitLen_le t 32 (by omega) (by omega);obtain⟨V,a2,Y,Z,h,a6⟩:=W7 (s:=32 - Lib.bitLen t) U I (by omega);exact⟨t,32 - Lib.bitLen t,O.trans I,J,V,by omega,Y,Z,h,a6⟩
theorem Uc {n m M S u v:Nat} {I:Nat->Nat} (hr:∀i,i<n+1->I i<4294967296) (Z:vf I (n+1)=u*2 ^ S) (Y:u<4294967296 ^ n) (h:M+m=n+1) (hm:0<m) (V:S<32) (hV:4294967296 ^ (m - 1)*2147483648<=v*2 ^ S):vf (shf I M) m<v*2 ^ S:=by
 have J:=lA hr (i:=M) (by omega);rw[show n+1 - M=m from by omega,Z]at J;rw[<-J];have O:=Ex V;refine mI ?_ hV;rw[Nat.div_lt_iff_lt_mul (Dig.pow_pos M)]
 have U:4294967296 ^ (m - 1)*2147483648*4294967296 ^ M=4294967296 ^ n*2147483648:=by
  rw[show n=(m - 1)+M from by omega,Nat.pow_add];simp only[Nat.mul_comm,Nat.mul_left_comm]
 rw[U];exact mI (Nat.mul_lt_mul_of_pos_right Y (Nat.two_pow_pos S)) (Nat.mul_le_mul_left _ O)
theorem Qj (p:Option Addr) (c u:Nat) (q:Option Addr) (d v:Nat) (w:World) (h1:Nm w p c u) (h2:Nm w q d v) (hu:2<nd u) (nM:nd u<=35184372088830) (hv:1<nd v) (hW:v<=u):
  Calls prog 205 #[.slice p (nd u) c,.slice q (nd v) d] w λe w'=>Ik w' e (u / v) (u % v)/\Below w.heap.size w w':=by
 have nO:v≠0:=Bo.1 (by omega);have oP:=Bm hW;obtain⟨s,hs⟩:=M5 hW;have pX:decide ((s:Int)<0)=false:=decide_eq_false (by omega);have HC:=D7 p c u q d v w h1 h2 (by omega) (by omega);rw[hs]at HC;replace HC:=Kh HC;obtain⟨t,S,ht,oO,hS,nB,aX,bG,hE,hD⟩:=hH nO;obtain⟨g,o,rfl,hg,aK⟩:=h2.head (by omega)
 have nD:∀w1,Below w.heap.size w w1->w1.cell? ⟨g,o+(nd v - 1),none⟩=some (.int .u32 (t:Nat)):=λw1 hb=>by
  have:=(hb.cell (p:=⟨g,o+(nd v - 1),none⟩) hg).trans (aK (nd v - 1) (by omega));rw[ht]at this;exact this
 have mM:=Kh nD;have gU:=Kh (λw=>dP (t:Int) w (by omega) (by omega));rw[Int.toNat_natCast,nB]at gU;have H1:=Kh (λ(w1:World) (hb:Below w.heap.size w w1)=>Lv p c (nd u) (dg u) S w1 (Dg.keep h1 hb) (by omega) (by omega));have H2:=Kh (λ(w1:World) (hb:Below w.heap.size w w1)=>Lv (some ⟨g,o,none⟩) d (nd v) (dg v) S w1 (Dg.keep h2 hb) (by omega) (by omega));rw[Bp]at H1 H2;have nN:u<4294967296 ^ nd u:=Be.1 (mG _);have pO:(S:Int)<32:=by omega
 have dE:(2:Int)<(nd u:Int):=by omega
 have pB:decide ((nd u:Int)<=2)=false:=decide_eq_false (by omega);have pU:(1:Int)<(nd v:Int):=by omega
 have oZ:((nd v:Int)==1)=false:=beq_eq_false_iff_ne.2 (by omega);have e1:((nd v:Int) - 1).toNat=nd v - 1:=by omega
 obtain⟨V,hV⟩:∃V,v*2 ^ S=V:=⟨_,rfl⟩
 rw[hV]at H2 aX bG hE hD;have cD:=Kh hV;have gY:=Kh (show 0<V by rw[<-hV];exact Nat.mul_pos (by omega) (Nat.two_pow_pos S));obtain⟨M,hM⟩:∃M,M+nd v=nd u+1:=⟨nd u+1 - nd v,by omega⟩
 have pM:(nd u:Int)+1 - (nd v:Int)=(M:Nat):=by omega
 have HM:=Kh hM;have mT:=Kh bG;have gX:=Kh hE;have oG:=Kh hD;have oF:=Kh nN;have mP:=Kh aX;have oE:=Kh nM;have pV:nd v<=35184372088830:=by omega
 have pW:nd u<=35184372088830:=by omega
 have pN:M<=35184372088830:=by omega
 have oD:=Kh hS;have pJ:=Kh (show 0<v by omega);obtain⟨Q,hQ⟩:∃Q,u / v=Q:=⟨_,rfl⟩
 obtain⟨R,hR⟩:∃R,u % v=R:=⟨_,rfl⟩
 have HQ:=Kh hQ;have HR:=Kh hR;rw[hQ,hR];clear hV h1 h2 hu nM hv hW nO oP hs ht nD oO hS nB aX bG hE hD aK nN hM hQ hR;generalize nd u=n at *;generalize nd v=m at *;go_enter func205,ntmps205
 go_wp2_with fail
 refine HC.1.mono ?_;rintro e w1 ⟨rfl,hq⟩;have B1:=Bi hq;have h:=Kh B1;have c0:=mM.1 _ B1;clear hq B1 HC mM;go_wp2_with fail
 refine(gU.1 _).mono ?_;rintro e w2 ⟨rfl,rfl⟩;clear c0 gU;go_wp2_with fail
 refine(H1.1 _ h.1).mono ?_;rintro e w3 ⟨⟨gu,cu,r0,rfl,pP,nH,gN,J⟩,nC⟩;have B3:=h.1.trans (nC.mono h.1.size);have cA:=Kh B3;have Z:=Kh gN;have eP:=Kh J;have oA:=Kh (mH h.1.size nH);clear H1 h B3 nC gN J nH;go_wp2_with fail
 refine(H2.1 _ cA.1).mono ?_;rintro e w4 ⟨⟨gv,cv,rv,rfl,nE,oM,bA,bH⟩,hG⟩;have B4:=cA.1.trans (hG.mono cA.1.size);have HT:=Dj (some ⟨gv,0,none⟩) cv (m+1) rv w4 (bA.dg cv nE) (by have:=oE.1;have:=HM.1;omega);rw[bH,mP.1]at HT;have HT:=Kh HT;have nJ:gv≠gu:=by have:=Z.1.1.lt;omega
 have I:=Kh (Z.1.below hG Z.1.1.lt);have gS:=Kh B4;clear H2 cA B4 hG bA bH oM nE Z;go_wp2_with fail
 refine HT.1.mono ?_;rintro e w5 ⟨⟨rfl,dC⟩,rfl⟩
 have hI:Dg w5 (some ⟨gv,0,none⟩) cv m (dg V):=by
  unfold Nm at dC;rw[mP.1]at dC;exact dC
 have oN:∀w,(Instr.makeSlice 82 (.int .i64 (M:Int)) (.int .i64 (M:Int))).run prog w=.ok (.slice (some ⟨w.heap.size,0,none⟩) M M) (w.alloc (.cells (madeCells #[.int .u32 0] M) 200)):=Gk M (by omega)
 obtain⟨w6,dY⟩:∃w6,w5.alloc (.cells (madeCells #[.int .u32 0] M) 200)=w6:=⟨_,rfl⟩
 obtain⟨U,cX⟩:∃U,w5.heap.size=U:=⟨_,rfl⟩
 have cV:Below w5.heap.size w5 w6:=by rw[<-dY];exact(Below.refl _ _).alloc (mG _) _
 have O:=Row.made w5 M;rw[dY,cX]at O
 have gF:gv<w5.heap.size:=by
  obtain⟨g',o',e',pR,_⟩:=hI.head (by omega);injection e' with e';injection e' with e1 e2;omega
 have gL:U≠gu:=by have:=I.1.1.lt;omega
 have nK:gv≠U:=by omega
 have nG:w.heap.size<=U:=by rw[<-cX];exact gS.1.size
 have hP:∀i,i<n+1->r0 i<4294967296:=I.1.2
 have bE:Hr w6 gu U m M M r0 V:=cK (by rw[HM.1];exact I.1.below cV I.1.1.lt) O (by rw[<-cD.1];exact Uc hP eP.1 oF.1 HM.1 (by omega) oD.1 (by rw[cD.1];exact oG.1));have mR:=Kh bE;have mN:=Kh (hI.below cV gF);have mE:=bt gS cV;have mQ:=Kh hP;clear bE hI dC HT O hP gF;go_wp2;try rw[cX,dY]
 clear dY cX cV I gS oN;go_loopw [14] (λiL wr=>∃k:Nat,k<=M/\iL=.int .i64 ((k:Int) - 1)/\Hr wr gu U m M k r0 V/\Dg wr (some ⟨gv,0,none⟩) cv m (dg V)/\Below w.heap.size w wr) (λiL _=>(intOf iL+1).toNat)
 case atStart=>exact⟨M,mG _,by go_num,mR.1,mN.1,mE.1⟩
 case round=>
  clear mR mN mE;obtain⟨k,hk,rfl,hl,hd,hb⟩:=hrel;have HL:=Kh hl;have HD:=Kh hd;have HB:=Kh hb;clear hl hd hb;by_cases hk0:k=0
  ·subst hk0
   obtain⟨r,q,bC,O,dX,Y⟩:=W5 HL.1;have hU:vf r0 (M+m)=u*2 ^ S:=by rw[HM.1];exact eP.1
   rw[hU,<-cD.1,Nat.mul_mod_mul_right]at dX;rw[hU,<-cD.1,Nat.mul_div_mul_right _ _ (Nat.two_pow_pos S),HQ.1]at Y;rw[HR.1]at dX;have aD:=Dj (some ⟨U,0,none⟩) M M q wr.drew ((O.dg M (mG _)).keep (Aa (Below.refl _ _) 1)) (by omega);have HU:=Ow (some ⟨gu,0,none⟩) cu m r S wr.drew (((bC.dg cu (by have:=HM.1;omega)).take (k:=m) (by omega)).keep (Aa (Below.refl _ _) 1)) (by omega) (by omega);rw[Y]at aD;rw[dX,Nat.mul_div_cancel _ (Nat.two_pow_pos S)]at HU;obtain⟨k1,hJ⟩:∃k1,nd Q=k1:=⟨_,rfl⟩
   rw[hJ]at aD;obtain⟨k2,nI⟩:∃k2,nd R=k2:=⟨_,rfl⟩
   replace aD:=Kh aD;replace HU:=Kh HU;have oB:=Kh hJ;have mO:=Kh nI;have pA:(m:Int)<=(cu:Int):=by have:=HM.1;omega
   have M1:True:=trivial;clear bC O dX Y hU hJ nI HL HD;go_upto_region 17 with(fail)
   go_region_held3 (λ_=>True) (exact trivial) (first
    |(go_at_call 129;clear M1;refine aD.1.mono ?_;rintro e w' ⟨⟨rfl,hN⟩,rfl⟩;replace hN:=Kh hN)
    |(go_at_call 218;refine HU.1.mono ?_;rintro e w7 ⟨⟨p2,c2,r2,rfl,nF,hv2⟩,cT⟩;have cC:=Dj p2 c2 m r2 w7 nF (by omega);rw[hv2,mO.1]at cC;replace cC:=Kh cC;replace cT:=Kh cT;clear nF hv2)
    |(go_at_call 129;refine cC.1.mono ?_;rintro e w' ⟨⟨rfl,dE⟩,rfl⟩;replace dE:=Kh dE))
   go_wp2;go_ret2
   exact⟨Xi oB.1 mO.1 (hN.1.keep cT.1) dE.1,(Aa HB.1 1).trans (cT.1.mono HB.1.size)⟩
  ·obtain⟨j,rfl⟩:∃j,k=j+1:=⟨k - 1,by omega⟩
   have mV:(((j+1:Nat):Int) - 1)=(j:Int):=by omega
   rw[mV];obtain⟨r,q,bC,O,aN,J,Y⟩:=HL.1;obtain⟨X,hX⟩:∃X,vf (shf r0 (j+1)) (M+m - (j+1))=X:=⟨_,rfl⟩
   rw[hX]at J Y;obtain⟨hY,hZ⟩:=Pa aN J gY.1;have DC:=Zw gu j (M+m) m (cu - j) gv 0 cv r (dg V) wr bC (by omega) (by omega) HD.1 nJ mT.1 (by rw[Pw gX.1];exact hZ (mQ.1 j (by have:=HM.1;omega))) (by omega);obtain⟨Qd,cG⟩:∃Qd,(r0 j+4294967296*(X % V)) / V=Qd:=⟨_,rfl⟩
   have nA:Qd<4294967296:=by
    rw[<-cG,<-hY,Nat.div_lt_iff_lt_mul gY.1,Nat.mul_comm];exact hZ (mQ.1 j (by have:=HM.1;omega))
   rw[Pw gX.1,hY,cG]at DC
   have bE:∀w',Only gu wr w'->Ix w' gu (M+m) j m r ((r0 j+4294967296*(X % V)) % V)->(∃y,w'.cell? ⟨U,j,none⟩=some y)/\w'.frozen? ⟨U,j,none⟩=false/\Hr (w'.setCell ⟨U,j,none⟩ (.int .u32 Qd)) gu U m M j r0 V/\Dg (w'.setCell ⟨U,j,none⟩ (.int .u32 Qd)) (some ⟨gv,0,none⟩) cv m (dg V)/\Below w.heap.size w (w'.setCell ⟨U,j,none⟩ (.int .u32 Qd)):=by
    intro w' hO ⟨r',nL,cY,hT⟩;have bB:=hO.row O gL;refine⟨⟨_,bB.1.cell (by omega)⟩,bB.1.frozen _,?_,?_,?_⟩
    ·exact Ud (by omega) hX aN nL cY hT bB Y gY.1 (Nat.le_of_lt gX.1) cG nA gL
    ·exact((Only.refl U w').set j _).dg (hO.dg HD.1 nJ) nK
    ·exact(HB.1.trans (hO.below oA.1 HB.1.size)).setCell nG _
   have HN:=Kh bE;replace DC:=Kh DC;have pS:decide ((0:Int)<=(j:Int))=true:=decide_eq_true (by omega);have pT:(j:Int)+m+1<=cu:=by have:=HM.1;omega
   have ej:j+m+1 - j=m+1:=by omega
   have mZ:(Qd:Int)<4294967296:=by omega
   have pH:=Kh mZ;clear mV hk0 bC O aN J Y hX hY hZ cG nA bE HL HD mZ;go_wp2_with fail
   rw[ej];refine DC.1.mono ?_;rintro e w' ⟨rfl,hO,mY⟩;obtain⟨⟨y,hy⟩,pQ,hL,mX,mW⟩:=HN.1 w' hO mY;have oC:=Kh hL;have nZ:=Kh mX;have nY:=Kh mW;clear hO mY hL mX mW DC HN ej;go_wp2;go_roundw
   case rel=>exact⟨j,by omega,by go_num,oC.1,nZ.1,nY.1⟩
   case measure=>simp[intOf]
theorem Om (p:Option Addr) (c u:Nat) (q:Option Addr) (d v:Nat) (w:World) (I:Nm w p c u) (J:Nm w q d v) (O:nd u<=35184372088830) (Y:nd v<=35184372088830) (U:v≠0):
  Calls prog 205 #[.slice p (nd u) c,.slice q (nd v) d] w λe w'=>Ik w' e (u / v) (u % v)/\Below w.heap.size w w':=by
 rcases Nat.lt_or_ge u v with h|h
 ·exact Ol p c u q d v w I J O Y h
 ·rcases Nat.lt_or_ge 2 (nd u)with M|M
  ·have Z:=Bo.2 U
   rcases Nat.lt_or_ge 1 (nd v)with V|V
   ·exact Qj p c u q d v w I J M O V h
   ·exact Ok p c u q d v w I J M O (by omega) h
  ·exact Qk p c u q d v w I J M (by omega) h
theorem Dg.trim {w:World} {p:Option Addr} {c n:Nat} {a:Nat->Nat} (h:Dg w p c n a):Nm w p c (vf a n):=by
 have I:nd (vf a n)<=n:=Be.2 (Ds h.lt);exact(h.take I).congr λj J=>Wi h.lt j (by omega)
theorem Bx (I:Bool) (p:Option Addr) (c n:Nat) (a:Nat->Nat) (w:World) (h:Dg w p c n a) (hn:n<=70368744177664):
  Calls prog 131 #[.bool I,.slice p n c] w λe w'=>K8 w' e (sg I (vf a n))/\Below w.heap.size w w':=by
 have M:∀o,Below w.heap.size w (w.alloc o):=λo=>(Below.refl _ _).alloc (mG _) o
 have O:=Kh (λV (M:Below w.heap.size w V)=>Dj p c n a V (h.keep M) hn);have Z:=Kh h.trim;obtain⟨k,U⟩:∃k,nd (vf a n)=k:=⟨_,rfl⟩
 rw[U]at O;have Y:=Kh U;have J:=Kh M;clear h U M;go_enter func131,ntmps131
 go_wp2_with fail
 refine(O.1 _ (J.1 _)).mono ?_;rintro e V ⟨⟨rfl,hm⟩,rfl⟩;clear O hm;cases I with
 | false=>
  go_wp2;go_returns
  exact⟨⟨_,p,k,c,rfl,Tg (Z.1.keep (J.1 _)) Y.1 (by simp)⟩,J.1 _⟩
 | true=>
  go_wp2;go_returns
  exact⟨⟨_,p,k,c,rfl,Tg (Z.1.keep (J.1 _)) Y.1 (by simp)⟩,J.1 _⟩
theorem J4 (p:Option Addr) (c u:Nat) (w:World) (h:Nm w p c u) (hn:nd u<=35184372088830):
  Calls prog 147 #[.slice p (nd u) c] w λe w'=>RetN w' e u/\Below w.heap.size w w':=by
 refine(Rz p c (nd u) (dg u) w h hn).mono ?_;rintro e w' ⟨⟨O,c1,U,rfl,J,M⟩,I⟩;exact⟨⟨O,c1,rfl,J.nm (by rw[M,Bp]) rfl⟩,I⟩
theorem Vw (p:Option Addr) (c u:Nat) (q:Option Addr) (d v:Nat) (w:World) (h1:Nm w p c u) (h2:Nm w q d v) (hu:nd u<=35184372088830) (hv:nd v<=35184372088830):
  Calls prog 169 #[.slice p (nd u) c,.slice q (nd v) d] w λe w'=>RetN w' e (Nat.gcd u v)/\Below w.heap.size w w':=by
 obtain⟨G,hG⟩:∃G,Nat.gcd u v=G:=⟨_,rfl⟩
 obtain⟨n,hn⟩:∃n,nd u=n:=⟨_,rfl⟩
 obtain⟨m,hm⟩:∃m,nd v=m:=⟨_,rfl⟩
 have HG:=Kh hG;have H1:=Kh h1;have H2:=Kh h2;have HN:=Kh hn;have HM:=Kh hm;rw[hn]at hu;rw[hm]at hv;rw[hG,hn,hm];clear h1 h2 hn hm hG;go_enter func169,ntmps169
 go_wp2;go_loopg [0,1] v (λb v0 v1 wr=>∃(a n m:Nat) (p q:Option Addr) (c d:Nat),v0=.slice p n c/\v1=.slice q m d/\nd a=n/\nd b=m/\n<=35184372088830/\m<=35184372088830/\Nm wr p c a/\Nm wr q d b/\Nat.gcd a b=G/\Below w.heap.size w wr)
 case atStart=>exact⟨u,n,m,p,q,c,d,rfl,rfl,HN.1,HM.1,hu,hv,H1.1,H2.1,HG.1,Below.refl _ _⟩
 case round=>
  clear H1 H2 HG HN HM hu hv n m c d p q u;obtain⟨a,n,m,p,q,c,d,rfl,rfl,hn,hm,gY,gU,h1,h2,hG,hb⟩:=hrel;have HB:=Kh hb;have HG:=Kh hG;by_cases hm0:m=0
  ·subst hm0
   obtain rfl:gk=0:=by
    have:=Bo (v:=gk);omega
   have hC:=J4 p c a wr h1 (by omega);rw[hn]at hC;rw[Nat.gcd_zero_right]at hG;subst hG;replace hC:=Kh hC;clear h1 h2 hb HG hn hm;go_wp2_with fail
   refine hC.1.mono ?_;rintro e M ⟨hr,I⟩;obtain⟨p1,c1,rfl,dC⟩:=hr;obtain⟨k,hk⟩:∃k,nd a=k:=⟨_,rfl⟩
   rw[hk];have HK:=Kh hk;have gL:=Kh dC;have O:=bt HB I;clear dC I hk hC;go_wp2;go_ret;exact⟨⟨p1,c1,by rw[HK.1];rfl,gL.1⟩,O.1⟩
  ·have gS:0<m:=by omega
   by_cases hsm:n<=2/\m<=2
   ·have hx:=Ft (u:=a) (by omega)
    have hy:=Ft (u:=gk) (by omega);have Y:=I2 p c a wr h1 (by omega);have Z:=λM (I:Below wr.heap.size wr M)=>I2 q d gk M (h2.keep I) (by omega)
    rw[hn]at Y;rw[hm]at Z;have gX:n<=2:=hsm.1;have cC:m<=2:=hsm.2;have HX:=Kh hx;have HY:=Kh hy;replace Y:=Kh Y;replace Z:=Kh Z;clear h1 h2 hb hG hn hm hx hy hsm gY gU hm0;go_wp2_with fail
    refine Y.1.mono ?_;rintro e M ⟨rfl,hq⟩;have I:=Bi hq;have O:=Kh I;clear hq I Y;go_wp2_with fail
    refine(Z.1 _ O.1).mono ?_;rintro e w2 ⟨rfl,hq⟩;have cV:=Kh ((HB.1.trans (O.1.mono HB.1.size)).trans ((Bi hq).mono (mH HB.1.size O.1.size)));clear hq Z O HB;go_wp2;go_loopw [5,6] (λv5 v6 wi=>∃x y:Nat,v5=.int .u64 x/\v6=.int .u64 y/\Nat.gcd x y=G/\Hd (x<18446744073709551616/\y<18446744073709551616)/\Below w.heap.size w wi) (λ_ v6 _=>(intOf v6).toNat)
    case atStart=>exact⟨a,gk,rfl,rfl,HG.1,Kh ⟨HX.1,HY.1⟩,cV.1⟩
    case round=>
     clear HG HX HY cV gS gX cC;obtain⟨x,y,rfl,rfl,hg,cF,hb⟩:=hrel;have HB:=Kh hb;by_cases hy0:y=0
     ·subst hy0
      rw[Nat.gcd_zero_right]at hg;subst hg;have HW:=Kh (λw=>(Hw x w cF.1.1).mono (λ_ _ h=>And.imp_left RetN.op h));clear hb;go_wp2_with fail
      refine(HW.1 _).mono ?_;rintro e w4 ⟨⟨p4,n4,c4,rfl,dX,dE⟩,cY⟩;have gP:=Kh dX;have gN:=Kh dE;have gF:=bt HB cY;clear dX dE cY HW;go_wp2;go_ret;exact⟨⟨p4,c4,by rw[gP.1];rfl,gN.1⟩,gF.1⟩
     ·obtain⟨R,hR⟩:∃R,x % y=R:=⟨_,rfl⟩
      have aD:R<y:=by rw[<-hR];exact Nat.mod_lt _ (by omega)
      have hT:Int.tmod (x:Int) (y:Int)=(R:Nat):=by rw[Int.tmod_eq_emod_of_nonneg (by omega),<-hR];exact(Int.natCast_emod _ _).symm
      have hO:(x:Int) % (y:Int)=(R:Nat):=by rw[<-hR];exact(Int.natCast_emod _ _).symm
      have J:Nat.gcd y R=G:=by rw[<-hg,<-hR,Nat.gcd_comm x y,Nat.gcd_rec y x,Nat.gcd_comm]
      have HN:=Kh J;have hV:((y:Int) != 0)=true:=by rw[bne_iff_ne];omega
      have hU:(y:Int)≠0:=by omega
      have U:=Kh aD;clear hb J hR hg aD;go_wp2;go_quiet (fail)
      go_wp2;go_roundw
      case rel=>exact⟨y,R,rfl,rfl,HN.1,Kh ⟨cF.1.2,by have:=cF.1.2;have:=U.1;omega⟩,Aa HB.1 _⟩
      case measure=>simp[intOf];exact U.1
   ·have cX:gk≠0:=Bo.1 (by omega)
    have hC:=Om p c a q d gk wr h1 h2 (by omega) (by omega) cX;rw[hn,hm]at hC;obtain⟨R,hR⟩:∃R,a % gk=R:=⟨_,rfl⟩
    have aD:R<gk:=by rw[<-hR];exact Nat.mod_lt _ (by omega)
    have J:Nat.gcd gk R=G:=by rw[<-hG,<-hR,Nat.gcd_comm a gk,Nat.gcd_rec gk a,Nat.gcd_comm]
    rw[hR]at hC;have HN:=Kh J;have HC:=Kh hC;have U:=Kh aD;have H2:=Kh h2;have HM:=Kh hm;clear h1 h2 hb hG hn hm J hC aD hm0 hR cX
    have aX:∀(M:World) (p2:Option Addr) (c2:Nat),Below wr.heap.size wr M->Nm M p2 c2 R->∃k,nd R=k/\Hd (nd R=k/\k<=35184372088830/\Nm M q d gk/\Nm M p2 c2 R/\Below w.heap.size w M):=by
     intro M p2 c2 I hr;have h1:nd R<=m:=by rw[<-HM.1];exact Bm (Nat.le_of_lt U.1)
     exact⟨_,rfl,rfl,by omega,H2.1.keep I,hr,HB.1.trans (I.mono HB.1.size)⟩
    have HT:=Kh aX;clear aX;by_cases hn2:n<=2
    ·have cC:¬m<=2:=by omega
     clear hsm;go_wp2_with fail
     refine HC.1.mono ?_;rintro e M ⟨⟨p1,c1,p2,c2,rfl,hq,hr⟩,I⟩;obtain⟨k,hk,V⟩:=HT.1 M p2 c2 I hr;rw[hk];obtain⟨k1,aK⟩:∃k1,nd (a / gk)=k1:=⟨_,rfl⟩
     rw[aK];clear hk aK hq hr I HT HC;go_wp2;go_roundg R
     case measure=>exact U.1
     case rel=>exact⟨gk,m,k,q,p2,d,c2,rfl,rfl,HM.1,V.1.1,by omega,V.1.2.1,V.1.2.2.1,V.1.2.2.2.1,HN.1,V.1.2.2.2.2⟩
    ·clear hsm
     go_wp2_with fail
     refine HC.1.mono ?_;rintro e M ⟨⟨p1,c1,p2,c2,rfl,hq,hr⟩,I⟩;obtain⟨k,hk,V⟩:=HT.1 M p2 c2 I hr;rw[hk];obtain⟨k1,aK⟩:∃k1,nd (a / gk)=k1:=⟨_,rfl⟩
     rw[aK];clear hk aK hq hr I HT HC;go_wp2;go_roundg R
     case measure=>exact U.1
     case rel=>exact⟨gk,m,k,q,p2,d,c2,rfl,rfl,HM.1,V.1.1,by omega,V.1.2.1,V.1.2.2.1,V.1.2.2.2.1,HN.1,V.1.2.2.2.2⟩
def cellOf (w:World) (a:Addr):Value:=(w.cell? a).getD (.bool false)
theorem Am {w:World} {a:Addr} (h:(w.cell? a).isSome=true):w.cell? a=some (cellOf w a):=by
 unfold cellOf;obtain⟨u,I⟩:=mK h;rw[I];rfl
theorem Iz {w:World} {a:Addr} (h:w.cell? a=some (cellOf w a)):(w.cell? a).isSome=true:=by rw[h];rfl
def NotInt (v:Value):Prop:=∀k n,v≠.int k n
theorem NotInt.bool (b:Bool):NotInt (.bool b):=λ_ _ h=>by cases h
theorem NotInt.slice (p:Option Addr) (n c:Nat):NotInt (.slice p n c):=λ_ _ h=>by cases h
def Sts (w:World) (R:Nat):Prop:=R<w.heap.size/\∀i v,w.cell? ⟨R,i,none⟩=some v->NotInt v
theorem Sts.next {w w':World} {R:Nat} (I:Below w.heap.size w w') (h:Sts w R):Sts w' R:=
 ⟨mI h.1 I.size,λi v J=>h.2 i v ((I.cell (p:=⟨R,i,none⟩) h.1).symm.trans J)⟩
theorem Ev {w:World} {p:Addr} (u:Value) (h:w.cell? p=none):(w.setCell p u).cell? p=none:=by
 simp only[World.setCell,World.cell?,Array.getElem?_modify,if_true]at h ⊢;cases hh:w.heap[p.block]? with
 | none=>simp
 | some x=>
  rw[hh]at h;cases x <;> simp only[Option.map_some]at h ⊢
  by_cases hs:p.spot.isSome=true
  ·simp[hs]
  ·simp only[hs,Bool.false_eq_true,if_false]at h ⊢
   rw[Array.getElem?_eq_none_iff]at h ⊢
   simpa using h
theorem Sts.put {w:World} {R:Nat} (h:Sts w R) (p:Addr) (u:Value) (J:NotInt u):Sts (w.setCell p u) R:=by
 refine⟨by simpa using h.1,λi v I=>?_⟩;by_cases hp:p=⟨R,i,none⟩
 ·cases hc:w.cell? p with
  | none=>
   have:((w.setCell p u).cell? p)=none:=by
    exact Ev u hc
   rw[<-hp,this]at I;cases I
  | some y=>
   rw[<-hp,World.cell?_setCell_same' _ _ _ (by rw[hc];rfl)]at I;injection I with I
   rw[<-I];exact J
 ·rw[World.cell?_setCell_other _ _ _ _ hp]at I
  exact h.2 i v I
theorem Sts.of {w:World} {R:Nat} {t:TypeId} {cs:Array Value} (h:Blk w R t cs) (J:∀v∈cs,NotInt v):Sts w R:=
 ⟨h.lt,λi v I=>by
  rw[h.cell_ i]at I;exact J v (Array.mem_of_getElem? I)⟩
theorem Dg.put {w:World} {R:Nat} (Y:Sts w R) {p:Option Addr} {c n:Nat} {a:Nat->Nat} (h:Dg w p c n a) (i:Nat) (u:Value):Dg (w.setCell ⟨R,i,none⟩ u) p c n a:=
 ⟨h.cap,h.lt,by
  rcases h.at' with V |⟨g,o,e,hg,M⟩
  ·exact .inl V
  ·rcases Nat.eq_zero_or_pos n with J|J
   ·exact .inl J
   ·refine .inr ⟨g,o,e,by simpa using hg,λj O=>?_⟩
    have I:R≠g:=λU=>Y.2 (o+j) _ (by rw[U];exact M j O) _ _ rfl
    rw[World.cell?_setCell_far w ⟨R,i,none⟩ ⟨g,o+j,none⟩ u I];exact M j O⟩
theorem Zs.put {w:World} {R:Nat} (I:Sts w R) {s:Bool} {p:Option Addr} {n c:Nat} {z:Int} (h:Zs w s p n c z) (i:Nat) (u:Value):Zs (w.setCell ⟨R,i,none⟩ u) s p n c z:=⟨h.1,h.2.1,Dg.put I h.2.2 i u⟩
theorem Zs.put2 {w:World} {R:Nat} (I:Sts w R) {s:Bool} {p:Option Addr} {n c:Nat} {z:Int} (h:Zs w s p n c z) (i j:Nat) (u v:Value) (J:NotInt u):Zs ((w.setCell ⟨R,i,none⟩ u).setCell ⟨R,j,none⟩ v) s p n c z:=(h.put I i u).put (I.put _ _ J) j v
def SV (B:Nat) (w0 w:World):List Addr->Prop
 | []=>Below B w0 w/\B<=w.heap.size
 | a :: m=>w.cell? a=some (cellOf w a)/\w.frozen? a=false/\Sts w a.block/\SV B w0 w m
def SS (B:Nat) (w0 w:World) (l:List (Addr×Value)) (m:List Addr):Prop:=
 match l with
 | []=>SV B w0 w m
 |(a,v) :: l=>w.cell? a=some v/\SS B w0 w l m
theorem Ac {w w':World} {a:Addr} (J:Below w.heap.size w w') (h:(w.cell? a).isSome=true) (I:w.frozen? a=false):w'.frozen? a=false:=by
 obtain⟨u,O⟩:=mK h;have M:=World.block_lt_of_cell? w a O;have e:w'.heap[a.block]?=w.heap[a.block]?:=J.block a.block M;unfold World.frozen? at I ⊢;rw[e];exact I
theorem SV.next {B:Nat} {w0 w w':World} {m:List Addr} (I:Below w.heap.size w w') (h:SV B w0 w m):SV B w0 w' m:=by
 induction m with
 | nil=>exact⟨h.1.trans (I.mono h.2),mH h.2 I.size⟩
 | cons a m ih=>
  refine⟨Am ?_,Ac I (Iz h.1) h.2.1,h.2.2.1.next I,ih h.2.2.2⟩;rw[I.cell (World.block_lt_of_cell? w a h.1)];exact Iz h.1
theorem SS.next {B:Nat} {w0 w w':World} {l:List (Addr×Value)} {m:List Addr} (I:Below w.heap.size w w') (h:SS B w0 w l m):SS B w0 w' l m:=by
 induction l with
 | nil=>exact SV.next I h
 | cons x l ih=>exact⟨(I.cell (World.block_lt_of_cell? w x.1 h.1)).trans h.1,ih h.2⟩
theorem SV.below {B:Nat} {w0 w:World} {m:List Addr} (h:SV B w0 w m):Below B w0 w:=by
 induction m with
 | nil=>exact h.1
 | cons a m ih=>exact ih h.2.2.2
theorem SS.below {B:Nat} {w0 w:World} {l:List (Addr×Value)} {m:List Addr} (h:SS B w0 w l m):Below B w0 w:=by
 induction l with
 | nil=>exact SV.below h
 | cons x l ih=>exact ih h.2
theorem Gg {w:World} {p a:Addr} {v:Value} (h:(w.cell? a).isSome=true):((w.setCell p v).cell? a).isSome=true:=by
 by_cases hp:p=a
 ·rw[hp,World.cell?_setCell_same' _ _ _ h];rfl
 ·rw[World.cell?_setCell_other _ _ _ _ hp];exact h
theorem At {w:World} {p a:Addr} {v:Value} (I:w.frozen? a=false):(w.setCell p v).frozen? a=false:=by
 rw[World.frozen?_setCell];exact I
theorem SV.put {B:Nat} {w0 w:World} {m:List Addr} (h:SV B w0 w m) (p:Addr) (v:Value) (J:NotInt v) (I:B<=p.block):SV B w0 (w.setCell p v) m:=by
 induction m with
 | nil=>exact⟨h.1.setCell I v,by simpa using h.2⟩
 | cons a m ih=>exact⟨Am (Gg (Iz h.1)),At h.2.1,h.2.2.1.put p v J,ih h.2.2.2⟩
theorem SS.put {B:Nat} {w0 w:World} {l:List (Addr×Value)} {m:List Addr} (h:SS B w0 w l m) (p:Addr) (v:Value) (M:NotInt v) (J:B<=p.block) (I:∀x∈l,p.block≠x.1.block):SS B w0 (w.setCell p v) l m:=by
 induction l with
 | nil=>exact SV.put h p v M J
 | cons x l ih=>exact⟨(World.cell?_setCell_far w p x.1 v (I x (List.mem_cons_self ..))).trans h.1,ih h.2 (λy O=>I y (List.mem_cons_of_mem _ O))⟩
theorem SV.end_ {B:Nat} {w0 w w':World} {a:Addr} {m:List Addr} (J:Below w.heap.size w w') (h:SV B w0 w m) (I:a∈m):(w'.cell? a).isSome=true/\Sts w' a.block:=by
 induction m with
 | nil=>cases I
 | cons x m ih=>
  rcases List.mem_cons.1 I with rfl|I
  ·refine⟨?_,h.2.2.1.next J⟩
   rw[J.cell (World.block_lt_of_cell? w a h.1)];exact Iz h.1
  ·exact ih h.2.2.2 I
theorem SS.end_ {B:Nat} {w0 w w':World} {a:Addr} {l:List (Addr×Value)} {m:List Addr} (J:Below w.heap.size w w') (h:SS B w0 w l m) (I:a∈m):(w'.cell? a).isSome=true/\Sts w' a.block:=by
 induction l with
 | nil=>exact SV.end_ J h I
 | cons x l ih=>exact ih h.2
theorem Gs (w:World) (c1:Array Value) (I:TypeId):Blk (w.alloc (.cells c1 I)) w.heap.size I c1/\Below w.heap.size w (w.alloc (.cells c1 I)):=
 ⟨Blk.new w _ _,(Below.refl _ _).alloc (mG _) _⟩
theorem Oc (w:World) (c1:Array Value) (I:TypeId) (c2:Array Value) (J:TypeId):Blk ((w.alloc (.cells c1 I)).alloc (.cells c2 J)) w.heap.size I c1/\Blk ((w.alloc (.cells c1 I)).alloc (.cells c2 J)) (w.heap.size+1) J c2/\Below w.heap.size w ((w.alloc (.cells c1 I)).alloc (.cells c2 J)):=by
 have h:=Blk.new (w.alloc (.cells c1 I)) J c2;rw[World.size_alloc]at h;exact⟨(Blk.new w _ _).alloc_ _,h,((Below.refl _ _).alloc (mG _) _).alloc (by simp) _⟩
theorem fZ (w:World) (c1:Array Value) (I:TypeId) (c2:Array Value) (J:TypeId) (c3:Array Value) (M:TypeId):Blk (((w.alloc (.cells c1 I)).alloc (.cells c2 J)).alloc (.cells c3 M)) w.heap.size I c1/\Blk (((w.alloc (.cells c1 I)).alloc (.cells c2 J)).alloc (.cells c3 M)) (w.heap.size+1) J c2/\Blk (((w.alloc (.cells c1 I)).alloc (.cells c2 J)).alloc (.cells c3 M)) (w.heap.size+1+1) M c3/\Below w.heap.size w (((w.alloc (.cells c1 I)).alloc (.cells c2 J)).alloc (.cells c3 M)):=by
 obtain⟨O,U,V⟩:=Oc w c1 I c2 J;have h:=Blk.new ((w.alloc (.cells c1 I)).alloc (.cells c2 J)) M c3;rw[World.size_alloc,World.size_alloc]at h;exact⟨O.alloc_ _,U.alloc_ _,h,V.alloc (by simp;omega) _⟩
theorem jE (w:World) (c1:Array Value) (I:TypeId) (c2:Array Value) (J:TypeId) (c3:Array Value) (M:TypeId) (c4:Array Value) (O:TypeId):Blk ((((w.alloc (.cells c1 I)).alloc (.cells c2 J)).alloc (.cells c3 M)).alloc (.cells c4 O)) w.heap.size I c1/\Blk ((((w.alloc (.cells c1 I)).alloc (.cells c2 J)).alloc (.cells c3 M)).alloc (.cells c4 O)) (w.heap.size+1) J c2/\Blk ((((w.alloc (.cells c1 I)).alloc (.cells c2 J)).alloc (.cells c3 M)).alloc (.cells c4 O)) (w.heap.size+1+1) M c3/\Blk ((((w.alloc (.cells c1 I)).alloc (.cells c2 J)).alloc (.cells c3 M)).alloc (.cells c4 O)) (w.heap.size+1+1+1) O c4/\Below w.heap.size w ((((w.alloc (.cells c1 I)).alloc (.cells c2 J)).alloc (.cells c3 M)).alloc (.cells c4 O)):=by
 obtain⟨U,V,Y,Z⟩:=fZ w c1 I c2 J c3 M;have h:=Blk.new (((w.alloc (.cells c1 I)).alloc (.cells c2 J)).alloc (.cells c3 M)) O c4;rw[World.size_alloc,World.size_alloc,World.size_alloc]at h;exact⟨U.alloc_ _,V.alloc_ _,Y.alloc_ _,h,Z.alloc (by simp;omega) _⟩
theorem bx1 (w:World) (c1:Array Value) (I:TypeId):∃w0,(w.alloc (.cells c1 I))=w0/\Blk w0 (w.heap.size) I c1/\Below w.heap.size w w0:=⟨_,rfl,Gs w c1 I⟩
theorem bx2 (w:World) (c1:Array Value) (I:TypeId) (c2:Array Value) (J:TypeId):∃w0,((w.alloc (.cells c1 I)).alloc (.cells c2 J))=w0/\Blk w0 (w.heap.size) I c1/\Blk w0 (w.heap.size+1) J c2/\Below w.heap.size w w0:=⟨_,rfl,Oc w c1 I c2 J⟩
theorem Rw (w:World) (c1:Array Value) (I:TypeId) (c2:Array Value) (J:TypeId) (c3:Array Value) (M:TypeId):∃w0,(((w.alloc (.cells c1 I)).alloc (.cells c2 J)).alloc (.cells c3 M))=w0/\Blk w0 (w.heap.size) I c1/\Blk w0 (w.heap.size+1) J c2/\Blk w0 (w.heap.size+1+1) M c3/\Below w.heap.size w w0:=⟨_,rfl,fZ w c1 I c2 J c3 M⟩
theorem kN (w:World) (c1:Array Value) (I:TypeId) (c2:Array Value) (J:TypeId) (c3:Array Value) (M:TypeId) (c4:Array Value) (O:TypeId):∃w0,((((w.alloc (.cells c1 I)).alloc (.cells c2 J)).alloc (.cells c3 M)).alloc (.cells c4 O))=w0/\Blk w0 (w.heap.size) I c1/\Blk w0 (w.heap.size+1) J c2/\Blk w0 (w.heap.size+1+1) M c3/\Blk w0 (w.heap.size+1+1+1) O c4/\Below w.heap.size w w0:=⟨_,rfl,jE w c1 I c2 J c3 M c4 O⟩
theorem Blk.c0 {w:World} {g:Nat} {t:TypeId} {a:Value} {l:List Value} (h:Blk w g t (a :: l).toArray):w.cell? ⟨g,0,none⟩=some a:=h.at_ 0 rfl
theorem Blk.c1 {w:World} {g:Nat} {t:TypeId} {a b:Value} {l:List Value} (h:Blk w g t (a :: b :: l).toArray):w.cell? ⟨g,1,none⟩=some b:=h.at_ 1 rfl
theorem Blk.c2 {w:World} {g:Nat} {t:TypeId} {a b c:Value} {l:List Value} (h:Blk w g t (a :: b :: c :: l).toArray):w.cell? ⟨g,2,none⟩=some c:=h.at_ 2 rfl
theorem Blk.c3 {w:World} {g:Nat} {t:TypeId} {a b c d:Value} {l:List Value} (h:Blk w g t (a :: b :: c :: d :: l).toArray):w.cell? ⟨g,3,none⟩=some d:=h.at_ 3 rfl
theorem Blk.c4 {w:World} {g:Nat} {t:TypeId} {a b c d e:Value} {l:List Value} (h:Blk w g t (a :: b :: c :: d :: e :: l).toArray):w.cell? ⟨g,4,none⟩=some e:=h.at_ 4 rfl
theorem Blk.so {w:World} {g:Nat} {t:TypeId} {cs:Array Value} (h:Blk w g t cs) (i:Nat) (I:i<cs.size:=by decide):w.cell? ⟨g,i,none⟩=some (cellOf w ⟨g,i,none⟩):=Am (by rw[h.cell_ i,Array.getElem?_eq_getElem I];rfl)
abbrev Th (B:Nat) (w0 w:World) (a0 a1 b0 b1:Addr) (v0 v1:Value):Prop:=w.cell? a0=some v0/\w.cell? a1=some v1/\w.cell? b0=some (cellOf w b0)/\w.frozen? b0=false/\Sts w b0.block/\w.cell? b1=some (cellOf w b1)/\w.frozen? b1=false/\Sts w b1.block/\Below B w0 w/\B<=w.heap.size
theorem Dh {B:Nat} {w0 w w':World} {I J M O:Addr} {v0 v1:Value} (U:Below w.heap.size w w') (h:Th B w0 w I J M O v0 v1):Th B w0 w' I J M O v0 v1:=SS.next (B:=B) (w0:=w0) (l:=[(I,v0),(J,v1)]) (m:=[M,O]) U h
theorem Bw {B:Nat} {w0 w:World} {I J M O:Addr} {v0 v1:Value} (h:Th B w0 w I J M O v0 v1):Below B w0 w:=SS.below (B:=B) (w0:=w0) (l:=[(I,v0),(J,v1)]) (m:=[M,O]) h
theorem Jh {B:Nat} {w0 w w':World} {M O I J:Addr} {v0 v1:Value} (U:Below w.heap.size w w') (h:Th B w0 w M O I J v0 v1):((w'.cell? I).isSome=true/\Sts w' I.block)/\((w'.cell? J).isSome=true/\Sts w' J.block):=⟨SS.end_ (B:=B) (w0:=w0) (l:=[(M,v0),(O,v1)]) (m:=[I,J]) U h (by simp),SS.end_ (B:=B) (w0:=w0) (l:=[(M,v0),(O,v1)]) (m:=[I,J]) U h (by simp)⟩
theorem Ji {B:Nat} {w0 w:World} {I J O U:Addr} {v0 v1:Value} (h:Th B w0 w I J O U v0 v1) {p0 M:Addr} {u0 u1:Value} (V:NotInt u0) (aX:B<=p0.block) (Z:p0.block≠I.block) (aD:p0.block≠J.block) (Y:NotInt u1) (bA:B<=M.block) (aK:M.block≠I.block) (aN:M.block≠J.block):Th B w0 ((w.setCell p0 u0).setCell M u1) I J O U v0 v1:=(SS.put (B:=B) (w0:=w0) (l:=[(I,v0),(J,v1)]) (m:=[O,U]) (SS.put (B:=B) (w0:=w0) (l:=[(I,v0),(J,v1)]) (m:=[O,U]) h p0 u0 V aX (by simp[*])) M u1 Y bA (by simp[*]))
abbrev Ti (B:Nat) (w0 w:World) (a0 a1 a2 a3 b0 b1:Addr) (v0 v1 v2 v3:Value):Prop:=w.cell? a0=some v0/\w.cell? a1=some v1/\w.cell? a2=some v2/\w.cell? a3=some v3/\w.cell? b0=some (cellOf w b0)/\w.frozen? b0=false/\Sts w b0.block/\w.cell? b1=some (cellOf w b1)/\w.frozen? b1=false/\Sts w b1.block/\Below B w0 w/\B<=w.heap.size
theorem Di {B:Nat} {w0 w w':World} {I J M O U V:Addr} {v0 v1 v2 v3:Value} (Y:Below w.heap.size w w') (h:Ti B w0 w I J M O U V v0 v1 v2 v3):Ti B w0 w' I J M O U V v0 v1 v2 v3:=SS.next (B:=B) (w0:=w0) (l:=[(I,v0),(J,v1),(M,v2),(O,v3)]) (m:=[U,V]) Y h
theorem Bg {B:Nat} {w0 w:World} {I J M O U V:Addr} {v0 v1 v2 v3:Value} (h:Ti B w0 w I J M O U V v0 v1 v2 v3):Below B w0 w:=SS.below (B:=B) (w0:=w0) (l:=[(I,v0),(J,v1),(M,v2),(O,v3)]) (m:=[U,V]) h
theorem Jj {B:Nat} {w0 w w':World} {M O U V I J:Addr} {v0 v1 v2 v3:Value} (Y:Below w.heap.size w w') (h:Ti B w0 w M O U V I J v0 v1 v2 v3):((w'.cell? I).isSome=true/\Sts w' I.block)/\((w'.cell? J).isSome=true/\Sts w' J.block):=⟨SS.end_ (B:=B) (w0:=w0) (l:=[(M,v0),(O,v1),(U,v2),(V,v3)]) (m:=[I,J]) Y h (by simp),SS.end_ (B:=B) (w0:=w0) (l:=[(M,v0),(O,v1),(U,v2),(V,v3)]) (m:=[I,J]) Y h (by simp)⟩
theorem Jk {B:Nat} {w0 w:World} {J M O U V Y:Addr} {v0 v1 v2 v3:Value} (h:Ti B w0 w J M O U V Y v0 v1 v2 v3) {p0 I:Addr} {u0 u1:Value} (Z:NotInt u0) (bH:B<=p0.block) (aK:p0.block≠J.block) (aN:p0.block≠M.block) (aX:p0.block≠O.block) (bA:p0.block≠U.block) (aD:NotInt u1) (bY:B<=I.block) (bB:I.block≠J.block) (bC:I.block≠M.block) (bE:I.block≠O.block) (bG:I.block≠U.block):Ti B w0 ((w.setCell p0 u0).setCell I u1) J M O U V Y v0 v1 v2 v3:=(SS.put (B:=B) (w0:=w0) (l:=[(J,v0),(M,v1),(O,v2),(U,v3)]) (m:=[V,Y]) (SS.put (B:=B) (w0:=w0) (l:=[(J,v0),(M,v1),(O,v2),(U,v3)]) (m:=[V,Y]) h p0 u0 Z bH (by simp[*])) I u1 aD bY (by simp[*]))
abbrev Tj (B:Nat) (w0 w:World) (a0 a1 a2 a3 b0 b1 b2 b3:Addr) (v0 v1 v2 v3:Value):Prop:=w.cell? a0=some v0/\w.cell? a1=some v1/\w.cell? a2=some v2/\w.cell? a3=some v3/\w.cell? b0=some (cellOf w b0)/\w.frozen? b0=false/\Sts w b0.block/\w.cell? b1=some (cellOf w b1)/\w.frozen? b1=false/\Sts w b1.block/\w.cell? b2=some (cellOf w b2)/\w.frozen? b2=false/\Sts w b2.block/\w.cell? b3=some (cellOf w b3)/\w.frozen? b3=false/\Sts w b3.block/\Below B w0 w/\B<=w.heap.size
theorem D4 {B:Nat} {w0 w w':World} {I J M O U V Y Z:Addr} {v0 v1 v2 v3:Value} (hb:Below w.heap.size w w') (h:Tj B w0 w I J M O U V Y Z v0 v1 v2 v3):Tj B w0 w' I J M O U V Y Z v0 v1 v2 v3:=SS.next (B:=B) (w0:=w0) (l:=[(I,v0),(J,v1),(M,v2),(O,v3)]) (m:=[U,V,Y,Z]) hb h
theorem Ej {B:Nat} {w0 w:World} {I J M O U V Y Z:Addr} {v0 v1 v2 v3:Value} (h:Tj B w0 w I J M O U V Y Z v0 v1 v2 v3):Below B w0 w:=SS.below (B:=B) (w0:=w0) (l:=[(I,v0),(J,v1),(M,v2),(O,v3)]) (m:=[U,V,Y,Z]) h
theorem Vd {B:Nat} {w0 w w':World} {U V Y Z I J M O:Addr} {v0 v1 v2 v3:Value} (hb:Below w.heap.size w w') (h:Tj B w0 w U V Y Z I J M O v0 v1 v2 v3):((w'.cell? I).isSome=true/\Sts w' I.block)/\((w'.cell? J).isSome=true/\Sts w' J.block)/\((w'.cell? M).isSome=true/\Sts w' M.block)/\((w'.cell? O).isSome=true/\Sts w' O.block):=⟨SS.end_ (B:=B) (w0:=w0) (l:=[(U,v0),(V,v1),(Y,v2),(Z,v3)]) (m:=[I,J,M,O]) hb h (by simp),SS.end_ (B:=B) (w0:=w0) (l:=[(U,v0),(V,v1),(Y,v2),(Z,v3)]) (m:=[I,J,M,O]) hb h (by simp),SS.end_ (B:=B) (w0:=w0) (l:=[(U,v0),(V,v1),(Y,v2),(Z,v3)]) (m:=[I,J,M,O]) hb h (by simp),SS.end_ (B:=B) (w0:=w0) (l:=[(U,v0),(V,v1),(Y,v2),(Z,v3)]) (m:=[I,J,M,O]) hb h (by simp)⟩
theorem N6 {B:Nat} {w0 w:World} {I J M O Z b1 b2 b3:Addr} {v0 v1 v2 v3:Value} (h:Tj B w0 w I J M O Z b1 b2 b3 v0 v1 v2 v3) {p0 U V Y:Addr} {u0 u1 u2 u3:Value} (aX:NotInt u0) (dX:B<=p0.block) (bE:p0.block≠I.block) (bG:p0.block≠J.block) (bH:p0.block≠M.block) (bY:p0.block≠O.block) (bA:NotInt u1) (dY:B<=U.block) (cA:U.block≠I.block) (cB:U.block≠J.block) (cC:U.block≠M.block) (cD:U.block≠O.block) (bB:NotInt u2) (eP:B<=V.block) (cF:V.block≠I.block) (cG:V.block≠J.block) (cT:V.block≠M.block) (cV:V.block≠O.block) (bC:NotInt u3) (eV:B<=Y.block) (cX:Y.block≠I.block) (cY:Y.block≠J.block) (dC:Y.block≠M.block) (dE:Y.block≠O.block):Tj B w0 ((((w.setCell p0 u0).setCell U u1).setCell V u2).setCell Y u3) I J M O Z b1 b2 b3 v0 v1 v2 v3:=(SS.put (B:=B) (w0:=w0) (l:=[(I,v0),(J,v1),(M,v2),(O,v3)]) (m:=[Z,b1,b2,b3]) (SS.put (B:=B) (w0:=w0) (l:=[(I,v0),(J,v1),(M,v2),(O,v3)]) (m:=[Z,b1,b2,b3]) (SS.put (B:=B) (w0:=w0) (l:=[(I,v0),(J,v1),(M,v2),(O,v3)]) (m:=[Z,b1,b2,b3]) (SS.put (B:=B) (w0:=w0) (l:=[(I,v0),(J,v1),(M,v2),(O,v3)]) (m:=[Z,b1,b2,b3]) h p0 u0 aX dX (by simp[*])) U u1 bA dY (by simp[*])) V u2 bB eP (by simp[*])) Y u3 bC eV (by simp[*]))
abbrev Tl (B:Nat) (w0 w:World) (a0 a1 a2 a3 a4 a5 a6 a7 b0 b1 b2 b3:Addr) (v0 v1 v2 v3 v4 v5 v6 v7:Value):Prop:=w.cell? a0=some v0/\w.cell? a1=some v1/\w.cell? a2=some v2/\w.cell? a3=some v3/\w.cell? a4=some v4/\w.cell? a5=some v5/\w.cell? a6=some v6/\w.cell? a7=some v7/\w.cell? b0=some (cellOf w b0)/\w.frozen? b0=false/\Sts w b0.block/\w.cell? b1=some (cellOf w b1)/\w.frozen? b1=false/\Sts w b1.block/\w.cell? b2=some (cellOf w b2)/\w.frozen? b2=false/\Sts w b2.block/\w.cell? b3=some (cellOf w b3)/\w.frozen? b3=false/\Sts w b3.block/\Below B w0 w/\B<=w.heap.size
theorem A7 {B:Nat} {w0 w w':World} {I J M O U V Y Z b0 b1 b2 b3:Addr} {v0 v1 v2 v3 v4 v5 v6 v7:Value} (hb:Below w.heap.size w w') (h:Tl B w0 w I J M O U V Y Z b0 b1 b2 b3 v0 v1 v2 v3 v4 v5 v6 v7):Tl B w0 w' I J M O U V Y Z b0 b1 b2 b3 v0 v1 v2 v3 v4 v5 v6 v7:=SS.next (B:=B) (w0:=w0) (l:=[(I,v0),(J,v1),(M,v2),(O,v3),(U,v4),(V,v5),(Y,v6),(Z,v7)]) (m:=[b0,b1,b2,b3]) hb h
theorem Bl {B:Nat} {w0 w:World} {I J M O U V Y Z b0 b1 b2 b3:Addr} {v0 v1 v2 v3 v4 v5 v6 v7:Value} (h:Tl B w0 w I J M O U V Y Z b0 b1 b2 b3 v0 v1 v2 v3 v4 v5 v6 v7):Below B w0 w:=SS.below (B:=B) (w0:=w0) (l:=[(I,v0),(J,v1),(M,v2),(O,v3),(U,v4),(V,v5),(Y,v6),(Z,v7)]) (m:=[b0,b1,b2,b3]) h
theorem Jm {B:Nat} {w0 w w':World} {U V Y Z a4 a5 a6 a7 I J M O:Addr} {v0 v1 v2 v3 v4 v5 v6 v7:Value} (hb:Below w.heap.size w w') (h:Tl B w0 w U V Y Z a4 a5 a6 a7 I J M O v0 v1 v2 v3 v4 v5 v6 v7):((w'.cell? I).isSome=true/\Sts w' I.block)/\((w'.cell? J).isSome=true/\Sts w' J.block)/\((w'.cell? M).isSome=true/\Sts w' M.block)/\((w'.cell? O).isSome=true/\Sts w' O.block):=⟨SS.end_ (B:=B) (w0:=w0) (l:=[(U,v0),(V,v1),(Y,v2),(Z,v3),(a4,v4),(a5,v5),(a6,v6),(a7,v7)]) (m:=[I,J,M,O]) hb h (by simp),SS.end_ (B:=B) (w0:=w0) (l:=[(U,v0),(V,v1),(Y,v2),(Z,v3),(a4,v4),(a5,v5),(a6,v6),(a7,v7)]) (m:=[I,J,M,O]) hb h (by simp),SS.end_ (B:=B) (w0:=w0) (l:=[(U,v0),(V,v1),(Y,v2),(Z,v3),(a4,v4),(a5,v5),(a6,v6),(a7,v7)]) (m:=[I,J,M,O]) hb h (by simp),SS.end_ (B:=B) (w0:=w0) (l:=[(U,v0),(V,v1),(Y,v2),(Z,v3),(a4,v4),(a5,v5),(a6,v6),(a7,v7)]) (m:=[I,J,M,O]) hb h (by simp)⟩
theorem D6 {B:Nat} {w0 w:World} {O U V Y Z a5 a6 a7 b0 b1 b2 b3:Addr} {v0 v1 v2 v3 v4 v5 v6 v7:Value} (h:Tl B w0 w O U V Y Z a5 a6 a7 b0 b1 b2 b3 v0 v1 v2 v3 v4 v5 v6 v7) {p0 I J M:Addr} {u0 u1 u2 u3:Value} (cA:NotInt u0) (hQ:B<=p0.block) (cF:p0.block≠O.block) (cG:p0.block≠U.block) (cT:p0.block≠V.block) (cV:p0.block≠Y.block) (cX:p0.block≠Z.block) (cY:p0.block≠a5.block) (dC:p0.block≠a6.block) (dE:p0.block≠a7.block) (cB:NotInt u1) (hR:B<=I.block) (dX:I.block≠O.block) (dY:I.block≠U.block) (eP:I.block≠V.block) (eV:I.block≠Y.block) (gA:I.block≠Z.block) (gF:I.block≠a5.block) (gL:I.block≠a6.block) (gN:I.block≠a7.block) (cC:NotInt u2) (hS:B<=J.block) (gP:J.block≠O.block) (gS:J.block≠U.block) (gU:J.block≠V.block) (gX:J.block≠Y.block) (gY:J.block≠Z.block) (hB:J.block≠a5.block) (hD:J.block≠a6.block) (hE:J.block≠a7.block) (cD:NotInt u3) (hT:B<=M.block) (hG:M.block≠O.block) (hI:M.block≠U.block) (hJ:M.block≠V.block) (hL:M.block≠Y.block) (hM:M.block≠Z.block) (hN:M.block≠a5.block) (hO:M.block≠a6.block) (hP:M.block≠a7.block):Tl B w0 ((((w.setCell p0 u0).setCell I u1).setCell J u2).setCell M u3) O U V Y Z a5 a6 a7 b0 b1 b2 b3 v0 v1 v2 v3 v4 v5 v6 v7:=(SS.put (B:=B) (w0:=w0) (l:=[(O,v0),(U,v1),(V,v2),(Y,v3),(Z,v4),(a5,v5),(a6,v6),(a7,v7)]) (m:=[b0,b1,b2,b3]) (SS.put (B:=B) (w0:=w0) (l:=[(O,v0),(U,v1),(V,v2),(Y,v3),(Z,v4),(a5,v5),(a6,v6),(a7,v7)]) (m:=[b0,b1,b2,b3]) (SS.put (B:=B) (w0:=w0) (l:=[(O,v0),(U,v1),(V,v2),(Y,v3),(Z,v4),(a5,v5),(a6,v6),(a7,v7)]) (m:=[b0,b1,b2,b3]) (SS.put (B:=B) (w0:=w0) (l:=[(O,v0),(U,v1),(V,v2),(Y,v3),(Z,v4),(a5,v5),(a6,v6),(a7,v7)]) (m:=[b0,b1,b2,b3]) h p0 u0 cA hQ (by simp[*])) I u1 cB hR (by simp[*])) J u2 cC hS (by simp[*])) M u3 cD hT (by simp[*]))
theorem Zr.letters {w:World} {s:Bool} {p:Option Addr} {n c:Nat} {z:Int} (h:Zr w s p n c z) (hn:n<=35184372088830):
  ∃k,k<=n/\nd z.natAbs=k/\Hd (sg s z.natAbs=z/\Nm w p c z.natAbs/\(∀I,Below w.heap.size w I->Calls prog 129 #[.slice p n c] I λe w'=>e=.returned (.slice p k c)/\w'=I)):=by
 obtain⟨a,M,O⟩:=h;have J:z.natAbs=vf a n:=by rw[<-O,Nw]
 refine⟨nd z.natAbs,?_,rfl,?_,?_,?_⟩
 ·rw[J];exact Be.2 (Ds M.lt)
 ·rw[J];exact O
 ·rw[J];exact M.trim
 ·intro I Y
  refine(Dj p c n a I (M.keep Y) (by omega)).mono ?_;rintro e w' ⟨⟨U,_⟩,V⟩;exact⟨by rw[J];exact U,V⟩
theorem Eh (I:Bool) (p:Option Addr) (c n u:Nat) (w:World) (h:Nm w p c u) (M:nd u=n) (hn:n<=70368744177664):
  Calls prog 131 #[.bool I,.slice p n c] w λe w'=>K8 w' e (sg I u)/\Below w.heap.size w w':=by
 subst M;have J:=Bx I p c (nd u) (dg u) w h hn;rw[Bp]at J;exact J
theorem Au {w w':World} {a:Addr} {v:Value} (I:Below w.heap.size w w') (h:w.cell? a=some v):w'.cell? a=some v:=(I.cell (p:=a) (World.block_lt_of_cell? w a h)).trans h
section
variable {P:Program} {md:Region.Mode} {ops:Array Oper} {Q:Exit->Act->World->Prop} {S:World->Prop}
def L0 (ops:Array Oper) (listed:Array Bool):Bool:=(List.range ops.size).all λk=>listed.getD k true
def Tf (md:Region.Mode) (ops:Array Oper) (listed:Array Bool) (i:Nat):Bool:=
 (List.range ops.size).any λk=>k != i && !(listed.getD k true)&&match ops[k]? with
  | some o=>o.after.any λe=>Region.binds md e&&e.on==i
  | none=>false
theorem Xk {I:Array Bool} {k:Nat} (M:k<ops.size) (h:I.getD k true=false):L0 ops I=false:=by
 cases e:L0 ops I with
 | false=>rfl
 | true=>
  rw[L0,List.all_eq_true]at e;have J:=e k (List.mem_range.2 M);rw[h]at J;cases J
def wpE (P:Program) (md:Region.Mode) (ops:Array Oper) (Q:Exit->Act->World->Prop) (S:World->Prop):Nat->Array Bool->Act->World->Prop
 | 0,listed,a,w=>Region.ready md ops listed=[]/\Q .normal a w
 | n+1,listed,a,w=>(Region.ready md ops listed=[]->Q .normal a w) /\
  ∀i∈Region.ready md ops listed,wpOp P ops Q i (λa' w'=>(L0 ops (listed.setIfInBounds i true)=false->S w')/\wpE P md ops Q S n (listed.setIfInBounds i true) a' w') a w
theorem wpE.any:∀(n:Nat) (I:Array Bool) (a:Act) (w:World),wpE P md ops Q S n I a w->wpAny P md ops Q n I a w
 | 0,_,_,_,h=>h
 | n+1,_,_,_,h=>⟨h.1,λi O=>wpOp_mono (λJ w' M=>wpE.any n _ J w' M.2) (h.2 i O)⟩
theorem wpE.first {i k:Nat} {Z ok:Oper} {v:Value} (hi:ops[i]?=some Z) (hk:ops[k]?=some ok) (cT:k≠i) (hw:∃e∈ok.after,Region.binds md e=true/\e.on=i)
  (V:∀(j:Nat) (o:Oper) cs b,ops[j]?=some o->o.op≠.select cs b) (hQ:∀c a w,Q (.panic c) (a.put Z.dst v) w->Q (.panic c) a w):
  ∀(n:Nat) (I:Array Bool) (a:Act) (w:World),
   (∀j Y,ops[j]?=some Y->j≠i->I.getD j true=false->(∀e∈Y.after,Region.binds md e=true->e.on≠i)->Z.apart ops Y=true) ->
   I.getD k true=false->i∈Region.ready md ops I->YieldsIf P ops S Z v a->S w ->
   wpE P md ops Q S n (I.setIfInBounds i true) (a.put Z.dst v) w->wpE P md ops Q S (n+1) I a w:=by
 intro n;induction n with
 | zero=>
  intro I a w _ _ hr hy hS H;refine⟨(λh=>by rw[h]at hr;cases hr),λj hj=>?_⟩;by_cases hji:j=i
  ·subst hji;exact hy.wpOp hi hS ⟨λ_=>hS,H⟩
  ·have h1:=ready_mono hj hji
   rw[H.1]at h1;cases h1
 | succ n ih=>
  intro I a w J bB hr hy hS H;refine⟨(λh=>by rw[h]at hr;cases hr),λj hj=>?_⟩;by_cases hji:j=i
  ·subst hji;exact hy.wpOp hi hS ⟨λ_=>hS,H⟩
  have h1:=H.2 j (ready_mono hj hji);obtain⟨bA,Y,O,aN⟩:=mem_ready.1 hj
  have cF:I.getD i false=false:=by
   have h0:=(mem_ready.1 hr).1;rcases Nat.lt_or_ge i I.size with M|M
   ·simp[M]at h0 ⊢;exact h0
   ·simp[Array.getElem?_eq_none M]
  have bE:∀e∈Y.after,Region.binds md e=true->e.on≠i:=λe he hb M=>by
   have U:=aN e he hb;rw[M,cF]at U;cases U
  have aX:j≠k:=λM=>by
   subst M;rw[O]at hk;cases hk;obtain⟨e,he,hb,U⟩:=hw;exact bE e he hb U
  have cV:∀l:Array Bool,l.getD k true=false->L0 ops l=false:=λl hl=>Xk (Array.getElem?_eq_some_iff.1 hk).1 hl
  have bC:(I.setIfInBounds j true).getD k true=false:=by rw[getD_set_ne true aX];exact bB
  have M:=wpOp_putIf O (J j Y O hji bA bE) (λcs b=>V i Z cs b hi) (λcs b=>V j Y cs b O) hQ hy h1;refine wpOp_mono (λa' w' U=>?_) M;have aK:S w':=U.2.1 (cV _ (by rw[getD_set_ne true aX,getD_set_ne true cT.symm];exact bB));refine⟨λ_=>aK,ih _ a' w' (λq oq hq cX bG cY=>J q oq hq cX ?_ cY) bC (ready_mono hr (Ne.symm hji)) U.1 aK ?_⟩
  ·by_cases hjq:j=q
   ·subst hjq;exact bA
   ·rw[getD_set_ne true hjq]at bG;exact bG
  ·rw[Array.setIfInBounds_comm _ _ hji]
   exact U.2.2
theorem K0 {I:Array Bool} {i:Nat} (h:Tf md ops I i=true):∃k J,ops[k]?=some J/\k≠i/\I.getD k true=false/\∃e∈J.after,Region.binds md e=true/\e.on=i:=by
 rw[Tf,List.any_eq_true]at h;obtain⟨k,_,h⟩:=h;cases hk:ops[k]? with
 | none=>rw[hk]at h;simp at h
 | some o=>
  rw[hk]at h;simp only[Bool.and_eq_true,bne_iff_ne,ne_eq,Bool.not_eq_true',beq_iff_eq,Array.any_eq_true']at h;obtain⟨⟨M,O⟩,e,U,V,Y⟩:=h;exact⟨k,o,hk,M,O,e,U,V,Y⟩
theorem kS {id:Nat} {a:Act} {w:World} (S:World->Prop) (I:S w.drew) (h:S w.drew->wpE P .any ops Q S ops.size (Array.replicate ops.size false) a w.drew) (J:P.follows .mixedOrders=true:=by kernel_rfl):(Code.region id ops true).wp P Q a w:=
 wp_region_any J (wpE.any _ _ _ _ (h I))
theorem K6 {id:Nat} {a:Act} {w:World} (S:World->Prop) (I:∀W,Below w.heap.size w W->S W) (h:Hd (∀W,Below w.heap.size w W->S W)->S w.drew->wpE P .any ops Q S ops.size (Array.replicate ops.size false) a w.drew) (J:P.follows .mixedOrders=true:=by kernel_rfl):(Code.region id ops true).wp P Q a w:=
 kS S (I _ (Below.refl _ w).drew) (h (Hd.mk I)) J
theorem Al (i:Nat) {J:Oper} {v:Value} {n d:Nat} {I:Array Bool} {a O:Act} {w:World} (h:wpE P md ops Q S n (I.setIfInBounds i true) O w)
  (U:ops[i]?=some J:=by rfl) (hS:S w:=by assumption) (hw:Region.wanted J (yielded ops a.tmps)=true:=by rfl)
  (hy:∀w,S w->(execOp a.eval J).run P w=.ok (.value v) w:=by intro w M;(try dsimp only at M);go_simp;(try with_reducible rfl))
  (hd:J.dst=some d:=by rfl) (ha:a.put (some d) v=O:=by(try simp only[Act.put,List.setIfInBounds_toArray,List.set_cons_zero,List.set_cons_succ]);rfl)
  (hs:Region.noSelect ops=true:=by kernel_rfl) (hf:Region.free md ops I i=true:=by kernel_rfl) (hr:(Region.ready md ops I).contains i=true:=by kernel_rfl) (hk:Tf md ops I i=true:=by kernel_rfl)
  (hQ:∀c a w,Q (.panic c) (a.put J.dst v) w->Q (.panic c) a w:=by exact λ_ _ _ h=>h):wpE P md ops Q S (n+1) I a w:=by
 subst ha;rw[<-hd]at h;obtain⟨k,ok,V,Y,Z,h4⟩:=K0 hk;exact wpE.first U V Y h4 (Region.noSelect_spec hs) hQ n I a w (Region.free_spec U hf) Z (by simpa using hr) (.inl ⟨hw,hy⟩) hS h
theorem F9 (i:Nat) {o:Oper} {n:Nat} {I:Array Bool} {a:Act} {w:World}
  (V:ops[i]?=some o) (h:∀J:Act->World->Prop,Shut (∀a w,S w->(S w->wpE P md ops Q S n (I.setIfInBounds i true) a w)->J a w)->if Region.wanted o (yielded ops a.tmps)=true then Oper.wp P o a w J Q else J (a.put o.dst undef) w)
  (hr:Region.ready md ops I=[i]:=by kernel_rfl):wpE P md ops Q S (n+1) I a w:=by
 refine⟨(λe=>by rw[hr]at e;cases e),λj O=>?_⟩;rw[hr,List.mem_singleton]at O;subst O;refine wpOp_step V λJ hK=>?_
 exact h J λa w M U=>hK a w ⟨λ_=>M,U M⟩
theorem K5 (i:Nat) {o:Oper} {n:Nat} {I:Array Bool} {a:Act} {w:World}
  (U:ops[i]?=some o) (h:∀J:Act->World->Prop,Shut (∀a w,Q .normal a w->J a w)->if Region.wanted o (yielded ops a.tmps)=true then Oper.wp P o a w J Q else J (a.put o.dst undef) w)
  (hr:Region.ready md ops I=[i]:=by kernel_rfl)
  (hn:Region.ready md ops (I.setIfInBounds i true)=[]:=by kernel_rfl) (O:L0 ops (I.setIfInBounds i true)=true:=by kernel_rfl):wpE P md ops Q S (n+1) I a w:=by
 refine⟨(λe=>by rw[hr]at e;cases e),λj M=>?_⟩;rw[hr,List.mem_singleton]at M;subst M;refine wpOp_step U λJ hK=>?_
 refine h J λa w hq=>hK a w ⟨(λe=>by rw[O]at e;cases e),?_⟩
 cases n with
 | zero=>exact⟨hn,hq⟩
 | succ n=>exact⟨λ_=>hq,λj M=>by rw[hn]at M;cases M⟩
theorem Zb (M:List Nat) {n:Nat} {I:Array Bool} {a:Act} {w:World} (h:AllReadyH P md ops Q S n I a w M) (hr:Region.ready md ops I=M:=by kernel_rfl) (J:M≠[]:=by simp):wpAnyH P md ops Q S (n+1) I a w:=wpAnyH_ready hr J h
theorem K7 (i:Nat) {J:Oper} {v:Value} {n:Nat} {I:Array Bool} {a O:Act} {w:World} (h:wpAnyH P md ops Q S n (I.setIfInBounds i true) O w)
  (hi:ops[i]?=some J:=by rfl) (V:S w:=by assumption) (hw:Region.wanted J (yielded ops a.tmps)=true:=by rfl)
  (hy:∀w,S w->(execOp a.eval J).run P w=.ok (.value v) w:=by intro w M;(try dsimp only at M);go_simp;(try with_reducible rfl))
  (Y:a.put J.dst v=O:=by(try simp only[Act.put,List.setIfInBounds_toArray,List.set_cons_zero,List.set_cons_succ]);rfl)
  (hs:Region.noSelect ops=true:=by kernel_rfl) (Z:Region.free md ops I i=true:=by kernel_rfl) (hr:(Region.ready md ops I).contains i=true:=by kernel_rfl)
  (U:∀c a w,Q (.panic c) (a.put J.dst v) w->Q (.panic c) a w:=by exact λ_ _ _ h=>h):wpAnyH P md ops Q S (n+1) I a w:=by
 subst Y;exact wpAnyH_take hi hs Z hr U (.inl ⟨hw,hy⟩) V h
end
theorem Br {I:Type _} (l:List I) (i:Nat) (v:I):l.toArray.setIfInBounds i v=(l.set i v).toArray:=List.setIfInBounds_toArray ..
theorem Bt {I:Type _} (a v:I) (l:List I):(a :: l).set 0 v=v :: l:=List.set_cons_zero
theorem Bs {I:Type _} (a v:I) (l:List I) (n:Nat):(a :: l).set (n+1) v=a :: l.set n v:=List.set_cons_succ
end Go.Proofs.YtenlbhlllgppmaaGreatDoor
