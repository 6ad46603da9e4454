/- Contract of bigint's divide. -/
import Derived.Test.YtenlbhlllgppmaaGreatDoorQ10
set_option linter.unusedSimpArgs false
set_option maxRecDepth 100000
set_option maxHeartbeats 8000000
namespace Go.Proofs.YtenlbhlllgppmaaGreatDoor
open Go.RowKit Tryz
theorem Dg.nm {w:World} {p:Option Addr} {c k t:Nat} {r:Nat->Nat} (h:Dg w p c k r) (I:vf r k=t) (H:nd t=k):Nm w p c t:=by
 unfold Nm;rw[H];exact h.congr (by rw[<-I];exact Wi h.lt)
theorem Nm.drewN {w:World} {p:Option Addr} {c v:Nat} (h:Nm w p c v) (n:Nat):Nm (w.drewN n) p c v:=h.keep (Aa (Below.refl _ _) n)
theorem Xj {w:World} {p:Option Addr} {c u v:Nat} (h:Nm w p c u) (H:u<v):Ik w (.returned (.tuple #[.slice none 0 0,.slice p (nd u) c])) (u / v) (u % v):=by
 rw[Nat.div_eq_of_lt H,Nat.mod_eq_of_lt H];exact⟨none,0,p,c,rfl,Nm.nil _,h⟩
def jB (w':World) (e:Ending) (v:Nat):Prop:=∃p n c,e=.returned (.slice p n c)/\nd v=n/\Nm w' p c v
theorem RetN.op {w':World} {e:Ending} {v:Nat} (h:RetN w' e v):jB w' e v:=by
 obtain⟨p,c,H,I⟩:=h;exact⟨p,_,c,H,rfl,I⟩
theorem Xi {w:World} {p p':Option Addr} {c H n n' q r:Nat} (I:nd q=n) (J:nd r=n') (O:Nm w p c q) (U:Nm w p' H r):Ik w (.returned (.tuple #[.slice p n c,.slice p' n' H])) q r:=by
 subst I;subst J;exact⟨p,c,p',H,rfl,O,U⟩
theorem Ol (p:Option Addr) (c u:Nat) (q:Option Addr) (d v:Nat) (w:World) (V:Nm w p c u) (Y:Nm w q d v) (hu:nd u<=35184372088830) (hv:nd v<=35184372088830) (H:u<v):
  Calls prog 205 #[.slice p (nd u) c,.slice q (nd v) d] w λe w'=>Ik w' e (u / v) (u % v)/\Below w.heap.size w w':=by
 have J:=D7 p c u q d v w V Y (by omega) (by omega);rw[J5 H]at J;replace J:=Kh J;have O:=Kh (λk=>Rz p c (nd u) (dg u) (w.drewN k) (V.drewN k) hu);have U:=Kh H;clear V Y H;go_enter func205,ntmps205
 go_wp2_with (go_at_call 167;refine J.1.mono ?_;rintro e w' ⟨rfl,k,rfl⟩)
 refine(O.1 k).mono ?_;rintro e w1 ⟨⟨p1,c1,r1,rfl,h,hv1⟩,Z⟩;have hn:Ik w1 (.returned (.tuple #[.slice none 0 0,.slice p1 (nd u) c1])) (u / v) (u % v):=Xj (h.nm (by rw[hv1,Bp]) rfl) U.1;have I:Below w.heap.size w w1:=(Aa (Below.refl _ _) k).trans Z;have HN:=Kh hn;have HB:=Kh I;clear h hv1 Z hn I;go_wp2;go_ret2
 exact⟨HN.1,HB.1⟩
theorem M5 {u v:Nat} (h:v<=u):∃s:Nat,Int.sign ((u:Int) - v)=s:=by
 rcases Nat.lt_or_ge v u with H|H
 ·exact⟨1,M6 H⟩
 ·obtain rfl:u=v:=by omega
  exact⟨0,by simp⟩
theorem I2 (p:Option Addr) (c u:Nat) (w:World) (h:Nm w p c u) (H:nd u<=2):
  Calls prog 204 #[.slice p (nd u) c] w λe w'=>e=.returned (.int .u64 (u:Nat))/\∃k,w'=w.drewN k:=by
 have:=eF p c (nd u) (dg u) w h H;rw[Bp]at this;exact this
theorem Ft {u:Nat} (h:nd u<=2):u<18446744073709551616:=by
 have:=Be.1 h;omega
theorem Qk (p:Option Addr) (c u:Nat) (q:Option Addr) (d v:Nat) (w:World) (h1:Nm w p c u) (h2:Nm w q d v) (hu:nd u<=2) (hv:0<v) (aJ:v<=u):
  Calls prog 205 #[.slice p (nd u) c,.slice q (nd v) d] w λe w'=>Ik w' e (u / v) (u % v)/\Below w.heap.size w w':=by
 have aK:nd v<=2:=kU (Bm aJ) hu;obtain⟨s,hs⟩:=M5 aJ;have gP:decide ((s:Int)<0)=false:=decide_eq_false (by omega);have HC:=D7 p c u q d v w h1 h2 (by omega) (by omega);rw[hs]at HC;replace HC:=Kh HC;have H1:=Kh (λ(w1:World) (hb:Below w.heap.size w w1)=>I2 p c u w1 (h1.keep hb) hu);have H2:=Kh (λ(w1:World) (hb:Below w.heap.size w w1)=>I2 q d v w1 (h2.keep hb) aK);have cA:=Ft hu;have cB:=Ft aK;obtain⟨Q,hQ⟩:∃Q,u / v=Q:=⟨_,rfl⟩
 obtain⟨R,hR⟩:∃R,u % v=R:=⟨_,rfl⟩
 have bC:Q<=u:=by rw[<-hQ];exact Nat.div_le_self _ _
 have bE:R<v:=by rw[<-hR];exact Nat.mod_lt _ hv
 have HQ:=Kh (λw=>(Hw Q w (by omega)).mono (λ_ _ h=>And.imp_left RetN.op h));have HR:=Kh (λw=>(Hw R w (by omega)).mono (λ_ _ h=>And.imp_left RetN.op h));have gF:Int.tdiv (u:Int) (v:Int)=(Q:Nat):=by rw[Int.tdiv_eq_ediv_of_nonneg (by omega),<-hQ];exact(Int.natCast_ediv _ _).symm
 have gN:Int.tmod (u:Int) (v:Int)=(R:Nat):=by rw[Int.tmod_eq_emod_of_nonneg (by omega),<-hR];exact(Int.natCast_emod _ _).symm
 have cG:(u:Int) / (v:Int)=(Q:Nat):=by rw[<-hQ];exact(Int.natCast_ediv _ _).symm
 have cT:(u:Int) % (v:Int)=(R:Nat):=by rw[<-hR];exact(Int.natCast_emod _ _).symm
 have gL:IntKind.u64.wrap (Q:Int)=Q:=by rw[IntKind.wrap_u64];omega
 have gU:((v:Int)==0)=false:=beq_eq_false_iff_ne.2 (by omega);have hv1:(v:Int)≠0:=by omega
 have hv2:v≠0:=by omega
 rw[hQ,hR];have J:(nd u:Int)<=2:=by omega
 clear h1 h2 aJ cA cB hs hQ hR bC bE hu aK;generalize nd u=n at *;generalize nd v=m at *;go_enter func205,ntmps205
 go_wp2_with fail
 refine HC.1.mono ?_;rintro e w1 ⟨rfl,hq⟩;have B1:=Bi hq;have O:=Kh B1;clear hq B1;go_wp2_with fail
 refine(H1.1 _ O.1).mono ?_;rintro e w2 ⟨rfl,hq⟩;have B2:=O.1.trans ((Bi hq).mono O.1.size);have U:=Kh B2;clear hq B2;go_wp2_with fail
 refine(H2.1 _ U.1).mono ?_;rintro e w3 ⟨rfl,hq⟩;have B3:=U.1.trans ((Bi hq).mono U.1.size);have V:=Kh B3;clear hq B3;go_upto_region 5 with(fail)
 have M1:True:=trivial;go_region_held3 (λ_=>True) (exact trivial) (first |(go_at_call 132;clear M1;refine(HQ.1 _).mono ?_;rintro e w4 ⟨⟨p1,n1,c1,rfl,aD,Y⟩,H⟩;replace aD:=Kh aD;replace Y:=Kh Y;replace H:=Kh H) |(go_at_call 132;refine(HR.1 _).mono ?_;rintro e w5 ⟨⟨p2,n2,c2,rfl,J,Z⟩,I⟩;replace J:=Kh J;replace Z:=Kh Z;replace I:=Kh I))
 go_wp2;go_ret2
 exact⟨Xi aD.1 J.1 (Y.1.keep I.1) Z.1,((Aa V.1 1).trans (H.1.mono V.1.size)).trans (I.1.mono (kU V.1.size H.1.size))⟩
theorem Uj {v:Nat} (h:nd v=1):dg v 0=v/\v<4294967296/\v≠0:=by
 have J:=(Be (v:=v) (k:=1)).1 (by omega);have I:=Bo.1 (show 0<nd v by omega);have H:=Bp v;rw[h,vf,vf]at H;refine⟨by simpa using H,by omega,I⟩
theorem Ok (p:Option Addr) (c u:Nat) (q:Option Addr) (d v:Nat) (w:World) (h1:Nm w p c u) (h2:Nm w q d v) (hu:2<nd u) (aN:nd u<=35184372088830) (hv:nd v=1) (aT:v<=u):
  Calls prog 205 #[.slice p (nd u) c,.slice q (nd v) d] w λe w'=>Ik w' e (u / v) (u % v)/\Below w.heap.size w w':=by
 obtain⟨hv1,hv2,cX⟩:=Uj hv;obtain⟨s,hs⟩:=M5 aT;have hD:decide ((s:Int)<0)=false:=decide_eq_false (by omega);have U:=D7 p c u q d v w h1 h2 (by omega) (by omega);rw[hs]at U;replace U:=Kh U;have HS:=Kh (λ(O:World) (hb:Below w.heap.size w O)=>Z7 p c (nd u) (dg u) v O (Dg.keep h1 hb) (by omega) (by omega) (by omega));rw[Bp]at HS;obtain⟨g,o,rfl,hg,H⟩:=h2.head (by omega)
 have aD:∀O,Below w.heap.size w O->O.cell? ⟨g,o,none⟩=some (.int .u32 (v:Nat)):=λO hb=>by
  have:=(hb.cell (p:=⟨g,o,none⟩) hg).trans (H 0 (by omega));rw[hv1]at this;exact this
 have Y:=Kh aD;obtain⟨Q,hQ⟩:∃Q,u / v=Q:=⟨_,rfl⟩
 obtain⟨R,hR⟩:∃R,u % v=R:=⟨_,rfl⟩
 have cF:R<v:=by rw[<-hR];exact Nat.mod_lt _ (by omega)
 have HW:=Kh (λw=>(Hw R w (by omega)).mono (λ_ _ h=>And.imp_left RetN.op h));rw[hQ,hR]at HS;rw[hQ,hR,hv];rw[hv]at U;have hB:(2:Int)<(nd u:Int):=by omega
 have gA:decide ((nd u:Int)<=2)=false:=decide_eq_false (by omega);have cA:=Kh aN;have bE:=Kh (show(R:Int)<4294967296 by omega);clear h1 h2 aT hs hQ hR cF hu H aD hv hv1 hv2 cX aN;generalize nd u=n at *;go_enter func205,ntmps205
 go_wp2_with fail
 refine U.1.mono ?_;rintro e O ⟨rfl,hq⟩;have B1:=Bi hq;have I:=Kh B1;have c0:=Y.1 _ B1;clear hq B1 U Y;go_wp2_with fail
 refine(HS.1 _ I.1).mono ?_;rintro e w2 ⟨⟨p2,c2,r2,rfl,aJ,hv2⟩,Z⟩;have HT:=Kh (Dj p2 c2 n r2 w2 aJ (by have:=cA.1;omega));rw[hv2]at HT;have B2:=I.1.trans (Z.mono I.1.size);have V:=Kh B2;clear Z B2 aJ hv2 HS c0;go_wp2_with fail
 refine HT.1.mono ?_;rintro e w3 ⟨⟨rfl,hm⟩,rfl⟩;obtain⟨k,hk⟩:∃k,nd Q=k:=⟨_,rfl⟩
 rw[hk];have HM:=Kh hm;have HK:=Kh hk;have gU:=bE.1;clear HT hm hk;go_wp2_with fail
 refine(HW.1 _).mono ?_;rintro e w4 ⟨⟨p4,n4,c4,rfl,aL,aK⟩,J⟩;have hf:=Xi HK.1 aL (HM.1.keep J) aK;have B4:=V.1.trans (J.mono V.1.size);have HF:=Kh hf;have bC:=Kh B4;clear hf B4 J aL aK;go_wp2;go_ret2
 exact⟨HF.1,bC.1⟩
theorem hH {v:Nat} (U:v≠0):∃t S,dg v (nd v - 1)=t/\t<4294967296/\S<32/\(32 - (Lib.bitLen t:Int))=(S:Nat)/\nd (v*2 ^ S)=nd v/\2147483648<=dg (v*2 ^ S) (nd v - 1)/\v*2 ^ S<4294967296 ^ (nd v)/\4294967296 ^ (nd v - 1)*2147483648<=v*2 ^ S:=by
 obtain⟨m,hm⟩:∃m,nd v=m+1:=⟨nd v - 1,by have:=Bo.2 U;omega⟩
 have J:=Be.1 (kT (nd v))
 have O:dg v (nd v - 1)=v / 4294967296 ^ (nd v - 1):=by
  unfold dg;rw[hm]at J ⊢;simp only[Nat.add_sub_cancel];rw[Nat.mod_eq_of_lt];rw[Nat.div_lt_iff_lt_mul (Dig.pow_pos m),<-Ay];exact J
 obtain⟨t,H⟩:∃t,v / 4294967296 ^ (nd v - 1)=t:=⟨_,rfl⟩
 have I:t<4294967296:=by rw[<-H,<-O];exact dg_lt _ _
 have hl:Lib.bitLen t<=32:=Lib.bitLen_le t 32 (by omega) (by omega);obtain⟨V,a2,Y,Z,h,a6⟩:=W7 (s:=32 - Lib.bitLen t) U H (by omega);exact⟨t,32 - Lib.bitLen t,O.trans H,I,V,by omega,Y,Z,h,a6⟩
theorem Uc {n m M S u v:Nat} {H:Nat->Nat} (hr:∀i,i<n+1->H i<4294967296) (Y:vf H (n+1)=u*2 ^ S) (V:u<4294967296 ^ n) (Z:M+m=n+1) (h:0<m) (U:S<32) (hV:4294967296 ^ (m - 1)*2147483648<=v*2 ^ S):vf (shf H M) m<v*2 ^ S:=by
 have I:=Y3 hr (i:=M) (by omega);rw[show n+1 - M=m from by omega,Y]at I;rw[<-I];have J:=Ex U;refine kV ?_ hV;rw[Nat.div_lt_iff_lt_mul (Dig.pow_pos M)]
 have O:4294967296 ^ (m - 1)*2147483648*4294967296 ^ M=4294967296 ^ n*2147483648:=by
  rw[show n=(m - 1)+M from by omega,Nat.pow_add];simp only[Nat.mul_comm,Nat.mul_left_comm]
 rw[O];exact kV (Nat.mul_lt_mul_of_pos_right V (Nat.two_pow_pos S)) (Nat.mul_le_mul_left _ J)
theorem Qj (p:Option Addr) (c u:Nat) (q:Option Addr) (d v:Nat) (w:World) (h1:Nm w p c u) (h2:Nm w q d v) (hu:2<nd u) (mH:nd u<=35184372088830) (hv:1<nd v) (iL:v<=u):
  Calls prog 205 #[.slice p (nd u) c,.slice q (nd v) d] w λe w'=>Ik w' e (u / v) (u % v)/\Below w.heap.size w w':=by
 have mJ:v≠0:=Bo.1 (by omega);have nK:=Bm iL;obtain⟨s,hs⟩:=M5 iL;have oS:decide ((s:Int)<0)=false:=decide_eq_false (by omega);have HC:=D7 p c u q d v w h1 h2 (by omega) (by omega);rw[hs]at HC;replace HC:=Kh HC;obtain⟨t,S,ht,nJ,hS,lW,aK,aX,hJ,hI⟩:=hH mJ;obtain⟨g,o,rfl,hg,aD⟩:=h2.head (by omega)
 have lY:∀w1,Below w.heap.size w w1->w1.cell? ⟨g,o+(nd v - 1),none⟩=some (.int .u32 (t:Nat)):=λw1 hb=>by
  have:=(hb.cell (p:=⟨g,o+(nd v - 1),none⟩) hg).trans (aD (nd v - 1) (by omega));rw[ht]at this;exact this
 have lH:=Kh lY;have hB:=Kh (λw=>dP (t:Int) w (by omega) (by omega));rw[Int.toNat_natCast,lW]at hB;have H1:=Kh (λ(w1:World) (hb:Below w.heap.size w w1)=>Lv p c (nd u) (dg u) S w1 (Dg.keep h1 hb) (by omega) (by omega));have H2:=Kh (λ(w1:World) (hb:Below w.heap.size w w1)=>Lv (some ⟨g,o,none⟩) d (nd v) (dg v) S w1 (Dg.keep h2 hb) (by omega) (by omega));rw[Bp]at H1 H2;have mI:u<4294967296 ^ nd u:=Be.1 (kT _);have oJ:(S:Int)<32:=by omega
 have dC:(2:Int)<(nd u:Int):=by omega
 have nW:decide ((nd u:Int)<=2)=false:=decide_eq_false (by omega);have oP:(1:Int)<(nd v:Int):=by omega
 have nU:((nd v:Int)==1)=false:=beq_eq_false_iff_ne.2 (by omega);have e1:((nd v:Int) - 1).toNat=nd v - 1:=by omega
 obtain⟨V,hV⟩:∃V,v*2 ^ S=V:=⟨_,rfl⟩
 rw[hV]at H2 aK aX hJ hI;have cA:=Kh hV;have hE:=Kh (show 0<V by rw[<-hV];exact Nat.mul_pos (by omega) (Nat.two_pow_pos S));obtain⟨M,hM⟩:∃M,M+nd v=nd u+1:=⟨nd u+1 - nd v,by omega⟩
 have oH:(nd u:Int)+1 - (nd v:Int)=(M:Nat):=by omega
 have HM:=Kh hM;have lO:=Kh aX;have hD:=Kh hJ;have nB:=Kh hI;have nA:=Kh mI;have lK:=Kh aK;have mZ:=Kh mH;have oQ:nd v<=35184372088830:=by omega
 have oR:nd u<=35184372088830:=by omega
 have oI:M<=35184372088830:=by omega
 have mY:=Kh hS;have oE:=Kh (show 0<v by omega);obtain⟨Q,hQ⟩:∃Q,u / v=Q:=⟨_,rfl⟩
 obtain⟨R,hR⟩:∃R,u % v=R:=⟨_,rfl⟩
 have HQ:=Kh hQ;have HR:=Kh hR;rw[hQ,hR];clear hV h1 h2 hu mH hv iL mJ nK hs ht lY nJ hS lW aK aX hJ hI aD mI hM hQ hR;generalize nd u=n at *;generalize nd v=m at *;go_enter func205,ntmps205
 go_wp2_with fail
 refine HC.1.mono ?_;rintro e w1 ⟨rfl,hq⟩;have B1:=Bi hq;have Z:=Kh B1;have c0:=lH.1 _ B1;clear hq B1 HC lH;go_wp2_with fail
 refine(hB.1 _).mono ?_;rintro e w2 ⟨rfl,rfl⟩;clear c0 hB;go_wp2_with fail
 refine(H1.1 _ Z.1).mono ?_;rintro e w3 ⟨⟨gu,cu,r0,rfl,oK,mC,gP,I⟩,lX⟩;have B3:=Z.1.trans (lX.mono Z.1.size);have bC:=Kh B3;have Y:=Kh gP;have eP:=Kh I;have mV:=Kh (kU Z.1.size mC);clear H1 Z B3 lX gP I mC;go_wp2_with fail
 refine(H2.1 _ bC.1).mono ?_;rintro e w4 ⟨⟨gv,cv,rv,rfl,lZ,nH,aL,bA⟩,hN⟩;have B4:=bC.1.trans (hN.mono bC.1.size);have HT:=Dj (some ⟨gv,0,none⟩) cv (m+1) rv w4 (aL.dg cv lZ) (by have:=mZ.1;have:=HM.1;omega);rw[bA,lK.1]at HT;have HT:=Kh HT;have mE:gv≠gu:=by have:=Y.1.1.lt;omega
 have H:=Kh (Y.1.below hN Y.1.1.lt);have gU:=Kh B4;clear H2 bC B4 hN aL bA nH lZ Y;go_wp2_with fail
 refine HT.1.mono ?_;rintro e w5 ⟨⟨rfl,cX⟩,rfl⟩
 have hP:Dg w5 (some ⟨gv,0,none⟩) cv m (dg V):=by
  unfold Nm at cX;rw[lK.1]at cX;exact cX
 have nI:∀w,(Instr.makeSlice 82 (.int .i64 (M:Int)) (.int .i64 (M:Int))).run prog w=.ok (.slice (some ⟨w.heap.size,0,none⟩) M M) (w.alloc (.cells (madeCells #[.int .u32 0] M) 200)):=Gk M (by omega)
 obtain⟨w6,dY⟩:∃w6,w5.alloc (.cells (madeCells #[.int .u32 0] M) 200)=w6:=⟨_,rfl⟩
 obtain⟨O,cG⟩:∃O,w5.heap.size=O:=⟨_,rfl⟩
 have cF:Below w5.heap.size w5 w6:=by rw[<-dY];exact(Below.refl _ _).alloc (kT _) _
 have J:=Row.made w5 M;rw[dY,cG]at J
 have gL:gv<w5.heap.size:=by
  obtain⟨g',o',e',oM,_⟩:=hP.head (by omega);injection e' with e';injection e' with e1 e2;omega
 have gN:O≠gu:=by have:=H.1.1.lt;omega
 have mF:gv≠O:=by omega
 have mB:w.heap.size<=O:=by rw[<-cG];exact gU.1.size
 have hY:∀i,i<n+1->r0 i<4294967296:=H.1.2
 have aU:Hr w6 gu O m M M r0 V:=Q3 (by rw[HM.1];exact H.1.below cF H.1.1.lt) J (by rw[<-cA.1];exact Uc hY eP.1 nA.1 HM.1 (by omega) mY.1 (by rw[cA.1];exact nB.1));have lM:=Kh aU;have lI:=Kh (hP.below cF gL);have lF:=bt gU cF;have lL:=Kh hY;clear aU hP cX HT J hY gL;go_wp2;try rw[cG,dY]
 clear dY cG cF H gU nI;go_loopw [14] (λlA wr=>∃k:Nat,k<=M/\lA=.int .i64 ((k:Int) - 1)/\Hr wr gu O m M k r0 V/\Dg wr (some ⟨gv,0,none⟩) cv m (dg V)/\Below w.heap.size w wr) (λlA _=>(intOf lA+1).toNat)
 case atStart=>exact⟨M,kT _,by go_num,lM.1,lI.1,lF.1⟩
 case round=>
  clear lM lI lF;obtain⟨k,hk,rfl,hl,hd,hb⟩:=hrel;have HL:=Kh hl;have HD:=Kh hd;have HB:=Kh hb;clear hl hd hb;by_cases hk0:k=0
  ·subst hk0
   obtain⟨r,q,aT,J,dE,U⟩:=W5 HL.1;have hU:vf r0 (M+m)=u*2 ^ S:=by rw[HM.1];exact eP.1
   rw[hU,<-cA.1,Nat.mul_mod_mul_right]at dE;rw[hU,<-cA.1,Nat.mul_div_mul_right _ _ (Nat.two_pow_pos S),HQ.1]at U;rw[HR.1]at dE;have h:=Dj (some ⟨O,0,none⟩) M M q wr.drew ((J.dg M (kT _)).keep (Aa (Below.refl _ _) 1)) (by omega);have HU:=Ow (some ⟨gu,0,none⟩) cu m r S wr.drew (((aT.dg cu (by have:=HM.1;omega)).take (k:=m) (by omega)).keep (Aa (Below.refl _ _) 1)) (by omega) (by omega);rw[U]at h;rw[dE,Nat.mul_div_cancel _ (Nat.two_pow_pos S)]at HU;obtain⟨k1,hT⟩:∃k1,nd Q=k1:=⟨_,rfl⟩
   rw[hT]at h;obtain⟨k2,mD⟩:∃k2,nd R=k2:=⟨_,rfl⟩
   replace h:=Kh h;replace HU:=Kh HU;have mW:=Kh hT;have lJ:=Kh mD;have nV:(m:Int)<=(cu:Int):=by have:=HM.1;omega
   have M1:True:=trivial;clear aT J dE U hU hT mD HL HD;go_upto_region 17 with(fail)
   go_region_held3 (λ_=>True) (exact trivial) (first
    |(go_at_call 129;clear M1;refine h.1.mono ?_;rintro e w' ⟨⟨rfl,hW⟩,rfl⟩;replace hW:=Kh hW)
    |(go_at_call 218;refine HU.1.mono ?_;rintro e w7 ⟨⟨p2,c2,r2,rfl,mA,hv2⟩,cD⟩;have bY:=Dj p2 c2 m r2 w7 mA (by omega);rw[hv2,lJ.1]at bY;replace bY:=Kh bY;replace cD:=Kh cD;clear mA hv2)
    |(go_at_call 129;refine bY.1.mono ?_;rintro e w' ⟨⟨rfl,dC⟩,rfl⟩;replace dC:=Kh dC))
   go_wp2;go_ret2
   exact⟨Xi mW.1 lJ.1 (hW.1.keep cD.1) dC.1,(Aa HB.1 1).trans (cD.1.mono HB.1.size)⟩
  ·obtain⟨j,rfl⟩:∃j,k=j+1:=⟨k - 1,by omega⟩
   have lQ:(((j+1:Nat):Int) - 1)=(j:Int):=by omega
   rw[lQ];obtain⟨r,q,aT,J,aJ,I,U⟩:=HL.1;obtain⟨X,hX⟩:∃X,vf (shf r0 (j+1)) (M+m - (j+1))=X:=⟨_,rfl⟩
   rw[hX]at I U;obtain⟨kY,kZ⟩:=Pa aJ I hE.1;have DC:=Zw gu j (M+m) m (cu - j) gv 0 cv r (dg V) wr aT (by omega) (by omega) HD.1 mE lO.1 (by rw[Pw hD.1];exact kZ (lL.1 j (by have:=HM.1;omega))) (by omega);obtain⟨Qd,cC⟩:∃Qd,(r0 j+4294967296*(X % V)) / V=Qd:=⟨_,rfl⟩
   have lV:Qd<4294967296:=by
    rw[<-cC,<-kY,Nat.div_lt_iff_lt_mul hE.1,Nat.mul_comm];exact kZ (lL.1 j (by have:=HM.1;omega))
   rw[Pw hD.1,kY,cC]at DC
   have aU:∀w',Only gu wr w'->Ix w' gu (M+m) j m r ((r0 j+4294967296*(X % V)) % V)->(∃y,w'.cell? ⟨O,j,none⟩=some y)/\w'.frozen? ⟨O,j,none⟩=false/\Hr (w'.setCell ⟨O,j,none⟩ (.int .u32 Qd)) gu O m M j r0 V/\Dg (w'.setCell ⟨O,j,none⟩ (.int .u32 Qd)) (some ⟨gv,0,none⟩) cv m (dg V)/\Below w.heap.size w (w'.setCell ⟨O,j,none⟩ (.int .u32 Qd)):=by
    intro w' hO ⟨r',mG,cT,hZ⟩;have aN:=hO.row J gN;refine⟨⟨_,aN.1.cell (by omega)⟩,aN.1.frozen _,?_,?_,?_⟩
    ·exact Ud (by omega) hX aJ mG cT hZ aN U hE.1 (Nat.le_of_lt hD.1) cC lV gN
    ·exact((Only.refl O w').set j _).dg (hO.dg HD.1 mE) mF
    ·exact(HB.1.trans (hO.below mV.1 HB.1.size)).setCell mB _
   have HN:=Kh aU;replace DC:=Kh DC;have oN:decide ((0:Int)<=(j:Int))=true:=decide_eq_true (by omega);have oO:(j:Int)+m+1<=cu:=by have:=HM.1;omega
   have ej:j+m+1 - j=m+1:=by omega
   have lU:(Qd:Int)<4294967296:=by omega
   have oC:=Kh lU;clear lQ hk0 aT J aJ I U hX kY kZ cC lV aU HL HD lU;go_wp2_with fail
   rw[ej];refine DC.1.mono ?_;rintro e w' ⟨rfl,hO,lT⟩;obtain⟨⟨y,hy⟩,oL,hL,lS,lR⟩:=HN.1 w' hO lT;have mX:=Kh hL;have mU:=Kh lS;have mT:=Kh lR;clear hO lT hL lS lR DC HN ej;go_wp2;go_roundw
   case rel=>exact⟨j,by omega,by go_num,mX.1,mU.1,mT.1⟩
   case measure=>simp[intOf]
theorem Om (p:Option Addr) (c u:Nat) (q:Option Addr) (d v:Nat) (w:World) (H:Nm w p c u) (I:Nm w q d v) (O:nd u<=35184372088830) (Y:nd v<=35184372088830) (U:v≠0):
  Calls prog 205 #[.slice p (nd u) c,.slice q (nd v) d] w λe w'=>Ik w' e (u / v) (u % v)/\Below w.heap.size w w':=by
 rcases Nat.lt_or_ge u v with h|h
 ·exact Ol p c u q d v w H I O Y h
 ·rcases Nat.lt_or_ge 2 (nd u)with J|J
  ·have Z:=Bo.2 U
   rcases Nat.lt_or_ge 1 (nd v)with V|V
   ·exact Qj p c u q d v w H I J O V h
   ·exact Ok p c u q d v w H I J O (by omega) h
  ·exact Qk p c u q d v w H I J (by omega) h
theorem Dg.trim {w:World} {p:Option Addr} {c n:Nat} {a:Nat->Nat} (h:Dg w p c n a):Nm w p c (vf a n):=by
 have H:nd (vf a n)<=n:=Be.2 (Ds h.lt);exact(h.take H).congr λj I=>Wi h.lt j (by omega)
theorem Bx (H:Bool) (p:Option Addr) (c n:Nat) (a:Nat->Nat) (w:World) (h:Dg w p c n a) (hn:n<=70368744177664):
  Calls prog 131 #[.bool H,.slice p n c] w λe w'=>K8 w' e (sg H (vf a n))/\Below w.heap.size w w':=by
 have J:∀o,Below w.heap.size w (w.alloc o):=λo=>(Below.refl _ _).alloc (kT _) o
 have O:=Kh (λV (J:Below w.heap.size w V)=>Dj p c n a V (h.keep J) hn);have Z:=Kh h.trim;obtain⟨k,U⟩:∃k,nd (vf a n)=k:=⟨_,rfl⟩
 rw[U]at O;have Y:=Kh U;have I:=Kh J;clear h U J;go_enter func131,ntmps131
 go_wp2_with fail
 refine(O.1 _ (I.1 _)).mono ?_;rintro e V ⟨⟨rfl,hm⟩,rfl⟩;clear O hm;cases H with
 | false=>
  go_wp2;go_returns
  exact⟨⟨_,p,k,c,rfl,Tg (Z.1.keep (I.1 _)) Y.1 (by simp)⟩,I.1 _⟩
 | true=>
  go_wp2;go_returns
  exact⟨⟨_,p,k,c,rfl,Tg (Z.1.keep (I.1 _)) Y.1 (by simp)⟩,I.1 _⟩
theorem J4 (p:Option Addr) (c u:Nat) (w:World) (h:Nm w p c u) (J:nd u<=35184372088830):
  Calls prog 147 #[.slice p (nd u) c] w λe w'=>RetN w' e u/\Below w.heap.size w w':=by
 refine(Rz p c (nd u) (dg u) w h J).mono ?_;rintro e w' ⟨⟨U,c1,V,rfl,I,O⟩,H⟩;exact⟨⟨U,c1,rfl,I.nm (by rw[O,Bp]) rfl⟩,H⟩
theorem Vw (p:Option Addr) (c u:Nat) (q:Option Addr) (d v:Nat) (w:World) (h1:Nm w p c u) (h2:Nm w q d v) (hu:nd u<=35184372088830) (hv:nd v<=35184372088830):
  Calls prog 169 #[.slice p (nd u) c,.slice q (nd v) d] w λe w'=>RetN w' e (Nat.gcd u v)/\Below w.heap.size w w':=by
 obtain⟨G,hG⟩:∃G,Nat.gcd u v=G:=⟨_,rfl⟩
 obtain⟨n,hn⟩:∃n,nd u=n:=⟨_,rfl⟩
 obtain⟨m,hm⟩:∃m,nd v=m:=⟨_,rfl⟩
 have HG:=Kh hG;have H1:=Kh h1;have H2:=Kh h2;have HN:=Kh hn;have HM:=Kh hm;rw[hn]at hu;rw[hm]at hv;rw[hG,hn,hm];clear h1 h2 hn hm hG;go_enter func169,ntmps169
 go_wp2;go_loopg [0,1] v (λb v0 v1 wr=>∃(a n m:Nat) (p q:Option Addr) (c d:Nat),v0=.slice p n c/\v1=.slice q m d/\nd a=n/\nd b=m/\n<=35184372088830/\m<=35184372088830/\Nm wr p c a/\Nm wr q d b/\Nat.gcd a b=G/\Below w.heap.size w wr)
 case atStart=>exact⟨u,n,m,p,q,c,d,rfl,rfl,HN.1,HM.1,hu,hv,H1.1,H2.1,HG.1,Below.refl _ _⟩
 case round=>
  clear H1 H2 HG HN HM hu hv n m c d p q u;obtain⟨a,n,m,p,q,c,d,rfl,rfl,hn,hm,hJ,hE,h1,h2,hG,hb⟩:=hrel;have HB:=Kh hb;have HG:=Kh hG;by_cases hm0:m=0
  ·subst hm0
   obtain rfl:gk=0:=by
    have:=Bo (v:=gk);omega
   have hC:=J4 p c a wr h1 (by omega);rw[hn]at hC;rw[Nat.gcd_zero_right]at hG;subst hG;replace hC:=Kh hC;clear h1 h2 hb HG hn hm;go_wp2_with fail
   refine hC.1.mono ?_;rintro e J ⟨hr,H⟩;obtain⟨p1,c1,rfl,dE⟩:=hr;obtain⟨k,hk⟩:∃k,nd a=k:=⟨_,rfl⟩
   rw[hk];have HK:=Kh hk;have gS:=Kh dE;have O:=bt HB H;clear dE H hk hC;go_wp2;go_ret;exact⟨⟨p1,c1,by rw[HK.1];rfl,gS.1⟩,O.1⟩
  ·have hD:0<m:=by omega
   by_cases hsm:n<=2/\m<=2
   ·have hx:=Ft (u:=a) (by omega)
    have hy:=Ft (u:=gk) (by omega);have Y:=I2 p c a wr h1 (by omega);have Z:=λJ (H:Below wr.heap.size wr J)=>I2 q d gk J (h2.keep H) (by omega)
    rw[hn]at Y;rw[hm]at Z;have hI:n<=2:=hsm.1;have cB:m<=2:=hsm.2;have HX:=Kh hx;have HY:=Kh hy;replace Y:=Kh Y;replace Z:=Kh Z;clear h1 h2 hb hG hn hm hx hy hsm hJ hE hm0;go_wp2_with fail
    refine Y.1.mono ?_;rintro e J ⟨rfl,hq⟩;have H:=Bi hq;have O:=Kh H;clear hq H Y;go_wp2_with fail
    refine(Z.1 _ O.1).mono ?_;rintro e w2 ⟨rfl,hq⟩;have cT:=Kh ((HB.1.trans (O.1.mono HB.1.size)).trans ((Bi hq).mono (kU HB.1.size O.1.size)));clear hq Z O HB;go_wp2;go_loopw [5,6] (λv5 v6 wi=>∃x y:Nat,v5=.int .u64 x/\v6=.int .u64 y/\Nat.gcd x y=G/\Hd (x<18446744073709551616/\y<18446744073709551616)/\Below w.heap.size w wi) (λ_ v6 _=>(intOf v6).toNat)
    case atStart=>exact⟨a,gk,rfl,rfl,HG.1,Kh ⟨HX.1,HY.1⟩,cT.1⟩
    case round=>
     clear HG HX HY cT hD hI cB;obtain⟨x,y,rfl,rfl,hg,cD,hb⟩:=hrel;have HB:=Kh hb;by_cases hy0:y=0
     ·subst hy0
      rw[Nat.gcd_zero_right]at hg;subst hg;have HW:=Kh (λw=>(Hw x w cD.1.1).mono (λ_ _ h=>And.imp_left RetN.op h));clear hb;go_wp2_with fail
      refine(HW.1 _).mono ?_;rintro e w4 ⟨⟨p4,n4,c4,rfl,eP,dY⟩,dC⟩;have hB:=Kh eP;have gU:=Kh dY;have gP:=bt HB dC;clear eP dY dC HW;go_wp2;go_ret;exact⟨⟨p4,c4,by rw[hB.1];rfl,gU.1⟩,gP.1⟩
     ·obtain⟨R,hR⟩:∃R,x % y=R:=⟨_,rfl⟩
      have aD:R<y:=by rw[<-hR];exact Nat.mod_lt _ (by omega)
      have hY:Int.tmod (x:Int) (y:Int)=(R:Nat):=by rw[Int.tmod_eq_emod_of_nonneg (by omega),<-hR];exact(Int.natCast_emod _ _).symm
      have hU:(x:Int) % (y:Int)=(R:Nat):=by rw[<-hR];exact(Int.natCast_emod _ _).symm
      have I:Nat.gcd y R=G:=by rw[<-hg,<-hR,Nat.gcd_comm x y,Nat.gcd_rec y x,Nat.gcd_comm]
      have HN:=Kh I;have iL:((y:Int) != 0)=true:=by rw[bne_iff_ne];omega
      have hZ:(y:Int)≠0:=by omega
      have U:=Kh aD;clear hb I hR hg aD;go_wp2;go_quiet (fail)
      go_wp2;go_roundw
      case rel=>exact⟨y,R,rfl,rfl,HN.1,Kh ⟨cD.1.2,by have:=cD.1.2;have:=U.1;omega⟩,Aa HB.1 _⟩
      case measure=>simp[intOf];exact U.1
   ·have cX:gk≠0:=Bo.1 (by omega)
    have hC:=Om p c a q d gk wr h1 h2 (by omega) (by omega) cX;rw[hn,hm]at hC;obtain⟨R,hR⟩:∃R,a % gk=R:=⟨_,rfl⟩
    have aD:R<gk:=by rw[<-hR];exact Nat.mod_lt _ (by omega)
    have I:Nat.gcd gk R=G:=by rw[<-hG,<-hR,Nat.gcd_comm a gk,Nat.gcd_rec gk a,Nat.gcd_comm]
    rw[hR]at hC;have HN:=Kh I;have HC:=Kh hC;have U:=Kh aD;have H2:=Kh h2;have HM:=Kh hm;clear h1 h2 hb hG hn hm I hC aD hm0 hR cX
    have aN:∀(J:World) (p2:Option Addr) (c2:Nat),Below wr.heap.size wr J->Nm J p2 c2 R->∃k,nd R=k/\Hd (nd R=k/\k<=35184372088830/\Nm J q d gk/\Nm J p2 c2 R/\Below w.heap.size w J):=by
     intro J p2 c2 H hr;have h1:nd R<=m:=by rw[<-HM.1];exact Bm (Nat.le_of_lt U.1)
     exact⟨_,rfl,rfl,by omega,H2.1.keep H,hr,HB.1.trans (H.mono HB.1.size)⟩
    have HT:=Kh aN;clear aN;by_cases hn2:n<=2
    ·have cB:¬m<=2:=by omega
     clear hsm;go_wp2_with fail
     refine HC.1.mono ?_;rintro e J ⟨⟨p1,c1,p2,c2,rfl,hq,hr⟩,H⟩;obtain⟨k,hk,V⟩:=HT.1 J p2 c2 H hr;rw[hk];obtain⟨k1,aJ⟩:∃k1,nd (a / gk)=k1:=⟨_,rfl⟩
     rw[aJ];clear hk aJ hq hr H HT HC;go_wp2;go_roundg R
     case measure=>exact U.1
     case rel=>exact⟨gk,m,k,q,p2,d,c2,rfl,rfl,HM.1,V.1.1,by omega,V.1.2.1,V.1.2.2.1,V.1.2.2.2.1,HN.1,V.1.2.2.2.2⟩
    ·clear hsm
     go_wp2_with fail
     refine HC.1.mono ?_;rintro e J ⟨⟨p1,c1,p2,c2,rfl,hq,hr⟩,H⟩;obtain⟨k,hk,V⟩:=HT.1 J p2 c2 H hr;rw[hk];obtain⟨k1,aJ⟩:∃k1,nd (a / gk)=k1:=⟨_,rfl⟩
     rw[aJ];clear hk aJ hq hr H HT HC;go_wp2;go_roundg R
     case measure=>exact U.1
     case rel=>exact⟨gk,m,k,q,p2,d,c2,rfl,rfl,HM.1,V.1.1,by omega,V.1.2.1,V.1.2.2.1,V.1.2.2.2.1,HN.1,V.1.2.2.2.2⟩
def cellOf (w:World) (a:Addr):Value:=(w.cell? a).getD (.bool false)
theorem Am {w:World} {a:Addr} (h:(w.cell? a).isSome=true):w.cell? a=some (cellOf w a):=by
 unfold cellOf;obtain⟨u,H⟩:=kX h;rw[H];rfl
theorem B8 {w:World} {a:Addr} (h:w.cell? a=some (cellOf w a)):(w.cell? a).isSome=true:=by rw[h];rfl
def NotInt (v:Value):Prop:=∀k n,v≠.int k n
theorem NotInt.bool (b:Bool):NotInt (.bool b):=λ_ _ h=>by cases h
theorem NotInt.slice (p:Option Addr) (n c:Nat):NotInt (.slice p n c):=λ_ _ h=>by cases h
def Sts (w:World) (R:Nat):Prop:=R<w.heap.size/\∀i v,w.cell? ⟨R,i,none⟩=some v->NotInt v
theorem Sts.next {w w':World} {R:Nat} (H:Below w.heap.size w w') (h:Sts w R):Sts w' R:=
 ⟨kV h.1 H.size,λi v I=>h.2 i v ((H.cell (p:=⟨R,i,none⟩) h.1).symm.trans I)⟩
theorem Ev {w:World} {p:Addr} (u:Value) (h:w.cell? p=none):(w.setCell p u).cell? p=none:=by
 simp only[World.setCell,World.cell?,Array.getElem?_modify,if_true]at h ⊢;cases hh:w.heap[p.block]? with
 | none=>simp
 | some x=>
  rw[hh]at h;cases x <;> simp only[Option.map_some]at h ⊢
  by_cases hs:p.spot.isSome=true
  ·simp[hs]
  ·simp only[hs,Bool.false_eq_true,if_false]at h ⊢
   rw[Array.getElem?_eq_none_iff]at h ⊢
   simpa using h
theorem Sts.put {w:World} {R:Nat} (h:Sts w R) (p:Addr) (u:Value) (I:NotInt u):Sts (w.setCell p u) R:=by
 refine⟨by simpa using h.1,λi v H=>?_⟩;by_cases hp:p=⟨R,i,none⟩
 ·cases hc:w.cell? p with
  | none=>
   have:((w.setCell p u).cell? p)=none:=by
    exact Ev u hc
   rw[<-hp,this]at H;cases H
  | some y=>
   rw[<-hp,World.cell?_setCell_same' _ _ _ (by rw[hc];rfl)]at H;injection H with H
   rw[<-H];exact I
 ·rw[World.cell?_setCell_other _ _ _ _ hp]at H
  exact h.2 i v H
theorem Sts.of {w:World} {R:Nat} {t:TypeId} {cs:Array Value} (h:Blk w R t cs) (I:∀v∈cs,NotInt v):Sts w R:=
 ⟨h.lt,λi v H=>by
  rw[h.cell_ i]at H;exact I v (Array.mem_of_getElem? H)⟩
theorem Dg.put {w:World} {R:Nat} (Y:Sts w R) {p:Option Addr} {c n:Nat} {a:Nat->Nat} (h:Dg w p c n a) (i:Nat) (u:Value):Dg (w.setCell ⟨R,i,none⟩ u) p c n a:=
 ⟨h.cap,h.lt,by
  rcases h.at' with V |⟨g,o,e,hg,J⟩
  ·exact .inl V
  ·rcases Nat.eq_zero_or_pos n with I|I
   ·exact .inl I
   ·refine .inr ⟨g,o,e,by simpa using hg,λj O=>?_⟩
    have H:R≠g:=λU=>Y.2 (o+j) _ (by rw[U];exact J j O) _ _ rfl
    rw[World.cell?_setCell_far w ⟨R,i,none⟩ ⟨g,o+j,none⟩ u H];exact J j O⟩
theorem Zs.put {w:World} {R:Nat} (H:Sts w R) {s:Bool} {p:Option Addr} {n c:Nat} {z:Int} (h:Zs w s p n c z) (i:Nat) (u:Value):Zs (w.setCell ⟨R,i,none⟩ u) s p n c z:=⟨h.1,h.2.1,Dg.put H h.2.2 i u⟩
theorem Zs.put2 {w:World} {R:Nat} (H:Sts w R) {s:Bool} {p:Option Addr} {n c:Nat} {z:Int} (h:Zs w s p n c z) (i j:Nat) (u v:Value) (I:NotInt u):Zs ((w.setCell ⟨R,i,none⟩ u).setCell ⟨R,j,none⟩ v) s p n c z:=(h.put H i u).put (H.put _ _ I) j v
def SV (B:Nat) (w0 w:World):List Addr->Prop
 | []=>Below B w0 w/\B<=w.heap.size
 | a :: m=>w.cell? a=some (cellOf w a)/\w.frozen? a=false/\Sts w a.block/\SV B w0 w m
def SS (B:Nat) (w0 w:World) (l:List (Addr×Value)) (m:List Addr):Prop:=
 match l with
 | []=>SV B w0 w m
 |(a,v) :: l=>w.cell? a=some v/\SS B w0 w l m
theorem Ab {w w':World} {a:Addr} (I:Below w.heap.size w w') (h:(w.cell? a).isSome=true) (H:w.frozen? a=false):w'.frozen? a=false:=by
 obtain⟨u,O⟩:=kX h;have J:=World.block_lt_of_cell? w a O;have e:w'.heap[a.block]?=w.heap[a.block]?:=I.block a.block J;unfold World.frozen? at H ⊢;rw[e];exact H
theorem SV.next {B:Nat} {w0 w w':World} {m:List Addr} (H:Below w.heap.size w w') (h:SV B w0 w m):SV B w0 w' m:=by
 induction m with
 | nil=>exact⟨h.1.trans (H.mono h.2),kU h.2 H.size⟩
 | cons a m ih=>
  refine⟨Am ?_,Ab H (B8 h.1) h.2.1,h.2.2.1.next H,ih h.2.2.2⟩;rw[H.cell (World.block_lt_of_cell? w a h.1)];exact B8 h.1
theorem SS.next {B:Nat} {w0 w w':World} {l:List (Addr×Value)} {m:List Addr} (H:Below w.heap.size w w') (h:SS B w0 w l m):SS B w0 w' l m:=by
 induction l with
 | nil=>exact SV.next H h
 | cons x l ih=>exact⟨(H.cell (World.block_lt_of_cell? w x.1 h.1)).trans h.1,ih h.2⟩
theorem SV.below {B:Nat} {w0 w:World} {m:List Addr} (h:SV B w0 w m):Below B w0 w:=by
 induction m with
 | nil=>exact h.1
 | cons a m ih=>exact ih h.2.2.2
theorem SS.below {B:Nat} {w0 w:World} {l:List (Addr×Value)} {m:List Addr} (h:SS B w0 w l m):Below B w0 w:=by
 induction l with
 | nil=>exact SV.below h
 | cons x l ih=>exact ih h.2
theorem A8 {w:World} {p a:Addr} {v:Value} (h:(w.cell? a).isSome=true):((w.setCell p v).cell? a).isSome=true:=by
 by_cases hp:p=a
 ·rw[hp,World.cell?_setCell_same' _ _ _ h];rfl
 ·rw[World.cell?_setCell_other _ _ _ _ hp];exact h
theorem At {w:World} {p a:Addr} {v:Value} (H:w.frozen? a=false):(w.setCell p v).frozen? a=false:=by
 rw[World.frozen?_setCell];exact H
theorem SV.put {B:Nat} {w0 w:World} {m:List Addr} (h:SV B w0 w m) (p:Addr) (v:Value) (I:NotInt v) (H:B<=p.block):SV B w0 (w.setCell p v) m:=by
 induction m with
 | nil=>exact⟨h.1.setCell H v,by simpa using h.2⟩
 | cons a m ih=>exact⟨Am (A8 (B8 h.1)),At h.2.1,h.2.2.1.put p v I,ih h.2.2.2⟩
theorem SS.put {B:Nat} {w0 w:World} {l:List (Addr×Value)} {m:List Addr} (h:SS B w0 w l m) (p:Addr) (v:Value) (J:NotInt v) (I:B<=p.block) (H:∀x∈l,p.block≠x.1.block):SS B w0 (w.setCell p v) l m:=by
 induction l with
 | nil=>exact SV.put h p v J I
 | cons x l ih=>exact⟨(World.cell?_setCell_far w p x.1 v (H x (List.mem_cons_self ..))).trans h.1,ih h.2 (λy O=>H y (List.mem_cons_of_mem _ O))⟩
theorem SV.end_ {B:Nat} {w0 w w':World} {a:Addr} {m:List Addr} (I:Below w.heap.size w w') (h:SV B w0 w m) (H:a∈m):(w'.cell? a).isSome=true/\Sts w' a.block:=by
 induction m with
 | nil=>cases H
 | cons x m ih=>
  rcases List.mem_cons.1 H with rfl|H
  ·refine⟨?_,h.2.2.1.next I⟩
   rw[I.cell (World.block_lt_of_cell? w a h.1)];exact B8 h.1
  ·exact ih h.2.2.2 H
theorem SS.end_ {B:Nat} {w0 w w':World} {a:Addr} {l:List (Addr×Value)} {m:List Addr} (I:Below w.heap.size w w') (h:SS B w0 w l m) (H:a∈m):(w'.cell? a).isSome=true/\Sts w' a.block:=by
 induction l with
 | nil=>exact SV.end_ I h H
 | cons x l ih=>exact ih h.2
theorem Gs (w:World) (c1:Array Value) (H:TypeId):Blk (w.alloc (.cells c1 H)) w.heap.size H c1/\Below w.heap.size w (w.alloc (.cells c1 H)):=
 ⟨Blk.new w _ _,(Below.refl _ _).alloc (kT _) _⟩
theorem Oc (w:World) (c1:Array Value) (H:TypeId) (c2:Array Value) (I:TypeId):Blk ((w.alloc (.cells c1 H)).alloc (.cells c2 I)) w.heap.size H c1/\Blk ((w.alloc (.cells c1 H)).alloc (.cells c2 I)) (w.heap.size+1) I c2/\Below w.heap.size w ((w.alloc (.cells c1 H)).alloc (.cells c2 I)):=by
 have h:=Blk.new (w.alloc (.cells c1 H)) I c2;rw[World.size_alloc]at h;exact⟨(Blk.new w _ _).alloc_ _,h,((Below.refl _ _).alloc (kT _) _).alloc (by simp) _⟩
theorem fZ (w:World) (c1:Array Value) (H:TypeId) (c2:Array Value) (I:TypeId) (c3:Array Value) (J:TypeId):Blk (((w.alloc (.cells c1 H)).alloc (.cells c2 I)).alloc (.cells c3 J)) w.heap.size H c1/\Blk (((w.alloc (.cells c1 H)).alloc (.cells c2 I)).alloc (.cells c3 J)) (w.heap.size+1) I c2/\Blk (((w.alloc (.cells c1 H)).alloc (.cells c2 I)).alloc (.cells c3 J)) (w.heap.size+1+1) J c3/\Below w.heap.size w (((w.alloc (.cells c1 H)).alloc (.cells c2 I)).alloc (.cells c3 J)):=by
 obtain⟨O,U,V⟩:=Oc w c1 H c2 I;have h:=Blk.new ((w.alloc (.cells c1 H)).alloc (.cells c2 I)) J c3;rw[World.size_alloc,World.size_alloc]at h;exact⟨O.alloc_ _,U.alloc_ _,h,V.alloc (by simp;omega) _⟩
theorem jE (w:World) (c1:Array Value) (H:TypeId) (c2:Array Value) (I:TypeId) (c3:Array Value) (J:TypeId) (c4:Array Value) (O:TypeId):Blk ((((w.alloc (.cells c1 H)).alloc (.cells c2 I)).alloc (.cells c3 J)).alloc (.cells c4 O)) w.heap.size H c1/\Blk ((((w.alloc (.cells c1 H)).alloc (.cells c2 I)).alloc (.cells c3 J)).alloc (.cells c4 O)) (w.heap.size+1) I c2/\Blk ((((w.alloc (.cells c1 H)).alloc (.cells c2 I)).alloc (.cells c3 J)).alloc (.cells c4 O)) (w.heap.size+1+1) J c3/\Blk ((((w.alloc (.cells c1 H)).alloc (.cells c2 I)).alloc (.cells c3 J)).alloc (.cells c4 O)) (w.heap.size+1+1+1) O c4/\Below w.heap.size w ((((w.alloc (.cells c1 H)).alloc (.cells c2 I)).alloc (.cells c3 J)).alloc (.cells c4 O)):=by
 obtain⟨U,V,Y,Z⟩:=fZ w c1 H c2 I c3 J;have h:=Blk.new (((w.alloc (.cells c1 H)).alloc (.cells c2 I)).alloc (.cells c3 J)) O c4;rw[World.size_alloc,World.size_alloc,World.size_alloc]at h;exact⟨U.alloc_ _,V.alloc_ _,Y.alloc_ _,h,Z.alloc (by simp;omega) _⟩
theorem bx1 (w:World) (c1:Array Value) (H:TypeId):∃w0,(w.alloc (.cells c1 H))=w0/\Blk w0 (w.heap.size) H c1/\Below w.heap.size w w0:=⟨_,rfl,Gs w c1 H⟩
theorem bx2 (w:World) (c1:Array Value) (H:TypeId) (c2:Array Value) (I:TypeId):∃w0,((w.alloc (.cells c1 H)).alloc (.cells c2 I))=w0/\Blk w0 (w.heap.size) H c1/\Blk w0 (w.heap.size+1) I c2/\Below w.heap.size w w0:=⟨_,rfl,Oc w c1 H c2 I⟩
theorem Rw (w:World) (c1:Array Value) (H:TypeId) (c2:Array Value) (I:TypeId) (c3:Array Value) (J:TypeId):∃w0,(((w.alloc (.cells c1 H)).alloc (.cells c2 I)).alloc (.cells c3 J))=w0/\Blk w0 (w.heap.size) H c1/\Blk w0 (w.heap.size+1) I c2/\Blk w0 (w.heap.size+1+1) J c3/\Below w.heap.size w w0:=⟨_,rfl,fZ w c1 H c2 I c3 J⟩
theorem kN (w:World) (c1:Array Value) (H:TypeId) (c2:Array Value) (I:TypeId) (c3:Array Value) (J:TypeId) (c4:Array Value) (O:TypeId):∃w0,((((w.alloc (.cells c1 H)).alloc (.cells c2 I)).alloc (.cells c3 J)).alloc (.cells c4 O))=w0/\Blk w0 (w.heap.size) H c1/\Blk w0 (w.heap.size+1) I c2/\Blk w0 (w.heap.size+1+1) J c3/\Blk w0 (w.heap.size+1+1+1) O c4/\Below w.heap.size w w0:=⟨_,rfl,jE w c1 H c2 I c3 J c4 O⟩
theorem Blk.c0 {w:World} {g:Nat} {t:TypeId} {a:Value} {l:List Value} (h:Blk w g t (a :: l).toArray):w.cell? ⟨g,0,none⟩=some a:=h.at_ 0 rfl
theorem Blk.c1 {w:World} {g:Nat} {t:TypeId} {a b:Value} {l:List Value} (h:Blk w g t (a :: b :: l).toArray):w.cell? ⟨g,1,none⟩=some b:=h.at_ 1 rfl
theorem Blk.c2 {w:World} {g:Nat} {t:TypeId} {a b c:Value} {l:List Value} (h:Blk w g t (a :: b :: c :: l).toArray):w.cell? ⟨g,2,none⟩=some c:=h.at_ 2 rfl
theorem Blk.c3 {w:World} {g:Nat} {t:TypeId} {a b c d:Value} {l:List Value} (h:Blk w g t (a :: b :: c :: d :: l).toArray):w.cell? ⟨g,3,none⟩=some d:=h.at_ 3 rfl
theorem Blk.c4 {w:World} {g:Nat} {t:TypeId} {a b c d e:Value} {l:List Value} (h:Blk w g t (a :: b :: c :: d :: e :: l).toArray):w.cell? ⟨g,4,none⟩=some e:=h.at_ 4 rfl
theorem Blk.so {w:World} {g:Nat} {t:TypeId} {cs:Array Value} (h:Blk w g t cs) (i:Nat) (H:i<cs.size:=by decide):w.cell? ⟨g,i,none⟩=some (cellOf w ⟨g,i,none⟩):=Am (by rw[h.cell_ i,Array.getElem?_eq_getElem H];rfl)
abbrev Th (B:Nat) (w0 w:World) (a0 a1 b0 b1:Addr) (v0 v1:Value):Prop:=w.cell? a0=some v0/\w.cell? a1=some v1/\w.cell? b0=some (cellOf w b0)/\w.frozen? b0=false/\Sts w b0.block/\w.cell? b1=some (cellOf w b1)/\w.frozen? b1=false/\Sts w b1.block/\Below B w0 w/\B<=w.heap.size
theorem Dh {B:Nat} {w0 w w':World} {H I J O:Addr} {v0 v1:Value} (U:Below w.heap.size w w') (h:Th B w0 w H I J O v0 v1):Th B w0 w' H I J O v0 v1:=SS.next (B:=B) (w0:=w0) (l:=[(H,v0),(I,v1)]) (m:=[J,O]) U h
theorem Bw {B:Nat} {w0 w:World} {H I J O:Addr} {v0 v1:Value} (h:Th B w0 w H I J O v0 v1):Below B w0 w:=SS.below (B:=B) (w0:=w0) (l:=[(H,v0),(I,v1)]) (m:=[J,O]) h
theorem Jh {B:Nat} {w0 w w':World} {J O H I:Addr} {v0 v1:Value} (U:Below w.heap.size w w') (h:Th B w0 w J O H I v0 v1):((w'.cell? H).isSome=true/\Sts w' H.block)/\((w'.cell? I).isSome=true/\Sts w' I.block):=⟨SS.end_ (B:=B) (w0:=w0) (l:=[(J,v0),(O,v1)]) (m:=[H,I]) U h (by simp),SS.end_ (B:=B) (w0:=w0) (l:=[(J,v0),(O,v1)]) (m:=[H,I]) U h (by simp)⟩
theorem Ji {B:Nat} {w0 w:World} {H I O U:Addr} {v0 v1:Value} (h:Th B w0 w H I O U v0 v1) {p0 J:Addr} {u0 u1:Value} (V:NotInt u0) (aL:B<=p0.block) (Z:p0.block≠H.block) (aD:p0.block≠I.block) (Y:NotInt u1) (aN:B<=J.block) (aJ:J.block≠H.block) (aK:J.block≠I.block):Th B w0 ((w.setCell p0 u0).setCell J u1) H I O U v0 v1:=(SS.put (B:=B) (w0:=w0) (l:=[(H,v0),(I,v1)]) (m:=[O,U]) (SS.put (B:=B) (w0:=w0) (l:=[(H,v0),(I,v1)]) (m:=[O,U]) h p0 u0 V aL (by simp[*])) J u1 Y aN (by simp[*]))
abbrev Ti (B:Nat) (w0 w:World) (a0 a1 a2 a3 b0 b1:Addr) (v0 v1 v2 v3:Value):Prop:=w.cell? a0=some v0/\w.cell? a1=some v1/\w.cell? a2=some v2/\w.cell? a3=some v3/\w.cell? b0=some (cellOf w b0)/\w.frozen? b0=false/\Sts w b0.block/\w.cell? b1=some (cellOf w b1)/\w.frozen? b1=false/\Sts w b1.block/\Below B w0 w/\B<=w.heap.size
theorem Di {B:Nat} {w0 w w':World} {H I J O U V:Addr} {v0 v1 v2 v3:Value} (Y:Below w.heap.size w w') (h:Ti B w0 w H I J O U V v0 v1 v2 v3):Ti B w0 w' H I J O U V v0 v1 v2 v3:=SS.next (B:=B) (w0:=w0) (l:=[(H,v0),(I,v1),(J,v2),(O,v3)]) (m:=[U,V]) Y h
theorem Bg {B:Nat} {w0 w:World} {H I J O U V:Addr} {v0 v1 v2 v3:Value} (h:Ti B w0 w H I J O U V v0 v1 v2 v3):Below B w0 w:=SS.below (B:=B) (w0:=w0) (l:=[(H,v0),(I,v1),(J,v2),(O,v3)]) (m:=[U,V]) h
theorem Jj {B:Nat} {w0 w w':World} {J O U V H I:Addr} {v0 v1 v2 v3:Value} (Y:Below w.heap.size w w') (h:Ti B w0 w J O U V H I v0 v1 v2 v3):((w'.cell? H).isSome=true/\Sts w' H.block)/\((w'.cell? I).isSome=true/\Sts w' I.block):=⟨SS.end_ (B:=B) (w0:=w0) (l:=[(J,v0),(O,v1),(U,v2),(V,v3)]) (m:=[H,I]) Y h (by simp),SS.end_ (B:=B) (w0:=w0) (l:=[(J,v0),(O,v1),(U,v2),(V,v3)]) (m:=[H,I]) Y h (by simp)⟩
theorem Jk {B:Nat} {w0 w:World} {I J O U V Y:Addr} {v0 v1 v2 v3:Value} (h:Ti B w0 w I J O U V Y v0 v1 v2 v3) {p0 H:Addr} {u0 u1:Value} (Z:NotInt u0) (bB:B<=p0.block) (aJ:p0.block≠I.block) (aK:p0.block≠J.block) (aL:p0.block≠O.block) (aN:p0.block≠U.block) (aD:NotInt u1) (bC:B<=H.block) (aT:H.block≠I.block) (aU:H.block≠J.block) (aX:H.block≠O.block) (bA:H.block≠U.block):Ti B w0 ((w.setCell p0 u0).setCell H u1) I J O U V Y v0 v1 v2 v3:=(SS.put (B:=B) (w0:=w0) (l:=[(I,v0),(J,v1),(O,v2),(U,v3)]) (m:=[V,Y]) (SS.put (B:=B) (w0:=w0) (l:=[(I,v0),(J,v1),(O,v2),(U,v3)]) (m:=[V,Y]) h p0 u0 Z bB (by simp[*])) H u1 aD bC (by simp[*]))
abbrev Tj (B:Nat) (w0 w:World) (a0 a1 a2 a3 b0 b1 b2 b3:Addr) (v0 v1 v2 v3:Value):Prop:=w.cell? a0=some v0/\w.cell? a1=some v1/\w.cell? a2=some v2/\w.cell? a3=some v3/\w.cell? b0=some (cellOf w b0)/\w.frozen? b0=false/\Sts w b0.block/\w.cell? b1=some (cellOf w b1)/\w.frozen? b1=false/\Sts w b1.block/\w.cell? b2=some (cellOf w b2)/\w.frozen? b2=false/\Sts w b2.block/\w.cell? b3=some (cellOf w b3)/\w.frozen? b3=false/\Sts w b3.block/\Below B w0 w/\B<=w.heap.size
theorem D4 {B:Nat} {w0 w w':World} {H I J O U V Y Z:Addr} {v0 v1 v2 v3:Value} (hb:Below w.heap.size w w') (h:Tj B w0 w H I J O U V Y Z v0 v1 v2 v3):Tj B w0 w' H I J O U V Y Z v0 v1 v2 v3:=SS.next (B:=B) (w0:=w0) (l:=[(H,v0),(I,v1),(J,v2),(O,v3)]) (m:=[U,V,Y,Z]) hb h
theorem Ej {B:Nat} {w0 w:World} {H I J O U V Y Z:Addr} {v0 v1 v2 v3:Value} (h:Tj B w0 w H I J O U V Y Z v0 v1 v2 v3):Below B w0 w:=SS.below (B:=B) (w0:=w0) (l:=[(H,v0),(I,v1),(J,v2),(O,v3)]) (m:=[U,V,Y,Z]) h
theorem Vd {B:Nat} {w0 w w':World} {U V Y Z H I J O:Addr} {v0 v1 v2 v3:Value} (hb:Below w.heap.size w w') (h:Tj B w0 w U V Y Z H I J O v0 v1 v2 v3):((w'.cell? H).isSome=true/\Sts w' H.block)/\((w'.cell? I).isSome=true/\Sts w' I.block)/\((w'.cell? J).isSome=true/\Sts w' J.block)/\((w'.cell? O).isSome=true/\Sts w' O.block):=⟨SS.end_ (B:=B) (w0:=w0) (l:=[(U,v0),(V,v1),(Y,v2),(Z,v3)]) (m:=[H,I,J,O]) hb h (by simp),SS.end_ (B:=B) (w0:=w0) (l:=[(U,v0),(V,v1),(Y,v2),(Z,v3)]) (m:=[H,I,J,O]) hb h (by simp),SS.end_ (B:=B) (w0:=w0) (l:=[(U,v0),(V,v1),(Y,v2),(Z,v3)]) (m:=[H,I,J,O]) hb h (by simp),SS.end_ (B:=B) (w0:=w0) (l:=[(U,v0),(V,v1),(Y,v2),(Z,v3)]) (m:=[H,I,J,O]) hb h (by simp)⟩
theorem N6 {B:Nat} {w0 w:World} {H I J O Z b1 b2 b3:Addr} {v0 v1 v2 v3:Value} (h:Tj B w0 w H I J O Z b1 b2 b3 v0 v1 v2 v3) {p0 U V Y:Addr} {u0 u1 u2 u3:Value} (aL:NotInt u0) (dY:B<=p0.block) (aX:p0.block≠H.block) (bA:p0.block≠I.block) (bB:p0.block≠J.block) (bC:p0.block≠O.block) (aN:NotInt u1) (eP:B<=U.block) (bE:U.block≠H.block) (bY:U.block≠I.block) (cA:U.block≠J.block) (cB:U.block≠O.block) (aT:NotInt u2) (gA:B<=V.block) (cC:V.block≠H.block) (cD:V.block≠I.block) (cF:V.block≠J.block) (cG:V.block≠O.block) (aU:NotInt u3) (gF:B<=Y.block) (cT:Y.block≠H.block) (cX:Y.block≠I.block) (dC:Y.block≠J.block) (dE:Y.block≠O.block):Tj B w0 ((((w.setCell p0 u0).setCell U u1).setCell V u2).setCell Y u3) H I J O Z b1 b2 b3 v0 v1 v2 v3:=(SS.put (B:=B) (w0:=w0) (l:=[(H,v0),(I,v1),(J,v2),(O,v3)]) (m:=[Z,b1,b2,b3]) (SS.put (B:=B) (w0:=w0) (l:=[(H,v0),(I,v1),(J,v2),(O,v3)]) (m:=[Z,b1,b2,b3]) (SS.put (B:=B) (w0:=w0) (l:=[(H,v0),(I,v1),(J,v2),(O,v3)]) (m:=[Z,b1,b2,b3]) (SS.put (B:=B) (w0:=w0) (l:=[(H,v0),(I,v1),(J,v2),(O,v3)]) (m:=[Z,b1,b2,b3]) h p0 u0 aL dY (by simp[*])) U u1 aN eP (by simp[*])) V u2 aT gA (by simp[*])) Y u3 aU gF (by simp[*]))
abbrev Tl (B:Nat) (w0 w:World) (a0 a1 a2 a3 a4 a5 a6 a7 b0 b1 b2 b3:Addr) (v0 v1 v2 v3 v4 v5 v6 v7:Value):Prop:=w.cell? a0=some v0/\w.cell? a1=some v1/\w.cell? a2=some v2/\w.cell? a3=some v3/\w.cell? a4=some v4/\w.cell? a5=some v5/\w.cell? a6=some v6/\w.cell? a7=some v7/\w.cell? b0=some (cellOf w b0)/\w.frozen? b0=false/\Sts w b0.block/\w.cell? b1=some (cellOf w b1)/\w.frozen? b1=false/\Sts w b1.block/\w.cell? b2=some (cellOf w b2)/\w.frozen? b2=false/\Sts w b2.block/\w.cell? b3=some (cellOf w b3)/\w.frozen? b3=false/\Sts w b3.block/\Below B w0 w/\B<=w.heap.size
theorem A7 {B:Nat} {w0 w w':World} {H I J O U V Y Z b0 b1 b2 b3:Addr} {v0 v1 v2 v3 v4 v5 v6 v7:Value} (hb:Below w.heap.size w w') (h:Tl B w0 w H I J O U V Y Z b0 b1 b2 b3 v0 v1 v2 v3 v4 v5 v6 v7):Tl B w0 w' H I J O U V Y Z b0 b1 b2 b3 v0 v1 v2 v3 v4 v5 v6 v7:=SS.next (B:=B) (w0:=w0) (l:=[(H,v0),(I,v1),(J,v2),(O,v3),(U,v4),(V,v5),(Y,v6),(Z,v7)]) (m:=[b0,b1,b2,b3]) hb h
theorem Bl {B:Nat} {w0 w:World} {H I J O U V Y Z b0 b1 b2 b3:Addr} {v0 v1 v2 v3 v4 v5 v6 v7:Value} (h:Tl B w0 w H I J O U V Y Z b0 b1 b2 b3 v0 v1 v2 v3 v4 v5 v6 v7):Below B w0 w:=SS.below (B:=B) (w0:=w0) (l:=[(H,v0),(I,v1),(J,v2),(O,v3),(U,v4),(V,v5),(Y,v6),(Z,v7)]) (m:=[b0,b1,b2,b3]) h
theorem Jm {B:Nat} {w0 w w':World} {U V Y Z a4 a5 a6 a7 H I J O:Addr} {v0 v1 v2 v3 v4 v5 v6 v7:Value} (hb:Below w.heap.size w w') (h:Tl B w0 w U V Y Z a4 a5 a6 a7 H I J O v0 v1 v2 v3 v4 v5 v6 v7):((w'.cell? H).isSome=true/\Sts w' H.block)/\((w'.cell? I).isSome=true/\Sts w' I.block)/\((w'.cell? J).isSome=true/\Sts w' J.block)/\((w'.cell? O).isSome=true/\Sts w' O.block):=⟨SS.end_ (B:=B) (w0:=w0) (l:=[(U,v0),(V,v1),(Y,v2),(Z,v3),(a4,v4),(a5,v5),(a6,v6),(a7,v7)]) (m:=[H,I,J,O]) hb h (by simp),SS.end_ (B:=B) (w0:=w0) (l:=[(U,v0),(V,v1),(Y,v2),(Z,v3),(a4,v4),(a5,v5),(a6,v6),(a7,v7)]) (m:=[H,I,J,O]) hb h (by simp),SS.end_ (B:=B) (w0:=w0) (l:=[(U,v0),(V,v1),(Y,v2),(Z,v3),(a4,v4),(a5,v5),(a6,v6),(a7,v7)]) (m:=[H,I,J,O]) hb h (by simp),SS.end_ (B:=B) (w0:=w0) (l:=[(U,v0),(V,v1),(Y,v2),(Z,v3),(a4,v4),(a5,v5),(a6,v6),(a7,v7)]) (m:=[H,I,J,O]) hb h (by simp)⟩
theorem D6 {B:Nat} {w0 w:World} {O U V Y Z a5 a6 a7 b0 b1 b2 b3:Addr} {v0 v1 v2 v3 v4 v5 v6 v7:Value} (h:Tl B w0 w O U V Y Z a5 a6 a7 b0 b1 b2 b3 v0 v1 v2 v3 v4 v5 v6 v7) {p0 H I J:Addr} {u0 u1 u2 u3:Value} (bE:NotInt u0) (hU:B<=p0.block) (cC:p0.block≠O.block) (cD:p0.block≠U.block) (cF:p0.block≠V.block) (cG:p0.block≠Y.block) (cT:p0.block≠Z.block) (cX:p0.block≠a5.block) (dC:p0.block≠a6.block) (dE:p0.block≠a7.block) (bY:NotInt u1) (hV:B<=H.block) (dY:H.block≠O.block) (eP:H.block≠U.block) (gA:H.block≠V.block) (gF:H.block≠Y.block) (gL:H.block≠Z.block) (gN:H.block≠a5.block) (gP:H.block≠a6.block) (gS:H.block≠a7.block) (cA:NotInt u2) (hW:B<=I.block) (gU:I.block≠O.block) (hB:I.block≠U.block) (hD:I.block≠V.block) (hE:I.block≠Y.block) (hG:I.block≠Z.block) (hI:I.block≠a5.block) (hJ:I.block≠a6.block) (hL:I.block≠a7.block) (cB:NotInt u3) (hX:B<=J.block) (hM:J.block≠O.block) (hN:J.block≠U.block) (hO:J.block≠V.block) (hP:J.block≠Y.block) (hQ:J.block≠Z.block) (hR:J.block≠a5.block) (hS:J.block≠a6.block) (hT:J.block≠a7.block):Tl B w0 ((((w.setCell p0 u0).setCell H u1).setCell I u2).setCell J u3) O U V Y Z a5 a6 a7 b0 b1 b2 b3 v0 v1 v2 v3 v4 v5 v6 v7:=(SS.put (B:=B) (w0:=w0) (l:=[(O,v0),(U,v1),(V,v2),(Y,v3),(Z,v4),(a5,v5),(a6,v6),(a7,v7)]) (m:=[b0,b1,b2,b3]) (SS.put (B:=B) (w0:=w0) (l:=[(O,v0),(U,v1),(V,v2),(Y,v3),(Z,v4),(a5,v5),(a6,v6),(a7,v7)]) (m:=[b0,b1,b2,b3]) (SS.put (B:=B) (w0:=w0) (l:=[(O,v0),(U,v1),(V,v2),(Y,v3),(Z,v4),(a5,v5),(a6,v6),(a7,v7)]) (m:=[b0,b1,b2,b3]) (SS.put (B:=B) (w0:=w0) (l:=[(O,v0),(U,v1),(V,v2),(Y,v3),(Z,v4),(a5,v5),(a6,v6),(a7,v7)]) (m:=[b0,b1,b2,b3]) h p0 u0 bE hU (by simp[*])) H u1 bY hV (by simp[*])) I u2 cA hW (by simp[*])) J u3 cB hX (by simp[*]))
theorem Zr.letters {w:World} {s:Bool} {p:Option Addr} {n c:Nat} {z:Int} (h:Zr w s p n c z) (Z:n<=35184372088830):
  ∃k,k<=n/\nd z.natAbs=k/\Hd (sg s z.natAbs=z/\Nm w p c z.natAbs/\(∀H,Below w.heap.size w H->Calls prog 129 #[.slice p n c] H λe w'=>e=.returned (.slice p k c)/\w'=H)):=by
 obtain⟨a,J,O⟩:=h;have I:z.natAbs=vf a n:=by rw[<-O,Nw]
 refine⟨nd z.natAbs,?_,rfl,?_,?_,?_⟩
 ·rw[I];exact Be.2 (Ds J.lt)
 ·rw[I];exact O
 ·rw[I];exact J.trim
 ·intro H Y
  refine(Dj p c n a H (J.keep Y) (by omega)).mono ?_;rintro e w' ⟨⟨U,_⟩,V⟩;exact⟨by rw[I];exact U,V⟩
theorem Eh (H:Bool) (p:Option Addr) (c n u:Nat) (w:World) (h:Nm w p c u) (O:nd u=n) (J:n<=70368744177664):
  Calls prog 131 #[.bool H,.slice p n c] w λe w'=>K8 w' e (sg H u)/\Below w.heap.size w w':=by
 subst O;have I:=Bx H p c (nd u) (dg u) w h J;rw[Bp]at I;exact I
theorem Au {w w':World} {a:Addr} {v:Value} (H:Below w.heap.size w w') (h:w.cell? a=some v):w'.cell? a=some v:=(H.cell (p:=a) (World.block_lt_of_cell? w a h)).trans h
section
variable {P:Program} {md:Region.Mode} {ops:Array Oper} {Q:Exit->Act->World->Prop} {S:World->Prop}
def L0 (ops:Array Oper) (listed:Array Bool):Bool:=(List.range ops.size).all λk=>listed.getD k true
def Tf (md:Region.Mode) (ops:Array Oper) (listed:Array Bool) (i:Nat):Bool:=
 (List.range ops.size).any λk=>k != i && !(listed.getD k true)&&match ops[k]? with
  | some o=>o.after.any λe=>Region.binds md e&&e.on==i
  | none=>false
theorem Xk {H:Array Bool} {k:Nat} (J:k<ops.size) (h:H.getD k true=false):L0 ops H=false:=by
 cases e:L0 ops H with
 | false=>rfl
 | true=>
  rw[L0,List.all_eq_true]at e;have I:=e k (List.mem_range.2 J);rw[h]at I;cases I
def wpE (P:Program) (md:Region.Mode) (ops:Array Oper) (Q:Exit->Act->World->Prop) (S:World->Prop):Nat->Array Bool->Act->World->Prop
 | 0,listed,a,w=>Region.ready md ops listed=[]/\Q .normal a w
 | n+1,listed,a,w=>(Region.ready md ops listed=[]->Q .normal a w) /\
  ∀i∈Region.ready md ops listed,wpOp P ops Q i (λa' w'=>(L0 ops (listed.setIfInBounds i true)=false->S w')/\wpE P md ops Q S n (listed.setIfInBounds i true) a' w') a w
theorem wpE.any:∀(n:Nat) (H:Array Bool) (a:Act) (w:World),wpE P md ops Q S n H a w->wpAny P md ops Q n H a w
 | 0,_,_,_,h=>h
 | n+1,_,_,_,h=>⟨h.1,λi O=>wpOp_mono (λI w' J=>wpE.any n _ I w' J.2) (h.2 i O)⟩
theorem wpE.first {i k:Nat} {oi ok:Oper} {v:Value} (hi:ops[i]?=some oi) (hk:ops[k]?=some ok) (cG:k≠i) (hw:∃e∈ok.after,Region.binds md e=true/\e.on=i)
  (Y:∀(j:Nat) (o:Oper) cs b,ops[j]?=some o->o.op≠.select cs b) (hQ:∀c a w,Q (.panic c) (a.put oi.dst v) w->Q (.panic c) a w):
  ∀(n:Nat) (I:Array Bool) (a:Act) (w:World),
   (∀j Z,ops[j]?=some Z->j≠i->I.getD j true=false->(∀e∈Z.after,Region.binds md e=true->e.on≠i)->oi.apart ops Z=true) ->
   I.getD k true=false->i∈Region.ready md ops I->YieldsIf P ops S oi v a->S w ->
   wpE P md ops Q S n (I.setIfInBounds i true) (a.put oi.dst v) w->wpE P md ops Q S (n+1) I a w:=by
 intro n;induction n with
 | zero=>
  intro I a w _ _ hr hy hS H;refine⟨(λh=>by rw[h]at hr;cases hr),λj hj=>?_⟩;by_cases hji:j=i
  ·subst hji;exact hy.wpOp hi hS ⟨λ_=>hS,H⟩
  ·have h1:=ready_mono hj hji
   rw[H.1]at h1;cases h1
 | succ n ih=>
  intro I a w J aU hr hy hS H;refine⟨(λh=>by rw[h]at hr;cases hr),λj hj=>?_⟩;by_cases hji:j=i
  ·subst hji;exact hy.wpOp hi hS ⟨λ_=>hS,H⟩
  have h1:=H.2 j (ready_mono hj hji);obtain⟨aT,Z,U,aL⟩:=mem_ready.1 hj
  have cD:I.getD i false=false:=by
   have h0:=(mem_ready.1 hr).1;rcases Nat.lt_or_ge i I.size with O|O
   ·simp[O]at h0 ⊢;exact h0
   ·simp[Array.getElem?_eq_none O]
  have bA:∀e∈Z.after,Region.binds md e=true->e.on≠i:=λe he hb O=>by
   have V:=aL e he hb;rw[O,cD]at V;cases V
  have aN:j≠k:=λO=>by
   subst O;rw[U]at hk;cases hk;obtain⟨e,he,hb,V⟩:=hw;exact bA e he hb V
  have cT:∀l:Array Bool,l.getD k true=false->L0 ops l=false:=λl hl=>Xk (Array.getElem?_eq_some_iff.1 hk).1 hl
  have aX:(I.setIfInBounds j true).getD k true=false:=by rw[getD_set_ne true aN];exact aU
  have O:=wpOp_putIf U (J j Z U hji aT bA) (λcs b=>Y i oi cs b hi) (λcs b=>Y j Z cs b U) hQ hy h1;refine wpOp_mono (λa' w' V=>?_) O;have aK:S w':=V.2.1 (cT _ (by rw[getD_set_ne true aN,getD_set_ne true cG.symm];exact aU));refine⟨λ_=>aK,ih _ a' w' (λq oq hq cX bB dC=>J q oq hq cX ?_ dC) aX (ready_mono hr (Ne.symm hji)) V.1 aK ?_⟩
  ·by_cases hjq:j=q
   ·subst hjq;exact aT
   ·rw[getD_set_ne true hjq]at bB;exact bB
  ·rw[Array.setIfInBounds_comm _ _ hji]
   exact V.2.2
theorem K0 {H:Array Bool} {i:Nat} (h:Tf md ops H i=true):∃k I,ops[k]?=some I/\k≠i/\H.getD k true=false/\∃e∈I.after,Region.binds md e=true/\e.on=i:=by
 rw[Tf,List.any_eq_true]at h;obtain⟨k,_,h⟩:=h;cases hk:ops[k]? with
 | none=>rw[hk]at h;simp at h
 | some o=>
  rw[hk]at h;simp only[Bool.and_eq_true,bne_iff_ne,ne_eq,Bool.not_eq_true',beq_iff_eq,Array.any_eq_true']at h;obtain⟨⟨J,O⟩,e,U,V,Y⟩:=h;exact⟨k,o,hk,J,O,e,U,V,Y⟩
theorem kS {id:Nat} {a:Act} {w:World} (S:World->Prop) (H:S w.drew) (h:S w.drew->wpE P .any ops Q S ops.size (Array.replicate ops.size false) a w.drew) (I:P.follows .mixedOrders=true:=by kernel_rfl):(Code.region id ops true).wp P Q a w:=
 wp_region_any I (wpE.any _ _ _ _ (h H))
theorem K6 {id:Nat} {a:Act} {w:World} (S:World->Prop) (H:∀W,Below w.heap.size w W->S W) (h:Hd (∀W,Below w.heap.size w W->S W)->S w.drew->wpE P .any ops Q S ops.size (Array.replicate ops.size false) a w.drew) (I:P.follows .mixedOrders=true:=by kernel_rfl):(Code.region id ops true).wp P Q a w:=
 kS S (H _ (Below.refl _ w).drew) (h (Hd.mk H)) I
theorem Al (i:Nat) {I:Oper} {v:Value} {n d:Nat} {H:Array Bool} {a O:Act} {w:World} (h:wpE P md ops Q S n (H.setIfInBounds i true) O w)
  (U:ops[i]?=some I:=by rfl) (hS:S w:=by assumption) (hw:Region.wanted I (yielded ops a.tmps)=true:=by rfl)
  (hy:∀w,S w->(execOp a.eval I).run P w=.ok (.value v) w:=by intro w J;(try dsimp only at J);go_simp;(try with_reducible rfl))
  (hd:I.dst=some d:=by rfl) (ha:a.put (some d) v=O:=by(try simp only[Act.put,List.setIfInBounds_toArray,List.set_cons_zero,List.set_cons_succ]);rfl)
  (hs:Region.noSelect ops=true:=by kernel_rfl) (hf:Region.free md ops H i=true:=by kernel_rfl) (hr:(Region.ready md ops H).contains i=true:=by kernel_rfl) (hk:Tf md ops H i=true:=by kernel_rfl)
  (hQ:∀c a w,Q (.panic c) (a.put I.dst v) w->Q (.panic c) a w:=by exact λ_ _ _ h=>h):wpE P md ops Q S (n+1) H a w:=by
 subst ha;rw[<-hd]at h;obtain⟨k,ok,V,Y,Z,h4⟩:=K0 hk;exact wpE.first U V Y h4 (Region.noSelect_spec hs) hQ n H a w (Region.free_spec U hf) Z (by simpa using hr) (.inl ⟨hw,hy⟩) hS h
theorem F9 (i:Nat) {o:Oper} {n:Nat} {H:Array Bool} {a:Act} {w:World}
  (V:ops[i]?=some o) (h:∀I:Act->World->Prop,Shut (∀a w,S w->(S w->wpE P md ops Q S n (H.setIfInBounds i true) a w)->I a w)->if Region.wanted o (yielded ops a.tmps)=true then Oper.wp P o a w I Q else I (a.put o.dst undef) w)
  (hr:Region.ready md ops H=[i]:=by kernel_rfl):wpE P md ops Q S (n+1) H a w:=by
 refine⟨(λe=>by rw[hr]at e;cases e),λj O=>?_⟩;rw[hr,List.mem_singleton]at O;subst O;refine wpOp_step V λI hK=>?_
 exact h I λa w J U=>hK a w ⟨λ_=>J,U J⟩
theorem K5 (i:Nat) {o:Oper} {n:Nat} {H:Array Bool} {a:Act} {w:World}
  (V:ops[i]?=some o) (h:∀I:Act->World->Prop,Shut (∀a w,Q .normal a w->I a w)->if Region.wanted o (yielded ops a.tmps)=true then Oper.wp P o a w I Q else I (a.put o.dst undef) w)
  (hr:Region.ready md ops H=[i]:=by kernel_rfl)
  (O:Region.ready md ops (H.setIfInBounds i true)=[]:=by kernel_rfl) (U:L0 ops (H.setIfInBounds i true)=true:=by kernel_rfl):wpE P md ops Q S (n+1) H a w:=by
 refine⟨(λe=>by rw[hr]at e;cases e),λj J=>?_⟩;rw[hr,List.mem_singleton]at J;subst J;refine wpOp_step V λI hK=>?_
 refine h I λa w hq=>hK a w ⟨(λe=>by rw[U]at e;cases e),?_⟩
 cases n with
 | zero=>exact⟨O,hq⟩
 | succ n=>exact⟨λ_=>hq,λj J=>by rw[O]at J;cases J⟩
theorem Zb (J:List Nat) {n:Nat} {H:Array Bool} {a:Act} {w:World} (h:AllReadyH P md ops Q S n H a w J) (hr:Region.ready md ops H=J:=by kernel_rfl) (I:J≠[]:=by simp):wpAnyH P md ops Q S (n+1) H a w:=wpAnyH_ready hr I h
theorem K7 (i:Nat) {I:Oper} {v:Value} {n:Nat} {H:Array Bool} {a O:Act} {w:World} (h:wpAnyH P md ops Q S n (H.setIfInBounds i true) O w)
  (hi:ops[i]?=some I:=by rfl) (V:S w:=by assumption) (hw:Region.wanted I (yielded ops a.tmps)=true:=by rfl)
  (hy:∀w,S w->(execOp a.eval I).run P w=.ok (.value v) w:=by intro w J;(try dsimp only at J);go_simp;(try with_reducible rfl))
  (Y:a.put I.dst v=O:=by(try simp only[Act.put,List.setIfInBounds_toArray,List.set_cons_zero,List.set_cons_succ]);rfl)
  (hs:Region.noSelect ops=true:=by kernel_rfl) (Z:Region.free md ops H i=true:=by kernel_rfl) (hr:(Region.ready md ops H).contains i=true:=by kernel_rfl)
  (U:∀c a w,Q (.panic c) (a.put I.dst v) w->Q (.panic c) a w:=by exact λ_ _ _ h=>h):wpAnyH P md ops Q S (n+1) H a w:=by
 subst Y;exact wpAnyH_take hi hs Z hr U (.inl ⟨hw,hy⟩) V h
end
theorem Br {H:Type _} (l:List H) (i:Nat) (v:H):l.toArray.setIfInBounds i v=(l.set i v).toArray:=List.setIfInBounds_toArray ..
theorem Bt {H:Type _} (a v:H) (l:List H):(a :: l).set 0 v=v :: l:=List.set_cons_zero
theorem Bs {H:Type _} (a v:H) (l:List H) (n:Nat):(a :: l).set (n+1) v=a :: l.set n v:=List.set_cons_succ
end Go.Proofs.YtenlbhlllgppmaaGreatDoor
