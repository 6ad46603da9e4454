/- Contract of bigint's divide. -/
import Derived.Test.YtenlbhlllgppmaaGreatDoorB10
set_option linter.unusedSimpArgs false
set_option maxRecDepth 100000
set_option maxHeartbeats 8000000
namespace Go.Proofs.YtenlbhlllgppmaaGreatDoor
open Go.RowKit Tryz
theorem Dg.nm {w:World} {p:Option Addr} {c k t:Nat} {r:Nat->Nat} (h:Dg w p c k r) (J:vf r k=t) (I:nd t=k):Nm w p c t:=by
 unfold Nm;rw[I];exact h.congr (by rw[<-J];exact Xz h.lt)
theorem Nm.drewN {w:World} {p:Option Addr} {c v:Nat} (h:Nm w p c v) (n:Nat):Nm (w.drewN n) p c v:=h.keep (Aa (Below.refl _ _) n)
theorem Zh {w:World} {p:Option Addr} {c u v:Nat} (h:Nm w p c u) (I:u<v):Ja w (.returned (.tuple #[.slice none 0 0,.slice p (nd u) c])) (u / v) (u % v):=by
 rw[Nat.div_eq_of_lt I,Nat.mod_eq_of_lt I];exact⟨none,0,p,c,rfl,Nm.nil _,h⟩
def lO (w':World) (e:Ending) (v:Nat):Prop:=∃p n c,e=.returned (.slice p n c)/\nd v=n/\Nm w' p c v
theorem RetN.op {w':World} {e:Ending} {v:Nat} (h:RetN w' e v):lO w' e v:=by
 obtain⟨p,c,I,J⟩:=h;exact⟨p,_,c,I,rfl,J⟩
theorem Zg {w:World} {p p':Option Addr} {c I n J q r:Nat} (O:nd q=n) (U:nd r=J) (V:Nm w p c q) (Y:Nm w p' I r):Ja w (.returned (.tuple #[.slice p n c,.slice p' J I])) q r:=by
 subst O;subst U;exact⟨p,c,p',I,rfl,V,Y⟩
theorem Pa (p:Option Addr) (c u:Nat) (q:Option Addr) (d v:Nat) (w:World) (Y:Nm w p c u) (Z:Nm w q d v) (hu:nd u<=35184372088830) (hv:nd v<=35184372088830) (I:u<v):
  Calls prog 205 #[.slice p (nd u) c,.slice q (nd v) d] w λe w'=>Ja w' e (u / v) (u % v)/\Below w.heap.size w w':=by
 have O:=Ek p c u q d v w Y Z (by omega) (by omega);rw[Ku I]at O;replace O:=Kh O;have U:=Kh (λk=>St p c (nd u) (dg u) (w.drewN k) (Y.drewN k) hu);have V:=Kh I;clear Y Z I;go_enter func205,ntmps205
 go_wp2_with (go_at_call 167;refine O.1.mono ?_;rintro e w' ⟨rfl,k,rfl⟩)
 refine(U.1 k).mono ?_;rintro e w1 ⟨⟨p1,c1,r1,rfl,hd,hv1⟩,h⟩;have hn:Ja w1 (.returned (.tuple #[.slice none 0 0,.slice p1 (nd u) c1])) (u / v) (u % v):=Zh (hd.nm (by rw[hv1,Bn]) rfl) V.1;have J:Below w.heap.size w w1:=(Aa (Below.refl _ _) k).trans h;have HN:=Kh hn;have HB:=Kh J;clear hd hv1 h hn J;go_wp2;go_ret2
 exact⟨HN.1,HB.1⟩
theorem N0 {u v:Nat} (h:v<=u):∃s:Nat,Int.sign ((u:Int) - v)=s:=by
 rcases Nat.lt_or_ge v u with I|I
 ·exact⟨1,N1 I⟩
 ·obtain rfl:u=v:=by omega
  exact⟨0,by simp⟩
theorem Jo (p:Option Addr) (c u:Nat) (w:World) (h:Nm w p c u) (hn:nd u<=2):
  Calls prog 204 #[.slice p (nd u) c] w λe w'=>e=.returned (.int .u64 (u:Nat))/\∃k,w'=w.drewN k:=by
 have:=gK p c (nd u) (dg u) w h hn;rw[Bn]at this;exact this
theorem D0 {u:Nat} (h:nd u<=2):u<18446744073709551616:=by
 have:=Bj.1 h;omega
theorem Rm (p:Option Addr) (c u:Nat) (q:Option Addr) (d v:Nat) (w:World) (h1:Nm w p c u) (h2:Nm w q d v) (hu:nd u<=2) (hv:0<v) (bB:v<=u):
  Calls prog 205 #[.slice p (nd u) c,.slice q (nd v) d] w λe w'=>Ja w' e (u / v) (u % v)/\Below w.heap.size w w':=by
 have bC:nd v<=2:=nS (Bv bB) hu;obtain⟨s,hs⟩:=N0 bB;have hI:decide ((s:Int)<0)=false:=decide_eq_false (by omega);have HC:=Ek p c u q d v w h1 h2 (by omega) (by omega);rw[hs]at HC;replace HC:=Kh HC;have H1:=Kh (λ(w1:World) (hb:Below w.heap.size w w1)=>Jo p c u w1 (h1.keep hb) hu);have H2:=Kh (λ(w1:World) (hb:Below w.heap.size w w1)=>Jo q d v w1 (h2.keep hb) bC);have dC:=D0 hu;have dE:=D0 bC;obtain⟨Q,hQ⟩:∃Q,u / v=Q:=⟨_,rfl⟩
 obtain⟨R,hR⟩:∃R,u % v=R:=⟨_,rfl⟩
 have cG:Q<=u:=by rw[<-hQ];exact Nat.div_le_self _ _
 have cT:R<v:=by rw[<-hR];exact Nat.mod_lt _ hv
 have HQ:=Kh (λw=>(Iw Q w (by omega)).mono (λ_ _ h=>And.imp_left RetN.op h));have HR:=Kh (λw=>(Iw R w (by omega)).mono (λ_ _ h=>And.imp_left RetN.op h));have hE:Int.tdiv (u:Int) (v:Int)=(Q:Nat):=by rw[Int.tdiv_eq_ediv_of_nonneg (by omega),<-hQ];exact(Int.natCast_ediv _ _).symm
 have hH:Int.tmod (u:Int) (v:Int)=(R:Nat):=by rw[Int.tmod_eq_emod_of_nonneg (by omega),<-hR];exact(Int.natCast_emod _ _).symm
 have gF:(u:Int) / (v:Int)=(Q:Nat):=by rw[<-hQ];exact(Int.natCast_ediv _ _).symm
 have gL:(u:Int) % (v:Int)=(R:Nat):=by rw[<-hR];exact(Int.natCast_emod _ _).symm
 have hG:IntKind.u64.wrap (Q:Int)=Q:=by rw[IntKind.wrap_u64];omega
 have hL:((v:Int)==0)=false:=beq_eq_false_iff_ne.2 (by omega);have hv1:(v:Int)≠0:=by omega
 have hv2:v≠0:=by omega
 rw[hQ,hR];have O:(nd u:Int)<=2:=by omega
 clear h1 h2 bB dC dE hs hQ hR cG cT hu bC;generalize nd u=n at *;generalize nd v=m at *;go_enter func205,ntmps205
 go_wp2_with fail
 refine HC.1.mono ?_;rintro e w1 ⟨rfl,hq⟩;have B1:=Bm hq;have U:=Kh B1;clear hq B1;go_wp2_with fail
 refine(H1.1 _ U.1).mono ?_;rintro e w2 ⟨rfl,hq⟩;have B2:=U.1.trans ((Bm hq).mono U.1.size);have V:=Kh B2;clear hq B2;go_wp2_with fail
 refine(H2.1 _ V.1).mono ?_;rintro e w3 ⟨rfl,hq⟩;have B3:=V.1.trans ((Bm hq).mono V.1.size);have Y:=Kh B3;clear hq B3;go_upto_region 5 with(fail)
 have M1:True:=trivial;go_region_held3 (λ_=>True) (exact trivial) (first |(go_at_call 132;clear M1;refine(HQ.1 _).mono ?_;rintro e w4 ⟨⟨p1,n1,c1,rfl,bA,Z⟩,I⟩;replace bA:=Kh bA;replace Z:=Kh Z;replace I:=Kh I) |(go_at_call 132;refine(HR.1 _).mono ?_;rintro e w5 ⟨⟨p2,n2,c2,rfl,O,aX⟩,J⟩;replace O:=Kh O;replace aX:=Kh aX;replace J:=Kh J))
 go_wp2;go_ret2
 exact⟨Zg bA.1 O.1 (Z.1.keep J.1) aX.1,((Aa Y.1 1).trans (I.1.mono Y.1.size)).trans (J.1.mono (nS Y.1.size I.1.size))⟩
theorem Vl {v:Nat} (h:nd v=1):dg v 0=v/\v<4294967296/\v≠0:=by
 have O:=(Bj (v:=v) (k:=1)).1 (by omega);have J:=Bz.1 (show 0<nd v by omega);have I:=Bn v;rw[h,vf,vf]at I;refine⟨by simpa using I,by omega,J⟩
theorem O9 (p:Option Addr) (c u:Nat) (q:Option Addr) (d v:Nat) (w:World) (h1:Nm w p c u) (h2:Nm w q d v) (hu:2<nd u) (bY:nd u<=35184372088830) (hv:nd v=1) (cA:v<=u):
  Calls prog 205 #[.slice p (nd u) c,.slice q (nd v) d] w λe w'=>Ja w' e (u / v) (u % v)/\Below w.heap.size w w':=by
 obtain⟨hv1,hv2,gN⟩:=Vl hv;obtain⟨s,hs⟩:=N0 cA;have hN:decide ((s:Int)<0)=false:=decide_eq_false (by omega);have V:=Ek p c u q d v w h1 h2 (by omega) (by omega);rw[hs]at V;replace V:=Kh V;have HS:=Kh (λ(U:World) (hb:Below w.heap.size w U)=>cS p c (nd u) (dg u) v U (Dg.keep h1 hb) (by omega) (by omega) (by omega));rw[Bn]at HS;obtain⟨g,o,rfl,hg,I⟩:=h2.head (by omega)
 have bA:∀U,Below w.heap.size w U->U.cell? ⟨g,o,none⟩=some (.int .u32 (v:Nat)):=λU hb=>by
  have:=(hb.cell (p:=⟨g,o,none⟩) hg).trans (I 0 (by omega));rw[hv1]at this;exact this
 have Z:=Kh bA;obtain⟨Q,hQ⟩:∃Q,u / v=Q:=⟨_,rfl⟩
 obtain⟨R,hR⟩:∃R,u % v=R:=⟨_,rfl⟩
 have gA:R<v:=by rw[<-hR];exact Nat.mod_lt _ (by omega)
 have HW:=Kh (λw=>(Iw R w (by omega)).mono (λ_ _ h=>And.imp_left RetN.op h));rw[hQ,hR]at HS;rw[hQ,hR,hv];rw[hv]at V;have hM:(2:Int)<(nd u:Int):=by omega
 have hD:decide ((nd u:Int)<=2)=false:=decide_eq_false (by omega);have dC:=Kh bY;have cT:=Kh (show(R:Int)<4294967296 by omega);clear h1 h2 cA hs hQ hR gA hu I bA hv hv1 hv2 gN bY;generalize nd u=n at *;go_enter func205,ntmps205
 go_wp2_with fail
 refine V.1.mono ?_;rintro e U ⟨rfl,hq⟩;have B1:=Bm hq;have J:=Kh B1;have c0:=Z.1 _ B1;clear hq B1 V Z;go_wp2_with fail
 refine(HS.1 _ J.1).mono ?_;rintro e w2 ⟨⟨p2,c2,r2,rfl,bB,hv2⟩,aX⟩;have HT:=Kh (Dy p2 c2 n r2 w2 bB (by have:=dC.1;omega));rw[hv2]at HT;have B2:=J.1.trans (aX.mono J.1.size);have Y:=Kh B2;clear aX B2 bB hv2 HS c0;go_wp2_with fail
 refine HT.1.mono ?_;rintro e w3 ⟨⟨rfl,hm⟩,rfl⟩;obtain⟨k,hk⟩:∃k,nd Q=k:=⟨_,rfl⟩
 rw[hk];have HM:=Kh hm;have HK:=Kh hk;have hL:=cT.1;clear HT hm hk;go_wp2_with fail
 refine(HW.1 _).mono ?_;rintro e w4 ⟨⟨p4,n4,c4,rfl,bE,bC⟩,O⟩;have hf:=Zg HK.1 bE (HM.1.keep O) bC;have B4:=Y.1.trans (O.mono Y.1.size);have HF:=Kh hf;have cG:=Kh B4;clear hf B4 O bE bC;go_wp2;go_ret2
 exact⟨HF.1,cG.1⟩
theorem kQ {v:Nat} (V:v≠0):∃t S,dg v (nd v - 1)=t/\t<4294967296/\S<32/\(32 - (Lib.bitLen t:Int))=(S:Nat)/\nd (v*2 ^ S)=nd v/\2147483648<=dg (v*2 ^ S) (nd v - 1)/\v*2 ^ S<4294967296 ^ (nd v)/\4294967296 ^ (nd v - 1)*2147483648<=v*2 ^ S:=by
 obtain⟨m,hm⟩:∃m,nd v=m+1:=⟨nd v - 1,by have:=Bz.2 V;omega⟩
 have O:=Bj.1 (nR (nd v))
 have U:dg v (nd v - 1)=v / 4294967296 ^ (nd v - 1):=by
  unfold dg;rw[hm]at O ⊢;simp only[Nat.add_sub_cancel];rw[Nat.mod_eq_of_lt];rw[Nat.div_lt_iff_lt_mul (Dig.pow_pos m),<-Aw];exact O
 obtain⟨t,I⟩:∃t,v / 4294967296 ^ (nd v - 1)=t:=⟨_,rfl⟩
 have J:t<4294967296:=by rw[<-I,<-U];exact dg_lt _ _
 have hl:Lib.bitLen t<=32:=Lib.bitLen_le t 32 (by omega) (by omega);obtain⟨Y,a2,Z,h,a5,a6⟩:=Yy (s:=32 - Lib.bitLen t) V I (by omega);exact⟨t,32 - Lib.bitLen t,U.trans I,J,Y,by omega,Z,h,a5,a6⟩
theorem Ve {n m M S u v:Nat} {I:Nat->Nat} (hr:∀i,i<n+1->I i<4294967296) (Z:vf I (n+1)=u*2 ^ S) (Y:u<4294967296 ^ n) (h:M+m=n+1) (hm:0<m) (V:S<32) (hV:4294967296 ^ (m - 1)*2147483648<=v*2 ^ S):vf (shf I M) m<v*2 ^ S:=by
 have J:=aN hr (i:=M) (by omega);rw[show n+1 - M=m from by omega,Z]at J;rw[<-J];have O:=Fs V;refine nT ?_ hV;rw[Nat.div_lt_iff_lt_mul (Dig.pow_pos M)]
 have U:4294967296 ^ (m - 1)*2147483648*4294967296 ^ M=4294967296 ^ n*2147483648:=by
  rw[show n=(m - 1)+M from by omega,Nat.pow_add];simp only[Nat.mul_comm,Nat.mul_left_comm]
 rw[U];exact nT (Nat.mul_lt_mul_of_pos_right Y (Nat.two_pow_pos S)) (Nat.mul_le_mul_left _ O)
theorem Rl (p:Option Addr) (c u:Nat) (q:Option Addr) (d v:Nat) (w:World) (h1:Nm w p c u) (h2:Nm w q d v) (hu:2<nd u) (pD:nd u<=35184372088830) (hv:1<nd v) (nB:v<=u):
  Calls prog 205 #[.slice p (nd u) c,.slice q (nd v) d] w λe w'=>Ja w' e (u / v) (u % v)/\Below w.heap.size w w':=by
 have pF:v≠0:=Bz.1 (by omega);have qG:=Bv nB;obtain⟨s,hs⟩:=N0 nB;have rO:decide ((s:Int)<0)=false:=decide_eq_false (by omega);have HC:=Ek p c u q d v w h1 h2 (by omega) (by omega);rw[hs]at HC;replace HC:=Kh HC;obtain⟨t,S,ht,qF,hS,oS,bC,cC,iL,hZ⟩:=kQ pF;obtain⟨g,o,rfl,hg,bA⟩:=h2.head (by omega)
 have oU:∀w1,Below w.heap.size w w1->w1.cell? ⟨g,o+(nd v - 1),none⟩=some (.int .u32 (t:Nat)):=λw1 hb=>by
  have:=(hb.cell (p:=⟨g,o+(nd v - 1),none⟩) hg).trans (bA (nd v - 1) (by omega));rw[ht]at this;exact this
 have oD:=Kh oU;have hP:=Kh (λw=>fT (t:Int) w (by omega) (by omega));rw[Int.toNat_natCast,oS]at hP;have H1:=Kh (λ(w1:World) (hb:Below w.heap.size w w1)=>Mm p c (nd u) (dg u) S w1 (Dg.keep h1 hb) (by omega) (by omega));have H2:=Kh (λ(w1:World) (hb:Below w.heap.size w w1)=>Mm (some ⟨g,o,none⟩) d (nd v) (dg v) S w1 (Dg.keep h2 hb) (by omega) (by omega));rw[Bn]at H1 H2;have pE:u<4294967296 ^ nd u:=Bj.1 (nR _);have rF:(S:Int)<32:=by omega
 have gP:(2:Int)<(nd u:Int):=by omega
 have qS:decide ((nd u:Int)<=2)=false:=decide_eq_false (by omega);have rL:(1:Int)<(nd v:Int):=by omega
 have qQ:((nd v:Int)==1)=false:=beq_eq_false_iff_ne.2 (by omega);have e1:((nd v:Int) - 1).toNat=nd v - 1:=by omega
 obtain⟨V,hV⟩:∃V,v*2 ^ S=V:=⟨_,rfl⟩
 rw[hV]at H2 bC cC iL hZ;have dC:=Kh hV;have hW:=Kh (show 0<V by rw[<-hV];exact Nat.mul_pos (by omega) (Nat.two_pow_pos S));obtain⟨M,hM⟩:∃M,M+nd v=nd u+1:=⟨nd u+1 - nd v,by omega⟩
 have rD:(nd u:Int)+1 - (nd v:Int)=(M:Nat):=by omega
 have HM:=Kh hM;have oK:=Kh cC;have hT:=Kh iL;have pX:=Kh hZ;have pW:=Kh pE;have oG:=Kh bC;have pV:=Kh pD;have rM:nd v<=35184372088830:=by omega
 have rN:nd u<=35184372088830:=by omega
 have rE:M<=35184372088830:=by omega
 have pU:=Kh hS;have rA:=Kh (show 0<v by omega);obtain⟨Q,hQ⟩:∃Q,u / v=Q:=⟨_,rfl⟩
 obtain⟨R,hR⟩:∃R,u % v=R:=⟨_,rfl⟩
 have HQ:=Kh hQ;have HR:=Kh hR;rw[hQ,hR];clear hV h1 h2 hu pD hv nB pF qG hs ht oU qF hS oS bC cC iL hZ bA pE hM hQ hR;generalize nd u=n at *;generalize nd v=m at *;go_enter func205,ntmps205
 go_wp2_with fail
 refine HC.1.mono ?_;rintro e w1 ⟨rfl,hq⟩;have B1:=Bm hq;have h:=Kh B1;have c0:=oD.1 _ B1;clear hq B1 HC oD;go_wp2_with fail
 refine(hP.1 _).mono ?_;rintro e w2 ⟨rfl,rfl⟩;clear c0 hP;go_wp2_with fail
 refine(H1.1 _ h.1).mono ?_;rintro e w3 ⟨⟨gu,cu,r0,rfl,rG,oY,hI,J⟩,oT⟩;have B3:=h.1.trans (oT.mono h.1.size);have cG:=Kh B3;have Z:=Kh hI;have hB:=Kh J;have pR:=Kh (nS h.1.size oY);clear H1 h B3 oT hI J oY;go_wp2_with fail
 refine(H2.1 _ cG.1).mono ?_;rintro e w4 ⟨⟨gv,cv,rv,rfl,oV,qD,bE,cD⟩,mA⟩;have B4:=cG.1.trans (mA.mono cG.1.size);have HT:=Dy (some ⟨gv,0,none⟩) cv (m+1) rv w4 (bE.dg cv oV) (by have:=pV.1;have:=HM.1;omega);rw[cD,oG.1]at HT;have HT:=Kh HT;have pA:gv≠gu:=by have:=Z.1.1.lt;omega
 have I:=Kh (Z.1.below mA Z.1.1.lt);have hN:=Kh B4;clear H2 cG B4 mA bE cD qD oV Z;go_wp2_with fail
 refine HT.1.mono ?_;rintro e w5 ⟨⟨rfl,gN⟩,rfl⟩
 have mB:Dg w5 (some ⟨gv,0,none⟩) cv m (dg V):=by
  unfold Nm at gN;rw[oG.1]at gN;exact gN
 have qE:∀w,(Instr.makeSlice 82 (.int .i64 (M:Int)) (.int .i64 (M:Int))).run prog w=.ok (.slice (some ⟨w.heap.size,0,none⟩) M M) (w.alloc (.cells (madeCells #[.int .u32 0] M) 200)):=F7 M (by omega)
 obtain⟨w6,gU⟩:∃w6,w5.alloc (.cells (madeCells #[.int .u32 0] M) 200)=w6:=⟨_,rfl⟩
 obtain⟨U,gF⟩:∃U,w5.heap.size=U:=⟨_,rfl⟩
 have gA:Below w5.heap.size w5 w6:=by rw[<-gU];exact(Below.refl _ _).alloc (nR _) _
 have O:=Row.made w5 M;rw[gU,gF]at O
 have hG:gv<w5.heap.size:=by
  obtain⟨g',o',e',rI,_⟩:=mB.head (by omega);injection e' with e';injection e' with e1 e2;omega
 have hH:U≠gu:=by have:=I.1.1.lt;omega
 have pB:gv≠U:=by omega
 have oX:w.heap.size<=U:=by rw[<-gF];exact hN.1.size
 have mE:∀i,i<n+1->r0 i<4294967296:=I.1.2
 have cB:Ip w6 gu U m M M r0 V:=R0 (by rw[HM.1];exact I.1.below gA I.1.1.lt) O (by rw[<-dC.1];exact Ve mE hB.1 pW.1 HM.1 (by omega) pU.1 (by rw[dC.1];exact pX.1));have oI:=Kh cB;have oE:=Kh (mB.below gA hG);have oB:=bt hN gA;have oH:=Kh mE;clear cB mB gN HT O mE hG;go_wp2;try rw[gF,gU]
 clear gU gF gA I hN qE;go_loopw [14] (λnW wr=>∃k:Nat,k<=M/\nW=.int .i64 ((k:Int) - 1)/\Ip wr gu U m M k r0 V/\Dg wr (some ⟨gv,0,none⟩) cv m (dg V)/\Below w.heap.size w wr) (λnW _=>(intOf nW+1).toNat)
 case atStart=>exact⟨M,nR _,by go_num,oI.1,oE.1,oB.1⟩
 case round=>
  clear oI oE oB;obtain⟨k,hk,rfl,hl,hd,hb⟩:=hrel;have HL:=Kh hl;have HD:=Kh hd;have HB:=Kh hb;clear hl hd hb;by_cases hk0:k=0
  ·subst hk0
   obtain⟨r,q,cA,O,gS,Y⟩:=Yw HL.1;have hU:vf r0 (M+m)=u*2 ^ S:=by rw[HM.1];exact hB.1
   rw[hU,<-dC.1,Nat.mul_mod_mul_right]at gS;rw[hU,<-dC.1,Nat.mul_div_mul_right _ _ (Nat.two_pow_pos S),HQ.1]at Y;rw[HR.1]at gS;have aX:=Dy (some ⟨U,0,none⟩) M M q wr.drew ((O.dg M (nR _)).keep (Aa (Below.refl _ _) 1)) (by omega);have HU:=Pk (some ⟨gu,0,none⟩) cu m r S wr.drew (((cA.dg cu (by have:=HM.1;omega)).take (k:=m) (by omega)).keep (Aa (Below.refl _ _) 1)) (by omega) (by omega);rw[Y]at aX;rw[gS,Nat.mul_div_cancel _ (Nat.two_pow_pos S)]at HU;obtain⟨k1,mC⟩:∃k1,nd Q=k1:=⟨_,rfl⟩
   rw[mC]at aX;obtain⟨k2,oZ⟩:∃k2,nd R=k2:=⟨_,rfl⟩
   replace aX:=Kh aX;replace HU:=Kh HU;have pS:=Kh mC;have oF:=Kh oZ;have qR:(m:Int)<=(cu:Int):=by have:=HM.1;omega
   have M1:True:=trivial;clear cA O gS Y hU mC oZ HL HD;go_upto_region 17 with(fail)
   go_region_held3 (λ_=>True) (exact trivial) (first
    |(go_at_call 129;clear M1;refine aX.1.mono ?_;rintro e w' ⟨⟨rfl,mD⟩,rfl⟩;replace mD:=Kh mD)
    |(go_at_call 218;refine HU.1.mono ?_;rintro e w7 ⟨⟨p2,c2,r2,rfl,oW,hv2⟩,eP⟩;have cX:=Dy p2 c2 m r2 w7 oW (by omega);rw[hv2,oF.1]at cX;replace cX:=Kh cX;replace eP:=Kh eP;clear oW hv2)
    |(go_at_call 129;refine cX.1.mono ?_;rintro e w' ⟨⟨rfl,gP⟩,rfl⟩;replace gP:=Kh gP))
   go_wp2;go_ret2
   exact⟨Zg pS.1 oF.1 (mD.1.keep eP.1) gP.1,(Aa HB.1 1).trans (eP.1.mono HB.1.size)⟩
  ·obtain⟨j,rfl⟩:∃j,k=j+1:=⟨k - 1,by omega⟩
   have oM:(((j+1:Nat):Int) - 1)=(j:Int):=by omega
   rw[oM];obtain⟨r,q,cA,O,bB,J,Y⟩:=HL.1;obtain⟨X,hX⟩:∃X,vf (shf r0 (j+1)) (M+m - (j+1))=X:=⟨_,rfl⟩
   rw[hX]at J Y;obtain⟨nC,nD⟩:=P3 bB J hW.1;have DC:=bV gu j (M+m) m (cu - j) gv 0 cv r (dg V) wr cA (by omega) (by omega) HD.1 pA oK.1 (by rw[Lt hT.1];exact nD (oH.1 j (by have:=HM.1;omega))) (by omega);obtain⟨Qd,dY⟩:∃Qd,(r0 j+4294967296*(X % V)) / V=Qd:=⟨_,rfl⟩
   have oR:Qd<4294967296:=by
    rw[<-dY,<-nC,Nat.div_lt_iff_lt_mul hW.1,Nat.mul_comm];exact nD (oH.1 j (by have:=HM.1;omega))
   rw[Lt hT.1,nC,dY]at DC
   have cB:∀w',Only gu wr w'->Jj w' gu (M+m) j m r ((r0 j+4294967296*(X % V)) % V)->(∃y,w'.cell? ⟨U,j,none⟩=some y)/\w'.frozen? ⟨U,j,none⟩=false/\Ip (w'.setCell ⟨U,j,none⟩ (.int .u32 Qd)) gu U m M j r0 V/\Dg (w'.setCell ⟨U,j,none⟩ (.int .u32 Qd)) (some ⟨gv,0,none⟩) cv m (dg V)/\Below w.heap.size w (w'.setCell ⟨U,j,none⟩ (.int .u32 Qd)):=by
    intro w' hO ⟨r',pC,gL,nA⟩;have bY:=hO.row O hH;refine⟨⟨_,bY.1.cell (by omega)⟩,bY.1.frozen _,?_,?_,?_⟩
    ·exact Vf (by omega) hX bB pC gL nA bY Y hW.1 (Nat.le_of_lt hT.1) dY oR hH
    ·exact((Only.refl U w').set j _).dg (hO.dg HD.1 pA) pB
    ·exact(HB.1.trans (hO.below pR.1 HB.1.size)).setCell oX _
   have HN:=Kh cB;replace DC:=Kh DC;have rJ:decide ((0:Int)<=(j:Int))=true:=decide_eq_true (by omega);have rK:(j:Int)+m+1<=cu:=by have:=HM.1;omega
   have ej:j+m+1 - j=m+1:=by omega
   have oQ:(Qd:Int)<4294967296:=by omega
   have qY:=Kh oQ;clear oM hk0 cA O bB J Y hX nC nD dY oR cB HL HD oQ;go_wp2_with fail
   rw[ej];refine DC.1.mono ?_;rintro e w' ⟨rfl,hO,oP⟩;obtain⟨⟨y,hy⟩,rH,hL,oO,oN⟩:=HN.1 w' hO oP;have pT:=Kh hL;have pQ:=Kh oO;have pP:=Kh oN;clear hO oP hL oO oN DC HN ej;go_wp2;go_roundw
   case rel=>exact⟨j,by omega,by go_num,pT.1,pQ.1,pP.1⟩
   case measure=>simp[intOf]
theorem Pb (p:Option Addr) (c u:Nat) (q:Option Addr) (d v:Nat) (w:World) (I:Nm w p c u) (J:Nm w q d v) (U:nd u<=35184372088830) (Z:nd v<=35184372088830) (V:v≠0):
  Calls prog 205 #[.slice p (nd u) c,.slice q (nd v) d] w λe w'=>Ja w' e (u / v) (u % v)/\Below w.heap.size w w':=by
 rcases Nat.lt_or_ge u v with h|h
 ·exact Pa p c u q d v w I J U Z h
 ·rcases Nat.lt_or_ge 2 (nd u)with O|O
  ·have h4:=Bz.2 V
   rcases Nat.lt_or_ge 1 (nd v)with Y|Y
   ·exact Rl p c u q d v w I J O U Y h
   ·exact O9 p c u q d v w I J O U (by omega) h
  ·exact Rm p c u q d v w I J O (by omega) h
theorem Dg.trim {w:World} {p:Option Addr} {c n:Nat} {a:Nat->Nat} (h:Dg w p c n a):Nm w p c (vf a n):=by
 have I:nd (vf a n)<=n:=Bj.2 (Dq h.lt);exact(h.take I).congr λj J=>Xz h.lt j (by omega)
theorem Cg (I:Bool) (p:Option Addr) (c n:Nat) (a:Nat->Nat) (w:World) (h:Dg w p c n a) (hn:n<=70368744177664):
  Calls prog 131 #[.bool I,.slice p n c] w λe w'=>Gx w' e (sg I (vf a n))/\Below w.heap.size w w':=by
 have O:∀o,Below w.heap.size w (w.alloc o):=λo=>(Below.refl _ _).alloc (nR _) o
 have U:=Kh (λY (O:Below w.heap.size w Y)=>Dy p c n a Y (h.keep O) hn);have HN:=Kh h.trim;obtain⟨k,V⟩:∃k,nd (vf a n)=k:=⟨_,rfl⟩
 rw[V]at U;have Z:=Kh V;have J:=Kh O;clear h V O;go_enter func131,ntmps131
 go_wp2_with fail
 refine(U.1 _ (J.1 _)).mono ?_;rintro e Y ⟨⟨rfl,hm⟩,rfl⟩;clear U hm;cases I with
 | false=>
  go_wp2;go_returns
  exact⟨⟨_,p,k,c,rfl,Q5 (HN.1.keep (J.1 _)) Z.1 (by simp)⟩,J.1 _⟩
 | true=>
  go_wp2;go_returns
  exact⟨⟨_,p,k,c,rfl,Q5 (HN.1.keep (J.1 _)) Z.1 (by simp)⟩,J.1 _⟩
theorem Kt (p:Option Addr) (c u:Nat) (w:World) (h:Nm w p c u) (hn:nd u<=35184372088830):
  Calls prog 147 #[.slice p (nd u) c] w λe w'=>RetN w' e u/\Below w.heap.size w w':=by
 refine(St p c (nd u) (dg u) w h hn).mono ?_;rintro e w' ⟨⟨U,c1,V,rfl,J,O⟩,I⟩;exact⟨⟨U,c1,rfl,J.nm (by rw[O,Bn]) rfl⟩,I⟩
theorem W6 (p:Option Addr) (c u:Nat) (q:Option Addr) (d v:Nat) (w:World) (h1:Nm w p c u) (h2:Nm w q d v) (hu:nd u<=35184372088830) (hv:nd v<=35184372088830):
  Calls prog 169 #[.slice p (nd u) c,.slice q (nd v) d] w λe w'=>RetN w' e (Nat.gcd u v)/\Below w.heap.size w w':=by
 obtain⟨G,hG⟩:∃G,Nat.gcd u v=G:=⟨_,rfl⟩
 obtain⟨n,hn⟩:∃n,nd u=n:=⟨_,rfl⟩
 obtain⟨m,hm⟩:∃m,nd v=m:=⟨_,rfl⟩
 have HG:=Kh hG;have H1:=Kh h1;have H2:=Kh h2;have HN:=Kh hn;have HM:=Kh hm;rw[hn]at hu;rw[hm]at hv;rw[hG,hn,hm];clear h1 h2 hn hm hG;go_enter func169,ntmps169
 go_wp2;go_loopg [0,1] v (λb v0 v1 wr=>∃(a n m:Nat) (p q:Option Addr) (c d:Nat),v0=.slice p n c/\v1=.slice q m d/\nd a=n/\nd b=m/\n<=35184372088830/\m<=35184372088830/\Nm wr p c a/\Nm wr q d b/\Nat.gcd a b=G/\Below w.heap.size w wr)
 case atStart=>exact⟨u,n,m,p,q,c,d,rfl,rfl,HN.1,HM.1,hu,hv,H1.1,H2.1,HG.1,Below.refl _ _⟩
 case round=>
  clear H1 H2 HG HN HM hu hv n m c d p q u;obtain⟨a,n,m,p,q,c,d,rfl,rfl,hn,hm,hQ,hO,h1,h2,hG,hb⟩:=hrel;have HB:=Kh hb;have HG:=Kh hG;by_cases hm0:m=0
  ·subst hm0
   obtain rfl:gk=0:=by
    have:=Bz (v:=gk);omega
   have hC:=Kt p c a wr h1 (by omega);rw[hn]at hC;rw[Nat.gcd_zero_right]at hG;subst hG;replace hC:=Kh hC;clear h1 h2 hb HG hn hm;go_wp2_with fail
   refine hC.1.mono ?_;rintro e O ⟨hr,I⟩;obtain⟨p1,c1,rfl,gP⟩:=hr;obtain⟨k,hk⟩:∃k,nd a=k:=⟨_,rfl⟩
   rw[hk];have HK:=Kh hk;have hJ:=Kh gP;have U:=bt HB I;clear gP I hk hC;go_wp2;go_ret;exact⟨⟨p1,c1,by rw[HK.1];rfl,hJ.1⟩,U.1⟩
  ·have hN:0<m:=by omega
   by_cases hsm:n<=2/\m<=2
   ·have hx:=D0 (u:=a) (by omega)
    have hy:=D0 (u:=gk) (by omega);have Z:=Jo p c a wr h1 (by omega);have aX:=λO (I:Below wr.heap.size wr O)=>Jo q d gk O (h2.keep I) (by omega)
    rw[hn]at Z;rw[hm]at aX;have hP:n<=2:=hsm.1;have dC:m<=2:=hsm.2;have HX:=Kh hx;have HY:=Kh hy;replace Z:=Kh Z;replace aX:=Kh aX;clear h1 h2 hb hG hn hm hx hy hsm hQ hO hm0;go_wp2_with fail
    refine Z.1.mono ?_;rintro e O ⟨rfl,hq⟩;have I:=Bm hq;have U:=Kh I;clear hq I Z;go_wp2_with fail
    refine(aX.1 _ U.1).mono ?_;rintro e w2 ⟨rfl,hq⟩;have gF:=Kh ((HB.1.trans (U.1.mono HB.1.size)).trans ((Bm hq).mono (nS HB.1.size U.1.size)));clear hq aX U HB;go_wp2;go_loopw [5,6] (λv5 v6 wi=>∃x y:Nat,v5=.int .u64 x/\v6=.int .u64 y/\Nat.gcd x y=G/\Hd (x<18446744073709551616/\y<18446744073709551616)/\Below w.heap.size w wi) (λ_ v6 _=>(intOf v6).toNat)
    case atStart=>exact⟨a,gk,rfl,rfl,HG.1,Kh ⟨HX.1,HY.1⟩,gF.1⟩
    case round=>
     clear HG HX HY gF hN hP dC;obtain⟨x,y,rfl,rfl,hg,dY,hb⟩:=hrel;have HB:=Kh hb;by_cases hy0:y=0
     ·subst hy0
      rw[Nat.gcd_zero_right]at hg;subst hg;have HW:=Kh (λw=>(Iw x w dY.1.1).mono (λ_ _ h=>And.imp_left RetN.op h));clear hb;go_wp2_with fail
      refine(HW.1 _).mono ?_;rintro e w4 ⟨⟨p4,n4,c4,rfl,gU,gS⟩,gN⟩;have hM:=Kh gU;have hL:=Kh gS;have hI:=bt HB gN;clear gU gS gN HW;go_wp2;go_ret;exact⟨⟨p4,c4,by rw[hM.1];rfl,hL.1⟩,hI.1⟩
     ·obtain⟨R,hR⟩:∃R,x % y=R:=⟨_,rfl⟩
      have bA:R<y:=by rw[<-hR];exact Nat.mod_lt _ (by omega)
      have mD:Int.tmod (x:Int) (y:Int)=(R:Nat):=by rw[Int.tmod_eq_emod_of_nonneg (by omega),<-hR];exact(Int.natCast_emod _ _).symm
      have iL:(x:Int) % (y:Int)=(R:Nat):=by rw[<-hR];exact(Int.natCast_emod _ _).symm
      have J:Nat.gcd y R=G:=by rw[<-hg,<-hR,Nat.gcd_comm x y,Nat.gcd_rec y x,Nat.gcd_comm]
      have HN:=Kh J;have nA:((y:Int) != 0)=true:=by rw[bne_iff_ne];omega
      have mE:(y:Int)≠0:=by omega
      have V:=Kh bA;clear hb J hR hg bA;go_wp2;go_quiet (fail)
      go_wp2;go_roundw
      case rel=>exact⟨y,R,rfl,rfl,HN.1,Kh ⟨dY.1.2,by have:=dY.1.2;have:=V.1;omega⟩,Aa HB.1 _⟩
      case measure=>simp[intOf];exact V.1
   ·have gL:gk≠0:=Bz.1 (by omega)
    have hC:=Pb p c a q d gk wr h1 h2 (by omega) (by omega) gL;rw[hn,hm]at hC;obtain⟨R,hR⟩:∃R,a % gk=R:=⟨_,rfl⟩
    have bA:R<gk:=by rw[<-hR];exact Nat.mod_lt _ (by omega)
    have J:Nat.gcd gk R=G:=by rw[<-hG,<-hR,Nat.gcd_comm a gk,Nat.gcd_rec gk a,Nat.gcd_comm]
    rw[hR]at hC;have HN:=Kh J;have HC:=Kh hC;have V:=Kh bA;have H2:=Kh h2;have HM:=Kh hm;clear h1 h2 hb hG hn hm J hC bA hm0 hR gL
    have bE:∀(O:World) (p2:Option Addr) (c2:Nat),Below wr.heap.size wr O->Nm O p2 c2 R->∃k,nd R=k/\Hd (nd R=k/\k<=35184372088830/\Nm O q d gk/\Nm O p2 c2 R/\Below w.heap.size w O):=by
     intro O p2 c2 I hr;have h1:nd R<=m:=by rw[<-HM.1];exact Bv (Nat.le_of_lt V.1)
     exact⟨_,rfl,rfl,by omega,H2.1.keep I,hr,HB.1.trans (I.mono HB.1.size)⟩
    have HT:=Kh bE;clear bE;by_cases hn2:n<=2
    ·have dC:¬m<=2:=by omega
     clear hsm;go_wp2_with fail
     refine HC.1.mono ?_;rintro e O ⟨⟨p1,c1,p2,c2,rfl,hq,hr⟩,I⟩;obtain⟨k,hk,Y⟩:=HT.1 O p2 c2 I hr;rw[hk];obtain⟨k1,bB⟩:∃k1,nd (a / gk)=k1:=⟨_,rfl⟩
     rw[bB];clear hk bB hq hr I HT HC;go_wp2;go_roundg R
     case measure=>exact V.1
     case rel=>exact⟨gk,m,k,q,p2,d,c2,rfl,rfl,HM.1,Y.1.1,by omega,Y.1.2.1,Y.1.2.2.1,Y.1.2.2.2.1,HN.1,Y.1.2.2.2.2⟩
    ·clear hsm
     go_wp2_with fail
     refine HC.1.mono ?_;rintro e O ⟨⟨p1,c1,p2,c2,rfl,hq,hr⟩,I⟩;obtain⟨k,hk,Y⟩:=HT.1 O p2 c2 I hr;rw[hk];obtain⟨k1,bB⟩:∃k1,nd (a / gk)=k1:=⟨_,rfl⟩
     rw[bB];clear hk bB hq hr I HT HC;go_wp2;go_roundg R
     case measure=>exact V.1
     case rel=>exact⟨gk,m,k,q,p2,d,c2,rfl,rfl,HM.1,Y.1.1,by omega,Y.1.2.1,Y.1.2.2.1,Y.1.2.2.2.1,HN.1,Y.1.2.2.2.2⟩
def cellOf (w:World) (a:Addr):Value:=(w.cell? a).getD (.bool false)
theorem Ar {w:World} {a:Addr} (h:(w.cell? a).isSome=true):w.cell? a=some (cellOf w a):=by
 unfold cellOf;obtain⟨u,I⟩:=nV h;rw[I];rfl
theorem Bx {w:World} {a:Addr} (h:w.cell? a=some (cellOf w a)):(w.cell? a).isSome=true:=by rw[h];rfl
def NotInt (v:Value):Prop:=∀k n,v≠.int k n
theorem NotInt.bool (b:Bool):NotInt (.bool b):=λ_ _ h=>by cases h
theorem NotInt.slice (p:Option Addr) (n c:Nat):NotInt (.slice p n c):=λ_ _ h=>by cases h
def Sts (w:World) (R:Nat):Prop:=R<w.heap.size/\∀i v,w.cell? ⟨R,i,none⟩=some v->NotInt v
theorem Sts.next {w w':World} {R:Nat} (I:Below w.heap.size w w') (h:Sts w R):Sts w' R:=
 ⟨nT h.1 I.size,λi v J=>h.2 i v ((I.cell (p:=⟨R,i,none⟩) h.1).symm.trans J)⟩
theorem Fo {w:World} {p:Addr} (u:Value) (h:w.cell? p=none):(w.setCell p u).cell? p=none:=by
 simp only[World.setCell,World.cell?,Array.getElem?_modify,if_true]at h ⊢;cases hh:w.heap[p.block]? with
 | none=>simp
 | some x=>
  rw[hh]at h;cases x <;> simp only[Option.map_some]at h ⊢
  by_cases hs:p.spot.isSome=true
  ·simp[hs]
  ·simp only[hs,Bool.false_eq_true,if_false]at h ⊢
   rw[Array.getElem?_eq_none_iff]at h ⊢
   simpa using h
theorem Sts.put {w:World} {R:Nat} (h:Sts w R) (p:Addr) (u:Value) (J:NotInt u):Sts (w.setCell p u) R:=by
 refine⟨by simpa using h.1,λi v I=>?_⟩;by_cases hp:p=⟨R,i,none⟩
 ·cases hc:w.cell? p with
  | none=>
   have:((w.setCell p u).cell? p)=none:=by
    exact Fo u hc
   rw[<-hp,this]at I;cases I
  | some y=>
   rw[<-hp,World.cell?_setCell_same' _ _ _ (by rw[hc];rfl)]at I;injection I with I
   rw[<-I];exact J
 ·rw[World.cell?_setCell_other _ _ _ _ hp]at I
  exact h.2 i v I
theorem Sts.of {w:World} {R:Nat} {t:TypeId} {I:Array Value} (h:Blk w R t I) (O:∀v∈I,NotInt v):Sts w R:=
 ⟨h.lt,λi v J=>by
  rw[h.cell_ i]at J;exact O v (Array.mem_of_getElem? J)⟩
theorem Dg.put {w:World} {R:Nat} (Z:Sts w R) {p:Option Addr} {c n:Nat} {a:Nat->Nat} (h:Dg w p c n a) (i:Nat) (u:Value):Dg (w.setCell ⟨R,i,none⟩ u) p c n a:=
 ⟨h.cap,h.lt,by
  rcases h.at' with Y |⟨g,o,e,hg,O⟩
  ·exact .inl Y
  ·rcases Nat.eq_zero_or_pos n with J|J
   ·exact .inl J
   ·refine .inr ⟨g,o,e,by simpa using hg,λj U=>?_⟩
    have I:R≠g:=λV=>Z.2 (o+j) _ (by rw[V];exact O j U) _ _ rfl
    rw[World.cell?_setCell_far w ⟨R,i,none⟩ ⟨g,o+j,none⟩ u I];exact O j U⟩
theorem Zs.put {w:World} {R:Nat} (I:Sts w R) {s:Bool} {p:Option Addr} {n c:Nat} {z:Int} (h:Zs w s p n c z) (i:Nat) (u:Value):Zs (w.setCell ⟨R,i,none⟩ u) s p n c z:=⟨h.1,h.2.1,Dg.put I h.2.2 i u⟩
theorem Zs.put2 {w:World} {R:Nat} (I:Sts w R) {s:Bool} {p:Option Addr} {n c:Nat} {z:Int} (h:Zs w s p n c z) (i j:Nat) (u v:Value) (J:NotInt u):Zs ((w.setCell ⟨R,i,none⟩ u).setCell ⟨R,j,none⟩ v) s p n c z:=(h.put I i u).put (I.put _ _ J) j v
def SV (B:Nat) (w0 w:World):List Addr->Prop
 | []=>Below B w0 w/\B<=w.heap.size
 | a :: m=>w.cell? a=some (cellOf w a)/\w.frozen? a=false/\Sts w a.block/\SV B w0 w m
def SS (B:Nat) (w0 w:World) (l:List (Addr×Value)) (m:List Addr):Prop:=
 match l with
 | []=>SV B w0 w m
 |(a,v) :: l=>w.cell? a=some v/\SS B w0 w l m
theorem Ab {w w':World} {a:Addr} (J:Below w.heap.size w w') (h:(w.cell? a).isSome=true) (I:w.frozen? a=false):w'.frozen? a=false:=by
 obtain⟨u,U⟩:=nV h;have O:=World.block_lt_of_cell? w a U;have e:w'.heap[a.block]?=w.heap[a.block]?:=J.block a.block O;unfold World.frozen? at I ⊢;rw[e];exact I
theorem SV.next {B:Nat} {w0 w w':World} {m:List Addr} (I:Below w.heap.size w w') (h:SV B w0 w m):SV B w0 w' m:=by
 induction m with
 | nil=>exact⟨h.1.trans (I.mono h.2),nS h.2 I.size⟩
 | cons a m ih=>
  refine⟨Ar ?_,Ab I (Bx h.1) h.2.1,h.2.2.1.next I,ih h.2.2.2⟩;rw[I.cell (World.block_lt_of_cell? w a h.1)];exact Bx h.1
theorem SS.next {B:Nat} {w0 w w':World} {l:List (Addr×Value)} {m:List Addr} (I:Below w.heap.size w w') (h:SS B w0 w l m):SS B w0 w' l m:=by
 induction l with
 | nil=>exact SV.next I h
 | cons x l ih=>exact⟨(I.cell (World.block_lt_of_cell? w x.1 h.1)).trans h.1,ih h.2⟩
theorem SV.below {B:Nat} {w0 w:World} {m:List Addr} (h:SV B w0 w m):Below B w0 w:=by
 induction m with
 | nil=>exact h.1
 | cons a m ih=>exact ih h.2.2.2
theorem SS.below {B:Nat} {w0 w:World} {l:List (Addr×Value)} {m:List Addr} (h:SS B w0 w l m):Below B w0 w:=by
 induction l with
 | nil=>exact SV.below h
 | cons x l ih=>exact ih h.2
theorem Bh {w:World} {p a:Addr} {v:Value} (h:(w.cell? a).isSome=true):((w.setCell p v).cell? a).isSome=true:=by
 by_cases hp:p=a
 ·rw[hp,World.cell?_setCell_same' _ _ _ h];rfl
 ·rw[World.cell?_setCell_other _ _ _ _ hp];exact h
theorem Ao {w:World} {p a:Addr} {v:Value} (I:w.frozen? a=false):(w.setCell p v).frozen? a=false:=by
 rw[World.frozen?_setCell];exact I
theorem SV.put {B:Nat} {w0 w:World} {m:List Addr} (h:SV B w0 w m) (p:Addr) (v:Value) (J:NotInt v) (I:B<=p.block):SV B w0 (w.setCell p v) m:=by
 induction m with
 | nil=>exact⟨h.1.setCell I v,by simpa using h.2⟩
 | cons a m ih=>exact⟨Ar (Bh (Bx h.1)),Ao h.2.1,h.2.2.1.put p v J,ih h.2.2.2⟩
theorem SS.put {B:Nat} {w0 w:World} {l:List (Addr×Value)} {m:List Addr} (h:SS B w0 w l m) (p:Addr) (v:Value) (O:NotInt v) (J:B<=p.block) (I:∀x∈l,p.block≠x.1.block):SS B w0 (w.setCell p v) l m:=by
 induction l with
 | nil=>exact SV.put h p v O J
 | cons x l ih=>exact⟨(World.cell?_setCell_far w p x.1 v (I x (List.mem_cons_self ..))).trans h.1,ih h.2 (λy U=>I y (List.mem_cons_of_mem _ U))⟩
theorem SV.end_ {B:Nat} {w0 w w':World} {a:Addr} {m:List Addr} (J:Below w.heap.size w w') (h:SV B w0 w m) (I:a∈m):(w'.cell? a).isSome=true/\Sts w' a.block:=by
 induction m with
 | nil=>cases I
 | cons x m ih=>
  rcases List.mem_cons.1 I with rfl|I
  ·refine⟨?_,h.2.2.1.next J⟩
   rw[J.cell (World.block_lt_of_cell? w a h.1)];exact Bx h.1
  ·exact ih h.2.2.2 I
theorem SS.end_ {B:Nat} {w0 w w':World} {a:Addr} {l:List (Addr×Value)} {m:List Addr} (J:Below w.heap.size w w') (h:SS B w0 w l m) (I:a∈m):(w'.cell? a).isSome=true/\Sts w' a.block:=by
 induction l with
 | nil=>exact SV.end_ J h I
 | cons x l ih=>exact ih h.2
theorem Gy (w:World) (c1:Array Value) (I:TypeId):Blk (w.alloc (.cells c1 I)) w.heap.size I c1/\Below w.heap.size w (w.alloc (.cells c1 I)):=
 ⟨Blk.new w _ _,(Below.refl _ _).alloc (nR _) _⟩
theorem Lx (w:World) (c1:Array Value) (I:TypeId) (c2:Array Value) (J:TypeId):Blk ((w.alloc (.cells c1 I)).alloc (.cells c2 J)) w.heap.size I c1/\Blk ((w.alloc (.cells c1 I)).alloc (.cells c2 J)) (w.heap.size+1) J c2/\Below w.heap.size w ((w.alloc (.cells c1 I)).alloc (.cells c2 J)):=by
 have h:=Blk.new (w.alloc (.cells c1 I)) J c2;rw[World.size_alloc]at h;exact⟨(Blk.new w _ _).alloc_ _,h,((Below.refl _ _).alloc (nR _) _).alloc (by simp) _⟩
theorem jV (w:World) (c1:Array Value) (I:TypeId) (c2:Array Value) (J:TypeId) (c3:Array Value) (O:TypeId):Blk (((w.alloc (.cells c1 I)).alloc (.cells c2 J)).alloc (.cells c3 O)) w.heap.size I c1/\Blk (((w.alloc (.cells c1 I)).alloc (.cells c2 J)).alloc (.cells c3 O)) (w.heap.size+1) J c2/\Blk (((w.alloc (.cells c1 I)).alloc (.cells c2 J)).alloc (.cells c3 O)) (w.heap.size+1+1) O c3/\Below w.heap.size w (((w.alloc (.cells c1 I)).alloc (.cells c2 J)).alloc (.cells c3 O)):=by
 obtain⟨U,V,Y⟩:=Lx w c1 I c2 J;have h:=Blk.new ((w.alloc (.cells c1 I)).alloc (.cells c2 J)) O c3;rw[World.size_alloc,World.size_alloc]at h;exact⟨U.alloc_ _,V.alloc_ _,h,Y.alloc (by simp;omega) _⟩
theorem lQ (w:World) (c1:Array Value) (I:TypeId) (c2:Array Value) (J:TypeId) (c3:Array Value) (O:TypeId) (c4:Array Value) (U:TypeId):Blk ((((w.alloc (.cells c1 I)).alloc (.cells c2 J)).alloc (.cells c3 O)).alloc (.cells c4 U)) w.heap.size I c1/\Blk ((((w.alloc (.cells c1 I)).alloc (.cells c2 J)).alloc (.cells c3 O)).alloc (.cells c4 U)) (w.heap.size+1) J c2/\Blk ((((w.alloc (.cells c1 I)).alloc (.cells c2 J)).alloc (.cells c3 O)).alloc (.cells c4 U)) (w.heap.size+1+1) O c3/\Blk ((((w.alloc (.cells c1 I)).alloc (.cells c2 J)).alloc (.cells c3 O)).alloc (.cells c4 U)) (w.heap.size+1+1+1) U c4/\Below w.heap.size w ((((w.alloc (.cells c1 I)).alloc (.cells c2 J)).alloc (.cells c3 O)).alloc (.cells c4 U)):=by
 obtain⟨V,Y,Z,h4⟩:=jV w c1 I c2 J c3 O;have h:=Blk.new (((w.alloc (.cells c1 I)).alloc (.cells c2 J)).alloc (.cells c3 O)) U c4;rw[World.size_alloc,World.size_alloc,World.size_alloc]at h;exact⟨V.alloc_ _,Y.alloc_ _,Z.alloc_ _,h,h4.alloc (by simp;omega) _⟩
theorem bx1 (w:World) (c1:Array Value) (I:TypeId):∃w0,(w.alloc (.cells c1 I))=w0/\Blk w0 (w.heap.size) I c1/\Below w.heap.size w w0:=⟨_,rfl,Gy w c1 I⟩
theorem bx2 (w:World) (c1:Array Value) (I:TypeId) (c2:Array Value) (J:TypeId):∃w0,((w.alloc (.cells c1 I)).alloc (.cells c2 J))=w0/\Blk w0 (w.heap.size) I c1/\Blk w0 (w.heap.size+1) J c2/\Below w.heap.size w w0:=⟨_,rfl,Lx w c1 I c2 J⟩
theorem Kk (w:World) (c1:Array Value) (I:TypeId) (c2:Array Value) (J:TypeId) (c3:Array Value) (O:TypeId):∃w0,(((w.alloc (.cells c1 I)).alloc (.cells c2 J)).alloc (.cells c3 O))=w0/\Blk w0 (w.heap.size) I c1/\Blk w0 (w.heap.size+1) J c2/\Blk w0 (w.heap.size+1+1) O c3/\Below w.heap.size w w0:=⟨_,rfl,jV w c1 I c2 J c3 O⟩
theorem nL (w:World) (c1:Array Value) (I:TypeId) (c2:Array Value) (J:TypeId) (c3:Array Value) (O:TypeId) (c4:Array Value) (U:TypeId):∃w0,((((w.alloc (.cells c1 I)).alloc (.cells c2 J)).alloc (.cells c3 O)).alloc (.cells c4 U))=w0/\Blk w0 (w.heap.size) I c1/\Blk w0 (w.heap.size+1) J c2/\Blk w0 (w.heap.size+1+1) O c3/\Blk w0 (w.heap.size+1+1+1) U c4/\Below w.heap.size w w0:=⟨_,rfl,lQ w c1 I c2 J c3 O c4 U⟩
theorem Blk.c0 {w:World} {g:Nat} {t:TypeId} {a:Value} {l:List Value} (h:Blk w g t (a :: l).toArray):w.cell? ⟨g,0,none⟩=some a:=h.at_ 0 rfl
theorem Blk.c1 {w:World} {g:Nat} {t:TypeId} {a b:Value} {l:List Value} (h:Blk w g t (a :: b :: l).toArray):w.cell? ⟨g,1,none⟩=some b:=h.at_ 1 rfl
theorem Blk.c2 {w:World} {g:Nat} {t:TypeId} {a b c:Value} {l:List Value} (h:Blk w g t (a :: b :: c :: l).toArray):w.cell? ⟨g,2,none⟩=some c:=h.at_ 2 rfl
theorem Blk.c3 {w:World} {g:Nat} {t:TypeId} {a b c d:Value} {l:List Value} (h:Blk w g t (a :: b :: c :: d :: l).toArray):w.cell? ⟨g,3,none⟩=some d:=h.at_ 3 rfl
theorem Blk.c4 {w:World} {g:Nat} {t:TypeId} {a b c d e:Value} {l:List Value} (h:Blk w g t (a :: b :: c :: d :: e :: l).toArray):w.cell? ⟨g,4,none⟩=some e:=h.at_ 4 rfl
theorem Blk.so {w:World} {g:Nat} {t:TypeId} {I:Array Value} (h:Blk w g t I) (i:Nat) (J:i<I.size:=by decide):w.cell? ⟨g,i,none⟩=some (cellOf w ⟨g,i,none⟩):=Ar (by rw[h.cell_ i,Array.getElem?_eq_getElem J];rfl)
abbrev Ub (B:Nat) (w0 w:World) (a0 a1 b0 b1:Addr) (v0 v1:Value):Prop:=w.cell? a0=some v0/\w.cell? a1=some v1/\w.cell? b0=some (cellOf w b0)/\w.frozen? b0=false/\Sts w b0.block/\w.cell? b1=some (cellOf w b1)/\w.frozen? b1=false/\Sts w b1.block/\Below B w0 w/\B<=w.heap.size
theorem Dx {B:Nat} {w0 w w':World} {I J O U:Addr} {v0 v1:Value} (V:Below w.heap.size w w') (h:Ub B w0 w I J O U v0 v1):Ub B w0 w' I J O U v0 v1:=SS.next (B:=B) (w0:=w0) (l:=[(I,v0),(J,v1)]) (m:=[O,U]) V h
theorem Cf {B:Nat} {w0 w:World} {I J O U:Addr} {v0 v1:Value} (h:Ub B w0 w I J O U v0 v1):Below B w0 w:=SS.below (B:=B) (w0:=w0) (l:=[(I,v0),(J,v1)]) (m:=[O,U]) h
theorem J9 {B:Nat} {w0 w w':World} {O U I J:Addr} {v0 v1:Value} (V:Below w.heap.size w w') (h:Ub B w0 w O U I J v0 v1):((w'.cell? I).isSome=true/\Sts w' I.block)/\((w'.cell? J).isSome=true/\Sts w' J.block):=⟨SS.end_ (B:=B) (w0:=w0) (l:=[(O,v0),(U,v1)]) (m:=[I,J]) V h (by simp),SS.end_ (B:=B) (w0:=w0) (l:=[(O,v0),(U,v1)]) (m:=[I,J]) V h (by simp)⟩
theorem Ka {B:Nat} {w0 w:World} {I J U V:Addr} {v0 v1:Value} (h:Ub B w0 w I J U V v0 v1) {p0 O:Addr} {u0 u1:Value} (Y:NotInt u0) (bE:B<=p0.block) (aX:p0.block≠I.block) (bA:p0.block≠J.block) (Z:NotInt u1) (bY:B<=O.block) (bB:O.block≠I.block) (bC:O.block≠J.block):Ub B w0 ((w.setCell p0 u0).setCell O u1) I J U V v0 v1:=(SS.put (B:=B) (w0:=w0) (l:=[(I,v0),(J,v1)]) (m:=[U,V]) (SS.put (B:=B) (w0:=w0) (l:=[(I,v0),(J,v1)]) (m:=[U,V]) h p0 u0 Y bE (by simp[*])) O u1 Z bY (by simp[*]))
abbrev Uc (B:Nat) (w0 w:World) (a0 a1 a2 a3 b0 b1:Addr) (v0 v1 v2 v3:Value):Prop:=w.cell? a0=some v0/\w.cell? a1=some v1/\w.cell? a2=some v2/\w.cell? a3=some v3/\w.cell? b0=some (cellOf w b0)/\w.frozen? b0=false/\Sts w b0.block/\w.cell? b1=some (cellOf w b1)/\w.frozen? b1=false/\Sts w b1.block/\Below B w0 w/\B<=w.heap.size
theorem Cl {B:Nat} {w0 w w':World} {I J O U V Y:Addr} {v0 v1 v2 v3:Value} (Z:Below w.heap.size w w') (h:Uc B w0 w I J O U V Y v0 v1 v2 v3):Uc B w0 w' I J O U V Y v0 v1 v2 v3:=SS.next (B:=B) (w0:=w0) (l:=[(I,v0),(J,v1),(O,v2),(U,v3)]) (m:=[V,Y]) Z h
theorem Bf {B:Nat} {w0 w:World} {I J O U V Y:Addr} {v0 v1 v2 v3:Value} (h:Uc B w0 w I J O U V Y v0 v1 v2 v3):Below B w0 w:=SS.below (B:=B) (w0:=w0) (l:=[(I,v0),(J,v1),(O,v2),(U,v3)]) (m:=[V,Y]) h
theorem Hj {B:Nat} {w0 w w':World} {O U V Y I J:Addr} {v0 v1 v2 v3:Value} (Z:Below w.heap.size w w') (h:Uc B w0 w O U V Y I J v0 v1 v2 v3):((w'.cell? I).isSome=true/\Sts w' I.block)/\((w'.cell? J).isSome=true/\Sts w' J.block):=⟨SS.end_ (B:=B) (w0:=w0) (l:=[(O,v0),(U,v1),(V,v2),(Y,v3)]) (m:=[I,J]) Z h (by simp),SS.end_ (B:=B) (w0:=w0) (l:=[(O,v0),(U,v1),(V,v2),(Y,v3)]) (m:=[I,J]) Z h (by simp)⟩
theorem Hk {B:Nat} {w0 w:World} {J O U V Y Z:Addr} {v0 v1 v2 v3:Value} (h:Uc B w0 w J O U V Y Z v0 v1 v2 v3) {p0 I:Addr} {u0 u1:Value} (aX:NotInt u0) (cF:B<=p0.block) (bB:p0.block≠J.block) (bC:p0.block≠O.block) (bE:p0.block≠U.block) (bY:p0.block≠V.block) (bA:NotInt u1) (cG:B<=I.block) (cA:I.block≠J.block) (cB:I.block≠O.block) (cC:I.block≠U.block) (cD:I.block≠V.block):Uc B w0 ((w.setCell p0 u0).setCell I u1) J O U V Y Z v0 v1 v2 v3:=(SS.put (B:=B) (w0:=w0) (l:=[(J,v0),(O,v1),(U,v2),(V,v3)]) (m:=[Y,Z]) (SS.put (B:=B) (w0:=w0) (l:=[(J,v0),(O,v1),(U,v2),(V,v3)]) (m:=[Y,Z]) h p0 u0 aX cF (by simp[*])) I u1 bA cG (by simp[*]))
abbrev Ud (B:Nat) (w0 w:World) (a0 a1 a2 a3 b0 b1 b2 b3:Addr) (v0 v1 v2 v3:Value):Prop:=w.cell? a0=some v0/\w.cell? a1=some v1/\w.cell? a2=some v2/\w.cell? a3=some v3/\w.cell? b0=some (cellOf w b0)/\w.frozen? b0=false/\Sts w b0.block/\w.cell? b1=some (cellOf w b1)/\w.frozen? b1=false/\Sts w b1.block/\w.cell? b2=some (cellOf w b2)/\w.frozen? b2=false/\Sts w b2.block/\w.cell? b3=some (cellOf w b3)/\w.frozen? b3=false/\Sts w b3.block/\Below B w0 w/\B<=w.heap.size
theorem Da {B:Nat} {w0 w w':World} {I J O U V Y Z b3:Addr} {v0 v1 v2 v3:Value} (hb:Below w.heap.size w w') (h:Ud B w0 w I J O U V Y Z b3 v0 v1 v2 v3):Ud B w0 w' I J O U V Y Z b3 v0 v1 v2 v3:=SS.next (B:=B) (w0:=w0) (l:=[(I,v0),(J,v1),(O,v2),(U,v3)]) (m:=[V,Y,Z,b3]) hb h
theorem Cs {B:Nat} {w0 w:World} {I J O U V Y Z b3:Addr} {v0 v1 v2 v3:Value} (h:Ud B w0 w I J O U V Y Z b3 v0 v1 v2 v3):Below B w0 w:=SS.below (B:=B) (w0:=w0) (l:=[(I,v0),(J,v1),(O,v2),(U,v3)]) (m:=[V,Y,Z,b3]) h
theorem Ov {B:Nat} {w0 w w':World} {V Y Z a3 I J O U:Addr} {v0 v1 v2 v3:Value} (hb:Below w.heap.size w w') (h:Ud B w0 w V Y Z a3 I J O U v0 v1 v2 v3):((w'.cell? I).isSome=true/\Sts w' I.block)/\((w'.cell? J).isSome=true/\Sts w' J.block)/\((w'.cell? O).isSome=true/\Sts w' O.block)/\((w'.cell? U).isSome=true/\Sts w' U.block):=⟨SS.end_ (B:=B) (w0:=w0) (l:=[(V,v0),(Y,v1),(Z,v2),(a3,v3)]) (m:=[I,J,O,U]) hb h (by simp),SS.end_ (B:=B) (w0:=w0) (l:=[(V,v0),(Y,v1),(Z,v2),(a3,v3)]) (m:=[I,J,O,U]) hb h (by simp),SS.end_ (B:=B) (w0:=w0) (l:=[(V,v0),(Y,v1),(Z,v2),(a3,v3)]) (m:=[I,J,O,U]) hb h (by simp),SS.end_ (B:=B) (w0:=w0) (l:=[(V,v0),(Y,v1),(Z,v2),(a3,v3)]) (m:=[I,J,O,U]) hb h (by simp)⟩
theorem Kb {B:Nat} {w0 w:World} {I J O U b0 b1 b2 b3:Addr} {v0 v1 v2 v3:Value} (h:Ud B w0 w I J O U b0 b1 b2 b3 v0 v1 v2 v3) {p0 V Y Z:Addr} {u0 u1 u2 u3:Value} (bE:NotInt u0) (gU:B<=p0.block) (cC:p0.block≠I.block) (cD:p0.block≠J.block) (cF:p0.block≠O.block) (cG:p0.block≠U.block) (bY:NotInt u1) (hB:B<=V.block) (cT:V.block≠I.block) (cX:V.block≠J.block) (dC:V.block≠O.block) (dE:V.block≠U.block) (cA:NotInt u2) (hD:B<=Y.block) (dY:Y.block≠I.block) (eP:Y.block≠J.block) (gA:Y.block≠O.block) (gF:Y.block≠U.block) (cB:NotInt u3) (hE:B<=Z.block) (gL:Z.block≠I.block) (gN:Z.block≠J.block) (gP:Z.block≠O.block) (gS:Z.block≠U.block):Ud B w0 ((((w.setCell p0 u0).setCell V u1).setCell Y u2).setCell Z u3) I J O U b0 b1 b2 b3 v0 v1 v2 v3:=(SS.put (B:=B) (w0:=w0) (l:=[(I,v0),(J,v1),(O,v2),(U,v3)]) (m:=[b0,b1,b2,b3]) (SS.put (B:=B) (w0:=w0) (l:=[(I,v0),(J,v1),(O,v2),(U,v3)]) (m:=[b0,b1,b2,b3]) (SS.put (B:=B) (w0:=w0) (l:=[(I,v0),(J,v1),(O,v2),(U,v3)]) (m:=[b0,b1,b2,b3]) (SS.put (B:=B) (w0:=w0) (l:=[(I,v0),(J,v1),(O,v2),(U,v3)]) (m:=[b0,b1,b2,b3]) h p0 u0 bE gU (by simp[*])) V u1 bY hB (by simp[*])) Y u2 cA hD (by simp[*])) Z u3 cB hE (by simp[*]))
abbrev Uf (B:Nat) (w0 w:World) (a0 a1 a2 a3 a4 a5 a6 a7 b0 b1 b2 b3:Addr) (v0 v1 v2 v3 v4 v5 v6 v7:Value):Prop:=w.cell? a0=some v0/\w.cell? a1=some v1/\w.cell? a2=some v2/\w.cell? a3=some v3/\w.cell? a4=some v4/\w.cell? a5=some v5/\w.cell? a6=some v6/\w.cell? a7=some v7/\w.cell? b0=some (cellOf w b0)/\w.frozen? b0=false/\Sts w b0.block/\w.cell? b1=some (cellOf w b1)/\w.frozen? b1=false/\Sts w b1.block/\w.cell? b2=some (cellOf w b2)/\w.frozen? b2=false/\Sts w b2.block/\w.cell? b3=some (cellOf w b3)/\w.frozen? b3=false/\Sts w b3.block/\Below B w0 w/\B<=w.heap.size
theorem A6 {B:Nat} {w0 w w':World} {I J O U V Y Z a7 b0 b1 b2 b3:Addr} {v0 v1 v2 v3 v4 v5 v6 v7:Value} (hb:Below w.heap.size w w') (h:Uf B w0 w I J O U V Y Z a7 b0 b1 b2 b3 v0 v1 v2 v3 v4 v5 v6 v7):Uf B w0 w' I J O U V Y Z a7 b0 b1 b2 b3 v0 v1 v2 v3 v4 v5 v6 v7:=SS.next (B:=B) (w0:=w0) (l:=[(I,v0),(J,v1),(O,v2),(U,v3),(V,v4),(Y,v5),(Z,v6),(a7,v7)]) (m:=[b0,b1,b2,b3]) hb h
theorem Bg {B:Nat} {w0 w:World} {I J O U V Y Z a7 b0 b1 b2 b3:Addr} {v0 v1 v2 v3 v4 v5 v6 v7:Value} (h:Uf B w0 w I J O U V Y Z a7 b0 b1 b2 b3 v0 v1 v2 v3 v4 v5 v6 v7):Below B w0 w:=SS.below (B:=B) (w0:=w0) (l:=[(I,v0),(J,v1),(O,v2),(U,v3),(V,v4),(Y,v5),(Z,v6),(a7,v7)]) (m:=[b0,b1,b2,b3]) h
theorem Hl {B:Nat} {w0 w w':World} {V Y Z a3 a4 a5 a6 a7 I J O U:Addr} {v0 v1 v2 v3 v4 v5 v6 v7:Value} (hb:Below w.heap.size w w') (h:Uf B w0 w V Y Z a3 a4 a5 a6 a7 I J O U v0 v1 v2 v3 v4 v5 v6 v7):((w'.cell? I).isSome=true/\Sts w' I.block)/\((w'.cell? J).isSome=true/\Sts w' J.block)/\((w'.cell? O).isSome=true/\Sts w' O.block)/\((w'.cell? U).isSome=true/\Sts w' U.block):=⟨SS.end_ (B:=B) (w0:=w0) (l:=[(V,v0),(Y,v1),(Z,v2),(a3,v3),(a4,v4),(a5,v5),(a6,v6),(a7,v7)]) (m:=[I,J,O,U]) hb h (by simp),SS.end_ (B:=B) (w0:=w0) (l:=[(V,v0),(Y,v1),(Z,v2),(a3,v3),(a4,v4),(a5,v5),(a6,v6),(a7,v7)]) (m:=[I,J,O,U]) hb h (by simp),SS.end_ (B:=B) (w0:=w0) (l:=[(V,v0),(Y,v1),(Z,v2),(a3,v3),(a4,v4),(a5,v5),(a6,v6),(a7,v7)]) (m:=[I,J,O,U]) hb h (by simp),SS.end_ (B:=B) (w0:=w0) (l:=[(V,v0),(Y,v1),(Z,v2),(a3,v3),(a4,v4),(a5,v5),(a6,v6),(a7,v7)]) (m:=[I,J,O,U]) hb h (by simp)⟩
theorem D3 {B:Nat} {w0 w:World} {U V Y Z a4 a5 a6 a7 b0 b1 b2 b3:Addr} {v0 v1 v2 v3 v4 v5 v6 v7:Value} (h:Uf B w0 w U V Y Z a4 a5 a6 a7 b0 b1 b2 b3 v0 v1 v2 v3 v4 v5 v6 v7) {p0 I J O:Addr} {u0 u1 u2 u3:Value} (cT:NotInt u0) (mA:B<=p0.block) (dY:p0.block≠U.block) (eP:p0.block≠V.block) (gA:p0.block≠Y.block) (gF:p0.block≠Z.block) (gL:p0.block≠a4.block) (gN:p0.block≠a5.block) (gP:p0.block≠a6.block) (gS:p0.block≠a7.block) (cX:NotInt u1) (mB:B<=I.block) (gU:I.block≠U.block) (hB:I.block≠V.block) (hD:I.block≠Y.block) (hE:I.block≠Z.block) (hG:I.block≠a4.block) (hH:I.block≠a5.block) (hI:I.block≠a6.block) (hJ:I.block≠a7.block) (dC:NotInt u2) (mC:B<=J.block) (hL:J.block≠U.block) (hM:J.block≠V.block) (hN:J.block≠Y.block) (hO:J.block≠Z.block) (hP:J.block≠a4.block) (hQ:J.block≠a5.block) (hR:J.block≠a6.block) (hS:J.block≠a7.block) (dE:NotInt u3) (mD:B<=O.block) (hT:O.block≠U.block) (hU:O.block≠V.block) (hV:O.block≠Y.block) (hW:O.block≠Z.block) (hX:O.block≠a4.block) (hY:O.block≠a5.block) (hZ:O.block≠a6.block) (iL:O.block≠a7.block):Uf B w0 ((((w.setCell p0 u0).setCell I u1).setCell J u2).setCell O u3) U V Y Z a4 a5 a6 a7 b0 b1 b2 b3 v0 v1 v2 v3 v4 v5 v6 v7:=(SS.put (B:=B) (w0:=w0) (l:=[(U,v0),(V,v1),(Y,v2),(Z,v3),(a4,v4),(a5,v5),(a6,v6),(a7,v7)]) (m:=[b0,b1,b2,b3]) (SS.put (B:=B) (w0:=w0) (l:=[(U,v0),(V,v1),(Y,v2),(Z,v3),(a4,v4),(a5,v5),(a6,v6),(a7,v7)]) (m:=[b0,b1,b2,b3]) (SS.put (B:=B) (w0:=w0) (l:=[(U,v0),(V,v1),(Y,v2),(Z,v3),(a4,v4),(a5,v5),(a6,v6),(a7,v7)]) (m:=[b0,b1,b2,b3]) (SS.put (B:=B) (w0:=w0) (l:=[(U,v0),(V,v1),(Y,v2),(Z,v3),(a4,v4),(a5,v5),(a6,v6),(a7,v7)]) (m:=[b0,b1,b2,b3]) h p0 u0 cT mA (by simp[*])) I u1 cX mB (by simp[*])) J u2 dC mC (by simp[*])) O u3 dE mD (by simp[*]))
theorem Zr.letters {w:World} {s:Bool} {p:Option Addr} {n c:Nat} {z:Int} (h:Zr w s p n c z) (hn:n<=35184372088830):
  ∃k,k<=n/\nd z.natAbs=k/\Hd (sg s z.natAbs=z/\Nm w p c z.natAbs/\(∀I,Below w.heap.size w I->Calls prog 129 #[.slice p n c] I λe w'=>e=.returned (.slice p k c)/\w'=I)):=by
 obtain⟨a,O,U⟩:=h;have J:z.natAbs=vf a n:=by rw[<-U,I6]
 refine⟨nd z.natAbs,?_,rfl,?_,?_,?_⟩
 ·rw[J];exact Bj.2 (Dq O.lt)
 ·rw[J];exact U
 ·rw[J];exact O.trim
 ·intro I Z
  refine(Dy p c n a I (O.keep Z) (by omega)).mono ?_;rintro e w' ⟨⟨V,_⟩,Y⟩;exact⟨by rw[J];exact V,Y⟩
theorem Ez (I:Bool) (p:Option Addr) (c n u:Nat) (w:World) (h:Nm w p c u) (O:nd u=n) (hn:n<=70368744177664):
  Calls prog 131 #[.bool I,.slice p n c] w λe w'=>Gx w' e (sg I u)/\Below w.heap.size w w':=by
 subst O;have J:=Cg I p c (nd u) (dg u) w h hn;rw[Bn]at J;exact J
theorem Aq {w w':World} {a:Addr} {v:Value} (I:Below w.heap.size w w') (h:w.cell? a=some v):w'.cell? a=some v:=(I.cell (p:=a) (World.block_lt_of_cell? w a h)).trans h
section
variable {P:Program} {md:Region.Mode} {ops:Array Oper} {Q:Exit->Act->World->Prop} {S:World->Prop}
def Mq (ops:Array Oper) (listed:Array Bool):Bool:=(List.range ops.size).all λk=>listed.getD k true
def T9 (md:Region.Mode) (ops:Array Oper) (listed:Array Bool) (i:Nat):Bool:=
 (List.range ops.size).any λk=>k != i && !(listed.getD k true)&&match ops[k]? with
  | some o=>o.after.any λe=>Region.binds md e&&e.on==i
  | none=>false
theorem Zj {I:Array Bool} {k:Nat} (O:k<ops.size) (h:I.getD k true=false):Mq ops I=false:=by
 cases e:Mq ops I with
 | false=>rfl
 | true=>
  rw[Mq,List.all_eq_true]at e;have J:=e k (List.mem_range.2 O);rw[h]at J;cases J
def wpE (P:Program) (md:Region.Mode) (ops:Array Oper) (Q:Exit->Act->World->Prop) (S:World->Prop):Nat->Array Bool->Act->World->Prop
 | 0,listed,a,w=>Region.ready md ops listed=[]/\Q .normal a w
 | n+1,listed,a,w=>(Region.ready md ops listed=[]->Q .normal a w) /\
  ∀i∈Region.ready md ops listed,wpOp P ops Q i (λa' w'=>(Mq ops (listed.setIfInBounds i true)=false->S w')/\wpE P md ops Q S n (listed.setIfInBounds i true) a' w') a w
theorem wpE.any:∀(n:Nat) (I:Array Bool) (a:Act) (w:World),wpE P md ops Q S n I a w->wpAny P md ops Q n I a w
 | 0,_,_,_,h=>h
 | n+1,_,_,_,h=>⟨h.1,λi U=>wpOp_mono (λJ w' O=>wpE.any n _ J w' O.2) (h.2 i U)⟩
theorem wpE.first {i k:Nat} {oi ok:Oper} {v:Value} (hi:ops[i]?=some oi) (hk:ops[k]?=some ok) (gF:k≠i) (hw:∃e∈ok.after,Region.binds md e=true/\e.on=i)
  (Y:∀(j:Nat) (o:Oper) cs b,ops[j]?=some o->o.op≠.select cs b) (hQ:∀c a w,Q (.panic c) (a.put oi.dst v) w->Q (.panic c) a w):
  ∀(n:Nat) (I:Array Bool) (a:Act) (w:World),
   (∀j Z,ops[j]?=some Z->j≠i->I.getD j true=false->(∀e∈Z.after,Region.binds md e=true->e.on≠i)->oi.apart ops Z=true) ->
   I.getD k true=false->i∈Region.ready md ops I->YieldsIf P ops S oi v a->S w ->
   wpE P md ops Q S n (I.setIfInBounds i true) (a.put oi.dst v) w->wpE P md ops Q S (n+1) I a w:=by
 intro n;induction n with
 | zero=>
  intro I a w _ _ hr hy hS H;refine⟨(λh=>by rw[h]at hr;cases hr),λj hj=>?_⟩;by_cases hji:j=i
  ·subst hji;exact hy.wpOp hi hS ⟨λ_=>hS,H⟩
  ·have h1:=ready_mono hj hji
   rw[H.1]at h1;cases h1
 | succ n ih=>
  intro I a w J cB hr hy hS H;refine⟨(λh=>by rw[h]at hr;cases hr),λj hj=>?_⟩;by_cases hji:j=i
  ·subst hji;exact hy.wpOp hi hS ⟨λ_=>hS,H⟩
  have h1:=H.2 j (ready_mono hj hji);obtain⟨cA,Z,U,bE⟩:=mem_ready.1 hj
  have eP:I.getD i false=false:=by
   have h0:=(mem_ready.1 hr).1;rcases Nat.lt_or_ge i I.size with O|O
   ·simp[O]at h0 ⊢;exact h0
   ·simp[Array.getElem?_eq_none O]
  have cD:∀e∈Z.after,Region.binds md e=true->e.on≠i:=λe he hb O=>by
   have V:=bE e he hb;rw[O,eP]at V;cases V
  have bY:j≠k:=λO=>by
   subst O;rw[U]at hk;cases hk;obtain⟨e,he,hb,V⟩:=hw;exact cD e he hb V
  have gL:∀l:Array Bool,l.getD k true=false->Mq ops l=false:=λl hl=>Zj (Array.getElem?_eq_some_iff.1 hk).1 hl
  have cC:(I.setIfInBounds j true).getD k true=false:=by rw[getD_set_ne true bY];exact cB
  have O:=wpOp_putIf U (J j Z U hji cA cD) (λcs b=>Y i oi cs b hi) (λcs b=>Y j Z cs b U) hQ hy h1;refine wpOp_mono (λa' w' V=>?_) O;have bC:S w':=V.2.1 (gL _ (by rw[getD_set_ne true bY,getD_set_ne true gF.symm];exact cB));refine⟨λ_=>bC,ih _ a' w' (λq oq hq gN cF gP=>J q oq hq gN ?_ gP) cC (ready_mono hr (Ne.symm hji)) V.1 bC ?_⟩
  ·by_cases hjq:j=q
   ·subst hjq;exact cA
   ·rw[getD_set_ne true hjq]at cF;exact cF
  ·rw[Array.setIfInBounds_comm _ _ hji]
   exact V.2.2
theorem Lu {I:Array Bool} {i:Nat} (h:T9 md ops I i=true):∃k J,ops[k]?=some J/\k≠i/\I.getD k true=false/\∃e∈J.after,Region.binds md e=true/\e.on=i:=by
 rw[T9,List.any_eq_true]at h;obtain⟨k,_,h⟩:=h;cases hk:ops[k]? with
 | none=>rw[hk]at h;simp at h
 | some o=>
  rw[hk]at h;simp only[Bool.and_eq_true,bne_iff_ne,ne_eq,Bool.not_eq_true',beq_iff_eq,Array.any_eq_true']at h;obtain⟨⟨O,U⟩,e,V,Y,Z⟩:=h;exact⟨k,o,hk,O,U,e,V,Y,Z⟩
theorem nQ {id:Nat} {a:Act} {w:World} (S:World->Prop) (I:S w.drew) (h:S w.drew->wpE P .any ops Q S ops.size (Array.replicate ops.size false) a w.drew) (J:P.follows .mixedOrders=true:=by kernel_rfl):(Code.region id ops true).wp P Q a w:=
 wp_region_any J (wpE.any _ _ _ _ (h I))
theorem J2 {id:Nat} {a:Act} {w:World} (S:World->Prop) (I:∀W,Below w.heap.size w W->S W) (h:Hd (∀W,Below w.heap.size w W->S W)->S w.drew->wpE P .any ops Q S ops.size (Array.replicate ops.size false) a w.drew) (J:P.follows .mixedOrders=true:=by kernel_rfl):(Code.region id ops true).wp P Q a w:=
 nQ S (I _ (Below.refl _ w).drew) (h (Hd.mk I)) J
theorem Aj (i:Nat) {J:Oper} {v:Value} {n d:Nat} {I:Array Bool} {a U:Act} {w:World} (h:wpE P md ops Q S n (I.setIfInBounds i true) U w)
  (V:ops[i]?=some J:=by rfl) (hS:S w:=by assumption) (hw:Region.wanted J (yielded ops a.tmps)=true:=by rfl)
  (hy:∀w,S w->(execOp a.eval J).run P w=.ok (.value v) w:=by intro w O;(try dsimp only at O);go_simp;(try with_reducible rfl))
  (hd:J.dst=some d:=by rfl) (ha:a.put (some d) v=U:=by(try simp only[Act.put,List.setIfInBounds_toArray,List.set_cons_zero,List.set_cons_succ]);rfl)
  (hs:Region.noSelect ops=true:=by kernel_rfl) (hf:Region.free md ops I i=true:=by kernel_rfl) (hr:(Region.ready md ops I).contains i=true:=by kernel_rfl) (hk:T9 md ops I i=true:=by kernel_rfl)
  (hQ:∀c a w,Q (.panic c) (a.put J.dst v) w->Q (.panic c) a w:=by exact λ_ _ _ h=>h):wpE P md ops Q S (n+1) I a w:=by
 subst ha;rw[<-hd]at h;obtain⟨k,ok,Y,Z,h3,h4⟩:=Lu hk;exact wpE.first V Y Z h4 (Region.noSelect_spec hs) hQ n I a w (Region.free_spec V hf) h3 (by simpa using hr) (.inl ⟨hw,hy⟩) hS h
theorem G6 (i:Nat) {o:Oper} {n:Nat} {I:Array Bool} {a:Act} {w:World}
  (Y:ops[i]?=some o) (h:∀J:Act->World->Prop,Shut (∀a w,S w->(S w->wpE P md ops Q S n (I.setIfInBounds i true) a w)->J a w)->if Region.wanted o (yielded ops a.tmps)=true then Oper.wp P o a w J Q else J (a.put o.dst undef) w)
  (hr:Region.ready md ops I=[i]:=by kernel_rfl):wpE P md ops Q S (n+1) I a w:=by
 refine⟨(λe=>by rw[hr]at e;cases e),λj U=>?_⟩;rw[hr,List.mem_singleton]at U;subst U;refine wpOp_step Y λJ hK=>?_
 exact h J λa w O V=>hK a w ⟨λ_=>O,V O⟩
theorem Js (i:Nat) {o:Oper} {n:Nat} {I:Array Bool} {a:Act} {w:World}
  (V:ops[i]?=some o) (h:∀J:Act->World->Prop,Shut (∀a w,Q .normal a w->J a w)->if Region.wanted o (yielded ops a.tmps)=true then Oper.wp P o a w J Q else J (a.put o.dst undef) w)
  (hr:Region.ready md ops I=[i]:=by kernel_rfl)
  (hn:Region.ready md ops (I.setIfInBounds i true)=[]:=by kernel_rfl) (U:Mq ops (I.setIfInBounds i true)=true:=by kernel_rfl):wpE P md ops Q S (n+1) I a w:=by
 refine⟨(λe=>by rw[hr]at e;cases e),λj O=>?_⟩;rw[hr,List.mem_singleton]at O;subst O;refine wpOp_step V λJ hK=>?_
 refine h J λa w hq=>hK a w ⟨(λe=>by rw[U]at e;cases e),?_⟩
 cases n with
 | zero=>exact⟨hn,hq⟩
 | succ n=>exact⟨λ_=>hq,λj O=>by rw[hn]at O;cases O⟩
theorem aV (O:List Nat) {n:Nat} {I:Array Bool} {a:Act} {w:World} (h:AllReadyH P md ops Q S n I a w O) (hr:Region.ready md ops I=O:=by kernel_rfl) (J:O≠[]:=by simp):wpAnyH P md ops Q S (n+1) I a w:=wpAnyH_ready hr J h
theorem Lw (i:Nat) {J:Oper} {v:Value} {n:Nat} {I:Array Bool} {a U:Act} {w:World} (h:wpAnyH P md ops Q S n (I.setIfInBounds i true) U w)
  (hi:ops[i]?=some J:=by rfl) (Y:S w:=by assumption) (hw:Region.wanted J (yielded ops a.tmps)=true:=by rfl)
  (hy:∀w,S w->(execOp a.eval J).run P w=.ok (.value v) w:=by intro w O;(try dsimp only at O);go_simp;(try with_reducible rfl))
  (Z:a.put J.dst v=U:=by(try simp only[Act.put,List.setIfInBounds_toArray,List.set_cons_zero,List.set_cons_succ]);rfl)
  (hs:Region.noSelect ops=true:=by kernel_rfl) (hf:Region.free md ops I i=true:=by kernel_rfl) (hr:(Region.ready md ops I).contains i=true:=by kernel_rfl)
  (V:∀c a w,Q (.panic c) (a.put J.dst v) w->Q (.panic c) a w:=by exact λ_ _ _ h=>h):wpAnyH P md ops Q S (n+1) I a w:=by
 subst Z;exact wpAnyH_take hi hs hf hr V (.inl ⟨hw,hy⟩) Y h
end
theorem Bo {I:Type _} (l:List I) (i:Nat) (v:I):l.toArray.setIfInBounds i v=(l.set i v).toArray:=List.setIfInBounds_toArray ..
theorem Bt {I:Type _} (a v:I) (l:List I):(a :: l).set 0 v=v :: l:=List.set_cons_zero
theorem Bp {I:Type _} (a v:I) (l:List I) (n:Nat):(a :: l).set (n+1) v=a :: l.set n v:=List.set_cons_succ
end Go.Proofs.YtenlbhlllgppmaaGreatDoor
