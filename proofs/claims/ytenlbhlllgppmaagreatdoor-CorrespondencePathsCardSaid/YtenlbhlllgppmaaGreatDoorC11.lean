/- Contract of bigint's divide. -/
import Derived.Test.YtenlbhlllgppmaaGreatDoorC10
set_option linter.unusedSimpArgs false
set_option maxRecDepth 100000
set_option maxHeartbeats 8000000
namespace Go.Proofs.YtenlbhlllgppmaaGreatDoor
open Go.RowKit Tryz
theorem Dg.nm {w:World} {p:Option Addr} {c k t:Nat} {r:Nat->Nat} (h:Dg w p c k r) (I:vf r k=t) (E:nd t=k):Nm w p c t:=by
 unfold Nm;rw[E];exact h.congr (by rw[<-I];exact Xd h.lt)
theorem Nm.drewN {w:World} {p:Option Addr} {c v:Nat} (h:Nm w p c v) (n:Nat):Nm (w.drewN n) p c v:=h.keep (Aa (Below.refl _ _) n)
theorem Yr {w:World} {p:Option Addr} {c u v:Nat} (h:Nm w p c u) (E:u<v):Ip w (.returned (.tuple #[.slice none 0 0,.slice p (nd u) c])) (u / v) (u % v):=by
 rw[Nat.div_eq_of_lt E,Nat.mod_eq_of_lt E];exact⟨none,0,p,c,rfl,Nm.nil _,h⟩
def lJ (w':World) (e:Ending) (v:Nat):Prop:=∃p n c,e=.returned (.slice p n c)/\nd v=n/\Nm w' p c v
theorem RetN.op {w':World} {e:Ending} {v:Nat} (h:RetN w' e v):lJ w' e v:=by
 obtain⟨p,c,E,I⟩:=h;exact⟨p,_,c,E,rfl,I⟩
theorem Yq {w:World} {p p':Option Addr} {c E n I q r:Nat} (J:nd q=n) (M:nd r=I) (O:Nm w p c q) (U:Nm w p' E r):Ip w (.returned (.tuple #[.slice p n c,.slice p' I E])) q r:=by
 subst J;subst M;exact⟨p,c,p',E,rfl,O,U⟩
theorem Ol (p:Option Addr) (c u:Nat) (q:Option Addr) (d v:Nat) (w:World) (U:Nm w p c u) (V:Nm w q d v) (hu:nd u<=35184372088830) (hv:nd v<=35184372088830) (E:u<v):
  Calls prog 205 #[.slice p (nd u) c,.slice q (nd v) d] w λe w'=>Ip w' e (u / v) (u % v)/\Below w.heap.size w w':=by
 have J:=Ea p c u q d v w U V (by omega) (by omega);rw[J6 E]at J;replace J:=Kh J;have M:=Kh (λk=>R9 p c (nd u) (dg u) (w.drewN k) (U.drewN k) hu);have O:=Kh E;clear U V E;go_enter func205,ntmps205
 go_wp2_with (go_at_call 167;refine J.1.mono ?_;rintro e w' ⟨rfl,k,rfl⟩)
 refine(M.1 k).mono ?_;rintro e w1 ⟨⟨p1,c1,r1,rfl,h,hv1⟩,Z⟩;have hn:Ip w1 (.returned (.tuple #[.slice none 0 0,.slice p1 (nd u) c1])) (u / v) (u % v):=Yr (h.nm (by rw[hv1,Bt]) rfl) O.1;have I:Below w.heap.size w w1:=(Aa (Below.refl _ _) k).trans Z;have HN:=Kh hn;have HB:=Kh I;clear h hv1 Z hn I;go_wp2;go_ret2
 exact⟨HN.1,HB.1⟩
theorem M3 {u v:Nat} (h:v<=u):∃s:Nat,Int.sign ((u:Int) - v)=s:=by
 rcases Nat.lt_or_ge v u with E|E
 ·exact⟨1,M5 E⟩
 ·obtain rfl:u=v:=by omega
  exact⟨0,by simp⟩
theorem I6 (p:Option Addr) (c u:Nat) (w:World) (h:Nm w p c u) (hn:nd u<=2):
  Calls prog 204 #[.slice p (nd u) c] w λe w'=>e=.returned (.int .u64 (u:Nat))/\∃k,w'=w.drewN k:=by
 have:=fZ p c (nd u) (dg u) w h hn;rw[Bt]at this;exact this
theorem Fv {u:Nat} (h:nd u<=2):u<18446744073709551616:=by
 have:=Bf.1 h;omega
theorem Qv (p:Option Addr) (c u:Nat) (q:Option Addr) (d v:Nat) (w:World) (h1:Nm w p c u) (h2:Nm w q d v) (hu:nd u<=2) (hv:0<v) (aK:v<=u):
  Calls prog 205 #[.slice p (nd u) c,.slice q (nd v) d] w λe w'=>Ip w' e (u / v) (u % v)/\Below w.heap.size w w':=by
 have aN:nd v<=2:=nM (Bq aK) hu;obtain⟨s,hs⟩:=M3 aK;have gA:decide ((s:Int)<0)=false:=decide_eq_false (by omega);have HC:=Ea p c u q d v w h1 h2 (by omega) (by omega);rw[hs]at HC;replace HC:=Kh HC;have H1:=Kh (λ(w1:World) (hb:Below w.heap.size w w1)=>I6 p c u w1 (h1.keep hb) hu);have H2:=Kh (λ(w1:World) (hb:Below w.heap.size w w1)=>I6 q d v w1 (h2.keep hb) aN);have cF:=Fv hu;have cG:=Fv aN;obtain⟨Q,hQ⟩:∃Q,u / v=Q:=⟨_,rfl⟩
 obtain⟨R,hR⟩:∃R,u % v=R:=⟨_,rfl⟩
 have cB:Q<=u:=by rw[<-hQ];exact Nat.div_le_self _ _
 have cC:R<v:=by rw[<-hR];exact Nat.mod_lt _ hv
 have HQ:=Kh (λw=>(Hx Q w (by omega)).mono (λ_ _ h=>And.imp_left RetN.op h));have HR:=Kh (λw=>(Hx R w (by omega)).mono (λ_ _ h=>And.imp_left RetN.op h));have eT:Int.tdiv (u:Int) (v:Int)=(Q:Nat):=by rw[Int.tdiv_eq_ediv_of_nonneg (by omega),<-hQ];exact(Int.natCast_ediv _ _).symm
 have eY:Int.tmod (u:Int) (v:Int)=(R:Nat):=by rw[Int.tmod_eq_emod_of_nonneg (by omega),<-hR];exact(Int.natCast_emod _ _).symm
 have cT:(u:Int) / (v:Int)=(Q:Nat):=by rw[<-hQ];exact(Int.natCast_ediv _ _).symm
 have cX:(u:Int) % (v:Int)=(R:Nat):=by rw[<-hR];exact(Int.natCast_emod _ _).symm
 have eX:IntKind.u64.wrap (Q:Int)=Q:=by rw[IntKind.wrap_u64];omega
 have gI:((v:Int)==0)=false:=beq_eq_false_iff_ne.2 (by omega);have hv1:(v:Int)≠0:=by omega
 have hv2:v≠0:=by omega
 rw[hQ,hR];have J:(nd u:Int)<=2:=by omega
 clear h1 h2 aK cF cG hs hQ hR cB cC hu aN;generalize nd u=n at *;generalize nd v=m at *;go_enter func205,ntmps205
 go_wp2_with fail
 refine HC.1.mono ?_;rintro e w1 ⟨rfl,hq⟩;have B1:=A4 hq;have M:=Kh B1;clear hq B1;go_wp2_with fail
 refine(H1.1 _ M.1).mono ?_;rintro e w2 ⟨rfl,hq⟩;have B2:=M.1.trans ((A4 hq).mono M.1.size);have O:=Kh B2;clear hq B2;go_wp2_with fail
 refine(H2.1 _ O.1).mono ?_;rintro e w3 ⟨rfl,hq⟩;have B3:=O.1.trans ((A4 hq).mono O.1.size);have U:=Kh B3;clear hq B3;go_upto_region 5 with(fail)
 have M1:True:=trivial;go_region_held3 (λ_=>True) (exact trivial) (first |(go_at_call 132;clear M1;refine(HQ.1 _).mono ?_;rintro e w4 ⟨⟨p1,n1,c1,rfl,aD,V⟩,E⟩;replace aD:=Kh aD;replace V:=Kh V;replace E:=Kh E) |(go_at_call 132;refine(HR.1 _).mono ?_;rintro e w5 ⟨⟨p2,n2,c2,rfl,J,Z⟩,I⟩;replace J:=Kh J;replace Z:=Kh Z;replace I:=Kh I))
 go_wp2;go_ret2
 exact⟨Yq aD.1 J.1 (V.1.keep I.1) Z.1,((Aa U.1 1).trans (E.1.mono U.1.size)).trans (I.1.mono (nM U.1.size E.1.size))⟩
theorem Va {v:Nat} (h:nd v=1):dg v 0=v/\v<4294967296/\v≠0:=by
 have J:=(Bf (v:=v) (k:=1)).1 (by omega);have I:=Bs.1 (show 0<nd v by omega);have E:=Bt v;rw[h,vf,vf]at E;refine⟨by simpa using E,by omega,I⟩
theorem Ok (p:Option Addr) (c u:Nat) (q:Option Addr) (d v:Nat) (w:World) (h1:Nm w p c u) (h2:Nm w q d v) (hu:2<nd u) (bA:nd u<=35184372088830) (hv:nd v=1) (bB:v<=u):
  Calls prog 205 #[.slice p (nd u) c,.slice q (nd v) d] w λe w'=>Ip w' e (u / v) (u % v)/\Below w.heap.size w w':=by
 obtain⟨hv1,hv2,dC⟩:=Va hv;obtain⟨s,hs⟩:=M3 bB;have gN:decide ((s:Int)<0)=false:=decide_eq_false (by omega);have O:=Ea p c u q d v w h1 h2 (by omega) (by omega);rw[hs]at O;replace O:=Kh O;have HS:=Kh (λ(M:World) (hb:Below w.heap.size w M)=>bQ p c (nd u) (dg u) v M (Dg.keep h1 hb) (by omega) (by omega) (by omega));rw[Bt]at HS;obtain⟨g,o,rfl,hg,E⟩:=h2.head (by omega)
 have aD:∀M,Below w.heap.size w M->M.cell? ⟨g,o,none⟩=some (.int .u32 (v:Nat)):=λM hb=>by
  have:=(hb.cell (p:=⟨g,o,none⟩) hg).trans (E 0 (by omega));rw[hv1]at this;exact this
 have V:=Kh aD;obtain⟨Q,hQ⟩:∃Q,u / v=Q:=⟨_,rfl⟩
 obtain⟨R,hR⟩:∃R,u % v=R:=⟨_,rfl⟩
 have cS:R<v:=by rw[<-hR];exact Nat.mod_lt _ (by omega)
 have HW:=Kh (λw=>(Hx R w (by omega)).mono (λ_ _ h=>And.imp_left RetN.op h));rw[hQ,hR]at HS;rw[hQ,hR,hv];rw[hv]at O;have gL:(2:Int)<(nd u:Int):=by omega
 have eP:decide ((nd u:Int)<=2)=false:=decide_eq_false (by omega);have cF:=Kh bA;have cC:=Kh (show(R:Int)<4294967296 by omega);clear h1 h2 bB hs hQ hR cS hu E aD hv hv1 hv2 dC bA;generalize nd u=n at *;go_enter func205,ntmps205
 go_wp2_with fail
 refine O.1.mono ?_;rintro e M ⟨rfl,hq⟩;have B1:=A4 hq;have I:=Kh B1;have c0:=V.1 _ B1;clear hq B1 O V;go_wp2_with fail
 refine(HS.1 _ I.1).mono ?_;rintro e w2 ⟨⟨p2,c2,r2,rfl,aK,hv2⟩,Z⟩;have HT:=Kh (Ds p2 c2 n r2 w2 aK (by have:=cF.1;omega));rw[hv2]at HT;have B2:=I.1.trans (Z.mono I.1.size);have U:=Kh B2;clear Z B2 aK hv2 HS c0;go_wp2_with fail
 refine HT.1.mono ?_;rintro e w3 ⟨⟨rfl,hm⟩,rfl⟩;obtain⟨k,hk⟩:∃k,nd Q=k:=⟨_,rfl⟩
 rw[hk];have HM:=Kh hm;have HK:=Kh hk;have gI:=cC.1;clear HT hm hk;go_wp2_with fail
 refine(HW.1 _).mono ?_;rintro e w4 ⟨⟨p4,n4,c4,rfl,aX,aN⟩,J⟩;have hf:=Yq HK.1 aX (HM.1.keep J) aN;have B4:=U.1.trans (J.mono U.1.size);have HF:=Kh hf;have cB:=Kh B4;clear hf B4 J aX aN;go_wp2;go_ret2
 exact⟨HF.1,cB.1⟩
theorem kI {v:Nat} (O:v≠0):∃t S,dg v (nd v - 1)=t/\t<4294967296/\S<32/\(32 - (Lib.bitLen t:Int))=(S:Nat)/\nd (v*2 ^ S)=nd v/\2147483648<=dg (v*2 ^ S) (nd v - 1)/\v*2 ^ S<4294967296 ^ (nd v)/\4294967296 ^ (nd v - 1)*2147483648<=v*2 ^ S:=by
 obtain⟨m,hm⟩:∃m,nd v=m+1:=⟨nd v - 1,by have:=Bs.2 O;omega⟩
 have J:=Bf.1 (nL (nd v))
 have M:dg v (nd v - 1)=v / 4294967296 ^ (nd v - 1):=by
  unfold dg;rw[hm]at J ⊢;simp only[Nat.add_sub_cancel];rw[Nat.mod_eq_of_lt];rw[Nat.div_lt_iff_lt_mul (Dig.pow_pos m),<-Ay];exact J
 obtain⟨t,E⟩:∃t,v / 4294967296 ^ (nd v - 1)=t:=⟨_,rfl⟩
 have I:t<4294967296:=by rw[<-E,<-M];exact dg_lt _ _
 have hl:Lib.bitLen t<=32:=Lib.bitLen_le t 32 (by omega) (by omega);obtain⟨U,a2,V,Z,h,a6⟩:=Yg (s:=32 - Lib.bitLen t) O E (by omega);exact⟨t,32 - Lib.bitLen t,M.trans E,I,U,by omega,V,Z,h,a6⟩
theorem U4 {n m M S u v:Nat} {E:Nat->Nat} (hr:∀i,i<n+1->E i<4294967296) (Z:vf E (n+1)=u*2 ^ S) (V:u<4294967296 ^ n) (h:M+m=n+1) (hm:0<m) (U:S<32) (hV:4294967296 ^ (m - 1)*2147483648<=v*2 ^ S):vf (shf E M) m<v*2 ^ S:=by
 have I:=Z7 hr (i:=M) (by omega);rw[show n+1 - M=m from by omega,Z]at I;rw[<-I];have J:=Ey U;refine nN ?_ hV;rw[Nat.div_lt_iff_lt_mul (Dig.pow_pos M)]
 have O:4294967296 ^ (m - 1)*2147483648*4294967296 ^ M=4294967296 ^ n*2147483648:=by
  rw[show n=(m - 1)+M from by omega,Nat.pow_add];simp only[Nat.mul_comm,Nat.mul_left_comm]
 rw[O];exact nN (Nat.mul_lt_mul_of_pos_right V (Nat.two_pow_pos S)) (Nat.mul_le_mul_left _ J)
theorem Qu (p:Option Addr) (c u:Nat) (q:Option Addr) (d v:Nat) (w:World) (h1:Nm w p c u) (h2:Nm w q d v) (hu:2<nd u) (oL:nd u<=35184372088830) (hv:1<nd v) (hP:v<=u):
  Calls prog 205 #[.slice p (nd u) c,.slice q (nd v) d] w λe w'=>Ip w' e (u / v) (u % v)/\Below w.heap.size w w':=by
 have oN:v≠0:=Bs.1 (by omega);have pO:=Bq hP;obtain⟨s,hs⟩:=M3 hP;have qW:decide ((s:Int)<0)=false:=decide_eq_false (by omega);have HC:=Ea p c u q d v w h1 h2 (by omega) (by omega);rw[hs]at HC;replace HC:=Kh HC;obtain⟨t,S,ht,pN,hS,oA,aX,bY,hD,hB⟩:=kI oN;obtain⟨g,o,rfl,hg,aK⟩:=h2.head (by omega)
 have oC:∀w1,Below w.heap.size w w1->w1.cell? ⟨g,o+(nd v - 1),none⟩=some (.int .u32 (t:Nat)):=λw1 hb=>by
  have:=(hb.cell (p:=⟨g,o+(nd v - 1),none⟩) hg).trans (aK (nd v - 1) (by omega));rw[ht]at this;exact this
 have mE:=Kh oC;have gN:=Kh (λw=>fL (t:Int) w (by omega) (by omega));rw[Int.toNat_natCast,oA]at gN;have H1:=Kh (λ(w1:World) (hb:Below w.heap.size w w1)=>Lv p c (nd u) (dg u) S w1 (Dg.keep h1 hb) (by omega) (by omega));have H2:=Kh (λ(w1:World) (hb:Below w.heap.size w w1)=>Lv (some ⟨g,o,none⟩) d (nd v) (dg v) S w1 (Dg.keep h2 hb) (by omega) (by omega));rw[Bt]at H1 H2;have oM:u<4294967296 ^ nd u:=Bf.1 (nL _);have qN:(S:Int)<32:=by omega
 have dY:(2:Int)<(nd u:Int):=by omega
 have qA:decide ((nd u:Int)<=2)=false:=decide_eq_false (by omega);have qT:(1:Int)<(nd v:Int):=by omega
 have pY:((nd v:Int)==1)=false:=beq_eq_false_iff_ne.2 (by omega);have e1:((nd v:Int) - 1).toNat=nd v - 1:=by omega
 obtain⟨V,hV⟩:∃V,v*2 ^ S=V:=⟨_,rfl⟩
 rw[hV]at H2 aX bY hD hB;have cG:=Kh hV;have gS:=Kh (show 0<V by rw[<-hV];exact Nat.mul_pos (by omega) (Nat.two_pow_pos S));obtain⟨M,hM⟩:∃M,M+nd v=nd u+1:=⟨nd u+1 - nd v,by omega⟩
 have qL:(nd u:Int)+1 - (nd v:Int)=(M:Nat):=by omega
 have HM:=Kh hM;have nS:=Kh bY;have gP:=Kh hD;have pF:=Kh hB;have pE:=Kh oM;have nC:=Kh aX;have pD:=Kh oL;have qU:nd v<=35184372088830:=by omega
 have qV:nd u<=35184372088830:=by omega
 have qM:M<=35184372088830:=by omega
 have pC:=Kh hS;have qI:=Kh (show 0<v by omega);obtain⟨Q,hQ⟩:∃Q,u / v=Q:=⟨_,rfl⟩
 obtain⟨R,hR⟩:∃R,u % v=R:=⟨_,rfl⟩
 have HQ:=Kh hQ;have HR:=Kh hR;rw[hQ,hR];clear hV h1 h2 hu oL hv hP oN pO hs ht oC pN hS oA aX bY hD hB aK oM hM hQ hR;generalize nd u=n at *;generalize nd v=m at *;go_enter func205,ntmps205
 go_wp2_with fail
 refine HC.1.mono ?_;rintro e w1 ⟨rfl,hq⟩;have B1:=A4 hq;have h:=Kh B1;have c0:=mE.1 _ B1;clear hq B1 HC mE;go_wp2_with fail
 refine(gN.1 _).mono ?_;rintro e w2 ⟨rfl,rfl⟩;clear c0 gN;go_wp2_with fail
 refine(H1.1 _ h.1).mono ?_;rintro e w3 ⟨⟨gu,cu,r0,rfl,qO,oG,gF,I⟩,oB⟩;have B3:=h.1.trans (oB.mono h.1.size);have cC:=Kh B3;have Z:=Kh gF;have eP:=Kh I;have oZ:=Kh (nM h.1.size oG);clear H1 h B3 oB gF I oG;go_wp2_with fail
 refine(H2.1 _ cC.1).mono ?_;rintro e w4 ⟨⟨gv,cv,rv,rfl,oD,pL,bA,cA⟩,hE⟩;have B4:=cC.1.trans (hE.mono cC.1.size);have HT:=Ds (some ⟨gv,0,none⟩) cv (m+1) rv w4 (bA.dg cv oD) (by have:=pD.1;have:=HM.1;omega);rw[cA,nC.1]at HT;have HT:=Kh HT;have oI:gv≠gu:=by have:=Z.1.1.lt;omega
 have E:=Kh (Z.1.below hE Z.1.1.lt);have gL:=Kh B4;clear H2 cC B4 hE bA cA pL oD Z;go_wp2_with fail
 refine HT.1.mono ?_;rintro e w5 ⟨⟨rfl,dE⟩,rfl⟩
 have hG:Dg w5 (some ⟨gv,0,none⟩) cv m (dg V):=by
  unfold Nm at dE;rw[nC.1]at dE;exact dE
 have pM:∀w,(Instr.makeSlice 82 (.int .i64 (M:Int)) (.int .i64 (M:Int))).run prog w=.ok (.slice (some ⟨w.heap.size,0,none⟩) M M) (w.alloc (.cells (madeCells #[.int .u32 0] M) 200)):=Gj M (by omega)
 obtain⟨w6,eG⟩:∃w6,w5.alloc (.cells (madeCells #[.int .u32 0] M) 200)=w6:=⟨_,rfl⟩
 obtain⟨O,cX⟩:∃O,w5.heap.size=O:=⟨_,rfl⟩
 have cT:Below w5.heap.size w5 w6:=by rw[<-eG];exact(Below.refl _ _).alloc (nL _) _
 have J:=Row.made w5 M;rw[eG,cX]at J
 have eY:gv<w5.heap.size:=by
  obtain⟨g',o',e',qQ,_⟩:=hG.head (by omega);injection e' with e';injection e' with e1 e2;omega
 have gA:O≠gu:=by have:=E.1.1.lt;omega
 have oJ:gv≠O:=by omega
 have oF:w.heap.size<=O:=by rw[<-cX];exact gL.1.size
 have hJ:∀i,i<n+1->r0 i<4294967296:=E.1.2
 have bE:Hr w6 gu O m M M r0 V:=Rf (by rw[HM.1];exact E.1.below cT E.1.1.lt) J (by rw[<-cG.1];exact U4 hJ eP.1 pE.1 HM.1 (by omega) pC.1 (by rw[cG.1];exact pF.1));have nQ:=Kh bE;have nA:=Kh (hG.below cT eY);have mC:=bt gL cT;have nD:=Kh hJ;clear bE hG dE HT J hJ eY;go_wp2;try rw[cX,eG]
 clear eG cX cT E gL pM;go_loopw [14] (λhY wr=>∃k:Nat,k<=M/\hY=.int .i64 ((k:Int) - 1)/\Hr wr gu O m M k r0 V/\Dg wr (some ⟨gv,0,none⟩) cv m (dg V)/\Below w.heap.size w wr) (λhY _=>(intOf hY+1).toNat)
 case atStart=>exact⟨M,nL _,by go_num,nQ.1,nA.1,mC.1⟩
 case round=>
  clear nQ nA mC;obtain⟨k,hk,rfl,hl,hd,hb⟩:=hrel;have HL:=Kh hl;have HD:=Kh hd;have HB:=Kh hb;clear hl hd hb;by_cases hk0:k=0
  ·subst hk0
   obtain⟨r,q,bC,J,eF,U⟩:=Ye HL.1;have hU:vf r0 (M+m)=u*2 ^ S:=by rw[HM.1];exact eP.1
   rw[hU,<-cG.1,Nat.mul_mod_mul_right]at eF;rw[hU,<-cG.1,Nat.mul_div_mul_right _ _ (Nat.two_pow_pos S),HQ.1]at U;rw[HR.1]at eF;have aD:=Ds (some ⟨O,0,none⟩) M M q wr.drew ((J.dg M (nL _)).keep (Aa (Below.refl _ _) 1)) (by omega);have HU:=Ow (some ⟨gu,0,none⟩) cu m r S wr.drew (((bC.dg cu (by have:=HM.1;omega)).take (k:=m) (by omega)).keep (Aa (Below.refl _ _) 1)) (by omega) (by omega);rw[U]at aD;rw[eF,Nat.mul_div_cancel _ (Nat.two_pow_pos S)]at HU;obtain⟨k1,hH⟩:∃k1,nd Q=k1:=⟨_,rfl⟩
   rw[hH]at aD;obtain⟨k2,oH⟩:∃k2,nd R=k2:=⟨_,rfl⟩
   replace aD:=Kh aD;replace HU:=Kh HU;have pA:=Kh hH;have nB:=Kh oH;have pZ:(m:Int)<=(cu:Int):=by have:=HM.1;omega
   have M1:True:=trivial;clear bC J eF U hU hH oH HL HD;go_upto_region 17 with(fail)
   go_region_held3 (λ_=>True) (exact trivial) (first
    |(go_at_call 129;clear M1;refine aD.1.mono ?_;rintro e w' ⟨⟨rfl,hI⟩,rfl⟩;replace hI:=Kh hI)
    |(go_at_call 218;refine HU.1.mono ?_;rintro e w7 ⟨⟨p2,c2,r2,rfl,oE,hv2⟩,cS⟩;have cF:=Ds p2 c2 m r2 w7 oE (by omega);rw[hv2,nB.1]at cF;replace cF:=Kh cF;replace cS:=Kh cS;clear oE hv2)
    |(go_at_call 129;refine cF.1.mono ?_;rintro e w' ⟨⟨rfl,dY⟩,rfl⟩;replace dY:=Kh dY))
   go_wp2;go_ret2
   exact⟨Yq pA.1 nB.1 (hI.1.keep cS.1) dY.1,(Aa HB.1 1).trans (cS.1.mono HB.1.size)⟩
  ·obtain⟨j,rfl⟩:∃j,k=j+1:=⟨k - 1,by omega⟩
   have nU:(((j+1:Nat):Int) - 1)=(j:Int):=by omega
   rw[nU];obtain⟨r,q,bC,J,aN,I,U⟩:=HL.1;obtain⟨X,hX⟩:∃X,vf (shf r0 (j+1)) (M+m - (j+1))=X:=⟨_,rfl⟩
   rw[hX]at I U;obtain⟨hT,hW⟩:=Pf aN I gS.1;have DC:=bH gu j (M+m) m (cu - j) gv 0 cv r (dg V) wr bC (by omega) (by omega) HD.1 oI nS.1 (by rw[P9 gP.1];exact hW (nD.1 j (by have:=HM.1;omega))) (by omega);obtain⟨Qd,cM⟩:∃Qd,(r0 j+4294967296*(X % V)) / V=Qd:=⟨_,rfl⟩
   have nZ:Qd<4294967296:=by
    rw[<-cM,<-hT,Nat.div_lt_iff_lt_mul gS.1,Nat.mul_comm];exact hW (nD.1 j (by have:=HM.1;omega))
   rw[P9 gP.1,hT,cM]at DC
   have bE:∀w',Only gu wr w'->I2 w' gu (M+m) j m r ((r0 j+4294967296*(X % V)) % V)->(∃y,w'.cell? ⟨O,j,none⟩=some y)/\w'.frozen? ⟨O,j,none⟩=false/\Hr (w'.setCell ⟨O,j,none⟩ (.int .u32 Qd)) gu O m M j r0 V/\Dg (w'.setCell ⟨O,j,none⟩ (.int .u32 Qd)) (some ⟨gv,0,none⟩) cv m (dg V)/\Below w.heap.size w (w'.setCell ⟨O,j,none⟩ (.int .u32 Qd)):=by
    intro w' hO ⟨r',oK,dC,hN⟩;have bB:=hO.row J gA;refine⟨⟨_,bB.1.cell (by omega)⟩,bB.1.frozen _,?_,?_,?_⟩
    ·exact U5 (by omega) hX aN oK dC hN bB U gS.1 (Nat.le_of_lt gP.1) cM nZ gA
    ·exact((Only.refl O w').set j _).dg (hO.dg HD.1 oI) oJ
    ·exact(HB.1.trans (hO.below oZ.1 HB.1.size)).setCell oF _
   have HN:=Kh bE;replace DC:=Kh DC;have qR:decide ((0:Int)<=(j:Int))=true:=decide_eq_true (by omega);have qS:(j:Int)+m+1<=cu:=by have:=HM.1;omega
   have ej:j+m+1 - j=m+1:=by omega
   have nY:(Qd:Int)<4294967296:=by omega
   have qG:=Kh nY;clear nU hk0 bC J aN I U hX hT hW cM nZ bE HL HD nY;go_wp2_with fail
   rw[ej];refine DC.1.mono ?_;rintro e w' ⟨rfl,hO,nX⟩;obtain⟨⟨y,hy⟩,qP,hL,nW,nV⟩:=HN.1 w' hO nX;have pB:=Kh hL;have oY:=Kh nW;have oX:=Kh nV;clear hO nX hL nW nV DC HN ej;go_wp2;go_roundw
   case rel=>exact⟨j,by omega,by go_num,pB.1,oY.1,oX.1⟩
   case measure=>simp[intOf]
theorem Om (p:Option Addr) (c u:Nat) (q:Option Addr) (d v:Nat) (w:World) (E:Nm w p c u) (I:Nm w q d v) (M:nd u<=35184372088830) (V:nd v<=35184372088830) (O:v≠0):
  Calls prog 205 #[.slice p (nd u) c,.slice q (nd v) d] w λe w'=>Ip w' e (u / v) (u % v)/\Below w.heap.size w w':=by
 rcases Nat.lt_or_ge u v with h|h
 ·exact Ol p c u q d v w E I M V h
 ·rcases Nat.lt_or_ge 2 (nd u)with J|J
  ·have Z:=Bs.2 O
   rcases Nat.lt_or_ge 1 (nd v)with U|U
   ·exact Qu p c u q d v w E I J M U h
   ·exact Ok p c u q d v w E I J M (by omega) h
  ·exact Qv p c u q d v w E I J (by omega) h
theorem Dg.trim {w:World} {p:Option Addr} {c n:Nat} {a:Nat->Nat} (h:Dg w p c n a):Nm w p c (vf a n):=by
 have E:nd (vf a n)<=n:=Bf.2 (D1 h.lt);exact(h.take E).congr λj I=>Xd h.lt j (by omega)
theorem B5 (E:Bool) (p:Option Addr) (c n:Nat) (a:Nat->Nat) (w:World) (h:Dg w p c n a) (hn:n<=70368744177664):
  Calls prog 131 #[.bool E,.slice p n c] w λe w'=>K7 w' e (sg E (vf a n))/\Below w.heap.size w w':=by
 have J:∀o,Below w.heap.size w (w.alloc o):=λo=>(Below.refl _ _).alloc (nL _) o
 have M:=Kh (λU (J:Below w.heap.size w U)=>Ds p c n a U (h.keep J) hn);have Z:=Kh h.trim;obtain⟨k,O⟩:∃k,nd (vf a n)=k:=⟨_,rfl⟩
 rw[O]at M;have V:=Kh O;have I:=Kh J;clear h O J;go_enter func131,ntmps131
 go_wp2_with fail
 refine(M.1 _ (I.1 _)).mono ?_;rintro e U ⟨⟨rfl,hm⟩,rfl⟩;clear M hm;cases E with
 | false=>
  go_wp2;go_returns
  exact⟨⟨_,p,k,c,rfl,Ts (Z.1.keep (I.1 _)) V.1 (by simp)⟩,I.1 _⟩
 | true=>
  go_wp2;go_returns
  exact⟨⟨_,p,k,c,rfl,Ts (Z.1.keep (I.1 _)) V.1 (by simp)⟩,I.1 _⟩
theorem J5 (p:Option Addr) (c u:Nat) (w:World) (h:Nm w p c u) (hn:nd u<=35184372088830):
  Calls prog 147 #[.slice p (nd u) c] w λe w'=>RetN w' e u/\Below w.heap.size w w':=by
 refine(R9 p c (nd u) (dg u) w h hn).mono ?_;rintro e w' ⟨⟨M,c1,O,rfl,I,J⟩,E⟩;exact⟨⟨M,c1,rfl,I.nm (by rw[J,Bt]) rfl⟩,E⟩
theorem Wp (p:Option Addr) (c u:Nat) (q:Option Addr) (d v:Nat) (w:World) (h1:Nm w p c u) (h2:Nm w q d v) (hu:nd u<=35184372088830) (hv:nd v<=35184372088830):
  Calls prog 169 #[.slice p (nd u) c,.slice q (nd v) d] w λe w'=>RetN w' e (Nat.gcd u v)/\Below w.heap.size w w':=by
 obtain⟨G,hG⟩:∃G,Nat.gcd u v=G:=⟨_,rfl⟩
 obtain⟨n,hn⟩:∃n,nd u=n:=⟨_,rfl⟩
 obtain⟨m,hm⟩:∃m,nd v=m:=⟨_,rfl⟩
 have HG:=Kh hG;have H1:=Kh h1;have H2:=Kh h2;have HN:=Kh hn;have HM:=Kh hm;rw[hn]at hu;rw[hm]at hv;rw[hG,hn,hm];clear h1 h2 hn hm hG;go_enter func169,ntmps169
 go_wp2;go_loopg [0,1] v (λb v0 v1 wr=>∃(a n m:Nat) (p q:Option Addr) (c d:Nat),v0=.slice p n c/\v1=.slice q m d/\nd a=n/\nd b=m/\n<=35184372088830/\m<=35184372088830/\Nm wr p c a/\Nm wr q d b/\Nat.gcd a b=G/\Below w.heap.size w wr)
 case atStart=>exact⟨u,n,m,p,q,c,d,rfl,rfl,HN.1,HM.1,hu,hv,H1.1,H2.1,HG.1,Below.refl _ _⟩
 case round=>
  clear H1 H2 HG HN HM hu hv n m c d p q u;obtain⟨a,n,m,p,q,c,d,rfl,rfl,hn,hm,gS,gN,h1,h2,hG,hb⟩:=hrel;have HB:=Kh hb;have HG:=Kh hG;by_cases hm0:m=0
  ·subst hm0
   obtain rfl:gk=0:=by
    have:=Bs (v:=gk);omega
   have hC:=J5 p c a wr h1 (by omega);rw[hn]at hC;rw[Nat.gcd_zero_right]at hG;subst hG;replace hC:=Kh hC;clear h1 h2 hb HG hn hm;go_wp2_with fail
   refine hC.1.mono ?_;rintro e J ⟨hr,E⟩;obtain⟨p1,c1,rfl,dE⟩:=hr;obtain⟨k,hk⟩:∃k,nd a=k:=⟨_,rfl⟩
   rw[hk];have HK:=Kh hk;have gA:=Kh dE;have M:=bt HB E;clear dE E hk hC;go_wp2;go_ret;exact⟨⟨p1,c1,by rw[HK.1];rfl,gA.1⟩,M.1⟩
  ·have gL:0<m:=by omega
   by_cases hsm:n<=2/\m<=2
   ·have hx:=Fv (u:=a) (by omega)
    have hy:=Fv (u:=gk) (by omega);have V:=I6 p c a wr h1 (by omega);have Z:=λJ (E:Below wr.heap.size wr J)=>I6 q d gk J (h2.keep E) (by omega)
    rw[hn]at V;rw[hm]at Z;have gP:n<=2:=hsm.1;have cF:m<=2:=hsm.2;have HX:=Kh hx;have HY:=Kh hy;replace V:=Kh V;replace Z:=Kh Z;clear h1 h2 hb hG hn hm hx hy hsm gS gN hm0;go_wp2_with fail
    refine V.1.mono ?_;rintro e J ⟨rfl,hq⟩;have E:=A4 hq;have M:=Kh E;clear hq E V;go_wp2_with fail
    refine(Z.1 _ M.1).mono ?_;rintro e w2 ⟨rfl,hq⟩;have cT:=Kh ((HB.1.trans (M.1.mono HB.1.size)).trans ((A4 hq).mono (nM HB.1.size M.1.size)));clear hq Z M HB;go_wp2;go_loopw [5,6] (λv5 v6 wi=>∃x y:Nat,v5=.int .u64 x/\v6=.int .u64 y/\Nat.gcd x y=G/\Hd (x<18446744073709551616/\y<18446744073709551616)/\Below w.heap.size w wi) (λ_ v6 _=>(intOf v6).toNat)
    case atStart=>exact⟨a,gk,rfl,rfl,HG.1,Kh ⟨HX.1,HY.1⟩,cT.1⟩
    case round=>
     clear HG HX HY cT gL gP cF;obtain⟨x,y,rfl,rfl,hg,cI,hb⟩:=hrel;have HB:=Kh hb;by_cases hy0:y=0
     ·subst hy0
      rw[Nat.gcd_zero_right]at hg;subst hg;have HW:=Kh (λw=>(Hx x w cI.1.1).mono (λ_ _ h=>And.imp_left RetN.op h));clear hb;go_wp2_with fail
      refine(HW.1 _).mono ?_;rintro e w4 ⟨⟨p4,n4,c4,rfl,eF,dY⟩,dC⟩;have gI:=Kh eF;have gF:=Kh dY;have eY:=bt HB dC;clear eF dY dC HW;go_wp2;go_ret;exact⟨⟨p4,c4,by rw[gI.1];rfl,gF.1⟩,eY.1⟩
     ·obtain⟨R,hR⟩:∃R,x % y=R:=⟨_,rfl⟩
      have aD:R<y:=by rw[<-hR];exact Nat.mod_lt _ (by omega)
      have hQ:Int.tmod (x:Int) (y:Int)=(R:Nat):=by rw[Int.tmod_eq_emod_of_nonneg (by omega),<-hR];exact(Int.natCast_emod _ _).symm
      have hM:(x:Int) % (y:Int)=(R:Nat):=by rw[<-hR];exact(Int.natCast_emod _ _).symm
      have I:Nat.gcd y R=G:=by rw[<-hg,<-hR,Nat.gcd_comm x y,Nat.gcd_rec y x,Nat.gcd_comm]
      have HN:=Kh I;have hT:((y:Int) != 0)=true:=by rw[bne_iff_ne];omega
      have hS:(y:Int)≠0:=by omega
      have O:=Kh aD;clear hb I hR hg aD;go_wp2;go_quiet (fail)
      go_wp2;go_roundw
      case rel=>exact⟨y,R,rfl,rfl,HN.1,Kh ⟨cI.1.2,by have:=cI.1.2;have:=O.1;omega⟩,Aa HB.1 _⟩
      case measure=>simp[intOf];exact O.1
   ·have cX:gk≠0:=Bs.1 (by omega)
    have hC:=Om p c a q d gk wr h1 h2 (by omega) (by omega) cX;rw[hn,hm]at hC;obtain⟨R,hR⟩:∃R,a % gk=R:=⟨_,rfl⟩
    have aD:R<gk:=by rw[<-hR];exact Nat.mod_lt _ (by omega)
    have I:Nat.gcd gk R=G:=by rw[<-hG,<-hR,Nat.gcd_comm a gk,Nat.gcd_rec gk a,Nat.gcd_comm]
    rw[hR]at hC;have HN:=Kh I;have HC:=Kh hC;have O:=Kh aD;have H2:=Kh h2;have HM:=Kh hm;clear h1 h2 hb hG hn hm I hC aD hm0 hR cX
    have aX:∀(J:World) (p2:Option Addr) (c2:Nat),Below wr.heap.size wr J->Nm J p2 c2 R->∃k,nd R=k/\Hd (nd R=k/\k<=35184372088830/\Nm J q d gk/\Nm J p2 c2 R/\Below w.heap.size w J):=by
     intro J p2 c2 E hr;have h1:nd R<=m:=by rw[<-HM.1];exact Bq (Nat.le_of_lt O.1)
     exact⟨_,rfl,rfl,by omega,H2.1.keep E,hr,HB.1.trans (E.mono HB.1.size)⟩
    have HT:=Kh aX;clear aX;by_cases hn2:n<=2
    ·have cF:¬m<=2:=by omega
     clear hsm;go_wp2_with fail
     refine HC.1.mono ?_;rintro e J ⟨⟨p1,c1,p2,c2,rfl,hq,hr⟩,E⟩;obtain⟨k,hk,U⟩:=HT.1 J p2 c2 E hr;rw[hk];obtain⟨k1,aK⟩:∃k1,nd (a / gk)=k1:=⟨_,rfl⟩
     rw[aK];clear hk aK hq hr E HT HC;go_wp2;go_roundg R
     case measure=>exact O.1
     case rel=>exact⟨gk,m,k,q,p2,d,c2,rfl,rfl,HM.1,U.1.1,by omega,U.1.2.1,U.1.2.2.1,U.1.2.2.2.1,HN.1,U.1.2.2.2.2⟩
    ·clear hsm
     go_wp2_with fail
     refine HC.1.mono ?_;rintro e J ⟨⟨p1,c1,p2,c2,rfl,hq,hr⟩,E⟩;obtain⟨k,hk,U⟩:=HT.1 J p2 c2 E hr;rw[hk];obtain⟨k1,aK⟩:∃k1,nd (a / gk)=k1:=⟨_,rfl⟩
     rw[aK];clear hk aK hq hr E HT HC;go_wp2;go_roundg R
     case measure=>exact O.1
     case rel=>exact⟨gk,m,k,q,p2,d,c2,rfl,rfl,HM.1,U.1.1,by omega,U.1.2.1,U.1.2.2.1,U.1.2.2.2.1,HN.1,U.1.2.2.2.2⟩
def cellOf (w:World) (a:Addr):Value:=(w.cell? a).getD (.bool false)
theorem Ah {w:World} {a:Addr} (h:(w.cell? a).isSome=true):w.cell? a=some (cellOf w a):=by
 unfold cellOf;obtain⟨u,E⟩:=nP h;rw[E];rfl
theorem Ca {w:World} {a:Addr} (h:w.cell? a=some (cellOf w a)):(w.cell? a).isSome=true:=by rw[h];rfl
def NotInt (v:Value):Prop:=∀k n,v≠.int k n
theorem NotInt.bool (b:Bool):NotInt (.bool b):=λ_ _ h=>by cases h
theorem NotInt.slice (p:Option Addr) (n c:Nat):NotInt (.slice p n c):=λ_ _ h=>by cases h
def Sts (w:World) (R:Nat):Prop:=R<w.heap.size/\∀i v,w.cell? ⟨R,i,none⟩=some v->NotInt v
theorem Sts.next {w w':World} {R:Nat} (E:Below w.heap.size w w') (h:Sts w R):Sts w' R:=
 ⟨nN h.1 E.size,λi v I=>h.2 i v ((E.cell (p:=⟨R,i,none⟩) h.1).symm.trans I)⟩
theorem Ex {w:World} {p:Addr} (u:Value) (h:w.cell? p=none):(w.setCell p u).cell? p=none:=by
 simp only[World.setCell,World.cell?,Array.getElem?_modify,if_true]at h ⊢;cases hh:w.heap[p.block]? with
 | none=>simp
 | some x=>
  rw[hh]at h;cases x <;> simp only[Option.map_some]at h ⊢
  by_cases hs:p.spot.isSome=true
  ·simp[hs]
  ·simp only[hs,Bool.false_eq_true,if_false]at h ⊢
   rw[Array.getElem?_eq_none_iff]at h ⊢
   simpa using h
theorem Sts.put {w:World} {R:Nat} (h:Sts w R) (p:Addr) (u:Value) (I:NotInt u):Sts (w.setCell p u) R:=by
 refine⟨by simpa using h.1,λi v E=>?_⟩;by_cases hp:p=⟨R,i,none⟩
 ·cases hc:w.cell? p with
  | none=>
   have:((w.setCell p u).cell? p)=none:=by
    exact Ex u hc
   rw[<-hp,this]at E;cases E
  | some y=>
   rw[<-hp,World.cell?_setCell_same' _ _ _ (by rw[hc];rfl)]at E;injection E with E
   rw[<-E];exact I
 ·rw[World.cell?_setCell_other _ _ _ _ hp]at E
  exact h.2 i v E
theorem Sts.of {w:World} {R:Nat} {t:TypeId} {cs:Array Value} (h:Blk w R t cs) (I:∀v∈cs,NotInt v):Sts w R:=
 ⟨h.lt,λi v E=>by
  rw[h.cell_ i]at E;exact I v (Array.mem_of_getElem? E)⟩
theorem Dg.put {w:World} {R:Nat} (V:Sts w R) {p:Option Addr} {c n:Nat} {a:Nat->Nat} (h:Dg w p c n a) (i:Nat) (u:Value):Dg (w.setCell ⟨R,i,none⟩ u) p c n a:=
 ⟨h.cap,h.lt,by
  rcases h.at' with U |⟨g,o,e,hg,J⟩
  ·exact .inl U
  ·rcases Nat.eq_zero_or_pos n with I|I
   ·exact .inl I
   ·refine .inr ⟨g,o,e,by simpa using hg,λj M=>?_⟩
    have E:R≠g:=λO=>V.2 (o+j) _ (by rw[O];exact J j M) _ _ rfl
    rw[World.cell?_setCell_far w ⟨R,i,none⟩ ⟨g,o+j,none⟩ u E];exact J j M⟩
theorem Zs.put {w:World} {R:Nat} (E:Sts w R) {s:Bool} {p:Option Addr} {n c:Nat} {z:Int} (h:Zs w s p n c z) (i:Nat) (u:Value):Zs (w.setCell ⟨R,i,none⟩ u) s p n c z:=⟨h.1,h.2.1,Dg.put E h.2.2 i u⟩
theorem Zs.put2 {w:World} {R:Nat} (E:Sts w R) {s:Bool} {p:Option Addr} {n c:Nat} {z:Int} (h:Zs w s p n c z) (i j:Nat) (u v:Value) (I:NotInt u):Zs ((w.setCell ⟨R,i,none⟩ u).setCell ⟨R,j,none⟩ v) s p n c z:=(h.put E i u).put (E.put _ _ I) j v
def SV (B:Nat) (w0 w:World):List Addr->Prop
 | []=>Below B w0 w/\B<=w.heap.size
 | a :: m=>w.cell? a=some (cellOf w a)/\w.frozen? a=false/\Sts w a.block/\SV B w0 w m
def SS (B:Nat) (w0 w:World) (l:List (Addr×Value)) (m:List Addr):Prop:=
 match l with
 | []=>SV B w0 w m
 |(a,v) :: l=>w.cell? a=some v/\SS B w0 w l m
theorem Ab {w w':World} {a:Addr} (I:Below w.heap.size w w') (h:(w.cell? a).isSome=true) (E:w.frozen? a=false):w'.frozen? a=false:=by
 obtain⟨u,M⟩:=nP h;have J:=World.block_lt_of_cell? w a M;have e:w'.heap[a.block]?=w.heap[a.block]?:=I.block a.block J;unfold World.frozen? at E ⊢;rw[e];exact E
theorem SV.next {B:Nat} {w0 w w':World} {m:List Addr} (E:Below w.heap.size w w') (h:SV B w0 w m):SV B w0 w' m:=by
 induction m with
 | nil=>exact⟨h.1.trans (E.mono h.2),nM h.2 E.size⟩
 | cons a m ih=>
  refine⟨Ah ?_,Ab E (Ca h.1) h.2.1,h.2.2.1.next E,ih h.2.2.2⟩;rw[E.cell (World.block_lt_of_cell? w a h.1)];exact Ca h.1
theorem SS.next {B:Nat} {w0 w w':World} {l:List (Addr×Value)} {m:List Addr} (E:Below w.heap.size w w') (h:SS B w0 w l m):SS B w0 w' l m:=by
 induction l with
 | nil=>exact SV.next E h
 | cons x l ih=>exact⟨(E.cell (World.block_lt_of_cell? w x.1 h.1)).trans h.1,ih h.2⟩
theorem SV.below {B:Nat} {w0 w:World} {m:List Addr} (h:SV B w0 w m):Below B w0 w:=by
 induction m with
 | nil=>exact h.1
 | cons a m ih=>exact ih h.2.2.2
theorem SS.below {B:Nat} {w0 w:World} {l:List (Addr×Value)} {m:List Addr} (h:SS B w0 w l m):Below B w0 w:=by
 induction l with
 | nil=>exact SV.below h
 | cons x l ih=>exact ih h.2
theorem Bb {w:World} {p a:Addr} {v:Value} (h:(w.cell? a).isSome=true):((w.setCell p v).cell? a).isSome=true:=by
 by_cases hp:p=a
 ·rw[hp,World.cell?_setCell_same' _ _ _ h];rfl
 ·rw[World.cell?_setCell_other _ _ _ _ hp];exact h
theorem Aw {w:World} {p a:Addr} {v:Value} (E:w.frozen? a=false):(w.setCell p v).frozen? a=false:=by
 rw[World.frozen?_setCell];exact E
theorem SV.put {B:Nat} {w0 w:World} {m:List Addr} (h:SV B w0 w m) (p:Addr) (v:Value) (I:NotInt v) (E:B<=p.block):SV B w0 (w.setCell p v) m:=by
 induction m with
 | nil=>exact⟨h.1.setCell E v,by simpa using h.2⟩
 | cons a m ih=>exact⟨Ah (Bb (Ca h.1)),Aw h.2.1,h.2.2.1.put p v I,ih h.2.2.2⟩
theorem SS.put {B:Nat} {w0 w:World} {l:List (Addr×Value)} {m:List Addr} (h:SS B w0 w l m) (p:Addr) (v:Value) (J:NotInt v) (I:B<=p.block) (E:∀x∈l,p.block≠x.1.block):SS B w0 (w.setCell p v) l m:=by
 induction l with
 | nil=>exact SV.put h p v J I
 | cons x l ih=>exact⟨(World.cell?_setCell_far w p x.1 v (E x (List.mem_cons_self ..))).trans h.1,ih h.2 (λy M=>E y (List.mem_cons_of_mem _ M))⟩
theorem SV.end_ {B:Nat} {w0 w w':World} {a:Addr} {m:List Addr} (I:Below w.heap.size w w') (h:SV B w0 w m) (E:a∈m):(w'.cell? a).isSome=true/\Sts w' a.block:=by
 induction m with
 | nil=>cases E
 | cons x m ih=>
  rcases List.mem_cons.1 E with rfl|E
  ·refine⟨?_,h.2.2.1.next I⟩
   rw[I.cell (World.block_lt_of_cell? w a h.1)];exact Ca h.1
  ·exact ih h.2.2.2 E
theorem SS.end_ {B:Nat} {w0 w w':World} {a:Addr} {l:List (Addr×Value)} {m:List Addr} (I:Below w.heap.size w w') (h:SS B w0 w l m) (E:a∈m):(w'.cell? a).isSome=true/\Sts w' a.block:=by
 induction l with
 | nil=>exact SV.end_ I h E
 | cons x l ih=>exact ih h.2
theorem Qk (w:World) (c1:Array Value) (E:TypeId):Blk (w.alloc (.cells c1 E)) w.heap.size E c1/\Below w.heap.size w (w.alloc (.cells c1 E)):=
 ⟨Blk.new w _ _,(Below.refl _ _).alloc (nL _) _⟩
theorem T8 (w:World) (c1:Array Value) (E:TypeId) (c2:Array Value) (I:TypeId):Blk ((w.alloc (.cells c1 E)).alloc (.cells c2 I)) w.heap.size E c1/\Blk ((w.alloc (.cells c1 E)).alloc (.cells c2 I)) (w.heap.size+1) I c2/\Below w.heap.size w ((w.alloc (.cells c1 E)).alloc (.cells c2 I)):=by
 have h:=Blk.new (w.alloc (.cells c1 E)) I c2;rw[World.size_alloc]at h;exact⟨(Blk.new w _ _).alloc_ _,h,((Below.refl _ _).alloc (nL _) _).alloc (by simp) _⟩
theorem jK (w:World) (c1:Array Value) (E:TypeId) (c2:Array Value) (I:TypeId) (c3:Array Value) (J:TypeId):Blk (((w.alloc (.cells c1 E)).alloc (.cells c2 I)).alloc (.cells c3 J)) w.heap.size E c1/\Blk (((w.alloc (.cells c1 E)).alloc (.cells c2 I)).alloc (.cells c3 J)) (w.heap.size+1) I c2/\Blk (((w.alloc (.cells c1 E)).alloc (.cells c2 I)).alloc (.cells c3 J)) (w.heap.size+1+1) J c3/\Below w.heap.size w (((w.alloc (.cells c1 E)).alloc (.cells c2 I)).alloc (.cells c3 J)):=by
 obtain⟨M,O,U⟩:=T8 w c1 E c2 I;have h:=Blk.new ((w.alloc (.cells c1 E)).alloc (.cells c2 I)) J c3;rw[World.size_alloc,World.size_alloc]at h;exact⟨M.alloc_ _,O.alloc_ _,h,U.alloc (by simp;omega) _⟩
theorem lL (w:World) (c1:Array Value) (E:TypeId) (c2:Array Value) (I:TypeId) (c3:Array Value) (J:TypeId) (c4:Array Value) (M:TypeId):Blk ((((w.alloc (.cells c1 E)).alloc (.cells c2 I)).alloc (.cells c3 J)).alloc (.cells c4 M)) w.heap.size E c1/\Blk ((((w.alloc (.cells c1 E)).alloc (.cells c2 I)).alloc (.cells c3 J)).alloc (.cells c4 M)) (w.heap.size+1) I c2/\Blk ((((w.alloc (.cells c1 E)).alloc (.cells c2 I)).alloc (.cells c3 J)).alloc (.cells c4 M)) (w.heap.size+1+1) J c3/\Blk ((((w.alloc (.cells c1 E)).alloc (.cells c2 I)).alloc (.cells c3 J)).alloc (.cells c4 M)) (w.heap.size+1+1+1) M c4/\Below w.heap.size w ((((w.alloc (.cells c1 E)).alloc (.cells c2 I)).alloc (.cells c3 J)).alloc (.cells c4 M)):=by
 obtain⟨O,U,V,Z⟩:=jK w c1 E c2 I c3 J;have h:=Blk.new (((w.alloc (.cells c1 E)).alloc (.cells c2 I)).alloc (.cells c3 J)) M c4;rw[World.size_alloc,World.size_alloc,World.size_alloc]at h;exact⟨O.alloc_ _,U.alloc_ _,V.alloc_ _,h,Z.alloc (by simp;omega) _⟩
theorem bx1 (w:World) (c1:Array Value) (E:TypeId):∃w0,(w.alloc (.cells c1 E))=w0/\Blk w0 (w.heap.size) E c1/\Below w.heap.size w w0:=⟨_,rfl,Qk w c1 E⟩
theorem bx2 (w:World) (c1:Array Value) (E:TypeId) (c2:Array Value) (I:TypeId):∃w0,((w.alloc (.cells c1 E)).alloc (.cells c2 I))=w0/\Blk w0 (w.heap.size) E c1/\Blk w0 (w.heap.size+1) I c2/\Below w.heap.size w w0:=⟨_,rfl,T8 w c1 E c2 I⟩
theorem T9 (w:World) (c1:Array Value) (E:TypeId) (c2:Array Value) (I:TypeId) (c3:Array Value) (J:TypeId):∃w0,(((w.alloc (.cells c1 E)).alloc (.cells c2 I)).alloc (.cells c3 J))=w0/\Blk w0 (w.heap.size) E c1/\Blk w0 (w.heap.size+1) I c2/\Blk w0 (w.heap.size+1+1) J c3/\Below w.heap.size w w0:=⟨_,rfl,jK w c1 E c2 I c3 J⟩
theorem mZ (w:World) (c1:Array Value) (E:TypeId) (c2:Array Value) (I:TypeId) (c3:Array Value) (J:TypeId) (c4:Array Value) (M:TypeId):∃w0,((((w.alloc (.cells c1 E)).alloc (.cells c2 I)).alloc (.cells c3 J)).alloc (.cells c4 M))=w0/\Blk w0 (w.heap.size) E c1/\Blk w0 (w.heap.size+1) I c2/\Blk w0 (w.heap.size+1+1) J c3/\Blk w0 (w.heap.size+1+1+1) M c4/\Below w.heap.size w w0:=⟨_,rfl,lL w c1 E c2 I c3 J c4 M⟩
theorem Blk.c0 {w:World} {g:Nat} {t:TypeId} {a:Value} {l:List Value} (h:Blk w g t (a :: l).toArray):w.cell? ⟨g,0,none⟩=some a:=h.at_ 0 rfl
theorem Blk.c1 {w:World} {g:Nat} {t:TypeId} {a b:Value} {l:List Value} (h:Blk w g t (a :: b :: l).toArray):w.cell? ⟨g,1,none⟩=some b:=h.at_ 1 rfl
theorem Blk.c2 {w:World} {g:Nat} {t:TypeId} {a b c:Value} {l:List Value} (h:Blk w g t (a :: b :: c :: l).toArray):w.cell? ⟨g,2,none⟩=some c:=h.at_ 2 rfl
theorem Blk.c3 {w:World} {g:Nat} {t:TypeId} {a b c d:Value} {l:List Value} (h:Blk w g t (a :: b :: c :: d :: l).toArray):w.cell? ⟨g,3,none⟩=some d:=h.at_ 3 rfl
theorem Blk.c4 {w:World} {g:Nat} {t:TypeId} {a b c d e:Value} {l:List Value} (h:Blk w g t (a :: b :: c :: d :: e :: l).toArray):w.cell? ⟨g,4,none⟩=some e:=h.at_ 4 rfl
theorem Blk.so {w:World} {g:Nat} {t:TypeId} {cs:Array Value} (h:Blk w g t cs) (i:Nat) (E:i<cs.size:=by decide):w.cell? ⟨g,i,none⟩=some (cellOf w ⟨g,i,none⟩):=Ah (by rw[h.cell_ i,Array.getElem?_eq_getElem E];rfl)
abbrev Tt (B:Nat) (w0 w:World) (a0 a1 b0 b1:Addr) (v0 v1:Value):Prop:=w.cell? a0=some v0/\w.cell? a1=some v1/\w.cell? b0=some (cellOf w b0)/\w.frozen? b0=false/\Sts w b0.block/\w.cell? b1=some (cellOf w b1)/\w.frozen? b1=false/\Sts w b1.block/\Below B w0 w/\B<=w.heap.size
theorem Dp {B:Nat} {w0 w w':World} {a0 E I J:Addr} {v0 v1:Value} (M:Below w.heap.size w w') (h:Tt B w0 w a0 E I J v0 v1):Tt B w0 w' a0 E I J v0 v1:=SS.next (B:=B) (w0:=w0) (l:=[(a0,v0),(E,v1)]) (m:=[I,J]) M h
theorem Bz {B:Nat} {w0 w:World} {a0 E I J:Addr} {v0 v1:Value} (h:Tt B w0 w a0 E I J v0 v1):Below B w0 w:=SS.below (B:=B) (w0:=w0) (l:=[(a0,v0),(E,v1)]) (m:=[I,J]) h
theorem Jm {B:Nat} {w0 w w':World} {a0 J E I:Addr} {v0 v1:Value} (M:Below w.heap.size w w') (h:Tt B w0 w a0 J E I v0 v1):((w'.cell? E).isSome=true/\Sts w' E.block)/\((w'.cell? I).isSome=true/\Sts w' I.block):=⟨SS.end_ (B:=B) (w0:=w0) (l:=[(a0,v0),(J,v1)]) (m:=[E,I]) M h (by simp),SS.end_ (B:=B) (w0:=w0) (l:=[(a0,v0),(J,v1)]) (m:=[E,I]) M h (by simp)⟩
theorem Jn {B:Nat} {w0 w:World} {a0 E J M:Addr} {v0 v1:Value} (h:Tt B w0 w a0 E J M v0 v1) {p0 I:Addr} {u0 u1:Value} (O:NotInt u0) (aN:B<=p0.block) (V:p0.block≠a0.block) (Z:p0.block≠E.block) (U:NotInt u1) (aX:B<=I.block) (aD:I.block≠a0.block) (aK:I.block≠E.block):Tt B w0 ((w.setCell p0 u0).setCell I u1) a0 E J M v0 v1:=(SS.put (B:=B) (w0:=w0) (l:=[(a0,v0),(E,v1)]) (m:=[J,M]) (SS.put (B:=B) (w0:=w0) (l:=[(a0,v0),(E,v1)]) (m:=[J,M]) h p0 u0 O aN (by simp[*])) I u1 U aX (by simp[*]))
abbrev Tu (B:Nat) (w0 w:World) (a0 a1 a2 a3 b0 b1:Addr) (v0 v1 v2 v3:Value):Prop:=w.cell? a0=some v0/\w.cell? a1=some v1/\w.cell? a2=some v2/\w.cell? a3=some v3/\w.cell? b0=some (cellOf w b0)/\w.frozen? b0=false/\Sts w b0.block/\w.cell? b1=some (cellOf w b1)/\w.frozen? b1=false/\Sts w b1.block/\Below B w0 w/\B<=w.heap.size
theorem Dq {B:Nat} {w0 w w':World} {a0 E I J M O:Addr} {v0 v1 v2 v3:Value} (U:Below w.heap.size w w') (h:Tu B w0 w a0 E I J M O v0 v1 v2 v3):Tu B w0 w' a0 E I J M O v0 v1 v2 v3:=SS.next (B:=B) (w0:=w0) (l:=[(a0,v0),(E,v1),(I,v2),(J,v3)]) (m:=[M,O]) U h
theorem Bh {B:Nat} {w0 w:World} {a0 E I J M O:Addr} {v0 v1 v2 v3:Value} (h:Tu B w0 w a0 E I J M O v0 v1 v2 v3):Below B w0 w:=SS.below (B:=B) (w0:=w0) (l:=[(a0,v0),(E,v1),(I,v2),(J,v3)]) (m:=[M,O]) h
theorem Jo {B:Nat} {w0 w w':World} {a0 J M O E I:Addr} {v0 v1 v2 v3:Value} (U:Below w.heap.size w w') (h:Tu B w0 w a0 J M O E I v0 v1 v2 v3):((w'.cell? E).isSome=true/\Sts w' E.block)/\((w'.cell? I).isSome=true/\Sts w' I.block):=⟨SS.end_ (B:=B) (w0:=w0) (l:=[(a0,v0),(J,v1),(M,v2),(O,v3)]) (m:=[E,I]) U h (by simp),SS.end_ (B:=B) (w0:=w0) (l:=[(a0,v0),(J,v1),(M,v2),(O,v3)]) (m:=[E,I]) U h (by simp)⟩
theorem Jp {B:Nat} {w0 w:World} {a0 I J M O U:Addr} {v0 v1 v2 v3:Value} (h:Tu B w0 w a0 I J M O U v0 v1 v2 v3) {p0 E:Addr} {u0 u1:Value} (V:NotInt u0) (bY:B<=p0.block) (aD:p0.block≠a0.block) (aK:p0.block≠I.block) (aN:p0.block≠J.block) (aX:p0.block≠M.block) (Z:NotInt u1) (cA:B<=E.block) (bA:E.block≠a0.block) (bB:E.block≠I.block) (bC:E.block≠J.block) (bE:E.block≠M.block):Tu B w0 ((w.setCell p0 u0).setCell E u1) a0 I J M O U v0 v1 v2 v3:=(SS.put (B:=B) (w0:=w0) (l:=[(a0,v0),(I,v1),(J,v2),(M,v3)]) (m:=[O,U]) (SS.put (B:=B) (w0:=w0) (l:=[(a0,v0),(I,v1),(J,v2),(M,v3)]) (m:=[O,U]) h p0 u0 V bY (by simp[*])) E u1 Z cA (by simp[*]))
abbrev Tv (B:Nat) (w0 w:World) (a0 a1 a2 a3 b0 b1 b2 b3:Addr) (v0 v1 v2 v3:Value):Prop:=w.cell? a0=some v0/\w.cell? a1=some v1/\w.cell? a2=some v2/\w.cell? a3=some v3/\w.cell? b0=some (cellOf w b0)/\w.frozen? b0=false/\Sts w b0.block/\w.cell? b1=some (cellOf w b1)/\w.frozen? b1=false/\Sts w b1.block/\w.cell? b2=some (cellOf w b2)/\w.frozen? b2=false/\Sts w b2.block/\w.cell? b3=some (cellOf w b3)/\w.frozen? b3=false/\Sts w b3.block/\Below B w0 w/\B<=w.heap.size
theorem D7 {B:Nat} {w0 w w':World} {a0 E I J M O U V:Addr} {v0 v1 v2 v3:Value} (Z:Below w.heap.size w w') (h:Tv B w0 w a0 E I J M O U V v0 v1 v2 v3):Tv B w0 w' a0 E I J M O U V v0 v1 v2 v3:=SS.next (B:=B) (w0:=w0) (l:=[(a0,v0),(E,v1),(I,v2),(J,v3)]) (m:=[M,O,U,V]) Z h
theorem Eo {B:Nat} {w0 w:World} {a0 E I J M O U V:Addr} {v0 v1 v2 v3:Value} (h:Tv B w0 w a0 E I J M O U V v0 v1 v2 v3):Below B w0 w:=SS.below (B:=B) (w0:=w0) (l:=[(a0,v0),(E,v1),(I,v2),(J,v3)]) (m:=[M,O,U,V]) h
theorem V6 {B:Nat} {w0 w w':World} {a0 O U V E I J M:Addr} {v0 v1 v2 v3:Value} (Z:Below w.heap.size w w') (h:Tv B w0 w a0 O U V E I J M v0 v1 v2 v3):((w'.cell? E).isSome=true/\Sts w' E.block)/\((w'.cell? I).isSome=true/\Sts w' I.block)/\((w'.cell? J).isSome=true/\Sts w' J.block)/\((w'.cell? M).isSome=true/\Sts w' M.block):=⟨SS.end_ (B:=B) (w0:=w0) (l:=[(a0,v0),(O,v1),(U,v2),(V,v3)]) (m:=[E,I,J,M]) Z h (by simp),SS.end_ (B:=B) (w0:=w0) (l:=[(a0,v0),(O,v1),(U,v2),(V,v3)]) (m:=[E,I,J,M]) Z h (by simp),SS.end_ (B:=B) (w0:=w0) (l:=[(a0,v0),(O,v1),(U,v2),(V,v3)]) (m:=[E,I,J,M]) Z h (by simp),SS.end_ (B:=B) (w0:=w0) (l:=[(a0,v0),(O,v1),(U,v2),(V,v3)]) (m:=[E,I,J,M]) Z h (by simp)⟩
theorem N7 {B:Nat} {w0 w:World} {a0 E I J V Z b2 b3:Addr} {v0 v1 v2 v3:Value} (h:Tv B w0 w a0 E I J V Z b2 b3 v0 v1 v2 v3) {p0 M O U:Addr} {u0 u1 u2 u3:Value} (aN:NotInt u0) (dY:B<=p0.block) (bC:p0.block≠a0.block) (bE:p0.block≠E.block) (bY:p0.block≠I.block) (cA:p0.block≠J.block) (aX:NotInt u1) (eF:B<=M.block) (cB:M.block≠a0.block) (cC:M.block≠E.block) (cD:M.block≠I.block) (cF:M.block≠J.block) (bA:NotInt u2) (eG:B<=O.block) (cG:O.block≠a0.block) (cI:O.block≠E.block) (cM:O.block≠I.block) (cS:O.block≠J.block) (bB:NotInt u3) (eP:B<=U.block) (cT:U.block≠a0.block) (cX:U.block≠E.block) (dC:U.block≠I.block) (dE:U.block≠J.block):Tv B w0 ((((w.setCell p0 u0).setCell M u1).setCell O u2).setCell U u3) a0 E I J V Z b2 b3 v0 v1 v2 v3:=(SS.put (B:=B) (w0:=w0) (l:=[(a0,v0),(E,v1),(I,v2),(J,v3)]) (m:=[V,Z,b2,b3]) (SS.put (B:=B) (w0:=w0) (l:=[(a0,v0),(E,v1),(I,v2),(J,v3)]) (m:=[V,Z,b2,b3]) (SS.put (B:=B) (w0:=w0) (l:=[(a0,v0),(E,v1),(I,v2),(J,v3)]) (m:=[V,Z,b2,b3]) (SS.put (B:=B) (w0:=w0) (l:=[(a0,v0),(E,v1),(I,v2),(J,v3)]) (m:=[V,Z,b2,b3]) h p0 u0 aN dY (by simp[*])) M u1 aX eF (by simp[*])) O u2 bA eG (by simp[*])) U u3 bB eP (by simp[*]))
abbrev Tx (B:Nat) (w0 w:World) (a0 a1 a2 a3 a4 a5 a6 a7 b0 b1 b2 b3:Addr) (v0 v1 v2 v3 v4 v5 v6 v7:Value):Prop:=w.cell? a0=some v0/\w.cell? a1=some v1/\w.cell? a2=some v2/\w.cell? a3=some v3/\w.cell? a4=some v4/\w.cell? a5=some v5/\w.cell? a6=some v6/\w.cell? a7=some v7/\w.cell? b0=some (cellOf w b0)/\w.frozen? b0=false/\Sts w b0.block/\w.cell? b1=some (cellOf w b1)/\w.frozen? b1=false/\Sts w b1.block/\w.cell? b2=some (cellOf w b2)/\w.frozen? b2=false/\Sts w b2.block/\w.cell? b3=some (cellOf w b3)/\w.frozen? b3=false/\Sts w b3.block/\Below B w0 w/\B<=w.heap.size
theorem A9 {B:Nat} {w0 w w':World} {a0 E I J M O U V Z b1 b2 b3:Addr} {v0 v1 v2 v3 v4 v5 v6 v7:Value} (hb:Below w.heap.size w w') (h:Tx B w0 w a0 E I J M O U V Z b1 b2 b3 v0 v1 v2 v3 v4 v5 v6 v7):Tx B w0 w' a0 E I J M O U V Z b1 b2 b3 v0 v1 v2 v3 v4 v5 v6 v7:=SS.next (B:=B) (w0:=w0) (l:=[(a0,v0),(E,v1),(I,v2),(J,v3),(M,v4),(O,v5),(U,v6),(V,v7)]) (m:=[Z,b1,b2,b3]) hb h
theorem Bm {B:Nat} {w0 w:World} {a0 E I J M O U V Z b1 b2 b3:Addr} {v0 v1 v2 v3 v4 v5 v6 v7:Value} (h:Tx B w0 w a0 E I J M O U V Z b1 b2 b3 v0 v1 v2 v3 v4 v5 v6 v7):Below B w0 w:=SS.below (B:=B) (w0:=w0) (l:=[(a0,v0),(E,v1),(I,v2),(J,v3),(M,v4),(O,v5),(U,v6),(V,v7)]) (m:=[Z,b1,b2,b3]) h
theorem Jr {B:Nat} {w0 w w':World} {a0 O U V Z a5 a6 a7 E I J M:Addr} {v0 v1 v2 v3 v4 v5 v6 v7:Value} (hb:Below w.heap.size w w') (h:Tx B w0 w a0 O U V Z a5 a6 a7 E I J M v0 v1 v2 v3 v4 v5 v6 v7):((w'.cell? E).isSome=true/\Sts w' E.block)/\((w'.cell? I).isSome=true/\Sts w' I.block)/\((w'.cell? J).isSome=true/\Sts w' J.block)/\((w'.cell? M).isSome=true/\Sts w' M.block):=⟨SS.end_ (B:=B) (w0:=w0) (l:=[(a0,v0),(O,v1),(U,v2),(V,v3),(Z,v4),(a5,v5),(a6,v6),(a7,v7)]) (m:=[E,I,J,M]) hb h (by simp),SS.end_ (B:=B) (w0:=w0) (l:=[(a0,v0),(O,v1),(U,v2),(V,v3),(Z,v4),(a5,v5),(a6,v6),(a7,v7)]) (m:=[E,I,J,M]) hb h (by simp),SS.end_ (B:=B) (w0:=w0) (l:=[(a0,v0),(O,v1),(U,v2),(V,v3),(Z,v4),(a5,v5),(a6,v6),(a7,v7)]) (m:=[E,I,J,M]) hb h (by simp),SS.end_ (B:=B) (w0:=w0) (l:=[(a0,v0),(O,v1),(U,v2),(V,v3),(Z,v4),(a5,v5),(a6,v6),(a7,v7)]) (m:=[E,I,J,M]) hb h (by simp)⟩
theorem D9 {B:Nat} {w0 w:World} {a0 M O U V Z a6 a7 b0 b1 b2 b3:Addr} {v0 v1 v2 v3 v4 v5 v6 v7:Value} (h:Tx B w0 w a0 M O U V Z a6 a7 b0 b1 b2 b3 v0 v1 v2 v3 v4 v5 v6 v7) {p0 E I J:Addr} {u0 u1 u2 u3:Value} (cB:NotInt u0) (hN:B<=p0.block) (cG:p0.block≠a0.block) (cI:p0.block≠M.block) (cM:p0.block≠O.block) (cS:p0.block≠U.block) (cT:p0.block≠V.block) (cX:p0.block≠Z.block) (dC:p0.block≠a6.block) (dE:p0.block≠a7.block) (cC:NotInt u1) (hO:B<=E.block) (dY:E.block≠a0.block) (eF:E.block≠M.block) (eG:E.block≠O.block) (eP:E.block≠U.block) (eT:E.block≠V.block) (eX:E.block≠Z.block) (eY:E.block≠a6.block) (gA:E.block≠a7.block) (cD:NotInt u2) (hP:B<=I.block) (gF:I.block≠a0.block) (gI:I.block≠M.block) (gL:I.block≠O.block) (gN:I.block≠U.block) (gP:I.block≠V.block) (gS:I.block≠Z.block) (gU:I.block≠a6.block) (hB:I.block≠a7.block) (cF:NotInt u3) (hQ:B<=J.block) (hD:J.block≠a0.block) (hE:J.block≠M.block) (hG:J.block≠O.block) (hH:J.block≠U.block) (hI:J.block≠V.block) (hJ:J.block≠Z.block) (hL:J.block≠a6.block) (hM:J.block≠a7.block):Tx B w0 ((((w.setCell p0 u0).setCell E u1).setCell I u2).setCell J u3) a0 M O U V Z a6 a7 b0 b1 b2 b3 v0 v1 v2 v3 v4 v5 v6 v7:=(SS.put (B:=B) (w0:=w0) (l:=[(a0,v0),(M,v1),(O,v2),(U,v3),(V,v4),(Z,v5),(a6,v6),(a7,v7)]) (m:=[b0,b1,b2,b3]) (SS.put (B:=B) (w0:=w0) (l:=[(a0,v0),(M,v1),(O,v2),(U,v3),(V,v4),(Z,v5),(a6,v6),(a7,v7)]) (m:=[b0,b1,b2,b3]) (SS.put (B:=B) (w0:=w0) (l:=[(a0,v0),(M,v1),(O,v2),(U,v3),(V,v4),(Z,v5),(a6,v6),(a7,v7)]) (m:=[b0,b1,b2,b3]) (SS.put (B:=B) (w0:=w0) (l:=[(a0,v0),(M,v1),(O,v2),(U,v3),(V,v4),(Z,v5),(a6,v6),(a7,v7)]) (m:=[b0,b1,b2,b3]) h p0 u0 cB hN (by simp[*])) E u1 cC hO (by simp[*])) I u2 cD hP (by simp[*])) J u3 cF hQ (by simp[*]))
theorem Zr.letters {w:World} {s:Bool} {p:Option Addr} {n c:Nat} {z:Int} (h:Zr w s p n c z) (hn:n<=35184372088830):
  ∃k,k<=n/\nd z.natAbs=k/\Hd (sg s z.natAbs=z/\Nm w p c z.natAbs/\(∀E,Below w.heap.size w E->Calls prog 129 #[.slice p n c] E λe w'=>e=.returned (.slice p k c)/\w'=E)):=by
 obtain⟨a,J,M⟩:=h;have I:z.natAbs=vf a n:=by rw[<-M,Nv]
 refine⟨nd z.natAbs,?_,rfl,?_,?_,?_⟩
 ·rw[I];exact Bf.2 (D1 J.lt)
 ·rw[I];exact M
 ·rw[I];exact J.trim
 ·intro E V
  refine(Ds p c n a E (J.keep V) (by omega)).mono ?_;rintro e w' ⟨⟨O,_⟩,U⟩;exact⟨by rw[I];exact O,U⟩
theorem Em (E:Bool) (p:Option Addr) (c n u:Nat) (w:World) (h:Nm w p c u) (J:nd u=n) (hn:n<=70368744177664):
  Calls prog 131 #[.bool E,.slice p n c] w λe w'=>K7 w' e (sg E u)/\Below w.heap.size w w':=by
 subst J;have I:=B5 E p c (nd u) (dg u) w h hn;rw[Bt]at I;exact I
theorem Av {w w':World} {a:Addr} {v:Value} (E:Below w.heap.size w w') (h:w.cell? a=some v):w'.cell? a=some v:=(E.cell (p:=a) (World.block_lt_of_cell? w a h)).trans h
section
variable {P:Program} {md:Region.Mode} {ops:Array Oper} {Q:Exit->Act->World->Prop} {S:World->Prop}
def L0 (ops:Array Oper) (listed:Array Bool):Bool:=(List.range ops.size).all λk=>listed.getD k true
def Tq (md:Region.Mode) (ops:Array Oper) (listed:Array Bool) (i:Nat):Bool:=
 (List.range ops.size).any λk=>k != i && !(listed.getD k true)&&match ops[k]? with
  | some o=>o.after.any λe=>Region.binds md e&&e.on==i
  | none=>false
theorem Ys {E:Array Bool} {k:Nat} (J:k<ops.size) (h:E.getD k true=false):L0 ops E=false:=by
 cases e:L0 ops E with
 | false=>rfl
 | true=>
  rw[L0,List.all_eq_true]at e;have I:=e k (List.mem_range.2 J);rw[h]at I;cases I
def wpE (P:Program) (md:Region.Mode) (ops:Array Oper) (Q:Exit->Act->World->Prop) (S:World->Prop):Nat->Array Bool->Act->World->Prop
 | 0,listed,a,w=>Region.ready md ops listed=[]/\Q .normal a w
 | n+1,listed,a,w=>(Region.ready md ops listed=[]->Q .normal a w) /\
  ∀i∈Region.ready md ops listed,wpOp P ops Q i (λa' w'=>(L0 ops (listed.setIfInBounds i true)=false->S w')/\wpE P md ops Q S n (listed.setIfInBounds i true) a' w') a w
theorem wpE.any:∀(n:Nat) (E:Array Bool) (a:Act) (w:World),wpE P md ops Q S n E a w->wpAny P md ops Q n E a w
 | 0,_,_,_,h=>h
 | n+1,_,_,_,h=>⟨h.1,λi M=>wpOp_mono (λI w' J=>wpE.any n _ I w' J.2) (h.2 i M)⟩
theorem wpE.first {i k:Nat} {Z ok:Oper} {v:Value} (hi:ops[i]?=some Z) (hk:ops[k]?=some ok) (cS:k≠i) (hw:∃e∈ok.after,Region.binds md e=true/\e.on=i)
  (U:∀(j:Nat) (o:Oper) cs b,ops[j]?=some o->o.op≠.select cs b) (hQ:∀c a w,Q (.panic c) (a.put Z.dst v) w->Q (.panic c) a w):
  ∀(n:Nat) (E:Array Bool) (a:Act) (w:World),
   (∀j V,ops[j]?=some V->j≠i->E.getD j true=false->(∀e∈V.after,Region.binds md e=true->e.on≠i)->Z.apart ops V=true) ->
   E.getD k true=false->i∈Region.ready md ops E->YieldsIf P ops S Z v a->S w ->
   wpE P md ops Q S n (E.setIfInBounds i true) (a.put Z.dst v) w->wpE P md ops Q S (n+1) E a w:=by
 intro n;induction n with
 | zero=>
  intro E a w _ _ hr hy hS H;refine⟨(λh=>by rw[h]at hr;cases hr),λj hj=>?_⟩;by_cases hji:j=i
  ·subst hji;exact hy.wpOp hi hS ⟨λ_=>hS,H⟩
  ·have h1:=ready_mono hj hji
   rw[H.1]at h1;cases h1
 | succ n ih=>
  intro E a w I bB hr hy hS H;refine⟨(λh=>by rw[h]at hr;cases hr),λj hj=>?_⟩;by_cases hji:j=i
  ·subst hji;exact hy.wpOp hi hS ⟨λ_=>hS,H⟩
  have h1:=H.2 j (ready_mono hj hji);obtain⟨bA,V,M,aN⟩:=mem_ready.1 hj
  have cI:E.getD i false=false:=by
   have h0:=(mem_ready.1 hr).1;rcases Nat.lt_or_ge i E.size with J|J
   ·simp[J]at h0 ⊢;exact h0
   ·simp[Array.getElem?_eq_none J]
  have bE:∀e∈V.after,Region.binds md e=true->e.on≠i:=λe he hb J=>by
   have O:=aN e he hb;rw[J,cI]at O;cases O
  have aX:j≠k:=λJ=>by
   subst J;rw[M]at hk;cases hk;obtain⟨e,he,hb,O⟩:=hw;exact bE e he hb O
  have cT:∀l:Array Bool,l.getD k true=false->L0 ops l=false:=λl hl=>Ys (Array.getElem?_eq_some_iff.1 hk).1 hl
  have bC:(E.setIfInBounds j true).getD k true=false:=by rw[getD_set_ne true aX];exact bB
  have J:=wpOp_putIf M (I j V M hji bA bE) (λcs b=>U i Z cs b hi) (λcs b=>U j V cs b M) hQ hy h1;refine wpOp_mono (λa' w' O=>?_) J;have aK:S w':=O.2.1 (cT _ (by rw[getD_set_ne true aX,getD_set_ne true cS.symm];exact bB));refine⟨λ_=>aK,ih _ a' w' (λq oq hq cX bY dC=>I q oq hq cX ?_ dC) bC (ready_mono hr (Ne.symm hji)) O.1 aK ?_⟩
  ·by_cases hjq:j=q
   ·subst hjq;exact bA
   ·rw[getD_set_ne true hjq]at bY;exact bY
  ·rw[Array.setIfInBounds_comm _ _ hji]
   exact O.2.2
theorem K4 {E:Array Bool} {i:Nat} (h:Tq md ops E i=true):∃k I,ops[k]?=some I/\k≠i/\E.getD k true=false/\∃e∈I.after,Region.binds md e=true/\e.on=i:=by
 rw[Tq,List.any_eq_true]at h;obtain⟨k,_,h⟩:=h;cases hk:ops[k]? with
 | none=>rw[hk]at h;simp at h
 | some o=>
  rw[hk]at h;simp only[Bool.and_eq_true,bne_iff_ne,ne_eq,Bool.not_eq_true',beq_iff_eq,Array.any_eq_true']at h;obtain⟨⟨J,M⟩,e,O,U,V⟩:=h;exact⟨k,o,hk,J,M,e,O,U,V⟩
theorem nK {id:Nat} {a:Act} {w:World} (S:World->Prop) (E:S w.drew) (h:S w.drew->wpE P .any ops Q S ops.size (Array.replicate ops.size false) a w.drew) (I:P.follows .mixedOrders=true:=by kernel_rfl):(Code.region id ops true).wp P Q a w:=
 wp_region_any I (wpE.any _ _ _ _ (h E))
theorem Lg {id:Nat} {a:Act} {w:World} (S:World->Prop) (E:∀W,Below w.heap.size w W->S W) (h:Hd (∀W,Below w.heap.size w W->S W)->S w.drew->wpE P .any ops Q S ops.size (Array.replicate ops.size false) a w.drew) (I:P.follows .mixedOrders=true:=by kernel_rfl):(Code.region id ops true).wp P Q a w:=
 nK S (E _ (Below.refl _ w).drew) (h (Hd.mk E)) I
theorem Ap (i:Nat) {I:Oper} {v:Value} {n d:Nat} {E:Array Bool} {a M:Act} {w:World} (h:wpE P md ops Q S n (E.setIfInBounds i true) M w)
  (O:ops[i]?=some I:=by rfl) (hS:S w:=by assumption) (hw:Region.wanted I (yielded ops a.tmps)=true:=by rfl)
  (hy:∀w,S w->(execOp a.eval I).run P w=.ok (.value v) w:=by intro w J;(try dsimp only at J);go_simp;(try with_reducible rfl))
  (hd:I.dst=some d:=by rfl) (ha:a.put (some d) v=M:=by(try simp only[Act.put,List.setIfInBounds_toArray,List.set_cons_zero,List.set_cons_succ]);rfl)
  (hs:Region.noSelect ops=true:=by kernel_rfl) (hf:Region.free md ops E i=true:=by kernel_rfl) (hr:(Region.ready md ops E).contains i=true:=by kernel_rfl) (hk:Tq md ops E i=true:=by kernel_rfl)
  (hQ:∀c a w,Q (.panic c) (a.put I.dst v) w->Q (.panic c) a w:=by exact λ_ _ _ h=>h):wpE P md ops Q S (n+1) E a w:=by
 subst ha;rw[<-hd]at h;obtain⟨k,ok,U,V,Z,h4⟩:=K4 hk;exact wpE.first O U V h4 (Region.noSelect_spec hs) hQ n E a w (Region.free_spec O hf) Z (by simpa using hr) (.inl ⟨hw,hy⟩) hS h
theorem Hq (i:Nat) {o:Oper} {n:Nat} {E:Array Bool} {a:Act} {w:World}
  (U:ops[i]?=some o) (h:∀I:Act->World->Prop,Shut (∀a w,S w->(S w->wpE P md ops Q S n (E.setIfInBounds i true) a w)->I a w)->if Region.wanted o (yielded ops a.tmps)=true then Oper.wp P o a w I Q else I (a.put o.dst undef) w)
  (hr:Region.ready md ops E=[i]:=by kernel_rfl):wpE P md ops Q S (n+1) E a w:=by
 refine⟨(λe=>by rw[hr]at e;cases e),λj M=>?_⟩;rw[hr,List.mem_singleton]at M;subst M;refine wpOp_step U λI hK=>?_
 exact h I λa w J O=>hK a w ⟨λ_=>J,O J⟩
theorem Le (i:Nat) {o:Oper} {n:Nat} {E:Array Bool} {a:Act} {w:World}
  (O:ops[i]?=some o) (h:∀I:Act->World->Prop,Shut (∀a w,Q .normal a w->I a w)->if Region.wanted o (yielded ops a.tmps)=true then Oper.wp P o a w I Q else I (a.put o.dst undef) w)
  (hr:Region.ready md ops E=[i]:=by kernel_rfl)
  (hn:Region.ready md ops (E.setIfInBounds i true)=[]:=by kernel_rfl) (M:L0 ops (E.setIfInBounds i true)=true:=by kernel_rfl):wpE P md ops Q S (n+1) E a w:=by
 refine⟨(λe=>by rw[hr]at e;cases e),λj J=>?_⟩;rw[hr,List.mem_singleton]at J;subst J;refine wpOp_step O λI hK=>?_
 refine h I λa w hq=>hK a w ⟨(λe=>by rw[M]at e;cases e),?_⟩
 cases n with
 | zero=>exact⟨hn,hq⟩
 | succ n=>exact⟨λ_=>hq,λj J=>by rw[hn]at J;cases J⟩
theorem Px (J:List Nat) {n:Nat} {E:Array Bool} {a:Act} {w:World} (h:AllReadyH P md ops Q S n E a w J) (hr:Region.ready md ops E=J:=by kernel_rfl) (I:J≠[]:=by simp):wpAnyH P md ops Q S (n+1) E a w:=wpAnyH_ready hr I h
theorem Fl (i:Nat) {I:Oper} {v:Value} {n:Nat} {E:Array Bool} {a M:Act} {w:World} (h:wpAnyH P md ops Q S n (E.setIfInBounds i true) M w)
  (hi:ops[i]?=some I:=by rfl) (U:S w:=by assumption) (hw:Region.wanted I (yielded ops a.tmps)=true:=by rfl)
  (hy:∀w,S w->(execOp a.eval I).run P w=.ok (.value v) w:=by intro w J;(try dsimp only at J);go_simp;(try with_reducible rfl))
  (V:a.put I.dst v=M:=by(try simp only[Act.put,List.setIfInBounds_toArray,List.set_cons_zero,List.set_cons_succ]);rfl)
  (hs:Region.noSelect ops=true:=by kernel_rfl) (Z:Region.free md ops E i=true:=by kernel_rfl) (hr:(Region.ready md ops E).contains i=true:=by kernel_rfl)
  (O:∀c a w,Q (.panic c) (a.put I.dst v) w->Q (.panic c) a w:=by exact λ_ _ _ h=>h):wpAnyH P md ops Q S (n+1) E a w:=by
 subst V;exact wpAnyH_take hi hs Z hr O (.inl ⟨hw,hy⟩) U h
end
theorem Bn {E:Type _} (l:List E) (i:Nat) (v:E):l.toArray.setIfInBounds i v=(l.set i v).toArray:=List.setIfInBounds_toArray ..
theorem Bp {E:Type _} (a v:E) (l:List E):(a :: l).set 0 v=v :: l:=List.set_cons_zero
theorem Bo {E:Type _} (a v:E) (l:List E) (n:Nat):(a :: l).set (n+1) v=a :: l.set n v:=List.set_cons_succ
end Go.Proofs.YtenlbhlllgppmaaGreatDoor
