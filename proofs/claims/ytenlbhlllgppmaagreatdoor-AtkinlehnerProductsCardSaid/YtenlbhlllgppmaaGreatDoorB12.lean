/- Contracts of bigint on integers: Normal, Neg, Add, Mul, Gcd, Sign, Of. -/
import Derived.Test.YtenlbhlllgppmaaGreatDoorB11
set_option maxRecDepth 100000
set_option maxHeartbeats 8000000
namespace Go.Proofs.YtenlbhlllgppmaaGreatDoor
section
open Go.RowKit Tryz
theorem Kl (s:Bool) (p:Option Addr) (n c:Nat) (z:Int) (w:World) (h:Zr w s p n c z) (hn:n<=35184372088830):
  Calls prog 134 #[.agg #[.bool s,.slice p n c]] w λe w'=>Gx w' e (z)/\Below w.heap.size w w':=by
 obtain⟨k,hk,J,HL⟩:=h.letters hn;have hC:=λI (hb:Below w.heap.size w I)=>Kt p c z.natAbs I (HL.1.2.1.keep hb) (by omega)
 rw[J]at hC;have HC:=Kh hC;have HK:=Kh J;have HV:=Kh (show sg (s) z.natAbs=z by exact HL.1.1);clear hC J h;go_enter func134,ntmps134
 go_upto_region 1 with(fail)
 obtain⟨w0,Z,X0,U,V⟩:=bx2 w #[.bool s,.slice p n c] 84 #[.bool false,.slice none 0 0] 84;rw[Z];have cF:w.heap.size<=w0.heap.size:=V.size;clear Z;have T1:=Sts.of U (by intro v hv;simp at hv;rcases hv with rfl|rfl <;> first|exact NotInt.bool _|exact NotInt.slice _ _ _);have cB:=Dx (Below.refl _ w0).drew ⟨X0.c0,X0.c1,U.so 0,U.free_ 0,T1,U.so 1,U.free_ 1,T1,V,cF⟩;clear X0 U
 go_region_held3 (λI=>I.cell? ⟨w.heap.size,0,none⟩=some (.bool s)/\I.cell? ⟨w.heap.size,1,none⟩=some (.slice p n c)/\I.cell? ⟨w.heap.size+1,0,none⟩=some (cellOf I ⟨w.heap.size+1,0,none⟩)/\I.frozen? ⟨w.heap.size+1,0,none⟩=false/\Sts I (w.heap.size+1)/\I.cell? ⟨w.heap.size+1,1,none⟩=some (cellOf I ⟨w.heap.size+1,1,none⟩)/\I.frozen? ⟨w.heap.size+1,1,none⟩=false/\Sts I (w.heap.size+1)/\Below w.heap.size w I/\w.heap.size<=I.heap.size)
  (first|with_reducible exact cB |(refine Dx (by with_reducible assumption) ?_;assumption) |(refine Ka ?_ ?_ ?_ ?_ ?_ ?_ ?_ ?_ ?_ <;> first|assumption|exact NotInt.bool _|exact NotInt.slice _ _ _ |(dsimp only;omega) |(simp;done)))
  (first
   |(go_at_call 129;refine(HL.1.2.2 _ (Cf (by with_reducible assumption))).mono ?_;rintro e w' ⟨rfl,rfl⟩)
   |(go_at_call 147;refine(HC.1 _ (Cf (by with_reducible assumption))).mono ?_;rintro e w2 ⟨⟨p1,c1,rfl,Y⟩,cC⟩;rw[HK.1];have HS:=Ez (s) p1 c1 k z.natAbs w2 Y HK.1 (by omega);replace HS:=Kh HS;clear Y)
   |(go_at_call 131;refine HS.1.mono ?_;rintro e w3 ⟨⟨s2,p2,n2,c2,rfl,aX⟩,cD⟩;clear cC;obtain⟨⟨bY,hT⟩,⟨cA,_⟩⟩:=J9 cD (by with_reducible assumption);have O:=aX.put2 hT 0 1 (.bool s2) (.slice p2 n2 c2) (NotInt.bool _);replace O:=Kh O;clear aX hT))
 go_wp2;try simp only[Exit.inBlock,Exit.then]
 refine bodyPost_ret (by simp[results,results134,go_sem,bY,cA];try rfl) rfl ?_;exact⟨⟨s2,p2,n2,c2,rfl,HV.1▸O.1⟩,Cf (by assumption)⟩
theorem Wx (s:Bool) (p:Option Addr) (n c:Nat) (z:Int) (w:World) (h:Zr w s p n c z) (hn:n<=35184372088830):
  Calls prog 98 #[.agg #[.bool s,.slice p n c]] w λe w'=>Gx w' e (-z)/\Below w.heap.size w w':=by
 obtain⟨k,hk,J,HL⟩:=h.letters hn;have hC:=λI (hb:Below w.heap.size w I)=>Kt p c z.natAbs I (HL.1.2.1.keep hb) (by omega)
 rw[J]at hC;have HC:=Kh hC;have HK:=Kh J;have HV:=Kh (show sg (!s) z.natAbs=-z by rw[iR,HL.1.1]);clear hC J h;go_enter func98,ntmps98
 go_upto_region 1 with(fail)
 obtain⟨w0,Z,X0,U,V⟩:=bx2 w #[.bool s,.slice p n c] 84 #[.bool false,.slice none 0 0] 84;rw[Z];have cF:w.heap.size<=w0.heap.size:=V.size;clear Z;have T1:=Sts.of U (by intro v hv;simp at hv;rcases hv with rfl|rfl <;> first|exact NotInt.bool _|exact NotInt.slice _ _ _);have cB:=Dx (Below.refl _ w0).drew ⟨X0.c0,X0.c1,U.so 0,U.free_ 0,T1,U.so 1,U.free_ 1,T1,V,cF⟩;clear X0 U
 go_region_held3 (λI=>I.cell? ⟨w.heap.size,0,none⟩=some (.bool s)/\I.cell? ⟨w.heap.size,1,none⟩=some (.slice p n c)/\I.cell? ⟨w.heap.size+1,0,none⟩=some (cellOf I ⟨w.heap.size+1,0,none⟩)/\I.frozen? ⟨w.heap.size+1,0,none⟩=false/\Sts I (w.heap.size+1)/\I.cell? ⟨w.heap.size+1,1,none⟩=some (cellOf I ⟨w.heap.size+1,1,none⟩)/\I.frozen? ⟨w.heap.size+1,1,none⟩=false/\Sts I (w.heap.size+1)/\Below w.heap.size w I/\w.heap.size<=I.heap.size)
  (first|with_reducible exact cB |(refine Dx (by with_reducible assumption) ?_;assumption) |(refine Ka ?_ ?_ ?_ ?_ ?_ ?_ ?_ ?_ ?_ <;> first|assumption|exact NotInt.bool _|exact NotInt.slice _ _ _ |(dsimp only;omega) |(simp;done)))
  (first
   |(go_at_call 129;refine(HL.1.2.2 _ (Cf (by with_reducible assumption))).mono ?_;rintro e w' ⟨rfl,rfl⟩)
   |(go_at_call 147;refine(HC.1 _ (Cf (by with_reducible assumption))).mono ?_;rintro e w2 ⟨⟨p1,c1,rfl,Y⟩,cC⟩;rw[HK.1];have HS:=Ez (!s) p1 c1 k z.natAbs w2 Y HK.1 (by omega);replace HS:=Kh HS;clear Y)
   |(go_at_call 131;refine HS.1.mono ?_;rintro e w3 ⟨⟨s2,p2,n2,c2,rfl,aX⟩,cD⟩;clear cC;obtain⟨⟨bY,hT⟩,⟨cA,_⟩⟩:=J9 cD (by with_reducible assumption);have O:=aX.put2 hT 0 1 (.bool s2) (.slice p2 n2 c2) (NotInt.bool _);replace O:=Kh O;clear aX hT))
 go_wp2;try simp only[Exit.inBlock,Exit.then]
 refine bodyPost_ret (by simp[results,results98,go_sem,bY,cA];try rfl) rfl ?_;exact⟨⟨s2,p2,n2,c2,rfl,HV.1▸O.1⟩,Cf (by assumption)⟩
theorem Ho (s:Bool) (p:Option Addr) (n c:Nat) (x:Int) (t:Bool) (q:Option Addr) (m d:Nat) (y:Int) (w:World) (h:Zr w s p n c x) (h':Zr w t q m d y) (hn:n<=17592186044400) (hm:m<=17592186044400):
  Calls prog 84 #[.agg #[.bool s,.slice p n c],.agg #[.bool t,.slice q m d]] w λe w'=>Gx w' e (x*y)/\Below w.heap.size w w':=by
 obtain⟨k,hk,J,HL⟩:=h.letters (by omega);obtain⟨l,hl,O,KL⟩:=h'.letters (by omega);have hC:=λI (hb:Below w.heap.size w I)=>cU p c (nd x.natAbs) (dg x.natAbs) q d (nd y.natAbs) (dg y.natAbs) I (HL.1.2.1.keep hb) (KL.1.2.1.keep hb) (by omega) (by omega)
 rw[J,O]at hC;rw[show vf (dg x.natAbs) k=x.natAbs by rw[<-J,Bn],show vf (dg y.natAbs) l=y.natAbs by rw[<-O,Bn]]at hC;have HC:=Kh hC;have HV:=Kh (show sg (s != t) (x.natAbs*y.natAbs)=x*y by rw[<-Z3,HL.1.1,KL.1.1]);clear hC J O h h';go_enter func84,ntmps84
 go_upto_region 1 with(fail)
 obtain⟨w0,aX,X0,X1,V,Y⟩:=Kk w #[.bool s,.slice p n c] 84 #[.bool t,.slice q m d] 84 #[.bool false,.slice none 0 0] 84;rw[aX];have dC:w.heap.size<=w0.heap.size:=Y.size;clear aX;have M1:True:=trivial;have T2:=Sts.of V (by intro v hv;simp at hv;rcases hv with rfl|rfl <;> first|exact NotInt.bool _|exact NotInt.slice _ _ _);have cF:=Cl (Below.refl _ w0).drew ⟨X0.c0,X0.c1,X1.c0,X1.c1,V.so 0,V.free_ 0,T2,V.so 1,V.free_ 1,T2,Y,dC⟩;clear X0 X1 V
 go_region_held3 (λI=>I.cell? ⟨w.heap.size,0,none⟩=some (.bool s)/\I.cell? ⟨w.heap.size,1,none⟩=some (.slice p n c)/\I.cell? ⟨w.heap.size+1,0,none⟩=some (.bool t)/\I.cell? ⟨w.heap.size+1,1,none⟩=some (.slice q m d)/\I.cell? ⟨w.heap.size+1+1,0,none⟩=some (cellOf I ⟨w.heap.size+1+1,0,none⟩)/\I.frozen? ⟨w.heap.size+1+1,0,none⟩=false/\Sts I (w.heap.size+1+1)/\I.cell? ⟨w.heap.size+1+1,1,none⟩=some (cellOf I ⟨w.heap.size+1+1,1,none⟩)/\I.frozen? ⟨w.heap.size+1+1,1,none⟩=false/\Sts I (w.heap.size+1+1)/\Below w.heap.size w I/\w.heap.size<=I.heap.size)
  (first|with_reducible exact cF |(refine Cl (by with_reducible assumption) ?_;assumption) |(refine Hk ?_ ?_ ?_ ?_ ?_ ?_ ?_ ?_ ?_ ?_ ?_ ?_ ?_ <;> first|assumption|exact NotInt.bool _|exact NotInt.slice _ _ _ |(dsimp only;omega) |(simp;done)))
  (first
   |(go_at_call 129;clear M1;refine(HL.1.2.2 _ (Bf (by with_reducible assumption))).mono ?_;rintro e w' ⟨rfl,rfl⟩)
   |(go_at_call 129;refine(KL.1.2.2 _ (Bf (by with_reducible assumption))).mono ?_;rintro e w' ⟨rfl,rfl⟩)
   |(go_at_call 133;refine(HC.1 _ (Bf (by with_reducible assumption))).mono ?_;rintro e w2 ⟨⟨k1,cX,p1,c1,r1,rfl,Z,hv1⟩,cG⟩;have HS:=Cg (s != t) p1 c1 k1 r1 w2 Z (by omega);rw[hv1]at HS;replace HS:=Kh HS;clear Z hv1 cX)
   |(go_at_call 131;refine HS.1.mono ?_;rintro e w3 ⟨⟨s2,p2,n2,c2,rfl,bA⟩,cT⟩;clear cG;obtain⟨⟨cC,hT⟩,⟨cD,_⟩⟩:=Hj cT (by with_reducible assumption);have U:=bA.put2 hT 0 1 (.bool s2) (.slice p2 n2 c2) (NotInt.bool _);replace U:=Kh U;clear bA hT))
 go_wp2;try simp only[Exit.inBlock,Exit.then]
 refine bodyPost_ret (by simp[results,results84,go_sem,cC,cD];try rfl) rfl ?_;exact⟨⟨s2,p2,n2,c2,rfl,HV.1▸U.1⟩,Bf (by assumption)⟩
theorem jX (s:Bool) (p:Option Addr) (n c:Nat) (x:Int) (t:Bool) (q:Option Addr) (m d:Nat) (y:Int) (w:World) (h:Zr w s p n c x) (h':Zr w t q m d y) (hn:n<=17592186044400) (hm:m<=17592186044400):
  Calls prog 135 #[.agg #[.bool s,.slice p n c],.agg #[.bool t,.slice q m d]] w λe w'=>Gx w' e ((Int.gcd x y:Nat))/\Below w.heap.size w w':=by
 obtain⟨k,hk,J,HL⟩:=h.letters (by omega);obtain⟨l,hl,O,KL⟩:=h'.letters (by omega);have hC:=λI (hb:Below w.heap.size w I)=>W6 p c x.natAbs q d y.natAbs I (HL.1.2.1.keep hb) (KL.1.2.1.keep hb) (by omega) (by omega)
 rw[J,O,show Nat.gcd x.natAbs y.natAbs=Int.gcd x y from rfl]at hC;obtain⟨G,hG⟩:∃G,Int.gcd x y=G:=⟨_,rfl⟩
 have cB:nd G<=k+l:=by
  rw[<-hG,<-J,<-O];by_cases hx0:x.natAbs=0
  ·have e:Int.gcd x y=y.natAbs:=by show Nat.gcd x.natAbs y.natAbs=_;rw[hx0,Nat.gcd_zero_left]
   rw[e];omega
  ·have e:=Bv (Nat.gcd_le_left y.natAbs (show 0<x.natAbs by omega))
   exact nS e (by omega)
 rw[hG]at hC ⊢;obtain⟨g,hg⟩:∃g,nd G=g:=⟨_,rfl⟩
 rw[hg]at cB;have HG:=Kh hg;have HC:=Kh hC;have HV:=Kh (show sg false G=(G:Nat)from rfl);clear hC J O h h' hG hg;go_enter func135,ntmps135
 go_upto_region 1 with(fail)
 obtain⟨w0,aX,X0,X1,V,Y⟩:=Kk w #[.bool s,.slice p n c] 84 #[.bool t,.slice q m d] 84 #[.bool false,.slice none 0 0] 84;rw[aX];have cX:w.heap.size<=w0.heap.size:=Y.size;clear aX;have M1:True:=trivial;have T2:=Sts.of V (by intro v hv;simp at hv;rcases hv with rfl|rfl <;> first|exact NotInt.bool _|exact NotInt.slice _ _ _);have cF:=Cl (Below.refl _ w0).drew ⟨X0.c0,X0.c1,X1.c0,X1.c1,V.so 0,V.free_ 0,T2,V.so 1,V.free_ 1,T2,Y,cX⟩;clear X0 X1 V
 go_region_held3 (λI=>I.cell? ⟨w.heap.size,0,none⟩=some (.bool s)/\I.cell? ⟨w.heap.size,1,none⟩=some (.slice p n c)/\I.cell? ⟨w.heap.size+1,0,none⟩=some (.bool t)/\I.cell? ⟨w.heap.size+1,1,none⟩=some (.slice q m d)/\I.cell? ⟨w.heap.size+1+1,0,none⟩=some (cellOf I ⟨w.heap.size+1+1,0,none⟩)/\I.frozen? ⟨w.heap.size+1+1,0,none⟩=false/\Sts I (w.heap.size+1+1)/\I.cell? ⟨w.heap.size+1+1,1,none⟩=some (cellOf I ⟨w.heap.size+1+1,1,none⟩)/\I.frozen? ⟨w.heap.size+1+1,1,none⟩=false/\Sts I (w.heap.size+1+1)/\Below w.heap.size w I/\w.heap.size<=I.heap.size)
  (first|with_reducible exact cF |(refine Cl (by with_reducible assumption) ?_;assumption) |(refine Hk ?_ ?_ ?_ ?_ ?_ ?_ ?_ ?_ ?_ ?_ ?_ ?_ ?_ <;> first|assumption|exact NotInt.bool _|exact NotInt.slice _ _ _ |(dsimp only;omega) |(simp;done)))
  (first
   |(go_at_call 129;clear M1;refine(HL.1.2.2 _ (Bf (by with_reducible assumption))).mono ?_;rintro e w' ⟨rfl,rfl⟩)
   |(go_at_call 129;refine(KL.1.2.2 _ (Bf (by with_reducible assumption))).mono ?_;rintro e w' ⟨rfl,rfl⟩)
   |(go_at_call 169;refine(HC.1 _ (Bf (by with_reducible assumption))).mono ?_;rintro e w2 ⟨⟨p1,c1,rfl,Z⟩,cG⟩;rw[HG.1];have HS:=Ez false p1 c1 g G w2 Z HG.1 (by omega);replace HS:=Kh HS;clear Z)
   |(go_at_call 131;refine HS.1.mono ?_;rintro e w3 ⟨⟨s2,p2,n2,c2,rfl,bA⟩,cT⟩;clear cG;obtain⟨⟨cC,hT⟩,⟨cD,_⟩⟩:=Hj cT (by with_reducible assumption);have U:=bA.put2 hT 0 1 (.bool s2) (.slice p2 n2 c2) (NotInt.bool _);replace U:=Kh U;clear bA hT))
 go_wp2;try simp only[Exit.inBlock,Exit.then]
 refine bodyPost_ret (by simp[results,results135,go_sem,cC,cD];try rfl) rfl ?_;exact⟨⟨s2,p2,n2,c2,rfl,HV.1▸U.1⟩,Bf (by assumption)⟩
theorem Is (s:Bool) (p:Option Addr) (n c:Nat) (z:Int) (w:World) (h:Zr w s p n c z) (hn:n<=35184372088830):
  Calls prog 79 #[.agg #[.bool s,.slice p n c]] w λe w'=>e=.returned (.int .i64 (Int.sign z))/\Below w.heap.size w w':=by
 obtain⟨k,hk,J,Y⟩:=h.letters hn;have hb:∀o,Below w.heap.size w (w.alloc o):=λo=>(Below.refl _ _).alloc (nR _) o
 have U:=Kh hb;have HZ:=Kh (show k=0↔z=0 by rw[<-J];have:=Bz (v:=z.natAbs);omega);have HV:=Kh Y.1.1;clear J h hb;go_enter func79,ntmps79
 go_wp2_with fail
 refine(Y.1.2.2 _ (U.1 _)).mono ?_;rintro e w1 ⟨rfl,rfl⟩;clear Y;by_cases hk0:k=0
 ·have V:=HZ.1.1 hk0
  subst hk0 V;go_wp2;go_ret;exact⟨rfl,U.1 _⟩
 ·have V:z≠0:=λh=>hk0 (HZ.1.2 h)
  have bY:((k:Int)==0)=false:=beq_eq_false_iff_ne.2 (by omega);have I:=Kh V;clear V;cases s with
  | false=>
   have O:Int.sign z=1:=Int.sign_eq_one_of_pos (by have h1:=HV.1;have h2:=I.1;rw[Cp]at h1;omega);have Z:=Kh O;clear O;go_wp2;go_ret;exact⟨A5 Z.1.symm,U.1 _⟩
  | true=>
   have O:Int.sign z=-1:=Int.sign_eq_neg_one_of_neg (by have h1:=HV.1;have h2:=I.1;rw[show sg true z.natAbs=-(z.natAbs:Int)from rfl]at h1;omega);have Z:=Kh O;clear O;go_wp2;go_ret;exact⟨A5 Z.1.symm,U.1 _⟩
theorem G9 (n:Int) (w:World) (h1:-4611686018427387904<=n) (h2:n<=4611686018427387904):
  Calls prog 83 #[.int .i64 n] w λe w'=>Gx w' e n/\Below w.heap.size w w':=by
 obtain⟨v,hv⟩:∃v:Nat,n.natAbs=v:=⟨_,rfl⟩
 have gL:v<=4611686018427387904:=by omega
 have HW:=Kh (λw=>(Iw v w (by omega)).mono (λ_ _ h=>And.imp_left RetN.op h));have hb:Below w.heap.size w (w.alloc (.cells #[.bool false,.slice none 0 0] 84)):=(Below.refl _ _).alloc (nR _) _;have HB:=Kh hb;have hM:=Kh gL;have gA:=Bj (v:=v) (k:=2);have bY:nd v<=2:=gA.2 (by omega);have dY:=Kh bY;have X:=Blk.new w 84 #[.bool false,.slice none 0 0];have HT:=Kh (Sts.of X (by intro v hv;simp at hv;rcases hv with rfl|rfl <;> first|exact NotInt.bool _|exact NotInt.slice _ _ _));have X0:((w.alloc (.cells #[.bool false,.slice none 0 0] 84)).cell? ⟨w.heap.size,0,none⟩).isSome=true:=by rw[X.at_ 0 rfl];rfl
 have X1:((w.alloc (.cells #[.bool false,.slice none 0 0] 84)).cell? ⟨w.heap.size,1,none⟩).isSome=true:=by rw[X.at_ 1 rfl];rfl
 have cD:∀i,(w.alloc (.cells #[.bool false,.slice none 0 0] 84)).frozen? ⟨w.heap.size,i,none⟩=false:=λi=>X.free_ i
 obtain⟨w0,gN⟩:∃w0,w.alloc (.cells #[.bool false,.slice none 0 0] 84)=w0:=⟨_,rfl⟩
 rw[gN]at HB HT X0 X1;simp only[gN]at cD;have bB:=Kh X0;have bC:=Kh X1;have HF:=Kh cD;clear X X0 X1 cD hb gL gA bY;by_cases hneg:n<0
 ·have e1:IntKind.u64.wrap n=n+18446744073709551616:=by rw[IntKind.wrap_u64];omega
  have e2:IntKind.u64.wrap (-(n+18446744073709551616))=(v:Nat):=by rw[IntKind.wrap_u64];omega
  have e3:IntKind.u64.wrap (-n)=(v:Nat):=by rw[IntKind.wrap_u64];omega
  have hd:decide (n<0)=true:=decide_eq_true hneg;have HZ:=Kh (show sg true v=n by unfold sg;rw[if_pos rfl];omega);clear h1 h2 hneg hv;go_enter func83,ntmps83
  go_wp2_with fail
  refine(HW.1 _).mono ?_;rintro e w1 ⟨⟨p1,n1,c1,rfl,Z,Y⟩,O⟩;have HS:=Kh (Ez true p1 c1 n1 v w1 Y Z (by have:=dY.1;omega));have J:=Kh O;clear Z Y O HW;go_wp2_with fail
  refine HS.1.mono ?_;rintro e w2 ⟨⟨s2,p2,n2,c2,rfl,aX⟩,U⟩;have I:Below w0.heap.size w0 w2:=J.1.trans (U.mono J.1.size)
  obtain⟨u0,cF⟩:∃u,w2.cell? ⟨w.heap.size,0,none⟩=some u:=by
   rw[I.cell (p:=⟨w.heap.size,0,none⟩) HT.1.1];exact nV bB.1
  obtain⟨u1,cG⟩:∃u,w2.cell? ⟨w.heap.size,1,none⟩=some u:=by
   rw[I.cell (p:=⟨w.heap.size,1,none⟩) HT.1.1];exact nV bC.1
  have f0:=Ab I bB.1 (HF.1 0);have f1:=Ab I bC.1 (HF.1 1);have bA:=aX.put2 (HT.1.next I) 0 1 (.bool s2) (.slice p2 n2 c2) (NotInt.bool _);have V:Below w.heap.size w ((w2.setCell ⟨w.heap.size,0,none⟩ (.bool s2)).setCell ⟨w.heap.size,1,none⟩ (.slice p2 n2 c2)):=((HB.1.trans (I.mono HB.1.size)).setCell (nR _) _).setCell (nR _) _;have cC:=Kh bA;have cA:=Kh V;clear aX U I bA V HS J;go_wp2;try simp only[Exit.inBlock,Exit.then]
  refine bodyPost_ret (by simp[results,results83,go_sem,cF,cG];try rfl) rfl ?_;exact⟨⟨s2,p2,n2,c2,rfl,HZ.1▸cC.1⟩,cA.1⟩
 ·have e1:IntKind.u64.wrap n=(v:Nat):=by rw[IntKind.wrap_u64];omega
  have hd:decide (n<0)=false:=decide_eq_false hneg;have HZ:=Kh (show sg false v=n by rw[Cp];omega);clear h1 h2 hneg hv;go_enter func83,ntmps83
  go_wp2_with fail
  refine(HW.1 _).mono ?_;rintro e w1 ⟨⟨p1,n1,c1,rfl,Z,Y⟩,O⟩;have HS:=Kh (Ez false p1 c1 n1 v w1 Y Z (by have:=dY.1;omega));have J:=Kh O;clear Z Y O HW;go_wp2_with fail
  refine HS.1.mono ?_;rintro e w2 ⟨⟨s2,p2,n2,c2,rfl,aX⟩,U⟩;have I:Below w0.heap.size w0 w2:=J.1.trans (U.mono J.1.size)
  obtain⟨u0,cF⟩:∃u,w2.cell? ⟨w.heap.size,0,none⟩=some u:=by
   rw[I.cell (p:=⟨w.heap.size,0,none⟩) HT.1.1];exact nV bB.1
  obtain⟨u1,cG⟩:∃u,w2.cell? ⟨w.heap.size,1,none⟩=some u:=by
   rw[I.cell (p:=⟨w.heap.size,1,none⟩) HT.1.1];exact nV bC.1
  have f0:=Ab I bB.1 (HF.1 0);have f1:=Ab I bC.1 (HF.1 1);have bA:=aX.put2 (HT.1.next I) 0 1 (.bool s2) (.slice p2 n2 c2) (NotInt.bool _);have V:Below w.heap.size w ((w2.setCell ⟨w.heap.size,0,none⟩ (.bool s2)).setCell ⟨w.heap.size,1,none⟩ (.slice p2 n2 c2)):=((HB.1.trans (I.mono HB.1.size)).setCell (nR _) _).setCell (nR _) _;have cC:=Kh bA;have cA:=Kh V;clear aX U I bA V HS J;go_wp2;try simp only[Exit.inBlock,Exit.then]
  refine bodyPost_ret (by simp[results,results83,go_sem,cF,cG];try rfl) rfl ?_;exact⟨⟨s2,p2,n2,c2,rfl,HZ.1▸cC.1⟩,cA.1⟩
structure Var2 (w:World) (R:Nat):Prop where
 some0:(w.cell? ⟨R,0,none⟩).isSome=true
 some1:(w.cell? ⟨R,1,none⟩).isSome=true
 free:∀i,w.frozen? ⟨R,i,none⟩=false
 sts:Sts w R
theorem Var2.of {w:World} {R:Nat} {t:TypeId} {a b:Value} (h:Blk w R t #[a,b]) (J:NotInt a) (O:NotInt b):Var2 w R:=
 ⟨by rw[h.at_ 0 rfl];rfl,by rw[h.at_ 1 rfl];rfl,λi=>h.free_ i,Sts.of h (by intro v I;simp at I;rcases I with rfl|rfl;exact J;exact O)⟩
theorem Var2.next {w w':World} {R:Nat} (h:Var2 w R) (I:Below w.heap.size w w'):Var2 w' R:=by
 have J:=I.cell (p:=⟨R,0,none⟩) h.sts.1;have O:=I.cell (p:=⟨R,1,none⟩) h.sts.1;refine⟨by rw[J];exact h.some0,by rw[O];exact h.some1,λi=>?_,h.sts.next I⟩;have e:w'.heap[R]?=w.heap[R]?:=I.block R h.sts.1;have:=h.free i;unfold World.frozen? at this ⊢;rw[e];exact this
theorem Var2.cells {w:World} {R:Nat} (h:Var2 w R):(∃u,w.cell? ⟨R,0,none⟩=some u)/\∃u,w.cell? ⟨R,1,none⟩=some u:=⟨nV h.some0,nV h.some1⟩
theorem kB (s:Bool) (p:Option Addr) (n c:Nat) (x:Int) (t:Bool) (q:Option Addr) (m d v:Nat) (w:World) (h:Zr w s p n c x) (h':Nm w q d v) (hG:nd v=m) (hn:n<=17592186044400) (hm:m<=17592186044400):
  Calls prog 130 #[.agg #[.bool s,.slice p n c],.bool t,.slice q m d] w λe w'=>Gx w' e (x+sg t v)/\Below w.heap.size w w':=by
 obtain⟨k,hk,gL,HL⟩:=h.letters (by omega);obtain⟨u,hu⟩:∃u,x.natAbs=u:=⟨_,rfl⟩
 rw[hu]at HL gL;have hP:=λJ (hb:Below w.heap.size w J)=>Xc p c (nd u) (dg u) q d (nd v) (dg v) J (HL.1.2.1.keep hb) (h'.keep hb) (by omega) (by omega)
 have hC:=λJ (hb:Below w.heap.size w J)=>Ek p c u q d v J (HL.1.2.1.keep hb) (h'.keep hb) (by omega) (by omega)
 have hD:=λ(O:v<=u) J (hb:Below w.heap.size w J)=>Rn p c (nd u) (dg u) q d (nd v) (dg v) J (HL.1.2.1.keep hb) (h'.keep hb) (by omega) (Bv O) (by rw[Bn,Bn];exact O)
 have hE:=λ(O:u<=v) J (hb:Below w.heap.size w J)=>Rn q d (nd v) (dg v) p c (nd u) (dg u) J (h'.keep hb) (HL.1.2.1.keep hb) (by omega) (Bv O) (by rw[Bn,Bn];exact O)
 have hO:vf (dg u) k=u:=by rw[<-gL,Bn]
 have hQ:vf (dg v) m=v:=by rw[<-hG,Bn]
 simp only[gL,hG,hO,hQ]at hP hC hD hE;have HX:=Kh HL.1.1;have HT:=Kh HL.1.2.2;have HP:=Kh hP;have HC:=Kh hC;have cC:=Kh hD;have cA:=Kh hE;clear hP hC hD hE HL h h' gL hG hu hO hQ;go_enter func130,ntmps130
 go_wp2_with fail
 obtain⟨w0,hR,X0,X1,bE⟩:=bx2 w #[.bool s,.slice p n c] 84 #[.bool false,.slice none 0 0] 84;rw[hR];have hN:w.heap.size<=w0.heap.size:=bE.size;clear hR;have I:=Kh (Var2.of X1 (NotInt.bool _) (NotInt.slice _ _ _));have A0:=X0.at_ 0 rfl;have A1:=X0.at_ 1 rfl;refine(HT.1 _ bE).mono ?_;rintro e J ⟨rfl,rfl⟩;have U:=Kh bE;have eP:=Kh X0;have gA:=Kh X1;clear X0 X1 HT bE;by_cases hst:s=t
 ·subst hst
  have HV:=Kh (show sg s (u+v)=x+sg s v by rw[<-HX.1,eB]);clear HC cC cA;go_wp2_with fail
  refine(HP.1 _ U.1).mono ?_;rintro e J ⟨⟨p1,c1,r1,rfl,bA,hv1⟩,V⟩;have HS:=Cg s p1 c1 _ r1 J bA (by omega);rw[hv1]at HS;replace HS:=Kh HS;have bY:=bt U V;have cD:=Kh (I.1.next V);clear bA hv1 V HP U I A0 A1 eP gA;go_wp2_with fail
  refine HS.1.mono ?_;rintro e w2 ⟨⟨s2,p2,n2,c2,rfl,bB⟩,Y⟩;have gS:=bt bY Y;have I:=Kh (cD.1.next Y);clear Y HS bY cD;obtain⟨⟨u0,hH⟩,⟨u1,hI⟩⟩:=I.1.cells;have f0:=I.1.free 0;have f1:=I.1.free 1;have Z:=bB.put2 I.1.sts 0 1 (.bool s2) (.slice p2 n2 c2) (NotInt.bool _);have cT:Below w.heap.size w ((w2.setCell ⟨w.heap.size+1,0,none⟩ (.bool s2)).setCell ⟨w.heap.size+1,1,none⟩ (.slice p2 n2 c2)):=(gS.1.setCell (by show w.heap.size<=w.heap.size+1;omega) _).setCell (by show w.heap.size<=w.heap.size+1;omega) _;have hB:=Kh Z;have gU:=Kh cT;clear bB Z cT;go_wp2;try simp only[Exit.inBlock,Exit.then]
  refine bodyPost_ret (by simp[results,results130,go_sem,hH,hI];try rfl) rfl ?_;exact⟨⟨s2,p2,n2,c2,rfl,HV.1▸hB.1⟩,gU.1⟩
 ·obtain rfl:t = !s:=by cases s <;> cases t <;> simp_all
  have nZ:(s == !s)=false:=by cases s <;> rfl
  clear hst;by_cases O:v<=u
  ·obtain⟨g,hg⟩:=N0 O
   have HV:=Kh (show sg s (u - v)=x+sg (!s) v by rw[<-HX.1,dZ _ _ _ O]);have hC:=HC.1;rw[hg]at hC;replace HC:=Kh hC;replace cC:=Kh (cC.1 O);have nY:decide ((0:Int)<=(g:Int))=true:=decide_eq_true (by omega);clear hC hg O cA HP;go_wp2_with fail
   refine(HC.1 _ U.1).mono ?_;rintro e J ⟨rfl,hq⟩;have aX:=Bm hq;have X0:=bk eP aX;have X1:=bk gA aX;have bE:=U.1.trans (aX.mono U.1.size);replace hN:w.heap.size<=J.heap.size:=bE.size;clear hq aX eP gA U I A0 A1 HC;go_upto_region 5 with(fail)
   have T1:=Sts.of X1 (by intro v hv;simp at hv;rcases hv with rfl|rfl <;> first|exact NotInt.bool _|exact NotInt.slice _ _ _);have mC:=Dx (Below.refl _ J).drew ⟨X0.c0,X0.c1,X1.so 0,X1.free_ 0,T1,X1.so 1,X1.free_ 1,T1,bE,hN⟩;clear X0 X1
   go_region_held3 (λJ=>J.cell? ⟨w.heap.size,0,none⟩=some (.bool s)/\J.cell? ⟨w.heap.size,1,none⟩=some (.slice p n c)/\J.cell? ⟨w.heap.size+1,0,none⟩=some (cellOf J ⟨w.heap.size+1,0,none⟩)/\J.frozen? ⟨w.heap.size+1,0,none⟩=false/\Sts J (w.heap.size+1)/\J.cell? ⟨w.heap.size+1,1,none⟩=some (cellOf J ⟨w.heap.size+1,1,none⟩)/\J.frozen? ⟨w.heap.size+1,1,none⟩=false/\Sts J (w.heap.size+1)/\Below w.heap.size w J/\w.heap.size<=J.heap.size)
    (first|with_reducible exact mC |(refine Dx (by with_reducible assumption) ?_;assumption) |(refine Ka ?_ ?_ ?_ ?_ ?_ ?_ ?_ ?_ ?_ <;> first|assumption|exact NotInt.bool _|exact NotInt.slice _ _ _ |(dsimp only;omega) |(simp;done)))
    (first
     |(go_at_call 168;refine(cC.1 _ (Cf (by with_reducible assumption))).mono ?_;rintro e w2 ⟨⟨p1,c1,r1,rfl,bA,hv1⟩,V⟩;have HS:=Cg s p1 c1 _ r1 w2 bA (by omega);rw[hv1]at HS;replace HS:=Kh HS;clear bA hv1)
     |(go_at_call 131;refine HS.1.mono ?_;rintro e w3 ⟨⟨s2,p2,n2,c2,rfl,bB⟩,Y⟩;clear V;obtain⟨⟨mA,hT⟩,⟨mB,_⟩⟩:=J9 Y (by with_reducible assumption);have Z:=bB.put2 hT 0 1 (.bool s2) (.slice p2 n2 c2) (NotInt.bool _);replace Z:=Kh Z;clear bB hT))
   go_wp2;try simp only[Exit.inBlock,Exit.then]
   refine bodyPost_ret (by simp[results,results130,go_sem,mA,mB];try rfl) rfl ?_;exact⟨⟨s2,p2,n2,c2,rfl,HV.1▸Z.1⟩,Cf (by assumption)⟩
  ·have hlt:u<v:=by omega
   have HV:=Kh (show sg (!s) (v - u)=x+sg (!s) v by rw[<-HX.1,eA _ _ _ (Nat.le_of_lt hlt)]);have hC:=HC.1;rw[Ku hlt]at hC;replace HC:=Kh hC;replace cA:=Kh (cA.1 (Nat.le_of_lt hlt));clear hC hlt O cC HP;go_wp2_with fail
   refine(HC.1 _ U.1).mono ?_;rintro e J ⟨rfl,hq⟩;have aX:=Bm hq;have bY:=bt U aX;have cD:=Kh (I.1.next aX);clear hq aX eP gA U I A0 A1 HC;go_wp2_with fail
   refine(cA.1 _ bY.1).mono ?_;rintro e w3 ⟨⟨p1,c1,r1,rfl,bA,hv1⟩,V⟩;have HS:=Cg (!s) p1 c1 _ r1 w3 bA (by omega);rw[hv1]at HS;replace HS:=Kh HS;have cB:=bt bY V;have hL:=Kh (cD.1.next V);clear bA hv1 V bY cD cA;go_wp2_with fail
   refine HS.1.mono ?_;rintro e w2 ⟨⟨s2,p2,n2,c2,rfl,bB⟩,Y⟩;have gS:=Kh (cB.1.trans (Y.mono cB.1.size));have I:=Kh (hL.1.next Y);clear Y HS cB hL;obtain⟨⟨u0,hH⟩,⟨u1,hI⟩⟩:=I.1.cells;have f0:=I.1.free 0;have f1:=I.1.free 1;have Z:=bB.put2 I.1.sts 0 1 (.bool s2) (.slice p2 n2 c2) (NotInt.bool _);have cT:Below w.heap.size w ((w2.setCell ⟨w.heap.size+1,0,none⟩ (.bool s2)).setCell ⟨w.heap.size+1,1,none⟩ (.slice p2 n2 c2)):=(gS.1.setCell (by show w.heap.size<=w.heap.size+1;omega) _).setCell (by show w.heap.size<=w.heap.size+1;omega) _;have hB:=Kh Z;have gU:=Kh cT;clear bB Z cT;go_wp2;try simp only[Exit.inBlock,Exit.then]
   refine bodyPost_ret (by simp[results,results130,go_sem,hH,hI];try rfl) rfl ?_;exact⟨⟨s2,p2,n2,c2,rfl,HV.1▸hB.1⟩,gU.1⟩
theorem Sq (s:Bool) (p:Option Addr) (n c:Nat) (x:Int) (t:Bool) (q:Option Addr) (m d:Nat) (y:Int) (w:World) (h:Zr w s p n c x) (h':Zr w t q m d y) (hn:n<=17592186044400) (hm:m<=17592186044400):
  Calls prog 82 #[.agg #[.bool s,.slice p n c],.agg #[.bool t,.slice q m d]] w λe w'=>Gx w' e (x+y)/\Below w.heap.size w w':=by
 obtain⟨l,hl,V,KL⟩:=h'.letters (by omega);have hC:=λI (hb:Below w.heap.size w I)=>kB s p n c x t q l d y.natAbs I (h.keep hb) (KL.1.2.1.keep hb) V hn (by omega)
 rw[KL.1.1]at hC;have HC:=Kh hC;clear hC V h h';go_enter func82,ntmps82
 go_upto_region 1 with(fail)
 obtain⟨w0,Y,X0,X1,O,U⟩:=Kk w #[.bool s,.slice p n c] 84 #[.bool t,.slice q m d] 84 #[.bool false,.slice none 0 0] 84;rw[Y];have cC:w.heap.size<=w0.heap.size:=U.size;clear Y;have T2:=Sts.of O (by intro v hv;simp at hv;rcases hv with rfl|rfl <;> first|exact NotInt.bool _|exact NotInt.slice _ _ _);have cA:=Cl (Below.refl _ w0).drew ⟨X0.c0,X0.c1,X1.c0,X1.c1,O.so 0,O.free_ 0,T2,O.so 1,O.free_ 1,T2,U,cC⟩;clear X0 X1 O
 go_region_held3 (λI=>I.cell? ⟨w.heap.size,0,none⟩=some (.bool s)/\I.cell? ⟨w.heap.size,1,none⟩=some (.slice p n c)/\I.cell? ⟨w.heap.size+1,0,none⟩=some (.bool t)/\I.cell? ⟨w.heap.size+1,1,none⟩=some (.slice q m d)/\I.cell? ⟨w.heap.size+1+1,0,none⟩=some (cellOf I ⟨w.heap.size+1+1,0,none⟩)/\I.frozen? ⟨w.heap.size+1+1,0,none⟩=false/\Sts I (w.heap.size+1+1)/\I.cell? ⟨w.heap.size+1+1,1,none⟩=some (cellOf I ⟨w.heap.size+1+1,1,none⟩)/\I.frozen? ⟨w.heap.size+1+1,1,none⟩=false/\Sts I (w.heap.size+1+1)/\Below w.heap.size w I/\w.heap.size<=I.heap.size)
  (first|with_reducible exact cA |(refine Cl (by with_reducible assumption) ?_;assumption) |(refine Hk ?_ ?_ ?_ ?_ ?_ ?_ ?_ ?_ ?_ ?_ ?_ ?_ ?_ <;> first|assumption|exact NotInt.bool _|exact NotInt.slice _ _ _ |(dsimp only;omega) |(simp;done)))
  (first
   |(go_at_call 129;refine(KL.1.2.2 _ (Bf (by with_reducible assumption))).mono ?_;rintro e w' ⟨rfl,rfl⟩)
   |(go_at_call 130;refine(HC.1 _ (Bf (by with_reducible assumption))).mono ?_;rintro e w3 ⟨⟨s2,p2,n2,c2,rfl,Z⟩,cB⟩;obtain⟨⟨bE,hT⟩,⟨bY,_⟩⟩:=Hj cB (by with_reducible assumption);have J:=Z.put2 hT 0 1 (.bool s2) (.slice p2 n2 c2) (NotInt.bool _);replace J:=Kh J;clear Z hT))
 go_wp2;try simp only[Exit.inBlock,Exit.then]
 refine bodyPost_ret (by simp[results,results82,go_sem,bE,bY];try rfl) rfl ?_;exact⟨⟨s2,p2,n2,c2,rfl,J.1⟩,Bf (by assumption)⟩
theorem Kz {a b q r:Int} (O:0<b) (h:r+b*q=a) (I:0<=r) (J:r<b):a / b=q/\a % b=r:=(Int.ediv_emod_unique O).2 ⟨h,I,J⟩
theorem Sf {s:Bool} {u v:Nat} (J:0<v):(sg s u) / (v:Int)=(if s=true/\0<u % v then sg s (u / v+1)else sg s (u / v))/\(sg s u) % (v:Int)=(if s=true/\0<u % v then((v - u % v:Nat):Int)else((u % v:Nat):Int)):=by
 have I:=Nat.div_add_mod u v;have O:=Nat.mod_lt u J
 have U:((v:Int)*((u / v:Nat):Int))+((u % v:Nat):Int)=(u:Int):=by
  rw[<-Int.natCast_mul,<-Int.natCast_add,I]
 generalize u / v=Q at *;generalize u % v=R at *;cases s with
 | false=>
  rw[if_neg (by simp),if_neg (by simp)];exact Kz (by omega) (by rw[Cp,Cp];omega) (by omega) (by omega)
 | true=>
  by_cases hR:0<R
  ·rw[if_pos ⟨rfl,hR⟩,if_pos ⟨rfl,hR⟩]
   refine Kz (by omega) ?_ (by omega) (by omega);show((v - R:Nat):Int)+(v:Int)*(-((Q+1:Nat):Int))=-(u:Int);rw[Int.mul_neg,Int.natCast_add,Int.mul_add];omega
  ·rw[if_neg (by simp[hR]),if_neg (by simp[hR])]
   refine Kz (by omega) ?_ (by omega) (by omega);show(R:Int)+(v:Int)*(-(Q:Int))=-(u:Int);rw[Int.mul_neg];omega
theorem iP {s t:Bool} {u v:Nat} (O:0<v):(sg s u) / (sg t v)=(if s=true/\0<u % v then sg (s != t) (u / v+1)else sg (s != t) (u / v))/\(sg s u) % (sg t v)=(if s=true/\0<u % v then((v - u % v:Nat):Int)else((u % v:Nat):Int)):=by
 obtain⟨I,J⟩:=Sf (s:=s) (u:=u) O;cases t with
 | false=>
  rw[Cp,I,J];cases s <;> exact⟨rfl,rfl⟩
 | true=>
  rw[show sg true v=-(v:Int)from rfl,Int.ediv_neg,Int.emod_neg,I,J];refine⟨?_,rfl⟩;split <;> cases s <;> simp[sg]
def jL (w':World) (e:Ending) (q r:Int):Prop:=∃s p n c t p' m d,e=.returned (.tuple #[.agg #[.bool s,.slice p n c],.agg #[.bool t,.slice p' m d],.int .i64 0])/\Zs w' s p n c q/\Zs w' t p' m d r
theorem put4 {w:World} {R S:Nat} {s t:Bool} {p q:Option Addr} {n c m d:Nat} {x y:Int} (U:Var2 w R) (V:Var2 w S) (Y:R≠S) (h1:Zs w s p n c x) (h2:Zs w t q m d y) {w':World}
  (hw:(((w.setCell ⟨R,0,none⟩ (.bool s)).setCell ⟨R,1,none⟩ (.slice p n c)).setCell ⟨S,0,none⟩ (.bool t)).setCell ⟨S,1,none⟩ (.slice q m d)=w'):
  w'.cell? ⟨R,0,none⟩=some (.bool s)/\w'.cell? ⟨R,1,none⟩=some (.slice p n c)/\w'.cell? ⟨S,0,none⟩=some (.bool t)/\w'.cell? ⟨S,1,none⟩=some (.slice q m d)/\Zs w' s p n c x/\Zs w' t q m d y:=by
 subst hw;have Z:=V.sts.put ⟨R,0,none⟩ (.bool s) (NotInt.bool _);have O:=Z.put ⟨R,1,none⟩ (.slice p n c) (NotInt.slice _ _ _);have I:∀(w:World) (i j:Nat) (v:Value),(w.setCell ⟨S,i,none⟩ v).cell? ⟨R,j,none⟩=w.cell? ⟨R,j,none⟩:=λw i j v=>World.cell?_setCell_far w ⟨S,i,none⟩ ⟨R,j,none⟩ v (Ne.symm Y)
 have J:∀R:Nat,(⟨R,0,none⟩:Addr)≠⟨R,1,none⟩:=λR h=>by simp at h
 refine⟨?_,?_,?_,?_,?_,?_⟩
 ·rw[I,I,World.cell?_setCell_other _ _ _ _ (Ne.symm (J R)),World.cell?_setCell_same' _ _ _ U.some0]
 ·rw[I,I,World.cell?_setCell_same' _ _ _ (Bh U.some1)]
 ·rw[World.cell?_setCell_other _ _ _ _ (Ne.symm (J S)),World.cell?_setCell_same' _ _ _ (Bh (Bh V.some0))]
 ·rw[World.cell?_setCell_same' _ _ _ (Bh (Bh (Bh V.some1)))]
 ·exact(h1.put2 U.sts 0 1 _ _ (NotInt.bool _)).put2 O 0 1 _ _ (NotInt.bool _)
 ·exact(h2.put2 U.sts 0 1 _ _ (NotInt.bool _)).put2 O 0 1 _ _ (NotInt.bool _)
theorem Ws (s:Bool) (p:Option Addr) (n c:Nat) (x:Int) (t:Bool) (q:Option Addr) (m d:Nat) (y:Int) (w:World) (h:Zr w s p n c x) (h':Zr w t q m d y) (hn:n<=17592186044400) (hm:m<=17592186044400) (hy:y≠0):
  Calls prog 170 #[.agg #[.bool s,.slice p n c],.agg #[.bool t,.slice q m d]] w λe w'=>jL w' e (x / y) (x % y)/\Below w.heap.size w w':=by
 obtain⟨k,hk,bY,HL⟩:=h.letters (by omega);obtain⟨l,hl,hJ,KL⟩:=h'.letters (by omega);obtain⟨u,hu⟩:∃u,x.natAbs=u:=⟨_,rfl⟩
 obtain⟨v,hv⟩:∃v,y.natAbs=v:=⟨_,rfl⟩
 rw[hu]at HL bY;rw[hv]at KL hJ;have pE:0<v:=by omega
 obtain⟨hq,hr⟩:=iP (s:=s) (t:=t) (u:=u) pE;rw[HL.1.1,KL.1.1]at hq hr;have hD:=λw1 (hb:Below w.heap.size w w1)=>Pb p c u q d v w1 (HL.1.2.1.keep hb) (KL.1.2.1.keep hb) (by omega) (by omega) (by omega)
 rw[bY,hJ]at hD;have qJ:0<l:=by rw[<-hJ];exact Bz.2 (by omega)
 have qK:((l:Int)==0)=false:=beq_eq_false_iff_ne.2 (by omega);obtain⟨Q,hQ⟩:∃Q,u / v=Q:=⟨_,rfl⟩
 obtain⟨R,hR⟩:∃R,u % v=R:=⟨_,rfl⟩
 have oC:R<v:=by rw[<-hR];exact Nat.mod_lt _ pE
 have oR:Q<=u:=by rw[<-hQ];exact Nat.div_le_self _ _
 have oQ:nd Q<=k:=by rw[<-bY];exact Bv oR
 have oS:nd R<=l:=by rw[<-hJ];exact Bv (Nat.le_of_lt oC)
 rw[hQ,hR]at hD hq;rw[hR]at hr;have HD:=Kh hD;have oO:=Kh HL.1.2.2;have oP:=Kh KL.1.2.2;have hP:=Kh KL.1.2.1;have oJ:=Kh hJ;have HQ:=Kh hq;have HR:=Kh hr;have oN:=Kh oC;have oM:=Kh oS;have oL:=Kh oQ;have oB:=Kh (Bz (v:=R));clear hD hq hr oC oS oR hQ hR oQ hJ bY HL KL h h' hv hu hy;go_enter func170,ntmps170
 go_wp2_with fail
 obtain⟨w0,pH,X0,X1,X2,X3,oT⟩:=nL w #[.bool s,.slice p n c] 84 #[.bool t,.slice q m d] 84 #[.bool false,.slice none 0 0] 84 #[.bool false,.slice none 0 0] 84;rw[pH];clear pH;have bA:=Kh (Var2.of X2 (NotInt.bool _) (NotInt.slice _ _ _));have bB:=Kh (Var2.of X3 (NotInt.bool _) (NotInt.slice _ _ _));have hB:=Kh X0;have hE:=Kh X1;have hM:=Kh oT;have A1:=X0.at_ 1 rfl;clear X0 X1 X2 X3 oT;refine(oP.1 _ hM.1).mono ?_;rintro e w1 ⟨rfl,rfl⟩;clear oP;go_wp2_with fail
 refine(oO.1 _ hM.1).mono ?_;rintro e w1 ⟨rfl,rfl⟩;clear oO;go_wp2_with fail
 refine(HD.1 _ hM.1).mono ?_;rintro e w1 ⟨⟨p1,c1,p2,c2,rfl,oY,oZ⟩,hI⟩;obtain⟨k1,iL⟩:∃k1,nd Q=k1:=⟨_,rfl⟩
 obtain⟨k2,bY⟩:∃k2,nd R=k2:=⟨_,rfl⟩
 rw[iL,bY];rw[iL]at oL;rw[bY]at oM oB;have V:=bt hM hI;replace bA:=Kh (bA.1.next hI);replace bB:=Kh (bB.1.next hI);replace hB:=Kh (bk hB hI);replace hE:=Kh (bk hE hI);replace hP:=Kh (hP.1.keep V.1);have A0:=hB.1.at_ 0 rfl;have A2:=hE.1.at_ 0 rfl;have hY:=Kh oY;have hZ:=Kh oZ;have hO:=Kh iL;have hG:=Kh bY;have qL:k1<=k:=oL.1;have qM:k2<=l:=oM.1;clear HD hM A1 oY oZ hI iL bY;by_cases hcase:s=true/\0<k2
 ·obtain⟨rfl,oX⟩:=hcase
  have dC:=Kh (show x / y=sg (!t) (Q+1)by have h1:=HQ.1;rw[if_pos ⟨rfl,Bz.2 (by have:=oB.1;omega) |> Bz.1 |> Nat.pos_of_ne_zero⟩]at h1;cases t <;> exact h1);have gA:=Kh (show x % y=((v - R:Nat):Int)by have h1:=HR.1;rw[if_pos ⟨rfl,Nat.pos_of_ne_zero (oB.1.1 oX)⟩]at h1;exact h1)
  have mD:=(Row.alloc w1 #[.int .u32 1] 1 (λ_=>1) rfl (λi hi=>by obtain rfl:i=0:=by omega
                                                                 rfl) (λ_ _=>(by decide:(1:Nat)<4294967296))).dg 1 (nR _)
  have oE:Below w1.heap.size w1 (w1.alloc (.cells #[.int .u32 1] 200)):=(Below.refl _ _).alloc (nR _) _;have HP:=Xc p1 c1 (nd Q) (dg Q) (some ⟨w1.heap.size,0,none⟩) 1 1 (λ_=>1) _ (hY.1.keep oE) mD (by have:=hO.1;omega) (by omega);rw[Bn,show vf (λ_=>1) 1=1 from rfl,hO.1]at HP;have hH:=λw5 (hb:Below w1.heap.size w1 w5)=>Rn q d (nd v) (dg v) p2 c2 (nd R) (dg R) w5 (hP.1.keep hb) (hZ.1.keep hb) (by have:=oJ.1;omega) (Bv (Nat.le_of_lt oN.1)) (by rw[Bn,Bn];exact Nat.le_of_lt oN.1)
  simp only[Bn]at hH;rw[oJ.1,hG.1]at hH;replace HP:=Kh HP;replace hH:=Kh hH;have oG:=Kh oE;clear mD oE HQ HR;go_wp2_with fail
  refine HP.1.mono ?_;rintro e w3 ⟨⟨p3,c3,r3,rfl,oV,pF⟩,oU⟩;have hX:=bt oG oU;have oA:=Kh (And.intro oV pF);clear oV pF oU HP oG;go_wp2_with fail
  refine(hH.1 _ hX.1).mono ?_;rintro e w4 ⟨⟨p4,c4,rr,rfl,oW,pG⟩,oD⟩;obtain⟨rq,hU⟩:∃rq,r3=rq:=⟨_,rfl⟩
  have Z:=Kh (show Dg w4 p3 c3 (max k1 1+1) rq/\vf rq (max k1 1+1)=Q+1 by rw[<-hU];exact⟨oA.1.1.keep oD,oA.1.2⟩);have aX:=Kh (And.intro oW pG);have bC:=hX.1.trans (oD.mono hX.1.size);replace bA:=Kh (bA.1.next bC);replace bB:=Kh (bB.1.next bC);have qG:=(bC.cell (p:=⟨w.heap.size,0,none⟩) hB.1.lt).trans A0;have qI:=(bC.cell (p:=⟨w.heap.size+1,0,none⟩) hE.1.lt).trans A2;replace V:=bt V bC;clear A0 A2 bC oD oW pG hU oA hX hH hY hZ hP hO hG hB hE;have J:=Cg (!t) p3 c3 (max k1 1+1) rq w4 Z.1.1 (by omega);rw[Z.1.2,<-dC.1]at J;replace J:=Kh J;have O:=λw5 (hb:Below w4.heap.size w4 w5)=>Cg false p4 c4 l rr w5 (aX.1.1.keep hb) (by omega)
  simp only[aX.1.2,Cp,<-gA.1]at O;replace O:=Kh O;clear Z aX dC gA;go_wp2_with fail
  refine J.1.mono ?_;rintro e w5 ⟨⟨s5,p5,n5,c5,rfl,dE⟩,cT⟩;have I:=Kh cT;have cB:=Kh dE;clear dE cT J;go_wp2_with fail
  refine(O.1 _ I.1).mono ?_;rintro e w6 ⟨⟨s6,p6,n6,c6,rfl,dY⟩,U⟩;have cC:=Kh (cB.1.keep U);have V2:=(bA.1.next I.1).next U
  have V3:=(bB.1.next I.1).next U
  have cA:=Kh ((V.1.trans (I.1.mono V.1.size)).trans (U.mono (nS V.1.size I.1.size)));obtain⟨⟨u0,pB⟩,⟨u1,pC⟩⟩:=V2.cells;obtain⟨⟨u2,hu2⟩,⟨u3,pD⟩⟩:=V3.cells;have f0:=V2.free 0;have f1:=V2.free 1;have f2:=V3.free 0;have f3:=V3.free 1;obtain⟨w7,Y⟩:∃w7,(((w6.setCell ⟨w.heap.size+1+1,0,none⟩ (.bool s5)).setCell ⟨w.heap.size+1+1,1,none⟩ (.slice p5 n5 c5)).setCell ⟨w.heap.size+1+1+1,0,none⟩ (.bool s6)).setCell ⟨w.heap.size+1+1+1,1,none⟩ (.slice p6 n6 c6)=w7:=⟨_,rfl⟩
  obtain⟨E0,E1,E2,E3,z5,z6⟩:=put4 V2 V3 (by omega) cC.1 dY Y
  have cX:Below w.heap.size w w7:=by
   rw[<-Y];exact(((cA.1.setCell (by show w.heap.size<=w.heap.size+1+1;omega) _).setCell (by show w.heap.size<=w.heap.size+1+1;omega) _).setCell (by show w.heap.size<=w.heap.size+1+1+1;omega) _).setCell (by show w.heap.size<=w.heap.size+1+1+1;omega) _
  have cD:=Kh (And.intro z5 z6);have hN:=Kh cX;have hS:=Kh Y;have HE:=Kh (And.intro E0 (And.intro E1 (And.intro E2 E3)));clear z5 z6 cX Y E0 E1 E2 E3 V2 V3 dY U cB cC I cA O V bA bB;go_wp2;rw[hS.1];obtain⟨E0,E1,E2,E3⟩:=HE.1;try simp only[Exit.inBlock,Exit.then]
  refine bodyPost_ret (by simp[results,results170,go_sem,E0,E1,E2,E3];try rfl) rfl ?_;exact⟨⟨s5,p5,n5,c5,s6,p6,n6,c6,rfl,cD.1.1,cD.1.2⟩,hN.1⟩
 ·have gS:x / y=sg (s != t) Q:=by have h1:=HQ.1;rw[if_neg (λh=>hcase ⟨h.1,by rw[<-hG.1];exact Bz.2 (by omega)⟩)]at h1;exact h1
  have gA:=Kh (show x % y=((R:Nat):Int)by have h1:=HR.1;rw[if_neg (λh=>hcase ⟨h.1,by rw[<-hG.1];exact Bz.2 (by omega)⟩)]at h1;exact h1);obtain⟨rq,hU⟩:∃rq,dg Q=rq:=⟨_,rfl⟩
  obtain⟨rr,pA⟩:∃rr,dg R=rr:=⟨_,rfl⟩
  have Z:=Kh (show Dg w1 p1 c1 k1 rq/\vf rq k1=Q by rw[<-hU,<-hO.1];exact⟨hY.1,Bn Q⟩);have aX:=Kh (show Dg w1 p2 c2 k2 rr/\vf rr k2=R by rw[<-pA,<-hG.1];exact⟨hZ.1,Bn R⟩);clear hU pA HQ HR hY hZ hP hO hG hB hE;cases s with
  | false=>
   have dC:=Kh (show x / y=sg t Q by rw[gS];cases t <;> rfl);clear gS hcase;have J:=Cg (t) p1 c1 k1 rq w1 Z.1.1 (by omega);rw[Z.1.2,<-dC.1]at J;replace J:=Kh J;have O:=λw5 (hb:Below w1.heap.size w1 w5)=>Cg false p2 c2 k2 rr w5 (aX.1.1.keep hb) (by omega)
   simp only[aX.1.2,Cp,<-gA.1]at O;replace O:=Kh O;clear Z aX dC gA;go_wp2_with fail
   refine J.1.mono ?_;rintro e w5 ⟨⟨s5,p5,n5,c5,rfl,dE⟩,cT⟩;have I:=Kh cT;have cB:=Kh dE;clear dE cT J;go_wp2_with fail
   refine(O.1 _ I.1).mono ?_;rintro e w6 ⟨⟨s6,p6,n6,c6,rfl,dY⟩,U⟩;have cC:=Kh (cB.1.keep U);have V2:=(bA.1.next I.1).next U
   have V3:=(bB.1.next I.1).next U
   have cA:=Kh ((V.1.trans (I.1.mono V.1.size)).trans (U.mono (nS V.1.size I.1.size)));obtain⟨⟨u0,pB⟩,⟨u1,pC⟩⟩:=V2.cells;obtain⟨⟨u2,hu2⟩,⟨u3,pD⟩⟩:=V3.cells;have f0:=V2.free 0;have f1:=V2.free 1;have f2:=V3.free 0;have f3:=V3.free 1;obtain⟨w7,Y⟩:∃w7,(((w6.setCell ⟨w.heap.size+1+1,0,none⟩ (.bool s5)).setCell ⟨w.heap.size+1+1,1,none⟩ (.slice p5 n5 c5)).setCell ⟨w.heap.size+1+1+1,0,none⟩ (.bool s6)).setCell ⟨w.heap.size+1+1+1,1,none⟩ (.slice p6 n6 c6)=w7:=⟨_,rfl⟩
   obtain⟨E0,E1,E2,E3,z5,z6⟩:=put4 V2 V3 (by omega) cC.1 dY Y
   have cX:Below w.heap.size w w7:=by
    rw[<-Y];exact(((cA.1.setCell (by show w.heap.size<=w.heap.size+1+1;omega) _).setCell (by show w.heap.size<=w.heap.size+1+1;omega) _).setCell (by show w.heap.size<=w.heap.size+1+1+1;omega) _).setCell (by show w.heap.size<=w.heap.size+1+1+1;omega) _
   have cD:=Kh (And.intro z5 z6);have hN:=Kh cX;have hS:=Kh Y;have HE:=Kh (And.intro E0 (And.intro E1 (And.intro E2 E3)));clear z5 z6 cX Y E0 E1 E2 E3 V2 V3 dY U cB cC I cA O V bA bB;go_wp2;rw[hS.1];obtain⟨E0,E1,E2,E3⟩:=HE.1;try simp only[Exit.inBlock,Exit.then]
   refine bodyPost_ret (by simp[results,results170,go_sem,E0,E1,E2,E3];try rfl) rfl ?_;exact⟨⟨s5,p5,n5,c5,s6,p6,n6,c6,rfl,cD.1.1,cD.1.2⟩,hN.1⟩
  | true=>
   have dC:=Kh (show x / y=sg (!t) Q by rw[gS];cases t <;> rfl)
   obtain rfl:k2=0:=by
    rcases Nat.eq_zero_or_pos k2 with h1|h1
    ·exact h1
    ·exact absurd ⟨rfl,h1⟩ hcase
   clear gS hcase;have J:=Cg (!t) p1 c1 k1 rq w1 Z.1.1 (by omega);rw[Z.1.2,<-dC.1]at J;replace J:=Kh J;have O:=λw5 (hb:Below w1.heap.size w1 w5)=>Cg false p2 c2 0 rr w5 (aX.1.1.keep hb) (by omega)
   simp only[aX.1.2,Cp,<-gA.1]at O;replace O:=Kh O;clear Z aX dC gA;go_wp2_with fail
   refine J.1.mono ?_;rintro e w5 ⟨⟨s5,p5,n5,c5,rfl,dE⟩,cT⟩;have I:=Kh cT;have cB:=Kh dE;clear dE cT J;go_wp2_with fail
   refine(O.1 _ I.1).mono ?_;rintro e w6 ⟨⟨s6,p6,n6,c6,rfl,dY⟩,U⟩;have cC:=Kh (cB.1.keep U);have V2:=(bA.1.next I.1).next U
   have V3:=(bB.1.next I.1).next U
   have cA:=Kh ((V.1.trans (I.1.mono V.1.size)).trans (U.mono (nS V.1.size I.1.size)));obtain⟨⟨u0,pB⟩,⟨u1,pC⟩⟩:=V2.cells;obtain⟨⟨u2,hu2⟩,⟨u3,pD⟩⟩:=V3.cells;have f0:=V2.free 0;have f1:=V2.free 1;have f2:=V3.free 0;have f3:=V3.free 1;obtain⟨w7,Y⟩:∃w7,(((w6.setCell ⟨w.heap.size+1+1,0,none⟩ (.bool s5)).setCell ⟨w.heap.size+1+1,1,none⟩ (.slice p5 n5 c5)).setCell ⟨w.heap.size+1+1+1,0,none⟩ (.bool s6)).setCell ⟨w.heap.size+1+1+1,1,none⟩ (.slice p6 n6 c6)=w7:=⟨_,rfl⟩
   obtain⟨E0,E1,E2,E3,z5,z6⟩:=put4 V2 V3 (by omega) cC.1 dY Y
   have cX:Below w.heap.size w w7:=by
    rw[<-Y];exact(((cA.1.setCell (by show w.heap.size<=w.heap.size+1+1;omega) _).setCell (by show w.heap.size<=w.heap.size+1+1;omega) _).setCell (by show w.heap.size<=w.heap.size+1+1+1;omega) _).setCell (by show w.heap.size<=w.heap.size+1+1+1;omega) _
   have cD:=Kh (And.intro z5 z6);have hN:=Kh cX;have hS:=Kh Y;have HE:=Kh (And.intro E0 (And.intro E1 (And.intro E2 E3)));clear z5 z6 cX Y E0 E1 E2 E3 V2 V3 dY U cB cC I cA O V bA bB;go_wp2;rw[hS.1];obtain⟨E0,E1,E2,E3⟩:=HE.1;try simp only[Exit.inBlock,Exit.then]
   refine bodyPost_ret (by simp[results,results170,go_sem,E0,E1,E2,E3];try rfl) rfl ?_;exact⟨⟨s5,p5,n5,c5,s6,p6,n6,c6,rfl,cD.1.1,cD.1.2⟩,hN.1⟩
def jK (w':World) (e:Ending) (q:Int):Prop:=∃s p n c,e=.returned (.tuple #[.agg #[.bool s,.slice p n c],.int .i64 0])/\Zs w' s p n c q
theorem Su (s:Bool) (p:Option Addr) (n c:Nat) (x:Int) (t:Bool) (q:Option Addr) (m d:Nat) (y:Int) (w:World) (h:Zr w s p n c x) (h':Zr w t q m d y) (hn:n<=17592186044400) (hm:m<=17592186044400) (hy:y≠0) (hd:x % y=0):
  Calls prog 136 #[.agg #[.bool s,.slice p n c],.agg #[.bool t,.slice q m d]] w λe w'=>jK w' e (x / y)/\Below w.heap.size w w':=by
 have hC:=λw1 (hb:Below w.heap.size w w1)=>Ws s p n c x t q m d y w1 (h.keep hb) (h'.keep hb) hn hm hy
 rw[hd]at hC;have HC:=Kh hC;clear hC h h' hd hy;go_enter func136,ntmps136
 go_wp2_with fail
 obtain⟨w0,bB,X0,X1,X2,bA⟩:=Kk w #[.bool s,.slice p n c] 84 #[.bool t,.slice q m d] 84 #[.bool false,.slice none 0 0] 84;rw[bB];have J:=Kh (Var2.of X2 (NotInt.bool _) (NotInt.slice _ _ _));have O:=Kh bA;clear bB X0 X1 X2 bA;refine(HC.1 _ O.1).mono ?_;rintro e w1 ⟨⟨s5,p5,n5,c5,s6,p6,n6,c6,rfl,Z,bC⟩,Y⟩;obtain rfl:n6=0:=bC.2.1.symm;have cF:=Kh Z;replace J:=Kh (J.1.next Y);have U:=bt O Y;obtain⟨wa,dC⟩:∃wa,(w1.alloc (.cells #[.bool s5,.slice p5 n5 c5] 84)).alloc (.cells #[.bool s6,.slice p6 0 c6] 84)=wa:=⟨_,rfl⟩
 obtain⟨Y0,Y1,I⟩:=Lx w1 #[.bool s5,.slice p5 n5 c5] 84 #[.bool s6,.slice p6 0 c6] 84;rw[dC]at Y0 Y1 I;have a0:=Y0.at_ 0 rfl;have a1:=Y0.at_ 1 rfl;have a2:=Y1.at_ 0 rfl;have a3:=Y1.at_ 1 rfl;have V:=J.1.next I
 obtain⟨⟨u0,cT⟩,⟨u1,cX⟩⟩:=V.cells;have f0:=V.free 0;have f1:=V.free 1;have HZ:=Kh ((Z.keep I).put2 V.sts 0 1 (.bool s5) (.slice p5 n5 c5) (NotInt.bool _));have HB:=Kh (((U.1.trans (I.mono U.1.size)).setCell (show w.heap.size<=(⟨w.heap.size+1+1,0,none⟩:Addr).block by show w.heap.size<=w.heap.size+1+1;omega) (.bool s5)).setCell (show w.heap.size<=(⟨w.heap.size+1+1,1,none⟩:Addr).block by show w.heap.size<=w.heap.size+1+1;omega) (.slice p5 n5 c5));clear Z bC Y HC O J cF U Y0 Y1 I V;go_wp2;refine bodyPost_ret (by simp[results,results136,go_sem,cT,cX];try rfl) rfl ?_;exact⟨⟨s5,p5,n5,c5,rfl,HZ.1⟩,HB.1⟩
end
theorem Ga {n d:Int} (I:0<d):(Rat.divInt n d).num=n / (Int.gcd n d:Nat):=by
 rw[Rat.num_divInt,Int.sign_eq_one_of_pos I,Int.one_mul,Int.gcd_comm]
theorem F9 {n d:Int} (I:0<d):((Rat.divInt n d).den:Int)=d / (Int.gcd n d:Nat):=by
 rw[Rat.den_divInt,if_neg (by omega),Int.gcd_comm,Int.natCast_ediv,Int.natAbs_of_nonneg (by omega)]
theorem Qc (n d:Int):Rat.divInt (-n) (-d)=Rat.divInt n d:=Rat.neg_divInt_neg n d
theorem H7 (n:Int):(Rat.divInt n 1).num=n/\(Rat.divInt n 1).den=1:=by
 constructor
 ·rw[Ga (by decide)];simp
 ·have:=F9 (n:=n) (d:=1) (by decide)
  simp at this;omega
theorem Mz (d:Int):Rat.divInt 0 d=0:=Rat.zero_divInt d
theorem Bl (q:Rat):Rat.divInt q.num q.den=q:=Rat.num_divInt_den q
theorem dU (a b:Rat):a+b=Rat.divInt (a.num*b.den+b.num*a.den) (a.den*b.den):=by
 rw[Rat.add_def',<-Rat.divInt_ofNat,Int.natCast_mul]
theorem dV (a b:Rat):a*b=Rat.divInt (a.num*b.num) (a.den*b.den):=by
 rw[Rat.mul_def',<-Rat.divInt_ofNat,Int.natCast_mul]
theorem Oh (m n:Int):Rat.divInt m 1+Rat.divInt n 1=Rat.divInt (m+n) 1:=by
 rw[Rat.divInt_add_divInt m n (by decide) (by decide)];simp
theorem iJ (n d:Int):(Rat.divInt n d).num.natAbs<=n.natAbs:=by
 rw[Rat.num_divInt];refine nS (Int.natAbs_ediv_le_natAbs _ _) ?_;rw[Int.natAbs_mul]
 have:d.sign.natAbs<=1:=by
  rcases Int.lt_trichotomy d 0 with h|h|h
  ·rw[Int.sign_eq_neg_one_of_neg h];decide
  ·rw[h];decide
  ·rw[Int.sign_eq_one_of_pos h];decide
 have:=Nat.mul_le_mul_right n.natAbs this;omega
theorem gV {n d:Int} (h:d≠0):(Rat.divInt n d).den<=d.natAbs:=by
 rw[Rat.den_divInt,if_neg h];exact Nat.div_le_self _ _
def hq (q:Rat):Nat:=max (nd q.num.natAbs) (nd q.den)
theorem E9 (q:Rat):nd q.num.natAbs<=hq q:=Nat.le_max_left _ _
theorem F4 (q:Rat):nd q.den<=hq q:=Nat.le_max_right _ _
theorem Dt {n d:Int} {K:Nat} (h:d≠0) (hn:nd n.natAbs<=K) (I:nd d.natAbs<=K):hq (Rat.divInt n d)<=K:=
 Nat.max_le.2 ⟨nS (Bv (iJ n d)) hn,nS (Bv (gV h)) I⟩
theorem F1 (q:Rat):(q.den:Int)≠0:=by have:=q.den_nz;omega
theorem B7 (a b:Rat):hq (a*b)<=hq a+hq b:=by
 rw[dV];refine Dt (Int.mul_ne_zero (F1 a) (F1 b)) ?_ ?_
 ·rw[Int.natAbs_mul]
  have:=Cm a.num.natAbs b.num.natAbs;have:=E9 a;have:=E9 b;omega
 ·rw[Int.natAbs_mul,Int.natAbs_natCast,Int.natAbs_natCast]
  have:=Cm a.den b.den;have:=F4 a;have:=F4 b;omega
theorem Hf (a b:Int) {K:Nat} (O:nd a.natAbs<=K) (U:nd b.natAbs<=K):nd (a+b).natAbs<=K+1:=by
 have I:=Bv (Int.natAbs_add_le a b);have J:=iF a.natAbs b.natAbs;omega
theorem N5 (a b:Rat):hq (a+b)<=hq a+hq b+1:=by
 rw[dU];have I:=E9 a;have O:=E9 b;have J:=F4 a;have U:=F4 b;refine Dt (Int.mul_ne_zero (F1 a) (F1 b)) ?_ ?_
 ·refine Hf _ _ ?_ ?_
  ·rw[Int.natAbs_mul,Int.natAbs_natCast];have:=Cm a.num.natAbs b.den;omega
  ·rw[Int.natAbs_mul,Int.natAbs_natCast];have:=Cm b.num.natAbs a.den;omega
 ·rw[Int.natAbs_mul,Int.natAbs_natCast,Int.natAbs_natCast]
  have:=Cm a.den b.den;omega
section
open Go.RowKit Tryz
def Qr (w:World) (s:Bool) (p:Option Addr) (n c:Nat) (t:Bool) (q:Option Addr) (m d:Nat) (r:Rat):Prop:=∃x y,Zr w s p n c x/\Zr w t q m d y/\Rat.divInt x y=r
def Qs (w:World) (s:Bool) (p:Option Addr) (n c:Nat) (t:Bool) (q:Option Addr) (m d:Nat) (r:Rat):Prop:=Zs w s p n c r.num/\Zs w t q m d r.den
theorem Qr.keep {w w':World} {s:Bool} {p:Option Addr} {n c:Nat} {t:Bool} {q:Option Addr} {m d:Nat} {r:Rat} (h:Qr w s p n c t q m d r) (I:Below w.heap.size w w'):Qr w' s p n c t q m d r:=by
 obtain⟨x,y,J,O,U⟩:=h;exact⟨x,y,J.keep I,O.keep I,U⟩
theorem Qs.keep {w w':World} {s:Bool} {p:Option Addr} {n c:Nat} {t:Bool} {q:Option Addr} {m d:Nat} {r:Rat} (h:Qs w s p n c t q m d r) (I:Below w.heap.size w w'):Qs w' s p n c t q m d r:=⟨h.1.keep I,h.2.keep I⟩
theorem Qs.raw {w:World} {s:Bool} {p:Option Addr} {n c:Nat} {t:Bool} {q:Option Addr} {m d:Nat} {r:Rat} (h:Qs w s p n c t q m d r):Qr w s p n c t q m d r:=
 ⟨_,_,h.1.raw,h.2.raw,Bl r⟩
theorem Qs.sizes {w:World} {s:Bool} {p:Option Addr} {n c:Nat} {t:Bool} {q:Option Addr} {m d:Nat} {r:Rat} (h:Qs w s p n c t q m d r):n<=hq r/\m<=hq r:=by
 have J:=h.1.2.1;have I:=h.2.2.1;rw[Int.natAbs_natCast]at I;rw[<-J,<-I];exact⟨E9 r,F4 r⟩
def Eg (w':World) (e:Ending) (r:Rat):Prop:=∃s p n c t q m d,e=.returned (.agg #[.bool s,.slice p n c,.bool t,.slice q m d])/\Qs w' s p n c t q m d r
def fK (e:Ending) (z:Int):Prop:=∃b:Bool,e=.returned (.bool b)/\(b=true->z=1)
theorem Sy (s:Bool) (p:Option Addr) (n c:Nat) (z:Int) (w:World) (h:Zr w s p n c z) (hn:n<=35184372088830):
  Calls prog 81 #[.agg #[.bool s,.slice p n c]] w λe w'=>fK e z/\Below w.heap.size w w':=by
 obtain⟨a,J,U⟩:=h;have HZ:=Kh U;have V:=Kh (λo=>(Below.refl w.heap.size w).alloc (nR _) o);by_cases h1:n=1
 ·subst h1
  obtain⟨g,o,rfl,hg,Y⟩:=J.head (by omega)
  have I:∀Z,(w.alloc Z).cell? ⟨g,o,none⟩=some (.int .u32 (a 0:Nat)):=λZ=>by
   exact Lib.cell?_alloc_some Z (Y 0 (by omega))
  obtain⟨x,O⟩:∃x,a 0=x:=⟨_,rfl⟩
  rw[O]at I;have HX:=Kh O;by_cases hx1:x=1
  ·subst hx1
   cases s with
   | false=>
    have HV:=Kh (show z=1 by rw[<-HZ.1,Cp,vf,vf,HX.1];rfl);clear J U Y O;go_enter func81,ntmps81
    go_wp2;go_ret;exact⟨⟨true,rfl,λ_=>HV.1⟩,V.1 _⟩
   | true=>
    clear J U Y O;go_enter func81,ntmps81
    go_wp2;go_ret;exact⟨⟨false,rfl,λh=>by cases h⟩,V.1 _⟩
  ·have bE:((x:Int)==1)=false:=beq_eq_false_iff_ne.2 (by omega)
   clear J U Y O;go_enter func81,ntmps81
   go_wp2;go_ret;exact⟨⟨false,rfl,λh=>by cases h⟩,V.1 _⟩
 ·have bC:((n:Int)==1)=false:=beq_eq_false_iff_ne.2 (by omega)
  clear J U;go_enter func81,ntmps81
  go_wp2;go_ret;exact⟨⟨false,rfl,λh=>by cases h⟩,V.1 _⟩
end
end Go.Proofs.YtenlbhlllgppmaaGreatDoor
