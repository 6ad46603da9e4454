/- Contracts of bigint on integers: Normal, Neg, Add, Mul, Gcd, Sign, Of. -/
import Derived.Test.YtenlbhlllgppmaaGreatDoorC11
set_option maxRecDepth 100000
set_option maxHeartbeats 8000000
namespace Go.Proofs.YtenlbhlllgppmaaGreatDoor
section
open Go.RowKit Tryz
theorem Jy (s:Bool) (p:Option Addr) (n c:Nat) (z:Int) (w:World) (h:Zr w s p n c z) (hn:n<=35184372088830):
  Calls prog 134 #[.agg #[.bool s,.slice p n c]] w λe w'=>K7 w' e (z)/\Below w.heap.size w w':=by
 obtain⟨k,hk,I,HL⟩:=h.letters hn;have hC:=λE (hb:Below w.heap.size w E)=>J5 p c z.natAbs E (HL.1.2.1.keep hb) (by omega)
 rw[I]at hC;have HC:=Kh hC;have HK:=Kh I;have HV:=Kh (show sg (s) z.natAbs=z by exact HL.1.1);clear hC I h;go_enter func134,ntmps134
 go_upto_region 1 with(fail)
 obtain⟨w0,V,X0,M,O⟩:=bx2 w #[.bool s,.slice p n c] 84 #[.bool false,.slice none 0 0] 84;rw[V];have cA:w.heap.size<=w0.heap.size:=O.size;clear V;have T1:=Sts.of M (by intro v hv;simp at hv;rcases hv with rfl|rfl <;> first|exact NotInt.bool _|exact NotInt.slice _ _ _);have bC:=Dp (Below.refl _ w0).drew ⟨X0.c0,X0.c1,M.so 0,M.free_ 0,T1,M.so 1,M.free_ 1,T1,O,cA⟩;clear X0 M
 go_region_held3 (λE=>E.cell? ⟨w.heap.size,0,none⟩=some (.bool s)/\E.cell? ⟨w.heap.size,1,none⟩=some (.slice p n c)/\E.cell? ⟨w.heap.size+1,0,none⟩=some (cellOf E ⟨w.heap.size+1,0,none⟩)/\E.frozen? ⟨w.heap.size+1,0,none⟩=false/\Sts E (w.heap.size+1)/\E.cell? ⟨w.heap.size+1,1,none⟩=some (cellOf E ⟨w.heap.size+1,1,none⟩)/\E.frozen? ⟨w.heap.size+1,1,none⟩=false/\Sts E (w.heap.size+1)/\Below w.heap.size w E/\w.heap.size<=E.heap.size)
  (first|with_reducible exact bC |(refine Dp (by with_reducible assumption) ?_;assumption) |(refine Jn ?_ ?_ ?_ ?_ ?_ ?_ ?_ ?_ ?_ <;> first|assumption|exact NotInt.bool _|exact NotInt.slice _ _ _ |(dsimp only;omega) |(simp;done)))
  (first
   |(go_at_call 129;refine(HL.1.2.2 _ (Bz (by with_reducible assumption))).mono ?_;rintro e w' ⟨rfl,rfl⟩)
   |(go_at_call 147;refine(HC.1 _ (Bz (by with_reducible assumption))).mono ?_;rintro e w2 ⟨⟨p1,c1,rfl,U⟩,bE⟩;rw[HK.1];have HS:=Em (s) p1 c1 k z.natAbs w2 U HK.1 (by omega);replace HS:=Kh HS;clear U)
   |(go_at_call 131;refine HS.1.mono ?_;rintro e w3 ⟨⟨s2,p2,n2,c2,rfl,Z⟩,bY⟩;clear bE;obtain⟨⟨bA,hT⟩,⟨bB,_⟩⟩:=Jm bY (by with_reducible assumption);have J:=Z.put2 hT 0 1 (.bool s2) (.slice p2 n2 c2) (NotInt.bool _);replace J:=Kh J;clear Z hT))
 go_wp2;try simp only[Exit.inBlock,Exit.then]
 refine bodyPost_ret (by simp[results,results134,go_sem,bA,bB];try rfl) rfl ?_;exact⟨⟨s2,p2,n2,c2,rfl,HV.1▸J.1⟩,Bz (by assumption)⟩
theorem Wi (s:Bool) (p:Option Addr) (n c:Nat) (z:Int) (w:World) (h:Zr w s p n c z) (hn:n<=35184372088830):
  Calls prog 98 #[.agg #[.bool s,.slice p n c]] w λe w'=>K7 w' e (-z)/\Below w.heap.size w w':=by
 obtain⟨k,hk,I,HL⟩:=h.letters hn;have hC:=λE (hb:Below w.heap.size w E)=>J5 p c z.natAbs E (HL.1.2.1.keep hb) (by omega)
 rw[I]at hC;have HC:=Kh hC;have HK:=Kh I;have HV:=Kh (show sg (!s) z.natAbs=-z by rw[iR,HL.1.1]);clear hC I h;go_enter func98,ntmps98
 go_upto_region 1 with(fail)
 obtain⟨w0,V,X0,M,O⟩:=bx2 w #[.bool s,.slice p n c] 84 #[.bool false,.slice none 0 0] 84;rw[V];have cA:w.heap.size<=w0.heap.size:=O.size;clear V;have T1:=Sts.of M (by intro v hv;simp at hv;rcases hv with rfl|rfl <;> first|exact NotInt.bool _|exact NotInt.slice _ _ _);have bC:=Dp (Below.refl _ w0).drew ⟨X0.c0,X0.c1,M.so 0,M.free_ 0,T1,M.so 1,M.free_ 1,T1,O,cA⟩;clear X0 M
 go_region_held3 (λE=>E.cell? ⟨w.heap.size,0,none⟩=some (.bool s)/\E.cell? ⟨w.heap.size,1,none⟩=some (.slice p n c)/\E.cell? ⟨w.heap.size+1,0,none⟩=some (cellOf E ⟨w.heap.size+1,0,none⟩)/\E.frozen? ⟨w.heap.size+1,0,none⟩=false/\Sts E (w.heap.size+1)/\E.cell? ⟨w.heap.size+1,1,none⟩=some (cellOf E ⟨w.heap.size+1,1,none⟩)/\E.frozen? ⟨w.heap.size+1,1,none⟩=false/\Sts E (w.heap.size+1)/\Below w.heap.size w E/\w.heap.size<=E.heap.size)
  (first|with_reducible exact bC |(refine Dp (by with_reducible assumption) ?_;assumption) |(refine Jn ?_ ?_ ?_ ?_ ?_ ?_ ?_ ?_ ?_ <;> first|assumption|exact NotInt.bool _|exact NotInt.slice _ _ _ |(dsimp only;omega) |(simp;done)))
  (first
   |(go_at_call 129;refine(HL.1.2.2 _ (Bz (by with_reducible assumption))).mono ?_;rintro e w' ⟨rfl,rfl⟩)
   |(go_at_call 147;refine(HC.1 _ (Bz (by with_reducible assumption))).mono ?_;rintro e w2 ⟨⟨p1,c1,rfl,U⟩,bE⟩;rw[HK.1];have HS:=Em (!s) p1 c1 k z.natAbs w2 U HK.1 (by omega);replace HS:=Kh HS;clear U)
   |(go_at_call 131;refine HS.1.mono ?_;rintro e w3 ⟨⟨s2,p2,n2,c2,rfl,Z⟩,bY⟩;clear bE;obtain⟨⟨bA,hT⟩,⟨bB,_⟩⟩:=Jm bY (by with_reducible assumption);have J:=Z.put2 hT 0 1 (.bool s2) (.slice p2 n2 c2) (NotInt.bool _);replace J:=Kh J;clear Z hT))
 go_wp2;try simp only[Exit.inBlock,Exit.then]
 refine bodyPost_ret (by simp[results,results98,go_sem,bA,bB];try rfl) rfl ?_;exact⟨⟨s2,p2,n2,c2,rfl,HV.1▸J.1⟩,Bz (by assumption)⟩
theorem Gs (s:Bool) (p:Option Addr) (n c:Nat) (x:Int) (t:Bool) (q:Option Addr) (m d:Nat) (y:Int) (w:World) (h:Zr w s p n c x) (h':Zr w t q m d y) (hn:n<=17592186044400) (hm:m<=17592186044400):
  Calls prog 84 #[.agg #[.bool s,.slice p n c],.agg #[.bool t,.slice q m d]] w λe w'=>K7 w' e (x*y)/\Below w.heap.size w w':=by
 obtain⟨k,hk,I,HL⟩:=h.letters (by omega);obtain⟨l,hl,J,KL⟩:=h'.letters (by omega);have hC:=λE (hb:Below w.heap.size w E)=>bR p c (nd x.natAbs) (dg x.natAbs) q d (nd y.natAbs) (dg y.natAbs) E (HL.1.2.1.keep hb) (KL.1.2.1.keep hb) (by omega) (by omega)
 rw[I,J]at hC;rw[show vf (dg x.natAbs) k=x.natAbs by rw[<-I,Bt],show vf (dg y.natAbs) l=y.natAbs by rw[<-J,Bt]]at hC;have HC:=Kh hC;have HV:=Kh (show sg (s != t) (x.natAbs*y.natAbs)=x*y by rw[<-iP,HL.1.1,KL.1.1]);clear hC I J h h';go_enter func84,ntmps84
 go_upto_region 1 with(fail)
 obtain⟨w0,Z,X0,X1,O,U⟩:=T9 w #[.bool s,.slice p n c] 84 #[.bool t,.slice q m d] 84 #[.bool false,.slice none 0 0] 84;rw[Z];have cF:w.heap.size<=w0.heap.size:=U.size;clear Z;have M1:True:=trivial;have T2:=Sts.of O (by intro v hv;simp at hv;rcases hv with rfl|rfl <;> first|exact NotInt.bool _|exact NotInt.slice _ _ _);have cA:=Dq (Below.refl _ w0).drew ⟨X0.c0,X0.c1,X1.c0,X1.c1,O.so 0,O.free_ 0,T2,O.so 1,O.free_ 1,T2,U,cF⟩;clear X0 X1 O
 go_region_held3 (λE=>E.cell? ⟨w.heap.size,0,none⟩=some (.bool s)/\E.cell? ⟨w.heap.size,1,none⟩=some (.slice p n c)/\E.cell? ⟨w.heap.size+1,0,none⟩=some (.bool t)/\E.cell? ⟨w.heap.size+1,1,none⟩=some (.slice q m d)/\E.cell? ⟨w.heap.size+1+1,0,none⟩=some (cellOf E ⟨w.heap.size+1+1,0,none⟩)/\E.frozen? ⟨w.heap.size+1+1,0,none⟩=false/\Sts E (w.heap.size+1+1)/\E.cell? ⟨w.heap.size+1+1,1,none⟩=some (cellOf E ⟨w.heap.size+1+1,1,none⟩)/\E.frozen? ⟨w.heap.size+1+1,1,none⟩=false/\Sts E (w.heap.size+1+1)/\Below w.heap.size w E/\w.heap.size<=E.heap.size)
  (first|with_reducible exact cA |(refine Dq (by with_reducible assumption) ?_;assumption) |(refine Jp ?_ ?_ ?_ ?_ ?_ ?_ ?_ ?_ ?_ ?_ ?_ ?_ ?_ <;> first|assumption|exact NotInt.bool _|exact NotInt.slice _ _ _ |(dsimp only;omega) |(simp;done)))
  (first
   |(go_at_call 129;clear M1;refine(HL.1.2.2 _ (Bh (by with_reducible assumption))).mono ?_;rintro e w' ⟨rfl,rfl⟩)
   |(go_at_call 129;refine(KL.1.2.2 _ (Bh (by with_reducible assumption))).mono ?_;rintro e w' ⟨rfl,rfl⟩)
   |(go_at_call 133;refine(HC.1 _ (Bh (by with_reducible assumption))).mono ?_;rintro e w2 ⟨⟨k1,cD,p1,c1,r1,rfl,V,hv1⟩,cB⟩;have HS:=B5 (s != t) p1 c1 k1 r1 w2 V (by omega);rw[hv1]at HS;replace HS:=Kh HS;clear V hv1 cD)
   |(go_at_call 131;refine HS.1.mono ?_;rintro e w3 ⟨⟨s2,p2,n2,c2,rfl,aD⟩,cC⟩;clear cB;obtain⟨⟨bE,hT⟩,⟨bY,_⟩⟩:=Jo cC (by with_reducible assumption);have M:=aD.put2 hT 0 1 (.bool s2) (.slice p2 n2 c2) (NotInt.bool _);replace M:=Kh M;clear aD hT))
 go_wp2;try simp only[Exit.inBlock,Exit.then]
 refine bodyPost_ret (by simp[results,results84,go_sem,bE,bY];try rfl) rfl ?_;exact⟨⟨s2,p2,n2,c2,rfl,HV.1▸M.1⟩,Bh (by assumption)⟩
theorem jN (s:Bool) (p:Option Addr) (n c:Nat) (x:Int) (t:Bool) (q:Option Addr) (m d:Nat) (y:Int) (w:World) (h:Zr w s p n c x) (h':Zr w t q m d y) (hn:n<=17592186044400) (hm:m<=17592186044400):
  Calls prog 135 #[.agg #[.bool s,.slice p n c],.agg #[.bool t,.slice q m d]] w λe w'=>K7 w' e ((Int.gcd x y:Nat))/\Below w.heap.size w w':=by
 obtain⟨k,hk,I,HL⟩:=h.letters (by omega);obtain⟨l,hl,J,KL⟩:=h'.letters (by omega);have hC:=λE (hb:Below w.heap.size w E)=>Wp p c x.natAbs q d y.natAbs E (HL.1.2.1.keep hb) (KL.1.2.1.keep hb) (by omega) (by omega)
 rw[I,J,show Nat.gcd x.natAbs y.natAbs=Int.gcd x y from rfl]at hC;obtain⟨G,hG⟩:∃G,Int.gcd x y=G:=⟨_,rfl⟩
 have bC:nd G<=k+l:=by
  rw[<-hG,<-I,<-J];by_cases hx0:x.natAbs=0
  ·have e:Int.gcd x y=y.natAbs:=by show Nat.gcd x.natAbs y.natAbs=_;rw[hx0,Nat.gcd_zero_left]
   rw[e];omega
  ·have e:=Bq (Nat.gcd_le_left y.natAbs (show 0<x.natAbs by omega))
   exact nM e (by omega)
 rw[hG]at hC ⊢;obtain⟨g,hg⟩:∃g,nd G=g:=⟨_,rfl⟩
 rw[hg]at bC;have HG:=Kh hg;have HC:=Kh hC;have HV:=Kh (show sg false G=(G:Nat)from rfl);clear hC I J h h' hG hg;go_enter func135,ntmps135
 go_upto_region 1 with(fail)
 obtain⟨w0,Z,X0,X1,O,U⟩:=T9 w #[.bool s,.slice p n c] 84 #[.bool t,.slice q m d] 84 #[.bool false,.slice none 0 0] 84;rw[Z];have cD:w.heap.size<=w0.heap.size:=U.size;clear Z;have M1:True:=trivial;have T2:=Sts.of O (by intro v hv;simp at hv;rcases hv with rfl|rfl <;> first|exact NotInt.bool _|exact NotInt.slice _ _ _);have cA:=Dq (Below.refl _ w0).drew ⟨X0.c0,X0.c1,X1.c0,X1.c1,O.so 0,O.free_ 0,T2,O.so 1,O.free_ 1,T2,U,cD⟩;clear X0 X1 O
 go_region_held3 (λE=>E.cell? ⟨w.heap.size,0,none⟩=some (.bool s)/\E.cell? ⟨w.heap.size,1,none⟩=some (.slice p n c)/\E.cell? ⟨w.heap.size+1,0,none⟩=some (.bool t)/\E.cell? ⟨w.heap.size+1,1,none⟩=some (.slice q m d)/\E.cell? ⟨w.heap.size+1+1,0,none⟩=some (cellOf E ⟨w.heap.size+1+1,0,none⟩)/\E.frozen? ⟨w.heap.size+1+1,0,none⟩=false/\Sts E (w.heap.size+1+1)/\E.cell? ⟨w.heap.size+1+1,1,none⟩=some (cellOf E ⟨w.heap.size+1+1,1,none⟩)/\E.frozen? ⟨w.heap.size+1+1,1,none⟩=false/\Sts E (w.heap.size+1+1)/\Below w.heap.size w E/\w.heap.size<=E.heap.size)
  (first|with_reducible exact cA |(refine Dq (by with_reducible assumption) ?_;assumption) |(refine Jp ?_ ?_ ?_ ?_ ?_ ?_ ?_ ?_ ?_ ?_ ?_ ?_ ?_ <;> first|assumption|exact NotInt.bool _|exact NotInt.slice _ _ _ |(dsimp only;omega) |(simp;done)))
  (first
   |(go_at_call 129;clear M1;refine(HL.1.2.2 _ (Bh (by with_reducible assumption))).mono ?_;rintro e w' ⟨rfl,rfl⟩)
   |(go_at_call 129;refine(KL.1.2.2 _ (Bh (by with_reducible assumption))).mono ?_;rintro e w' ⟨rfl,rfl⟩)
   |(go_at_call 169;refine(HC.1 _ (Bh (by with_reducible assumption))).mono ?_;rintro e w2 ⟨⟨p1,c1,rfl,V⟩,cB⟩;rw[HG.1];have HS:=Em false p1 c1 g G w2 V HG.1 (by omega);replace HS:=Kh HS;clear V)
   |(go_at_call 131;refine HS.1.mono ?_;rintro e w3 ⟨⟨s2,p2,n2,c2,rfl,aD⟩,cC⟩;clear cB;obtain⟨⟨bE,hT⟩,⟨bY,_⟩⟩:=Jo cC (by with_reducible assumption);have M:=aD.put2 hT 0 1 (.bool s2) (.slice p2 n2 c2) (NotInt.bool _);replace M:=Kh M;clear aD hT))
 go_wp2;try simp only[Exit.inBlock,Exit.then]
 refine bodyPost_ret (by simp[results,results135,go_sem,bE,bY];try rfl) rfl ?_;exact⟨⟨s2,p2,n2,c2,rfl,HV.1▸M.1⟩,Bh (by assumption)⟩
theorem Ht (s:Bool) (p:Option Addr) (n c:Nat) (z:Int) (w:World) (h:Zr w s p n c z) (hn:n<=35184372088830):
  Calls prog 79 #[.agg #[.bool s,.slice p n c]] w λe w'=>e=.returned (.int .i64 (Int.sign z))/\Below w.heap.size w w':=by
 obtain⟨k,hk,I,U⟩:=h.letters hn;have hb:∀o,Below w.heap.size w (w.alloc o):=λo=>(Below.refl _ _).alloc (nL _) o
 have M:=Kh hb;have HZ:=Kh (show k=0↔z=0 by rw[<-I];have:=Bs (v:=z.natAbs);omega);have HV:=Kh U.1.1;clear I h hb;go_enter func79,ntmps79
 go_wp2_with fail
 refine(U.1.2.2 _ (M.1 _)).mono ?_;rintro e w1 ⟨rfl,rfl⟩;clear U;by_cases hk0:k=0
 ·have O:=HZ.1.1 hk0
  subst hk0 O;go_wp2;go_ret;exact⟨rfl,M.1 _⟩
 ·have O:z≠0:=λh=>hk0 (HZ.1.2 h)
  have bA:((k:Int)==0)=false:=beq_eq_false_iff_ne.2 (by omega);have E:=Kh O;clear O;cases s with
  | false=>
   have J:Int.sign z=1:=Int.sign_eq_one_of_pos (by have Z:=HV.1;have h2:=E.1;rw[Cy]at Z;omega);have V:=Kh J;clear J;go_wp2;go_ret;exact⟨A5 V.1.symm,M.1 _⟩
  | true=>
   have J:Int.sign z=-1:=Int.sign_eq_neg_one_of_neg (by have Z:=HV.1;have h2:=E.1;rw[show sg true z.natAbs=-(z.natAbs:Int)from rfl]at Z;omega);have V:=Kh J;clear J;go_wp2;go_ret;exact⟨A5 V.1.symm,M.1 _⟩
theorem Ge (n:Int) (w:World) (h1:-4611686018427387904<=n) (h2:n<=4611686018427387904):
  Calls prog 83 #[.int .i64 n] w λe w'=>K7 w' e n/\Below w.heap.size w w':=by
 obtain⟨v,hv⟩:∃v:Nat,n.natAbs=v:=⟨_,rfl⟩
 have cX:v<=4611686018427387904:=by omega
 have HW:=Kh (λw=>(Hx v w (by omega)).mono (λ_ _ h=>And.imp_left RetN.op h));have hb:Below w.heap.size w (w.alloc (.cells #[.bool false,.slice none 0 0] 84)):=(Below.refl _ _).alloc (nL _) _;have HB:=Kh hb;have gL:=Kh cX;have cS:=Bf (v:=v) (k:=2);have bA:nd v<=2:=cS.2 (by omega);have cI:=Kh bA;have X:=Blk.new w 84 #[.bool false,.slice none 0 0];have HT:=Kh (Sts.of X (by intro v hv;simp at hv;rcases hv with rfl|rfl <;> first|exact NotInt.bool _|exact NotInt.slice _ _ _));have X0:((w.alloc (.cells #[.bool false,.slice none 0 0] 84)).cell? ⟨w.heap.size,0,none⟩).isSome=true:=by rw[X.at_ 0 rfl];rfl
 have X1:((w.alloc (.cells #[.bool false,.slice none 0 0] 84)).cell? ⟨w.heap.size,1,none⟩).isSome=true:=by rw[X.at_ 1 rfl];rfl
 have bY:∀i,(w.alloc (.cells #[.bool false,.slice none 0 0] 84)).frozen? ⟨w.heap.size,i,none⟩=false:=λi=>X.free_ i
 obtain⟨w0,dC⟩:∃w0,w.alloc (.cells #[.bool false,.slice none 0 0] 84)=w0:=⟨_,rfl⟩
 rw[dC]at HB HT X0 X1;simp only[dC]at bY;have aK:=Kh X0;have aN:=Kh X1;have HF:=Kh bY;clear X X0 X1 bY hb cX cS bA;by_cases hneg:n<0
 ·have e1:IntKind.u64.wrap n=n+18446744073709551616:=by rw[IntKind.wrap_u64];omega
  have e2:IntKind.u64.wrap (-(n+18446744073709551616))=(v:Nat):=by rw[IntKind.wrap_u64];omega
  have e3:IntKind.u64.wrap (-n)=(v:Nat):=by rw[IntKind.wrap_u64];omega
  have hd:decide (n<0)=true:=decide_eq_true hneg;have HZ:=Kh (show sg true v=n by unfold sg;rw[if_pos rfl];omega);clear h1 h2 hneg hv;go_enter func83,ntmps83
  go_wp2_with fail
  refine(HW.1 _).mono ?_;rintro e w1 ⟨⟨p1,n1,c1,rfl,V,U⟩,J⟩;have HS:=Kh (Em true p1 c1 n1 v w1 U V (by have:=cI.1;omega));have I:=Kh J;clear V U J HW;go_wp2_with fail
  refine HS.1.mono ?_;rintro e w2 ⟨⟨s2,p2,n2,c2,rfl,Z⟩,M⟩;have E:Below w0.heap.size w0 w2:=I.1.trans (M.mono I.1.size)
  obtain⟨u0,cA⟩:∃u,w2.cell? ⟨w.heap.size,0,none⟩=some u:=by
   rw[E.cell (p:=⟨w.heap.size,0,none⟩) HT.1.1];exact nP aK.1
  obtain⟨u1,cB⟩:∃u,w2.cell? ⟨w.heap.size,1,none⟩=some u:=by
   rw[E.cell (p:=⟨w.heap.size,1,none⟩) HT.1.1];exact nP aN.1
  have f0:=Ab E aK.1 (HF.1 0);have f1:=Ab E aN.1 (HF.1 1);have aD:=Z.put2 (HT.1.next E) 0 1 (.bool s2) (.slice p2 n2 c2) (NotInt.bool _);have O:Below w.heap.size w ((w2.setCell ⟨w.heap.size,0,none⟩ (.bool s2)).setCell ⟨w.heap.size,1,none⟩ (.slice p2 n2 c2)):=((HB.1.trans (E.mono HB.1.size)).setCell (nL _) _).setCell (nL _) _;have bE:=Kh aD;have bB:=Kh O;clear Z M E aD O HS I;go_wp2;try simp only[Exit.inBlock,Exit.then]
  refine bodyPost_ret (by simp[results,results83,go_sem,cA,cB];try rfl) rfl ?_;exact⟨⟨s2,p2,n2,c2,rfl,HZ.1▸bE.1⟩,bB.1⟩
 ·have e1:IntKind.u64.wrap n=(v:Nat):=by rw[IntKind.wrap_u64];omega
  have hd:decide (n<0)=false:=decide_eq_false hneg;have HZ:=Kh (show sg false v=n by rw[Cy];omega);clear h1 h2 hneg hv;go_enter func83,ntmps83
  go_wp2_with fail
  refine(HW.1 _).mono ?_;rintro e w1 ⟨⟨p1,n1,c1,rfl,V,U⟩,J⟩;have HS:=Kh (Em false p1 c1 n1 v w1 U V (by have:=cI.1;omega));have I:=Kh J;clear V U J HW;go_wp2_with fail
  refine HS.1.mono ?_;rintro e w2 ⟨⟨s2,p2,n2,c2,rfl,Z⟩,M⟩;have E:Below w0.heap.size w0 w2:=I.1.trans (M.mono I.1.size)
  obtain⟨u0,cA⟩:∃u,w2.cell? ⟨w.heap.size,0,none⟩=some u:=by
   rw[E.cell (p:=⟨w.heap.size,0,none⟩) HT.1.1];exact nP aK.1
  obtain⟨u1,cB⟩:∃u,w2.cell? ⟨w.heap.size,1,none⟩=some u:=by
   rw[E.cell (p:=⟨w.heap.size,1,none⟩) HT.1.1];exact nP aN.1
  have f0:=Ab E aK.1 (HF.1 0);have f1:=Ab E aN.1 (HF.1 1);have aD:=Z.put2 (HT.1.next E) 0 1 (.bool s2) (.slice p2 n2 c2) (NotInt.bool _);have O:Below w.heap.size w ((w2.setCell ⟨w.heap.size,0,none⟩ (.bool s2)).setCell ⟨w.heap.size,1,none⟩ (.slice p2 n2 c2)):=((HB.1.trans (E.mono HB.1.size)).setCell (nL _) _).setCell (nL _) _;have bE:=Kh aD;have bB:=Kh O;clear Z M E aD O HS I;go_wp2;try simp only[Exit.inBlock,Exit.then]
  refine bodyPost_ret (by simp[results,results83,go_sem,cA,cB];try rfl) rfl ?_;exact⟨⟨s2,p2,n2,c2,rfl,HZ.1▸bE.1⟩,bB.1⟩
structure Var2 (w:World) (R:Nat):Prop where
 some0:(w.cell? ⟨R,0,none⟩).isSome=true
 some1:(w.cell? ⟨R,1,none⟩).isSome=true
 free:∀i,w.frozen? ⟨R,i,none⟩=false
 sts:Sts w R
theorem Var2.of {w:World} {R:Nat} {t:TypeId} {a b:Value} (h:Blk w R t #[a,b]) (I:NotInt a) (J:NotInt b):Var2 w R:=
 ⟨by rw[h.at_ 0 rfl];rfl,by rw[h.at_ 1 rfl];rfl,λi=>h.free_ i,Sts.of h (by intro v E;simp at E;rcases E with rfl|rfl;exact I;exact J)⟩
theorem Var2.next {w w':World} {R:Nat} (h:Var2 w R) (E:Below w.heap.size w w'):Var2 w' R:=by
 have I:=E.cell (p:=⟨R,0,none⟩) h.sts.1;have J:=E.cell (p:=⟨R,1,none⟩) h.sts.1;refine⟨by rw[I];exact h.some0,by rw[J];exact h.some1,λi=>?_,h.sts.next E⟩;have e:w'.heap[R]?=w.heap[R]?:=E.block R h.sts.1;have:=h.free i;unfold World.frozen? at this ⊢;rw[e];exact this
theorem Var2.cells {w:World} {R:Nat} (h:Var2 w R):(∃u,w.cell? ⟨R,0,none⟩=some u)/\∃u,w.cell? ⟨R,1,none⟩=some u:=⟨nP h.some0,nP h.some1⟩
theorem jT (s:Bool) (p:Option Addr) (n c:Nat) (x:Int) (t:Bool) (q:Option Addr) (m d v:Nat) (w:World) (h:Zr w s p n c x) (h':Nm w q d v) (eX:nd v=m) (hn:n<=17592186044400) (hm:m<=17592186044400):
  Calls prog 130 #[.agg #[.bool s,.slice p n c],.bool t,.slice q m d] w λe w'=>K7 w' e (x+sg t v)/\Below w.heap.size w w':=by
 obtain⟨k,hk,cX,HL⟩:=h.letters (by omega);obtain⟨u,hu⟩:∃u,x.natAbs=u:=⟨_,rfl⟩
 rw[hu]at HL cX;have hP:=λI (hb:Below w.heap.size w I)=>Wu p c (nd u) (dg u) q d (nd v) (dg v) I (HL.1.2.1.keep hb) (h'.keep hb) (by omega) (by omega)
 have hC:=λI (hb:Below w.heap.size w I)=>Ea p c u q d v I (HL.1.2.1.keep hb) (h'.keep hb) (by omega) (by omega)
 have eP:=λ(J:v<=u) I (hb:Below w.heap.size w I)=>Qw p c (nd u) (dg u) q d (nd v) (dg v) I (HL.1.2.1.keep hb) (h'.keep hb) (by omega) (Bq J) (by rw[Bt,Bt];exact J)
 have eT:=λ(J:u<=v) I (hb:Below w.heap.size w I)=>Qw q d (nd v) (dg v) p c (nd u) (dg u) I (h'.keep hb) (HL.1.2.1.keep hb) (by omega) (Bq J) (by rw[Bt,Bt];exact J)
 have gP:vf (dg u) k=u:=by rw[<-cX,Bt]
 have gS:vf (dg v) m=v:=by rw[<-eX,Bt]
 simp only[cX,eX,gP,gS]at hP hC eP eT;have HX:=Kh HL.1.1;have HT:=Kh HL.1.2.2;have HP:=Kh hP;have HC:=Kh hC;have bE:=Kh eP;have bB:=Kh eT;clear hP hC eP eT HL h h' cX eX hu gP gS;go_enter func130,ntmps130
 go_wp2_with fail
 obtain⟨w0,gU,X0,X1,aX⟩:=bx2 w #[.bool s,.slice p n c] 84 #[.bool false,.slice none 0 0] 84;rw[gU];have gN:w.heap.size<=w0.heap.size:=aX.size;clear gU;have E:=Kh (Var2.of X1 (NotInt.bool _) (NotInt.slice _ _ _));have A0:=X0.at_ 0 rfl;have A1:=X0.at_ 1 rfl;refine(HT.1 _ aX).mono ?_;rintro e I ⟨rfl,rfl⟩;have M:=Kh aX;have cM:=Kh X0;have cS:=Kh X1;clear X0 X1 HT aX;by_cases hst:s=t
 ·subst hst
  have HV:=Kh (show sg s (u+v)=x+sg s v by rw[<-HX.1,dQ]);clear HC bE bB;go_wp2_with fail
  refine(HP.1 _ M.1).mono ?_;rintro e I ⟨⟨p1,c1,r1,rfl,aD,hv1⟩,O⟩;have HS:=B5 s p1 c1 _ r1 I aD (by omega);rw[hv1]at HS;replace HS:=Kh HS;have bA:=bt M O;have bY:=Kh (E.1.next O);clear aD hv1 O HP M E A0 A1 cM cS;go_wp2_with fail
  refine HS.1.mono ?_;rintro e w2 ⟨⟨s2,p2,n2,c2,rfl,aK⟩,U⟩;have dY:=bt bA U;have E:=Kh (bY.1.next U);clear U HS bA bY;obtain⟨⟨u0,eY⟩,⟨u1,gA⟩⟩:=E.1.cells;have f0:=E.1.free 0;have f1:=E.1.free 1;have V:=aK.put2 E.1.sts 0 1 (.bool s2) (.slice p2 n2 c2) (NotInt.bool _);have cC:Below w.heap.size w ((w2.setCell ⟨w.heap.size+1,0,none⟩ (.bool s2)).setCell ⟨w.heap.size+1,1,none⟩ (.slice p2 n2 c2)):=(dY.1.setCell (by show w.heap.size<=w.heap.size+1;omega) _).setCell (by show w.heap.size<=w.heap.size+1;omega) _;have eG:=Kh V;have eF:=Kh cC;clear aK V cC;go_wp2;try simp only[Exit.inBlock,Exit.then]
  refine bodyPost_ret (by simp[results,results130,go_sem,eY,gA];try rfl) rfl ?_;exact⟨⟨s2,p2,n2,c2,rfl,HV.1▸eG.1⟩,eF.1⟩
 ·obtain rfl:t = !s:=by cases s <;> cases t <;> simp_all
  have iL:(s == !s)=false:=by cases s <;> rfl
  clear hst;by_cases J:v<=u
  ·obtain⟨g,hg⟩:=M3 J
   have HV:=Kh (show sg s (u - v)=x+sg (!s) v by rw[<-HX.1,dO _ _ _ J]);have hC:=HC.1;rw[hg]at hC;replace HC:=Kh hC;replace bE:=Kh (bE.1 J);have hZ:decide ((0:Int)<=(g:Int))=true:=decide_eq_true (by omega);clear hC hg J bB HP;go_wp2_with fail
   refine(HC.1 _ M.1).mono ?_;rintro e I ⟨rfl,hq⟩;have Z:=A4 hq;have X0:=bk cM Z;have X1:=bk cS Z;have aX:=M.1.trans (Z.mono M.1.size);replace gN:w.heap.size<=I.heap.size:=aX.size;clear hq Z cM cS M E A0 A1 HC;go_upto_region 5 with(fail)
   have T1:=Sts.of X1 (by intro v hv;simp at hv;rcases hv with rfl|rfl <;> first|exact NotInt.bool _|exact NotInt.slice _ _ _);have hO:=Dp (Below.refl _ I).drew ⟨X0.c0,X0.c1,X1.so 0,X1.free_ 0,T1,X1.so 1,X1.free_ 1,T1,aX,gN⟩;clear X0 X1
   go_region_held3 (λI=>I.cell? ⟨w.heap.size,0,none⟩=some (.bool s)/\I.cell? ⟨w.heap.size,1,none⟩=some (.slice p n c)/\I.cell? ⟨w.heap.size+1,0,none⟩=some (cellOf I ⟨w.heap.size+1,0,none⟩)/\I.frozen? ⟨w.heap.size+1,0,none⟩=false/\Sts I (w.heap.size+1)/\I.cell? ⟨w.heap.size+1,1,none⟩=some (cellOf I ⟨w.heap.size+1,1,none⟩)/\I.frozen? ⟨w.heap.size+1,1,none⟩=false/\Sts I (w.heap.size+1)/\Below w.heap.size w I/\w.heap.size<=I.heap.size)
    (first|with_reducible exact hO |(refine Dp (by with_reducible assumption) ?_;assumption) |(refine Jn ?_ ?_ ?_ ?_ ?_ ?_ ?_ ?_ ?_ <;> first|assumption|exact NotInt.bool _|exact NotInt.slice _ _ _ |(dsimp only;omega) |(simp;done)))
    (first
     |(go_at_call 168;refine(bE.1 _ (Bz (by with_reducible assumption))).mono ?_;rintro e w2 ⟨⟨p1,c1,r1,rfl,aD,hv1⟩,O⟩;have HS:=B5 s p1 c1 _ r1 w2 aD (by omega);rw[hv1]at HS;replace HS:=Kh HS;clear aD hv1)
     |(go_at_call 131;refine HS.1.mono ?_;rintro e w3 ⟨⟨s2,p2,n2,c2,rfl,aK⟩,U⟩;clear O;obtain⟨⟨hM,hT⟩,⟨hN,_⟩⟩:=Jm U (by with_reducible assumption);have V:=aK.put2 hT 0 1 (.bool s2) (.slice p2 n2 c2) (NotInt.bool _);replace V:=Kh V;clear aK hT))
   go_wp2;try simp only[Exit.inBlock,Exit.then]
   refine bodyPost_ret (by simp[results,results130,go_sem,hM,hN];try rfl) rfl ?_;exact⟨⟨s2,p2,n2,c2,rfl,HV.1▸V.1⟩,Bz (by assumption)⟩
  ·have hlt:u<v:=by omega
   have HV:=Kh (show sg (!s) (v - u)=x+sg (!s) v by rw[<-HX.1,dP _ _ _ (Nat.le_of_lt hlt)]);have hC:=HC.1;rw[J6 hlt]at hC;replace HC:=Kh hC;replace bB:=Kh (bB.1 (Nat.le_of_lt hlt));clear hC hlt J bE HP;go_wp2_with fail
   refine(HC.1 _ M.1).mono ?_;rintro e I ⟨rfl,hq⟩;have Z:=A4 hq;have bA:=bt M Z;have bY:=Kh (E.1.next Z);clear hq Z cM cS M E A0 A1 HC;go_wp2_with fail
   refine(bB.1 _ bA.1).mono ?_;rintro e w3 ⟨⟨p1,c1,r1,rfl,aD,hv1⟩,O⟩;have HS:=B5 (!s) p1 c1 _ r1 w3 aD (by omega);rw[hv1]at HS;replace HS:=Kh HS;have bC:=bt bA O;have gI:=Kh (bY.1.next O);clear aD hv1 O bA bY bB;go_wp2_with fail
   refine HS.1.mono ?_;rintro e w2 ⟨⟨s2,p2,n2,c2,rfl,aK⟩,U⟩;have dY:=Kh (bC.1.trans (U.mono bC.1.size));have E:=Kh (gI.1.next U);clear U HS bC gI;obtain⟨⟨u0,eY⟩,⟨u1,gA⟩⟩:=E.1.cells;have f0:=E.1.free 0;have f1:=E.1.free 1;have V:=aK.put2 E.1.sts 0 1 (.bool s2) (.slice p2 n2 c2) (NotInt.bool _);have cC:Below w.heap.size w ((w2.setCell ⟨w.heap.size+1,0,none⟩ (.bool s2)).setCell ⟨w.heap.size+1,1,none⟩ (.slice p2 n2 c2)):=(dY.1.setCell (by show w.heap.size<=w.heap.size+1;omega) _).setCell (by show w.heap.size<=w.heap.size+1;omega) _;have eG:=Kh V;have eF:=Kh cC;clear aK V cC;go_wp2;try simp only[Exit.inBlock,Exit.then]
   refine bodyPost_ret (by simp[results,results130,go_sem,eY,gA];try rfl) rfl ?_;exact⟨⟨s2,p2,n2,c2,rfl,HV.1▸eG.1⟩,eF.1⟩
theorem R7 (s:Bool) (p:Option Addr) (n c:Nat) (x:Int) (t:Bool) (q:Option Addr) (m d:Nat) (y:Int) (w:World) (h:Zr w s p n c x) (h':Zr w t q m d y) (hn:n<=17592186044400) (hm:m<=17592186044400):
  Calls prog 82 #[.agg #[.bool s,.slice p n c],.agg #[.bool t,.slice q m d]] w λe w'=>K7 w' e (x+y)/\Below w.heap.size w w':=by
 obtain⟨l,hl,O,Z⟩:=h'.letters (by omega);have hC:=λE (hb:Below w.heap.size w E)=>jT s p n c x t q l d y.natAbs E (h.keep hb) (Z.1.2.1.keep hb) O hn (by omega)
 rw[Z.1.1]at hC;have HC:=Kh hC;clear hC O h h';go_enter func82,ntmps82
 go_upto_region 1 with(fail)
 obtain⟨w0,U,X0,X1,J,M⟩:=T9 w #[.bool s,.slice p n c] 84 #[.bool t,.slice q m d] 84 #[.bool false,.slice none 0 0] 84;rw[U];have bE:w.heap.size<=w0.heap.size:=M.size;clear U;have T2:=Sts.of J (by intro v hv;simp at hv;rcases hv with rfl|rfl <;> first|exact NotInt.bool _|exact NotInt.slice _ _ _);have bB:=Dq (Below.refl _ w0).drew ⟨X0.c0,X0.c1,X1.c0,X1.c1,J.so 0,J.free_ 0,T2,J.so 1,J.free_ 1,T2,M,bE⟩;clear X0 X1 J
 go_region_held3 (λE=>E.cell? ⟨w.heap.size,0,none⟩=some (.bool s)/\E.cell? ⟨w.heap.size,1,none⟩=some (.slice p n c)/\E.cell? ⟨w.heap.size+1,0,none⟩=some (.bool t)/\E.cell? ⟨w.heap.size+1,1,none⟩=some (.slice q m d)/\E.cell? ⟨w.heap.size+1+1,0,none⟩=some (cellOf E ⟨w.heap.size+1+1,0,none⟩)/\E.frozen? ⟨w.heap.size+1+1,0,none⟩=false/\Sts E (w.heap.size+1+1)/\E.cell? ⟨w.heap.size+1+1,1,none⟩=some (cellOf E ⟨w.heap.size+1+1,1,none⟩)/\E.frozen? ⟨w.heap.size+1+1,1,none⟩=false/\Sts E (w.heap.size+1+1)/\Below w.heap.size w E/\w.heap.size<=E.heap.size)
  (first|with_reducible exact bB |(refine Dq (by with_reducible assumption) ?_;assumption) |(refine Jp ?_ ?_ ?_ ?_ ?_ ?_ ?_ ?_ ?_ ?_ ?_ ?_ ?_ <;> first|assumption|exact NotInt.bool _|exact NotInt.slice _ _ _ |(dsimp only;omega) |(simp;done)))
  (first
   |(go_at_call 129;refine(Z.1.2.2 _ (Bh (by with_reducible assumption))).mono ?_;rintro e w' ⟨rfl,rfl⟩)
   |(go_at_call 130;refine(HC.1 _ (Bh (by with_reducible assumption))).mono ?_;rintro e w3 ⟨⟨s2,p2,n2,c2,rfl,V⟩,bC⟩;obtain⟨⟨aX,hT⟩,⟨bA,_⟩⟩:=Jo bC (by with_reducible assumption);have I:=V.put2 hT 0 1 (.bool s2) (.slice p2 n2 c2) (NotInt.bool _);replace I:=Kh I;clear V hT))
 go_wp2;try simp only[Exit.inBlock,Exit.then]
 refine bodyPost_ret (by simp[results,results82,go_sem,aX,bA];try rfl) rfl ?_;exact⟨⟨s2,p2,n2,c2,rfl,I.1⟩,Bh (by assumption)⟩
theorem Kb {a b q r:Int} (J:0<b) (h:r+b*q=a) (E:0<=r) (I:r<b):a / b=q/\a % b=r:=(Int.ediv_emod_unique J).2 ⟨h,E,I⟩
theorem Rs {s:Bool} {u v:Nat} (I:0<v):(sg s u) / (v:Int)=(if s=true/\0<u % v then sg s (u / v+1)else sg s (u / v))/\(sg s u) % (v:Int)=(if s=true/\0<u % v then((v - u % v:Nat):Int)else((u % v:Nat):Int)):=by
 have E:=Nat.div_add_mod u v;have J:=Nat.mod_lt u I
 have M:((v:Int)*((u / v:Nat):Int))+((u % v:Nat):Int)=(u:Int):=by
  rw[<-Int.natCast_mul,<-Int.natCast_add,E]
 generalize u / v=Q at *;generalize u % v=R at *;cases s with
 | false=>
  rw[if_neg (by simp),if_neg (by simp)];exact Kb (by omega) (by rw[Cy,Cy];omega) (by omega) (by omega)
 | true=>
  by_cases hR:0<R
  ·rw[if_pos ⟨rfl,hR⟩,if_pos ⟨rfl,hR⟩]
   refine Kb (by omega) ?_ (by omega) (by omega);show((v - R:Nat):Int)+(v:Int)*(-((Q+1:Nat):Int))=-(u:Int);rw[Int.mul_neg,Int.natCast_add,Int.mul_add];omega
  ·rw[if_neg (by simp[hR]),if_neg (by simp[hR])]
   refine Kb (by omega) ?_ (by omega) (by omega);show(R:Int)+(v:Int)*(-(Q:Int))=-(u:Int);rw[Int.mul_neg];omega
theorem iO {s t:Bool} {u v:Nat} (J:0<v):(sg s u) / (sg t v)=(if s=true/\0<u % v then sg (s != t) (u / v+1)else sg (s != t) (u / v))/\(sg s u) % (sg t v)=(if s=true/\0<u % v then((v - u % v:Nat):Int)else((u % v:Nat):Int)):=by
 obtain⟨E,I⟩:=Rs (s:=s) (u:=u) J;cases t with
 | false=>
  rw[Cy,E,I];cases s <;> exact⟨rfl,rfl⟩
 | true=>
  rw[show sg true v=-(v:Int)from rfl,Int.ediv_neg,Int.emod_neg,E,I];refine⟨?_,rfl⟩;split <;> cases s <;> simp[sg]
def jG (w':World) (e:Ending) (q r:Int):Prop:=∃s p n c t p' m d,e=.returned (.tuple #[.agg #[.bool s,.slice p n c],.agg #[.bool t,.slice p' m d],.int .i64 0])/\Zs w' s p n c q/\Zs w' t p' m d r
theorem put4 {w:World} {R S:Nat} {s t:Bool} {p q:Option Addr} {n c m d:Nat} {x y:Int} (M:Var2 w R) (O:Var2 w S) (U:R≠S) (Z:Zs w s p n c x) (h2:Zs w t q m d y) {w':World}
  (hw:(((w.setCell ⟨R,0,none⟩ (.bool s)).setCell ⟨R,1,none⟩ (.slice p n c)).setCell ⟨S,0,none⟩ (.bool t)).setCell ⟨S,1,none⟩ (.slice q m d)=w'):
  w'.cell? ⟨R,0,none⟩=some (.bool s)/\w'.cell? ⟨R,1,none⟩=some (.slice p n c)/\w'.cell? ⟨S,0,none⟩=some (.bool t)/\w'.cell? ⟨S,1,none⟩=some (.slice q m d)/\Zs w' s p n c x/\Zs w' t q m d y:=by
 subst hw;have V:=O.sts.put ⟨R,0,none⟩ (.bool s) (NotInt.bool _);have J:=V.put ⟨R,1,none⟩ (.slice p n c) (NotInt.slice _ _ _);have E:∀(w:World) (i j:Nat) (v:Value),(w.setCell ⟨S,i,none⟩ v).cell? ⟨R,j,none⟩=w.cell? ⟨R,j,none⟩:=λw i j v=>World.cell?_setCell_far w ⟨S,i,none⟩ ⟨R,j,none⟩ v (Ne.symm U)
 have I:∀R:Nat,(⟨R,0,none⟩:Addr)≠⟨R,1,none⟩:=λR h=>by simp at h
 refine⟨?_,?_,?_,?_,?_,?_⟩
 ·rw[E,E,World.cell?_setCell_other _ _ _ _ (Ne.symm (I R)),World.cell?_setCell_same' _ _ _ M.some0]
 ·rw[E,E,World.cell?_setCell_same' _ _ _ (Bb M.some1)]
 ·rw[World.cell?_setCell_other _ _ _ _ (Ne.symm (I S)),World.cell?_setCell_same' _ _ _ (Bb (Bb O.some0))]
 ·rw[World.cell?_setCell_same' _ _ _ (Bb (Bb (Bb O.some1)))]
 ·exact(Z.put2 M.sts 0 1 _ _ (NotInt.bool _)).put2 J 0 1 _ _ (NotInt.bool _)
 ·exact(h2.put2 M.sts 0 1 _ _ (NotInt.bool _)).put2 J 0 1 _ _ (NotInt.bool _)
theorem We (s:Bool) (p:Option Addr) (n c:Nat) (x:Int) (t:Bool) (q:Option Addr) (m d:Nat) (y:Int) (w:World) (h:Zr w s p n c x) (h':Zr w t q m d y) (hn:n<=17592186044400) (hm:m<=17592186044400) (hy:y≠0):
  Calls prog 170 #[.agg #[.bool s,.slice p n c],.agg #[.bool t,.slice q m d]] w λe w'=>jG w' e (x / y) (x % y)/\Below w.heap.size w w':=by
 obtain⟨k,hk,bA,HL⟩:=h.letters (by omega);obtain⟨l,hl,gA,KL⟩:=h'.letters (by omega);obtain⟨u,hu⟩:∃u,x.natAbs=u:=⟨_,rfl⟩
 obtain⟨v,hv⟩:∃v,y.natAbs=v:=⟨_,rfl⟩
 rw[hu]at HL bA;rw[hv]at KL gA;have oL:0<v:=by omega
 obtain⟨hq,hr⟩:=iO (s:=s) (t:=t) (u:=u) oL;rw[HL.1.1,KL.1.1]at hq hr;have hD:=λw1 (hb:Below w.heap.size w w1)=>Om p c u q d v w1 (HL.1.2.1.keep hb) (KL.1.2.1.keep hb) (by omega) (by omega) (by omega)
 rw[bA,gA]at hD;have pQ:0<l:=by rw[<-gA];exact Bs.2 (by omega)
 have pR:((l:Int)==0)=false:=beq_eq_false_iff_ne.2 (by omega);obtain⟨Q,hQ⟩:∃Q,u / v=Q:=⟨_,rfl⟩
 obtain⟨R,hR⟩:∃R,u % v=R:=⟨_,rfl⟩
 have mC:R<v:=by rw[<-hR];exact Nat.mod_lt _ oL
 have nY:Q<=u:=by rw[<-hQ];exact Nat.div_le_self _ _
 have nX:nd Q<=k:=by rw[<-bA];exact Bq nY
 have nZ:nd R<=l:=by rw[<-gA];exact Bq (Nat.le_of_lt mC)
 rw[hQ,hR]at hD hq;rw[hR]at hr;have HD:=Kh hD;have nV:=Kh HL.1.2.2;have nW:=Kh KL.1.2.2;have gP:=Kh KL.1.2.1;have nQ:=Kh gA;have HQ:=Kh hq;have HR:=Kh hr;have nU:=Kh mC;have nT:=Kh nZ;have nS:=Kh nX;have mB:=Kh (Bs (v:=R));clear hD hq hr mC nZ nY hQ hR nX gA bA HL KL h h' hv hu hy;go_enter func170,ntmps170
 go_wp2_with fail
 obtain⟨w0,oO,X0,X1,X2,X3,oA⟩:=mZ w #[.bool s,.slice p n c] 84 #[.bool t,.slice q m d] 84 #[.bool false,.slice none 0 0] 84 #[.bool false,.slice none 0 0] 84;rw[oO];clear oO;have aD:=Kh (Var2.of X2 (NotInt.bool _) (NotInt.slice _ _ _));have aK:=Kh (Var2.of X3 (NotInt.bool _) (NotInt.slice _ _ _));have eG:=Kh X0;have eP:=Kh X1;have gI:=Kh oA;have A1:=X0.at_ 1 rfl;clear X0 X1 X2 X3 oA;refine(nW.1 _ gI.1).mono ?_;rintro e w1 ⟨rfl,rfl⟩;clear nW;go_wp2_with fail
 refine(nV.1 _ gI.1).mono ?_;rintro e w1 ⟨rfl,rfl⟩;clear nV;go_wp2_with fail
 refine(HD.1 _ gI.1).mono ?_;rintro e w1 ⟨⟨p1,c1,p2,c2,rfl,oF,oG⟩,eY⟩;obtain⟨k1,hL⟩:∃k1,nd Q=k1:=⟨_,rfl⟩
 obtain⟨k2,bA⟩:∃k2,nd R=k2:=⟨_,rfl⟩
 rw[hL,bA];rw[hL]at nS;rw[bA]at nT mB;have O:=bt gI eY;replace aD:=Kh (aD.1.next eY);replace aK:=Kh (aK.1.next eY);replace eG:=Kh (bk eG eY);replace eP:=Kh (bk eP eY);replace gP:=Kh (gP.1.keep O.1);have A0:=eG.1.at_ 0 rfl;have A2:=eP.1.at_ 0 rfl;have hI:=Kh oF;have hJ:=Kh oG;have gN:=Kh hL;have eT:=Kh bA;have pS:k1<=k:=nS.1;have pT:k2<=l:=nT.1;clear HD gI A1 oF oG eY hL bA;by_cases hcase:s=true/\0<k2
 ·obtain⟨rfl,oE⟩:=hcase
  have cF:=Kh (show x / y=sg (!t) (Q+1)by have h1:=HQ.1;rw[if_pos ⟨rfl,Bs.2 (by have:=mB.1;omega) |> Bs.1 |> Nat.pos_of_ne_zero⟩]at h1;cases t <;> exact h1);have cS:=Kh (show x % y=((v - R:Nat):Int)by have h1:=HR.1;rw[if_pos ⟨rfl,Nat.pos_of_ne_zero (mB.1.1 oE)⟩]at h1;exact h1)
  have hP:=(Row.alloc w1 #[.int .u32 1] 1 (λ_=>1) rfl (λi hi=>by obtain rfl:i=0:=by omega
                                                                 rfl) (λ_ _=>(by decide:(1:Nat)<4294967296))).dg 1 (nL _)
  have mE:Below w1.heap.size w1 (w1.alloc (.cells #[.int .u32 1] 200)):=(Below.refl _ _).alloc (nL _) _;have HP:=Wu p1 c1 (nd Q) (dg Q) (some ⟨w1.heap.size,0,none⟩) 1 1 (λ_=>1) _ (hI.1.keep mE) hP (by have:=gN.1;omega) (by omega);rw[Bt,show vf (λ_=>1) 1=1 from rfl,gN.1]at HP;have eX:=λw5 (hb:Below w1.heap.size w1 w5)=>Qw q d (nd v) (dg v) p2 c2 (nd R) (dg R) w5 (gP.1.keep hb) (hJ.1.keep hb) (by have:=nQ.1;omega) (Bq (Nat.le_of_lt nU.1)) (by rw[Bt,Bt];exact Nat.le_of_lt nU.1)
  simp only[Bt]at eX;rw[nQ.1,eT.1]at eX;replace HP:=Kh HP;replace eX:=Kh eX;have nB:=Kh mE;clear hP mE HQ HR;go_wp2_with fail
  refine HP.1.mono ?_;rintro e w3 ⟨⟨p3,c3,r3,rfl,oC,oM⟩,oB⟩;have hH:=bt nB oB;have mA:=Kh (And.intro oC oM);clear oC oM oB HP nB;go_wp2_with fail
  refine(eX.1 _ hH.1).mono ?_;rintro e w4 ⟨⟨p4,c4,rr,rfl,oD,oN⟩,mD⟩;obtain⟨rq,hB⟩:∃rq,r3=rq:=⟨_,rfl⟩
  have V:=Kh (show Dg w4 p3 c3 (max k1 1+1) rq/\vf rq (max k1 1+1)=Q+1 by rw[<-hB];exact⟨mA.1.1.keep mD,mA.1.2⟩);have Z:=Kh (And.intro oD oN);have aN:=hH.1.trans (mD.mono hH.1.size);replace aD:=Kh (aD.1.next aN);replace aK:=Kh (aK.1.next aN);have pN:=(aN.cell (p:=⟨w.heap.size,0,none⟩) eG.1.lt).trans A0;have pP:=(aN.cell (p:=⟨w.heap.size+1,0,none⟩) eP.1.lt).trans A2;replace O:=bt O aN;clear A0 A2 aN mD oD oN hB mA hH eX hI hJ gP gN eT eG eP;have I:=B5 (!t) p3 c3 (max k1 1+1) rq w4 V.1.1 (by omega);rw[V.1.2,<-cF.1]at I;replace I:=Kh I;have J:=λw5 (hb:Below w4.heap.size w4 w5)=>B5 false p4 c4 l rr w5 (Z.1.1.keep hb) (by omega)
  simp only[Z.1.2,Cy,<-cS.1]at J;replace J:=Kh J;clear V Z cF cS;go_wp2_with fail
  refine I.1.mono ?_;rintro e w5 ⟨⟨s5,p5,n5,c5,rfl,cG⟩,cC⟩;have E:=Kh cC;have bC:=Kh cG;clear cG cC I;go_wp2_with fail
  refine(J.1 _ E.1).mono ?_;rintro e w6 ⟨⟨s6,p6,n6,c6,rfl,cI⟩,M⟩;have bE:=Kh (bC.1.keep M);have V2:=(aD.1.next E.1).next M
  have V3:=(aK.1.next E.1).next M
  have bB:=Kh ((O.1.trans (E.1.mono O.1.size)).trans (M.mono (nM O.1.size E.1.size)));obtain⟨⟨u0,oI⟩,⟨u1,oJ⟩⟩:=V2.cells;obtain⟨⟨u2,hu2⟩,⟨u3,oK⟩⟩:=V3.cells;have f0:=V2.free 0;have f1:=V2.free 1;have f2:=V3.free 0;have f3:=V3.free 1;obtain⟨w7,U⟩:∃w7,(((w6.setCell ⟨w.heap.size+1+1,0,none⟩ (.bool s5)).setCell ⟨w.heap.size+1+1,1,none⟩ (.slice p5 n5 c5)).setCell ⟨w.heap.size+1+1+1,0,none⟩ (.bool s6)).setCell ⟨w.heap.size+1+1+1,1,none⟩ (.slice p6 n6 c6)=w7:=⟨_,rfl⟩
  obtain⟨E0,E1,E2,E3,z5,z6⟩:=put4 V2 V3 (by omega) bE.1 cI U
  have cD:Below w.heap.size w w7:=by
   rw[<-U];exact(((bB.1.setCell (by show w.heap.size<=w.heap.size+1+1;omega) _).setCell (by show w.heap.size<=w.heap.size+1+1;omega) _).setCell (by show w.heap.size<=w.heap.size+1+1+1;omega) _).setCell (by show w.heap.size<=w.heap.size+1+1+1;omega) _
  have bY:=Kh (And.intro z5 z6);have gL:=Kh cD;have gS:=Kh U;have HE:=Kh (And.intro E0 (And.intro E1 (And.intro E2 E3)));clear z5 z6 cD U E0 E1 E2 E3 V2 V3 cI M bC bE E bB J O aD aK;go_wp2;rw[gS.1];obtain⟨E0,E1,E2,E3⟩:=HE.1;try simp only[Exit.inBlock,Exit.then]
  refine bodyPost_ret (by simp[results,results170,go_sem,E0,E1,E2,E3];try rfl) rfl ?_;exact⟨⟨s5,p5,n5,c5,s6,p6,n6,c6,rfl,bY.1.1,bY.1.2⟩,gL.1⟩
 ·have dY:x / y=sg (s != t) Q:=by have h1:=HQ.1;rw[if_neg (λh=>hcase ⟨h.1,by rw[<-eT.1];exact Bs.2 (by omega)⟩)]at h1;exact h1
  have cS:=Kh (show x % y=((R:Nat):Int)by have h1:=HR.1;rw[if_neg (λh=>hcase ⟨h.1,by rw[<-eT.1];exact Bs.2 (by omega)⟩)]at h1;exact h1);obtain⟨rq,hB⟩:∃rq,dg Q=rq:=⟨_,rfl⟩
  obtain⟨rr,oH⟩:∃rr,dg R=rr:=⟨_,rfl⟩
  have V:=Kh (show Dg w1 p1 c1 k1 rq/\vf rq k1=Q by rw[<-hB,<-gN.1];exact⟨hI.1,Bt Q⟩);have Z:=Kh (show Dg w1 p2 c2 k2 rr/\vf rr k2=R by rw[<-oH,<-eT.1];exact⟨hJ.1,Bt R⟩);clear hB oH HQ HR hI hJ gP gN eT eG eP;cases s with
  | false=>
   have cF:=Kh (show x / y=sg t Q by rw[dY];cases t <;> rfl);clear dY hcase;have I:=B5 (t) p1 c1 k1 rq w1 V.1.1 (by omega);rw[V.1.2,<-cF.1]at I;replace I:=Kh I;have J:=λw5 (hb:Below w1.heap.size w1 w5)=>B5 false p2 c2 k2 rr w5 (Z.1.1.keep hb) (by omega)
   simp only[Z.1.2,Cy,<-cS.1]at J;replace J:=Kh J;clear V Z cF cS;go_wp2_with fail
   refine I.1.mono ?_;rintro e w5 ⟨⟨s5,p5,n5,c5,rfl,cG⟩,cC⟩;have E:=Kh cC;have bC:=Kh cG;clear cG cC I;go_wp2_with fail
   refine(J.1 _ E.1).mono ?_;rintro e w6 ⟨⟨s6,p6,n6,c6,rfl,cI⟩,M⟩;have bE:=Kh (bC.1.keep M);have V2:=(aD.1.next E.1).next M
   have V3:=(aK.1.next E.1).next M
   have bB:=Kh ((O.1.trans (E.1.mono O.1.size)).trans (M.mono (nM O.1.size E.1.size)));obtain⟨⟨u0,oI⟩,⟨u1,oJ⟩⟩:=V2.cells;obtain⟨⟨u2,hu2⟩,⟨u3,oK⟩⟩:=V3.cells;have f0:=V2.free 0;have f1:=V2.free 1;have f2:=V3.free 0;have f3:=V3.free 1;obtain⟨w7,U⟩:∃w7,(((w6.setCell ⟨w.heap.size+1+1,0,none⟩ (.bool s5)).setCell ⟨w.heap.size+1+1,1,none⟩ (.slice p5 n5 c5)).setCell ⟨w.heap.size+1+1+1,0,none⟩ (.bool s6)).setCell ⟨w.heap.size+1+1+1,1,none⟩ (.slice p6 n6 c6)=w7:=⟨_,rfl⟩
   obtain⟨E0,E1,E2,E3,z5,z6⟩:=put4 V2 V3 (by omega) bE.1 cI U
   have cD:Below w.heap.size w w7:=by
    rw[<-U];exact(((bB.1.setCell (by show w.heap.size<=w.heap.size+1+1;omega) _).setCell (by show w.heap.size<=w.heap.size+1+1;omega) _).setCell (by show w.heap.size<=w.heap.size+1+1+1;omega) _).setCell (by show w.heap.size<=w.heap.size+1+1+1;omega) _
   have bY:=Kh (And.intro z5 z6);have gL:=Kh cD;have gS:=Kh U;have HE:=Kh (And.intro E0 (And.intro E1 (And.intro E2 E3)));clear z5 z6 cD U E0 E1 E2 E3 V2 V3 cI M bC bE E bB J O aD aK;go_wp2;rw[gS.1];obtain⟨E0,E1,E2,E3⟩:=HE.1;try simp only[Exit.inBlock,Exit.then]
   refine bodyPost_ret (by simp[results,results170,go_sem,E0,E1,E2,E3];try rfl) rfl ?_;exact⟨⟨s5,p5,n5,c5,s6,p6,n6,c6,rfl,bY.1.1,bY.1.2⟩,gL.1⟩
  | true=>
   have cF:=Kh (show x / y=sg (!t) Q by rw[dY];cases t <;> rfl)
   obtain rfl:k2=0:=by
    rcases Nat.eq_zero_or_pos k2 with h1|h1
    ·exact h1
    ·exact absurd ⟨rfl,h1⟩ hcase
   clear dY hcase;have I:=B5 (!t) p1 c1 k1 rq w1 V.1.1 (by omega);rw[V.1.2,<-cF.1]at I;replace I:=Kh I;have J:=λw5 (hb:Below w1.heap.size w1 w5)=>B5 false p2 c2 0 rr w5 (Z.1.1.keep hb) (by omega)
   simp only[Z.1.2,Cy,<-cS.1]at J;replace J:=Kh J;clear V Z cF cS;go_wp2_with fail
   refine I.1.mono ?_;rintro e w5 ⟨⟨s5,p5,n5,c5,rfl,cG⟩,cC⟩;have E:=Kh cC;have bC:=Kh cG;clear cG cC I;go_wp2_with fail
   refine(J.1 _ E.1).mono ?_;rintro e w6 ⟨⟨s6,p6,n6,c6,rfl,cI⟩,M⟩;have bE:=Kh (bC.1.keep M);have V2:=(aD.1.next E.1).next M
   have V3:=(aK.1.next E.1).next M
   have bB:=Kh ((O.1.trans (E.1.mono O.1.size)).trans (M.mono (nM O.1.size E.1.size)));obtain⟨⟨u0,oI⟩,⟨u1,oJ⟩⟩:=V2.cells;obtain⟨⟨u2,hu2⟩,⟨u3,oK⟩⟩:=V3.cells;have f0:=V2.free 0;have f1:=V2.free 1;have f2:=V3.free 0;have f3:=V3.free 1;obtain⟨w7,U⟩:∃w7,(((w6.setCell ⟨w.heap.size+1+1,0,none⟩ (.bool s5)).setCell ⟨w.heap.size+1+1,1,none⟩ (.slice p5 n5 c5)).setCell ⟨w.heap.size+1+1+1,0,none⟩ (.bool s6)).setCell ⟨w.heap.size+1+1+1,1,none⟩ (.slice p6 n6 c6)=w7:=⟨_,rfl⟩
   obtain⟨E0,E1,E2,E3,z5,z6⟩:=put4 V2 V3 (by omega) bE.1 cI U
   have cD:Below w.heap.size w w7:=by
    rw[<-U];exact(((bB.1.setCell (by show w.heap.size<=w.heap.size+1+1;omega) _).setCell (by show w.heap.size<=w.heap.size+1+1;omega) _).setCell (by show w.heap.size<=w.heap.size+1+1+1;omega) _).setCell (by show w.heap.size<=w.heap.size+1+1+1;omega) _
   have bY:=Kh (And.intro z5 z6);have gL:=Kh cD;have gS:=Kh U;have HE:=Kh (And.intro E0 (And.intro E1 (And.intro E2 E3)));clear z5 z6 cD U E0 E1 E2 E3 V2 V3 cI M bC bE E bB J O aD aK;go_wp2;rw[gS.1];obtain⟨E0,E1,E2,E3⟩:=HE.1;try simp only[Exit.inBlock,Exit.then]
   refine bodyPost_ret (by simp[results,results170,go_sem,E0,E1,E2,E3];try rfl) rfl ?_;exact⟨⟨s5,p5,n5,c5,s6,p6,n6,c6,rfl,bY.1.1,bY.1.2⟩,gL.1⟩
def jF (w':World) (e:Ending) (q:Int):Prop:=∃s p n c,e=.returned (.tuple #[.agg #[.bool s,.slice p n c],.int .i64 0])/\Zs w' s p n c q
theorem Sa (s:Bool) (p:Option Addr) (n c:Nat) (x:Int) (t:Bool) (q:Option Addr) (m d:Nat) (y:Int) (w:World) (h:Zr w s p n c x) (h':Zr w t q m d y) (hn:n<=17592186044400) (hm:m<=17592186044400) (hy:y≠0) (hd:x % y=0):
  Calls prog 136 #[.agg #[.bool s,.slice p n c],.agg #[.bool t,.slice q m d]] w λe w'=>jF w' e (x / y)/\Below w.heap.size w w':=by
 have hC:=λw1 (hb:Below w.heap.size w w1)=>We s p n c x t q m d y w1 (h.keep hb) (h'.keep hb) hn hm hy
 rw[hd]at hC;have HC:=Kh hC;clear hC h h' hd hy;go_enter func136,ntmps136
 go_wp2_with fail
 obtain⟨w0,aK,X0,X1,X2,aD⟩:=T9 w #[.bool s,.slice p n c] 84 #[.bool t,.slice q m d] 84 #[.bool false,.slice none 0 0] 84;rw[aK];have I:=Kh (Var2.of X2 (NotInt.bool _) (NotInt.slice _ _ _));have J:=Kh aD;clear aK X0 X1 X2 aD;refine(HC.1 _ J.1).mono ?_;rintro e w1 ⟨⟨s5,p5,n5,Z,s6,p6,n6,c6,rfl,U,aN⟩,O⟩;obtain rfl:n6=0:=aN.2.1.symm;have cA:=Kh U;replace I:=Kh (I.1.next O);have M:=bt J O;obtain⟨wa,cF⟩:∃wa,(w1.alloc (.cells #[.bool s5,.slice p5 n5 Z] 84)).alloc (.cells #[.bool s6,.slice p6 0 c6] 84)=wa:=⟨_,rfl⟩
 obtain⟨Y0,Y1,E⟩:=T8 w1 #[.bool s5,.slice p5 n5 Z] 84 #[.bool s6,.slice p6 0 c6] 84;rw[cF]at Y0 Y1 E;have a0:=Y0.at_ 0 rfl;have a1:=Y0.at_ 1 rfl;have a2:=Y1.at_ 0 rfl;have a3:=Y1.at_ 1 rfl;have V:=I.1.next E
 obtain⟨⟨u0,cC⟩,⟨u1,cD⟩⟩:=V.cells;have f0:=V.free 0;have f1:=V.free 1;have HZ:=Kh ((U.keep E).put2 V.sts 0 1 (.bool s5) (.slice p5 n5 Z) (NotInt.bool _));have HB:=Kh (((M.1.trans (E.mono M.1.size)).setCell (show w.heap.size<=(⟨w.heap.size+1+1,0,none⟩:Addr).block by show w.heap.size<=w.heap.size+1+1;omega) (.bool s5)).setCell (show w.heap.size<=(⟨w.heap.size+1+1,1,none⟩:Addr).block by show w.heap.size<=w.heap.size+1+1;omega) (.slice p5 n5 Z));clear U aN O HC J I cA M Y0 Y1 E V;go_wp2;refine bodyPost_ret (by simp[results,results136,go_sem,cC,cD];try rfl) rfl ?_;exact⟨⟨s5,p5,n5,Z,rfl,HZ.1⟩,HB.1⟩
end
theorem G9 {n d:Int} (E:0<d):(Rat.divInt n d).num=n / (Int.gcd n d:Nat):=by
 rw[Rat.num_divInt,Int.sign_eq_one_of_pos E,Int.one_mul,Int.gcd_comm]
theorem G8 {n d:Int} (E:0<d):((Rat.divInt n d).den:Int)=d / (Int.gcd n d:Nat):=by
 rw[Rat.den_divInt,if_neg (by omega),Int.gcd_comm,Int.natCast_ediv,Int.natAbs_of_nonneg (by omega)]
theorem Yv (n d:Int):Rat.divInt (-n) (-d)=Rat.divInt n d:=Rat.neg_divInt_neg n d
theorem Ha (n:Int):(Rat.divInt n 1).num=n/\(Rat.divInt n 1).den=1:=by
 constructor
 ·rw[G9 (by decide)];simp
 ·have:=G8 (n:=n) (d:=1) (by decide)
  simp at this;omega
theorem Ma (d:Int):Rat.divInt 0 d=0:=Rat.zero_divInt d
theorem Bj (q:Rat):Rat.divInt q.num q.den=q:=Rat.num_divInt_den q
theorem dL (a b:Rat):a+b=Rat.divInt (a.num*b.den+b.num*a.den) (a.den*b.den):=by
 rw[Rat.add_def',<-Rat.divInt_ofNat,Int.natCast_mul]
theorem dM (a b:Rat):a*b=Rat.divInt (a.num*b.num) (a.den*b.den):=by
 rw[Rat.mul_def',<-Rat.divInt_ofNat,Int.natCast_mul]
theorem Ns (m n:Int):Rat.divInt m 1+Rat.divInt n 1=Rat.divInt (m+n) 1:=by
 rw[Rat.divInt_add_divInt m n (by decide) (by decide)];simp
theorem iH (n d:Int):(Rat.divInt n d).num.natAbs<=n.natAbs:=by
 rw[Rat.num_divInt];refine nM (Int.natAbs_ediv_le_natAbs _ _) ?_;rw[Int.natAbs_mul]
 have:d.sign.natAbs<=1:=by
  rcases Int.lt_trichotomy d 0 with h|h|h
  ·rw[Int.sign_eq_neg_one_of_neg h];decide
  ·rw[h];decide
  ·rw[Int.sign_eq_one_of_pos h];decide
 have:=Nat.mul_le_mul_right n.natAbs this;omega
theorem gO {n d:Int} (h:d≠0):(Rat.divInt n d).den<=d.natAbs:=by
 rw[Rat.den_divInt,if_neg h];exact Nat.div_le_self _ _
def hq (q:Rat):Nat:=max (nd q.num.natAbs) (nd q.den)
theorem Er (q:Rat):nd q.num.natAbs<=hq q:=Nat.le_max_left _ _
theorem Ff (q:Rat):nd q.den<=hq q:=Nat.le_max_right _ _
theorem C9 {n d:Int} {K:Nat} (h:d≠0) (hn:nd n.natAbs<=K) (E:nd d.natAbs<=K):hq (Rat.divInt n d)<=K:=
 Nat.max_le.2 ⟨nM (Bq (iH n d)) hn,nM (Bq (gO h)) E⟩
theorem Fc (q:Rat):(q.den:Int)≠0:=by have:=q.den_nz;omega
theorem Ce (a b:Rat):hq (a*b)<=hq a+hq b:=by
 rw[dM];refine C9 (Int.mul_ne_zero (Fc a) (Fc b)) ?_ ?_
 ·rw[Int.natAbs_mul]
  have:=Cf a.num.natAbs b.num.natAbs;have:=Er a;have:=Er b;omega
 ·rw[Int.natAbs_mul,Int.natAbs_natCast,Int.natAbs_natCast]
  have:=Cf a.den b.den;have:=Ff a;have:=Ff b;omega
theorem Gk (a b:Int) {K:Nat} (J:nd a.natAbs<=K) (M:nd b.natAbs<=K):nd (a+b).natAbs<=K+1:=by
 have E:=Bq (Int.natAbs_add_le a b);have I:=iD a.natAbs b.natAbs;omega
theorem H8 (a b:Rat):hq (a+b)<=hq a+hq b+1:=by
 rw[dL];have E:=Er a;have J:=Er b;have I:=Ff a;have M:=Ff b;refine C9 (Int.mul_ne_zero (Fc a) (Fc b)) ?_ ?_
 ·refine Gk _ _ ?_ ?_
  ·rw[Int.natAbs_mul,Int.natAbs_natCast];have:=Cf a.num.natAbs b.den;omega
  ·rw[Int.natAbs_mul,Int.natAbs_natCast];have:=Cf b.num.natAbs a.den;omega
 ·rw[Int.natAbs_mul,Int.natAbs_natCast,Int.natAbs_natCast]
  have:=Cf a.den b.den;omega
section
open Go.RowKit Tryz
def Qr (w:World) (s:Bool) (p:Option Addr) (n c:Nat) (t:Bool) (q:Option Addr) (m d:Nat) (r:Rat):Prop:=∃x y,Zr w s p n c x/\Zr w t q m d y/\Rat.divInt x y=r
def Qs (w:World) (s:Bool) (p:Option Addr) (n c:Nat) (t:Bool) (q:Option Addr) (m d:Nat) (r:Rat):Prop:=Zs w s p n c r.num/\Zs w t q m d r.den
theorem Qr.keep {w w':World} {s:Bool} {p:Option Addr} {n c:Nat} {t:Bool} {q:Option Addr} {m d:Nat} {r:Rat} (h:Qr w s p n c t q m d r) (E:Below w.heap.size w w'):Qr w' s p n c t q m d r:=by
 obtain⟨x,y,I,J,M⟩:=h;exact⟨x,y,I.keep E,J.keep E,M⟩
theorem Qs.keep {w w':World} {s:Bool} {p:Option Addr} {n c:Nat} {t:Bool} {q:Option Addr} {m d:Nat} {r:Rat} (h:Qs w s p n c t q m d r) (E:Below w.heap.size w w'):Qs w' s p n c t q m d r:=⟨h.1.keep E,h.2.keep E⟩
theorem Qs.raw {w:World} {s:Bool} {p:Option Addr} {n c:Nat} {t:Bool} {q:Option Addr} {m d:Nat} {r:Rat} (h:Qs w s p n c t q m d r):Qr w s p n c t q m d r:=
 ⟨_,_,h.1.raw,h.2.raw,Bj r⟩
theorem Qs.sizes {w:World} {s:Bool} {p:Option Addr} {n c:Nat} {t:Bool} {q:Option Addr} {m d:Nat} {r:Rat} (h:Qs w s p n c t q m d r):n<=hq r/\m<=hq r:=by
 have I:=h.1.2.1;have E:=h.2.2.1;rw[Int.natAbs_natCast]at E;rw[<-I,<-E];exact⟨Er r,Ff r⟩
def F6 (w':World) (e:Ending) (r:Rat):Prop:=∃s p n c t q m d,e=.returned (.agg #[.bool s,.slice p n c,.bool t,.slice q m d])/\Qs w' s p n c t q m d r
def fD (e:Ending) (z:Int):Prop:=∃b:Bool,e=.returned (.bool b)/\(b=true->z=1)
theorem Sd (s:Bool) (p:Option Addr) (n c:Nat) (z:Int) (w:World) (h:Zr w s p n c z) (hn:n<=35184372088830):
  Calls prog 81 #[.agg #[.bool s,.slice p n c]] w λe w'=>fD e z/\Below w.heap.size w w':=by
 obtain⟨a,I,M⟩:=h;have HZ:=Kh M;have O:=Kh (λo=>(Below.refl w.heap.size w).alloc (nL _) o);by_cases h1:n=1
 ·subst h1
  obtain⟨g,o,rfl,hg,U⟩:=I.head (by omega)
  have E:∀V,(w.alloc V).cell? ⟨g,o,none⟩=some (.int .u32 (a 0:Nat)):=λV=>by
   exact Lib.cell?_alloc_some V (U 0 (by omega))
  obtain⟨x,J⟩:∃x,a 0=x:=⟨_,rfl⟩
  rw[J]at E;have HX:=Kh J;by_cases hx1:x=1
  ·subst hx1
   cases s with
   | false=>
    have Z:=Kh (show z=1 by rw[<-HZ.1,Cy,vf,vf,HX.1];rfl);clear I M U J;go_enter func81,ntmps81
    go_wp2;go_ret;exact⟨⟨true,rfl,λ_=>Z.1⟩,O.1 _⟩
   | true=>
    clear I M U J;go_enter func81,ntmps81
    go_wp2;go_ret;exact⟨⟨false,rfl,λh=>by cases h⟩,O.1 _⟩
  ·have aX:((x:Int)==1)=false:=beq_eq_false_iff_ne.2 (by omega)
   clear I M U J;go_enter func81,ntmps81
   go_wp2;go_ret;exact⟨⟨false,rfl,λh=>by cases h⟩,O.1 _⟩
 ·have aN:((n:Int)==1)=false:=beq_eq_false_iff_ne.2 (by omega)
  clear I M;go_enter func81,ntmps81
  go_wp2;go_ret;exact⟨⟨false,rfl,λh=>by cases h⟩,O.1 _⟩
end
end Go.Proofs.YtenlbhlllgppmaaGreatDoor
