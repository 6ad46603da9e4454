/- Contracts of bigint on integers: Normal, Neg, Add, Mul, Gcd, Sign, Of. -/
import Derived.Test.YtenlbhlllgppmaaGreatDoorA11
set_option maxRecDepth 100000
set_option maxHeartbeats 8000000
namespace Go.Proofs.YtenlbhlllgppmaaGreatDoor
section
open Go.RowKit Tryz
theorem Jt (s:Bool) (p:Option Addr) (n c:Nat) (z:Int) (w:World) (h:Zr w s p n c z) (hn:n<=35184372088830):
  Calls prog 134 #[.agg #[.bool s,.slice p n c]] w λe w'=>K8 w' e (z)/\Below w.heap.size w w':=by
 obtain⟨k,hk,J,HL⟩:=h.letters hn;have hC:=λI (hb:Below w.heap.size w I)=>J4 p c z.natAbs I (HL.1.2.1.keep hb) (by omega)
 rw[J]at hC;have HC:=Kh hC;have HK:=Kh J;have HV:=Kh (show sg (s) z.natAbs=z by exact HL.1.1);clear hC J h;go_enter func134,ntmps134
 go_upto_region 1 with(fail)
 obtain⟨w0,Y,X0,O,U⟩:=bx2 w #[.bool s,.slice p n c] 84 #[.bool false,.slice none 0 0] 84;rw[Y];have bH:w.heap.size<=w0.heap.size:=U.size;clear Y;have T1:=Sts.of O (by intro v hv;simp at hv;rcases hv with rfl|rfl <;> first|exact NotInt.bool _|exact NotInt.slice _ _ _);have bC:=Dh (Below.refl _ w0).drew ⟨X0.c0,X0.c1,O.so 0,O.free_ 0,T1,O.so 1,O.free_ 1,T1,U,bH⟩;clear X0 O
 go_region_held3 (λI=>I.cell? ⟨w.heap.size,0,none⟩=some (.bool s)/\I.cell? ⟨w.heap.size,1,none⟩=some (.slice p n c)/\I.cell? ⟨w.heap.size+1,0,none⟩=some (cellOf I ⟨w.heap.size+1,0,none⟩)/\I.frozen? ⟨w.heap.size+1,0,none⟩=false/\Sts I (w.heap.size+1)/\I.cell? ⟨w.heap.size+1,1,none⟩=some (cellOf I ⟨w.heap.size+1,1,none⟩)/\I.frozen? ⟨w.heap.size+1,1,none⟩=false/\Sts I (w.heap.size+1)/\Below w.heap.size w I/\w.heap.size<=I.heap.size)
  (first|with_reducible exact bC |(refine Dh (by with_reducible assumption) ?_;assumption) |(refine Ji ?_ ?_ ?_ ?_ ?_ ?_ ?_ ?_ ?_ <;> first|assumption|exact NotInt.bool _|exact NotInt.slice _ _ _ |(dsimp only;omega) |(simp;done)))
  (first
   |(go_at_call 129;refine(HL.1.2.2 _ (Bw (by with_reducible assumption))).mono ?_;rintro e w' ⟨rfl,rfl⟩)
   |(go_at_call 147;refine(HC.1 _ (Bw (by with_reducible assumption))).mono ?_;rintro e w2 ⟨⟨p1,c1,rfl,V⟩,bE⟩;rw[HK.1];have HS:=Eh (s) p1 c1 k z.natAbs w2 V HK.1 (by omega);replace HS:=Kh HS;clear V)
   |(go_at_call 131;refine HS.1.mono ?_;rintro e w3 ⟨⟨s2,p2,n2,c2,rfl,Z⟩,bG⟩;clear bE;obtain⟨⟨bA,hT⟩,⟨bB,_⟩⟩:=Jh bG (by with_reducible assumption);have M:=Z.put2 hT 0 1 (.bool s2) (.slice p2 n2 c2) (NotInt.bool _);replace M:=Kh M;clear Z hT))
 go_wp2;try simp only[Exit.inBlock,Exit.then]
 refine bodyPost_ret (by simp[results,results134,go_sem,bA,bB];try rfl) rfl ?_;exact⟨⟨s2,p2,n2,c2,rfl,HV.1▸M.1⟩,Bw (by assumption)⟩
theorem Vo (s:Bool) (p:Option Addr) (n c:Nat) (z:Int) (w:World) (h:Zr w s p n c z) (hn:n<=35184372088830):
  Calls prog 98 #[.agg #[.bool s,.slice p n c]] w λe w'=>K8 w' e (-z)/\Below w.heap.size w w':=by
 obtain⟨k,hk,J,HL⟩:=h.letters hn;have hC:=λI (hb:Below w.heap.size w I)=>J4 p c z.natAbs I (HL.1.2.1.keep hb) (by omega)
 rw[J]at hC;have HC:=Kh hC;have HK:=Kh J;have HV:=Kh (show sg (!s) z.natAbs=-z by rw[fI,HL.1.1]);clear hC J h;go_enter func98,ntmps98
 go_upto_region 1 with(fail)
 obtain⟨w0,Y,X0,O,U⟩:=bx2 w #[.bool s,.slice p n c] 84 #[.bool false,.slice none 0 0] 84;rw[Y];have bH:w.heap.size<=w0.heap.size:=U.size;clear Y;have T1:=Sts.of O (by intro v hv;simp at hv;rcases hv with rfl|rfl <;> first|exact NotInt.bool _|exact NotInt.slice _ _ _);have bC:=Dh (Below.refl _ w0).drew ⟨X0.c0,X0.c1,O.so 0,O.free_ 0,T1,O.so 1,O.free_ 1,T1,U,bH⟩;clear X0 O
 go_region_held3 (λI=>I.cell? ⟨w.heap.size,0,none⟩=some (.bool s)/\I.cell? ⟨w.heap.size,1,none⟩=some (.slice p n c)/\I.cell? ⟨w.heap.size+1,0,none⟩=some (cellOf I ⟨w.heap.size+1,0,none⟩)/\I.frozen? ⟨w.heap.size+1,0,none⟩=false/\Sts I (w.heap.size+1)/\I.cell? ⟨w.heap.size+1,1,none⟩=some (cellOf I ⟨w.heap.size+1,1,none⟩)/\I.frozen? ⟨w.heap.size+1,1,none⟩=false/\Sts I (w.heap.size+1)/\Below w.heap.size w I/\w.heap.size<=I.heap.size)
  (first|with_reducible exact bC |(refine Dh (by with_reducible assumption) ?_;assumption) |(refine Ji ?_ ?_ ?_ ?_ ?_ ?_ ?_ ?_ ?_ <;> first|assumption|exact NotInt.bool _|exact NotInt.slice _ _ _ |(dsimp only;omega) |(simp;done)))
  (first
   |(go_at_call 129;refine(HL.1.2.2 _ (Bw (by with_reducible assumption))).mono ?_;rintro e w' ⟨rfl,rfl⟩)
   |(go_at_call 147;refine(HC.1 _ (Bw (by with_reducible assumption))).mono ?_;rintro e w2 ⟨⟨p1,c1,rfl,V⟩,bE⟩;rw[HK.1];have HS:=Eh (!s) p1 c1 k z.natAbs w2 V HK.1 (by omega);replace HS:=Kh HS;clear V)
   |(go_at_call 131;refine HS.1.mono ?_;rintro e w3 ⟨⟨s2,p2,n2,c2,rfl,Z⟩,bG⟩;clear bE;obtain⟨⟨bA,hT⟩,⟨bB,_⟩⟩:=Jh bG (by with_reducible assumption);have M:=Z.put2 hT 0 1 (.bool s2) (.slice p2 n2 c2) (NotInt.bool _);replace M:=Kh M;clear Z hT))
 go_wp2;try simp only[Exit.inBlock,Exit.then]
 refine bodyPost_ret (by simp[results,results98,go_sem,bA,bB];try rfl) rfl ?_;exact⟨⟨s2,p2,n2,c2,rfl,HV.1▸M.1⟩,Bw (by assumption)⟩
theorem Gw (s:Bool) (p:Option Addr) (n c:Nat) (x:Int) (t:Bool) (q:Option Addr) (m d:Nat) (y:Int) (w:World) (h:Zr w s p n c x) (h':Zr w t q m d y) (hn:n<=17592186044400) (hm:m<=17592186044400):
  Calls prog 84 #[.agg #[.bool s,.slice p n c],.agg #[.bool t,.slice q m d]] w λe w'=>K8 w' e (x*y)/\Below w.heap.size w w':=by
 obtain⟨k,hk,J,HL⟩:=h.letters (by omega);obtain⟨l,hl,M,KL⟩:=h'.letters (by omega);have hC:=λI (hb:Below w.heap.size w I)=>Z8 p c (nd x.natAbs) (dg x.natAbs) q d (nd y.natAbs) (dg y.natAbs) I (HL.1.2.1.keep hb) (KL.1.2.1.keep hb) (by omega) (by omega)
 rw[J,M]at hC;rw[show vf (dg x.natAbs) k=x.natAbs by rw[<-J,Bp],show vf (dg y.natAbs) l=y.natAbs by rw[<-M,Bp]]at hC;have HC:=Kh hC;have HV:=Kh (show sg (s != t) (x.natAbs*y.natAbs)=x*y by rw[<-fG,HL.1.1,KL.1.1]);clear hC J M h h';go_enter func84,ntmps84
 go_upto_region 1 with(fail)
 obtain⟨w0,Z,X0,X1,U,V⟩:=Rw w #[.bool s,.slice p n c] 84 #[.bool t,.slice q m d] 84 #[.bool false,.slice none 0 0] 84;rw[Z];have cC:w.heap.size<=w0.heap.size:=V.size;clear Z;have M1:True:=trivial;have T2:=Sts.of U (by intro v hv;simp at hv;rcases hv with rfl|rfl <;> first|exact NotInt.bool _|exact NotInt.slice _ _ _);have bH:=Di (Below.refl _ w0).drew ⟨X0.c0,X0.c1,X1.c0,X1.c1,U.so 0,U.free_ 0,T2,U.so 1,U.free_ 1,T2,V,cC⟩;clear X0 X1 U
 go_region_held3 (λI=>I.cell? ⟨w.heap.size,0,none⟩=some (.bool s)/\I.cell? ⟨w.heap.size,1,none⟩=some (.slice p n c)/\I.cell? ⟨w.heap.size+1,0,none⟩=some (.bool t)/\I.cell? ⟨w.heap.size+1,1,none⟩=some (.slice q m d)/\I.cell? ⟨w.heap.size+1+1,0,none⟩=some (cellOf I ⟨w.heap.size+1+1,0,none⟩)/\I.frozen? ⟨w.heap.size+1+1,0,none⟩=false/\Sts I (w.heap.size+1+1)/\I.cell? ⟨w.heap.size+1+1,1,none⟩=some (cellOf I ⟨w.heap.size+1+1,1,none⟩)/\I.frozen? ⟨w.heap.size+1+1,1,none⟩=false/\Sts I (w.heap.size+1+1)/\Below w.heap.size w I/\w.heap.size<=I.heap.size)
  (first|with_reducible exact bH |(refine Di (by with_reducible assumption) ?_;assumption) |(refine Jk ?_ ?_ ?_ ?_ ?_ ?_ ?_ ?_ ?_ ?_ ?_ ?_ ?_ <;> first|assumption|exact NotInt.bool _|exact NotInt.slice _ _ _ |(dsimp only;omega) |(simp;done)))
  (first
   |(go_at_call 129;clear M1;refine(HL.1.2.2 _ (Bg (by with_reducible assumption))).mono ?_;rintro e w' ⟨rfl,rfl⟩)
   |(go_at_call 129;refine(KL.1.2.2 _ (Bg (by with_reducible assumption))).mono ?_;rintro e w' ⟨rfl,rfl⟩)
   |(go_at_call 133;refine(HC.1 _ (Bg (by with_reducible assumption))).mono ?_;rintro e w2 ⟨⟨k1,cB,p1,c1,r1,rfl,Y,hv1⟩,bY⟩;have HS:=Bx (s != t) p1 c1 k1 r1 w2 Y (by omega);rw[hv1]at HS;replace HS:=Kh HS;clear Y hv1 cB)
   |(go_at_call 131;refine HS.1.mono ?_;rintro e w3 ⟨⟨s2,p2,n2,c2,rfl,aD⟩,cA⟩;clear bY;obtain⟨⟨bE,hT⟩,⟨bG,_⟩⟩:=Jj cA (by with_reducible assumption);have O:=aD.put2 hT 0 1 (.bool s2) (.slice p2 n2 c2) (NotInt.bool _);replace O:=Kh O;clear aD hT))
 go_wp2;try simp only[Exit.inBlock,Exit.then]
 refine bodyPost_ret (by simp[results,results84,go_sem,bE,bG];try rfl) rfl ?_;exact⟨⟨s2,p2,n2,c2,rfl,HV.1▸O.1⟩,Bg (by assumption)⟩
theorem gC (s:Bool) (p:Option Addr) (n c:Nat) (x:Int) (t:Bool) (q:Option Addr) (m d:Nat) (y:Int) (w:World) (h:Zr w s p n c x) (h':Zr w t q m d y) (hn:n<=17592186044400) (hm:m<=17592186044400):
  Calls prog 135 #[.agg #[.bool s,.slice p n c],.agg #[.bool t,.slice q m d]] w λe w'=>K8 w' e ((Int.gcd x y:Nat))/\Below w.heap.size w w':=by
 obtain⟨k,hk,J,HL⟩:=h.letters (by omega);obtain⟨l,hl,M,KL⟩:=h'.letters (by omega);have hC:=λI (hb:Below w.heap.size w I)=>Vw p c x.natAbs q d y.natAbs I (HL.1.2.1.keep hb) (KL.1.2.1.keep hb) (by omega) (by omega)
 rw[J,M,show Nat.gcd x.natAbs y.natAbs=Int.gcd x y from rfl]at hC;obtain⟨G,hG⟩:∃G,Int.gcd x y=G:=⟨_,rfl⟩
 have bC:nd G<=k+l:=by
  rw[<-hG,<-J,<-M];by_cases hx0:x.natAbs=0
  ·have e:Int.gcd x y=y.natAbs:=by show Nat.gcd x.natAbs y.natAbs=_;rw[hx0,Nat.gcd_zero_left]
   rw[e];omega
  ·have e:=Bm (Nat.gcd_le_left y.natAbs (show 0<x.natAbs by omega))
   exact mH e (by omega)
 rw[hG]at hC ⊢;obtain⟨g,hg⟩:∃g,nd G=g:=⟨_,rfl⟩
 rw[hg]at bC;have HG:=Kh hg;have HC:=Kh hC;have HV:=Kh (show sg false G=(G:Nat)from rfl);clear hC J M h h' hG hg;go_enter func135,ntmps135
 go_upto_region 1 with(fail)
 obtain⟨w0,Z,X0,X1,U,V⟩:=Rw w #[.bool s,.slice p n c] 84 #[.bool t,.slice q m d] 84 #[.bool false,.slice none 0 0] 84;rw[Z];have cB:w.heap.size<=w0.heap.size:=V.size;clear Z;have M1:True:=trivial;have T2:=Sts.of U (by intro v hv;simp at hv;rcases hv with rfl|rfl <;> first|exact NotInt.bool _|exact NotInt.slice _ _ _);have bH:=Di (Below.refl _ w0).drew ⟨X0.c0,X0.c1,X1.c0,X1.c1,U.so 0,U.free_ 0,T2,U.so 1,U.free_ 1,T2,V,cB⟩;clear X0 X1 U
 go_region_held3 (λI=>I.cell? ⟨w.heap.size,0,none⟩=some (.bool s)/\I.cell? ⟨w.heap.size,1,none⟩=some (.slice p n c)/\I.cell? ⟨w.heap.size+1,0,none⟩=some (.bool t)/\I.cell? ⟨w.heap.size+1,1,none⟩=some (.slice q m d)/\I.cell? ⟨w.heap.size+1+1,0,none⟩=some (cellOf I ⟨w.heap.size+1+1,0,none⟩)/\I.frozen? ⟨w.heap.size+1+1,0,none⟩=false/\Sts I (w.heap.size+1+1)/\I.cell? ⟨w.heap.size+1+1,1,none⟩=some (cellOf I ⟨w.heap.size+1+1,1,none⟩)/\I.frozen? ⟨w.heap.size+1+1,1,none⟩=false/\Sts I (w.heap.size+1+1)/\Below w.heap.size w I/\w.heap.size<=I.heap.size)
  (first|with_reducible exact bH |(refine Di (by with_reducible assumption) ?_;assumption) |(refine Jk ?_ ?_ ?_ ?_ ?_ ?_ ?_ ?_ ?_ ?_ ?_ ?_ ?_ <;> first|assumption|exact NotInt.bool _|exact NotInt.slice _ _ _ |(dsimp only;omega) |(simp;done)))
  (first
   |(go_at_call 129;clear M1;refine(HL.1.2.2 _ (Bg (by with_reducible assumption))).mono ?_;rintro e w' ⟨rfl,rfl⟩)
   |(go_at_call 129;refine(KL.1.2.2 _ (Bg (by with_reducible assumption))).mono ?_;rintro e w' ⟨rfl,rfl⟩)
   |(go_at_call 169;refine(HC.1 _ (Bg (by with_reducible assumption))).mono ?_;rintro e w2 ⟨⟨p1,c1,rfl,Y⟩,bY⟩;rw[HG.1];have HS:=Eh false p1 c1 g G w2 Y HG.1 (by omega);replace HS:=Kh HS;clear Y)
   |(go_at_call 131;refine HS.1.mono ?_;rintro e w3 ⟨⟨s2,p2,n2,c2,rfl,aD⟩,cA⟩;clear bY;obtain⟨⟨bE,hT⟩,⟨bG,_⟩⟩:=Jj cA (by with_reducible assumption);have O:=aD.put2 hT 0 1 (.bool s2) (.slice p2 n2 c2) (NotInt.bool _);replace O:=Kh O;clear aD hT))
 go_wp2;try simp only[Exit.inBlock,Exit.then]
 refine bodyPost_ret (by simp[results,results135,go_sem,bE,bG];try rfl) rfl ?_;exact⟨⟨s2,p2,n2,c2,rfl,HV.1▸O.1⟩,Bg (by assumption)⟩
theorem Ht (s:Bool) (p:Option Addr) (n c:Nat) (z:Int) (w:World) (h:Zr w s p n c z) (hn:n<=35184372088830):
  Calls prog 79 #[.agg #[.bool s,.slice p n c]] w λe w'=>e=.returned (.int .i64 (Int.sign z))/\Below w.heap.size w w':=by
 obtain⟨k,hk,J,V⟩:=h.letters hn;have hb:∀o,Below w.heap.size w (w.alloc o):=λo=>(Below.refl _ _).alloc (mG _) o
 have O:=Kh hb;have HZ:=Kh (show k=0↔z=0 by rw[<-J];have:=Bo (v:=z.natAbs);omega);have HV:=Kh V.1.1;clear J h hb;go_enter func79,ntmps79
 go_wp2_with fail
 refine(V.1.2.2 _ (O.1 _)).mono ?_;rintro e w1 ⟨rfl,rfl⟩;clear V;by_cases hk0:k=0
 ·have U:=HZ.1.1 hk0
  subst hk0 U;go_wp2;go_ret;exact⟨rfl,O.1 _⟩
 ·have U:z≠0:=λh=>hk0 (HZ.1.2 h)
  have bA:((k:Int)==0)=false:=beq_eq_false_iff_ne.2 (by omega);have I:=Kh U;clear U;cases s with
  | false=>
   have M:Int.sign z=1:=Int.sign_eq_one_of_pos (by have Z:=HV.1;have h2:=I.1;rw[Cp]at Z;omega);have Y:=Kh M;clear M;go_wp2;go_ret;exact⟨A3 Y.1.symm,O.1 _⟩
  | true=>
   have M:Int.sign z=-1:=Int.sign_eq_neg_one_of_neg (by have Z:=HV.1;have h2:=I.1;rw[show sg true z.natAbs=-(z.natAbs:Int)from rfl]at Z;omega);have Y:=Kh M;clear M;go_wp2;go_ret;exact⟨A3 Y.1.symm,O.1 _⟩
theorem Gc (n:Int) (w:World) (h1:-4611686018427387904<=n) (h2:n<=4611686018427387904):
  Calls prog 83 #[.int .i64 n] w λe w'=>K8 w' e n/\Below w.heap.size w w':=by
 obtain⟨v,hv⟩:∃v:Nat,n.natAbs=v:=⟨_,rfl⟩
 have cX:v<=4611686018427387904:=by omega
 have HW:=Kh (λw=>(Hw v w (by omega)).mono (λ_ _ h=>And.imp_left RetN.op h));have hb:Below w.heap.size w (w.alloc (.cells #[.bool false,.slice none 0 0] 84)):=(Below.refl _ _).alloc (mG _) _;have HB:=Kh hb;have gS:=Kh cX;have cT:=Be (v:=v) (k:=2);have bA:nd v<=2:=cT.2 (by omega);have cF:=Kh bA;have X:=Blk.new w 84 #[.bool false,.slice none 0 0];have HT:=Kh (Sts.of X (by intro v hv;simp at hv;rcases hv with rfl|rfl <;> first|exact NotInt.bool _|exact NotInt.slice _ _ _));have X0:((w.alloc (.cells #[.bool false,.slice none 0 0] 84)).cell? ⟨w.heap.size,0,none⟩).isSome=true:=by rw[X.at_ 0 rfl];rfl
 have X1:((w.alloc (.cells #[.bool false,.slice none 0 0] 84)).cell? ⟨w.heap.size,1,none⟩).isSome=true:=by rw[X.at_ 1 rfl];rfl
 have bG:∀i,(w.alloc (.cells #[.bool false,.slice none 0 0] 84)).frozen? ⟨w.heap.size,i,none⟩=false:=λi=>X.free_ i
 obtain⟨w0,cY⟩:∃w0,w.alloc (.cells #[.bool false,.slice none 0 0] 84)=w0:=⟨_,rfl⟩
 rw[cY]at HB HT X0 X1;simp only[cY]at bG;have aK:=Kh X0;have aN:=Kh X1;have HF:=Kh bG;clear X X0 X1 bG hb cX cT bA;by_cases hneg:n<0
 ·have e1:IntKind.u64.wrap n=n+18446744073709551616:=by rw[IntKind.wrap_u64];omega
  have e2:IntKind.u64.wrap (-(n+18446744073709551616))=(v:Nat):=by rw[IntKind.wrap_u64];omega
  have e3:IntKind.u64.wrap (-n)=(v:Nat):=by rw[IntKind.wrap_u64];omega
  have hd:decide (n<0)=true:=decide_eq_true hneg;have HZ:=Kh (show sg true v=n by unfold sg;rw[if_pos rfl];omega);clear h1 h2 hneg hv;go_enter func83,ntmps83
  go_wp2_with fail
  refine(HW.1 _).mono ?_;rintro e w1 ⟨⟨p1,n1,c1,rfl,Y,V⟩,M⟩;have HS:=Kh (Eh true p1 c1 n1 v w1 V Y (by have:=cF.1;omega));have J:=Kh M;clear Y V M HW;go_wp2_with fail
  refine HS.1.mono ?_;rintro e w2 ⟨⟨s2,p2,n2,c2,rfl,Z⟩,O⟩;have I:Below w0.heap.size w0 w2:=J.1.trans (O.mono J.1.size)
  obtain⟨u0,bH⟩:∃u,w2.cell? ⟨w.heap.size,0,none⟩=some u:=by
   rw[I.cell (p:=⟨w.heap.size,0,none⟩) HT.1.1];exact mK aK.1
  obtain⟨u1,bY⟩:∃u,w2.cell? ⟨w.heap.size,1,none⟩=some u:=by
   rw[I.cell (p:=⟨w.heap.size,1,none⟩) HT.1.1];exact mK aN.1
  have f0:=Ac I aK.1 (HF.1 0);have f1:=Ac I aN.1 (HF.1 1);have aD:=Z.put2 (HT.1.next I) 0 1 (.bool s2) (.slice p2 n2 c2) (NotInt.bool _);have U:Below w.heap.size w ((w2.setCell ⟨w.heap.size,0,none⟩ (.bool s2)).setCell ⟨w.heap.size,1,none⟩ (.slice p2 n2 c2)):=((HB.1.trans (I.mono HB.1.size)).setCell (mG _) _).setCell (mG _) _;have bE:=Kh aD;have bB:=Kh U;clear Z O I aD U HS J;go_wp2;try simp only[Exit.inBlock,Exit.then]
  refine bodyPost_ret (by simp[results,results83,go_sem,bH,bY];try rfl) rfl ?_;exact⟨⟨s2,p2,n2,c2,rfl,HZ.1▸bE.1⟩,bB.1⟩
 ·have e1:IntKind.u64.wrap n=(v:Nat):=by rw[IntKind.wrap_u64];omega
  have hd:decide (n<0)=false:=decide_eq_false hneg;have HZ:=Kh (show sg false v=n by rw[Cp];omega);clear h1 h2 hneg hv;go_enter func83,ntmps83
  go_wp2_with fail
  refine(HW.1 _).mono ?_;rintro e w1 ⟨⟨p1,n1,c1,rfl,Y,V⟩,M⟩;have HS:=Kh (Eh false p1 c1 n1 v w1 V Y (by have:=cF.1;omega));have J:=Kh M;clear Y V M HW;go_wp2_with fail
  refine HS.1.mono ?_;rintro e w2 ⟨⟨s2,p2,n2,c2,rfl,Z⟩,O⟩;have I:Below w0.heap.size w0 w2:=J.1.trans (O.mono J.1.size)
  obtain⟨u0,bH⟩:∃u,w2.cell? ⟨w.heap.size,0,none⟩=some u:=by
   rw[I.cell (p:=⟨w.heap.size,0,none⟩) HT.1.1];exact mK aK.1
  obtain⟨u1,bY⟩:∃u,w2.cell? ⟨w.heap.size,1,none⟩=some u:=by
   rw[I.cell (p:=⟨w.heap.size,1,none⟩) HT.1.1];exact mK aN.1
  have f0:=Ac I aK.1 (HF.1 0);have f1:=Ac I aN.1 (HF.1 1);have aD:=Z.put2 (HT.1.next I) 0 1 (.bool s2) (.slice p2 n2 c2) (NotInt.bool _);have U:Below w.heap.size w ((w2.setCell ⟨w.heap.size,0,none⟩ (.bool s2)).setCell ⟨w.heap.size,1,none⟩ (.slice p2 n2 c2)):=((HB.1.trans (I.mono HB.1.size)).setCell (mG _) _).setCell (mG _) _;have bE:=Kh aD;have bB:=Kh U;clear Z O I aD U HS J;go_wp2;try simp only[Exit.inBlock,Exit.then]
  refine bodyPost_ret (by simp[results,results83,go_sem,bH,bY];try rfl) rfl ?_;exact⟨⟨s2,p2,n2,c2,rfl,HZ.1▸bE.1⟩,bB.1⟩
structure Var2 (w:World) (R:Nat):Prop where
 some0:(w.cell? ⟨R,0,none⟩).isSome=true
 some1:(w.cell? ⟨R,1,none⟩).isSome=true
 free:∀i,w.frozen? ⟨R,i,none⟩=false
 sts:Sts w R
theorem Var2.of {w:World} {R:Nat} {t:TypeId} {a b:Value} (h:Blk w R t #[a,b]) (J:NotInt a) (M:NotInt b):Var2 w R:=
 ⟨by rw[h.at_ 0 rfl];rfl,by rw[h.at_ 1 rfl];rfl,λi=>h.free_ i,Sts.of h (by intro v I;simp at I;rcases I with rfl|rfl;exact J;exact M)⟩
theorem Var2.next {w w':World} {R:Nat} (h:Var2 w R) (I:Below w.heap.size w w'):Var2 w' R:=by
 have J:=I.cell (p:=⟨R,0,none⟩) h.sts.1;have M:=I.cell (p:=⟨R,1,none⟩) h.sts.1;refine⟨by rw[J];exact h.some0,by rw[M];exact h.some1,λi=>?_,h.sts.next I⟩;have e:w'.heap[R]?=w.heap[R]?:=I.block R h.sts.1;have:=h.free i;unfold World.frozen? at this ⊢;rw[e];exact this
theorem Var2.cells {w:World} {R:Nat} (h:Var2 w R):(∃u,w.cell? ⟨R,0,none⟩=some u)/\∃u,w.cell? ⟨R,1,none⟩=some u:=⟨mK h.some0,mK h.some1⟩
theorem gI (s:Bool) (p:Option Addr) (n c:Nat) (x:Int) (t:Bool) (q:Option Addr) (m d v:Nat) (w:World) (h:Zr w s p n c x) (h':Nm w q d v) (gA:nd v=m) (hn:n<=17592186044400) (hm:m<=17592186044400):
  Calls prog 130 #[.agg #[.bool s,.slice p n c],.bool t,.slice q m d] w λe w'=>K8 w' e (x+sg t v)/\Below w.heap.size w w':=by
 obtain⟨k,hk,cX,HL⟩:=h.letters (by omega);obtain⟨u,hu⟩:∃u,x.natAbs=u:=⟨_,rfl⟩
 rw[hu]at HL cX;have hP:=λJ (hb:Below w.heap.size w J)=>V1 p c (nd u) (dg u) q d (nd v) (dg v) J (HL.1.2.1.keep hb) (h'.keep hb) (by omega) (by omega)
 have hC:=λJ (hb:Below w.heap.size w J)=>D7 p c u q d v J (HL.1.2.1.keep hb) (h'.keep hb) (by omega) (by omega)
 have eP:=λ(M:v<=u) J (hb:Below w.heap.size w J)=>Ql p c (nd u) (dg u) q d (nd v) (dg v) J (HL.1.2.1.keep hb) (h'.keep hb) (by omega) (Bm M) (by rw[Bp,Bp];exact M)
 have eV:=λ(M:u<=v) J (hb:Below w.heap.size w J)=>Ql q d (nd v) (dg v) p c (nd u) (dg u) J (h'.keep hb) (HL.1.2.1.keep hb) (by omega) (Bm M) (by rw[Bp,Bp];exact M)
 have gX:vf (dg u) k=u:=by rw[<-cX,Bp]
 have gY:vf (dg v) m=v:=by rw[<-gA,Bp]
 simp only[cX,gA,gX,gY]at hP hC eP eV;have HX:=Kh HL.1.1;have HT:=Kh HL.1.2.2;have HP:=Kh hP;have HC:=Kh hC;have bE:=Kh eP;have bB:=Kh eV;clear hP hC eP eV HL h h' cX gA hu gX gY;go_enter func130,ntmps130
 go_wp2_with fail
 obtain⟨w0,hB,X0,X1,aX⟩:=bx2 w #[.bool s,.slice p n c] 84 #[.bool false,.slice none 0 0] 84;rw[hB];have gU:w.heap.size<=w0.heap.size:=aX.size;clear hB;have I:=Kh (Var2.of X1 (NotInt.bool _) (NotInt.slice _ _ _));have A0:=X0.at_ 0 rfl;have A1:=X0.at_ 1 rfl;refine(HT.1 _ aX).mono ?_;rintro e J ⟨rfl,rfl⟩;have O:=Kh aX;have cG:=Kh X0;have cT:=Kh X1;clear X0 X1 HT aX;by_cases hst:s=t
 ·subst hst
  have HV:=Kh (show sg s (u+v)=x+sg s v by rw[<-HX.1,bM]);clear HC bE bB;go_wp2_with fail
  refine(HP.1 _ O.1).mono ?_;rintro e J ⟨⟨p1,c1,r1,rfl,aD,hv1⟩,U⟩;have HS:=Bx s p1 c1 _ r1 J aD (by omega);rw[hv1]at HS;replace HS:=Kh HS;have bA:=bt O U;have bG:=Kh (I.1.next U);clear aD hv1 U HP O I A0 A1 cG cT;go_wp2_with fail
  refine HS.1.mono ?_;rintro e w2 ⟨⟨s2,p2,n2,c2,rfl,aK⟩,V⟩;have dE:=bt bA V;have I:=Kh (bG.1.next V);clear V HS bA bG;obtain⟨⟨u0,gF⟩,⟨u1,gL⟩⟩:=I.1.cells;have f0:=I.1.free 0;have f1:=I.1.free 1;have Y:=aK.put2 I.1.sts 0 1 (.bool s2) (.slice p2 n2 c2) (NotInt.bool _);have cA:Below w.heap.size w ((w2.setCell ⟨w.heap.size+1,0,none⟩ (.bool s2)).setCell ⟨w.heap.size+1,1,none⟩ (.slice p2 n2 c2)):=(dE.1.setCell (by show w.heap.size<=w.heap.size+1;omega) _).setCell (by show w.heap.size<=w.heap.size+1;omega) _;have dY:=Kh Y;have dX:=Kh cA;clear aK Y cA;go_wp2;try simp only[Exit.inBlock,Exit.then]
  refine bodyPost_ret (by simp[results,results130,go_sem,gF,gL];try rfl) rfl ?_;exact⟨⟨s2,p2,n2,c2,rfl,HV.1▸dY.1⟩,dX.1⟩
 ·obtain rfl:t = !s:=by cases s <;> cases t <;> simp_all
  have mB:(s == !s)=false:=by cases s <;> rfl
  clear hst;by_cases M:v<=u
  ·obtain⟨g,hg⟩:=M5 M
   have HV:=Kh (show sg s (u - v)=x+sg (!s) v by rw[<-HX.1,bK _ _ _ M]);have hC:=HC.1;rw[hg]at hC;replace HC:=Kh hC;replace bE:=Kh (bE.1 M);have mA:decide ((0:Int)<=(g:Int))=true:=decide_eq_true (by omega);clear hC hg M bB HP;go_wp2_with fail
   refine(HC.1 _ O.1).mono ?_;rintro e J ⟨rfl,hq⟩;have Z:=Bi hq;have X0:=bk cG Z;have X1:=bk cT Z;have aX:=O.1.trans (Z.mono O.1.size);replace gU:w.heap.size<=J.heap.size:=aX.size;clear hq Z cG cT O I A0 A1 HC;go_upto_region 5 with(fail)
   have T1:=Sts.of X1 (by intro v hv;simp at hv;rcases hv with rfl|rfl <;> first|exact NotInt.bool _|exact NotInt.slice _ _ _);have hR:=Dh (Below.refl _ J).drew ⟨X0.c0,X0.c1,X1.so 0,X1.free_ 0,T1,X1.so 1,X1.free_ 1,T1,aX,gU⟩;clear X0 X1
   go_region_held3 (λJ=>J.cell? ⟨w.heap.size,0,none⟩=some (.bool s)/\J.cell? ⟨w.heap.size,1,none⟩=some (.slice p n c)/\J.cell? ⟨w.heap.size+1,0,none⟩=some (cellOf J ⟨w.heap.size+1,0,none⟩)/\J.frozen? ⟨w.heap.size+1,0,none⟩=false/\Sts J (w.heap.size+1)/\J.cell? ⟨w.heap.size+1,1,none⟩=some (cellOf J ⟨w.heap.size+1,1,none⟩)/\J.frozen? ⟨w.heap.size+1,1,none⟩=false/\Sts J (w.heap.size+1)/\Below w.heap.size w J/\w.heap.size<=J.heap.size)
    (first|with_reducible exact hR |(refine Dh (by with_reducible assumption) ?_;assumption) |(refine Ji ?_ ?_ ?_ ?_ ?_ ?_ ?_ ?_ ?_ <;> first|assumption|exact NotInt.bool _|exact NotInt.slice _ _ _ |(dsimp only;omega) |(simp;done)))
    (first
     |(go_at_call 168;refine(bE.1 _ (Bw (by with_reducible assumption))).mono ?_;rintro e w2 ⟨⟨p1,c1,r1,rfl,aD,hv1⟩,U⟩;have HS:=Bx s p1 c1 _ r1 w2 aD (by omega);rw[hv1]at HS;replace HS:=Kh HS;clear aD hv1)
     |(go_at_call 131;refine HS.1.mono ?_;rintro e w3 ⟨⟨s2,p2,n2,c2,rfl,aK⟩,V⟩;clear U;obtain⟨⟨hO,hT⟩,⟨hQ,_⟩⟩:=Jh V (by with_reducible assumption);have Y:=aK.put2 hT 0 1 (.bool s2) (.slice p2 n2 c2) (NotInt.bool _);replace Y:=Kh Y;clear aK hT))
   go_wp2;try simp only[Exit.inBlock,Exit.then]
   refine bodyPost_ret (by simp[results,results130,go_sem,hO,hQ];try rfl) rfl ?_;exact⟨⟨s2,p2,n2,c2,rfl,HV.1▸Y.1⟩,Bw (by assumption)⟩
  ·have hlt:u<v:=by omega
   have HV:=Kh (show sg (!s) (v - u)=x+sg (!s) v by rw[<-HX.1,bL _ _ _ (Nat.le_of_lt hlt)]);have hC:=HC.1;rw[J5 hlt]at hC;replace HC:=Kh hC;replace bB:=Kh (bB.1 (Nat.le_of_lt hlt));clear hC hlt M bE HP;go_wp2_with fail
   refine(HC.1 _ O.1).mono ?_;rintro e J ⟨rfl,hq⟩;have Z:=Bi hq;have bA:=bt O Z;have bG:=Kh (I.1.next Z);clear hq Z cG cT O I A0 A1 HC;go_wp2_with fail
   refine(bB.1 _ bA.1).mono ?_;rintro e w3 ⟨⟨p1,c1,r1,rfl,aD,hv1⟩,U⟩;have HS:=Bx (!s) p1 c1 _ r1 w3 aD (by omega);rw[hv1]at HS;replace HS:=Kh HS;have bC:=bt bA U;have gP:=Kh (bG.1.next U);clear aD hv1 U bA bG bB;go_wp2_with fail
   refine HS.1.mono ?_;rintro e w2 ⟨⟨s2,p2,n2,c2,rfl,aK⟩,V⟩;have dE:=Kh (bC.1.trans (V.mono bC.1.size));have I:=Kh (gP.1.next V);clear V HS bC gP;obtain⟨⟨u0,gF⟩,⟨u1,gL⟩⟩:=I.1.cells;have f0:=I.1.free 0;have f1:=I.1.free 1;have Y:=aK.put2 I.1.sts 0 1 (.bool s2) (.slice p2 n2 c2) (NotInt.bool _);have cA:Below w.heap.size w ((w2.setCell ⟨w.heap.size+1,0,none⟩ (.bool s2)).setCell ⟨w.heap.size+1,1,none⟩ (.slice p2 n2 c2)):=(dE.1.setCell (by show w.heap.size<=w.heap.size+1;omega) _).setCell (by show w.heap.size<=w.heap.size+1;omega) _;have dY:=Kh Y;have dX:=Kh cA;clear aK Y cA;go_wp2;try simp only[Exit.inBlock,Exit.then]
   refine bodyPost_ret (by simp[results,results130,go_sem,gF,gL];try rfl) rfl ?_;exact⟨⟨s2,p2,n2,c2,rfl,HV.1▸dY.1⟩,dX.1⟩
theorem Rx (s:Bool) (p:Option Addr) (n c:Nat) (x:Int) (t:Bool) (q:Option Addr) (m d:Nat) (y:Int) (w:World) (h:Zr w s p n c x) (h':Zr w t q m d y) (hn:n<=17592186044400) (hm:m<=17592186044400):
  Calls prog 82 #[.agg #[.bool s,.slice p n c],.agg #[.bool t,.slice q m d]] w λe w'=>K8 w' e (x+y)/\Below w.heap.size w w':=by
 obtain⟨l,hl,U,Z⟩:=h'.letters (by omega);have hC:=λI (hb:Below w.heap.size w I)=>gI s p n c x t q l d y.natAbs I (h.keep hb) (Z.1.2.1.keep hb) U hn (by omega)
 rw[Z.1.1]at hC;have HC:=Kh hC;clear hC U h h';go_enter func82,ntmps82
 go_upto_region 1 with(fail)
 obtain⟨w0,V,X0,X1,M,O⟩:=Rw w #[.bool s,.slice p n c] 84 #[.bool t,.slice q m d] 84 #[.bool false,.slice none 0 0] 84;rw[V];have bE:w.heap.size<=w0.heap.size:=O.size;clear V;have T2:=Sts.of M (by intro v hv;simp at hv;rcases hv with rfl|rfl <;> first|exact NotInt.bool _|exact NotInt.slice _ _ _);have bB:=Di (Below.refl _ w0).drew ⟨X0.c0,X0.c1,X1.c0,X1.c1,M.so 0,M.free_ 0,T2,M.so 1,M.free_ 1,T2,O,bE⟩;clear X0 X1 M
 go_region_held3 (λI=>I.cell? ⟨w.heap.size,0,none⟩=some (.bool s)/\I.cell? ⟨w.heap.size,1,none⟩=some (.slice p n c)/\I.cell? ⟨w.heap.size+1,0,none⟩=some (.bool t)/\I.cell? ⟨w.heap.size+1,1,none⟩=some (.slice q m d)/\I.cell? ⟨w.heap.size+1+1,0,none⟩=some (cellOf I ⟨w.heap.size+1+1,0,none⟩)/\I.frozen? ⟨w.heap.size+1+1,0,none⟩=false/\Sts I (w.heap.size+1+1)/\I.cell? ⟨w.heap.size+1+1,1,none⟩=some (cellOf I ⟨w.heap.size+1+1,1,none⟩)/\I.frozen? ⟨w.heap.size+1+1,1,none⟩=false/\Sts I (w.heap.size+1+1)/\Below w.heap.size w I/\w.heap.size<=I.heap.size)
  (first|with_reducible exact bB |(refine Di (by with_reducible assumption) ?_;assumption) |(refine Jk ?_ ?_ ?_ ?_ ?_ ?_ ?_ ?_ ?_ ?_ ?_ ?_ ?_ <;> first|assumption|exact NotInt.bool _|exact NotInt.slice _ _ _ |(dsimp only;omega) |(simp;done)))
  (first
   |(go_at_call 129;refine(Z.1.2.2 _ (Bg (by with_reducible assumption))).mono ?_;rintro e w' ⟨rfl,rfl⟩)
   |(go_at_call 130;refine(HC.1 _ (Bg (by with_reducible assumption))).mono ?_;rintro e w3 ⟨⟨s2,p2,n2,c2,rfl,Y⟩,bC⟩;obtain⟨⟨aX,hT⟩,⟨bA,_⟩⟩:=Jj bC (by with_reducible assumption);have J:=Y.put2 hT 0 1 (.bool s2) (.slice p2 n2 c2) (NotInt.bool _);replace J:=Kh J;clear Y hT))
 go_wp2;try simp only[Exit.inBlock,Exit.then]
 refine bodyPost_ret (by simp[results,results82,go_sem,aX,bA];try rfl) rfl ?_;exact⟨⟨s2,p2,n2,c2,rfl,J.1⟩,Bg (by assumption)⟩
theorem J9 {a b q r:Int} (M:0<b) (h:r+b*q=a) (I:0<=r) (J:r<b):a / b=q/\a % b=r:=(Int.ediv_emod_unique M).2 ⟨h,I,J⟩
theorem Rh {s:Bool} {u v:Nat} (J:0<v):(sg s u) / (v:Int)=(if s=true/\0<u % v then sg s (u / v+1)else sg s (u / v))/\(sg s u) % (v:Int)=(if s=true/\0<u % v then((v - u % v:Nat):Int)else((u % v:Nat):Int)):=by
 have I:=Nat.div_add_mod u v;have M:=Nat.mod_lt u J
 have O:((v:Int)*((u / v:Nat):Int))+((u % v:Nat):Int)=(u:Int):=by
  rw[<-Int.natCast_mul,<-Int.natCast_add,I]
 generalize u / v=Q at *;generalize u % v=R at *;cases s with
 | false=>
  rw[if_neg (by simp),if_neg (by simp)];exact J9 (by omega) (by rw[Cp,Cp];omega) (by omega) (by omega)
 | true=>
  by_cases hR:0<R
  ·rw[if_pos ⟨rfl,hR⟩,if_pos ⟨rfl,hR⟩]
   refine J9 (by omega) ?_ (by omega) (by omega);show((v - R:Nat):Int)+(v:Int)*(-((Q+1:Nat):Int))=-(u:Int);rw[Int.mul_neg,Int.natCast_add,Int.mul_add];omega
  ·rw[if_neg (by simp[hR]),if_neg (by simp[hR])]
   refine J9 (by omega) ?_ (by omega) (by omega);show(R:Int)+(v:Int)*(-(Q:Int))=-(u:Int);rw[Int.mul_neg];omega
theorem fF {s t:Bool} {u v:Nat} (M:0<v):(sg s u) / (sg t v)=(if s=true/\0<u % v then sg (s != t) (u / v+1)else sg (s != t) (u / v))/\(sg s u) % (sg t v)=(if s=true/\0<u % v then((v - u % v:Nat):Int)else((u % v:Nat):Int)):=by
 obtain⟨I,J⟩:=Rh (s:=s) (u:=u) M;cases t with
 | false=>
  rw[Cp,I,J];cases s <;> exact⟨rfl,rfl⟩
 | true=>
  rw[show sg true v=-(v:Int)from rfl,Int.ediv_neg,Int.emod_neg,I,J];refine⟨?_,rfl⟩;split <;> cases s <;> simp[sg]
def fT (w':World) (e:Ending) (q r:Int):Prop:=∃s p n c t p' m d,e=.returned (.tuple #[.agg #[.bool s,.slice p n c],.agg #[.bool t,.slice p' m d],.int .i64 0])/\Zs w' s p n c q/\Zs w' t p' m d r
theorem put4 {w:World} {R S:Nat} {s t:Bool} {p q:Option Addr} {n c m d:Nat} {x y:Int} (O:Var2 w R) (U:Var2 w S) (V:R≠S) (Z:Zs w s p n c x) (h2:Zs w t q m d y) {w':World}
  (hw:(((w.setCell ⟨R,0,none⟩ (.bool s)).setCell ⟨R,1,none⟩ (.slice p n c)).setCell ⟨S,0,none⟩ (.bool t)).setCell ⟨S,1,none⟩ (.slice q m d)=w'):
  w'.cell? ⟨R,0,none⟩=some (.bool s)/\w'.cell? ⟨R,1,none⟩=some (.slice p n c)/\w'.cell? ⟨S,0,none⟩=some (.bool t)/\w'.cell? ⟨S,1,none⟩=some (.slice q m d)/\Zs w' s p n c x/\Zs w' t q m d y:=by
 subst hw;have Y:=U.sts.put ⟨R,0,none⟩ (.bool s) (NotInt.bool _);have M:=Y.put ⟨R,1,none⟩ (.slice p n c) (NotInt.slice _ _ _);have I:∀(w:World) (i j:Nat) (v:Value),(w.setCell ⟨S,i,none⟩ v).cell? ⟨R,j,none⟩=w.cell? ⟨R,j,none⟩:=λw i j v=>World.cell?_setCell_far w ⟨S,i,none⟩ ⟨R,j,none⟩ v (Ne.symm V)
 have J:∀R:Nat,(⟨R,0,none⟩:Addr)≠⟨R,1,none⟩:=λR h=>by simp at h
 refine⟨?_,?_,?_,?_,?_,?_⟩
 ·rw[I,I,World.cell?_setCell_other _ _ _ _ (Ne.symm (J R)),World.cell?_setCell_same' _ _ _ O.some0]
 ·rw[I,I,World.cell?_setCell_same' _ _ _ (Gg O.some1)]
 ·rw[World.cell?_setCell_other _ _ _ _ (Ne.symm (J S)),World.cell?_setCell_same' _ _ _ (Gg (Gg U.some0))]
 ·rw[World.cell?_setCell_same' _ _ _ (Gg (Gg (Gg U.some1)))]
 ·exact(Z.put2 O.sts 0 1 _ _ (NotInt.bool _)).put2 M 0 1 _ _ (NotInt.bool _)
 ·exact(h2.put2 O.sts 0 1 _ _ (NotInt.bool _)).put2 M 0 1 _ _ (NotInt.bool _)
theorem Vk (s:Bool) (p:Option Addr) (n c:Nat) (x:Int) (t:Bool) (q:Option Addr) (m d:Nat) (y:Int) (w:World) (h:Zr w s p n c x) (h':Zr w t q m d y) (hn:n<=17592186044400) (hm:m<=17592186044400) (hy:y≠0):
  Calls prog 170 #[.agg #[.bool s,.slice p n c],.agg #[.bool t,.slice q m d]] w λe w'=>fT w' e (x / y) (x % y)/\Below w.heap.size w w':=by
 obtain⟨k,hk,bA,HL⟩:=h.letters (by omega);obtain⟨l,hl,gL,KL⟩:=h'.letters (by omega);obtain⟨u,hu⟩:∃u,x.natAbs=u:=⟨_,rfl⟩
 obtain⟨v,hv⟩:∃v,y.natAbs=v:=⟨_,rfl⟩
 rw[hu]at HL bA;rw[hv]at KL gL;have nM:0<v:=by omega
 obtain⟨hq,hr⟩:=fF (s:=s) (t:=t) (u:=u) nM;rw[HL.1.1,KL.1.1]at hq hr;have hD:=λw1 (hb:Below w.heap.size w w1)=>Om p c u q d v w1 (HL.1.2.1.keep hb) (KL.1.2.1.keep hb) (by omega) (by omega) (by omega)
 rw[bA,gL]at hD;have oR:0<l:=by rw[<-gL];exact Bo.2 (by omega)
 have oS:((l:Int)==0)=false:=beq_eq_false_iff_ne.2 (by omega);obtain⟨Q,hQ⟩:∃Q,u / v=Q:=⟨_,rfl⟩
 obtain⟨R,hR⟩:∃R,u % v=R:=⟨_,rfl⟩
 have mE:R<v:=by rw[<-hR];exact Nat.mod_lt _ nM
 have mZ:Q<=u:=by rw[<-hQ];exact Nat.div_le_self _ _
 have mY:nd Q<=k:=by rw[<-bA];exact Bm mZ
 have nA:nd R<=l:=by rw[<-gL];exact Bm (Nat.le_of_lt mE)
 rw[hQ,hR]at hD hq;rw[hR]at hr;have HD:=Kh hD;have mW:=Kh HL.1.2.2;have mX:=Kh KL.1.2.2;have gX:=Kh KL.1.2.1;have mR:=Kh gL;have HQ:=Kh hq;have HR:=Kh hr;have mV:=Kh mE;have mU:=Kh nA;have mT:=Kh mY;have mD:=Kh (Bo (v:=R));clear hD hq hr mE nA mZ hQ hR mY gL bA HL KL h h' hv hu hy;go_enter func170,ntmps170
 go_wp2_with fail
 obtain⟨w0,nP,X0,X1,X2,X3,nB⟩:=kN w #[.bool s,.slice p n c] 84 #[.bool t,.slice q m d] 84 #[.bool false,.slice none 0 0] 84 #[.bool false,.slice none 0 0] 84;rw[nP];clear nP;have aD:=Kh (Var2.of X2 (NotInt.bool _) (NotInt.slice _ _ _));have aK:=Kh (Var2.of X3 (NotInt.bool _) (NotInt.slice _ _ _));have dY:=Kh X0;have eP:=Kh X1;have gP:=Kh nB;have A1:=X0.at_ 1 rfl;clear X0 X1 X2 X3 nB;refine(mX.1 _ gP.1).mono ?_;rintro e w1 ⟨rfl,rfl⟩;clear mX;go_wp2_with fail
 refine(mW.1 _ gP.1).mono ?_;rintro e w1 ⟨rfl,rfl⟩;clear mW;go_wp2_with fail
 refine(HD.1 _ gP.1).mono ?_;rintro e w1 ⟨⟨p1,c1,p2,c2,rfl,nG,nH⟩,gF⟩;obtain⟨k1,hN⟩:∃k1,nd Q=k1:=⟨_,rfl⟩
 obtain⟨k2,bA⟩:∃k2,nd R=k2:=⟨_,rfl⟩
 rw[hN,bA];rw[hN]at mT;rw[bA]at mU mD;have U:=bt gP gF;replace aD:=Kh (aD.1.next gF);replace aK:=Kh (aK.1.next gF);replace dY:=Kh (bk dY gF);replace eP:=Kh (bk eP gF);replace gX:=Kh (gX.1.keep U.1);have A0:=dY.1.at_ 0 rfl;have A2:=eP.1.at_ 0 rfl;have hL:=Kh nG;have hM:=Kh nH;have gU:=Kh hN;have eV:=Kh bA;have oT:k1<=k:=mT.1;have oU:k2<=l:=mU.1;clear HD gP A1 nG nH gF hN bA;by_cases hcase:s=true/\0<k2
 ·obtain⟨rfl,nF⟩:=hcase
  have cC:=Kh (show x / y=sg (!t) (Q+1)by have h1:=HQ.1;rw[if_pos ⟨rfl,Bo.2 (by have:=mD.1;omega) |> Bo.1 |> Nat.pos_of_ne_zero⟩]at h1;cases t <;> exact h1);have cT:=Kh (show x % y=((v - R:Nat):Int)by have h1:=HR.1;rw[if_pos ⟨rfl,Nat.pos_of_ne_zero (mD.1.1 nF)⟩]at h1;exact h1)
  have hT:=(Row.alloc w1 #[.int .u32 1] 1 (λ_=>1) rfl (λi hi=>by obtain rfl:i=0:=by omega
                                                                 rfl) (λ_ _=>(by decide:(1:Nat)<4294967296))).dg 1 (mG _)
  have mM:Below w1.heap.size w1 (w1.alloc (.cells #[.int .u32 1] 200)):=(Below.refl _ _).alloc (mG _) _;have HP:=V1 p1 c1 (nd Q) (dg Q) (some ⟨w1.heap.size,0,none⟩) 1 1 (λ_=>1) _ (hL.1.keep mM) hT (by have:=gU.1;omega) (by omega);rw[Bp,show vf (λ_=>1) 1=1 from rfl,gU.1]at HP;have gA:=λw5 (hb:Below w1.heap.size w1 w5)=>Ql q d (nd v) (dg v) p2 c2 (nd R) (dg R) w5 (gX.1.keep hb) (hM.1.keep hb) (by have:=mR.1;omega) (Bm (Nat.le_of_lt mV.1)) (by rw[Bp,Bp];exact Nat.le_of_lt mV.1)
  simp only[Bp]at gA;rw[mR.1,eV.1]at gA;replace HP:=Kh HP;replace gA:=Kh gA;have mO:=Kh mM;clear hT mM HQ HR;go_wp2_with fail
  refine HP.1.mono ?_;rintro e w3 ⟨⟨p3,c3,r3,rfl,nD,nN⟩,nC⟩;have hJ:=bt mO nC;have mC:=Kh (And.intro nD nN);clear nD nN nC HP mO;go_wp2_with fail
  refine(gA.1 _ hJ.1).mono ?_;rintro e w4 ⟨⟨p4,c4,rr,rfl,nE,nO⟩,mL⟩;obtain⟨rq,hE⟩:∃rq,r3=rq:=⟨_,rfl⟩
  have Y:=Kh (show Dg w4 p3 c3 (max k1 1+1) rq/\vf rq (max k1 1+1)=Q+1 by rw[<-hE];exact⟨mC.1.1.keep mL,mC.1.2⟩);have Z:=Kh (And.intro nE nO);have aN:=hJ.1.trans (mL.mono hJ.1.size);replace aD:=Kh (aD.1.next aN);replace aK:=Kh (aK.1.next aN);have oO:=(aN.cell (p:=⟨w.heap.size,0,none⟩) dY.1.lt).trans A0;have oQ:=(aN.cell (p:=⟨w.heap.size+1,0,none⟩) eP.1.lt).trans A2;replace U:=bt U aN;clear A0 A2 aN mL nE nO hE mC hJ gA hL hM gX gU eV dY eP;have J:=Bx (!t) p3 c3 (max k1 1+1) rq w4 Y.1.1 (by omega);rw[Y.1.2,<-cC.1]at J;replace J:=Kh J;have M:=λw5 (hb:Below w4.heap.size w4 w5)=>Bx false p4 c4 l rr w5 (Z.1.1.keep hb) (by omega)
  simp only[Z.1.2,Cp,<-cT.1]at M;replace M:=Kh M;clear Y Z cC cT;go_wp2_with fail
  refine J.1.mono ?_;rintro e w5 ⟨⟨s5,p5,n5,c5,rfl,cD⟩,cA⟩;have I:=Kh cA;have bC:=Kh cD;clear cD cA J;go_wp2_with fail
  refine(M.1 _ I.1).mono ?_;rintro e w6 ⟨⟨s6,p6,n6,c6,rfl,cF⟩,O⟩;have bE:=Kh (bC.1.keep O);have V2:=(aD.1.next I.1).next O
  have V3:=(aK.1.next I.1).next O
  have bB:=Kh ((U.1.trans (I.1.mono U.1.size)).trans (O.mono (mH U.1.size I.1.size)));obtain⟨⟨u0,nJ⟩,⟨u1,nK⟩⟩:=V2.cells;obtain⟨⟨u2,hu2⟩,⟨u3,nL⟩⟩:=V3.cells;have f0:=V2.free 0;have f1:=V2.free 1;have f2:=V3.free 0;have f3:=V3.free 1;obtain⟨w7,V⟩:∃w7,(((w6.setCell ⟨w.heap.size+1+1,0,none⟩ (.bool s5)).setCell ⟨w.heap.size+1+1,1,none⟩ (.slice p5 n5 c5)).setCell ⟨w.heap.size+1+1+1,0,none⟩ (.bool s6)).setCell ⟨w.heap.size+1+1+1,1,none⟩ (.slice p6 n6 c6)=w7:=⟨_,rfl⟩
  obtain⟨E0,E1,E2,E3,z5,z6⟩:=put4 V2 V3 (by omega) bE.1 cF V
  have cB:Below w.heap.size w w7:=by
   rw[<-V];exact(((bB.1.setCell (by show w.heap.size<=w.heap.size+1+1;omega) _).setCell (by show w.heap.size<=w.heap.size+1+1;omega) _).setCell (by show w.heap.size<=w.heap.size+1+1+1;omega) _).setCell (by show w.heap.size<=w.heap.size+1+1+1;omega) _
  have bG:=Kh (And.intro z5 z6);have gS:=Kh cB;have gY:=Kh V;have HE:=Kh (And.intro E0 (And.intro E1 (And.intro E2 E3)));clear z5 z6 cB V E0 E1 E2 E3 V2 V3 cF O bC bE I bB M U aD aK;go_wp2;rw[gY.1];obtain⟨E0,E1,E2,E3⟩:=HE.1;try simp only[Exit.inBlock,Exit.then]
  refine bodyPost_ret (by simp[results,results170,go_sem,E0,E1,E2,E3];try rfl) rfl ?_;exact⟨⟨s5,p5,n5,c5,s6,p6,n6,c6,rfl,bG.1.1,bG.1.2⟩,gS.1⟩
 ·have dE:x / y=sg (s != t) Q:=by have h1:=HQ.1;rw[if_neg (λh=>hcase ⟨h.1,by rw[<-eV.1];exact Bo.2 (by omega)⟩)]at h1;exact h1
  have cT:=Kh (show x % y=((R:Nat):Int)by have h1:=HR.1;rw[if_neg (λh=>hcase ⟨h.1,by rw[<-eV.1];exact Bo.2 (by omega)⟩)]at h1;exact h1);obtain⟨rq,hE⟩:∃rq,dg Q=rq:=⟨_,rfl⟩
  obtain⟨rr,nI⟩:∃rr,dg R=rr:=⟨_,rfl⟩
  have Y:=Kh (show Dg w1 p1 c1 k1 rq/\vf rq k1=Q by rw[<-hE,<-gU.1];exact⟨hL.1,Bp Q⟩);have Z:=Kh (show Dg w1 p2 c2 k2 rr/\vf rr k2=R by rw[<-nI,<-eV.1];exact⟨hM.1,Bp R⟩);clear hE nI HQ HR hL hM gX gU eV dY eP;cases s with
  | false=>
   have cC:=Kh (show x / y=sg t Q by rw[dE];cases t <;> rfl);clear dE hcase;have J:=Bx (t) p1 c1 k1 rq w1 Y.1.1 (by omega);rw[Y.1.2,<-cC.1]at J;replace J:=Kh J;have M:=λw5 (hb:Below w1.heap.size w1 w5)=>Bx false p2 c2 k2 rr w5 (Z.1.1.keep hb) (by omega)
   simp only[Z.1.2,Cp,<-cT.1]at M;replace M:=Kh M;clear Y Z cC cT;go_wp2_with fail
   refine J.1.mono ?_;rintro e w5 ⟨⟨s5,p5,n5,c5,rfl,cD⟩,cA⟩;have I:=Kh cA;have bC:=Kh cD;clear cD cA J;go_wp2_with fail
   refine(M.1 _ I.1).mono ?_;rintro e w6 ⟨⟨s6,p6,n6,c6,rfl,cF⟩,O⟩;have bE:=Kh (bC.1.keep O);have V2:=(aD.1.next I.1).next O
   have V3:=(aK.1.next I.1).next O
   have bB:=Kh ((U.1.trans (I.1.mono U.1.size)).trans (O.mono (mH U.1.size I.1.size)));obtain⟨⟨u0,nJ⟩,⟨u1,nK⟩⟩:=V2.cells;obtain⟨⟨u2,hu2⟩,⟨u3,nL⟩⟩:=V3.cells;have f0:=V2.free 0;have f1:=V2.free 1;have f2:=V3.free 0;have f3:=V3.free 1;obtain⟨w7,V⟩:∃w7,(((w6.setCell ⟨w.heap.size+1+1,0,none⟩ (.bool s5)).setCell ⟨w.heap.size+1+1,1,none⟩ (.slice p5 n5 c5)).setCell ⟨w.heap.size+1+1+1,0,none⟩ (.bool s6)).setCell ⟨w.heap.size+1+1+1,1,none⟩ (.slice p6 n6 c6)=w7:=⟨_,rfl⟩
   obtain⟨E0,E1,E2,E3,z5,z6⟩:=put4 V2 V3 (by omega) bE.1 cF V
   have cB:Below w.heap.size w w7:=by
    rw[<-V];exact(((bB.1.setCell (by show w.heap.size<=w.heap.size+1+1;omega) _).setCell (by show w.heap.size<=w.heap.size+1+1;omega) _).setCell (by show w.heap.size<=w.heap.size+1+1+1;omega) _).setCell (by show w.heap.size<=w.heap.size+1+1+1;omega) _
   have bG:=Kh (And.intro z5 z6);have gS:=Kh cB;have gY:=Kh V;have HE:=Kh (And.intro E0 (And.intro E1 (And.intro E2 E3)));clear z5 z6 cB V E0 E1 E2 E3 V2 V3 cF O bC bE I bB M U aD aK;go_wp2;rw[gY.1];obtain⟨E0,E1,E2,E3⟩:=HE.1;try simp only[Exit.inBlock,Exit.then]
   refine bodyPost_ret (by simp[results,results170,go_sem,E0,E1,E2,E3];try rfl) rfl ?_;exact⟨⟨s5,p5,n5,c5,s6,p6,n6,c6,rfl,bG.1.1,bG.1.2⟩,gS.1⟩
  | true=>
   have cC:=Kh (show x / y=sg (!t) Q by rw[dE];cases t <;> rfl)
   obtain rfl:k2=0:=by
    rcases Nat.eq_zero_or_pos k2 with h1|h1
    ·exact h1
    ·exact absurd ⟨rfl,h1⟩ hcase
   clear dE hcase;have J:=Bx (!t) p1 c1 k1 rq w1 Y.1.1 (by omega);rw[Y.1.2,<-cC.1]at J;replace J:=Kh J;have M:=λw5 (hb:Below w1.heap.size w1 w5)=>Bx false p2 c2 0 rr w5 (Z.1.1.keep hb) (by omega)
   simp only[Z.1.2,Cp,<-cT.1]at M;replace M:=Kh M;clear Y Z cC cT;go_wp2_with fail
   refine J.1.mono ?_;rintro e w5 ⟨⟨s5,p5,n5,c5,rfl,cD⟩,cA⟩;have I:=Kh cA;have bC:=Kh cD;clear cD cA J;go_wp2_with fail
   refine(M.1 _ I.1).mono ?_;rintro e w6 ⟨⟨s6,p6,n6,c6,rfl,cF⟩,O⟩;have bE:=Kh (bC.1.keep O);have V2:=(aD.1.next I.1).next O
   have V3:=(aK.1.next I.1).next O
   have bB:=Kh ((U.1.trans (I.1.mono U.1.size)).trans (O.mono (mH U.1.size I.1.size)));obtain⟨⟨u0,nJ⟩,⟨u1,nK⟩⟩:=V2.cells;obtain⟨⟨u2,hu2⟩,⟨u3,nL⟩⟩:=V3.cells;have f0:=V2.free 0;have f1:=V2.free 1;have f2:=V3.free 0;have f3:=V3.free 1;obtain⟨w7,V⟩:∃w7,(((w6.setCell ⟨w.heap.size+1+1,0,none⟩ (.bool s5)).setCell ⟨w.heap.size+1+1,1,none⟩ (.slice p5 n5 c5)).setCell ⟨w.heap.size+1+1+1,0,none⟩ (.bool s6)).setCell ⟨w.heap.size+1+1+1,1,none⟩ (.slice p6 n6 c6)=w7:=⟨_,rfl⟩
   obtain⟨E0,E1,E2,E3,z5,z6⟩:=put4 V2 V3 (by omega) bE.1 cF V
   have cB:Below w.heap.size w w7:=by
    rw[<-V];exact(((bB.1.setCell (by show w.heap.size<=w.heap.size+1+1;omega) _).setCell (by show w.heap.size<=w.heap.size+1+1;omega) _).setCell (by show w.heap.size<=w.heap.size+1+1+1;omega) _).setCell (by show w.heap.size<=w.heap.size+1+1+1;omega) _
   have bG:=Kh (And.intro z5 z6);have gS:=Kh cB;have gY:=Kh V;have HE:=Kh (And.intro E0 (And.intro E1 (And.intro E2 E3)));clear z5 z6 cB V E0 E1 E2 E3 V2 V3 cF O bC bE I bB M U aD aK;go_wp2;rw[gY.1];obtain⟨E0,E1,E2,E3⟩:=HE.1;try simp only[Exit.inBlock,Exit.then]
   refine bodyPost_ret (by simp[results,results170,go_sem,E0,E1,E2,E3];try rfl) rfl ?_;exact⟨⟨s5,p5,n5,c5,s6,p6,n6,c6,rfl,bG.1.1,bG.1.2⟩,gS.1⟩
def fS (w':World) (e:Ending) (q:Int):Prop:=∃s p n c,e=.returned (.tuple #[.agg #[.bool s,.slice p n c],.int .i64 0])/\Zs w' s p n c q
theorem R0 (s:Bool) (p:Option Addr) (n c:Nat) (x:Int) (t:Bool) (q:Option Addr) (m d:Nat) (y:Int) (w:World) (h:Zr w s p n c x) (h':Zr w t q m d y) (hn:n<=17592186044400) (hm:m<=17592186044400) (hy:y≠0) (hd:x % y=0):
  Calls prog 136 #[.agg #[.bool s,.slice p n c],.agg #[.bool t,.slice q m d]] w λe w'=>fS w' e (x / y)/\Below w.heap.size w w':=by
 have hC:=λw1 (hb:Below w.heap.size w w1)=>Vk s p n c x t q m d y w1 (h.keep hb) (h'.keep hb) hn hm hy
 rw[hd]at hC;have HC:=Kh hC;clear hC h h' hd hy;go_enter func136,ntmps136
 go_wp2_with fail
 obtain⟨w0,aK,X0,X1,X2,aD⟩:=Rw w #[.bool s,.slice p n c] 84 #[.bool t,.slice q m d] 84 #[.bool false,.slice none 0 0] 84;rw[aK];have J:=Kh (Var2.of X2 (NotInt.bool _) (NotInt.slice _ _ _));have M:=Kh aD;clear aK X0 X1 X2 aD;refine(HC.1 _ M.1).mono ?_;rintro e w1 ⟨⟨s5,p5,n5,Z,s6,p6,n6,c6,rfl,Y,aN⟩,U⟩;obtain rfl:n6=0:=aN.2.1.symm;have bH:=Kh Y;replace J:=Kh (J.1.next U);have O:=bt M U;obtain⟨wa,cC⟩:∃wa,(w1.alloc (.cells #[.bool s5,.slice p5 n5 Z] 84)).alloc (.cells #[.bool s6,.slice p6 0 c6] 84)=wa:=⟨_,rfl⟩
 obtain⟨Y0,Y1,I⟩:=Oc w1 #[.bool s5,.slice p5 n5 Z] 84 #[.bool s6,.slice p6 0 c6] 84;rw[cC]at Y0 Y1 I;have a0:=Y0.at_ 0 rfl;have a1:=Y0.at_ 1 rfl;have a2:=Y1.at_ 0 rfl;have a3:=Y1.at_ 1 rfl;have V:=J.1.next I
 obtain⟨⟨u0,cA⟩,⟨u1,cB⟩⟩:=V.cells;have f0:=V.free 0;have f1:=V.free 1;have HZ:=Kh ((Y.keep I).put2 V.sts 0 1 (.bool s5) (.slice p5 n5 Z) (NotInt.bool _));have HB:=Kh (((O.1.trans (I.mono O.1.size)).setCell (show w.heap.size<=(⟨w.heap.size+1+1,0,none⟩:Addr).block by show w.heap.size<=w.heap.size+1+1;omega) (.bool s5)).setCell (show w.heap.size<=(⟨w.heap.size+1+1,1,none⟩:Addr).block by show w.heap.size<=w.heap.size+1+1;omega) (.slice p5 n5 Z));clear Y aN U HC M J bH O Y0 Y1 I V;go_wp2;refine bodyPost_ret (by simp[results,results136,go_sem,cA,cB];try rfl) rfl ?_;exact⟨⟨s5,p5,n5,Z,rfl,HZ.1⟩,HB.1⟩
end
theorem Hb {n d:Int} (I:0<d):(Rat.divInt n d).num=n / (Int.gcd n d:Nat):=by
 rw[Rat.num_divInt,Int.sign_eq_one_of_pos I,Int.one_mul,Int.gcd_comm]
theorem Ha {n d:Int} (I:0<d):((Rat.divInt n d).den:Int)=d / (Int.gcd n d:Nat):=by
 rw[Rat.den_divInt,if_neg (by omega),Int.gcd_comm,Int.natCast_ediv,Int.natAbs_of_nonneg (by omega)]
theorem Xn (n d:Int):Rat.divInt (-n) (-d)=Rat.divInt n d:=Rat.neg_divInt_neg n d
theorem Hc (n:Int):(Rat.divInt n 1).num=n/\(Rat.divInt n 1).den=1:=by
 constructor
 ·rw[Hb (by decide)];simp
 ·have:=Ha (n:=n) (d:=1) (by decide)
  simp at this;omega
theorem Mb (d:Int):Rat.divInt 0 d=0:=Rat.zero_divInt d
theorem B7 (q:Rat):Rat.divInt q.num q.den=q:=Rat.num_divInt_den q
theorem lF (a b:Rat):a+b=Rat.divInt (a.num*b.den+b.num*a.den) (a.den*b.den):=by
 rw[Rat.add_def',<-Rat.divInt_ofNat,Int.natCast_mul]
theorem bI (a b:Rat):a*b=Rat.divInt (a.num*b.num) (a.den*b.den):=by
 rw[Rat.mul_def',<-Rat.divInt_ofNat,Int.natCast_mul]
theorem Ns (m n:Int):Rat.divInt m 1+Rat.divInt n 1=Rat.divInt (m+n) 1:=by
 rw[Rat.divInt_add_divInt m n (by decide) (by decide)];simp
theorem eZ (n d:Int):(Rat.divInt n d).num.natAbs<=n.natAbs:=by
 rw[Rat.num_divInt];refine mH (Int.natAbs_ediv_le_natAbs _ _) ?_;rw[Int.natAbs_mul]
 have:d.sign.natAbs<=1:=by
  rcases Int.lt_trichotomy d 0 with h|h|h
  ·rw[Int.sign_eq_neg_one_of_neg h];decide
  ·rw[h];decide
  ·rw[Int.sign_eq_one_of_pos h];decide
 have:=Nat.mul_le_mul_right n.natAbs this;omega
theorem eI {n d:Int} (h:d≠0):(Rat.divInt n d).den<=d.natAbs:=by
 rw[Rat.den_divInt,if_neg h];exact Nat.div_le_self _ _
def hq (q:Rat):Nat:=max (nd q.num.natAbs) (nd q.den)
theorem En (q:Rat):nd q.num.natAbs<=hq q:=Nat.le_max_left _ _
theorem Ff (q:Rat):nd q.den<=hq q:=Nat.le_max_right _ _
theorem Cz {n d:Int} {K:Nat} (h:d≠0) (hn:nd n.natAbs<=K) (I:nd d.natAbs<=K):hq (Rat.divInt n d)<=K:=
 Nat.max_le.2 ⟨mH (Bm (eZ n d)) hn,mH (Bm (eI h)) I⟩
theorem Fc (q:Rat):(q.den:Int)≠0:=by have:=q.den_nz;omega
theorem Cc (a b:Rat):hq (a*b)<=hq a+hq b:=by
 rw[bI];refine Cz (Int.mul_ne_zero (Fc a) (Fc b)) ?_ ?_
 ·rw[Int.natAbs_mul]
  have:=Cd a.num.natAbs b.num.natAbs;have:=En a;have:=En b;omega
 ·rw[Int.natAbs_mul,Int.natAbs_natCast,Int.natAbs_natCast]
  have:=Cd a.den b.den;have:=Ff a;have:=Ff b;omega
theorem Gl (a b:Int) {K:Nat} (M:nd a.natAbs<=K) (O:nd b.natAbs<=K):nd (a+b).natAbs<=K+1:=by
 have I:=Bm (Int.natAbs_add_le a b);have J:=lO a.natAbs b.natAbs;omega
theorem Nc (a b:Rat):hq (a+b)<=hq a+hq b+1:=by
 rw[lF];have I:=En a;have M:=En b;have J:=Ff a;have O:=Ff b;refine Cz (Int.mul_ne_zero (Fc a) (Fc b)) ?_ ?_
 ·refine Gl _ _ ?_ ?_
  ·rw[Int.natAbs_mul,Int.natAbs_natCast];have:=Cd a.num.natAbs b.den;omega
  ·rw[Int.natAbs_mul,Int.natAbs_natCast];have:=Cd b.num.natAbs a.den;omega
 ·rw[Int.natAbs_mul,Int.natAbs_natCast,Int.natAbs_natCast]
  have:=Cd a.den b.den;omega
section
open Go.RowKit Tryz
def Qr (w:World) (s:Bool) (p:Option Addr) (n c:Nat) (t:Bool) (q:Option Addr) (m d:Nat) (r:Rat):Prop:=∃x y,Zr w s p n c x/\Zr w t q m d y/\Rat.divInt x y=r
def Qs (w:World) (s:Bool) (p:Option Addr) (n c:Nat) (t:Bool) (q:Option Addr) (m d:Nat) (r:Rat):Prop:=Zs w s p n c r.num/\Zs w t q m d r.den
theorem Qr.keep {w w':World} {s:Bool} {p:Option Addr} {n c:Nat} {t:Bool} {q:Option Addr} {m d:Nat} {r:Rat} (h:Qr w s p n c t q m d r) (I:Below w.heap.size w w'):Qr w' s p n c t q m d r:=by
 obtain⟨x,y,J,M,O⟩:=h;exact⟨x,y,J.keep I,M.keep I,O⟩
theorem Qs.keep {w w':World} {s:Bool} {p:Option Addr} {n c:Nat} {t:Bool} {q:Option Addr} {m d:Nat} {r:Rat} (h:Qs w s p n c t q m d r) (I:Below w.heap.size w w'):Qs w' s p n c t q m d r:=⟨h.1.keep I,h.2.keep I⟩
theorem Qs.raw {w:World} {s:Bool} {p:Option Addr} {n c:Nat} {t:Bool} {q:Option Addr} {m d:Nat} {r:Rat} (h:Qs w s p n c t q m d r):Qr w s p n c t q m d r:=
 ⟨_,_,h.1.raw,h.2.raw,B7 r⟩
theorem Qs.sizes {w:World} {s:Bool} {p:Option Addr} {n c:Nat} {t:Bool} {q:Option Addr} {m d:Nat} {r:Rat} (h:Qs w s p n c t q m d r):n<=hq r/\m<=hq r:=by
 have J:=h.1.2.1;have I:=h.2.2.1;rw[Int.natAbs_natCast]at I;rw[<-J,<-I];exact⟨En r,Ff r⟩
def Gr (w':World) (e:Ending) (r:Rat):Prop:=∃s p n c t q m d,e=.returned (.agg #[.bool s,.slice p n c,.bool t,.slice q m d])/\Qs w' s p n c t q m d r
def dD (e:Ending) (z:Int):Prop:=∃b:Bool,e=.returned (.bool b)/\(b=true->z=1)
theorem R6 (s:Bool) (p:Option Addr) (n c:Nat) (z:Int) (w:World) (h:Zr w s p n c z) (hn:n<=35184372088830):
  Calls prog 81 #[.agg #[.bool s,.slice p n c]] w λe w'=>dD e z/\Below w.heap.size w w':=by
 obtain⟨a,J,O⟩:=h;have HZ:=Kh O;have U:=Kh (λo=>(Below.refl w.heap.size w).alloc (mG _) o);by_cases h1:n=1
 ·subst h1
  obtain⟨g,o,rfl,hg,V⟩:=J.head (by omega)
  have I:∀Y,(w.alloc Y).cell? ⟨g,o,none⟩=some (.int .u32 (a 0:Nat)):=λY=>by
   exact Lib.cell?_alloc_some Y (V 0 (by omega))
  obtain⟨x,M⟩:∃x,a 0=x:=⟨_,rfl⟩
  rw[M]at I;have HX:=Kh M;by_cases hx1:x=1
  ·subst hx1
   cases s with
   | false=>
    have Z:=Kh (show z=1 by rw[<-HZ.1,Cp,vf,vf,HX.1];rfl);clear J O V M;go_enter func81,ntmps81
    go_wp2;go_ret;exact⟨⟨true,rfl,λ_=>Z.1⟩,U.1 _⟩
   | true=>
    clear J O V M;go_enter func81,ntmps81
    go_wp2;go_ret;exact⟨⟨false,rfl,λh=>by cases h⟩,U.1 _⟩
  ·have aX:((x:Int)==1)=false:=beq_eq_false_iff_ne.2 (by omega)
   clear J O V M;go_enter func81,ntmps81
   go_wp2;go_ret;exact⟨⟨false,rfl,λh=>by cases h⟩,U.1 _⟩
 ·have aN:((n:Int)==1)=false:=beq_eq_false_iff_ne.2 (by omega)
  clear J O;go_enter func81,ntmps81
  go_wp2;go_ret;exact⟨⟨false,rfl,λh=>by cases h⟩,U.1 _⟩
end
end Go.Proofs.YtenlbhlllgppmaaGreatDoor
