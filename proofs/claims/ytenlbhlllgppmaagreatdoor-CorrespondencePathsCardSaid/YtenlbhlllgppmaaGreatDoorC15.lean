/- Contract of paths.linear. -/
import Derived.Test.YtenlbhlllgppmaaGreatDoorC14
set_option linter.unusedSimpArgs false
set_option maxRecDepth 100000
set_option maxHeartbeats 8000000
namespace Go.Proofs.YtenlbhlllgppmaaGreatDoor
open Go.RowKit Tryz
/-! The contracts of the fractions' functions,for normalized arguments -/
theorem Co (s:Bool) (p:Option Addr) (n c:Nat) (t:Bool) (q:Option Addr) (m d:Nat) (x:Rat) (U:Bool) (p':Option Addr) (O I:Nat) (V:Bool) (q':Option Addr) (M J:Nat) (y:Rat) (w:World) (h:Qs w s p n c t q m d x) (E:Qs w U p' O I V q' M J y) (hx:hq x<=1000000000) (hy:hq y<=1000000000):
  Calls prog 44 #[.agg #[.bool s,.slice p n c,.bool t,.slice q m d],.agg #[.bool U,.slice p' O I,.bool V,.slice q' M J]] w λe w'=>F6 w' e (x*y)/\Below w.heap.size w w':=by
 have Z:=Wx s p n c x.num t q m d x.den U p' O I y.num V q' M J y.den w h.1.raw h.2.raw E.1.raw E.2.raw (by have:=h.sizes;omega) (by have:=h.sizes;omega) (by have:=E.sizes;omega) (by have:=E.sizes;omega);rw[Bj,Bj]at Z;exact Z
theorem bN (s:Bool) (p:Option Addr) (n c:Nat) (t:Bool) (q:Option Addr) (m d:Nat) (x:Rat) (U:Bool) (p':Option Addr) (O I:Nat) (V:Bool) (q':Option Addr) (M J:Nat) (y:Rat) (w:World) (h:Qs w s p n c t q m d x) (E:Qs w U p' O I V q' M J y) (hx:hq x<=1000000000000) (hy:hq y<=1000000000000):
  Calls prog 44 #[.agg #[.bool s,.slice p n c,.bool t,.slice q m d],.agg #[.bool U,.slice p' O I,.bool V,.slice q' M J]] w λe w'=>F6 w' e (x*y)/\Below w.heap.size w w':=by
 have Z:=Wx s p n c x.num t q m d x.den U p' O I y.num V q' M J y.den w h.1.raw h.2.raw E.1.raw E.2.raw (by have:=h.sizes;omega) (by have:=h.sizes;omega) (by have:=E.sizes;omega) (by have:=E.sizes;omega);rw[Bj,Bj]at Z;exact Z
theorem Fp (s:Bool) (p:Option Addr) (n c:Nat) (t:Bool) (q:Option Addr) (m d:Nat) (x:Rat) (U:Bool) (p':Option Addr) (O I:Nat) (V:Bool) (q':Option Addr) (M J:Nat) (y:Rat) (w:World) (h:Qs w s p n c t q m d x) (E:Qs w U p' O I V q' M J y) (hx:hq x<=1000000000) (hy:hq y<=1000000000):
  Calls prog 39 #[.agg #[.bool s,.slice p n c,.bool t,.slice q m d],.agg #[.bool U,.slice p' O I,.bool V,.slice q' M J]] w λe w'=>F6 w' e (x+y)/\Below w.heap.size w w':=by
 have Z:=Ww s p n c x.num t q m d x.den U p' O I y.num V q' M J y.den w h.1.raw h.2.raw E.1.raw E.2.raw (by have:=h.sizes;omega) (by have:=h.sizes;omega) (by have:=E.sizes;omega) (by have:=E.sizes;omega) (Fc x) (Fc y);rw[Bj,Bj]at Z;exact Z
def QAt (L:Nat->Rat) (k:Nat) (r:Rat) (w:World) (g N:Nat):Prop:=QRow (λj=>IsQ (if j=k then r else L j)) w g N (k+1)
theorem QAt.keep {L:Nat->Rat} {k:Nat} {r:Rat} {w w':World} {g N:Nat} (h:QAt L k r w g N) (E:Below w.heap.size w w'):QAt L k r w' g N:=QRow.keep (λ_=>IsQ.solid _) h E
theorem QAt.set {L:Nat->Rat} {k:Nat} {r:Rat} {w:World} {g N:Nat} (h:QRow (λj=>IsQ (L j)) w g N k) (I:k<N) {s:Bool} {p:Option Addr} {n c:Nat} {t:Bool} {q:Option Addr} {m d:Nat} (hq:Qs w s p n c t q m d r):
  QAt L k r ((((w.setCell ⟨g,k*4,none⟩ (.bool s)).setCell ⟨g,k*4+1,none⟩ (.slice p n c)).setCell ⟨g,k*4+2,none⟩ (.bool t)).setCell ⟨g,k*4+3,none⟩ (.slice q m d)) g N:=
 QRow.set (λ_=>IsQ.solid _) h k I _ (IsQ.solid _) (λi J E=>⟨by omega,by rw[if_neg E]⟩) (show IsQ (if k=k then r else L k) w s p n c t q m d by rw[if_pos rfl];exact hq)
theorem QAt.upd {L:Nat->Rat} {k:Nat} {r M:Rat} {w:World} {g N:Nat} (h:QAt L k M w g N) (J:k<N) {s:Bool} {p:Option Addr} {n c:Nat} {t:Bool} {q:Option Addr} {m d:Nat} (hq:Qs w s p n c t q m d r):
  QAt L k r ((((w.setCell ⟨g,k*4,none⟩ (.bool s)).setCell ⟨g,k*4+1,none⟩ (.slice p n c)).setCell ⟨g,k*4+2,none⟩ (.bool t)).setCell ⟨g,k*4+3,none⟩ (.slice q m d)) g N:=
 QRow.set (λ_=>IsQ.solid _) h k J _ (IsQ.solid _) (λi I E=>⟨I,by rw[if_neg E,if_neg E]⟩) (show IsQ (if k=k then r else L k) w s p n c t q m d by rw[if_pos rfl];exact hq)
theorem QAt.done {L:Nat->Rat} {k:Nat} {r:Rat} {w:World} {g N:Nat} (h:QAt L k r w g N) (e:r=L k):QRow (λj=>IsQ (L j)) w g N (k+1):=
 QRow.congr h (λj _=>by
  by_cases hj:j=k
  ·rw[if_pos hj,hj,e]
  ·rw[if_neg hj])
theorem QAt.elem {L:Nat->Rat} {k:Nat} {r:Rat} {w:World} {g N:Nat} (h:QAt L k r w g N):QE (IsQ r) w g (k*4):=by
 have E:=QRow.val h k (nO k)
 simpa using E
theorem Af {w:World} {a:Addr} {v:Value} (h:w.cell? a=some v):cellOf w a=v:=by unfold cellOf;rw[h];rfl
def Cells4 (w:World) (g i:Nat) (s:Bool) (p:Option Addr) (n c:Nat) (t:Bool) (q:Option Addr) (m d:Nat):Prop:=
 w.cell? ⟨g,i,none⟩=some (.bool s)/\w.cell? ⟨g,i+1,none⟩=some (.slice p n c)/\w.cell? ⟨g,i+2,none⟩=some (.bool t)/\w.cell? ⟨g,i+3,none⟩=some (.slice q m d)
theorem Cells4.keep {w w':World} {g i:Nat} {s:Bool} {p:Option Addr} {n c:Nat} {t:Bool} {q:Option Addr} {m d:Nat} (h:Cells4 w g i s p n c t q m d) (I:Below w.heap.size w w'):Cells4 w' g i s p n c t q m d:=by
 have E:∀j v,w.cell? ⟨g,j,none⟩=some v->w'.cell? ⟨g,j,none⟩=some v:=λj v e=>(I.cell (p:=⟨g,j,none⟩) (World.block_lt_of_cell? w ⟨g,j,none⟩ e)).trans e
 exact⟨E _ _ h.1,E _ _ h.2.1,E _ _ h.2.2.1,E _ _ h.2.2.2⟩
theorem A3 {g:Nat} {w w':World} (h:Below g w w') {i j k l:Nat} {v0 v1 v2 v3:Value}:Below g w ((((w'.setCell ⟨g,i,none⟩ v0).setCell ⟨g,j,none⟩ v1).setCell ⟨g,k,none⟩ v2).setCell ⟨g,l,none⟩ v3):=
 (((h.setCell (p:=⟨g,i,none⟩) (nL _) v0).setCell (p:=⟨g,j,none⟩) (nL _) v1).setCell (p:=⟨g,k,none⟩) (nL _) v2).setCell (p:=⟨g,l,none⟩) (nL _) v3
theorem Below.mono2 {B:Nat} {w w':World} (e:w.heap.size=B) (h:Below B w w'):Below w.heap.size w w':=by rw[e];exact h
theorem kJ {n i:Nat} {v:Value} (h:(madeCells #[.bool false,.slice none 0 0,.bool false,.slice none 0 0] n)[i]?=some v):NotInt v:=by
 unfold madeCells at h;simp only[Array.getElem?_map,Array.getElem?_range]at h;split at h
 ·simp only[Option.map_some]at h
  injection h with h
  rw[<-h];have I:=Nat.mod_lt i (show 0<4 by decide);have E:i % 4=0∨i % 4=1∨i % 4=2∨i % 4=3:=by omega
  show NotInt ((#[.bool false,.slice none 0 0,.bool false,.slice none 0 0]:Array Value)[i % 4]!);rcases E with E|E|E|E <;> rw[E] <;> first|exact NotInt.bool _|exact NotInt.slice _ _ _
 ·cases h
theorem QRow.made (F:Nat->FP) (w:World) (n:Nat):QRow F (w.alloc (.cells (madeCells #[.bool false,.slice none 0 0,.bool false,.slice none 0 0] (n*4)) 86)) w.heap.size n 0:=by
 have E:=Blk.new w 86 (madeCells #[.bool false,.slice none 0 0,.bool false,.slice none 0 0] (n*4));refine⟨Sts.of E ?_,λi _=>E.free_ i,λi I=>?_,λj J=>absurd J (Nat.not_lt_zero _)⟩
 ·intro v M
  obtain⟨i,I⟩:=Array.getElem?_of_mem M;exact kJ I
 ·rw[E.cell_ i,Array.getElem?_eq_getElem (by rw[size_madeCells];exact I)];rfl
theorem G4 (n:Nat) (h:n<=1000000) (w:World):
  (Instr.makeSlice 30 (.int .i64 (n:Int)) (.int .i64 (n:Int))).run prog w=.ok (.slice (some ⟨w.heap.size,0,none⟩) n n) (w.alloc (.cells (madeCells #[.bool false,.slice none 0 0,.bool false,.slice none 0 0] (n*4)) 86)):=by
 obtain⟨i,M,E,I,J⟩:=info_parts F4;have hr:=run_make (P:=prog) w 30 86 i _ underlying30 M E .i64 .i64 n n (by omega) (Int.le_refl _) (by rw[J];omega) (by omega);rw[Int.toNat_natCast,I]at hr;exact hr
def Fg (a b:Int) (f:Nat->Rat) (n j:Nat):Rat:=(if 0<j then(a:Rat)*f (j - 1)else 0)+(if j<n then(b:Rat)*f j else 0)
theorem Ot (v:Value) (n:Nat) (f:Nat->Rat) (a b:Int) (w:World) (h:QL (λj=>IsQ (f j)) w v n) (h0:0<n) (hn:n<=1000) (ha:-1073741824<=a) (pI:a<=1073741824) (hb:-1073741824<=b) (pJ:b<=1073741824) (hf:∀j,j<n->hq (f j)<=100000000):
  Calls prog 119 #[v,.int .i64 a,.int .i64 b] w λe w'=>(∃g,e=.returned (.slice (some ⟨g,0,none⟩) ((n+1:Nat)) ((n+1:Nat)))/\w.heap.size<=g/\QRow (λj=>IsQ (Fg a b f n j)) w' g (n+1) (n+1))/\Below w.heap.size w w':=by
 obtain⟨g1,o1,l1,rfl,gI,r1⟩:=h.resolve_left (λh=>by omega);have R1:=Kh r1;have HF:=Kh hf;have HA:=Kh (λI=>Du a I (by omega) (by omega));have mD:=Kh (λI=>Du b I (by omega) (by omega));have nB:=Kh (show hq (a:Rat)<=10 by rw[Dw];have:=Bf.2 (show a.natAbs<4294967296 ^ 2 by omega);omega);have nC:=Kh (show hq (b:Rat)<=10 by rw[Dw];have:=Bf.2 (show b.natAbs<4294967296 ^ 2 by omega);omega);obtain⟨N,hN⟩:∃N,n+1=N:=⟨_,rfl⟩
 have qL:(n:Int)+1=(N:Nat):=by omega
 have pK:=G4 N (by omega);rw[hN];clear h r1 hf ha pI hb pJ;go_enter func119,ntmps119
 go_wp2_with fail
 refine(HA.1 w).mono ?_;rintro e I ⟨⟨s1,p1,n1,c1,t1,q1,m1,d1,rfl,oD⟩,nZ⟩;have nA:=Kh oD;have mC:=Kh nZ;clear oD nZ HA;go_wp2_with fail
 refine(mD.1 I).mono ?_;rintro e w2 ⟨⟨s2,p2,n2,c2,t2,q2,m2,d2,rfl,oE⟩,hQ⟩;have hL:=Kh (And.intro (nA.1.keep hQ) oE);have hH:=bt mC hQ;clear oE hQ mD mC nA;go_upto_region 3 with(fail)
 obtain⟨wm,gL⟩:∃wm,(w2.alloc (.cells #[.bool s1,.slice p1 n1 c1,.bool t1,.slice q1 m1 d1] 86)).alloc (.cells #[.bool s2,.slice p2 n2 c2,.bool t2,.slice q2 m2 d2] 86)=wm:=⟨_,rfl⟩
 obtain⟨X0,X1,aK⟩:=T8 w2 #[.bool s1,.slice p1 n1 c1,.bool t1,.slice q1 m1 d1] 86 #[.bool s2,.slice p2 n2 c2,.bool t2,.slice q2 m2 d2] 86;rw[gL]at X0 X1 aK;have bB:wm.heap.size=w2.heap.size+1+1:=by rw[<-gL];simp
 have eP:=Kh (QRow.made (λj=>IsQ (Fg a b f n j)) wm N);obtain⟨wn,gN⟩:∃wn,wm.alloc (.cells (madeCells #[.bool false,.slice none 0 0,.bool false,.slice none 0 0] (N*4)) 86)=wn:=⟨_,rfl⟩
 have hI:=Kh (show Below wm.heap.size wm wn from gN▸(Below.refl _ _).alloc (nL _) _);rw[gN]at eP;rw[gL,gN];have cT:=hH.1.trans (aK.mono hH.1.size);have HW:=Kh cT;have pG:=Kh (hL.1.1.keep aK);have pH:=Kh (hL.1.2.keep aK);have hJ:=Kh (nN gI cT.size);have HR:=Kh (λj (hj:j<n)=>QE.keep (IsQ.solid _) (R1.1 j hj) cT);obtain⟨gx,hS⟩:∃gx,w2.heap.size=gx:=⟨_,rfl⟩
 obtain⟨gy,hT⟩:∃gy,gx+1=gy:=⟨_,rfl⟩
 obtain⟨g,hg⟩:∃g,gy+1=g:=⟨_,rfl⟩
 rw[hS,hT,hg]at bB ⊢;rw[hS]at X0 X1;rw[hT]at X1;rw[bB]at hI eP hJ;have eX:=Kh X0;have eY:=Kh X1;have oB:w.heap.size<=g:=by have:=cT.size;omega
 have gP:gx<g:=by omega
 have gS:gy<g:=by omega
 clear X0 X1 aK cT gL gN hL hH hS hT hg pK gI R1;go_wp2;go_loopw [21] (λi wr=>∃k:Nat,k<=N/\i=.int .i64 k/\QRow (λj=>IsQ (Fg a b f n j)) wr g N k/\Below g wm wr) (λi _=>N - (intOf i).toNat)
 case atStart=>exact⟨0,Nat.zero_le _,rfl,eP.1,hI.1⟩
 case round=>
  obtain⟨k,hk,rfl,hG,oA⟩:=hrel;have cS:=Kh hG;have eF:=Kh oA;clear hG oA hI eP;by_cases hlt:k<N
  ·go_upto_region 6 with(fail)
   go_cut []from 24 to 27 (λwd=>QAt (Fg a b f n) k 0 wd g N/\Below g wm wd)
   case first=>
    go_wp2_with fail
    refine(Du 0 wr (by omega) (by omega)).mono ?_;rintro e w3 ⟨⟨s3,p3,n3,c3,t3,q3,m3,d3,rfl,oF⟩,Z⟩;have bA:=QRow.keep (λ_=>IsQ.solid _) cS.1 Z;have aD:=Kh (QAt.set bA hlt oF);have aN:=Kh (eF.1.trans (Z.mono (nM (Nat.le_of_eq bB.symm) eF.1.size)));obtain⟨u0,qP⟩:=nP (bA.has (k*4) (by omega));obtain⟨u1,hU⟩:=nP (bA.has (k*4+1) (by omega));obtain⟨u2,hu2⟩:=nP (bA.has (k*4+2) (by omega));obtain⟨u3,qQ⟩:=nP (bA.has (k*4+3) (by omega));have f0:=bA.free (k*4) (by omega);have f1:=bA.free (k*4+1) (by omega);have f2:=bA.free (k*4+2) (by omega);have f3:=bA.free (k*4+3) (by omega);clear oF Z bA;go_wp2;go_meet
    exact⟨aD.1,A3 aN.1⟩
   case rest=>
    obtain⟨cX,M⟩:=hcut;obtain⟨E,rfl⟩:∃E:World,E=wc:=⟨_,rfl⟩
    have aD:=Kh cX;have O:=Kh M;clear cX M cS eF;go_upto_if 29 with(fail)
    obtain⟨u1,hU⟩:∃u1,(if 0<k then(a:Rat)*f (k - 1)else 0)=u1:=⟨_,rfl⟩
    have cC:=Kh hU;clear hU;go_cut []from 29 to 39 (λwd=>QAt (Fg a b f n) k u1 wd g N/\Below g wm wd)
    case first=>
     by_cases hk0:0<k
     ·obtain⟨k1,oC⟩:∃k1,k=k1+1:=⟨k - 1,by omega⟩
      have HU:=Kh (show(a:Rat)*f k1=u1 by rw[<-cC.1,if_pos hk0,oC,Nat.add_sub_cancel]);have M:=O.1;have aK:=Below.mono2 bB M;obtain⟨s',p',i1,c',t',q',m',d',a0,a1,a2,a3,hx⟩:=(HR.1 k1 (by omega)).keep (IsQ.solid _) aK;have HP:=Kh (show Qs E s' p' i1 c' t' q' m' d' (f k1)from hx);have x0:=(eX.1.below_ M gP).at_ 0 rfl;have x1:=(eX.1.below_ M gP).at_ 1 rfl;have x2:=(eX.1.below_ M gP).at_ 2 rfl;have x3:=(eX.1.below_ M gP).at_ 3 rfl;have HX:=Kh (pG.1.keep aK);have cI:=Kh (λI (hb:Below E.heap.size E I)=>Co s1 p1 n1 c1 t1 q1 m1 d1 (a:Rat) s' p' i1 c' t' q' m' d' (f k1) I (HX.1.keep hb) (HP.1.keep hb) (by have:=nB.1;omega) (by have:=HF.1 k1 (by omega);omega));rw[HU.1]at cI;have pZ:(k:Int) - 1=(k1:Nat):=by omega
      have pY:k1<n:=by omega
      have pX:(k1:Int)<(n:Int):=by omega
      have qO:IntKind.i64.wrap (k1:Int)=(k1:Nat):=IntWalk.i64_in _ (by omega);have pW:(0:Int)<=(k1:Int):=by omega
      have gI:=hJ.1;have J:=aD.1;unfold QAt at J;clear hx M aK HX HP oC HU cC;go_upto_region 8 with(fail)
      have hO:E.drew.cell? ⟨gx,0,none⟩=some (.bool s1)/\E.drew.cell? ⟨gx,1,none⟩=some (.slice p1 n1 c1)/\E.drew.cell? ⟨gx,2,none⟩=some (.bool t1)/\E.drew.cell? ⟨gx,3,none⟩=some (.slice q1 m1 d1)/\E.drew.cell? ⟨g1,o1+k1*4,none⟩=some (.bool s')/\E.drew.cell? ⟨g1,o1+k1*4+1,none⟩=some (.slice p' i1 c')/\E.drew.cell? ⟨g1,o1+k1*4+2,none⟩=some (.bool t')/\E.drew.cell? ⟨g1,o1+k1*4+3,none⟩=some (.slice q' m' d')/\E.drew.cell? ⟨g,k*4,none⟩=some (cellOf E.drew ⟨g,k*4,none⟩)/\E.drew.frozen? ⟨g,k*4,none⟩=false/\Sts E.drew (g)/\E.drew.cell? ⟨g,k*4+1,none⟩=some (cellOf E.drew ⟨g,k*4+1,none⟩)/\E.drew.frozen? ⟨g,k*4+1,none⟩=false/\Sts E.drew (g)/\E.drew.cell? ⟨g,k*4+2,none⟩=some (cellOf E.drew ⟨g,k*4+2,none⟩)/\E.drew.frozen? ⟨g,k*4+2,none⟩=false/\Sts E.drew (g)/\E.drew.cell? ⟨g,k*4+3,none⟩=some (cellOf E.drew ⟨g,k*4+3,none⟩)/\E.drew.frozen? ⟨g,k*4+3,none⟩=false/\Sts E.drew (g)/\Below g wm E.drew/\g<=E.drew.heap.size:=A9 (Below.refl _ E).drew ⟨x0,x1,x2,x3,a0,a1,a2,a3,Ah (J.has _ (by omega)),J.free _ (by omega),J.sts,Ah (J.has _ (by omega)),J.free _ (by omega),J.sts,Ah (J.has _ (by omega)),J.free _ (by omega),J.sts,Ah (J.has _ (by omega)),J.free _ (by omega),J.sts,O.1,nM (Nat.le_of_eq bB.symm) (Below.size O.1)⟩;clear x0 x1 x2 x3 a0 a1 a2 a3 J;have M1:True:=trivial
      go_region_held3 (λI=>I.cell? ⟨gx,0,none⟩=some (.bool s1)/\I.cell? ⟨gx,1,none⟩=some (.slice p1 n1 c1)/\I.cell? ⟨gx,2,none⟩=some (.bool t1)/\I.cell? ⟨gx,3,none⟩=some (.slice q1 m1 d1)/\I.cell? ⟨g1,o1+k1*4,none⟩=some (.bool s')/\I.cell? ⟨g1,o1+k1*4+1,none⟩=some (.slice p' i1 c')/\I.cell? ⟨g1,o1+k1*4+2,none⟩=some (.bool t')/\I.cell? ⟨g1,o1+k1*4+3,none⟩=some (.slice q' m' d')/\I.cell? ⟨g,k*4,none⟩=some (cellOf I ⟨g,k*4,none⟩)/\I.frozen? ⟨g,k*4,none⟩=false/\Sts I (g)/\I.cell? ⟨g,k*4+1,none⟩=some (cellOf I ⟨g,k*4+1,none⟩)/\I.frozen? ⟨g,k*4+1,none⟩=false/\Sts I (g)/\I.cell? ⟨g,k*4+2,none⟩=some (cellOf I ⟨g,k*4+2,none⟩)/\I.frozen? ⟨g,k*4+2,none⟩=false/\Sts I (g)/\I.cell? ⟨g,k*4+3,none⟩=some (cellOf I ⟨g,k*4+3,none⟩)/\I.frozen? ⟨g,k*4+3,none⟩=false/\Sts I (g)/\Below g wm I/\g<=I.heap.size)
       (first|with_reducible exact hO|with_reducible assumption |(refine A9 (by with_reducible assumption) ?_;assumption) |(refine D9 ?_ ?_ ?_ ?_ ?_ ?_ ?_ ?_ ?_ ?_ ?_ ?_ ?_ ?_ ?_ ?_ ?_ ?_ ?_ ?_ ?_ ?_ ?_ ?_ ?_ ?_ ?_ ?_ ?_ ?_ ?_ ?_ ?_ ?_ ?_ ?_ ?_ ?_ ?_ ?_ ?_ <;> first|assumption|exact NotInt.bool _|exact NotInt.slice _ _ _ |(dsimp only;omega) |(simp;done)))
       (first
        |(go_at_call 44;refine(cI.1 _ (by first|exact(Below.refl _ _).drew|exact Below.refl _ _)).mono ?_;rintro e w2 ⟨⟨s3,p3,n3,c3,t3,q3,m3,d3,rfl,bY⟩,Z⟩;have aX:Below E.heap.size E w2:=(by first|exact(Below.refl _ E).drew.trans Z|exact Z);have bE:=Kh ((aD.1.keep aX).upd hlt bY);have dY:=Kh (O.1.trans (aX.mono (nM (Nat.le_of_eq bB.symm) O.1.size)));clear bY aX))
      all_goals go_wp2
      all_goals go_meet
      all_goals exact⟨bE.1,A3 dY.1⟩
     ·have HU:=Kh (show 0=u1 by rw[<-cC.1,if_neg hk0])
      obtain rfl:k=0:=by omega
      go_wp2;go_meet
      exact⟨HU.1▸aD.1,O.1⟩
    case rest=>
     obtain⟨cX,M⟩:=hcut;clear aD O;obtain⟨E,rfl⟩:∃E:World,E=wc:=⟨_,rfl⟩
     have aD:=Kh cX;have O:=Kh M;clear cX M;by_cases hkn:k<n
     ·have HU:=Kh (show u1+(b:Rat)*f k=Fg a b f n k by unfold Fg;rw[cC.1,if_pos hkn])
      have nQ:=Kh (show hq u1<=200000000 by
       rw[<-cC.1];split
       ·rename_i hk0
        have h1:=Ce (a:Rat) (f (k - 1));have h2:=nB.1;have h3:=HF.1 (k - 1) (by omega);omega
       ·simp[hq,Cr,G6])
      have M:=O.1;have aK:=Below.mono2 bB M;obtain⟨s',p',i1,c',t',q',m',d',a0,a1,a2,a3,hx⟩:=(HR.1 k hkn).keep (IsQ.solid _) aK;have HP:=Kh (show Qs E s' p' i1 c' t' q' m' d' (f k)from hx);have x0:=(eY.1.below_ M gS).at_ 0 rfl;have x1:=(eY.1.below_ M gS).at_ 1 rfl;have x2:=(eY.1.below_ M gS).at_ 2 rfl;have x3:=(eY.1.below_ M gS).at_ 3 rfl;have HX:=Kh (pH.1.keep aK);have cI:=Kh (λI (hb:Below E.heap.size E I)=>Co s2 p2 n2 c2 t2 q2 m2 d2 (b:Rat) s' p' i1 c' t' q' m' d' (f k) I (HX.1.keep hb) (HP.1.keep hb) (by have:=nC.1;omega) (by have:=HF.1 k hkn;omega));obtain⟨s5,p5,n5,c5,t5,q5,m5,d5,e0,e1,e2,e3,hy⟩:=aD.1.elem;have HY:=Kh (show Qs E s5 p5 n5 c5 t5 q5 m5 d5 u1 from hy);have eG:=Kh (show Cells4 E g (k*4) s5 p5 n5 c5 t5 q5 m5 d5 from⟨e0,e1,e2,e3⟩)
      have nD:=Kh (show hq ((b:Rat)*f k)<=200000000 by
       have h1:=Ce (b:Rat) (f k);have h2:=nC.1;have h3:=HF.1 k hkn;omega)
      have qA:(k:Int)<(n:Int):=by omega
      have gI:=hJ.1;have J:=aD.1;unfold QAt at J;clear hx M aK HX HP cC hy e0 e1 e2 e3;go_upto_region 10 with(fail)
      have hO:E.drew.cell? ⟨gy,0,none⟩=some (.bool s2)/\E.drew.cell? ⟨gy,1,none⟩=some (.slice p2 n2 c2)/\E.drew.cell? ⟨gy,2,none⟩=some (.bool t2)/\E.drew.cell? ⟨gy,3,none⟩=some (.slice q2 m2 d2)/\E.drew.cell? ⟨g1,o1+k*4,none⟩=some (.bool s')/\E.drew.cell? ⟨g1,o1+k*4+1,none⟩=some (.slice p' i1 c')/\E.drew.cell? ⟨g1,o1+k*4+2,none⟩=some (.bool t')/\E.drew.cell? ⟨g1,o1+k*4+3,none⟩=some (.slice q' m' d')/\E.drew.cell? ⟨g,k*4,none⟩=some (cellOf E.drew ⟨g,k*4,none⟩)/\E.drew.frozen? ⟨g,k*4,none⟩=false/\Sts E.drew (g)/\E.drew.cell? ⟨g,k*4+1,none⟩=some (cellOf E.drew ⟨g,k*4+1,none⟩)/\E.drew.frozen? ⟨g,k*4+1,none⟩=false/\Sts E.drew (g)/\E.drew.cell? ⟨g,k*4+2,none⟩=some (cellOf E.drew ⟨g,k*4+2,none⟩)/\E.drew.frozen? ⟨g,k*4+2,none⟩=false/\Sts E.drew (g)/\E.drew.cell? ⟨g,k*4+3,none⟩=some (cellOf E.drew ⟨g,k*4+3,none⟩)/\E.drew.frozen? ⟨g,k*4+3,none⟩=false/\Sts E.drew (g)/\Below g wm E.drew/\g<=E.drew.heap.size:=A9 (Below.refl _ E).drew ⟨x0,x1,x2,x3,a0,a1,a2,a3,Ah (J.has _ (by omega)),J.free _ (by omega),J.sts,Ah (J.has _ (by omega)),J.free _ (by omega),J.sts,Ah (J.has _ (by omega)),J.free _ (by omega),J.sts,Ah (J.has _ (by omega)),J.free _ (by omega),J.sts,O.1,nM (Nat.le_of_eq bB.symm) (Below.size O.1)⟩;clear x0 x1 x2 x3 a0 a1 a2 a3 J;have M1:True:=trivial;refine wp_region_held_drew (S:=(λI=>I.cell? ⟨gy,0,none⟩=some (.bool s2)/\I.cell? ⟨gy,1,none⟩=some (.slice p2 n2 c2)/\I.cell? ⟨gy,2,none⟩=some (.bool t2)/\I.cell? ⟨gy,3,none⟩=some (.slice q2 m2 d2)/\I.cell? ⟨g1,o1+k*4,none⟩=some (.bool s')/\I.cell? ⟨g1,o1+k*4+1,none⟩=some (.slice p' i1 c')/\I.cell? ⟨g1,o1+k*4+2,none⟩=some (.bool t')/\I.cell? ⟨g1,o1+k*4+3,none⟩=some (.slice q' m' d')/\I.cell? ⟨g,k*4,none⟩=some (cellOf I ⟨g,k*4,none⟩)/\I.frozen? ⟨g,k*4,none⟩=false/\Sts I (g)/\I.cell? ⟨g,k*4+1,none⟩=some (cellOf I ⟨g,k*4+1,none⟩)/\I.frozen? ⟨g,k*4+1,none⟩=false/\Sts I (g)/\I.cell? ⟨g,k*4+2,none⟩=some (cellOf I ⟨g,k*4+2,none⟩)/\I.frozen? ⟨g,k*4+2,none⟩=false/\Sts I (g)/\I.cell? ⟨g,k*4+3,none⟩=some (cellOf I ⟨g,k*4+3,none⟩)/\I.frozen? ⟨g,k*4+3,none⟩=false/\Sts I (g)/\Below g wm I/\g<=I.heap.size)) (by kernel_rfl) ?_ (λhHeld0=>?_);focus((try dsimp only);with_reducible exact hO)
      refine Fl 0 ?_;refine Fl 1 ?_;refine Fl 2 ?_;refine Fl 3 ?_;refine Fl 4 ?_;refine Fl 6 ?_;refine Fl 7 ?_;refine Fl 8 ?_;refine Fl 9 ?_;refine Fl 10 ?_;refine Px [5,11] ?_;refine AllReadyH.cons rfl (λK hK=>?_) ?_;focus(go_simp;refine hK.out _ _ ?_ (λhHeld1=>?_))
      focus((try dsimp only);(first|with_reducible assumption |(refine A9 (by with_reducible assumption) ?_;assumption)))
      focus(clear hK K hHeld0;(try simp only[Act.put,Bn,Bp,Bo]))
      refine Px [11] ?_;refine AllReadyH.cons rfl (λK hK=>?_) ?_;focus(go_simp;(go_at_call 44;refine(cI.1 _ (by first|exact(Below.refl _ _).drew|exact Below.refl _ _)).mono ?_;rintro e w2 ⟨⟨s3,p3,n3,c3,t3,q3,m3,d3,rfl,bY⟩,Z⟩;have aN:=Kh (show Below E.heap.size E w2 from(by first|exact(Below.refl _ E).drew.trans Z|exact Z));have hM:=Kh bY;have V:=Kh (eG.1.keep aN.1);have U:=Kh (show Cells4 E.drew g (k*4) s5 p5 n5 c5 t5 q5 m5 d5 from eG.1);clear bY);(first|done|with_reducible refine hK.out _ _ ?_ (λhHeld2=>?_) |(go_wp2_with fail;with_reducible refine hK.out _ _ ?_ (λhHeld2=>?_))))
      focus((try dsimp only);(first|with_reducible assumption |(refine A9 (by with_reducible assumption) ?_;assumption)))
      focus(clear hK K hHeld1;(try simp only[Act.put,Bn,Bp,Bo]))
      refine Px [12] ?_;refine AllReadyH.cons rfl (λK hK=>?_) ?_;focus(go_simp;(go_at_call 39;(first|rw[Af V.1.1,Af V.1.2.1,Af V.1.2.2.1,Af V.1.2.2.2]|rw[Af U.1.1,Af U.1.2.1,Af U.1.2.2.1,Af U.1.2.2.2]);refine(Fp s5 p5 n5 c5 t5 q5 m5 d5 u1 s3 p3 n3 c3 t3 q3 m3 d3 ((b:Rat)*f k) _ (HY.1.keep aN.1) hM.1 (by have:=nQ.1;omega) (by have:=nD.1;omega)).mono ?_;rintro e w4 ⟨⟨s6,p6,n6,c6,t6,q6,m6,d6,rfl,dC⟩,hR⟩;have aX:Below E.heap.size E w4:=aN.1.trans (hR.mono aN.1.size);have bE:=Kh ((aD.1.keep aX).upd hlt (HU.1▸dC));have dY:=Kh (O.1.trans (aX.mono (nM (Nat.le_of_eq bB.symm) O.1.size)));clear dC aX Z);(first|done|with_reducible refine hK.out _ _ ?_ (λhHeld3=>?_) |(go_wp2_with fail;with_reducible refine hK.out _ _ ?_ (λhHeld3=>?_))))
      focus((try dsimp only);(first|with_reducible assumption |(refine A9 (by with_reducible assumption) ?_;assumption)))
      focus(clear hK K hHeld2;(try simp only[Act.put,Bn,Bp,Bo]))
      refine Fl 13 ?_;refine Px [14] ?_;refine AllReadyH.cons rfl (λK hK=>?_) ?_;focus(go_simp;refine hK.out _ _ ?_ (λhHeld4=>?_))
      focus((try dsimp only);(refine D9 ?_ ?_ ?_ ?_ ?_ ?_ ?_ ?_ ?_ ?_ ?_ ?_ ?_ ?_ ?_ ?_ ?_ ?_ ?_ ?_ ?_ ?_ ?_ ?_ ?_ ?_ ?_ ?_ ?_ ?_ ?_ ?_ ?_ ?_ ?_ ?_ ?_ ?_ ?_ ?_ ?_ <;> first|assumption|exact NotInt.bool _|exact NotInt.slice _ _ _ |(dsimp only;omega) |(simp;done)))
      focus(clear hK K hHeld3;(try simp only[Act.put,Bn,Bp,Bo]))
      focus(refine wpAnyH_done (by kernel_rfl) ?_ _)
      rotate_left
      exact AllReadyH.nil;exact AllReadyH.nil;exact AllReadyH.nil;refine AllReadyH.cons rfl (λK hK=>?_) ?_;focus(go_simp;(go_at_call 44;refine(cI.1 _ (by first|exact(Below.refl _ _).drew|exact Below.refl _ _)).mono ?_;rintro e w2 ⟨⟨s3,p3,n3,c3,t3,q3,m3,d3,rfl,bY⟩,Z⟩;have aN:=Kh (show Below E.heap.size E w2 from(by first|exact(Below.refl _ E).drew.trans Z|exact Z));have hM:=Kh bY;have V:=Kh (eG.1.keep aN.1);have U:=Kh (show Cells4 E.drew g (k*4) s5 p5 n5 c5 t5 q5 m5 d5 from eG.1);clear bY);(first|done|with_reducible refine hK.out _ _ ?_ (λhHeld1=>?_) |(go_wp2_with fail;with_reducible refine hK.out _ _ ?_ (λhHeld1=>?_))))
      focus((try dsimp only);(first|with_reducible assumption |(refine A9 (by with_reducible assumption) ?_;assumption)))
      focus(clear hK K hHeld0;(try simp only[Act.put,Bn,Bp,Bo]))
      refine Px [5] ?_;refine AllReadyH.cons rfl (λK hK=>?_) ?_;focus(go_simp;refine hK.out _ _ ?_ (λhHeld2=>?_))
      focus((try dsimp only);(first|with_reducible assumption |(refine A9 (by with_reducible assumption) ?_;assumption)))
      focus(clear hK K hHeld1;(try simp only[Act.put,Bn,Bp,Bo]))
      refine Px [12] ?_;refine AllReadyH.cons rfl (λK hK=>?_) ?_;focus(go_simp;(go_at_call 39;(first|rw[Af V.1.1,Af V.1.2.1,Af V.1.2.2.1,Af V.1.2.2.2]|rw[Af U.1.1,Af U.1.2.1,Af U.1.2.2.1,Af U.1.2.2.2]);refine(Fp s5 p5 n5 c5 t5 q5 m5 d5 u1 s3 p3 n3 c3 t3 q3 m3 d3 ((b:Rat)*f k) _ (HY.1.keep aN.1) hM.1 (by have:=nQ.1;omega) (by have:=nD.1;omega)).mono ?_;rintro e w4 ⟨⟨s6,p6,n6,c6,t6,q6,m6,d6,rfl,dC⟩,hR⟩;have aX:Below E.heap.size E w4:=aN.1.trans (hR.mono aN.1.size);have bE:=Kh ((aD.1.keep aX).upd hlt (HU.1▸dC));have dY:=Kh (O.1.trans (aX.mono (nM (Nat.le_of_eq bB.symm) O.1.size)));clear dC aX Z);(first|done|with_reducible refine hK.out _ _ ?_ (λhHeld3=>?_) |(go_wp2_with fail;with_reducible refine hK.out _ _ ?_ (λhHeld3=>?_))))
      focus((try dsimp only);(first|with_reducible assumption |(refine A9 (by with_reducible assumption) ?_;assumption)))
      focus(clear hK K hHeld2;(try simp only[Act.put,Bn,Bp,Bo]))
      refine Fl 13 ?_;refine Px [14] ?_;refine AllReadyH.cons rfl (λK hK=>?_) ?_;focus(go_simp;refine hK.out _ _ ?_ (λhHeld4=>?_))
      focus((try dsimp only);(refine D9 ?_ ?_ ?_ ?_ ?_ ?_ ?_ ?_ ?_ ?_ ?_ ?_ ?_ ?_ ?_ ?_ ?_ ?_ ?_ ?_ ?_ ?_ ?_ ?_ ?_ ?_ ?_ ?_ ?_ ?_ ?_ ?_ ?_ ?_ ?_ ?_ ?_ ?_ ?_ ?_ ?_ <;> first|assumption|exact NotInt.bool _|exact NotInt.slice _ _ _ |(dsimp only;omega) |(simp;done)))
      focus(clear hK K hHeld3;(try simp only[Act.put,Bn,Bp,Bo]))
      focus(refine wpAnyH_done (by kernel_rfl) ?_ _)
      rotate_left
      exact AllReadyH.nil;exact AllReadyH.nil;exact AllReadyH.nil;exact AllReadyH.nil;all_goals have cM:=Kh (QAt.done bE.1 rfl)
      all_goals clear bE aD O
      all_goals go_wp2
      all_goals go_roundw
      all_goals first
       | exact⟨k+1,by omega,by go_num,cM.1,A3 dY.1⟩
       |(simp[intOf];omega)
     ·have HU:=Kh (show u1=Fg a b f n k by unfold Fg;rw[cC.1,if_neg hkn,Rat.add_zero])
      have cM:=Kh (QAt.done aD.1 HU.1);go_wp2;go_roundw
      case rel=>exact⟨k+1,by omega,by go_num,cM.1,O.1⟩
      case measure=>simp[intOf];omega
  ·obtain rfl:k=N:=by omega
   go_wp2;go_ret;exact⟨⟨g,rfl,oB,cS.1⟩,HW.1.trans (eF.1.mono oB)⟩
/-! Everything but one block stays -/
theorem Ag {w w':World} (g:Nat) (h:Below w.heap.size w w'):w.grownBy w' (some g):=⟨h.os,h.tape,h.output,h.size,λk E _=>h.block k E⟩
theorem Ar (w:World) (g i:Nat) (v:Value):w.grownBy (w.setCell ⟨g,i,none⟩ v) (some g):=
 ⟨rfl,rfl,rfl,by simp,λk I E=>Below.heap_setCell w ⟨g,i,none⟩ v k (λe=>E (by rw[e]))⟩
theorem E8 (w:World) (g i j k l:Nat) (v0 v1 v2 v3:Value):w.grownBy ((((w.setCell ⟨g,i,none⟩ v0).setCell ⟨g,j,none⟩ v1).setCell ⟨g,k,none⟩ v2).setCell ⟨g,l,none⟩ v3) (some g):=
 (((Ar w g i v0).trans (Ar _ g j v1)).trans (Ar _ g k v2)).trans (Ar _ g l v3)
theorem I32.but {w w':World} {g:Nat} (I:Sts w g) (h:w.grownBy w' (some g)):I32 w w':=
 ⟨h.size,λJ i n e=>h.cell e (λE=>by
  injection E with E
  exact I.2 i _ (by rw[<-E];exact e) _ _ rfl)⟩
theorem QE.but {P:FP} (hP:Bi P) {w w':World} {g E i:Nat} (hs:Sts w g) (h:w.grownBy w' (some g)) (M:E≠g) (hq:QE P w E i):QE P w' E i:=by
 obtain⟨s,p,n,c,t,q,m,d,O,U,V,Z,h4⟩:=hq;have I:∀j v,w.cell? ⟨E,j,none⟩=some v->w'.cell? ⟨E,j,none⟩=some v:=λj v e=>h.cell e (λJ=>by injection J with J;exact M J)
 exact⟨s,p,n,c,t,q,m,d,I _ _ O,I _ _ U,I _ _ V,I _ _ Z,hP _ _ _ _ _ _ _ _ _ _ (I32.but hs h) h4⟩
def PL (g:Nat) (f:Nat->Rat) (w:World) (v:Value) (n:Nat):Prop:=∃g' cap,v=.slice (some ⟨g',0,none⟩) n cap/\g<g'/\g'<w.heap.size/\∀j,j<n->QE (IsQ (f j)) w g' (j*4)
theorem PL.keep {g:Nat} {f:Nat->Rat} {w w':World} {v:Value} {n:Nat} (h:PL g f w v n) (E:Below w.heap.size w w'):PL g f w' v n:=by
 obtain⟨I,cap,e,J,M,O⟩:=h;exact⟨I,cap,e,J,nN M E.size,λj U=>(O j U).keep (IsQ.solid _) E⟩
theorem PL.but {g:Nat} {f:Nat->Rat} {w w':World} {v:Value} {n:Nat} (h:PL g f w v n) (V:Sts w g) (E:w.grownBy w' (some g)):PL g f w' v n:=by
 obtain⟨I,cap,e,J,M,O⟩:=h;exact⟨I,cap,e,J,nN M E.size,λj U=>(O j U).but (IsQ.solid _) V E (by omega)⟩
theorem PL.ql {g:Nat} {f:Nat->Rat} {w:World} {v:Value} {n:Nat} (h:PL g f w v n):QL (λj=>IsQ (f j)) w v n:=by
 obtain⟨E,cap,e,O,I,J⟩:=h;exact .inr ⟨E,0,cap,e,I,λj M=>by rw[Nat.zero_add];exact J j M⟩
theorem PL.congr {g:Nat} {f f':Nat->Rat} {w:World} {v:Value} {n:Nat} (h:PL g f w v n) (e:∀j,j<n->f j=f' j):PL g f' w v n:=by
 obtain⟨J,cap,I,M,O,U⟩:=h;exact⟨J,cap,I,M,O,λj E=>by rw[<-e j E];exact U j E⟩
def mixQ (f f':Nat->Rat) (k j:Nat):Rat:=if j<k then f' j else f j
theorem L7 (f f':Nat->Rat) (j:Nat):mixQ f f' 0 j=f j:=if_neg (Nat.not_lt_zero _)
theorem Pj {f f':Nat->Rat} {n j:Nat} (h:j<n):mixQ f f' n j=f' j:=if_pos h
theorem Sq (f f':Nat->Rat) (k:Nat):mixQ f f' k k=f k:=if_neg (Nat.lt_irrefl _)
theorem mixQ_far {f f':Nat->Rat} {k j:Nat} (E:j≠k):mixQ f f' k j=mixQ f f' (k+1) j:=by
 unfold mixQ;by_cases h1:j<k
 ·rw[if_pos h1,if_pos (by omega)]
 ·rw[if_neg h1,if_neg (by omega)]
theorem Kj {f f':Nat->Rat} {w:World} {g n k:Nat} (h:QRow (λj=>IsQ (mixQ f f' k j)) w g n n) (J:k<n) {s t:Bool} {p q:Option Addr} {i c m d:Nat} (hq:Qs w s p i c t q m d (f' k)):
  QRow (λj=>IsQ (mixQ f f' (k+1) j)) ((((w.setCell ⟨g,k*4,none⟩ (.bool s)).setCell ⟨g,k*4+1,none⟩ (.slice p i c)).setCell ⟨g,k*4+2,none⟩ (.bool t)).setCell ⟨g,k*4+3,none⟩ (.slice q m d)) g n n:=
 QRow.set (k':=n) (λ_=>IsQ.solid _) h k J (λj=>IsQ (mixQ f f' (k+1) j)) (IsQ.solid _) (λj I E=>And.intro I (congrArg IsQ (mixQ_far E))) (show IsQ (mixQ f f' (k+1) k) w s p i c t q m d by unfold mixQ;rw[if_pos (nO k)];exact hq)
theorem Aq {B:Nat} {b w w':World} {g:Nat} (h:Below B b w) (hg:w.grownBy w' (some g)) (I:B<=w.heap.size) (J:B<=g):Below B b w':=h.grown hg I (λk E=>by injection E with E;omega)
/-! The values -/
theorem U3 (q:Rat) (i:Nat) (a b c d:Int) (k j:Nat) (J:j<=k+1):
  Fg (if k<i then a else c) (if k<i then b else d) (λj=>q*(mv i a b c d k j:Int)) (k+1) j=q*(mv i a b c d (k+1) j:Int):=by
 have I:∀a b:Int,Fg a b (λj=>q*(mv i a b c d k j:Int)) (k+1) j=Fg a b (λj=>q*(mv i a b c d k j:Int)) (k+1) j:=λ_ _=>rfl
 have E:∀e f:Int,Fg e f (λj=>q*(mv i a b c d k j:Int)) (k+1) j=q*(lin e f (mv i a b c d k) j:Int):=by
  intro e f;rw[Re];unfold Fg;by_cases hjk:j<k+1
  ·rw[if_pos hjk]
  ·obtain rfl:j=k+1:=by omega
   rw[if_neg hjk,Jc i a b c d k (k+1) (nO k)];simp
 rw[E,mv];by_cases hk:k<i
 ·simp only[if_pos hk]
 ·simp only[if_neg hk]
theorem Cq {a:Int} (h:-1073741824<=a) (E:a<=1073741824):nd a.natAbs<=2:=Bf.2 (show a.natAbs<4294967296 ^ 2 by omega)
theorem Gy {x y:Int} {K:Nat} (hK:1<=K) (E:nd x.natAbs<=K) (I:nd y.natAbs<=K):hq (Rat.divInt x y)<=K:=by
 by_cases h:y=0
 ·subst h
  simp[hq,Cr,G6];omega
 ·exact C9 h E I
theorem Pb {q:Rat} {K i k j:Nat} {a b c d:Int} (U:hq q<=K) (I:nd a.natAbs<=2) (J:nd b.natAbs<=2) (M:nd c.natAbs<=2) (O:nd d.natAbs<=2) (Z:k<=30):hq (q*(mv i a b c d k j:Int))<=K+96:=by
 have E:=Ce q ((mv i a b c d k j:Int):Rat);have V:=Ss i a b c d I J M O k j;rw[Dw]at E;omega
theorem Cm {q:Nat->Rat} {K w n j:Nat} {a b c d:Int} (E:∀i,i<n->hq (q i)<=K) (I:nd a.natAbs<=2) (J:nd b.natAbs<=2) (M:nd c.natAbs<=2) (O:nd d.natAbs<=2) (V:w<=30) (hn:n<=30):hq (subst q w a b c d n j)<=30*K+3880:=by
 have Z:=C8 (λi=>q i*(mv i a b c d w j:Int)) (K+96) n (λi U=>Pb (E i U) I J M O V);have h:n*(K+96+1)<=30*(K+96+1):=Nat.mul_le_mul hn (nL _);unfold subst;omega
def IsB (K:Nat) (x y:Int):FP:=λw s p n c t q m d=>Zr w s p n c x/\Zr w t q m d y/\n<=K/\m<=K
theorem IsB.solid (K:Nat) (x y:Int):Bi (IsB K x y):=λ_ _ _ _ _ _ _ _ _ _ h hq=>⟨hq.1.i32 h,hq.2.1.i32 h,hq.2.2⟩
theorem Ou (K:Nat) (qC:1<=K) (hK:K<=1000000) (v:Value) (n:Nat) (x y:Nat->Int) (a b c d:Int) (w:World) (h:QL (λj=>IsB K (x j) (y j)) w v n) (h0:0<n) (hn:n<=30) (ha:-1073741824<=a) (hE:a<=1073741824) (hb:-1073741824<=b) (hG:b<=1073741824) (hc:-1073741824<=c) (hH:c<=1073741824) (hd:-1073741824<=d) (hI:d<=1073741824):
  Calls prog 68 #[v,.agg #[.int .i64 a,.int .i64 b,.int .i64 c,.int .i64 d]] w λe w'=>(∃g,e=.returned (.slice (some ⟨g,0,none⟩) n n)/\w.heap.size<=g/\QRow (λj=>IsQ (subst (λi=>Rat.divInt (x i) (y i)) (n - 1) a b c d n j)) w' g n n)/\Below w.heap.size w w':=by
 obtain⟨g1,o1,l1,rfl,qY,r1⟩:=h.resolve_left (λh=>by omega);obtain⟨m,hm⟩:∃m,n=m+1:=⟨n - 1,by omega⟩
 have rA:(n:Int) - 1=(m:Nat):=by omega
 have rC:IntKind.i64.wrap (m:Int)=(m:Nat):=IntWalk.i64_in _ (by omega);have rD:(m:Int)+1=(n:Nat):=by omega
 have qF:=G4 n (by omega);have nU:=Kh r1
 have hV:=Kh (λi (hi:i<n)=>show hq (Rat.divInt (x i) (y i))<=K by
  obtain⟨_,_,_,_,_,_,_,_,_,_,_,_,h5,h6,h7,h8⟩:=r1 i hi;exact Gy qC (nM h5.size h7) (nM h6.size h8))
 obtain⟨Q,hQ⟩:∃Q:Nat->Rat,(λi=>Rat.divInt (x i) (y i))=Q:=⟨_,rfl⟩
 have nS:=Kh (λi=>(congrFun hQ i:Rat.divInt (x i) (y i)=Q i));rw[hQ];simp only[nS.1]at hV;have gU:=Kh (λi (hi:i<n) k (hk:k<=m) j=>Pb (q:=Q i) (i:=i) (k:=k) (j:=j) (hV.1 i hi) (Cq ha hE) (Cq hb hG) (Cq hc hH) (Cq hd hI) (by omega));have nY:=Kh (λi (hi:i<=n) j=>Cm (q:=Q) (w:=m) (n:=i) (j:=j) (λk hk=>hV.1 k (by omega)) (Cq ha hE) (Cq hb hG) (Cq hc hH) (Cq hd hI) (by omega) (by omega));obtain⟨SB,oE⟩:∃SB:Nat->Nat->Rat,(λi j=>subst Q m a b c d i j)=SB:=⟨_,rfl⟩
 obtain⟨V,oC⟩:∃V:Nat->Nat->Nat->Rat,(λi k j=>Q i*(mv i a b c d k j:Int))=V:=⟨_,rfl⟩
 have dE:∀i j,subst Q m a b c d i j=SB i j:=λi j=>congrFun (congrFun oE i) j
 have bC:∀i k j,Q i*(mv i a b c d k j:Int)=V i k j:=λi k j=>congrFun (congrFun (congrFun oC i) k) j
 have nW:=Kh (λj=>(show SB 0 j=0 by rw[<-dE];rfl));have nX:=Kh (λi j=>(show SB (i+1) j=SB i j+V i m j by rw[<-dE,<-dE,<-bC];rfl));have pU:=Kh (λi=>(show V i 0 0=Q i by rw[<-bC];simp[mv]))
 have nQ:=Kh (λi k j (hj:j<=k+1)=>(show Fg (if k<i then a else c) (if k<i then b else d) (V i k) (k+1) j=V i (k+1) j by
  have h1:=U3 (Q i) i a b c d k j hj;rw[show(λj=>Q i*(mv i a b c d k j:Int))=V i k from funext (bC i k),bC]at h1;exact h1))
 have pV:=Kh (λi j (h:Q i=0)=>(show V i m j=0 by rw[<-bC,h,Rat.zero_mul]));rw[show n - 1=m by omega];simp only[dE]at nY ⊢;simp only[bC]at gU;have aX:=Kh (And.intro (And.intro ha hE) (And.intro (And.intro hb hG) (And.intro (And.intro hc hH) (And.intro hd hI))));have HM:=Kh hm;clear h r1 ha hE hb hG hc hH hd hI dE bC oE oC hQ hm;go_enter func68,ntmps68
 go_upto_region 3 with(fail)
 obtain⟨wm,hL⟩:∃wm,w.alloc (.cells #[.int .i64 a,.int .i64 b,.int .i64 c,.int .i64 d] 63)=wm:=⟨_,rfl⟩
 obtain⟨X0,bE⟩:=Qk w #[.int .i64 a,.int .i64 b,.int .i64 c,.int .i64 d] 63;rw[hL]at X0 bE;have bB:wm.heap.size=w.heap.size+1:=by rw[<-hL];simp
 have hB:=Kh (QRow.made (λ_=>IsQ 0) wm n);obtain⟨wn,hM⟩:∃wn,wm.alloc (.cells (madeCells #[.bool false,.slice none 0 0,.bool false,.slice none 0 0] (n*4)) 86)=wn:=⟨_,rfl⟩
 have hT:=Kh (show Below wm.heap.size wm wn from hM▸(Below.refl _ _).alloc (nL _) _);rw[hM]at hB;rw[hL,hM];have HW:=Kh bE;have HR:=Kh (λj (hj:j<n)=>QE.keep (IsB.solid _ _ _) (nU.1 j hj) bE);obtain⟨g,hg⟩:∃g,w.heap.size+1=g:=⟨_,rfl⟩
 rw[hg]at bB ⊢;rw[bB]at hT hB;obtain⟨gm,oK⟩:∃gm,w.heap.size=gm:=⟨_,rfl⟩
 rw[oK]at X0;have hD:=Kh X0;have oJ:w.heap.size<=g:=by omega
 have rB:gm<g:=by omega
 have qM:g1<g:=by omega
 simp only[oK];clear X0 bE hL hM hg qF nU;go_wp2;go_loopw [21] (λi wr=>∃k:Nat,k<=n/\i=.int .i64 k/\QRow (λ_=>IsQ 0) wr g n k/\Below g wm wr) (λi _=>n - (intOf i).toNat)
 case atStart=>exact⟨0,Nat.zero_le _,rfl,hB.1,hT.1⟩
 case round=>
  obtain⟨k,hk,rfl,I,eG⟩:=hrel;have E:=Kh I;have O:=Kh eG;clear I eG hT hB;by_cases hlt:k<n
  ·go_wp2_with fail
   refine(Du 0 wr (by omega) (by omega)).mono ?_;rintro e w3 ⟨⟨s3,p3,n3,c3,t3,q3,m3,d3,rfl,oO⟩,cS⟩;have aD:=QRow.keep (λ_=>IsQ.solid _) E.1 cS;have pW:=Kh (QAt.done (QAt.set (L:=λ_=>0) aD hlt oO) rfl);have cI:=Kh (O.1.trans (cS.mono (nM (Nat.le_of_eq bB.symm) O.1.size)));obtain⟨u0,rE⟩:=nP (aD.has (k*4) (by omega));obtain⟨u1,rF⟩:=nP (aD.has (k*4+1) (by omega));obtain⟨u2,hu2⟩:=nP (aD.has (k*4+2) (by omega));obtain⟨u3,rG⟩:=nP (aD.has (k*4+3) (by omega));have f0:=aD.free (k*4) (by omega);have f1:=aD.free (k*4+1) (by omega);have f2:=aD.free (k*4+2) (by omega);have f3:=aD.free (k*4+3) (by omega);clear oO cS aD E O;go_wp2;go_roundw
   case rel=>exact⟨k+1,by omega,by go_num,pW.1,A3 cI.1⟩
   case measure=>simp[intOf];omega
  ·obtain rfl:n=k:=by omega
   have nV:=Kh (E.1.congr (G:=λj=>IsQ (SB 0 j)) (λj _=>by rw[nW.1]));clear E hlt hk nW;go_wp2;go_loopw [31] (λii wx=>∃i:Nat,i<=n/\ii=.int .i64 i/\QRow (λj=>IsQ (SB i j)) wx g n n/\Below g wm wx) (λii _=>n - (intOf ii).toNat)
   case atStart=>exact⟨0,Nat.zero_le _,rfl,nV.1,O.1⟩
   case round=>
    obtain⟨i,hi,rfl,I,eG⟩:=hrel;obtain⟨wx,rfl⟩:∃wx:World,wx=wr:=⟨_,rfl⟩
    clear nV O;have E:=Kh I;have O:=Kh eG;clear I eG;by_cases hlt:i<n
    ·have oF:=O.1
     have bE:=Below.mono2 bB oF;obtain⟨s',p',i1,c',t',q',m',d',a0,a1,a2,a3,hx⟩:=(HR.1 i hlt).keep (IsB.solid _ _ _) bE;have bA:=Kh hx;have hY:=Kh (λM (hb:Below wx.heap.size wx M)=>My s' p' i1 c' (x i) t' q' m' d' (y i) M (bA.1.1.keep hb) (bA.1.2.1.keep hb) (by have:=bA.1.2.2.1;omega) (by have:=bA.1.2.2.2;omega));have gS:=Kh (λM (hb:Below wx.heap.size wx M)=>Hv s' p' i1 c' (x i) t' q' m' d' (y i) M (bA.1.1.keep hb) (bA.1.2.1.keep hb) (by have:=bA.1.2.2.1;omega) (by have:=bA.1.2.2.2;omega));simp only[nS.1]at hY gS;have qZ:(i:Int)<(n:Int):=by omega
     clear hx oF bE;go_wp2_with fail
     refine(hY.1 _ ((Below.refl _ _).alloc (nL _) _)).mono ?_;rintro e w2 ⟨⟨qI,rfl,mC⟩,hZ⟩;have cX:=Kh (((Below.refl _ wx).alloc (nL _) (.cells #[.bool s',.slice p' i1 c',.bool t',.slice q' m' d'] 86)).trans (hZ.mono (by simp)));have eT:=(Blk.new wx 86 #[.bool s',.slice p' i1 c',.bool t',.slice q' m' d']).below_ hZ (by simp);have y0:w2.cell? ⟨wx.heap.size,0,none⟩=some (.bool s'):=eT.at_ 0 rfl;have y1:w2.cell? ⟨wx.heap.size,1,none⟩=some (.slice p' i1 c'):=eT.at_ 1 rfl;have y2:w2.cell? ⟨wx.heap.size,2,none⟩=some (.bool t'):=eT.at_ 2 rfl;have y3:w2.cell? ⟨wx.heap.size,3,none⟩=some (.slice q' m' d'):=eT.at_ 3 rfl;clear hZ hY a0 a1 a2 a3 eT;by_cases hz:qI=0
     ·have oN:=mC.1 hz
      have hW:=Kh (QRow.congr (G:=λj=>IsQ (SB (i+1) j)) (E.1.keep (λ_=>IsQ.solid _) cX.1) (λj _=>by rw[nX.1,pV.1 i j oN,Rat.add_zero]));have nC:=Kh (O.1.trans (cX.1.mono (nM (Nat.le_of_eq bB.symm) O.1.size)));subst hz;clear mC oN gS E O;go_wp2;go_roundw
      case rel=>exact⟨i+1,by omega,by go_num,hW.1,nC.1⟩
      case measure=>simp[intOf];omega
     ·clear mC
      go_wp2_with fail
      refine(gS.1 _ cX.1).mono ?_;rintro e w3 ⟨⟨s3,p3,n3,c3,t3,q3,m3,d3,rfl,oS⟩,cS⟩;have oB:=Kh oS;have cI:=bt cX cS;clear oS cS gS y0 y1 y2 y3 cX;have oA:=Kh (O.1.trans (cI.1.mono (nM (Nat.le_of_eq bB.symm) O.1.size)));have hJ:g<w3.heap.size:=nN E.1.sts.1 cI.1.size;obtain⟨wi,mD⟩:∃wi,w3.alloc (.cells #[.bool s3,.slice p3 n3 c3,.bool t3,.slice q3 m3 d3] 86)=wi:=⟨_,rfl⟩
      have eF:Below w3.heap.size w3 wi:=mD▸(Below.refl _ _).alloc (nL _) _;have cA:=Blk.new w3 86 #[.bool s3,.slice p3 n3 c3,.bool t3,.slice q3 m3 d3];rw[mD]at cA
      have hO:=Kh (show PL g (V i 0) wi (.slice (some ⟨w3.heap.size,0,none⟩) 1 1) 1 from⟨_,_,rfl,hJ,cA.lt,λj hj=>by
       obtain rfl:j=0:=by omega
       exact⟨_,_,_,_,_,_,_,_,cA.at_ 0 rfl,cA.at_ 1 rfl,cA.at_ 2 rfl,cA.at_ 3 rfl,show Qs wi s3 p3 n3 c3 t3 q3 m3 d3 (V i 0 0)by rw[pU.1];exact oB.1.keep eF⟩⟩)
      have nT:=Kh ((E.1.keep (λ_=>IsQ.solid _) cI.1).keep (λ_=>IsQ.solid _) eF);have hS:=Kh (oA.1.trans (eF.mono (Nat.le_of_lt hJ)));have mA:g<wi.heap.size:=nN hJ eF.size;clear oB cI oA eF cA E O hJ;go_wp2;clear mD;go_loopw [10,11] (λv1 kk wy=>∃k:Nat,k<=m/\kk=.int .i64 k/\PL g (V i k) wy v1 (k+1)/\Below wi.heap.size wi wy) (λ_ kk _=>m - (intOf kk).toNat)
      case atStart=>exact⟨0,Nat.zero_le _,rfl,hO.1,Below.refl _ _⟩
      case round=>
       obtain⟨k,hk,rfl,cT,Z⟩:=hrel;obtain⟨wy,rfl⟩:∃wy:World,wy=wr:=⟨_,rfl⟩
       have aK:=Kh Z;have qE:g<wy.heap.size:=nN mA Z.size;have eP:=Below.mono2 bB (hS.1.trans (Z.mono (Nat.le_of_lt mA)));have x0:=(bk hD eP).at_ 0 rfl;have x1:=(bk hD eP).at_ 1 rfl;have x2:=(bk hD eP).at_ 2 rfl;have x3:=(bk hD eP).at_ 3 rfl;clear hO Z eP;by_cases hkm:k<m
       ·by_cases mB:k<i
        ·have HL:=Kh (Ot u10 (k+1) (V i k) a b wy cT.ql (by omega) (by omega) (by have:=aX.1;omega) (by have:=aX.1;omega) (by have:=aX.1;omega) (by have:=aX.1;omega) (λj _=>by have:=gU.1 i hlt k (by omega) j;omega))
         have HV:=Kh (λj (hj:j<k+1+1)=>(show Fg a b (V i k) (k+1) j=V i (k+1) j by have h1:=nQ.1 i k j (by omega);simp only[if_pos mB]at h1;exact h1));clear cT;go_wp2_with fail
         refine HL.1.mono ?_;rintro e w5 ⟨⟨g5,rfl,oI,bY⟩,dY⟩;have dC:=Kh (show PL g (V i (k+1)) w5 (.slice (some ⟨g5,0,none⟩) (k+1+1) (k+1+1)) (k+1+1)from⟨g5,_,rfl,by omega,bY.sts.1,λj hj=>by have h1:=bY.val j hj;rw[HV.1 j hj]at h1;exact h1⟩);have hR:=bt aK dY;clear bY dY HL HV aK;go_wp2;go_roundw
         case rel=>exact⟨k+1,by omega,by go_num,dC.1,hR.1⟩
         case measure=>simp[intOf];omega
        ·have HL:=Kh (Ot u10 (k+1) (V i k) c d wy cT.ql (by omega) (by omega) (by have:=aX.1;omega) (by have:=aX.1;omega) (by have:=aX.1;omega) (by have:=aX.1;omega) (λj _=>by have:=gU.1 i hlt k (by omega) j;omega))
         have HV:=Kh (λj (hj:j<k+1+1)=>(show Fg c d (V i k) (k+1) j=V i (k+1) j by have h1:=nQ.1 i k j (by omega);simp only[if_neg mB]at h1;exact h1));clear cT;go_wp2_with fail
         refine HL.1.mono ?_;rintro e w5 ⟨⟨g5,rfl,oI,bY⟩,dY⟩;have dC:=Kh (show PL g (V i (k+1)) w5 (.slice (some ⟨g5,0,none⟩) (k+1+1) (k+1+1)) (k+1+1)from⟨g5,_,rfl,by omega,bY.sts.1,λj hj=>by have h1:=bY.val j hj;rw[HV.1 j hj]at h1;exact h1⟩);have hR:=bt aK dY;clear bY dY HL HV aK;go_wp2;go_roundw
         case rel=>exact⟨k+1,by omega,by go_num,dC.1,hR.1⟩
         case measure=>simp[intOf];omega
       ·obtain rfl:m=k:=by omega
        have hX:=Kh ((nT.1.keep (λ_=>IsQ.solid _) aK.1).congr (G:=λj=>IsQ (mixQ (SB i) (SB (i+1)) 0 j)) (λj _=>by rw[L7]));have pR:=Kh (hS.1.trans (aK.1.mono (Nat.le_of_lt mA)));rw[<-HM.1]at cT;obtain⟨g5,qL,rfl,oI,qN,oH⟩:=cT;have pS:=Kh oH;clear oH nT hS aK x0 x1 x2 x3 hkm;go_wp2;go_loopw [64] (λkk J=>∃k:Nat,k<=n/\kk=.int .i64 k/\QRow (λj=>IsQ (mixQ (SB i) (SB (i+1)) k j)) J g n n/\wy.grownBy J (some g)) (λkk _=>n - (intOf kk).toNat)
        case atStart=>exact⟨0,Nat.zero_le _,rfl,hX.1,Ag g (Below.refl _ _)⟩
        case round=>
         obtain⟨k,hk,rfl,I,Z⟩:=hrel;obtain⟨J,rfl⟩:∃J:World,J=wr:=⟨_,rfl⟩
         have E:=Kh I;have aK:=Kh Z;have hU:=Kh (Aq pR.1 Z (Nat.le_of_lt qE) (nL _));by_cases hkn:k<n
         ·obtain⟨s',p',i1,c',t',q',m',d',a0,a1,a2,a3,hx⟩:=(pS.1 k hkn).but (IsQ.solid _) hX.1.sts Z (by omega)
          obtain⟨s5,p5,n5,c5,t5,q5,m5,d5,e0,e1,e2,e3,hy⟩:=I.val k hkn;have gP:=Kh (show Cells4 J g (k*4) s5 p5 n5 c5 t5 q5 m5 d5 from⟨e0,e1,e2,e3⟩);have cC:=Kh (show Cells4 J.drew g (k*4) s5 p5 n5 c5 t5 q5 m5 d5 from⟨e0,e1,e2,e3⟩);have oR:Qs J s5 p5 n5 c5 t5 q5 m5 d5 (SB i k):=by rw[<-Sq (SB i) (SB (i+1)) k];exact hy
          have oQ:Qs J s' p' i1 c' t' q' m' d' (V i m k):=hx;have nB:=Kh (λM (hb:Below J.heap.size J M)=>Fp s5 p5 n5 c5 t5 q5 m5 d5 (SB i k) s' p' i1 c' t' q' m' d' (V i m k) M (oR.keep hb) (oQ.keep hb) (by have:=nY.1 i (by omega) k;omega) (by have:=gU.1 i hlt m (nL _) k;omega));simp only[<-nX.1]at nB;have mB:(k:Int)<(n:Int):=by omega
          have U:=I;clear hx hy oR oQ e0 e1 e2 e3 I Z;go_upto_region 22 with(fail)
          have oD:J.drew.cell? ⟨g5,k*4,none⟩=some (.bool s')/\J.drew.cell? ⟨g5,k*4+1,none⟩=some (.slice p' i1 c')/\J.drew.cell? ⟨g5,k*4+2,none⟩=some (.bool t')/\J.drew.cell? ⟨g5,k*4+3,none⟩=some (.slice q' m' d')/\J.drew.cell? ⟨g,k*4,none⟩=some (cellOf J.drew ⟨g,k*4,none⟩)/\J.drew.frozen? ⟨g,k*4,none⟩=false/\Sts J.drew (g)/\J.drew.cell? ⟨g,k*4+1,none⟩=some (cellOf J.drew ⟨g,k*4+1,none⟩)/\J.drew.frozen? ⟨g,k*4+1,none⟩=false/\Sts J.drew (g)/\J.drew.cell? ⟨g,k*4+2,none⟩=some (cellOf J.drew ⟨g,k*4+2,none⟩)/\J.drew.frozen? ⟨g,k*4+2,none⟩=false/\Sts J.drew (g)/\J.drew.cell? ⟨g,k*4+3,none⟩=some (cellOf J.drew ⟨g,k*4+3,none⟩)/\J.drew.frozen? ⟨g,k*4+3,none⟩=false/\Sts J.drew (g)/\Below g wm J.drew/\g<=J.drew.heap.size:=D7 (Below.refl _ J).drew ⟨a0,a1,a2,a3,Ah (U.has _ (by omega)),U.free _ (by omega),U.sts,Ah (U.has _ (by omega)),U.free _ (by omega),U.sts,Ah (U.has _ (by omega)),U.free _ (by omega),U.sts,Ah (U.has _ (by omega)),U.free _ (by omega),U.sts,hU.1,nM (Nat.le_of_eq bB.symm) (Below.size hU.1)⟩;clear a0 a1 a2 a3 U;have M1:True:=trivial;refine wp_region_held_drew (S:=(λM=>M.cell? ⟨g5,k*4,none⟩=some (.bool s')/\M.cell? ⟨g5,k*4+1,none⟩=some (.slice p' i1 c')/\M.cell? ⟨g5,k*4+2,none⟩=some (.bool t')/\M.cell? ⟨g5,k*4+3,none⟩=some (.slice q' m' d')/\M.cell? ⟨g,k*4,none⟩=some (cellOf M ⟨g,k*4,none⟩)/\M.frozen? ⟨g,k*4,none⟩=false/\Sts M (g)/\M.cell? ⟨g,k*4+1,none⟩=some (cellOf M ⟨g,k*4+1,none⟩)/\M.frozen? ⟨g,k*4+1,none⟩=false/\Sts M (g)/\M.cell? ⟨g,k*4+2,none⟩=some (cellOf M ⟨g,k*4+2,none⟩)/\M.frozen? ⟨g,k*4+2,none⟩=false/\Sts M (g)/\M.cell? ⟨g,k*4+3,none⟩=some (cellOf M ⟨g,k*4+3,none⟩)/\M.frozen? ⟨g,k*4+3,none⟩=false/\Sts M (g)/\Below g wm M/\g<=M.heap.size)) (by kernel_rfl) ?_ (λhHeld0=>?_);focus((try dsimp only);with_reducible exact oD)
          refine Fl 0 ?_;refine Fl 1 ?_;refine Fl 2 ?_;refine Fl 3 ?_;refine Fl 4 ?_;refine Fl 6 ?_;refine Fl 7 ?_;refine Fl 8 ?_;refine Fl 9 ?_;refine Px [5] ?_;refine AllReadyH.cons rfl (λK hK=>?_) ?_;focus(go_simp;refine hK.out _ _ ?_ (λhHeld1=>?_))
          focus((try dsimp only);(first|with_reducible exact oD |(refine D7 (by with_reducible assumption) ?_;assumption)))
          focus(clear hK K hHeld0;(try simp only[Act.put,Bn,Bp,Bo]))
          refine Px [10] ?_;refine AllReadyH.cons rfl (λK hK=>?_) ?_;focus(go_simp;(go_at_call 39;(first|rw[Af cC.1.1,Af cC.1.2.1,Af cC.1.2.2.1,Af cC.1.2.2.2]|rw[Af gP.1.1,Af gP.1.2.1,Af gP.1.2.2.1,Af gP.1.2.2.2]);refine(nB.1 _ (by first|exact(Below.refl _ _).drew|exact Below.refl _ _)).mono ?_;rintro e w4 ⟨⟨s6,p6,n6,c6,t6,q6,m6,d6,rfl,oT⟩,oG⟩;have iL:Below J.heap.size J w4:=(by first|exact(Below.refl _ J).drew.trans oG|exact oG);have nR:=Kh (Kj (E.1.keep (λ_=>IsQ.solid _) iL) hkn oT);have pT:=Kh (aK.1.trans (Ag g iL));clear oT iL);(first|done|with_reducible refine hK.out _ _ ?_ (λhHeld2=>?_) |(go_wp2_with fail;with_reducible refine hK.out _ _ ?_ (λhHeld2=>?_))))
          focus((try dsimp only);(refine D7 (by with_reducible assumption) ?_;assumption))
          focus(clear hK K hHeld1;(try simp only[Act.put,Bn,Bp,Bo]))
          refine Fl 11 ?_;refine Px [12] ?_;refine AllReadyH.cons rfl (λK hK=>?_) ?_;focus(go_simp;refine hK.out _ _ ?_ (λhHeld3=>?_))
          focus((try dsimp only);(refine N7 ?_ ?_ ?_ ?_ ?_ ?_ ?_ ?_ ?_ ?_ ?_ ?_ ?_ ?_ ?_ ?_ ?_ ?_ ?_ ?_ ?_ ?_ ?_ ?_ ?_ <;> first|assumption|exact NotInt.bool _|exact NotInt.slice _ _ _ |(dsimp only;omega) |(simp;done)))
          focus(clear hK K hHeld2;(try simp only[Act.put,Bn,Bp,Bo]))
          focus(refine wpAnyH_done (by kernel_rfl) ?_ _)
          rotate_left
          exact AllReadyH.nil;exact AllReadyH.nil;exact AllReadyH.nil;all_goals go_wp2
          all_goals go_roundw
          all_goals first
           | exact⟨k+1,by omega,by go_num,nR.1,pT.1.trans (E8 _ _ _ _ _ _ _ _ _ _)⟩
           |(simp[intOf];omega)
         ·obtain rfl:n=k:=by omega
          have hW:=Kh (I.congr (G:=λj=>IsQ (SB (i+1) j)) (λj hj=>by rw[Pj hj]));clear I Z E hX;go_wp2;go_roundw
          case rel=>exact⟨i+1,by omega,by go_num,hW.1,hU.1⟩
          case measure=>simp[intOf];omega
    ·obtain rfl:n=i:=by omega
     go_wp2;go_ret;exact⟨⟨g,rfl,oJ,E.1⟩,HW.1.trans (O.1.mono oJ)⟩
theorem ZE.but {z:Int} {w w':World} {g E i:Nat} (Z:Sts w g) (h:w.grownBy w' (some g)) (J:E≠g) (hq:ZE z w E i):ZE z w' E i:=by
 obtain⟨s,p,n,c,O,U,V⟩:=hq;have M:∀j v,w.cell? ⟨E,j,none⟩=some v->w'.cell? ⟨E,j,none⟩=some v:=λj v e=>h.cell e (λI=>by injection I with I;exact J I)
 exact⟨s,p,n,c,M _ _ O,M _ _ U,V.i32 (I32.but Z h)⟩
def Cells2 (w:World) (g i:Nat) (s:Bool) (p:Option Addr) (n c:Nat):Prop:=w.cell? ⟨g,i,none⟩=some (.bool s)/\w.cell? ⟨g,i+1,none⟩=some (.slice p n c)
theorem Cells2.keep {w w':World} {g i:Nat} {s:Bool} {p:Option Addr} {n c:Nat} (h:Cells2 w g i s p n c) (I:Below w.heap.size w w'):Cells2 w' g i s p n c:=by
 have E:∀j v,w.cell? ⟨g,j,none⟩=some v->w'.cell? ⟨g,j,none⟩=some v:=λj v e=>(I.cell (p:=⟨g,j,none⟩) (World.block_lt_of_cell? w ⟨g,j,none⟩ e)).trans e
 exact⟨E _ _ h.1,E _ _ h.2⟩
theorem Jv (w:World) (g i j:Nat) (v0 v1:Value):w.grownBy ((w.setCell ⟨g,i,none⟩ v0).setCell ⟨g,j,none⟩ v1) (some g):=(Ar w g i v0).trans (Ar _ g j v1)
end Go.Proofs.YtenlbhlllgppmaaGreatDoor
