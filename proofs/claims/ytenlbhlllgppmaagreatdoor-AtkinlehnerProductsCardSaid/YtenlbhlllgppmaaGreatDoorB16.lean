/- Contract of paths.linear. -/
import Derived.Test.YtenlbhlllgppmaaGreatDoorB15
set_option linter.unusedSimpArgs false
set_option maxRecDepth 100000
set_option maxHeartbeats 8000000
namespace Go.Proofs.YtenlbhlllgppmaaGreatDoor
open Go.RowKit Tryz
/-! The contracts of the fractions' functions,for normalized arguments -/
theorem Cx (s:Bool) (p:Option Addr) (n c:Nat) (t:Bool) (q:Option Addr) (m d:Nat) (x:Rat) (Z:Bool) (p':Option Addr) (V J:Nat) (t':Bool) (Y:Option Addr) (U O:Nat) (y:Rat) (w:World) (h:Qs w s p n c t q m d x) (I:Qs w Z p' V J t' Y U O y) (hx:hq x<=1000000000) (hy:hq y<=1000000000):
  Calls prog 44 #[.agg #[.bool s,.slice p n c,.bool t,.slice q m d],.agg #[.bool Z,.slice p' V J,.bool t',.slice Y U O]] w λe w'=>Eg w' e (x*y)/\Below w.heap.size w w':=by
 have h1:=Xf s p n c x.num t q m d x.den Z p' V J y.num t' Y U O y.den w h.1.raw h.2.raw I.1.raw I.2.raw (by have:=h.sizes;omega) (by have:=h.sizes;omega) (by have:=I.sizes;omega) (by have:=I.sizes;omega);rw[Bl,Bl]at h1;exact h1
theorem cJ (s:Bool) (p:Option Addr) (n c:Nat) (t:Bool) (q:Option Addr) (m d:Nat) (x:Rat) (Z:Bool) (p':Option Addr) (V J:Nat) (t':Bool) (Y:Option Addr) (U O:Nat) (y:Rat) (w:World) (h:Qs w s p n c t q m d x) (I:Qs w Z p' V J t' Y U O y) (hx:hq x<=1000000000000) (hy:hq y<=1000000000000):
  Calls prog 44 #[.agg #[.bool s,.slice p n c,.bool t,.slice q m d],.agg #[.bool Z,.slice p' V J,.bool t',.slice Y U O]] w λe w'=>Eg w' e (x*y)/\Below w.heap.size w w':=by
 have h1:=Xf s p n c x.num t q m d x.den Z p' V J y.num t' Y U O y.den w h.1.raw h.2.raw I.1.raw I.2.raw (by have:=h.sizes;omega) (by have:=h.sizes;omega) (by have:=I.sizes;omega) (by have:=I.sizes;omega);rw[Bl,Bl]at h1;exact h1
theorem Gh (s:Bool) (p:Option Addr) (n c:Nat) (t:Bool) (q:Option Addr) (m d:Nat) (x:Rat) (Z:Bool) (p':Option Addr) (V J:Nat) (t':Bool) (Y:Option Addr) (U O:Nat) (y:Rat) (w:World) (h:Qs w s p n c t q m d x) (I:Qs w Z p' V J t' Y U O y) (hx:hq x<=1000000000) (hy:hq y<=1000000000):
  Calls prog 39 #[.agg #[.bool s,.slice p n c,.bool t,.slice q m d],.agg #[.bool Z,.slice p' V J,.bool t',.slice Y U O]] w λe w'=>Eg w' e (x+y)/\Below w.heap.size w w':=by
 have h1:=Xe s p n c x.num t q m d x.den Z p' V J y.num t' Y U O y.den w h.1.raw h.2.raw I.1.raw I.2.raw (by have:=h.sizes;omega) (by have:=h.sizes;omega) (by have:=I.sizes;omega) (by have:=I.sizes;omega) (F1 x) (F1 y);rw[Bl,Bl]at h1;exact h1
def QAt (L:Nat->Rat) (k:Nat) (r:Rat) (w:World) (g N:Nat):Prop:=QRow (λj=>IsQ (if j=k then r else L j)) w g N (k+1)
theorem QAt.keep {L:Nat->Rat} {k:Nat} {r:Rat} {w w':World} {g N:Nat} (h:QAt L k r w g N) (I:Below w.heap.size w w'):QAt L k r w' g N:=QRow.keep (λ_=>IsQ.solid _) h I
theorem QAt.set {L:Nat->Rat} {k:Nat} {r:Rat} {w:World} {g N:Nat} (h:QRow (λj=>IsQ (L j)) w g N k) (J:k<N) {s:Bool} {p:Option Addr} {n c:Nat} {t:Bool} {q:Option Addr} {m d:Nat} (hq:Qs w s p n c t q m d r):
  QAt L k r ((((w.setCell ⟨g,k*4,none⟩ (.bool s)).setCell ⟨g,k*4+1,none⟩ (.slice p n c)).setCell ⟨g,k*4+2,none⟩ (.bool t)).setCell ⟨g,k*4+3,none⟩ (.slice q m d)) g N:=
 QRow.set (λ_=>IsQ.solid _) h k J _ (IsQ.solid _) (λi O I=>⟨by omega,by rw[if_neg I]⟩) (show IsQ (if k=k then r else L k) w s p n c t q m d by rw[if_pos rfl];exact hq)
theorem QAt.upd {L:Nat->Rat} {k:Nat} {r U:Rat} {w:World} {g N:Nat} (h:QAt L k U w g N) (O:k<N) {s:Bool} {p:Option Addr} {n c:Nat} {t:Bool} {q:Option Addr} {m d:Nat} (hq:Qs w s p n c t q m d r):
  QAt L k r ((((w.setCell ⟨g,k*4,none⟩ (.bool s)).setCell ⟨g,k*4+1,none⟩ (.slice p n c)).setCell ⟨g,k*4+2,none⟩ (.bool t)).setCell ⟨g,k*4+3,none⟩ (.slice q m d)) g N:=
 QRow.set (λ_=>IsQ.solid _) h k O _ (IsQ.solid _) (λi J I=>⟨J,by rw[if_neg I,if_neg I]⟩) (show IsQ (if k=k then r else L k) w s p n c t q m d by rw[if_pos rfl];exact hq)
theorem QAt.done {L:Nat->Rat} {k:Nat} {r:Rat} {w:World} {g N:Nat} (h:QAt L k r w g N) (e:r=L k):QRow (λj=>IsQ (L j)) w g N (k+1):=
 QRow.congr h (λj _=>by
  by_cases hj:j=k
  ·rw[if_pos hj,hj,e]
  ·rw[if_neg hj])
theorem QAt.elem {L:Nat->Rat} {k:Nat} {r:Rat} {w:World} {g N:Nat} (h:QAt L k r w g N):QE (IsQ r) w g (k*4):=by
 have I:=QRow.val h k (nU k)
 simpa using I
theorem Ag {w:World} {a:Addr} {v:Value} (h:w.cell? a=some v):cellOf w a=v:=by unfold cellOf;rw[h];rfl
def Cells4 (w:World) (g i:Nat) (s:Bool) (p:Option Addr) (n c:Nat) (t:Bool) (q:Option Addr) (m d:Nat):Prop:=
 w.cell? ⟨g,i,none⟩=some (.bool s)/\w.cell? ⟨g,i+1,none⟩=some (.slice p n c)/\w.cell? ⟨g,i+2,none⟩=some (.bool t)/\w.cell? ⟨g,i+3,none⟩=some (.slice q m d)
theorem Cells4.keep {w w':World} {g i:Nat} {s:Bool} {p:Option Addr} {n c:Nat} {t:Bool} {q:Option Addr} {m d:Nat} (h:Cells4 w g i s p n c t q m d) (J:Below w.heap.size w w'):Cells4 w' g i s p n c t q m d:=by
 have I:∀j v,w.cell? ⟨g,j,none⟩=some v->w'.cell? ⟨g,j,none⟩=some v:=λj v e=>(J.cell (p:=⟨g,j,none⟩) (World.block_lt_of_cell? w ⟨g,j,none⟩ e)).trans e
 exact⟨I _ _ h.1,I _ _ h.2.1,I _ _ h.2.2.1,I _ _ h.2.2.2⟩
theorem Bb {g:Nat} {w w':World} (h:Below g w w') {i j k l:Nat} {v0 v1 v2 v3:Value}:Below g w ((((w'.setCell ⟨g,i,none⟩ v0).setCell ⟨g,j,none⟩ v1).setCell ⟨g,k,none⟩ v2).setCell ⟨g,l,none⟩ v3):=
 (((h.setCell (p:=⟨g,i,none⟩) (nR _) v0).setCell (p:=⟨g,j,none⟩) (nR _) v1).setCell (p:=⟨g,k,none⟩) (nR _) v2).setCell (p:=⟨g,l,none⟩) (nR _) v3
theorem Below.mono2 {B:Nat} {w w':World} (e:w.heap.size=B) (h:Below B w w'):Below w.heap.size w w':=by rw[e];exact h
theorem kR {n i:Nat} {v:Value} (h:(madeCells #[.bool false,.slice none 0 0,.bool false,.slice none 0 0] n)[i]?=some v):NotInt v:=by
 unfold madeCells at h;simp only[Array.getElem?_map,Array.getElem?_range]at h;split at h
 ·simp only[Option.map_some]at h
  injection h with h
  rw[<-h];have J:=Nat.mod_lt i (show 0<4 by decide);have I:i % 4=0∨i % 4=1∨i % 4=2∨i % 4=3:=by omega
  show NotInt ((#[.bool false,.slice none 0 0,.bool false,.slice none 0 0]:Array Value)[i % 4]!);rcases I with I|I|I|I <;> rw[I] <;> first|exact NotInt.bool _|exact NotInt.slice _ _ _
 ·cases h
theorem QRow.made (F:Nat->FP) (w:World) (n:Nat):QRow F (w.alloc (.cells (madeCells #[.bool false,.slice none 0 0,.bool false,.slice none 0 0] (n*4)) 86)) w.heap.size n 0:=by
 have I:=Blk.new w 86 (madeCells #[.bool false,.slice none 0 0,.bool false,.slice none 0 0] (n*4));refine⟨Sts.of I ?_,λi _=>I.free_ i,λi J=>?_,λj O=>absurd O (Nat.not_lt_zero _)⟩
 ·intro v U
  obtain⟨i,J⟩:=Array.getElem?_of_mem U;exact kR J
 ·rw[I.cell_ i,Array.getElem?_eq_getElem (by rw[size_madeCells];exact J)];rfl
theorem Hx (n:Nat) (h:n<=1000000) (w:World):
  (Instr.makeSlice 30 (.int .i64 (n:Int)) (.int .i64 (n:Int))).run prog w=.ok (.slice (some ⟨w.heap.size,0,none⟩) n n) (w.alloc (.cells (madeCells #[.bool false,.slice none 0 0,.bool false,.slice none 0 0] (n*4)) 86)):=by
 obtain⟨i,U,I,J,O⟩:=info_parts Gt;have hr:=run_make (P:=prog) w 30 86 i _ underlying30 U I .i64 .i64 n n (by omega) (Int.le_refl _) (by rw[O];omega) (by omega);rw[Int.toNat_natCast,J]at hr;exact hr
def F5 (a b:Int) (f:Nat->Rat) (n j:Nat):Rat:=(if 0<j then(a:Rat)*f (j - 1)else 0)+(if j<n then(b:Rat)*f j else 0)
theorem Pe (v:Value) (n:Nat) (f:Nat->Rat) (a b:Int) (w:World) (h:QL (λj=>IsQ (f j)) w v n) (h0:0<n) (hn:n<=1000) (ha:-1073741824<=a) (qD:a<=1073741824) (hb:-1073741824<=b) (qE:b<=1073741824) (hf:∀j,j<n->hq (f j)<=100000000):
  Calls prog 119 #[v,.int .i64 a,.int .i64 b] w λe w'=>(∃g,e=.returned (.slice (some ⟨g,0,none⟩) ((n+1:Nat)) ((n+1:Nat)))/\w.heap.size<=g/\QRow (λj=>IsQ (F5 a b f n j)) w' g (n+1) (n+1))/\Below w.heap.size w w':=by
 obtain⟨g1,o1,l1,rfl,hL,r1⟩:=h.resolve_left (λh=>by omega);have R1:=Kh r1;have HF:=Kh hf;have HA:=Kh (λJ=>En a J (by omega) (by omega));have oE:=Kh (λJ=>En b J (by omega) (by omega));have oH:=Kh (show hq (a:Rat)<=10 by rw[Ed];have:=Bj.2 (show a.natAbs<4294967296 ^ 2 by omega);omega);have oI:=Kh (show hq (b:Rat)<=10 by rw[Ed];have:=Bj.2 (show b.natAbs<4294967296 ^ 2 by omega);omega);obtain⟨N,hN⟩:∃N,n+1=N:=⟨_,rfl⟩
 have rG:(n:Int)+1=(N:Nat):=by omega
 have qF:=Hx N (by omega);rw[hN];clear h r1 hf ha qD hb qE;go_enter func119,ntmps119
 go_wp2_with fail
 refine(HA.1 w).mono ?_;rintro e J ⟨⟨s1,p1,n1,c1,t1,q1,m1,d1,rfl,oY⟩,oU⟩;have oG:=Kh oY;have oD:=Kh oU;clear oY oU HA;go_wp2_with fail
 refine(oE.1 J).mono ?_;rintro e w2 ⟨⟨s2,p2,n2,c2,t2,q2,m2,d2,rfl,oZ⟩,mD⟩;have iL:=Kh (And.intro (oG.1.keep mD) oZ);have hX:=bt oD mD;clear oZ mD oE oD oG;go_upto_region 3 with(fail)
 obtain⟨wm,hM⟩:∃wm,(w2.alloc (.cells #[.bool s1,.slice p1 n1 c1,.bool t1,.slice q1 m1 d1] 86)).alloc (.cells #[.bool s2,.slice p2 n2 c2,.bool t2,.slice q2 m2 d2] 86)=wm:=⟨_,rfl⟩
 obtain⟨X0,X1,bB⟩:=Lx w2 #[.bool s1,.slice p1 n1 c1,.bool t1,.slice q1 m1 d1] 86 #[.bool s2,.slice p2 n2 c2,.bool t2,.slice q2 m2 d2] 86;rw[hM]at X0 X1 bB;have cA:wm.heap.size=w2.heap.size+1+1:=by rw[<-hM];simp
 have hD:=Kh (QRow.made (λj=>IsQ (F5 a b f n j)) wm N);obtain⟨wn,hO⟩:∃wn,wm.alloc (.cells (madeCells #[.bool false,.slice none 0 0,.bool false,.slice none 0 0] (N*4)) 86)=wn:=⟨_,rfl⟩
 have hY:=Kh (show Below wm.heap.size wm wn from hO▸(Below.refl _ _).alloc (nR _) _);rw[hO]at hD;rw[hM,hO];have gF:=hX.1.trans (bB.mono hX.1.size);have HW:=Kh gF;have qB:=Kh (iL.1.1.keep bB);have qC:=Kh (iL.1.2.keep bB);have hZ:=Kh (nT hL gF.size);have HR:=Kh (λj (hj:j<n)=>QE.keep (IsQ.solid _) (R1.1 j hj) gF);obtain⟨gx,nA⟩:∃gx,w2.heap.size=gx:=⟨_,rfl⟩
 obtain⟨gy,nB⟩:∃gy,gx+1=gy:=⟨_,rfl⟩
 obtain⟨g,hg⟩:∃g,gy+1=g:=⟨_,rfl⟩
 rw[nA,nB,hg]at cA ⊢;rw[nA]at X0 X1;rw[nB]at X1;rw[cA]at hY hD hZ;have hG:=Kh X0;have hH:=Kh X1;have oW:w.heap.size<=g:=by have:=gF.size;omega
 have hP:gx<g:=by omega
 have hQ:gy<g:=by omega
 clear X0 X1 bB gF hM hO iL hX nA nB hg qF hL R1;go_wp2;go_loopw [21] (λi wr=>∃k:Nat,k<=N/\i=.int .i64 k/\QRow (λj=>IsQ (F5 a b f n j)) wr g N k/\Below g wm wr) (λi _=>N - (intOf i).toNat)
 case atStart=>exact⟨0,Nat.zero_le _,rfl,hD.1,hY.1⟩
 case round=>
  obtain⟨k,hk,rfl,hW,oV⟩:=hrel;have gA:=Kh hW;have gU:=Kh oV;clear hW oV hY hD;by_cases hlt:k<N
  ·go_upto_region 6 with(fail)
   go_cut []from 24 to 27 (λwd=>QAt (F5 a b f n) k 0 wd g N/\Below g wm wd)
   case first=>
    go_wp2_with fail
    refine(En 0 wr (by omega) (by omega)).mono ?_;rintro e w3 ⟨⟨s3,p3,n3,c3,t3,q3,m3,d3,rfl,pA⟩,aX⟩;have bY:=QRow.keep (λ_=>IsQ.solid _) gA.1 aX;have bA:=Kh (QAt.set bY hlt pA);have bC:=Kh (gU.1.trans (aX.mono (nS (Nat.le_of_eq cA.symm) gU.1.size)));obtain⟨u0,rK⟩:=nV (bY.has (k*4) (by omega));obtain⟨u1,nC⟩:=nV (bY.has (k*4+1) (by omega));obtain⟨u2,hu2⟩:=nV (bY.has (k*4+2) (by omega));obtain⟨u3,rL⟩:=nV (bY.has (k*4+3) (by omega));have f0:=bY.free (k*4) (by omega);have f1:=bY.free (k*4+1) (by omega);have f2:=bY.free (k*4+2) (by omega);have f3:=bY.free (k*4+3) (by omega);clear pA aX bY;go_wp2;go_meet
    exact⟨bA.1,Bb bC.1⟩
   case rest=>
    obtain⟨gL,U⟩:=hcut;obtain⟨I,rfl⟩:∃I:World,I=wc:=⟨_,rfl⟩
    have bA:=Kh gL;have V:=Kh U;clear gL U gA gU;go_upto_if 29 with(fail)
    obtain⟨u1,nC⟩:∃u1,(if 0<k then(a:Rat)*f (k - 1)else 0)=u1:=⟨_,rfl⟩
    have cT:=Kh nC;clear nC;go_cut []from 29 to 39 (λwd=>QAt (F5 a b f n) k u1 wd g N/\Below g wm wd)
    case first=>
     by_cases hk0:0<k
     ·obtain⟨k1,oX⟩:∃k1,k=k1+1:=⟨k - 1,by omega⟩
      have HU:=Kh (show(a:Rat)*f k1=u1 by rw[<-cT.1,if_pos hk0,oX,Nat.add_sub_cancel]);have U:=V.1;have bB:=Below.mono2 cA U;obtain⟨s',p',i1,c',t',q',m',d',a0,a1,a2,a3,hx⟩:=(HR.1 k1 (by omega)).keep (IsQ.solid _) bB;have HP:=Kh (show Qs I s' p' i1 c' t' q' m' d' (f k1)from hx);have x0:=(hG.1.below_ U hP).at_ 0 rfl;have x1:=(hG.1.below_ U hP).at_ 1 rfl;have x2:=(hG.1.below_ U hP).at_ 2 rfl;have x3:=(hG.1.below_ U hP).at_ 3 rfl;have HX:=Kh (qB.1.keep bB);have dY:=Kh (λJ (hb:Below I.heap.size I J)=>Cx s1 p1 n1 c1 t1 q1 m1 d1 (a:Rat) s' p' i1 c' t' q' m' d' (f k1) J (HX.1.keep hb) (HP.1.keep hb) (by have:=oH.1;omega) (by have:=HF.1 k1 (by omega);omega));rw[HU.1]at dY;have qU:(k:Int) - 1=(k1:Nat):=by omega
      have qT:k1<n:=by omega
      have qS:(k1:Int)<(n:Int):=by omega
      have rJ:IntKind.i64.wrap (k1:Int)=(k1:Nat):=IntWalk.i64_in _ (by omega);have qR:(0:Int)<=(k1:Int):=by omega
      have hL:=hZ.1;have O:=bA.1;unfold QAt at O;clear hx U bB HX HP oX HU cT;go_upto_region 8 with(fail)
      have mB:I.drew.cell? ⟨gx,0,none⟩=some (.bool s1)/\I.drew.cell? ⟨gx,1,none⟩=some (.slice p1 n1 c1)/\I.drew.cell? ⟨gx,2,none⟩=some (.bool t1)/\I.drew.cell? ⟨gx,3,none⟩=some (.slice q1 m1 d1)/\I.drew.cell? ⟨g1,o1+k1*4,none⟩=some (.bool s')/\I.drew.cell? ⟨g1,o1+k1*4+1,none⟩=some (.slice p' i1 c')/\I.drew.cell? ⟨g1,o1+k1*4+2,none⟩=some (.bool t')/\I.drew.cell? ⟨g1,o1+k1*4+3,none⟩=some (.slice q' m' d')/\I.drew.cell? ⟨g,k*4,none⟩=some (cellOf I.drew ⟨g,k*4,none⟩)/\I.drew.frozen? ⟨g,k*4,none⟩=false/\Sts I.drew (g)/\I.drew.cell? ⟨g,k*4+1,none⟩=some (cellOf I.drew ⟨g,k*4+1,none⟩)/\I.drew.frozen? ⟨g,k*4+1,none⟩=false/\Sts I.drew (g)/\I.drew.cell? ⟨g,k*4+2,none⟩=some (cellOf I.drew ⟨g,k*4+2,none⟩)/\I.drew.frozen? ⟨g,k*4+2,none⟩=false/\Sts I.drew (g)/\I.drew.cell? ⟨g,k*4+3,none⟩=some (cellOf I.drew ⟨g,k*4+3,none⟩)/\I.drew.frozen? ⟨g,k*4+3,none⟩=false/\Sts I.drew (g)/\Below g wm I.drew/\g<=I.drew.heap.size:=A6 (Below.refl _ I).drew ⟨x0,x1,x2,x3,a0,a1,a2,a3,Ar (O.has _ (by omega)),O.free _ (by omega),O.sts,Ar (O.has _ (by omega)),O.free _ (by omega),O.sts,Ar (O.has _ (by omega)),O.free _ (by omega),O.sts,Ar (O.has _ (by omega)),O.free _ (by omega),O.sts,V.1,nS (Nat.le_of_eq cA.symm) (Below.size V.1)⟩;clear x0 x1 x2 x3 a0 a1 a2 a3 O;have M1:True:=trivial
      go_region_held3 (λJ=>J.cell? ⟨gx,0,none⟩=some (.bool s1)/\J.cell? ⟨gx,1,none⟩=some (.slice p1 n1 c1)/\J.cell? ⟨gx,2,none⟩=some (.bool t1)/\J.cell? ⟨gx,3,none⟩=some (.slice q1 m1 d1)/\J.cell? ⟨g1,o1+k1*4,none⟩=some (.bool s')/\J.cell? ⟨g1,o1+k1*4+1,none⟩=some (.slice p' i1 c')/\J.cell? ⟨g1,o1+k1*4+2,none⟩=some (.bool t')/\J.cell? ⟨g1,o1+k1*4+3,none⟩=some (.slice q' m' d')/\J.cell? ⟨g,k*4,none⟩=some (cellOf J ⟨g,k*4,none⟩)/\J.frozen? ⟨g,k*4,none⟩=false/\Sts J (g)/\J.cell? ⟨g,k*4+1,none⟩=some (cellOf J ⟨g,k*4+1,none⟩)/\J.frozen? ⟨g,k*4+1,none⟩=false/\Sts J (g)/\J.cell? ⟨g,k*4+2,none⟩=some (cellOf J ⟨g,k*4+2,none⟩)/\J.frozen? ⟨g,k*4+2,none⟩=false/\Sts J (g)/\J.cell? ⟨g,k*4+3,none⟩=some (cellOf J ⟨g,k*4+3,none⟩)/\J.frozen? ⟨g,k*4+3,none⟩=false/\Sts J (g)/\Below g wm J/\g<=J.heap.size)
       (first|with_reducible exact mB|with_reducible assumption |(refine A6 (by with_reducible assumption) ?_;assumption) |(refine D3 ?_ ?_ ?_ ?_ ?_ ?_ ?_ ?_ ?_ ?_ ?_ ?_ ?_ ?_ ?_ ?_ ?_ ?_ ?_ ?_ ?_ ?_ ?_ ?_ ?_ ?_ ?_ ?_ ?_ ?_ ?_ ?_ ?_ ?_ ?_ ?_ ?_ ?_ ?_ ?_ ?_ <;> first|assumption|exact NotInt.bool _|exact NotInt.slice _ _ _ |(dsimp only;omega) |(simp;done)))
       (first
        |(go_at_call 44;refine(dY.1 _ (by first|exact(Below.refl _ _).drew|exact Below.refl _ _)).mono ?_;rintro e w2 ⟨⟨s3,p3,n3,c3,t3,q3,m3,d3,rfl,cD⟩,aX⟩;have bE:Below I.heap.size I w2:=(by first|exact(Below.refl _ I).drew.trans aX|exact aX);have cC:=Kh ((bA.1.keep bE).upd hlt cD);have gS:=Kh (V.1.trans (bE.mono (nS (Nat.le_of_eq cA.symm) V.1.size)));clear cD bE))
      all_goals go_wp2
      all_goals go_meet
      all_goals exact⟨cC.1,Bb gS.1⟩
     ·have HU:=Kh (show 0=u1 by rw[<-cT.1,if_neg hk0])
      obtain rfl:k=0:=by omega
      go_wp2;go_meet
      exact⟨HU.1▸bA.1,V.1⟩
    case rest=>
     obtain⟨gL,U⟩:=hcut;clear bA V;obtain⟨I,rfl⟩:∃I:World,I=wc:=⟨_,rfl⟩
     have bA:=Kh gL;have V:=Kh U;clear gL U;by_cases hkn:k<n
     ·have HU:=Kh (show u1+(b:Rat)*f k=F5 a b f n k by unfold F5;rw[cT.1,if_pos hkn])
      have oK:=Kh (show hq u1<=200000000 by
       rw[<-cT.1];split
       ·rename_i hk0
        have h1:=B7 (a:Rat) (f (k - 1));have h2:=oH.1;have h3:=HF.1 (k - 1) (by omega);omega
       ·simp[hq,Cq,Ff])
      have U:=V.1;have bB:=Below.mono2 cA U;obtain⟨s',p',i1,c',t',q',m',d',a0,a1,a2,a3,hx⟩:=(HR.1 k hkn).keep (IsQ.solid _) bB;have HP:=Kh (show Qs I s' p' i1 c' t' q' m' d' (f k)from hx);have x0:=(hH.1.below_ U hQ).at_ 0 rfl;have x1:=(hH.1.below_ U hQ).at_ 1 rfl;have x2:=(hH.1.below_ U hQ).at_ 2 rfl;have x3:=(hH.1.below_ U hQ).at_ 3 rfl;have HX:=Kh (qC.1.keep bB);have dY:=Kh (λJ (hb:Below I.heap.size I J)=>Cx s2 p2 n2 c2 t2 q2 m2 d2 (b:Rat) s' p' i1 c' t' q' m' d' (f k) J (HX.1.keep hb) (HP.1.keep hb) (by have:=oI.1;omega) (by have:=HF.1 k hkn;omega));obtain⟨s5,p5,n5,c5,t5,q5,m5,d5,e0,e1,e2,e3,hy⟩:=bA.1.elem;have HY:=Kh (show Qs I s5 p5 n5 c5 t5 q5 m5 d5 u1 from hy);have hB:=Kh (show Cells4 I g (k*4) s5 p5 n5 c5 t5 q5 m5 d5 from⟨e0,e1,e2,e3⟩)
      have oJ:=Kh (show hq ((b:Rat)*f k)<=200000000 by
       have h1:=B7 (b:Rat) (f k);have h2:=oI.1;have h3:=HF.1 k hkn;omega)
      have qV:(k:Int)<(n:Int):=by omega
      have hL:=hZ.1;have O:=bA.1;unfold QAt at O;clear hx U bB HX HP cT hy e0 e1 e2 e3;go_upto_region 10 with(fail)
      have mB:I.drew.cell? ⟨gy,0,none⟩=some (.bool s2)/\I.drew.cell? ⟨gy,1,none⟩=some (.slice p2 n2 c2)/\I.drew.cell? ⟨gy,2,none⟩=some (.bool t2)/\I.drew.cell? ⟨gy,3,none⟩=some (.slice q2 m2 d2)/\I.drew.cell? ⟨g1,o1+k*4,none⟩=some (.bool s')/\I.drew.cell? ⟨g1,o1+k*4+1,none⟩=some (.slice p' i1 c')/\I.drew.cell? ⟨g1,o1+k*4+2,none⟩=some (.bool t')/\I.drew.cell? ⟨g1,o1+k*4+3,none⟩=some (.slice q' m' d')/\I.drew.cell? ⟨g,k*4,none⟩=some (cellOf I.drew ⟨g,k*4,none⟩)/\I.drew.frozen? ⟨g,k*4,none⟩=false/\Sts I.drew (g)/\I.drew.cell? ⟨g,k*4+1,none⟩=some (cellOf I.drew ⟨g,k*4+1,none⟩)/\I.drew.frozen? ⟨g,k*4+1,none⟩=false/\Sts I.drew (g)/\I.drew.cell? ⟨g,k*4+2,none⟩=some (cellOf I.drew ⟨g,k*4+2,none⟩)/\I.drew.frozen? ⟨g,k*4+2,none⟩=false/\Sts I.drew (g)/\I.drew.cell? ⟨g,k*4+3,none⟩=some (cellOf I.drew ⟨g,k*4+3,none⟩)/\I.drew.frozen? ⟨g,k*4+3,none⟩=false/\Sts I.drew (g)/\Below g wm I.drew/\g<=I.drew.heap.size:=A6 (Below.refl _ I).drew ⟨x0,x1,x2,x3,a0,a1,a2,a3,Ar (O.has _ (by omega)),O.free _ (by omega),O.sts,Ar (O.has _ (by omega)),O.free _ (by omega),O.sts,Ar (O.has _ (by omega)),O.free _ (by omega),O.sts,Ar (O.has _ (by omega)),O.free _ (by omega),O.sts,V.1,nS (Nat.le_of_eq cA.symm) (Below.size V.1)⟩;clear x0 x1 x2 x3 a0 a1 a2 a3 O;have M1:True:=trivial;refine wp_region_held_drew (S:=(λJ=>J.cell? ⟨gy,0,none⟩=some (.bool s2)/\J.cell? ⟨gy,1,none⟩=some (.slice p2 n2 c2)/\J.cell? ⟨gy,2,none⟩=some (.bool t2)/\J.cell? ⟨gy,3,none⟩=some (.slice q2 m2 d2)/\J.cell? ⟨g1,o1+k*4,none⟩=some (.bool s')/\J.cell? ⟨g1,o1+k*4+1,none⟩=some (.slice p' i1 c')/\J.cell? ⟨g1,o1+k*4+2,none⟩=some (.bool t')/\J.cell? ⟨g1,o1+k*4+3,none⟩=some (.slice q' m' d')/\J.cell? ⟨g,k*4,none⟩=some (cellOf J ⟨g,k*4,none⟩)/\J.frozen? ⟨g,k*4,none⟩=false/\Sts J (g)/\J.cell? ⟨g,k*4+1,none⟩=some (cellOf J ⟨g,k*4+1,none⟩)/\J.frozen? ⟨g,k*4+1,none⟩=false/\Sts J (g)/\J.cell? ⟨g,k*4+2,none⟩=some (cellOf J ⟨g,k*4+2,none⟩)/\J.frozen? ⟨g,k*4+2,none⟩=false/\Sts J (g)/\J.cell? ⟨g,k*4+3,none⟩=some (cellOf J ⟨g,k*4+3,none⟩)/\J.frozen? ⟨g,k*4+3,none⟩=false/\Sts J (g)/\Below g wm J/\g<=J.heap.size)) (by kernel_rfl) ?_ (λhHeld0=>?_);focus((try dsimp only);with_reducible exact mB)
      refine Lw 0 ?_;refine Lw 1 ?_;refine Lw 2 ?_;refine Lw 3 ?_;refine Lw 4 ?_;refine Lw 6 ?_;refine Lw 7 ?_;refine Lw 8 ?_;refine Lw 9 ?_;refine Lw 10 ?_;refine aV [5,11] ?_;refine AllReadyH.cons rfl (λK hK=>?_) ?_;focus(go_simp;refine hK.out _ _ ?_ (λhHeld1=>?_))
      focus((try dsimp only);(first|with_reducible assumption |(refine A6 (by with_reducible assumption) ?_;assumption)))
      focus(clear hK K hHeld0;(try simp only[Act.put,Bo,Bt,Bp]))
      refine aV [11] ?_;refine AllReadyH.cons rfl (λK hK=>?_) ?_;focus(go_simp;(go_at_call 44;refine(dY.1 _ (by first|exact(Below.refl _ _).drew|exact Below.refl _ _)).mono ?_;rintro e w2 ⟨⟨s3,p3,n3,c3,t3,q3,m3,d3,rfl,cD⟩,aX⟩;have bC:=Kh (show Below I.heap.size I w2 from(by first|exact(Below.refl _ I).drew.trans aX|exact aX));have mA:=Kh cD;have Z:=Kh (hB.1.keep bC.1);have Y:=Kh (show Cells4 I.drew g (k*4) s5 p5 n5 c5 t5 q5 m5 d5 from hB.1);clear cD);(first|done|with_reducible refine hK.out _ _ ?_ (λhHeld2=>?_) |(go_wp2_with fail;with_reducible refine hK.out _ _ ?_ (λhHeld2=>?_))))
      focus((try dsimp only);(first|with_reducible assumption |(refine A6 (by with_reducible assumption) ?_;assumption)))
      focus(clear hK K hHeld1;(try simp only[Act.put,Bo,Bt,Bp]))
      refine aV [12] ?_;refine AllReadyH.cons rfl (λK hK=>?_) ?_;focus(go_simp;(go_at_call 39;(first|rw[Ag Z.1.1,Ag Z.1.2.1,Ag Z.1.2.2.1,Ag Z.1.2.2.2]|rw[Ag Y.1.1,Ag Y.1.2.1,Ag Y.1.2.2.1,Ag Y.1.2.2.2]);refine(Gh s5 p5 n5 c5 t5 q5 m5 d5 u1 s3 p3 n3 c3 t3 q3 m3 d3 ((b:Rat)*f k) _ (HY.1.keep bC.1) mA.1 (by have:=oK.1;omega) (by have:=oJ.1;omega)).mono ?_;rintro e w4 ⟨⟨s6,p6,n6,c6,t6,q6,m6,d6,rfl,gN⟩,mE⟩;have bE:Below I.heap.size I w4:=bC.1.trans (mE.mono bC.1.size);have cC:=Kh ((bA.1.keep bE).upd hlt (HU.1▸gN));have gS:=Kh (V.1.trans (bE.mono (nS (Nat.le_of_eq cA.symm) V.1.size)));clear gN bE aX);(first|done|with_reducible refine hK.out _ _ ?_ (λhHeld3=>?_) |(go_wp2_with fail;with_reducible refine hK.out _ _ ?_ (λhHeld3=>?_))))
      focus((try dsimp only);(first|with_reducible assumption |(refine A6 (by with_reducible assumption) ?_;assumption)))
      focus(clear hK K hHeld2;(try simp only[Act.put,Bo,Bt,Bp]))
      refine Lw 13 ?_;refine aV [14] ?_;refine AllReadyH.cons rfl (λK hK=>?_) ?_;focus(go_simp;refine hK.out _ _ ?_ (λhHeld4=>?_))
      focus((try dsimp only);(refine D3 ?_ ?_ ?_ ?_ ?_ ?_ ?_ ?_ ?_ ?_ ?_ ?_ ?_ ?_ ?_ ?_ ?_ ?_ ?_ ?_ ?_ ?_ ?_ ?_ ?_ ?_ ?_ ?_ ?_ ?_ ?_ ?_ ?_ ?_ ?_ ?_ ?_ ?_ ?_ ?_ ?_ <;> first|assumption|exact NotInt.bool _|exact NotInt.slice _ _ _ |(dsimp only;omega) |(simp;done)))
      focus(clear hK K hHeld3;(try simp only[Act.put,Bo,Bt,Bp]))
      focus(refine wpAnyH_done (by kernel_rfl) ?_ _)
      rotate_left
      exact AllReadyH.nil;exact AllReadyH.nil;exact AllReadyH.nil;refine AllReadyH.cons rfl (λK hK=>?_) ?_;focus(go_simp;(go_at_call 44;refine(dY.1 _ (by first|exact(Below.refl _ _).drew|exact Below.refl _ _)).mono ?_;rintro e w2 ⟨⟨s3,p3,n3,c3,t3,q3,m3,d3,rfl,cD⟩,aX⟩;have bC:=Kh (show Below I.heap.size I w2 from(by first|exact(Below.refl _ I).drew.trans aX|exact aX));have mA:=Kh cD;have Z:=Kh (hB.1.keep bC.1);have Y:=Kh (show Cells4 I.drew g (k*4) s5 p5 n5 c5 t5 q5 m5 d5 from hB.1);clear cD);(first|done|with_reducible refine hK.out _ _ ?_ (λhHeld1=>?_) |(go_wp2_with fail;with_reducible refine hK.out _ _ ?_ (λhHeld1=>?_))))
      focus((try dsimp only);(first|with_reducible assumption |(refine A6 (by with_reducible assumption) ?_;assumption)))
      focus(clear hK K hHeld0;(try simp only[Act.put,Bo,Bt,Bp]))
      refine aV [5] ?_;refine AllReadyH.cons rfl (λK hK=>?_) ?_;focus(go_simp;refine hK.out _ _ ?_ (λhHeld2=>?_))
      focus((try dsimp only);(first|with_reducible assumption |(refine A6 (by with_reducible assumption) ?_;assumption)))
      focus(clear hK K hHeld1;(try simp only[Act.put,Bo,Bt,Bp]))
      refine aV [12] ?_;refine AllReadyH.cons rfl (λK hK=>?_) ?_;focus(go_simp;(go_at_call 39;(first|rw[Ag Z.1.1,Ag Z.1.2.1,Ag Z.1.2.2.1,Ag Z.1.2.2.2]|rw[Ag Y.1.1,Ag Y.1.2.1,Ag Y.1.2.2.1,Ag Y.1.2.2.2]);refine(Gh s5 p5 n5 c5 t5 q5 m5 d5 u1 s3 p3 n3 c3 t3 q3 m3 d3 ((b:Rat)*f k) _ (HY.1.keep bC.1) mA.1 (by have:=oK.1;omega) (by have:=oJ.1;omega)).mono ?_;rintro e w4 ⟨⟨s6,p6,n6,c6,t6,q6,m6,d6,rfl,gN⟩,mE⟩;have bE:Below I.heap.size I w4:=bC.1.trans (mE.mono bC.1.size);have cC:=Kh ((bA.1.keep bE).upd hlt (HU.1▸gN));have gS:=Kh (V.1.trans (bE.mono (nS (Nat.le_of_eq cA.symm) V.1.size)));clear gN bE aX);(first|done|with_reducible refine hK.out _ _ ?_ (λhHeld3=>?_) |(go_wp2_with fail;with_reducible refine hK.out _ _ ?_ (λhHeld3=>?_))))
      focus((try dsimp only);(first|with_reducible assumption |(refine A6 (by with_reducible assumption) ?_;assumption)))
      focus(clear hK K hHeld2;(try simp only[Act.put,Bo,Bt,Bp]))
      refine Lw 13 ?_;refine aV [14] ?_;refine AllReadyH.cons rfl (λK hK=>?_) ?_;focus(go_simp;refine hK.out _ _ ?_ (λhHeld4=>?_))
      focus((try dsimp only);(refine D3 ?_ ?_ ?_ ?_ ?_ ?_ ?_ ?_ ?_ ?_ ?_ ?_ ?_ ?_ ?_ ?_ ?_ ?_ ?_ ?_ ?_ ?_ ?_ ?_ ?_ ?_ ?_ ?_ ?_ ?_ ?_ ?_ ?_ ?_ ?_ ?_ ?_ ?_ ?_ ?_ ?_ <;> first|assumption|exact NotInt.bool _|exact NotInt.slice _ _ _ |(dsimp only;omega) |(simp;done)))
      focus(clear hK K hHeld3;(try simp only[Act.put,Bo,Bt,Bp]))
      focus(refine wpAnyH_done (by kernel_rfl) ?_ _)
      rotate_left
      exact AllReadyH.nil;exact AllReadyH.nil;exact AllReadyH.nil;exact AllReadyH.nil;all_goals have eP:=Kh (QAt.done cC.1 rfl)
      all_goals clear cC bA V
      all_goals go_wp2
      all_goals go_roundw
      all_goals first
       | exact⟨k+1,by omega,by go_num,eP.1,Bb gS.1⟩
       |(simp[intOf];omega)
     ·have HU:=Kh (show u1=F5 a b f n k by unfold F5;rw[cT.1,if_neg hkn,Rat.add_zero])
      have eP:=Kh (QAt.done bA.1 HU.1);go_wp2;go_roundw
      case rel=>exact⟨k+1,by omega,by go_num,eP.1,V.1⟩
      case measure=>simp[intOf];omega
  ·obtain rfl:k=N:=by omega
   go_wp2;go_ret;exact⟨⟨g,rfl,oW,gA.1⟩,HW.1.trans (gU.1.mono oW)⟩
/-! Everything but one block stays -/
theorem Af {w w':World} (g:Nat) (h:Below w.heap.size w w'):w.grownBy w' (some g):=⟨h.os,h.tape,h.output,h.size,λk I _=>h.block k I⟩
theorem Ad (w:World) (g i:Nat) (v:Value):w.grownBy (w.setCell ⟨g,i,none⟩ v) (some g):=
 ⟨rfl,rfl,rfl,by simp,λk J I=>Below.heap_setCell w ⟨g,i,none⟩ v k (λe=>I (by rw[e]))⟩
theorem Hm (w:World) (g i j k l:Nat) (v0 v1 v2 v3:Value):w.grownBy ((((w.setCell ⟨g,i,none⟩ v0).setCell ⟨g,j,none⟩ v1).setCell ⟨g,k,none⟩ v2).setCell ⟨g,l,none⟩ v3) (some g):=
 (((Ad w g i v0).trans (Ad _ g j v1)).trans (Ad _ g k v2)).trans (Ad _ g l v3)
theorem I32.but {w w':World} {g:Nat} (J:Sts w g) (h:w.grownBy w' (some g)):I32 w w':=
 ⟨h.size,λO i n e=>h.cell e (λI=>by
  injection I with I
  exact J.2 i _ (by rw[<-I];exact e) _ _ rfl)⟩
theorem QE.but {P:FP} (hP:Bu P) {w w':World} {g I i:Nat} (hs:Sts w g) (h:w.grownBy w' (some g)) (U:I≠g) (hq:QE P w I i):QE P w' I i:=by
 obtain⟨s,p,n,c,t,q,m,d,V,Y,Z,h3,h4⟩:=hq;have J:∀j v,w.cell? ⟨I,j,none⟩=some v->w'.cell? ⟨I,j,none⟩=some v:=λj v e=>h.cell e (λO=>by injection O with O;exact U O)
 exact⟨s,p,n,c,t,q,m,d,J _ _ V,J _ _ Y,J _ _ Z,J _ _ h3,hP _ _ _ _ _ _ _ _ _ _ (I32.but hs h) h4⟩
def PL (g:Nat) (f:Nat->Rat) (w:World) (v:Value) (n:Nat):Prop:=∃g' cap,v=.slice (some ⟨g',0,none⟩) n cap/\g<g'/\g'<w.heap.size/\∀j,j<n->QE (IsQ (f j)) w g' (j*4)
theorem PL.keep {g:Nat} {f:Nat->Rat} {w w':World} {v:Value} {n:Nat} (h:PL g f w v n) (I:Below w.heap.size w w'):PL g f w' v n:=by
 obtain⟨J,cap,e,O,U,V⟩:=h;exact⟨J,cap,e,O,nT U I.size,λj Y=>(V j Y).keep (IsQ.solid _) I⟩
theorem PL.but {g:Nat} {f:Nat->Rat} {w w':World} {v:Value} {n:Nat} (h:PL g f w v n) (Z:Sts w g) (I:w.grownBy w' (some g)):PL g f w' v n:=by
 obtain⟨J,cap,e,O,U,V⟩:=h;exact⟨J,cap,e,O,nT U I.size,λj Y=>(V j Y).but (IsQ.solid _) Z I (by omega)⟩
theorem PL.ql {g:Nat} {f:Nat->Rat} {w:World} {v:Value} {n:Nat} (h:PL g f w v n):QL (λj=>IsQ (f j)) w v n:=by
 obtain⟨I,cap,e,V,J,O⟩:=h;exact .inr ⟨I,0,cap,e,J,λj U=>by rw[Nat.zero_add];exact O j U⟩
theorem PL.congr {g:Nat} {f I:Nat->Rat} {w:World} {v:Value} {n:Nat} (h:PL g f w v n) (e:∀j,j<n->f j=I j):PL g I w v n:=by
 obtain⟨U,cap,O,V,Y,Z⟩:=h;exact⟨U,cap,O,V,Y,λj J=>by rw[<-e j J];exact Z j J⟩
def mixQ (f f':Nat->Rat) (k j:Nat):Rat:=if j<k then f' j else f j
theorem Vi (f I:Nat->Rat) (j:Nat):mixQ f I 0 j=f j:=if_neg (Nat.not_lt_zero _)
theorem Y7 {f I:Nat->Rat} {n j:Nat} (h:j<n):mixQ f I n j=I j:=if_pos h
theorem dG (f I:Nat->Rat) (k:Nat):mixQ f I k k=f k:=if_neg (Nat.lt_irrefl _)
theorem mixQ_far {f I:Nat->Rat} {k j:Nat} (J:j≠k):mixQ f I k j=mixQ f I (k+1) j:=by
 unfold mixQ;by_cases h1:j<k
 ·rw[if_pos h1,if_pos (by omega)]
 ·rw[if_neg h1,if_neg (by omega)]
theorem Y8 {f I:Nat->Rat} {w:World} {g n k:Nat} (h:QRow (λj=>IsQ (mixQ f I k j)) w g n n) (U:k<n) {s t:Bool} {p q:Option Addr} {i c m d:Nat} (hq:Qs w s p i c t q m d (I k)):
  QRow (λj=>IsQ (mixQ f I (k+1) j)) ((((w.setCell ⟨g,k*4,none⟩ (.bool s)).setCell ⟨g,k*4+1,none⟩ (.slice p i c)).setCell ⟨g,k*4+2,none⟩ (.bool t)).setCell ⟨g,k*4+3,none⟩ (.slice q m d)) g n n:=
 QRow.set (k':=n) (λ_=>IsQ.solid _) h k U (λj=>IsQ (mixQ f I (k+1) j)) (IsQ.solid _) (λj O J=>And.intro O (congrArg IsQ (mixQ_far J))) (show IsQ (mixQ f I (k+1) k) w s p i c t q m d by unfold mixQ;rw[if_pos (nU k)];exact hq)
theorem Ae {B:Nat} {b w w':World} {g:Nat} (h:Below B b w) (hg:w.grownBy w' (some g)) (J:B<=w.heap.size) (O:B<=g):Below B b w':=h.grown hg J (λk I=>by injection I with I;omega)
/-! The values -/
theorem Vd (q:Rat) (i:Nat) (a b c d:Int) (k j:Nat) (O:j<=k+1):
  F5 (if k<i then a else c) (if k<i then b else d) (λj=>q*(mv i a b c d k j:Int)) (k+1) j=q*(mv i a b c d (k+1) j:Int):=by
 have J:∀a b:Int,F5 a b (λj=>q*(mv i a b c d k j:Int)) (k+1) j=F5 a b (λj=>q*(mv i a b c d k j:Int)) (k+1) j:=λ_ _=>rfl
 have I:∀e f:Int,F5 e f (λj=>q*(mv i a b c d k j:Int)) (k+1) j=q*(lin e f (mv i a b c d k) j:Int):=by
  intro e f;rw[Rz];unfold F5;by_cases hjk:j<k+1
  ·rw[if_pos hjk]
  ·obtain rfl:j=k+1:=by omega
   rw[if_neg hjk,Ju i a b c d k (k+1) (nU k)];simp
 rw[I,mv];by_cases hk:k<i
 ·simp only[if_pos hk]
 ·simp only[if_neg hk]
theorem Dv {a:Int} (h:-1073741824<=a) (I:a<=1073741824):nd a.natAbs<=2:=Bj.2 (show a.natAbs<4294967296 ^ 2 by omega)
theorem K7 {x y:Int} {K:Nat} (hK:1<=K) (I:nd x.natAbs<=K) (J:nd y.natAbs<=K):hq (Rat.divInt x y)<=K:=by
 by_cases h:y=0
 ·subst h
  simp[hq,Cq,Ff];omega
 ·exact Dt h I J
theorem Px {q:Rat} {K i k j:Nat} {a b c d:Int} (Y:hq q<=K) (J:nd a.natAbs<=2) (O:nd b.natAbs<=2) (U:nd c.natAbs<=2) (V:nd d.natAbs<=2) (h:k<=30):hq (q*(mv i a b c d k j:Int))<=K+96:=by
 have I:=B7 q ((mv i a b c d k j:Int):Rat);have Z:=Tf i a b c d J O U V k j;rw[Ed]at I;omega
theorem Dz {q:Nat->Rat} {K w n j:Nat} {a b c d:Int} (I:∀i,i<n->hq (q i)<=K) (J:nd a.natAbs<=2) (O:nd b.natAbs<=2) (U:nd c.natAbs<=2) (V:nd d.natAbs<=2) (Z:w<=30) (hn:n<=30):hq (subst q w a b c d n j)<=30*K+3880:=by
 have h:=D2 (λi=>q i*(mv i a b c d w j:Int)) (K+96) n (λi Y=>Px (I i Y) J O U V Z);have h2:n*(K+96+1)<=30*(K+96+1):=Nat.mul_le_mul hn (nR _);unfold subst;omega
def IsB (K:Nat) (x y:Int):FP:=λw s p n c t q m d=>Zr w s p n c x/\Zr w t q m d y/\n<=K/\m<=K
theorem IsB.solid (K:Nat) (x y:Int):Bu (IsB K x y):=λ_ _ _ _ _ _ _ _ _ _ h hq=>⟨hq.1.i32 h,hq.2.1.i32 h,hq.2.2⟩
theorem Ph (K:Nat) (qX:1<=K) (hK:K<=1000000) (v:Value) (n:Nat) (x y:Nat->Int) (a b c d:Int) (w:World) (h:QL (λj=>IsB K (x j) (y j)) w v n) (h0:0<n) (hn:n<=30) (ha:-1073741824<=a) (hV:a<=1073741824) (hb:-1073741824<=b) (hW:b<=1073741824) (hc:-1073741824<=c) (hX:c<=1073741824) (hd:-1073741824<=d) (hY:d<=1073741824):
  Calls prog 68 #[v,.agg #[.int .i64 a,.int .i64 b,.int .i64 c,.int .i64 d]] w λe w'=>(∃g,e=.returned (.slice (some ⟨g,0,none⟩) n n)/\w.heap.size<=g/\QRow (λj=>IsQ (subst (λi=>Rat.divInt (x i) (y i)) (n - 1) a b c d n j)) w' g n n)/\Below w.heap.size w w':=by
 obtain⟨g1,o1,l1,rfl,rT,r1⟩:=h.resolve_left (λh=>by omega);obtain⟨m,hm⟩:∃m,n=m+1:=⟨n - 1,by omega⟩
 have rV:(n:Int) - 1=(m:Nat):=by omega
 have rX:IntKind.i64.wrap (m:Int)=(m:Nat):=IntWalk.i64_in _ (by omega);have rY:(m:Int)+1=(n:Nat):=by omega
 have rA:=Hx n (by omega);have oO:=Kh r1
 have nD:=Kh (λi (hi:i<n)=>show hq (Rat.divInt (x i) (y i))<=K by
  obtain⟨_,_,_,_,_,_,_,_,_,_,_,_,h5,h6,h7,h8⟩:=r1 i hi;exact K7 qX (nS h5.size h7) (nS h6.size h8))
 obtain⟨Q,hQ⟩:∃Q:Nat->Rat,(λi=>Rat.divInt (x i) (y i))=Q:=⟨_,rfl⟩
 have oM:=Kh (λi=>(congrFun hQ i:Rat.divInt (x i) (y i)=Q i));rw[hQ];simp only[oM.1]at nD;have hS:=Kh (λi (hi:i<n) k (hk:k<=m) j=>Px (q:=Q i) (i:=i) (k:=k) (j:=j) (nD.1 i hi) (Dv ha hV) (Dv hb hW) (Dv hc hX) (Dv hd hY) (by omega));have oS:=Kh (λi (hi:i<=n) j=>Dz (q:=Q) (w:=m) (n:=i) (j:=j) (λk hk=>nD.1 k (by omega)) (Dv ha hV) (Dv hb hW) (Dv hc hX) (Dv hd hY) (by omega) (by omega));obtain⟨SB,oY⟩:∃SB:Nat->Nat->Rat,(λi j=>subst Q m a b c d i j)=SB:=⟨_,rfl⟩
 obtain⟨Z,oW⟩:∃Z:Nat->Nat->Nat->Rat,(λi k j=>Q i*(mv i a b c d k j:Int))=Z:=⟨_,rfl⟩
 have gP:∀i j,subst Q m a b c d i j=SB i j:=λi j=>congrFun (congrFun oY i) j
 have cB:∀i k j,Q i*(mv i a b c d k j:Int)=Z i k j:=λi k j=>congrFun (congrFun (congrFun oW i) k) j
 have oQ:=Kh (λj=>(show SB 0 j=0 by rw[<-gP];rfl));have oR:=Kh (λi j=>(show SB (i+1) j=SB i j+Z i m j by rw[<-gP,<-gP,<-cB];rfl));have qP:=Kh (λi=>(show Z i 0 0=Q i by rw[<-cB];simp[mv]))
 have oK:=Kh (λi k j (hj:j<=k+1)=>(show F5 (if k<i then a else c) (if k<i then b else d) (Z i k) (k+1) j=Z i (k+1) j by
  have h1:=Vd (Q i) i a b c d k j hj;rw[show(λj=>Q i*(mv i a b c d k j:Int))=Z i k from funext (cB i k),cB]at h1;exact h1))
 have qQ:=Kh (λi j (h:Q i=0)=>(show Z i m j=0 by rw[<-cB,h,Rat.zero_mul]));rw[show n - 1=m by omega];simp only[gP]at oS ⊢;simp only[cB]at hS;have bE:=Kh (And.intro (And.intro ha hV) (And.intro (And.intro hb hW) (And.intro (And.intro hc hX) (And.intro hd hY))));have HM:=Kh hm;clear h r1 ha hV hb hW hc hX hd hY gP cB oY oW hQ hm;go_enter func68,ntmps68
 go_upto_region 3 with(fail)
 obtain⟨wm,iL⟩:∃wm,w.alloc (.cells #[.int .i64 a,.int .i64 b,.int .i64 c,.int .i64 d] 63)=wm:=⟨_,rfl⟩
 obtain⟨X0,cC⟩:=Gy w #[.int .i64 a,.int .i64 b,.int .i64 c,.int .i64 d] 63;rw[iL]at X0 cC;have cA:wm.heap.size=w.heap.size+1:=by rw[<-iL];simp
 have hT:=Kh (QRow.made (λ_=>IsQ 0) wm n);obtain⟨wn,mA⟩:∃wn,wm.alloc (.cells (madeCells #[.bool false,.slice none 0 0,.bool false,.slice none 0 0] (n*4)) 86)=wn:=⟨_,rfl⟩
 have nB:=Kh (show Below wm.heap.size wm wn from mA▸(Below.refl _ _).alloc (nR _) _);rw[mA]at hT;rw[iL,mA];have HW:=Kh cC;have HR:=Kh (λj (hj:j<n)=>QE.keep (IsB.solid _ _ _) (oO.1 j hj) cC);obtain⟨g,hg⟩:∃g,w.heap.size+1=g:=⟨_,rfl⟩
 rw[hg]at cA ⊢;rw[cA]at nB hT;obtain⟨gm,pE⟩:∃gm,w.heap.size=gm:=⟨_,rfl⟩
 rw[pE]at X0;have hU:=Kh X0;have pD:w.heap.size<=g:=by omega
 have rW:gm<g:=by omega
 have rH:g1<g:=by omega
 simp only[pE];clear X0 cC iL mA hg rA oO;go_wp2;go_loopw [21] (λi wr=>∃k:Nat,k<=n/\i=.int .i64 k/\QRow (λ_=>IsQ 0) wr g n k/\Below g wm wr) (λi _=>n - (intOf i).toNat)
 case atStart=>exact⟨0,Nat.zero_le _,rfl,hT.1,nB.1⟩
 case round=>
  obtain⟨k,hk,rfl,J,hB⟩:=hrel;have I:=Kh J;have V:=Kh hB;clear J hB nB hT;by_cases hlt:k<n
  ·go_wp2_with fail
   refine(En 0 wr (by omega) (by omega)).mono ?_;rintro e w3 ⟨⟨s3,p3,n3,c3,t3,q3,m3,d3,rfl,pI⟩,gA⟩;have bA:=QRow.keep (λ_=>IsQ.solid _) I.1 gA;have qR:=Kh (QAt.done (QAt.set (L:=λ_=>0) bA hlt pI) rfl);have dY:=Kh (V.1.trans (gA.mono (nS (Nat.le_of_eq cA.symm) V.1.size)));obtain⟨u0,rZ⟩:=nV (bA.has (k*4) (by omega));obtain⟨u1,sA⟩:=nV (bA.has (k*4+1) (by omega));obtain⟨u2,hu2⟩:=nV (bA.has (k*4+2) (by omega));obtain⟨u3,sB⟩:=nV (bA.has (k*4+3) (by omega));have f0:=bA.free (k*4) (by omega);have f1:=bA.free (k*4+1) (by omega);have f2:=bA.free (k*4+2) (by omega);have f3:=bA.free (k*4+3) (by omega);clear pI gA bA I V;go_wp2;go_roundw
   case rel=>exact⟨k+1,by omega,by go_num,qR.1,Bb dY.1⟩
   case measure=>simp[intOf];omega
  ·obtain rfl:n=k:=by omega
   have oP:=Kh (I.1.congr (G:=λj=>IsQ (SB 0 j)) (λj _=>by rw[oQ.1]));clear I hlt hk oQ;go_wp2;go_loopw [31] (λii wx=>∃i:Nat,i<=n/\ii=.int .i64 i/\QRow (λj=>IsQ (SB i j)) wx g n n/\Below g wm wx) (λii _=>n - (intOf ii).toNat)
   case atStart=>exact⟨0,Nat.zero_le _,rfl,oP.1,V.1⟩
   case round=>
    obtain⟨i,hi,rfl,J,hB⟩:=hrel;obtain⟨wx,rfl⟩:∃wx:World,wx=wr:=⟨_,rfl⟩
    clear oP V;have I:=Kh J;have V:=Kh hB;clear J hB;by_cases hlt:i<n
    ·have oZ:=V.1
     have cC:=Below.mono2 cA oZ;obtain⟨s',p',i1,c',t',q',m',d',a0,a1,a2,a3,hx⟩:=(HR.1 i hlt).keep (IsB.solid _ _ _) cC;have bY:=Kh hx;have nY:=Kh (λU (hb:Below wx.heap.size wx U)=>Nx s' p' i1 c' (x i) t' q' m' d' (y i) U (bY.1.1.keep hb) (bY.1.2.1.keep hb) (by have:=bY.1.2.2.1;omega) (by have:=bY.1.2.2.2;omega));have hR:=Kh (λU (hb:Below wx.heap.size wx U)=>Iu s' p' i1 c' (x i) t' q' m' d' (y i) U (bY.1.1.keep hb) (bY.1.2.1.keep hb) (by have:=bY.1.2.2.1;omega) (by have:=bY.1.2.2.2;omega));simp only[oM.1]at nY hR;have rU:(i:Int)<(n:Int):=by omega
     clear hx oZ cC;go_wp2_with fail
     refine(nY.1 _ ((Below.refl _ _).alloc (nR _) _)).mono ?_;rintro e w2 ⟨⟨rD,rfl,oD⟩,nZ⟩;have gL:=Kh (((Below.refl _ wx).alloc (nR _) (.cells #[.bool s',.slice p' i1 c',.bool t',.slice q' m' d'] 86)).trans (nZ.mono (by simp)));have hE:=(Blk.new wx 86 #[.bool s',.slice p' i1 c',.bool t',.slice q' m' d']).below_ nZ (by simp);have y0:w2.cell? ⟨wx.heap.size,0,none⟩=some (.bool s'):=hE.at_ 0 rfl;have y1:w2.cell? ⟨wx.heap.size,1,none⟩=some (.slice p' i1 c'):=hE.at_ 1 rfl;have y2:w2.cell? ⟨wx.heap.size,2,none⟩=some (.bool t'):=hE.at_ 2 rfl;have y3:w2.cell? ⟨wx.heap.size,3,none⟩=some (.slice q' m' d'):=hE.at_ 3 rfl;clear nZ nY a0 a1 a2 a3 hE;by_cases hz:rD=0
     ·have pH:=oD.1 hz
      have nW:=Kh (QRow.congr (G:=λj=>IsQ (SB (i+1) j)) (I.1.keep (λ_=>IsQ.solid _) gL.1) (λj _=>by rw[oR.1,qQ.1 i j pH,Rat.add_zero]));have oI:=Kh (V.1.trans (gL.1.mono (nS (Nat.le_of_eq cA.symm) V.1.size)));subst hz;clear oD pH hR I V;go_wp2;go_roundw
      case rel=>exact⟨i+1,by omega,by go_num,nW.1,oI.1⟩
      case measure=>simp[intOf];omega
     ·clear oD
      go_wp2_with fail
      refine(hR.1 _ gL.1).mono ?_;rintro e w3 ⟨⟨s3,p3,n3,c3,t3,q3,m3,d3,rfl,pM⟩,gA⟩;have oV:=Kh pM;have dY:=bt gL gA;clear pM gA hR y0 y1 y2 y3 gL;have oU:=Kh (V.1.trans (dY.1.mono (nS (Nat.le_of_eq cA.symm) V.1.size)));have hZ:g<w3.heap.size:=nT I.1.sts.1 dY.1.size;obtain⟨wi,oE⟩:∃wi,w3.alloc (.cells #[.bool s3,.slice p3 n3 c3,.bool t3,.slice q3 m3 d3] 86)=wi:=⟨_,rfl⟩
      have gU:Below w3.heap.size w3 wi:=oE▸(Below.refl _ _).alloc (nR _) _;have cF:=Blk.new w3 86 #[.bool s3,.slice p3 n3 c3,.bool t3,.slice q3 m3 d3];rw[oE]at cF
      have mC:=Kh (show PL g (Z i 0) wi (.slice (some ⟨w3.heap.size,0,none⟩) 1 1) 1 from⟨_,_,rfl,hZ,cF.lt,λj hj=>by
       obtain rfl:j=0:=by omega
       exact⟨_,_,_,_,_,_,_,_,cF.at_ 0 rfl,cF.at_ 1 rfl,cF.at_ 2 rfl,cF.at_ 3 rfl,show Qs wi s3 p3 n3 c3 t3 q3 m3 d3 (Z i 0 0)by rw[qP.1];exact oV.1.keep gU⟩⟩)
      have oN:=Kh ((I.1.keep (λ_=>IsQ.solid _) dY.1).keep (λ_=>IsQ.solid _) gU);have nA:=Kh (oU.1.trans (gU.mono (Nat.le_of_lt hZ)));have oB:g<wi.heap.size:=nT hZ gU.size;clear oV dY oU gU cF I V hZ;go_wp2;clear oE;go_loopw [10,11] (λv1 kk wy=>∃k:Nat,k<=m/\kk=.int .i64 k/\PL g (Z i k) wy v1 (k+1)/\Below wi.heap.size wi wy) (λ_ kk _=>m - (intOf kk).toNat)
      case atStart=>exact⟨0,Nat.zero_le _,rfl,mC.1,Below.refl _ _⟩
      case round=>
       obtain⟨k,hk,rfl,gF,aX⟩:=hrel;obtain⟨wy,rfl⟩:∃wy:World,wy=wr:=⟨_,rfl⟩
       have bB:=Kh aX;have qZ:g<wy.heap.size:=nT oB aX.size;have hD:=Below.mono2 cA (nA.1.trans (aX.mono (Nat.le_of_lt oB)));have x0:=(bk hU hD).at_ 0 rfl;have x1:=(bk hU hD).at_ 1 rfl;have x2:=(bk hU hD).at_ 2 rfl;have x3:=(bk hU hD).at_ 3 rfl;clear mC aX hD;by_cases hkm:k<m
       ·by_cases oC:k<i
        ·have HL:=Kh (Pe u10 (k+1) (Z i k) a b wy gF.ql (by omega) (by omega) (by have:=bE.1;omega) (by have:=bE.1;omega) (by have:=bE.1;omega) (by have:=bE.1;omega) (λj _=>by have:=hS.1 i hlt k (by omega) j;omega))
         have HV:=Kh (λj (hj:j<k+1+1)=>(show F5 a b (Z i k) (k+1) j=Z i (k+1) j by have h1:=oK.1 i k j (by omega);simp only[if_pos oC]at h1;exact h1));clear gF;go_wp2_with fail
         refine HL.1.mono ?_;rintro e w5 ⟨⟨g5,rfl,pC,cD⟩,gS⟩;have gN:=Kh (show PL g (Z i (k+1)) w5 (.slice (some ⟨g5,0,none⟩) (k+1+1) (k+1+1)) (k+1+1)from⟨g5,_,rfl,by omega,cD.sts.1,λj hj=>by have h1:=cD.val j hj;rw[HV.1 j hj]at h1;exact h1⟩);have mE:=bt bB gS;clear cD gS HL HV bB;go_wp2;go_roundw
         case rel=>exact⟨k+1,by omega,by go_num,gN.1,mE.1⟩
         case measure=>simp[intOf];omega
        ·have HL:=Kh (Pe u10 (k+1) (Z i k) c d wy gF.ql (by omega) (by omega) (by have:=bE.1;omega) (by have:=bE.1;omega) (by have:=bE.1;omega) (by have:=bE.1;omega) (λj _=>by have:=hS.1 i hlt k (by omega) j;omega))
         have HV:=Kh (λj (hj:j<k+1+1)=>(show F5 c d (Z i k) (k+1) j=Z i (k+1) j by have h1:=oK.1 i k j (by omega);simp only[if_neg oC]at h1;exact h1));clear gF;go_wp2_with fail
         refine HL.1.mono ?_;rintro e w5 ⟨⟨g5,rfl,pC,cD⟩,gS⟩;have gN:=Kh (show PL g (Z i (k+1)) w5 (.slice (some ⟨g5,0,none⟩) (k+1+1) (k+1+1)) (k+1+1)from⟨g5,_,rfl,by omega,cD.sts.1,λj hj=>by have h1:=cD.val j hj;rw[HV.1 j hj]at h1;exact h1⟩);have mE:=bt bB gS;clear cD gS HL HV bB;go_wp2;go_roundw
         case rel=>exact⟨k+1,by omega,by go_num,gN.1,mE.1⟩
         case measure=>simp[intOf];omega
       ·obtain rfl:m=k:=by omega
        have nX:=Kh ((oN.1.keep (λ_=>IsQ.solid _) bB.1).congr (G:=λj=>IsQ (mixQ (SB i) (SB (i+1)) 0 j)) (λj _=>by rw[Vi]));have qM:=Kh (nA.1.trans (bB.1.mono (Nat.le_of_lt oB)));rw[<-HM.1]at gF;obtain⟨g5,rG,rfl,pC,rI,pB⟩:=gF;have qN:=Kh pB;clear pB oN nA bB x0 x1 x2 x3 hkm;go_wp2;go_loopw [64] (λkk O=>∃k:Nat,k<=n/\kk=.int .i64 k/\QRow (λj=>IsQ (mixQ (SB i) (SB (i+1)) k j)) O g n n/\wy.grownBy O (some g)) (λkk _=>n - (intOf kk).toNat)
        case atStart=>exact⟨0,Nat.zero_le _,rfl,nX.1,Af g (Below.refl _ _)⟩
        case round=>
         obtain⟨k,hk,rfl,J,aX⟩:=hrel;obtain⟨O,rfl⟩:∃O:World,O=wr:=⟨_,rfl⟩
         have I:=Kh J;have bB:=Kh aX;have nC:=Kh (Ae qM.1 aX (Nat.le_of_lt qZ) (nR _));by_cases hkn:k<n
         ·obtain⟨s',p',i1,c',t',q',m',d',a0,a1,a2,a3,hx⟩:=(qN.1 k hkn).but (IsQ.solid _) nX.1.sts aX (by omega)
          obtain⟨s5,p5,n5,c5,t5,q5,m5,d5,e0,e1,e2,e3,hy⟩:=J.val k hkn;have hP:=Kh (show Cells4 O g (k*4) s5 p5 n5 c5 t5 q5 m5 d5 from⟨e0,e1,e2,e3⟩);have cT:=Kh (show Cells4 O.drew g (k*4) s5 p5 n5 c5 t5 q5 m5 d5 from⟨e0,e1,e2,e3⟩);have pL:Qs O s5 p5 n5 c5 t5 q5 m5 d5 (SB i k):=by rw[<-dG (SB i) (SB (i+1)) k];exact hy
          have pK:Qs O s' p' i1 c' t' q' m' d' (Z i m k):=hx;have oH:=Kh (λU (hb:Below O.heap.size O U)=>Gh s5 p5 n5 c5 t5 q5 m5 d5 (SB i k) s' p' i1 c' t' q' m' d' (Z i m k) U (pL.keep hb) (pK.keep hb) (by have:=oS.1 i (by omega) k;omega) (by have:=hS.1 i hlt m (nR _) k;omega));simp only[<-oR.1]at oH;have oC:(k:Int)<(n:Int):=by omega
          have Y:=J;clear hx hy pL pK e0 e1 e2 e3 J aX;go_upto_region 22 with(fail)
          have oX:O.drew.cell? ⟨g5,k*4,none⟩=some (.bool s')/\O.drew.cell? ⟨g5,k*4+1,none⟩=some (.slice p' i1 c')/\O.drew.cell? ⟨g5,k*4+2,none⟩=some (.bool t')/\O.drew.cell? ⟨g5,k*4+3,none⟩=some (.slice q' m' d')/\O.drew.cell? ⟨g,k*4,none⟩=some (cellOf O.drew ⟨g,k*4,none⟩)/\O.drew.frozen? ⟨g,k*4,none⟩=false/\Sts O.drew (g)/\O.drew.cell? ⟨g,k*4+1,none⟩=some (cellOf O.drew ⟨g,k*4+1,none⟩)/\O.drew.frozen? ⟨g,k*4+1,none⟩=false/\Sts O.drew (g)/\O.drew.cell? ⟨g,k*4+2,none⟩=some (cellOf O.drew ⟨g,k*4+2,none⟩)/\O.drew.frozen? ⟨g,k*4+2,none⟩=false/\Sts O.drew (g)/\O.drew.cell? ⟨g,k*4+3,none⟩=some (cellOf O.drew ⟨g,k*4+3,none⟩)/\O.drew.frozen? ⟨g,k*4+3,none⟩=false/\Sts O.drew (g)/\Below g wm O.drew/\g<=O.drew.heap.size:=Da (Below.refl _ O).drew ⟨a0,a1,a2,a3,Ar (Y.has _ (by omega)),Y.free _ (by omega),Y.sts,Ar (Y.has _ (by omega)),Y.free _ (by omega),Y.sts,Ar (Y.has _ (by omega)),Y.free _ (by omega),Y.sts,Ar (Y.has _ (by omega)),Y.free _ (by omega),Y.sts,nC.1,nS (Nat.le_of_eq cA.symm) (Below.size nC.1)⟩;clear a0 a1 a2 a3 Y;have M1:True:=trivial;refine wp_region_held_drew (S:=(λU=>U.cell? ⟨g5,k*4,none⟩=some (.bool s')/\U.cell? ⟨g5,k*4+1,none⟩=some (.slice p' i1 c')/\U.cell? ⟨g5,k*4+2,none⟩=some (.bool t')/\U.cell? ⟨g5,k*4+3,none⟩=some (.slice q' m' d')/\U.cell? ⟨g,k*4,none⟩=some (cellOf U ⟨g,k*4,none⟩)/\U.frozen? ⟨g,k*4,none⟩=false/\Sts U (g)/\U.cell? ⟨g,k*4+1,none⟩=some (cellOf U ⟨g,k*4+1,none⟩)/\U.frozen? ⟨g,k*4+1,none⟩=false/\Sts U (g)/\U.cell? ⟨g,k*4+2,none⟩=some (cellOf U ⟨g,k*4+2,none⟩)/\U.frozen? ⟨g,k*4+2,none⟩=false/\Sts U (g)/\U.cell? ⟨g,k*4+3,none⟩=some (cellOf U ⟨g,k*4+3,none⟩)/\U.frozen? ⟨g,k*4+3,none⟩=false/\Sts U (g)/\Below g wm U/\g<=U.heap.size)) (by kernel_rfl) ?_ (λhHeld0=>?_);focus((try dsimp only);with_reducible exact oX)
          refine Lw 0 ?_;refine Lw 1 ?_;refine Lw 2 ?_;refine Lw 3 ?_;refine Lw 4 ?_;refine Lw 6 ?_;refine Lw 7 ?_;refine Lw 8 ?_;refine Lw 9 ?_;refine aV [5] ?_;refine AllReadyH.cons rfl (λK hK=>?_) ?_;focus(go_simp;refine hK.out _ _ ?_ (λhHeld1=>?_))
          focus((try dsimp only);(first|with_reducible exact oX |(refine Da (by with_reducible assumption) ?_;assumption)))
          focus(clear hK K hHeld0;(try simp only[Act.put,Bo,Bt,Bp]))
          refine aV [10] ?_;refine AllReadyH.cons rfl (λK hK=>?_) ?_;focus(go_simp;(go_at_call 39;(first|rw[Ag cT.1.1,Ag cT.1.2.1,Ag cT.1.2.2.1,Ag cT.1.2.2.2]|rw[Ag hP.1.1,Ag hP.1.2.1,Ag hP.1.2.2.1,Ag hP.1.2.2.2]);refine(oH.1 _ (by first|exact(Below.refl _ _).drew|exact Below.refl _ _)).mono ?_;rintro e w4 ⟨⟨s6,p6,n6,c6,t6,q6,m6,d6,rfl,pN⟩,pA⟩;have oA:Below O.heap.size O w4:=(by first|exact(Below.refl _ O).drew.trans pA|exact pA);have oL:=Kh (Y8 (I.1.keep (λ_=>IsQ.solid _) oA) hkn pN);have qO:=Kh (bB.1.trans (Af g oA));clear pN oA);(first|done|with_reducible refine hK.out _ _ ?_ (λhHeld2=>?_) |(go_wp2_with fail;with_reducible refine hK.out _ _ ?_ (λhHeld2=>?_))))
          focus((try dsimp only);(refine Da (by with_reducible assumption) ?_;assumption))
          focus(clear hK K hHeld1;(try simp only[Act.put,Bo,Bt,Bp]))
          refine Lw 11 ?_;refine aV [12] ?_;refine AllReadyH.cons rfl (λK hK=>?_) ?_;focus(go_simp;refine hK.out _ _ ?_ (λhHeld3=>?_))
          focus((try dsimp only);(refine Kb ?_ ?_ ?_ ?_ ?_ ?_ ?_ ?_ ?_ ?_ ?_ ?_ ?_ ?_ ?_ ?_ ?_ ?_ ?_ ?_ ?_ ?_ ?_ ?_ ?_ <;> first|assumption|exact NotInt.bool _|exact NotInt.slice _ _ _ |(dsimp only;omega) |(simp;done)))
          focus(clear hK K hHeld2;(try simp only[Act.put,Bo,Bt,Bp]))
          focus(refine wpAnyH_done (by kernel_rfl) ?_ _)
          rotate_left
          exact AllReadyH.nil;exact AllReadyH.nil;exact AllReadyH.nil;all_goals go_wp2
          all_goals go_roundw
          all_goals first
           | exact⟨k+1,by omega,by go_num,oL.1,qO.1.trans (Hm _ _ _ _ _ _ _ _ _ _)⟩
           |(simp[intOf];omega)
         ·obtain rfl:n=k:=by omega
          have nW:=Kh (J.congr (G:=λj=>IsQ (SB (i+1) j)) (λj hj=>by rw[Y7 hj]));clear J aX I nX;go_wp2;go_roundw
          case rel=>exact⟨i+1,by omega,by go_num,nW.1,nC.1⟩
          case measure=>simp[intOf];omega
    ·obtain rfl:n=i:=by omega
     go_wp2;go_ret;exact⟨⟨g,rfl,pD,I.1⟩,HW.1.trans (V.1.mono pD)⟩
theorem ZE.but {z:Int} {w w':World} {g I i:Nat} (hs:Sts w g) (h:w.grownBy w' (some g)) (O:I≠g) (hq:ZE z w I i):ZE z w' I i:=by
 obtain⟨s,p,n,c,V,Y,Z⟩:=hq;have U:∀j v,w.cell? ⟨I,j,none⟩=some v->w'.cell? ⟨I,j,none⟩=some v:=λj v e=>h.cell e (λJ=>by injection J with J;exact O J)
 exact⟨s,p,n,c,U _ _ V,U _ _ Y,Z.i32 (I32.but hs h)⟩
def Cells2 (w:World) (g i:Nat) (s:Bool) (p:Option Addr) (n c:Nat):Prop:=w.cell? ⟨g,i,none⟩=some (.bool s)/\w.cell? ⟨g,i+1,none⟩=some (.slice p n c)
theorem Cells2.keep {w w':World} {g i:Nat} {s:Bool} {p:Option Addr} {n c:Nat} (h:Cells2 w g i s p n c) (J:Below w.heap.size w w'):Cells2 w' g i s p n c:=by
 have I:∀j v,w.cell? ⟨g,j,none⟩=some v->w'.cell? ⟨g,j,none⟩=some v:=λj v e=>(J.cell (p:=⟨g,j,none⟩) (World.block_lt_of_cell? w ⟨g,j,none⟩ e)).trans e
 exact⟨I _ _ h.1,I _ _ h.2⟩
theorem Ki (w:World) (g i j:Nat) (v0 v1:Value):w.grownBy ((w.setCell ⟨g,i,none⟩ v0).setCell ⟨g,j,none⟩ v1) (some g):=(Ad w g i v0).trans (Ad _ g j v1)
end Go.Proofs.YtenlbhlllgppmaaGreatDoor
