/- Contract of paths.linear. -/
import Derived.Test.YtenlbhlllgppmaaGreatDoorA14
set_option linter.unusedSimpArgs false
set_option maxRecDepth 100000
set_option maxHeartbeats 8000000
namespace Go.Proofs.YtenlbhlllgppmaaGreatDoor
open Go.RowKit Tryz
/-! The contracts of the fractions' functions,for normalized arguments -/
theorem Cy (s:Bool) (p:Option Addr) (n c:Nat) (t:Bool) (q:Option Addr) (m d:Nat) (x:Rat) (Y:Bool) (p':Option Addr) (U J:Nat) (Z:Bool) (V:Option Addr) (O M:Nat) (y:Rat) (w:World) (h:Qs w s p n c t q m d x) (I:Qs w Y p' U J Z V O M y) (hx:hq x<=1000000000) (hy:hq y<=1000000000):
  Calls prog 44 #[.agg #[.bool s,.slice p n c,.bool t,.slice q m d],.agg #[.bool Y,.slice p' U J,.bool Z,.slice V O M]] w λe w'=>Gr w' e (x*y)/\Below w.heap.size w w':=by
 have h1:=eB s p n c x.num t q m d x.den Y p' U J y.num Z V O M y.den w h.1.raw h.2.raw I.1.raw I.2.raw (by have:=h.sizes;omega) (by have:=h.sizes;omega) (by have:=I.sizes;omega) (by have:=I.sizes;omega);rw[B7,B7]at h1;exact h1
theorem Fo (s:Bool) (p:Option Addr) (n c:Nat) (t:Bool) (q:Option Addr) (m d:Nat) (x:Rat) (Y:Bool) (p':Option Addr) (U J:Nat) (Z:Bool) (V:Option Addr) (O M:Nat) (y:Rat) (w:World) (h:Qs w s p n c t q m d x) (I:Qs w Y p' U J Z V O M y) (hx:hq x<=1000000000) (hy:hq y<=1000000000):
  Calls prog 39 #[.agg #[.bool s,.slice p n c,.bool t,.slice q m d],.agg #[.bool Y,.slice p' U J,.bool Z,.slice V O M]] w λe w'=>Gr w' e (x+y)/\Below w.heap.size w w':=by
 have h1:=V5 s p n c x.num t q m d x.den Y p' U J y.num Z V O M y.den w h.1.raw h.2.raw I.1.raw I.2.raw (by have:=h.sizes;omega) (by have:=h.sizes;omega) (by have:=I.sizes;omega) (by have:=I.sizes;omega) (Fc x) (Fc y);rw[B7,B7]at h1;exact h1
def QAt (L:Nat->Rat) (k:Nat) (r:Rat) (w:World) (g N:Nat):Prop:=QRow (λj=>IsQ (if j=k then r else L j)) w g N (k+1)
theorem QAt.keep {L:Nat->Rat} {k:Nat} {r:Rat} {w w':World} {g N:Nat} (h:QAt L k r w g N) (I:Below w.heap.size w w'):QAt L k r w' g N:=QRow.keep (λ_=>IsQ.solid _) h I
theorem QAt.set {L:Nat->Rat} {k:Nat} {r:Rat} {w:World} {g N:Nat} (h:QRow (λj=>IsQ (L j)) w g N k) (J:k<N) {s:Bool} {p:Option Addr} {n c:Nat} {t:Bool} {q:Option Addr} {m d:Nat} (hq:Qs w s p n c t q m d r):
  QAt L k r ((((w.setCell ⟨g,k*4,none⟩ (.bool s)).setCell ⟨g,k*4+1,none⟩ (.slice p n c)).setCell ⟨g,k*4+2,none⟩ (.bool t)).setCell ⟨g,k*4+3,none⟩ (.slice q m d)) g N:=
 QRow.set (λ_=>IsQ.solid _) h k J _ (IsQ.solid _) (λi M I=>⟨by omega,by rw[if_neg I]⟩) (show IsQ (if k=k then r else L k) w s p n c t q m d by rw[if_pos rfl];exact hq)
theorem QAt.upd {L:Nat->Rat} {k:Nat} {r O:Rat} {w:World} {g N:Nat} (h:QAt L k O w g N) (M:k<N) {s:Bool} {p:Option Addr} {n c:Nat} {t:Bool} {q:Option Addr} {m d:Nat} (hq:Qs w s p n c t q m d r):
  QAt L k r ((((w.setCell ⟨g,k*4,none⟩ (.bool s)).setCell ⟨g,k*4+1,none⟩ (.slice p n c)).setCell ⟨g,k*4+2,none⟩ (.bool t)).setCell ⟨g,k*4+3,none⟩ (.slice q m d)) g N:=
 QRow.set (λ_=>IsQ.solid _) h k M _ (IsQ.solid _) (λi J I=>⟨J,by rw[if_neg I,if_neg I]⟩) (show IsQ (if k=k then r else L k) w s p n c t q m d by rw[if_pos rfl];exact hq)
theorem QAt.done {L:Nat->Rat} {k:Nat} {r:Rat} {w:World} {g N:Nat} (h:QAt L k r w g N) (e:r=L k):QRow (λj=>IsQ (L j)) w g N (k+1):=
 QRow.congr h (λj _=>by
  by_cases hj:j=k
  ·rw[if_pos hj,hj,e]
  ·rw[if_neg hj])
theorem QAt.elem {L:Nat->Rat} {k:Nat} {r:Rat} {w:World} {g N:Nat} (h:QAt L k r w g N):QE (IsQ r) w g (k*4):=by
 have I:=QRow.val h k (mJ k)
 simpa using I
theorem Ae {w:World} {a:Addr} {v:Value} (h:w.cell? a=some v):cellOf w a=v:=by unfold cellOf;rw[h];rfl
def Cells4 (w:World) (g i:Nat) (s:Bool) (p:Option Addr) (n c:Nat) (t:Bool) (q:Option Addr) (m d:Nat):Prop:=
 w.cell? ⟨g,i,none⟩=some (.bool s)/\w.cell? ⟨g,i+1,none⟩=some (.slice p n c)/\w.cell? ⟨g,i+2,none⟩=some (.bool t)/\w.cell? ⟨g,i+3,none⟩=some (.slice q m d)
theorem Cells4.keep {w w':World} {g i:Nat} {s:Bool} {p:Option Addr} {n c:Nat} {t:Bool} {q:Option Addr} {m d:Nat} (h:Cells4 w g i s p n c t q m d) (J:Below w.heap.size w w'):Cells4 w' g i s p n c t q m d:=by
 have I:∀j v,w.cell? ⟨g,j,none⟩=some v->w'.cell? ⟨g,j,none⟩=some v:=λj v e=>(J.cell (p:=⟨g,j,none⟩) (World.block_lt_of_cell? w ⟨g,j,none⟩ e)).trans e
 exact⟨I _ _ h.1,I _ _ h.2.1,I _ _ h.2.2.1,I _ _ h.2.2.2⟩
theorem A5 {g:Nat} {w w':World} (h:Below g w w') {i j k l:Nat} {v0 v1 v2 v3:Value}:Below g w ((((w'.setCell ⟨g,i,none⟩ v0).setCell ⟨g,j,none⟩ v1).setCell ⟨g,k,none⟩ v2).setCell ⟨g,l,none⟩ v3):=
 (((h.setCell (p:=⟨g,i,none⟩) (mG _) v0).setCell (p:=⟨g,j,none⟩) (mG _) v1).setCell (p:=⟨g,k,none⟩) (mG _) v2).setCell (p:=⟨g,l,none⟩) (mG _) v3
theorem Below.mono2 {B:Nat} {w w':World} (e:w.heap.size=B) (h:Below B w w'):Below w.heap.size w w':=by rw[e];exact h
theorem iA {n i:Nat} {v:Value} (h:(madeCells #[.bool false,.slice none 0 0,.bool false,.slice none 0 0] n)[i]?=some v):NotInt v:=by
 unfold madeCells at h;simp only[Array.getElem?_map,Array.getElem?_range]at h;split at h
 ·simp only[Option.map_some]at h
  injection h with h
  rw[<-h];have J:=Nat.mod_lt i (show 0<4 by decide);have I:i % 4=0∨i % 4=1∨i % 4=2∨i % 4=3:=by omega
  show NotInt ((#[.bool false,.slice none 0 0,.bool false,.slice none 0 0]:Array Value)[i % 4]!);rcases I with I|I|I|I <;> rw[I] <;> first|exact NotInt.bool _|exact NotInt.slice _ _ _
 ·cases h
theorem QRow.made (F:Nat->FP) (w:World) (n:Nat):QRow F (w.alloc (.cells (madeCells #[.bool false,.slice none 0 0,.bool false,.slice none 0 0] (n*4)) 86)) w.heap.size n 0:=by
 have I:=Blk.new w 86 (madeCells #[.bool false,.slice none 0 0,.bool false,.slice none 0 0] (n*4));refine⟨Sts.of I ?_,λi _=>I.free_ i,λi J=>?_,λj M=>absurd M (Nat.not_lt_zero _)⟩
 ·intro v O
  obtain⟨i,J⟩:=Array.getElem?_of_mem O;exact iA J
 ·rw[I.cell_ i,Array.getElem?_eq_getElem (by rw[size_madeCells];exact J)];rfl
theorem Ir (n:Nat) (h:n<=1000000) (w:World):
  (Instr.makeSlice 30 (.int .i64 (n:Int)) (.int .i64 (n:Int))).run prog w=.ok (.slice (some ⟨w.heap.size,0,none⟩) n n) (w.alloc (.cells (madeCells #[.bool false,.slice none 0 0,.bool false,.slice none 0 0] (n*4)) 86)):=by
 obtain⟨i,O,I,J,M⟩:=info_parts F1;have hr:=run_make (P:=prog) w 30 86 i _ underlying30 O I .i64 .i64 n n (by omega) (Int.le_refl _) (by rw[M];omega) (by omega);rw[Int.toNat_natCast,J]at hr;exact hr
def Fg (a b:Int) (f:Nat->Rat) (n j:Nat):Rat:=(if 0<j then(a:Rat)*f (j - 1)else 0)+(if j<n then(b:Rat)*f j else 0)
theorem Oq (v:Value) (n:Nat) (f:Nat->Rat) (a b:Int) (w:World) (h:QL (λj=>IsQ (f j)) w v n) (h0:0<n) (hn:n<=1000) (ha:-1073741824<=a) (oL:a<=1073741824) (hb:-1073741824<=b) (oM:b<=1073741824) (hf:∀j,j<n->hq (f j)<=100000000):
  Calls prog 119 #[v,.int .i64 a,.int .i64 b] w λe w'=>(∃g,e=.returned (.slice (some ⟨g,0,none⟩) ((n+1:Nat)) ((n+1:Nat)))/\w.heap.size<=g/\QRow (λj=>IsQ (Fg a b f n j)) w' g (n+1) (n+1))/\Below w.heap.size w w':=by
 obtain⟨g1,o1,l1,rfl,gP,r1⟩:=h.resolve_left (λh=>by omega);have R1:=Kh r1;have HF:=Kh hf;have HA:=Kh (λJ=>Ey a J (by omega) (by omega));have mM:=Kh (λJ=>Ey b J (by omega) (by omega));have mP:=Kh (show hq (a:Rat)<=10 by rw[Gj];have:=Be.2 (show a.natAbs<4294967296 ^ 2 by omega);omega);have mQ:=Kh (show hq (b:Rat)<=10 by rw[Gj];have:=Be.2 (show b.natAbs<4294967296 ^ 2 by omega);omega);obtain⟨N,hN⟩:∃N,n+1=N:=⟨_,rfl⟩
 have pO:(n:Int)+1=(N:Nat):=by omega
 have oN:=Ir N (by omega);rw[hN];clear h r1 hf ha oL hb oM;go_enter func119,ntmps119
 go_wp2_with fail
 refine(HA.1 w).mono ?_;rintro e J ⟨⟨s1,p1,n1,c1,t1,q1,m1,d1,rfl,nG⟩,nC⟩;have mO:=Kh nG;have mL:=Kh nC;clear nG nC HA;go_wp2_with fail
 refine(mM.1 J).mono ?_;rintro e w2 ⟨⟨s2,p2,n2,c2,t2,q2,m2,d2,rfl,nH⟩,hT⟩;have hP:=Kh (And.intro (mO.1.keep hT) nH);have hL:=bt mL hT;clear nH hT mM mL mO;go_upto_region 3 with(fail)
 obtain⟨wm,gS⟩:∃wm,(w2.alloc (.cells #[.bool s1,.slice p1 n1 c1,.bool t1,.slice q1 m1 d1] 86)).alloc (.cells #[.bool s2,.slice p2 n2 c2,.bool t2,.slice q2 m2 d2] 86)=wm:=⟨_,rfl⟩
 obtain⟨X0,X1,aK⟩:=Oc w2 #[.bool s1,.slice p1 n1 c1,.bool t1,.slice q1 m1 d1] 86 #[.bool s2,.slice p2 n2 c2,.bool t2,.slice q2 m2 d2] 86;rw[gS]at X0 X1 aK;have bB:wm.heap.size=w2.heap.size+1+1:=by rw[<-gS];simp
 have eP:=Kh (QRow.made (λj=>IsQ (Fg a b f n j)) wm N);obtain⟨wn,gU⟩:∃wn,wm.alloc (.cells (madeCells #[.bool false,.slice none 0 0,.bool false,.slice none 0 0] (N*4)) 86)=wn:=⟨_,rfl⟩
 have hM:=Kh (show Below wm.heap.size wm wn from gU▸(Below.refl _ _).alloc (mG _) _);rw[gU]at eP;rw[gS,gU];have cV:=hL.1.trans (aK.mono hL.1.size);have HW:=Kh cV;have oJ:=Kh (hP.1.1.keep aK);have oK:=Kh (hP.1.2.keep aK);have hO:=Kh (mI gP cV.size);have HR:=Kh (λj (hj:j<n)=>QE.keep (IsQ.solid _) (R1.1 j hj) cV);obtain⟨gx,hV⟩:∃gx,w2.heap.size=gx:=⟨_,rfl⟩
 obtain⟨gy,hW⟩:∃gy,gx+1=gy:=⟨_,rfl⟩
 obtain⟨g,hg⟩:∃g,gy+1=g:=⟨_,rfl⟩
 rw[hV,hW,hg]at bB ⊢;rw[hV]at X0 X1;rw[hW]at X1;rw[bB]at hM eP hO;have gA:=Kh X0;have gF:=Kh X1;have nE:w.heap.size<=g:=by have:=cV.size;omega
 have gX:gx<g:=by omega
 have gY:gy<g:=by omega
 clear X0 X1 aK cV gS gU hP hL hV hW hg oN gP R1;go_wp2;go_loopw [21] (λi wr=>∃k:Nat,k<=N/\i=.int .i64 k/\QRow (λj=>IsQ (Fg a b f n j)) wr g N k/\Below g wm wr) (λi _=>N - (intOf i).toNat)
 case atStart=>exact⟨0,Nat.zero_le _,rfl,eP.1,hM.1⟩
 case round=>
  obtain⟨k,hk,rfl,hJ,nD⟩:=hrel;have cT:=Kh hJ;have dX:=Kh nD;clear hJ nD hM eP;by_cases hlt:k<N
  ·go_upto_region 6 with(fail)
   go_cut []from 24 to 27 (λwd=>QAt (Fg a b f n) k 0 wd g N/\Below g wm wd)
   case first=>
    go_wp2_with fail
    refine(Ey 0 wr (by omega) (by omega)).mono ?_;rintro e w3 ⟨⟨s3,p3,n3,c3,t3,q3,m3,d3,rfl,nI⟩,Z⟩;have bA:=QRow.keep (λ_=>IsQ.solid _) cT.1 Z;have aD:=Kh (QAt.set bA hlt nI);have aN:=Kh (dX.1.trans (Z.mono (mH (Nat.le_of_eq bB.symm) dX.1.size)));obtain⟨u0,pS⟩:=mK (bA.has (k*4) (by omega));obtain⟨u1,hX⟩:=mK (bA.has (k*4+1) (by omega));obtain⟨u2,hu2⟩:=mK (bA.has (k*4+2) (by omega));obtain⟨u3,pT⟩:=mK (bA.has (k*4+3) (by omega));have f0:=bA.free (k*4) (by omega);have f1:=bA.free (k*4+1) (by omega);have f2:=bA.free (k*4+2) (by omega);have f3:=bA.free (k*4+3) (by omega);clear nI Z bA;go_wp2;go_meet
    exact⟨aD.1,A5 aN.1⟩
   case rest=>
    obtain⟨cX,O⟩:=hcut;obtain⟨I,rfl⟩:∃I:World,I=wc:=⟨_,rfl⟩
    have aD:=Kh cX;have U:=Kh O;clear cX O cT dX;go_upto_if 29 with(fail)
    obtain⟨u1,hX⟩:∃u1,(if 0<k then(a:Rat)*f (k - 1)else 0)=u1:=⟨_,rfl⟩
    have cA:=Kh hX;clear hX;go_cut []from 29 to 39 (λwd=>QAt (Fg a b f n) k u1 wd g N/\Below g wm wd)
    case first=>
     by_cases hk0:0<k
     ·obtain⟨k1,nF⟩:∃k1,k=k1+1:=⟨k - 1,by omega⟩
      have HU:=Kh (show(a:Rat)*f k1=u1 by rw[<-cA.1,if_pos hk0,nF,Nat.add_sub_cancel]);have O:=U.1;have aK:=Below.mono2 bB O;obtain⟨s',p',i1,c',t',q',m',d',a0,a1,a2,a3,hx⟩:=(HR.1 k1 (by omega)).keep (IsQ.solid _) aK;have HP:=Kh (show Qs I s' p' i1 c' t' q' m' d' (f k1)from hx);have x0:=(gA.1.below_ O gX).at_ 0 rfl;have x1:=(gA.1.below_ O gX).at_ 1 rfl;have x2:=(gA.1.below_ O gX).at_ 2 rfl;have x3:=(gA.1.below_ O gX).at_ 3 rfl;have HX:=Kh (oJ.1.keep aK);have cF:=Kh (λJ (hb:Below I.heap.size I J)=>Cy s1 p1 n1 c1 t1 q1 m1 d1 (a:Rat) s' p' i1 c' t' q' m' d' (f k1) J (HX.1.keep hb) (HP.1.keep hb) (by have:=mP.1;omega) (by have:=HF.1 k1 (by omega);omega));rw[HU.1]at cF;have pC:(k:Int) - 1=(k1:Nat):=by omega
      have pB:k1<n:=by omega
      have pA:(k1:Int)<(n:Int):=by omega
      have pR:IntKind.i64.wrap (k1:Int)=(k1:Nat):=IntWalk.i64_in _ (by omega);have oZ:(0:Int)<=(k1:Int):=by omega
      have gP:=hO.1;have M:=aD.1;unfold QAt at M;clear hx O aK HX HP nF HU cA;go_upto_region 8 with(fail)
      have hR:I.drew.cell? ⟨gx,0,none⟩=some (.bool s1)/\I.drew.cell? ⟨gx,1,none⟩=some (.slice p1 n1 c1)/\I.drew.cell? ⟨gx,2,none⟩=some (.bool t1)/\I.drew.cell? ⟨gx,3,none⟩=some (.slice q1 m1 d1)/\I.drew.cell? ⟨g1,o1+k1*4,none⟩=some (.bool s')/\I.drew.cell? ⟨g1,o1+k1*4+1,none⟩=some (.slice p' i1 c')/\I.drew.cell? ⟨g1,o1+k1*4+2,none⟩=some (.bool t')/\I.drew.cell? ⟨g1,o1+k1*4+3,none⟩=some (.slice q' m' d')/\I.drew.cell? ⟨g,k*4,none⟩=some (cellOf I.drew ⟨g,k*4,none⟩)/\I.drew.frozen? ⟨g,k*4,none⟩=false/\Sts I.drew (g)/\I.drew.cell? ⟨g,k*4+1,none⟩=some (cellOf I.drew ⟨g,k*4+1,none⟩)/\I.drew.frozen? ⟨g,k*4+1,none⟩=false/\Sts I.drew (g)/\I.drew.cell? ⟨g,k*4+2,none⟩=some (cellOf I.drew ⟨g,k*4+2,none⟩)/\I.drew.frozen? ⟨g,k*4+2,none⟩=false/\Sts I.drew (g)/\I.drew.cell? ⟨g,k*4+3,none⟩=some (cellOf I.drew ⟨g,k*4+3,none⟩)/\I.drew.frozen? ⟨g,k*4+3,none⟩=false/\Sts I.drew (g)/\Below g wm I.drew/\g<=I.drew.heap.size:=A7 (Below.refl _ I).drew ⟨x0,x1,x2,x3,a0,a1,a2,a3,Am (M.has _ (by omega)),M.free _ (by omega),M.sts,Am (M.has _ (by omega)),M.free _ (by omega),M.sts,Am (M.has _ (by omega)),M.free _ (by omega),M.sts,Am (M.has _ (by omega)),M.free _ (by omega),M.sts,U.1,mH (Nat.le_of_eq bB.symm) (Below.size U.1)⟩;clear x0 x1 x2 x3 a0 a1 a2 a3 M;have M1:True:=trivial
      go_region_held3 (λJ=>J.cell? ⟨gx,0,none⟩=some (.bool s1)/\J.cell? ⟨gx,1,none⟩=some (.slice p1 n1 c1)/\J.cell? ⟨gx,2,none⟩=some (.bool t1)/\J.cell? ⟨gx,3,none⟩=some (.slice q1 m1 d1)/\J.cell? ⟨g1,o1+k1*4,none⟩=some (.bool s')/\J.cell? ⟨g1,o1+k1*4+1,none⟩=some (.slice p' i1 c')/\J.cell? ⟨g1,o1+k1*4+2,none⟩=some (.bool t')/\J.cell? ⟨g1,o1+k1*4+3,none⟩=some (.slice q' m' d')/\J.cell? ⟨g,k*4,none⟩=some (cellOf J ⟨g,k*4,none⟩)/\J.frozen? ⟨g,k*4,none⟩=false/\Sts J (g)/\J.cell? ⟨g,k*4+1,none⟩=some (cellOf J ⟨g,k*4+1,none⟩)/\J.frozen? ⟨g,k*4+1,none⟩=false/\Sts J (g)/\J.cell? ⟨g,k*4+2,none⟩=some (cellOf J ⟨g,k*4+2,none⟩)/\J.frozen? ⟨g,k*4+2,none⟩=false/\Sts J (g)/\J.cell? ⟨g,k*4+3,none⟩=some (cellOf J ⟨g,k*4+3,none⟩)/\J.frozen? ⟨g,k*4+3,none⟩=false/\Sts J (g)/\Below g wm J/\g<=J.heap.size)
       (first|with_reducible exact hR|with_reducible assumption |(refine A7 (by with_reducible assumption) ?_;assumption) |(refine D6 ?_ ?_ ?_ ?_ ?_ ?_ ?_ ?_ ?_ ?_ ?_ ?_ ?_ ?_ ?_ ?_ ?_ ?_ ?_ ?_ ?_ ?_ ?_ ?_ ?_ ?_ ?_ ?_ ?_ ?_ ?_ ?_ ?_ ?_ ?_ ?_ ?_ ?_ ?_ ?_ ?_ <;> first|assumption|exact NotInt.bool _|exact NotInt.slice _ _ _ |(dsimp only;omega) |(simp;done)))
       (first
        |(go_at_call 44;refine(cF.1 _ (by first|exact(Below.refl _ _).drew|exact Below.refl _ _)).mono ?_;rintro e w2 ⟨⟨s3,p3,n3,c3,t3,q3,m3,d3,rfl,bG⟩,Z⟩;have aX:Below I.heap.size I w2:=(by first|exact(Below.refl _ I).drew.trans Z|exact Z);have bE:=Kh ((aD.1.keep aX).upd hlt bG);have dE:=Kh (U.1.trans (aX.mono (mH (Nat.le_of_eq bB.symm) U.1.size)));clear bG aX))
      all_goals go_wp2
      all_goals go_meet
      all_goals exact⟨bE.1,A5 dE.1⟩
     ·have HU:=Kh (show 0=u1 by rw[<-cA.1,if_neg hk0])
      obtain rfl:k=0:=by omega
      go_wp2;go_meet
      exact⟨HU.1▸aD.1,U.1⟩
    case rest=>
     obtain⟨cX,O⟩:=hcut;clear aD U;obtain⟨I,rfl⟩:∃I:World,I=wc:=⟨_,rfl⟩
     have aD:=Kh cX;have U:=Kh O;clear cX O;by_cases hkn:k<n
     ·have HU:=Kh (show u1+(b:Rat)*f k=Fg a b f n k by unfold Fg;rw[cA.1,if_pos hkn])
      have mS:=Kh (show hq u1<=200000000 by
       rw[<-cA.1];split
       ·rename_i hk0
        have h1:=Cc (a:Rat) (f (k - 1));have h2:=mP.1;have h3:=HF.1 (k - 1) (by omega);omega
       ·simp[hq,Du,G9])
      have O:=U.1;have aK:=Below.mono2 bB O;obtain⟨s',p',i1,c',t',q',m',d',a0,a1,a2,a3,hx⟩:=(HR.1 k hkn).keep (IsQ.solid _) aK;have HP:=Kh (show Qs I s' p' i1 c' t' q' m' d' (f k)from hx);have x0:=(gF.1.below_ O gY).at_ 0 rfl;have x1:=(gF.1.below_ O gY).at_ 1 rfl;have x2:=(gF.1.below_ O gY).at_ 2 rfl;have x3:=(gF.1.below_ O gY).at_ 3 rfl;have HX:=Kh (oK.1.keep aK);have cF:=Kh (λJ (hb:Below I.heap.size I J)=>Cy s2 p2 n2 c2 t2 q2 m2 d2 (b:Rat) s' p' i1 c' t' q' m' d' (f k) J (HX.1.keep hb) (HP.1.keep hb) (by have:=mQ.1;omega) (by have:=HF.1 k hkn;omega));obtain⟨s5,p5,n5,c5,t5,q5,m5,d5,e0,e1,e2,e3,hy⟩:=aD.1.elem;have HY:=Kh (show Qs I s5 p5 n5 c5 t5 q5 m5 d5 u1 from hy);have dY:=Kh (show Cells4 I g (k*4) s5 p5 n5 c5 t5 q5 m5 d5 from⟨e0,e1,e2,e3⟩)
      have mR:=Kh (show hq ((b:Rat)*f k)<=200000000 by
       have h1:=Cc (b:Rat) (f k);have h2:=mQ.1;have h3:=HF.1 k hkn;omega)
      have pD:(k:Int)<(n:Int):=by omega
      have gP:=hO.1;have M:=aD.1;unfold QAt at M;clear hx O aK HX HP cA hy e0 e1 e2 e3;go_upto_region 10 with(fail)
      have hR:I.drew.cell? ⟨gy,0,none⟩=some (.bool s2)/\I.drew.cell? ⟨gy,1,none⟩=some (.slice p2 n2 c2)/\I.drew.cell? ⟨gy,2,none⟩=some (.bool t2)/\I.drew.cell? ⟨gy,3,none⟩=some (.slice q2 m2 d2)/\I.drew.cell? ⟨g1,o1+k*4,none⟩=some (.bool s')/\I.drew.cell? ⟨g1,o1+k*4+1,none⟩=some (.slice p' i1 c')/\I.drew.cell? ⟨g1,o1+k*4+2,none⟩=some (.bool t')/\I.drew.cell? ⟨g1,o1+k*4+3,none⟩=some (.slice q' m' d')/\I.drew.cell? ⟨g,k*4,none⟩=some (cellOf I.drew ⟨g,k*4,none⟩)/\I.drew.frozen? ⟨g,k*4,none⟩=false/\Sts I.drew (g)/\I.drew.cell? ⟨g,k*4+1,none⟩=some (cellOf I.drew ⟨g,k*4+1,none⟩)/\I.drew.frozen? ⟨g,k*4+1,none⟩=false/\Sts I.drew (g)/\I.drew.cell? ⟨g,k*4+2,none⟩=some (cellOf I.drew ⟨g,k*4+2,none⟩)/\I.drew.frozen? ⟨g,k*4+2,none⟩=false/\Sts I.drew (g)/\I.drew.cell? ⟨g,k*4+3,none⟩=some (cellOf I.drew ⟨g,k*4+3,none⟩)/\I.drew.frozen? ⟨g,k*4+3,none⟩=false/\Sts I.drew (g)/\Below g wm I.drew/\g<=I.drew.heap.size:=A7 (Below.refl _ I).drew ⟨x0,x1,x2,x3,a0,a1,a2,a3,Am (M.has _ (by omega)),M.free _ (by omega),M.sts,Am (M.has _ (by omega)),M.free _ (by omega),M.sts,Am (M.has _ (by omega)),M.free _ (by omega),M.sts,Am (M.has _ (by omega)),M.free _ (by omega),M.sts,U.1,mH (Nat.le_of_eq bB.symm) (Below.size U.1)⟩;clear x0 x1 x2 x3 a0 a1 a2 a3 M;have M1:True:=trivial;refine wp_region_held_drew (S:=(λJ=>J.cell? ⟨gy,0,none⟩=some (.bool s2)/\J.cell? ⟨gy,1,none⟩=some (.slice p2 n2 c2)/\J.cell? ⟨gy,2,none⟩=some (.bool t2)/\J.cell? ⟨gy,3,none⟩=some (.slice q2 m2 d2)/\J.cell? ⟨g1,o1+k*4,none⟩=some (.bool s')/\J.cell? ⟨g1,o1+k*4+1,none⟩=some (.slice p' i1 c')/\J.cell? ⟨g1,o1+k*4+2,none⟩=some (.bool t')/\J.cell? ⟨g1,o1+k*4+3,none⟩=some (.slice q' m' d')/\J.cell? ⟨g,k*4,none⟩=some (cellOf J ⟨g,k*4,none⟩)/\J.frozen? ⟨g,k*4,none⟩=false/\Sts J (g)/\J.cell? ⟨g,k*4+1,none⟩=some (cellOf J ⟨g,k*4+1,none⟩)/\J.frozen? ⟨g,k*4+1,none⟩=false/\Sts J (g)/\J.cell? ⟨g,k*4+2,none⟩=some (cellOf J ⟨g,k*4+2,none⟩)/\J.frozen? ⟨g,k*4+2,none⟩=false/\Sts J (g)/\J.cell? ⟨g,k*4+3,none⟩=some (cellOf J ⟨g,k*4+3,none⟩)/\J.frozen? ⟨g,k*4+3,none⟩=false/\Sts J (g)/\Below g wm J/\g<=J.heap.size)) (by kernel_rfl) ?_ (λhHeld0=>?_);focus((try dsimp only);with_reducible exact hR)
      refine K7 0 ?_;refine K7 1 ?_;refine K7 2 ?_;refine K7 3 ?_;refine K7 4 ?_;refine K7 6 ?_;refine K7 7 ?_;refine K7 8 ?_;refine K7 9 ?_;refine K7 10 ?_;refine Zb [5,11] ?_;refine AllReadyH.cons rfl (λK hK=>?_) ?_;focus(go_simp;refine hK.out _ _ ?_ (λhHeld1=>?_))
      focus((try dsimp only);(first|with_reducible assumption |(refine A7 (by with_reducible assumption) ?_;assumption)))
      focus(clear hK K hHeld0;(try simp only[Act.put,Br,Bt,Bs]))
      refine Zb [11] ?_;refine AllReadyH.cons rfl (λK hK=>?_) ?_;focus(go_simp;(go_at_call 44;refine(cF.1 _ (by first|exact(Below.refl _ _).drew|exact Below.refl _ _)).mono ?_;rintro e w2 ⟨⟨s3,p3,n3,c3,t3,q3,m3,d3,rfl,bG⟩,Z⟩;have aN:=Kh (show Below I.heap.size I w2 from(by first|exact(Below.refl _ I).drew.trans Z|exact Z));have hQ:=Kh bG;have Y:=Kh (dY.1.keep aN.1);have V:=Kh (show Cells4 I.drew g (k*4) s5 p5 n5 c5 t5 q5 m5 d5 from dY.1);clear bG);(first|done|with_reducible refine hK.out _ _ ?_ (λhHeld2=>?_) |(go_wp2_with fail;with_reducible refine hK.out _ _ ?_ (λhHeld2=>?_))))
      focus((try dsimp only);(first|with_reducible assumption |(refine A7 (by with_reducible assumption) ?_;assumption)))
      focus(clear hK K hHeld1;(try simp only[Act.put,Br,Bt,Bs]))
      refine Zb [12] ?_;refine AllReadyH.cons rfl (λK hK=>?_) ?_;focus(go_simp;(go_at_call 39;(first|rw[Ae Y.1.1,Ae Y.1.2.1,Ae Y.1.2.2.1,Ae Y.1.2.2.2]|rw[Ae V.1.1,Ae V.1.2.1,Ae V.1.2.2.1,Ae V.1.2.2.2]);refine(Fo s5 p5 n5 c5 t5 q5 m5 d5 u1 s3 p3 n3 c3 t3 q3 m3 d3 ((b:Rat)*f k) _ (HY.1.keep aN.1) hQ.1 (by have:=mS.1;omega) (by have:=mR.1;omega)).mono ?_;rintro e w4 ⟨⟨s6,p6,n6,c6,t6,q6,m6,d6,rfl,cY⟩,hU⟩;have aX:Below I.heap.size I w4:=aN.1.trans (hU.mono aN.1.size);have bE:=Kh ((aD.1.keep aX).upd hlt (HU.1▸cY));have dE:=Kh (U.1.trans (aX.mono (mH (Nat.le_of_eq bB.symm) U.1.size)));clear cY aX Z);(first|done|with_reducible refine hK.out _ _ ?_ (λhHeld3=>?_) |(go_wp2_with fail;with_reducible refine hK.out _ _ ?_ (λhHeld3=>?_))))
      focus((try dsimp only);(first|with_reducible assumption |(refine A7 (by with_reducible assumption) ?_;assumption)))
      focus(clear hK K hHeld2;(try simp only[Act.put,Br,Bt,Bs]))
      refine K7 13 ?_;refine Zb [14] ?_;refine AllReadyH.cons rfl (λK hK=>?_) ?_;focus(go_simp;refine hK.out _ _ ?_ (λhHeld4=>?_))
      focus((try dsimp only);(refine D6 ?_ ?_ ?_ ?_ ?_ ?_ ?_ ?_ ?_ ?_ ?_ ?_ ?_ ?_ ?_ ?_ ?_ ?_ ?_ ?_ ?_ ?_ ?_ ?_ ?_ ?_ ?_ ?_ ?_ ?_ ?_ ?_ ?_ ?_ ?_ ?_ ?_ ?_ ?_ ?_ ?_ <;> first|assumption|exact NotInt.bool _|exact NotInt.slice _ _ _ |(dsimp only;omega) |(simp;done)))
      focus(clear hK K hHeld3;(try simp only[Act.put,Br,Bt,Bs]))
      focus(refine wpAnyH_done (by kernel_rfl) ?_ _)
      rotate_left
      exact AllReadyH.nil;exact AllReadyH.nil;exact AllReadyH.nil;refine AllReadyH.cons rfl (λK hK=>?_) ?_;focus(go_simp;(go_at_call 44;refine(cF.1 _ (by first|exact(Below.refl _ _).drew|exact Below.refl _ _)).mono ?_;rintro e w2 ⟨⟨s3,p3,n3,c3,t3,q3,m3,d3,rfl,bG⟩,Z⟩;have aN:=Kh (show Below I.heap.size I w2 from(by first|exact(Below.refl _ I).drew.trans Z|exact Z));have hQ:=Kh bG;have Y:=Kh (dY.1.keep aN.1);have V:=Kh (show Cells4 I.drew g (k*4) s5 p5 n5 c5 t5 q5 m5 d5 from dY.1);clear bG);(first|done|with_reducible refine hK.out _ _ ?_ (λhHeld1=>?_) |(go_wp2_with fail;with_reducible refine hK.out _ _ ?_ (λhHeld1=>?_))))
      focus((try dsimp only);(first|with_reducible assumption |(refine A7 (by with_reducible assumption) ?_;assumption)))
      focus(clear hK K hHeld0;(try simp only[Act.put,Br,Bt,Bs]))
      refine Zb [5] ?_;refine AllReadyH.cons rfl (λK hK=>?_) ?_;focus(go_simp;refine hK.out _ _ ?_ (λhHeld2=>?_))
      focus((try dsimp only);(first|with_reducible assumption |(refine A7 (by with_reducible assumption) ?_;assumption)))
      focus(clear hK K hHeld1;(try simp only[Act.put,Br,Bt,Bs]))
      refine Zb [12] ?_;refine AllReadyH.cons rfl (λK hK=>?_) ?_;focus(go_simp;(go_at_call 39;(first|rw[Ae Y.1.1,Ae Y.1.2.1,Ae Y.1.2.2.1,Ae Y.1.2.2.2]|rw[Ae V.1.1,Ae V.1.2.1,Ae V.1.2.2.1,Ae V.1.2.2.2]);refine(Fo s5 p5 n5 c5 t5 q5 m5 d5 u1 s3 p3 n3 c3 t3 q3 m3 d3 ((b:Rat)*f k) _ (HY.1.keep aN.1) hQ.1 (by have:=mS.1;omega) (by have:=mR.1;omega)).mono ?_;rintro e w4 ⟨⟨s6,p6,n6,c6,t6,q6,m6,d6,rfl,cY⟩,hU⟩;have aX:Below I.heap.size I w4:=aN.1.trans (hU.mono aN.1.size);have bE:=Kh ((aD.1.keep aX).upd hlt (HU.1▸cY));have dE:=Kh (U.1.trans (aX.mono (mH (Nat.le_of_eq bB.symm) U.1.size)));clear cY aX Z);(first|done|with_reducible refine hK.out _ _ ?_ (λhHeld3=>?_) |(go_wp2_with fail;with_reducible refine hK.out _ _ ?_ (λhHeld3=>?_))))
      focus((try dsimp only);(first|with_reducible assumption |(refine A7 (by with_reducible assumption) ?_;assumption)))
      focus(clear hK K hHeld2;(try simp only[Act.put,Br,Bt,Bs]))
      refine K7 13 ?_;refine Zb [14] ?_;refine AllReadyH.cons rfl (λK hK=>?_) ?_;focus(go_simp;refine hK.out _ _ ?_ (λhHeld4=>?_))
      focus((try dsimp only);(refine D6 ?_ ?_ ?_ ?_ ?_ ?_ ?_ ?_ ?_ ?_ ?_ ?_ ?_ ?_ ?_ ?_ ?_ ?_ ?_ ?_ ?_ ?_ ?_ ?_ ?_ ?_ ?_ ?_ ?_ ?_ ?_ ?_ ?_ ?_ ?_ ?_ ?_ ?_ ?_ ?_ ?_ <;> first|assumption|exact NotInt.bool _|exact NotInt.slice _ _ _ |(dsimp only;omega) |(simp;done)))
      focus(clear hK K hHeld3;(try simp only[Act.put,Br,Bt,Bs]))
      focus(refine wpAnyH_done (by kernel_rfl) ?_ _)
      rotate_left
      exact AllReadyH.nil;exact AllReadyH.nil;exact AllReadyH.nil;exact AllReadyH.nil;all_goals have cG:=Kh (QAt.done bE.1 rfl)
      all_goals clear bE aD U
      all_goals go_wp2
      all_goals go_roundw
      all_goals first
       | exact⟨k+1,by omega,by go_num,cG.1,A5 dE.1⟩
       |(simp[intOf];omega)
     ·have HU:=Kh (show u1=Fg a b f n k by unfold Fg;rw[cA.1,if_neg hkn,Rat.add_zero])
      have cG:=Kh (QAt.done aD.1 HU.1);go_wp2;go_roundw
      case rel=>exact⟨k+1,by omega,by go_num,cG.1,U.1⟩
      case measure=>simp[intOf];omega
  ·obtain rfl:k=N:=by omega
   go_wp2;go_ret;exact⟨⟨g,rfl,nE,cT.1⟩,HW.1.trans (dX.1.mono nE)⟩
/-! Everything but one block stays -/
theorem Af {w w':World} (g:Nat) (h:Below w.heap.size w w'):w.grownBy w' (some g):=⟨h.os,h.tape,h.output,h.size,λk I _=>h.block k I⟩
theorem Ai (w:World) (g i:Nat) (v:Value):w.grownBy (w.setCell ⟨g,i,none⟩ v) (some g):=
 ⟨rfl,rfl,rfl,by simp,λk J I=>Below.heap_setCell w ⟨g,i,none⟩ v k (λe=>I (by rw[e]))⟩
theorem Gt (w:World) (g i j k l:Nat) (v0 v1 v2 v3:Value):w.grownBy ((((w.setCell ⟨g,i,none⟩ v0).setCell ⟨g,j,none⟩ v1).setCell ⟨g,k,none⟩ v2).setCell ⟨g,l,none⟩ v3) (some g):=
 (((Ai w g i v0).trans (Ai _ g j v1)).trans (Ai _ g k v2)).trans (Ai _ g l v3)
theorem I32.but {w w':World} {g:Nat} (J:Sts w g) (h:w.grownBy w' (some g)):I32 w w':=
 ⟨h.size,λM i n e=>h.cell e (λI=>by
  injection I with I
  exact J.2 i _ (by rw[<-I];exact e) _ _ rfl)⟩
theorem QE.but {P:FP} (hP:Bh P) {w w':World} {g I i:Nat} (hs:Sts w g) (h:w.grownBy w' (some g)) (O:I≠g) (hq:QE P w I i):QE P w' I i:=by
 obtain⟨s,p,n,c,t,q,m,d,U,V,Y,Z,h4⟩:=hq;have J:∀j v,w.cell? ⟨I,j,none⟩=some v->w'.cell? ⟨I,j,none⟩=some v:=λj v e=>h.cell e (λM=>by injection M with M;exact O M)
 exact⟨s,p,n,c,t,q,m,d,J _ _ U,J _ _ V,J _ _ Y,J _ _ Z,hP _ _ _ _ _ _ _ _ _ _ (I32.but hs h) h4⟩
def PL (g:Nat) (f:Nat->Rat) (w:World) (v:Value) (n:Nat):Prop:=∃g' cap,v=.slice (some ⟨g',0,none⟩) n cap/\g<g'/\g'<w.heap.size/\∀j,j<n->QE (IsQ (f j)) w g' (j*4)
theorem PL.keep {g:Nat} {f:Nat->Rat} {w w':World} {v:Value} {n:Nat} (h:PL g f w v n) (I:Below w.heap.size w w'):PL g f w' v n:=by
 obtain⟨J,cap,e,M,O,U⟩:=h;exact⟨J,cap,e,M,mI O I.size,λj V=>(U j V).keep (IsQ.solid _) I⟩
theorem PL.but {g:Nat} {f:Nat->Rat} {w w':World} {v:Value} {n:Nat} (h:PL g f w v n) (Y:Sts w g) (I:w.grownBy w' (some g)):PL g f w' v n:=by
 obtain⟨J,cap,e,M,O,U⟩:=h;exact⟨J,cap,e,M,mI O I.size,λj V=>(U j V).but (IsQ.solid _) Y I (by omega)⟩
theorem PL.ql {g:Nat} {f:Nat->Rat} {w:World} {v:Value} {n:Nat} (h:PL g f w v n):QL (λj=>IsQ (f j)) w v n:=by
 obtain⟨I,cap,e,U,J,M⟩:=h;exact .inr ⟨I,0,cap,e,J,λj O=>by rw[Nat.zero_add];exact M j O⟩
theorem PL.congr {g:Nat} {f I:Nat->Rat} {w:World} {v:Value} {n:Nat} (h:PL g f w v n) (e:∀j,j<n->f j=I j):PL g I w v n:=by
 obtain⟨O,cap,M,U,V,Y⟩:=h;exact⟨O,cap,M,U,V,λj J=>by rw[<-e j J];exact Y j J⟩
def mixQ (f f':Nat->Rat) (k j:Nat):Rat:=if j<k then f' j else f j
theorem Ug (f I:Nat->Rat) (j:Nat):mixQ f I 0 j=f j:=if_neg (Nat.not_lt_zero _)
theorem Xa {f I:Nat->Rat} {n j:Nat} (h:j<n):mixQ f I n j=I j:=if_pos h
theorem aP (f I:Nat->Rat) (k:Nat):mixQ f I k k=f k:=if_neg (Nat.lt_irrefl _)
theorem mixQ_far {f I:Nat->Rat} {k j:Nat} (J:j≠k):mixQ f I k j=mixQ f I (k+1) j:=by
 unfold mixQ;by_cases h1:j<k
 ·rw[if_pos h1,if_pos (by omega)]
 ·rw[if_neg h1,if_neg (by omega)]
theorem Xb {f I:Nat->Rat} {w:World} {g n k:Nat} (h:QRow (λj=>IsQ (mixQ f I k j)) w g n n) (O:k<n) {s t:Bool} {p q:Option Addr} {i c m d:Nat} (hq:Qs w s p i c t q m d (I k)):
  QRow (λj=>IsQ (mixQ f I (k+1) j)) ((((w.setCell ⟨g,k*4,none⟩ (.bool s)).setCell ⟨g,k*4+1,none⟩ (.slice p i c)).setCell ⟨g,k*4+2,none⟩ (.bool t)).setCell ⟨g,k*4+3,none⟩ (.slice q m d)) g n n:=
 QRow.set (k':=n) (λ_=>IsQ.solid _) h k O (λj=>IsQ (mixQ f I (k+1) j)) (IsQ.solid _) (λj M J=>And.intro M (congrArg IsQ (mixQ_far J))) (show IsQ (mixQ f I (k+1) k) w s p i c t q m d by unfold mixQ;rw[if_pos (mJ k)];exact hq)
theorem An {B:Nat} {b w w':World} {g:Nat} (h:Below B b w) (hg:w.grownBy w' (some g)) (J:B<=w.heap.size) (M:B<=g):Below B b w':=h.grown hg J (λk I=>by injection I with I;omega)
/-! The values -/
theorem Ub (q:Rat) (i:Nat) (a b c d:Int) (k j:Nat) (M:j<=k+1):
  Fg (if k<i then a else c) (if k<i then b else d) (λj=>q*(mv i a b c d k j:Int)) (k+1) j=q*(mv i a b c d (k+1) j:Int):=by
 have J:∀a b:Int,Fg a b (λj=>q*(mv i a b c d k j:Int)) (k+1) j=Fg a b (λj=>q*(mv i a b c d k j:Int)) (k+1) j:=λ_ _=>rfl
 have I:∀e f:Int,Fg e f (λj=>q*(mv i a b c d k j:Int)) (k+1) j=q*(lin e f (mv i a b c d k) j:Int):=by
  intro e f;rw[cJ];unfold Fg;by_cases hjk:j<k+1
  ·rw[if_pos hjk]
  ·obtain rfl:j=k+1:=by omega
   rw[if_neg hjk,I8 i a b c d k (k+1) (mJ k)];simp
 rw[I,mv];by_cases hk:k<i
 ·simp only[if_pos hk]
 ·simp only[if_neg hk]
theorem Dd {a:Int} (h:-1073741824<=a) (I:a<=1073741824):nd a.natAbs<=2:=Be.2 (show a.natAbs<4294967296 ^ 2 by omega)
theorem Kf {x y:Int} {K:Nat} (hK:1<=K) (I:nd x.natAbs<=K) (J:nd y.natAbs<=K):hq (Rat.divInt x y)<=K:=by
 by_cases h:y=0
 ·subst h
  simp[hq,Du,G9];omega
 ·exact Cz h I J
theorem O7 {q:Rat} {K i k j:Nat} {a b c d:Int} (V:hq q<=K) (J:nd a.natAbs<=2) (M:nd b.natAbs<=2) (O:nd c.natAbs<=2) (U:nd d.natAbs<=2) (Z:k<=30):hq (q*(mv i a b c d k j:Int))<=K+96:=by
 have I:=Cc q ((mv i a b c d k j:Int):Rat);have Y:=Sj i a b c d J M O U k j;rw[Gj]at I;omega
theorem Cs {q:Nat->Rat} {K w n j:Nat} {a b c d:Int} (I:∀i,i<n->hq (q i)<=K) (J:nd a.natAbs<=2) (M:nd b.natAbs<=2) (O:nd c.natAbs<=2) (U:nd d.natAbs<=2) (Y:w<=30) (hn:n<=30):hq (subst q w a b c d n j)<=30*K+3880:=by
 have Z:=Dm (λi=>q i*(mv i a b c d w j:Int)) (K+96) n (λi V=>O7 (I i V) J M O U Y);have h:n*(K+96+1)<=30*(K+96+1):=Nat.mul_le_mul hn (mG _);unfold subst;omega
def IsB (K:Nat) (x y:Int):FP:=λw s p n c t q m d=>Zr w s p n c x/\Zr w t q m d y/\n<=K/\m<=K
theorem IsB.solid (K:Nat) (x y:Int):Bh (IsB K x y):=λ_ _ _ _ _ _ _ _ _ _ h hq=>⟨hq.1.i32 h,hq.2.1.i32 h,hq.2.2⟩
theorem Ou (K:Nat) (pF:1<=K) (hK:K<=1000000) (v:Value) (n:Nat) (x y:Nat->Int) (a b c d:Int) (w:World) (h:QL (λj=>IsB K (x j) (y j)) w v n) (h0:0<n) (hn:n<=30) (ha:-1073741824<=a) (hI:a<=1073741824) (hb:-1073741824<=b) (hJ:b<=1073741824) (hc:-1073741824<=c) (hL:c<=1073741824) (hd:-1073741824<=d) (hM:d<=1073741824):
  Calls prog 68 #[v,.agg #[.int .i64 a,.int .i64 b,.int .i64 c,.int .i64 d]] w λe w'=>(∃g,e=.returned (.slice (some ⟨g,0,none⟩) n n)/\w.heap.size<=g/\QRow (λj=>IsQ (subst (λi=>Rat.divInt (x i) (y i)) (n - 1) a b c d n j)) w' g n n)/\Below w.heap.size w w':=by
 obtain⟨g1,o1,l1,rfl,qB,r1⟩:=h.resolve_left (λh=>by omega);obtain⟨m,hm⟩:∃m,n=m+1:=⟨n - 1,by omega⟩
 have qD:(n:Int) - 1=(m:Nat):=by omega
 have qF:IntKind.i64.wrap (m:Int)=(m:Nat):=IntWalk.i64_in _ (by omega);have qG:(m:Int)+1=(n:Nat):=by omega
 have pI:=Ir n (by omega);have mW:=Kh r1
 have hY:=Kh (λi (hi:i<n)=>show hq (Rat.divInt (x i) (y i))<=K by
  obtain⟨_,_,_,_,_,_,_,_,_,_,_,_,h5,h6,h7,h8⟩:=r1 i hi;exact Kf pF (mH h5.size h7) (mH h6.size h8))
 obtain⟨Q,hQ⟩:∃Q:Nat->Rat,(λi=>Rat.divInt (x i) (y i))=Q:=⟨_,rfl⟩
 have mU:=Kh (λi=>(congrFun hQ i:Rat.divInt (x i) (y i)=Q i));rw[hQ];simp only[mU.1]at hY;have hD:=Kh (λi (hi:i<n) k (hk:k<=m) j=>O7 (q:=Q i) (i:=i) (k:=k) (j:=j) (hY.1 i hi) (Dd ha hI) (Dd hb hJ) (Dd hc hL) (Dd hd hM) (by omega));have nA:=Kh (λi (hi:i<=n) j=>Cs (q:=Q) (w:=m) (n:=i) (j:=j) (λk hk=>hY.1 k (by omega)) (Dd ha hI) (Dd hb hJ) (Dd hc hL) (Dd hd hM) (by omega) (by omega));obtain⟨SB,nG⟩:∃SB:Nat->Nat->Rat,(λi j=>subst Q m a b c d i j)=SB:=⟨_,rfl⟩
 obtain⟨Y,nE⟩:∃Y:Nat->Nat->Nat->Rat,(λi k j=>Q i*(mv i a b c d k j:Int))=Y:=⟨_,rfl⟩
 have dC:∀i j,subst Q m a b c d i j=SB i j:=λi j=>congrFun (congrFun nG i) j
 have bC:∀i k j,Q i*(mv i a b c d k j:Int)=Y i k j:=λi k j=>congrFun (congrFun (congrFun nE i) k) j
 have mY:=Kh (λj=>(show SB 0 j=0 by rw[<-dC];rfl));have mZ:=Kh (λi j=>(show SB (i+1) j=SB i j+Y i m j by rw[<-dC,<-dC,<-bC];rfl));have oX:=Kh (λi=>(show Y i 0 0=Q i by rw[<-bC];simp[mv]))
 have mS:=Kh (λi k j (hj:j<=k+1)=>(show Fg (if k<i then a else c) (if k<i then b else d) (Y i k) (k+1) j=Y i (k+1) j by
  have h1:=Ub (Q i) i a b c d k j hj;rw[show(λj=>Q i*(mv i a b c d k j:Int))=Y i k from funext (bC i k),bC]at h1;exact h1))
 have oY:=Kh (λi j (h:Q i=0)=>(show Y i m j=0 by rw[<-bC,h,Rat.zero_mul]));rw[show n - 1=m by omega];simp only[dC]at nA ⊢;simp only[bC]at hD;have aX:=Kh (And.intro (And.intro ha hI) (And.intro (And.intro hb hJ) (And.intro (And.intro hc hL) (And.intro hd hM))));have HM:=Kh hm;clear h r1 ha hI hb hJ hc hL hd hM dC bC nG nE hQ hm;go_enter func68,ntmps68
 go_upto_region 3 with(fail)
 obtain⟨wm,hO⟩:∃wm,w.alloc (.cells #[.int .i64 a,.int .i64 b,.int .i64 c,.int .i64 d] 63)=wm:=⟨_,rfl⟩
 obtain⟨X0,bE⟩:=Gs w #[.int .i64 a,.int .i64 b,.int .i64 c,.int .i64 d] 63;rw[hO]at X0 bE;have bB:wm.heap.size=w.heap.size+1:=by rw[<-hO];simp
 have hE:=Kh (QRow.made (λ_=>IsQ 0) wm n);obtain⟨wn,hP⟩:∃wn,wm.alloc (.cells (madeCells #[.bool false,.slice none 0 0,.bool false,.slice none 0 0] (n*4)) 86)=wn:=⟨_,rfl⟩
 have hW:=Kh (show Below wm.heap.size wm wn from hP▸(Below.refl _ _).alloc (mG _) _);rw[hP]at hE;rw[hO,hP];have HW:=Kh bE;have HR:=Kh (λj (hj:j<n)=>QE.keep (IsB.solid _ _ _) (mW.1 j hj) bE);obtain⟨g,hg⟩:∃g,w.heap.size+1=g:=⟨_,rfl⟩
 rw[hg]at bB ⊢;rw[bB]at hW hE;obtain⟨gm,nM⟩:∃gm,w.heap.size=gm:=⟨_,rfl⟩
 rw[nM]at X0;have hG:=Kh X0;have nL:w.heap.size<=g:=by omega
 have qE:gm<g:=by omega
 have pP:g1<g:=by omega
 simp only[nM];clear X0 bE hO hP hg pI mW;go_wp2;go_loopw [21] (λi wr=>∃k:Nat,k<=n/\i=.int .i64 k/\QRow (λ_=>IsQ 0) wr g n k/\Below g wm wr) (λi _=>n - (intOf i).toNat)
 case atStart=>exact⟨0,Nat.zero_le _,rfl,hE.1,hW.1⟩
 case round=>
  obtain⟨k,hk,rfl,J,dY⟩:=hrel;have I:=Kh J;have U:=Kh dY;clear J dY hW hE;by_cases hlt:k<n
  ·go_wp2_with fail
   refine(Ey 0 wr (by omega) (by omega)).mono ?_;rintro e w3 ⟨⟨s3,p3,n3,c3,t3,q3,m3,d3,rfl,nQ⟩,cT⟩;have aD:=QRow.keep (λ_=>IsQ.solid _) I.1 cT;have oZ:=Kh (QAt.done (QAt.set (L:=λ_=>0) aD hlt nQ) rfl);have cF:=Kh (U.1.trans (cT.mono (mH (Nat.le_of_eq bB.symm) U.1.size)));obtain⟨u0,qH⟩:=mK (aD.has (k*4) (by omega));obtain⟨u1,qI⟩:=mK (aD.has (k*4+1) (by omega));obtain⟨u2,hu2⟩:=mK (aD.has (k*4+2) (by omega));obtain⟨u3,qJ⟩:=mK (aD.has (k*4+3) (by omega));have f0:=aD.free (k*4) (by omega);have f1:=aD.free (k*4+1) (by omega);have f2:=aD.free (k*4+2) (by omega);have f3:=aD.free (k*4+3) (by omega);clear nQ cT aD I U;go_wp2;go_roundw
   case rel=>exact⟨k+1,by omega,by go_num,oZ.1,A5 cF.1⟩
   case measure=>simp[intOf];omega
  ·obtain rfl:n=k:=by omega
   have mX:=Kh (I.1.congr (G:=λj=>IsQ (SB 0 j)) (λj _=>by rw[mY.1]));clear I hlt hk mY;go_wp2;go_loopw [31] (λii wx=>∃i:Nat,i<=n/\ii=.int .i64 i/\QRow (λj=>IsQ (SB i j)) wx g n n/\Below g wm wx) (λii _=>n - (intOf ii).toNat)
   case atStart=>exact⟨0,Nat.zero_le _,rfl,mX.1,U.1⟩
   case round=>
    obtain⟨i,hi,rfl,J,dY⟩:=hrel;obtain⟨wx,rfl⟩:∃wx:World,wx=wr:=⟨_,rfl⟩
    clear mX U;have I:=Kh J;have U:=Kh dY;clear J dY;by_cases hlt:i<n
    ·have nH:=U.1
     have bE:=Below.mono2 bB nH;obtain⟨s',p',i1,c',t',q',m',d',a0,a1,a2,a3,hx⟩:=(HR.1 i hlt).keep (IsB.solid _ _ _) bE;have bA:=Kh hx;have mA:=Kh (λO (hb:Below wx.heap.size wx O)=>R7 s' p' i1 c' (x i) t' q' m' d' (y i) O (bA.1.1.keep hb) (bA.1.2.1.keep hb) (by have:=bA.1.2.2.1;omega) (by have:=bA.1.2.2.2;omega));have hB:=Kh (λO (hb:Below wx.heap.size wx O)=>Lu s' p' i1 c' (x i) t' q' m' d' (y i) O (bA.1.1.keep hb) (bA.1.2.1.keep hb) (by have:=bA.1.2.2.1;omega) (by have:=bA.1.2.2.2;omega));simp only[mU.1]at mA hB;have qC:(i:Int)<(n:Int):=by omega
     clear hx nH bE;go_wp2_with fail
     refine(mA.1 _ ((Below.refl _ _).alloc (mG _) _)).mono ?_;rintro e w2 ⟨⟨pL,rfl,mL⟩,mB⟩;have cX:=Kh (((Below.refl _ wx).alloc (mG _) (.cells #[.bool s',.slice p' i1 c',.bool t',.slice q' m' d'] 86)).trans (mB.mono (by simp)));have eV:=(Blk.new wx 86 #[.bool s',.slice p' i1 c',.bool t',.slice q' m' d']).below_ mB (by simp);have y0:w2.cell? ⟨wx.heap.size,0,none⟩=some (.bool s'):=eV.at_ 0 rfl;have y1:w2.cell? ⟨wx.heap.size,1,none⟩=some (.slice p' i1 c'):=eV.at_ 1 rfl;have y2:w2.cell? ⟨wx.heap.size,2,none⟩=some (.bool t'):=eV.at_ 2 rfl;have y3:w2.cell? ⟨wx.heap.size,3,none⟩=some (.slice q' m' d'):=eV.at_ 3 rfl;clear mB mA a0 a1 a2 a3 eV;by_cases hz:pL=0
     ·have nP:=mL.1 hz
      have hZ:=Kh (QRow.congr (G:=λj=>IsQ (SB (i+1) j)) (I.1.keep (λ_=>IsQ.solid _) cX.1) (λj _=>by rw[mZ.1,oY.1 i j nP,Rat.add_zero]));have mQ:=Kh (U.1.trans (cX.1.mono (mH (Nat.le_of_eq bB.symm) U.1.size)));subst hz;clear mL nP hB I U;go_wp2;go_roundw
      case rel=>exact⟨i+1,by omega,by go_num,hZ.1,mQ.1⟩
      case measure=>simp[intOf];omega
     ·clear mL
      go_wp2_with fail
      refine(hB.1 _ cX.1).mono ?_;rintro e w3 ⟨⟨s3,p3,n3,c3,t3,q3,m3,d3,rfl,nU⟩,cT⟩;have nD:=Kh nU;have cF:=bt cX cT;clear nU cT hB y0 y1 y2 y3 cX;have nC:=Kh (U.1.trans (cF.1.mono (mH (Nat.le_of_eq bB.symm) U.1.size)));have hN:g<w3.heap.size:=mI I.1.sts.1 cF.1.size;obtain⟨wi,mM⟩:∃wi,w3.alloc (.cells #[.bool s3,.slice p3 n3 c3,.bool t3,.slice q3 m3 d3] 86)=wi:=⟨_,rfl⟩
      have dX:Below w3.heap.size w3 wi:=mM▸(Below.refl _ _).alloc (mG _) _;have bH:=Blk.new w3 86 #[.bool s3,.slice p3 n3 c3,.bool t3,.slice q3 m3 d3];rw[mM]at bH
      have hS:=Kh (show PL g (Y i 0) wi (.slice (some ⟨w3.heap.size,0,none⟩) 1 1) 1 from⟨_,_,rfl,hN,bH.lt,λj hj=>by
       obtain rfl:j=0:=by omega
       exact⟨_,_,_,_,_,_,_,_,bH.at_ 0 rfl,bH.at_ 1 rfl,bH.at_ 2 rfl,bH.at_ 3 rfl,show Qs wi s3 p3 n3 c3 t3 q3 m3 d3 (Y i 0 0)by rw[oX.1];exact nD.1.keep dX⟩⟩)
      have mV:=Kh ((I.1.keep (λ_=>IsQ.solid _) cF.1).keep (λ_=>IsQ.solid _) dX);have hV:=Kh (nC.1.trans (dX.mono (Nat.le_of_lt hN)));have mD:g<wi.heap.size:=mI hN dX.size;clear nD cF nC dX bH I U hN;go_wp2;clear mM;go_loopw [10,11] (λv1 kk wy=>∃k:Nat,k<=m/\kk=.int .i64 k/\PL g (Y i k) wy v1 (k+1)/\Below wi.heap.size wi wy) (λ_ kk _=>m - (intOf kk).toNat)
      case atStart=>exact⟨0,Nat.zero_le _,rfl,hS.1,Below.refl _ _⟩
      case round=>
       obtain⟨k,hk,rfl,cV,Z⟩:=hrel;obtain⟨wy,rfl⟩:∃wy:World,wy=wr:=⟨_,rfl⟩
       have aK:=Kh Z;have pH:g<wy.heap.size:=mI mD Z.size;have eP:=Below.mono2 bB (hV.1.trans (Z.mono (Nat.le_of_lt mD)));have x0:=(bk hG eP).at_ 0 rfl;have x1:=(bk hG eP).at_ 1 rfl;have x2:=(bk hG eP).at_ 2 rfl;have x3:=(bk hG eP).at_ 3 rfl;clear hS Z eP;by_cases hkm:k<m
       ·by_cases mE:k<i
        ·have HL:=Kh (Oq u10 (k+1) (Y i k) a b wy cV.ql (by omega) (by omega) (by have:=aX.1;omega) (by have:=aX.1;omega) (by have:=aX.1;omega) (by have:=aX.1;omega) (λj _=>by have:=hD.1 i hlt k (by omega) j;omega))
         have HV:=Kh (λj (hj:j<k+1+1)=>(show Fg a b (Y i k) (k+1) j=Y i (k+1) j by have h1:=mS.1 i k j (by omega);simp only[if_pos mE]at h1;exact h1));clear cV;go_wp2_with fail
         refine HL.1.mono ?_;rintro e w5 ⟨⟨g5,rfl,nK,bG⟩,dE⟩;have cY:=Kh (show PL g (Y i (k+1)) w5 (.slice (some ⟨g5,0,none⟩) (k+1+1) (k+1+1)) (k+1+1)from⟨g5,_,rfl,by omega,bG.sts.1,λj hj=>by have h1:=bG.val j hj;rw[HV.1 j hj]at h1;exact h1⟩);have hU:=bt aK dE;clear bG dE HL HV aK;go_wp2;go_roundw
         case rel=>exact⟨k+1,by omega,by go_num,cY.1,hU.1⟩
         case measure=>simp[intOf];omega
        ·have HL:=Kh (Oq u10 (k+1) (Y i k) c d wy cV.ql (by omega) (by omega) (by have:=aX.1;omega) (by have:=aX.1;omega) (by have:=aX.1;omega) (by have:=aX.1;omega) (λj _=>by have:=hD.1 i hlt k (by omega) j;omega))
         have HV:=Kh (λj (hj:j<k+1+1)=>(show Fg c d (Y i k) (k+1) j=Y i (k+1) j by have h1:=mS.1 i k j (by omega);simp only[if_neg mE]at h1;exact h1));clear cV;go_wp2_with fail
         refine HL.1.mono ?_;rintro e w5 ⟨⟨g5,rfl,nK,bG⟩,dE⟩;have cY:=Kh (show PL g (Y i (k+1)) w5 (.slice (some ⟨g5,0,none⟩) (k+1+1) (k+1+1)) (k+1+1)from⟨g5,_,rfl,by omega,bG.sts.1,λj hj=>by have h1:=bG.val j hj;rw[HV.1 j hj]at h1;exact h1⟩);have hU:=bt aK dE;clear bG dE HL HV aK;go_wp2;go_roundw
         case rel=>exact⟨k+1,by omega,by go_num,cY.1,hU.1⟩
         case measure=>simp[intOf];omega
       ·obtain rfl:m=k:=by omega
        have iL:=Kh ((mV.1.keep (λ_=>IsQ.solid _) aK.1).congr (G:=λj=>IsQ (mixQ (SB i) (SB (i+1)) 0 j)) (λj _=>by rw[Ug]));have oU:=Kh (hV.1.trans (aK.1.mono (Nat.le_of_lt mD)));rw[<-HM.1]at cV;obtain⟨g5,pO,rfl,nK,pQ,nJ⟩:=cV;have oV:=Kh nJ;clear nJ mV hV aK x0 x1 x2 x3 hkm;go_wp2;go_loopw [64] (λkk M=>∃k:Nat,k<=n/\kk=.int .i64 k/\QRow (λj=>IsQ (mixQ (SB i) (SB (i+1)) k j)) M g n n/\wy.grownBy M (some g)) (λkk _=>n - (intOf kk).toNat)
        case atStart=>exact⟨0,Nat.zero_le _,rfl,iL.1,Af g (Below.refl _ _)⟩
        case round=>
         obtain⟨k,hk,rfl,J,Z⟩:=hrel;obtain⟨M,rfl⟩:∃M:World,M=wr:=⟨_,rfl⟩
         have I:=Kh J;have aK:=Kh Z;have hX:=Kh (An oU.1 Z (Nat.le_of_lt pH) (mG _));by_cases hkn:k<n
         ·obtain⟨s',p',i1,c',t',q',m',d',a0,a1,a2,a3,hx⟩:=(oV.1 k hkn).but (IsQ.solid _) iL.1.sts Z (by omega)
          obtain⟨s5,p5,n5,c5,t5,q5,m5,d5,e0,e1,e2,e3,hy⟩:=J.val k hkn;have gY:=Kh (show Cells4 M g (k*4) s5 p5 n5 c5 t5 q5 m5 d5 from⟨e0,e1,e2,e3⟩);have cA:=Kh (show Cells4 M.drew g (k*4) s5 p5 n5 c5 t5 q5 m5 d5 from⟨e0,e1,e2,e3⟩);have nT:Qs M s5 p5 n5 c5 t5 q5 m5 d5 (SB i k):=by rw[<-aP (SB i) (SB (i+1)) k];exact hy
          have nS:Qs M s' p' i1 c' t' q' m' d' (Y i m k):=hx;have mP:=Kh (λO (hb:Below M.heap.size M O)=>Fo s5 p5 n5 c5 t5 q5 m5 d5 (SB i k) s' p' i1 c' t' q' m' d' (Y i m k) O (nT.keep hb) (nS.keep hb) (by have:=nA.1 i (by omega) k;omega) (by have:=hD.1 i hlt m (mG _) k;omega));simp only[<-mZ.1]at mP;have mE:(k:Int)<(n:Int):=by omega
          have V:=J;clear hx hy nT nS e0 e1 e2 e3 J Z;go_upto_region 22 with(fail)
          have nF:M.drew.cell? ⟨g5,k*4,none⟩=some (.bool s')/\M.drew.cell? ⟨g5,k*4+1,none⟩=some (.slice p' i1 c')/\M.drew.cell? ⟨g5,k*4+2,none⟩=some (.bool t')/\M.drew.cell? ⟨g5,k*4+3,none⟩=some (.slice q' m' d')/\M.drew.cell? ⟨g,k*4,none⟩=some (cellOf M.drew ⟨g,k*4,none⟩)/\M.drew.frozen? ⟨g,k*4,none⟩=false/\Sts M.drew (g)/\M.drew.cell? ⟨g,k*4+1,none⟩=some (cellOf M.drew ⟨g,k*4+1,none⟩)/\M.drew.frozen? ⟨g,k*4+1,none⟩=false/\Sts M.drew (g)/\M.drew.cell? ⟨g,k*4+2,none⟩=some (cellOf M.drew ⟨g,k*4+2,none⟩)/\M.drew.frozen? ⟨g,k*4+2,none⟩=false/\Sts M.drew (g)/\M.drew.cell? ⟨g,k*4+3,none⟩=some (cellOf M.drew ⟨g,k*4+3,none⟩)/\M.drew.frozen? ⟨g,k*4+3,none⟩=false/\Sts M.drew (g)/\Below g wm M.drew/\g<=M.drew.heap.size:=D4 (Below.refl _ M).drew ⟨a0,a1,a2,a3,Am (V.has _ (by omega)),V.free _ (by omega),V.sts,Am (V.has _ (by omega)),V.free _ (by omega),V.sts,Am (V.has _ (by omega)),V.free _ (by omega),V.sts,Am (V.has _ (by omega)),V.free _ (by omega),V.sts,hX.1,mH (Nat.le_of_eq bB.symm) (Below.size hX.1)⟩;clear a0 a1 a2 a3 V;have M1:True:=trivial;refine wp_region_held_drew (S:=(λO=>O.cell? ⟨g5,k*4,none⟩=some (.bool s')/\O.cell? ⟨g5,k*4+1,none⟩=some (.slice p' i1 c')/\O.cell? ⟨g5,k*4+2,none⟩=some (.bool t')/\O.cell? ⟨g5,k*4+3,none⟩=some (.slice q' m' d')/\O.cell? ⟨g,k*4,none⟩=some (cellOf O ⟨g,k*4,none⟩)/\O.frozen? ⟨g,k*4,none⟩=false/\Sts O (g)/\O.cell? ⟨g,k*4+1,none⟩=some (cellOf O ⟨g,k*4+1,none⟩)/\O.frozen? ⟨g,k*4+1,none⟩=false/\Sts O (g)/\O.cell? ⟨g,k*4+2,none⟩=some (cellOf O ⟨g,k*4+2,none⟩)/\O.frozen? ⟨g,k*4+2,none⟩=false/\Sts O (g)/\O.cell? ⟨g,k*4+3,none⟩=some (cellOf O ⟨g,k*4+3,none⟩)/\O.frozen? ⟨g,k*4+3,none⟩=false/\Sts O (g)/\Below g wm O/\g<=O.heap.size)) (by kernel_rfl) ?_ (λhHeld0=>?_);focus((try dsimp only);with_reducible exact nF)
          refine K7 0 ?_;refine K7 1 ?_;refine K7 2 ?_;refine K7 3 ?_;refine K7 4 ?_;refine K7 6 ?_;refine K7 7 ?_;refine K7 8 ?_;refine K7 9 ?_;refine Zb [5] ?_;refine AllReadyH.cons rfl (λK hK=>?_) ?_;focus(go_simp;refine hK.out _ _ ?_ (λhHeld1=>?_))
          focus((try dsimp only);(first|with_reducible exact nF |(refine D4 (by with_reducible assumption) ?_;assumption)))
          focus(clear hK K hHeld0;(try simp only[Act.put,Br,Bt,Bs]))
          refine Zb [10] ?_;refine AllReadyH.cons rfl (λK hK=>?_) ?_;focus(go_simp;(go_at_call 39;(first|rw[Ae cA.1.1,Ae cA.1.2.1,Ae cA.1.2.2.1,Ae cA.1.2.2.2]|rw[Ae gY.1.1,Ae gY.1.2.1,Ae gY.1.2.2.1,Ae gY.1.2.2.2]);refine(mP.1 _ (by first|exact(Below.refl _ _).drew|exact Below.refl _ _)).mono ?_;rintro e w4 ⟨⟨s6,p6,n6,c6,t6,q6,m6,d6,rfl,nV⟩,nI⟩;have mC:Below M.heap.size M w4:=(by first|exact(Below.refl _ M).drew.trans nI|exact nI);have mT:=Kh (Xb (I.1.keep (λ_=>IsQ.solid _) mC) hkn nV);have oW:=Kh (aK.1.trans (Af g mC));clear nV mC);(first|done|with_reducible refine hK.out _ _ ?_ (λhHeld2=>?_) |(go_wp2_with fail;with_reducible refine hK.out _ _ ?_ (λhHeld2=>?_))))
          focus((try dsimp only);(refine D4 (by with_reducible assumption) ?_;assumption))
          focus(clear hK K hHeld1;(try simp only[Act.put,Br,Bt,Bs]))
          refine K7 11 ?_;refine Zb [12] ?_;refine AllReadyH.cons rfl (λK hK=>?_) ?_;focus(go_simp;refine hK.out _ _ ?_ (λhHeld3=>?_))
          focus((try dsimp only);(refine N6 ?_ ?_ ?_ ?_ ?_ ?_ ?_ ?_ ?_ ?_ ?_ ?_ ?_ ?_ ?_ ?_ ?_ ?_ ?_ ?_ ?_ ?_ ?_ ?_ ?_ <;> first|assumption|exact NotInt.bool _|exact NotInt.slice _ _ _ |(dsimp only;omega) |(simp;done)))
          focus(clear hK K hHeld2;(try simp only[Act.put,Br,Bt,Bs]))
          focus(refine wpAnyH_done (by kernel_rfl) ?_ _)
          rotate_left
          exact AllReadyH.nil;exact AllReadyH.nil;exact AllReadyH.nil;all_goals go_wp2
          all_goals go_roundw
          all_goals first
           | exact⟨k+1,by omega,by go_num,mT.1,oW.1.trans (Gt _ _ _ _ _ _ _ _ _ _)⟩
           |(simp[intOf];omega)
         ·obtain rfl:n=k:=by omega
          have hZ:=Kh (J.congr (G:=λj=>IsQ (SB (i+1) j)) (λj hj=>by rw[Xa hj]));clear J Z I iL;go_wp2;go_roundw
          case rel=>exact⟨i+1,by omega,by go_num,hZ.1,hX.1⟩
          case measure=>simp[intOf];omega
    ·obtain rfl:n=i:=by omega
     go_wp2;go_ret;exact⟨⟨g,rfl,nL,I.1⟩,HW.1.trans (U.1.mono nL)⟩
theorem ZE.but {z:Int} {w w':World} {g I i:Nat} (Z:Sts w g) (h:w.grownBy w' (some g)) (M:I≠g) (hq:ZE z w I i):ZE z w' I i:=by
 obtain⟨s,p,n,c,U,V,Y⟩:=hq;have O:∀j v,w.cell? ⟨I,j,none⟩=some v->w'.cell? ⟨I,j,none⟩=some v:=λj v e=>h.cell e (λJ=>by injection J with J;exact M J)
 exact⟨s,p,n,c,O _ _ U,O _ _ V,Y.i32 (I32.but Z h)⟩
def Cells2 (w:World) (g i:Nat) (s:Bool) (p:Option Addr) (n c:Nat):Prop:=w.cell? ⟨g,i,none⟩=some (.bool s)/\w.cell? ⟨g,i+1,none⟩=some (.slice p n c)
theorem Cells2.keep {w w':World} {g i:Nat} {s:Bool} {p:Option Addr} {n c:Nat} (h:Cells2 w g i s p n c) (J:Below w.heap.size w w'):Cells2 w' g i s p n c:=by
 have I:∀j v,w.cell? ⟨g,j,none⟩=some v->w'.cell? ⟨g,j,none⟩=some v:=λj v e=>(J.cell (p:=⟨g,j,none⟩) (World.block_lt_of_cell? w ⟨g,j,none⟩ e)).trans e
 exact⟨I _ _ h.1,I _ _ h.2⟩
theorem Jq (w:World) (g i j:Nat) (v0 v1:Value):w.grownBy ((w.setCell ⟨g,i,none⟩ v0).setCell ⟨g,j,none⟩ v1) (some g):=(Ai w g i v0).trans (Ai _ g j v1)
end Go.Proofs.YtenlbhlllgppmaaGreatDoor
