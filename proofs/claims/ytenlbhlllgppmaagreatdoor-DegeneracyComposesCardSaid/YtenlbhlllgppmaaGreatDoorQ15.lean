/- Contract of paths.linear. -/
import Derived.Test.YtenlbhlllgppmaaGreatDoorQ14
set_option linter.unusedSimpArgs false
set_option maxRecDepth 100000
set_option maxHeartbeats 8000000
namespace Go.Proofs.YtenlbhlllgppmaaGreatDoor
open Go.RowKit Tryz
/-! The contracts of the fractions' functions,for normalized arguments -/
theorem Cy (s:Bool) (p:Option Addr) (n c:Nat) (t:Bool) (q:Option Addr) (m d:Nat) (x:Rat) (V:Bool) (p':Option Addr) (n' I:Nat) (Y:Bool) (U:Option Addr) (O J:Nat) (y:Rat) (w:World) (h:Qs w s p n c t q m d x) (H:Qs w V p' n' I Y U O J y) (hx:hq x<=1000000000) (hy:hq y<=1000000000):
  Calls prog 44 #[.agg #[.bool s,.slice p n c,.bool t,.slice q m d],.agg #[.bool V,.slice p' n' I,.bool Y,.slice U O J]] w λe w'=>Gr w' e (x*y)/\Below w.heap.size w w':=by
 have Z:=eB s p n c x.num t q m d x.den V p' n' I y.num Y U O J y.den w h.1.raw h.2.raw H.1.raw H.2.raw (by have:=h.sizes;omega) (by have:=h.sizes;omega) (by have:=H.sizes;omega) (by have:=H.sizes;omega);rw[B7,B7]at Z;exact Z
theorem Fo (s:Bool) (p:Option Addr) (n c:Nat) (t:Bool) (q:Option Addr) (m d:Nat) (x:Rat) (V:Bool) (p':Option Addr) (n' I:Nat) (Y:Bool) (U:Option Addr) (O J:Nat) (y:Rat) (w:World) (h:Qs w s p n c t q m d x) (H:Qs w V p' n' I Y U O J y) (hx:hq x<=1000000000) (hy:hq y<=1000000000):
  Calls prog 39 #[.agg #[.bool s,.slice p n c,.bool t,.slice q m d],.agg #[.bool V,.slice p' n' I,.bool Y,.slice U O J]] w λe w'=>Gr w' e (x+y)/\Below w.heap.size w w':=by
 have Z:=V5 s p n c x.num t q m d x.den V p' n' I y.num Y U O J y.den w h.1.raw h.2.raw H.1.raw H.2.raw (by have:=h.sizes;omega) (by have:=h.sizes;omega) (by have:=H.sizes;omega) (by have:=H.sizes;omega) (Fc x) (Fc y);rw[B7,B7]at Z;exact Z
def QAt (L:Nat->Rat) (k:Nat) (r:Rat) (w:World) (g N:Nat):Prop:=QRow (λj=>IsQ (if j=k then r else L j)) w g N (k+1)
theorem QAt.keep {L:Nat->Rat} {k:Nat} {r:Rat} {w w':World} {g N:Nat} (h:QAt L k r w g N) (H:Below w.heap.size w w'):QAt L k r w' g N:=QRow.keep (λ_=>IsQ.solid _) h H
theorem QAt.set {L:Nat->Rat} {k:Nat} {r:Rat} {w:World} {g N:Nat} (h:QRow (λj=>IsQ (L j)) w g N k) (I:k<N) {s:Bool} {p:Option Addr} {n c:Nat} {t:Bool} {q:Option Addr} {m d:Nat} (hq:Qs w s p n c t q m d r):
  QAt L k r ((((w.setCell ⟨g,k*4,none⟩ (.bool s)).setCell ⟨g,k*4+1,none⟩ (.slice p n c)).setCell ⟨g,k*4+2,none⟩ (.bool t)).setCell ⟨g,k*4+3,none⟩ (.slice q m d)) g N:=
 QRow.set (λ_=>IsQ.solid _) h k I _ (IsQ.solid _) (λi J H=>⟨by omega,by rw[if_neg H]⟩) (show IsQ (if k=k then r else L k) w s p n c t q m d by rw[if_pos rfl];exact hq)
theorem QAt.upd {L:Nat->Rat} {k:Nat} {r O:Rat} {w:World} {g N:Nat} (h:QAt L k O w g N) (J:k<N) {s:Bool} {p:Option Addr} {n c:Nat} {t:Bool} {q:Option Addr} {m d:Nat} (hq:Qs w s p n c t q m d r):
  QAt L k r ((((w.setCell ⟨g,k*4,none⟩ (.bool s)).setCell ⟨g,k*4+1,none⟩ (.slice p n c)).setCell ⟨g,k*4+2,none⟩ (.bool t)).setCell ⟨g,k*4+3,none⟩ (.slice q m d)) g N:=
 QRow.set (λ_=>IsQ.solid _) h k J _ (IsQ.solid _) (λi I H=>⟨I,by rw[if_neg H,if_neg H]⟩) (show IsQ (if k=k then r else L k) w s p n c t q m d by rw[if_pos rfl];exact hq)
theorem QAt.done {L:Nat->Rat} {k:Nat} {r:Rat} {w:World} {g N:Nat} (h:QAt L k r w g N) (e:r=L k):QRow (λj=>IsQ (L j)) w g N (k+1):=
 QRow.congr h (λj _=>by
  by_cases hj:j=k
  ·rw[if_pos hj,hj,e]
  ·rw[if_neg hj])
theorem QAt.elem {L:Nat->Rat} {k:Nat} {r:Rat} {w:World} {g N:Nat} (h:QAt L k r w g N):QE (IsQ r) w g (k*4):=by
 have H:=QRow.val h k (kW k)
 simpa using H
theorem Ae {w:World} {a:Addr} {v:Value} (h:w.cell? a=some v):cellOf w a=v:=by unfold cellOf;rw[h];rfl
def Cells4 (w:World) (g i:Nat) (s:Bool) (p:Option Addr) (n c:Nat) (t:Bool) (q:Option Addr) (m d:Nat):Prop:=
 w.cell? ⟨g,i,none⟩=some (.bool s)/\w.cell? ⟨g,i+1,none⟩=some (.slice p n c)/\w.cell? ⟨g,i+2,none⟩=some (.bool t)/\w.cell? ⟨g,i+3,none⟩=some (.slice q m d)
theorem Cells4.keep {w w':World} {g i:Nat} {s:Bool} {p:Option Addr} {n c:Nat} {t:Bool} {q:Option Addr} {m d:Nat} (h:Cells4 w g i s p n c t q m d) (I:Below w.heap.size w w'):Cells4 w' g i s p n c t q m d:=by
 have H:∀j v,w.cell? ⟨g,j,none⟩=some v->w'.cell? ⟨g,j,none⟩=some v:=λj v e=>(I.cell (p:=⟨g,j,none⟩) (World.block_lt_of_cell? w ⟨g,j,none⟩ e)).trans e
 exact⟨H _ _ h.1,H _ _ h.2.1,H _ _ h.2.2.1,H _ _ h.2.2.2⟩
theorem A5 {g:Nat} {w w':World} (h:Below g w w') {i j k l:Nat} {v0 v1 v2 v3:Value}:Below g w ((((w'.setCell ⟨g,i,none⟩ v0).setCell ⟨g,j,none⟩ v1).setCell ⟨g,k,none⟩ v2).setCell ⟨g,l,none⟩ v3):=
 (((h.setCell (p:=⟨g,i,none⟩) (kT _) v0).setCell (p:=⟨g,j,none⟩) (kT _) v1).setCell (p:=⟨g,k,none⟩) (kT _) v2).setCell (p:=⟨g,l,none⟩) (kT _) v3
theorem Below.mono2 {B:Nat} {w w':World} (e:w.heap.size=B) (h:Below B w w'):Below w.heap.size w w':=by rw[e];exact h
theorem iA {n i:Nat} {v:Value} (h:(madeCells #[.bool false,.slice none 0 0,.bool false,.slice none 0 0] n)[i]?=some v):NotInt v:=by
 unfold madeCells at h;simp only[Array.getElem?_map,Array.getElem?_range]at h;split at h
 ·simp only[Option.map_some]at h
  injection h with h
  rw[<-h];have I:=Nat.mod_lt i (show 0<4 by decide);have H:i % 4=0∨i % 4=1∨i % 4=2∨i % 4=3:=by omega
  show NotInt ((#[.bool false,.slice none 0 0,.bool false,.slice none 0 0]:Array Value)[i % 4]!);rcases H with H|H|H|H <;> rw[H] <;> first|exact NotInt.bool _|exact NotInt.slice _ _ _
 ·cases h
theorem QRow.made (F:Nat->FP) (w:World) (n:Nat):QRow F (w.alloc (.cells (madeCells #[.bool false,.slice none 0 0,.bool false,.slice none 0 0] (n*4)) 86)) w.heap.size n 0:=by
 have H:=Blk.new w 86 (madeCells #[.bool false,.slice none 0 0,.bool false,.slice none 0 0] (n*4));refine⟨Sts.of H ?_,λi _=>H.free_ i,λi I=>?_,λj J=>absurd J (Nat.not_lt_zero _)⟩
 ·intro v O
  obtain⟨i,I⟩:=Array.getElem?_of_mem O;exact iA I
 ·rw[H.cell_ i,Array.getElem?_eq_getElem (by rw[size_madeCells];exact I)];rfl
theorem Ir (n:Nat) (h:n<=1000000) (w:World):
  (Instr.makeSlice 30 (.int .i64 (n:Int)) (.int .i64 (n:Int))).run prog w=.ok (.slice (some ⟨w.heap.size,0,none⟩) n n) (w.alloc (.cells (madeCells #[.bool false,.slice none 0 0,.bool false,.slice none 0 0] (n*4)) 86)):=by
 obtain⟨i,O,H,I,J⟩:=info_parts F1;have hr:=run_make (P:=prog) w 30 86 i _ underlying30 O H .i64 .i64 n n (by omega) (Int.le_refl _) (by rw[J];omega) (by omega);rw[Int.toNat_natCast,I]at hr;exact hr
def Fg (a b:Int) (f:Nat->Rat) (n j:Nat):Rat:=(if 0<j then(a:Rat)*f (j - 1)else 0)+(if j<n then(b:Rat)*f j else 0)
theorem Oq (v:Value) (n:Nat) (f:Nat->Rat) (a b:Int) (w:World) (h:QL (λj=>IsQ (f j)) w v n) (h0:0<n) (hn:n<=1000) (ha:-1073741824<=a) (nH:a<=1073741824) (hb:-1073741824<=b) (nI:b<=1073741824) (hf:∀j,j<n->hq (f j)<=100000000):
  Calls prog 119 #[v,.int .i64 a,.int .i64 b] w λe w'=>(∃g,e=.returned (.slice (some ⟨g,0,none⟩) ((n+1:Nat)) ((n+1:Nat)))/\w.heap.size<=g/\QRow (λj=>IsQ (Fg a b f n j)) w' g (n+1) (n+1))/\Below w.heap.size w w':=by
 obtain⟨g1,o1,l1,rfl,gU,r1⟩:=h.resolve_left (λh=>by omega);have R1:=Kh r1;have HF:=Kh hf;have HA:=Kh (λI=>Ey a I (by omega) (by omega));have lI:=Kh (λI=>Ey b I (by omega) (by omega));have lL:=Kh (show hq (a:Rat)<=10 by rw[Gj];have:=Be.2 (show a.natAbs<4294967296 ^ 2 by omega);omega);have lM:=Kh (show hq (b:Rat)<=10 by rw[Gj];have:=Be.2 (show b.natAbs<4294967296 ^ 2 by omega);omega);obtain⟨N,hN⟩:∃N,n+1=N:=⟨_,rfl⟩
 have oK:(n:Int)+1=(N:Nat):=by omega
 have nJ:=Ir N (by omega);rw[hN];clear h r1 hf ha nH hb nI;go_enter func119,ntmps119
 go_wp2_with fail
 refine(HA.1 w).mono ?_;rintro e I ⟨⟨s1,p1,n1,c1,t1,q1,m1,d1,rfl,mC⟩,lY⟩;have lK:=Kh mC;have lH:=Kh lY;clear mC lY HA;go_wp2_with fail
 refine(lI.1 I).mono ?_;rintro e w2 ⟨⟨s2,p2,n2,c2,t2,q2,m2,d2,rfl,mD⟩,hX⟩;have hT:=Kh (And.intro (lK.1.keep hX) mD);have hQ:=bt lH hX;clear mD hX lI lH lK;go_upto_region 3 with(fail)
 obtain⟨wm,hB⟩:∃wm,(w2.alloc (.cells #[.bool s1,.slice p1 n1 c1,.bool t1,.slice q1 m1 d1] 86)).alloc (.cells #[.bool s2,.slice p2 n2 c2,.bool t2,.slice q2 m2 d2] 86)=wm:=⟨_,rfl⟩
 obtain⟨X0,X1,aJ⟩:=Oc w2 #[.bool s1,.slice p1 n1 c1,.bool t1,.slice q1 m1 d1] 86 #[.bool s2,.slice p2 n2 c2,.bool t2,.slice q2 m2 d2] 86;rw[hB]at X0 X1 aJ;have aT:wm.heap.size=w2.heap.size+1+1:=by rw[<-hB];simp
 have gA:=Kh (QRow.made (λj=>IsQ (Fg a b f n j)) wm N);obtain⟨wn,hD⟩:∃wn,wm.alloc (.cells (madeCells #[.bool false,.slice none 0 0,.bool false,.slice none 0 0] (N*4)) 86)=wn:=⟨_,rfl⟩
 have hR:=Kh (show Below wm.heap.size wm wn from hD▸(Below.refl _ _).alloc (kT _) _);rw[hD]at gA;rw[hB,hD];have cG:=hQ.1.trans (aJ.mono hQ.1.size);have HW:=Kh cG;have nF:=Kh (hT.1.1.keep aJ);have nG:=Kh (hT.1.2.keep aJ);have hS:=Kh (kV gU cG.size);have HR:=Kh (λj (hj:j<n)=>QE.keep (IsQ.solid _) (R1.1 j hj) cG);obtain⟨gx,hZ⟩:∃gx,w2.heap.size=gx:=⟨_,rfl⟩
 obtain⟨gy,iL⟩:∃gy,gx+1=gy:=⟨_,rfl⟩
 obtain⟨g,hg⟩:∃g,gy+1=g:=⟨_,rfl⟩
 rw[hZ,iL,hg]at aT ⊢;rw[hZ]at X0 X1;rw[iL]at X1;rw[aT]at hR gA hS;have gL:=Kh X0;have gN:=Kh X1;have mA:w.heap.size<=g:=by have:=cG.size;omega
 have hE:gx<g:=by omega
 have hG:gy<g:=by omega
 clear X0 X1 aJ cG hB hD hT hQ hZ iL hg nJ gU R1;go_wp2;go_loopw [21] (λi wr=>∃k:Nat,k<=N/\i=.int .i64 k/\QRow (λj=>IsQ (Fg a b f n j)) wr g N k/\Below g wm wr) (λi _=>N - (intOf i).toNat)
 case atStart=>exact⟨0,Nat.zero_le _,rfl,gA.1,hR.1⟩
 case round=>
  obtain⟨k,hk,rfl,hP,lZ⟩:=hrel;have cF:=Kh hP;have dY:=Kh lZ;clear hP lZ hR gA;by_cases hlt:k<N
  ·go_upto_region 6 with(fail)
   go_cut []from 24 to 27 (λwd=>QAt (Fg a b f n) k 0 wd g N/\Below g wm wd)
   case first=>
    go_wp2_with fail
    refine(Ey 0 wr (by omega) (by omega)).mono ?_;rintro e w3 ⟨⟨s3,p3,n3,c3,t3,q3,m3,d3,rfl,mE⟩,Z⟩;have aN:=QRow.keep (λ_=>IsQ.solid _) cF.1 Z;have aD:=Kh (QAt.set aN hlt mE);have aK:=Kh (dY.1.trans (Z.mono (kU (Nat.le_of_eq aT.symm) dY.1.size)));obtain⟨u0,oO⟩:=kX (aN.has (k*4) (by omega));obtain⟨u1,kY⟩:=kX (aN.has (k*4+1) (by omega));obtain⟨u2,hu2⟩:=kX (aN.has (k*4+2) (by omega));obtain⟨u3,oP⟩:=kX (aN.has (k*4+3) (by omega));have f0:=aN.free (k*4) (by omega);have f1:=aN.free (k*4+1) (by omega);have f2:=aN.free (k*4+2) (by omega);have f3:=aN.free (k*4+3) (by omega);clear mE Z aN;go_wp2;go_meet
    exact⟨aD.1,A5 aK.1⟩
   case rest=>
    obtain⟨cT,O⟩:=hcut;obtain⟨H,rfl⟩:∃H:World,H=wc:=⟨_,rfl⟩
    have aD:=Kh cT;have U:=Kh O;clear cT O cF dY;go_upto_if 29 with(fail)
    obtain⟨u1,kY⟩:∃u1,(if 0<k then(a:Rat)*f (k - 1)else 0)=u1:=⟨_,rfl⟩
    have bE:=Kh kY;clear kY;go_cut []from 29 to 39 (λwd=>QAt (Fg a b f n) k u1 wd g N/\Below g wm wd)
    case first=>
     by_cases hk0:0<k
     ·obtain⟨k1,mB⟩:∃k1,k=k1+1:=⟨k - 1,by omega⟩
      have HU:=Kh (show(a:Rat)*f k1=u1 by rw[<-bE.1,if_pos hk0,mB,Nat.add_sub_cancel]);have O:=U.1;have aJ:=Below.mono2 aT O;obtain⟨s',p',i1,c',t',q',m',d',a0,a1,a2,a3,hx⟩:=(HR.1 k1 (by omega)).keep (IsQ.solid _) aJ;have HP:=Kh (show Qs H s' p' i1 c' t' q' m' d' (f k1)from hx);have x0:=(gL.1.below_ O hE).at_ 0 rfl;have x1:=(gL.1.below_ O hE).at_ 1 rfl;have x2:=(gL.1.below_ O hE).at_ 2 rfl;have x3:=(gL.1.below_ O hE).at_ 3 rfl;have HX:=Kh (nF.1.keep aJ);have cC:=Kh (λI (hb:Below H.heap.size H I)=>Cy s1 p1 n1 c1 t1 q1 m1 d1 (a:Rat) s' p' i1 c' t' q' m' d' (f k1) I (HX.1.keep hb) (HP.1.keep hb) (by have:=lL.1;omega) (by have:=HF.1 k1 (by omega);omega));rw[HU.1]at cC;have nY:(k:Int) - 1=(k1:Nat):=by omega
      have nX:k1<n:=by omega
      have nW:(k1:Int)<(n:Int):=by omega
      have oN:IntKind.i64.wrap (k1:Int)=(k1:Nat):=IntWalk.i64_in _ (by omega);have nV:(0:Int)<=(k1:Int):=by omega
      have gU:=hS.1;have J:=aD.1;unfold QAt at J;clear hx O aJ HX HP mB HU bE;go_upto_region 8 with(fail)
      have hV:H.drew.cell? ⟨gx,0,none⟩=some (.bool s1)/\H.drew.cell? ⟨gx,1,none⟩=some (.slice p1 n1 c1)/\H.drew.cell? ⟨gx,2,none⟩=some (.bool t1)/\H.drew.cell? ⟨gx,3,none⟩=some (.slice q1 m1 d1)/\H.drew.cell? ⟨g1,o1+k1*4,none⟩=some (.bool s')/\H.drew.cell? ⟨g1,o1+k1*4+1,none⟩=some (.slice p' i1 c')/\H.drew.cell? ⟨g1,o1+k1*4+2,none⟩=some (.bool t')/\H.drew.cell? ⟨g1,o1+k1*4+3,none⟩=some (.slice q' m' d')/\H.drew.cell? ⟨g,k*4,none⟩=some (cellOf H.drew ⟨g,k*4,none⟩)/\H.drew.frozen? ⟨g,k*4,none⟩=false/\Sts H.drew (g)/\H.drew.cell? ⟨g,k*4+1,none⟩=some (cellOf H.drew ⟨g,k*4+1,none⟩)/\H.drew.frozen? ⟨g,k*4+1,none⟩=false/\Sts H.drew (g)/\H.drew.cell? ⟨g,k*4+2,none⟩=some (cellOf H.drew ⟨g,k*4+2,none⟩)/\H.drew.frozen? ⟨g,k*4+2,none⟩=false/\Sts H.drew (g)/\H.drew.cell? ⟨g,k*4+3,none⟩=some (cellOf H.drew ⟨g,k*4+3,none⟩)/\H.drew.frozen? ⟨g,k*4+3,none⟩=false/\Sts H.drew (g)/\Below g wm H.drew/\g<=H.drew.heap.size:=A7 (Below.refl _ H).drew ⟨x0,x1,x2,x3,a0,a1,a2,a3,Am (J.has _ (by omega)),J.free _ (by omega),J.sts,Am (J.has _ (by omega)),J.free _ (by omega),J.sts,Am (J.has _ (by omega)),J.free _ (by omega),J.sts,Am (J.has _ (by omega)),J.free _ (by omega),J.sts,U.1,kU (Nat.le_of_eq aT.symm) (Below.size U.1)⟩;clear x0 x1 x2 x3 a0 a1 a2 a3 J;have M1:True:=trivial
      go_region_held3 (λI=>I.cell? ⟨gx,0,none⟩=some (.bool s1)/\I.cell? ⟨gx,1,none⟩=some (.slice p1 n1 c1)/\I.cell? ⟨gx,2,none⟩=some (.bool t1)/\I.cell? ⟨gx,3,none⟩=some (.slice q1 m1 d1)/\I.cell? ⟨g1,o1+k1*4,none⟩=some (.bool s')/\I.cell? ⟨g1,o1+k1*4+1,none⟩=some (.slice p' i1 c')/\I.cell? ⟨g1,o1+k1*4+2,none⟩=some (.bool t')/\I.cell? ⟨g1,o1+k1*4+3,none⟩=some (.slice q' m' d')/\I.cell? ⟨g,k*4,none⟩=some (cellOf I ⟨g,k*4,none⟩)/\I.frozen? ⟨g,k*4,none⟩=false/\Sts I (g)/\I.cell? ⟨g,k*4+1,none⟩=some (cellOf I ⟨g,k*4+1,none⟩)/\I.frozen? ⟨g,k*4+1,none⟩=false/\Sts I (g)/\I.cell? ⟨g,k*4+2,none⟩=some (cellOf I ⟨g,k*4+2,none⟩)/\I.frozen? ⟨g,k*4+2,none⟩=false/\Sts I (g)/\I.cell? ⟨g,k*4+3,none⟩=some (cellOf I ⟨g,k*4+3,none⟩)/\I.frozen? ⟨g,k*4+3,none⟩=false/\Sts I (g)/\Below g wm I/\g<=I.heap.size)
       (first|with_reducible exact hV|with_reducible assumption |(refine A7 (by with_reducible assumption) ?_;assumption) |(refine D6 ?_ ?_ ?_ ?_ ?_ ?_ ?_ ?_ ?_ ?_ ?_ ?_ ?_ ?_ ?_ ?_ ?_ ?_ ?_ ?_ ?_ ?_ ?_ ?_ ?_ ?_ ?_ ?_ ?_ ?_ ?_ ?_ ?_ ?_ ?_ ?_ ?_ ?_ ?_ ?_ ?_ <;> first|assumption|exact NotInt.bool _|exact NotInt.slice _ _ _ |(dsimp only;omega) |(simp;done)))
       (first
        |(go_at_call 44;refine(cC.1 _ (by first|exact(Below.refl _ _).drew|exact Below.refl _ _)).mono ?_;rintro e w2 ⟨⟨s3,p3,n3,c3,t3,q3,m3,d3,rfl,bA⟩,Z⟩;have aL:Below H.heap.size H w2:=(by first|exact(Below.refl _ H).drew.trans Z|exact Z);have aX:=Kh ((aD.1.keep aL).upd hlt bA);have dE:=Kh (U.1.trans (aL.mono (kU (Nat.le_of_eq aT.symm) U.1.size)));clear bA aL))
      all_goals go_wp2
      all_goals go_meet
      all_goals exact⟨aX.1,A5 dE.1⟩
     ·have HU:=Kh (show 0=u1 by rw[<-bE.1,if_neg hk0])
      obtain rfl:k=0:=by omega
      go_wp2;go_meet
      exact⟨HU.1▸aD.1,U.1⟩
    case rest=>
     obtain⟨cT,O⟩:=hcut;clear aD U;obtain⟨H,rfl⟩:∃H:World,H=wc:=⟨_,rfl⟩
     have aD:=Kh cT;have U:=Kh O;clear cT O;by_cases hkn:k<n
     ·have HU:=Kh (show u1+(b:Rat)*f k=Fg a b f n k by unfold Fg;rw[bE.1,if_pos hkn])
      have lO:=Kh (show hq u1<=200000000 by
       rw[<-bE.1];split
       ·rename_i hk0
        have h1:=Cc (a:Rat) (f (k - 1));have h2:=lL.1;have h3:=HF.1 (k - 1) (by omega);omega
       ·simp[hq,Du,G9])
      have O:=U.1;have aJ:=Below.mono2 aT O;obtain⟨s',p',i1,c',t',q',m',d',a0,a1,a2,a3,hx⟩:=(HR.1 k hkn).keep (IsQ.solid _) aJ;have HP:=Kh (show Qs H s' p' i1 c' t' q' m' d' (f k)from hx);have x0:=(gN.1.below_ O hG).at_ 0 rfl;have x1:=(gN.1.below_ O hG).at_ 1 rfl;have x2:=(gN.1.below_ O hG).at_ 2 rfl;have x3:=(gN.1.below_ O hG).at_ 3 rfl;have HX:=Kh (nG.1.keep aJ);have cC:=Kh (λI (hb:Below H.heap.size H I)=>Cy s2 p2 n2 c2 t2 q2 m2 d2 (b:Rat) s' p' i1 c' t' q' m' d' (f k) I (HX.1.keep hb) (HP.1.keep hb) (by have:=lM.1;omega) (by have:=HF.1 k hkn;omega));obtain⟨s5,p5,n5,c5,t5,q5,m5,d5,e0,e1,e2,e3,hy⟩:=aD.1.elem;have HY:=Kh (show Qs H s5 p5 n5 c5 t5 q5 m5 d5 u1 from hy);have eP:=Kh (show Cells4 H g (k*4) s5 p5 n5 c5 t5 q5 m5 d5 from⟨e0,e1,e2,e3⟩)
      have lN:=Kh (show hq ((b:Rat)*f k)<=200000000 by
       have h1:=Cc (b:Rat) (f k);have h2:=lM.1;have h3:=HF.1 k hkn;omega)
      have nZ:(k:Int)<(n:Int):=by omega
      have gU:=hS.1;have J:=aD.1;unfold QAt at J;clear hx O aJ HX HP bE hy e0 e1 e2 e3;go_upto_region 10 with(fail)
      have hV:H.drew.cell? ⟨gy,0,none⟩=some (.bool s2)/\H.drew.cell? ⟨gy,1,none⟩=some (.slice p2 n2 c2)/\H.drew.cell? ⟨gy,2,none⟩=some (.bool t2)/\H.drew.cell? ⟨gy,3,none⟩=some (.slice q2 m2 d2)/\H.drew.cell? ⟨g1,o1+k*4,none⟩=some (.bool s')/\H.drew.cell? ⟨g1,o1+k*4+1,none⟩=some (.slice p' i1 c')/\H.drew.cell? ⟨g1,o1+k*4+2,none⟩=some (.bool t')/\H.drew.cell? ⟨g1,o1+k*4+3,none⟩=some (.slice q' m' d')/\H.drew.cell? ⟨g,k*4,none⟩=some (cellOf H.drew ⟨g,k*4,none⟩)/\H.drew.frozen? ⟨g,k*4,none⟩=false/\Sts H.drew (g)/\H.drew.cell? ⟨g,k*4+1,none⟩=some (cellOf H.drew ⟨g,k*4+1,none⟩)/\H.drew.frozen? ⟨g,k*4+1,none⟩=false/\Sts H.drew (g)/\H.drew.cell? ⟨g,k*4+2,none⟩=some (cellOf H.drew ⟨g,k*4+2,none⟩)/\H.drew.frozen? ⟨g,k*4+2,none⟩=false/\Sts H.drew (g)/\H.drew.cell? ⟨g,k*4+3,none⟩=some (cellOf H.drew ⟨g,k*4+3,none⟩)/\H.drew.frozen? ⟨g,k*4+3,none⟩=false/\Sts H.drew (g)/\Below g wm H.drew/\g<=H.drew.heap.size:=A7 (Below.refl _ H).drew ⟨x0,x1,x2,x3,a0,a1,a2,a3,Am (J.has _ (by omega)),J.free _ (by omega),J.sts,Am (J.has _ (by omega)),J.free _ (by omega),J.sts,Am (J.has _ (by omega)),J.free _ (by omega),J.sts,Am (J.has _ (by omega)),J.free _ (by omega),J.sts,U.1,kU (Nat.le_of_eq aT.symm) (Below.size U.1)⟩;clear x0 x1 x2 x3 a0 a1 a2 a3 J;have M1:True:=trivial;refine wp_region_held_drew (S:=(λI=>I.cell? ⟨gy,0,none⟩=some (.bool s2)/\I.cell? ⟨gy,1,none⟩=some (.slice p2 n2 c2)/\I.cell? ⟨gy,2,none⟩=some (.bool t2)/\I.cell? ⟨gy,3,none⟩=some (.slice q2 m2 d2)/\I.cell? ⟨g1,o1+k*4,none⟩=some (.bool s')/\I.cell? ⟨g1,o1+k*4+1,none⟩=some (.slice p' i1 c')/\I.cell? ⟨g1,o1+k*4+2,none⟩=some (.bool t')/\I.cell? ⟨g1,o1+k*4+3,none⟩=some (.slice q' m' d')/\I.cell? ⟨g,k*4,none⟩=some (cellOf I ⟨g,k*4,none⟩)/\I.frozen? ⟨g,k*4,none⟩=false/\Sts I (g)/\I.cell? ⟨g,k*4+1,none⟩=some (cellOf I ⟨g,k*4+1,none⟩)/\I.frozen? ⟨g,k*4+1,none⟩=false/\Sts I (g)/\I.cell? ⟨g,k*4+2,none⟩=some (cellOf I ⟨g,k*4+2,none⟩)/\I.frozen? ⟨g,k*4+2,none⟩=false/\Sts I (g)/\I.cell? ⟨g,k*4+3,none⟩=some (cellOf I ⟨g,k*4+3,none⟩)/\I.frozen? ⟨g,k*4+3,none⟩=false/\Sts I (g)/\Below g wm I/\g<=I.heap.size)) (by kernel_rfl) ?_ (λhHeld0=>?_);focus((try dsimp only);with_reducible exact hV)
      refine K7 0 ?_;refine K7 1 ?_;refine K7 2 ?_;refine K7 3 ?_;refine K7 4 ?_;refine K7 6 ?_;refine K7 7 ?_;refine K7 8 ?_;refine K7 9 ?_;refine K7 10 ?_;refine Zb [5,11] ?_;refine AllReadyH.cons rfl (λK hK=>?_) ?_;focus(go_simp;refine hK.out _ _ ?_ (λhHeld1=>?_))
      focus((try dsimp only);(first|with_reducible assumption |(refine A7 (by with_reducible assumption) ?_;assumption)))
      focus(clear hK K hHeld0;(try simp only[Act.put,Br,Bt,Bs]))
      refine Zb [11] ?_;refine AllReadyH.cons rfl (λK hK=>?_) ?_;focus(go_simp;(go_at_call 44;refine(cC.1 _ (by first|exact(Below.refl _ _).drew|exact Below.refl _ _)).mono ?_;rintro e w2 ⟨⟨s3,p3,n3,c3,t3,q3,m3,d3,rfl,bA⟩,Z⟩;have aK:=Kh (show Below H.heap.size H w2 from(by first|exact(Below.refl _ H).drew.trans Z|exact Z));have hU:=Kh bA;have Y:=Kh (eP.1.keep aK.1);have V:=Kh (show Cells4 H.drew g (k*4) s5 p5 n5 c5 t5 q5 m5 d5 from eP.1);clear bA);(first|done|with_reducible refine hK.out _ _ ?_ (λhHeld2=>?_) |(go_wp2_with fail;with_reducible refine hK.out _ _ ?_ (λhHeld2=>?_))))
      focus((try dsimp only);(first|with_reducible assumption |(refine A7 (by with_reducible assumption) ?_;assumption)))
      focus(clear hK K hHeld1;(try simp only[Act.put,Br,Bt,Bs]))
      refine Zb [12] ?_;refine AllReadyH.cons rfl (λK hK=>?_) ?_;focus(go_simp;(go_at_call 39;(first|rw[Ae Y.1.1,Ae Y.1.2.1,Ae Y.1.2.2.1,Ae Y.1.2.2.2]|rw[Ae V.1.1,Ae V.1.2.1,Ae V.1.2.2.1,Ae V.1.2.2.2]);refine(Fo s5 p5 n5 c5 t5 q5 m5 d5 u1 s3 p3 n3 c3 t3 q3 m3 d3 ((b:Rat)*f k) _ (HY.1.keep aK.1) hU.1 (by have:=lO.1;omega) (by have:=lN.1;omega)).mono ?_;rintro e w4 ⟨⟨s6,p6,n6,c6,t6,q6,m6,d6,rfl,cX⟩,hY⟩;have aL:Below H.heap.size H w4:=aK.1.trans (hY.mono aK.1.size);have aX:=Kh ((aD.1.keep aL).upd hlt (HU.1▸cX));have dE:=Kh (U.1.trans (aL.mono (kU (Nat.le_of_eq aT.symm) U.1.size)));clear cX aL Z);(first|done|with_reducible refine hK.out _ _ ?_ (λhHeld3=>?_) |(go_wp2_with fail;with_reducible refine hK.out _ _ ?_ (λhHeld3=>?_))))
      focus((try dsimp only);(first|with_reducible assumption |(refine A7 (by with_reducible assumption) ?_;assumption)))
      focus(clear hK K hHeld2;(try simp only[Act.put,Br,Bt,Bs]))
      refine K7 13 ?_;refine Zb [14] ?_;refine AllReadyH.cons rfl (λK hK=>?_) ?_;focus(go_simp;refine hK.out _ _ ?_ (λhHeld4=>?_))
      focus((try dsimp only);(refine D6 ?_ ?_ ?_ ?_ ?_ ?_ ?_ ?_ ?_ ?_ ?_ ?_ ?_ ?_ ?_ ?_ ?_ ?_ ?_ ?_ ?_ ?_ ?_ ?_ ?_ ?_ ?_ ?_ ?_ ?_ ?_ ?_ ?_ ?_ ?_ ?_ ?_ ?_ ?_ ?_ ?_ <;> first|assumption|exact NotInt.bool _|exact NotInt.slice _ _ _ |(dsimp only;omega) |(simp;done)))
      focus(clear hK K hHeld3;(try simp only[Act.put,Br,Bt,Bs]))
      focus(refine wpAnyH_done (by kernel_rfl) ?_ _)
      rotate_left
      exact AllReadyH.nil;exact AllReadyH.nil;exact AllReadyH.nil;refine AllReadyH.cons rfl (λK hK=>?_) ?_;focus(go_simp;(go_at_call 44;refine(cC.1 _ (by first|exact(Below.refl _ _).drew|exact Below.refl _ _)).mono ?_;rintro e w2 ⟨⟨s3,p3,n3,c3,t3,q3,m3,d3,rfl,bA⟩,Z⟩;have aK:=Kh (show Below H.heap.size H w2 from(by first|exact(Below.refl _ H).drew.trans Z|exact Z));have hU:=Kh bA;have Y:=Kh (eP.1.keep aK.1);have V:=Kh (show Cells4 H.drew g (k*4) s5 p5 n5 c5 t5 q5 m5 d5 from eP.1);clear bA);(first|done|with_reducible refine hK.out _ _ ?_ (λhHeld1=>?_) |(go_wp2_with fail;with_reducible refine hK.out _ _ ?_ (λhHeld1=>?_))))
      focus((try dsimp only);(first|with_reducible assumption |(refine A7 (by with_reducible assumption) ?_;assumption)))
      focus(clear hK K hHeld0;(try simp only[Act.put,Br,Bt,Bs]))
      refine Zb [5] ?_;refine AllReadyH.cons rfl (λK hK=>?_) ?_;focus(go_simp;refine hK.out _ _ ?_ (λhHeld2=>?_))
      focus((try dsimp only);(first|with_reducible assumption |(refine A7 (by with_reducible assumption) ?_;assumption)))
      focus(clear hK K hHeld1;(try simp only[Act.put,Br,Bt,Bs]))
      refine Zb [12] ?_;refine AllReadyH.cons rfl (λK hK=>?_) ?_;focus(go_simp;(go_at_call 39;(first|rw[Ae Y.1.1,Ae Y.1.2.1,Ae Y.1.2.2.1,Ae Y.1.2.2.2]|rw[Ae V.1.1,Ae V.1.2.1,Ae V.1.2.2.1,Ae V.1.2.2.2]);refine(Fo s5 p5 n5 c5 t5 q5 m5 d5 u1 s3 p3 n3 c3 t3 q3 m3 d3 ((b:Rat)*f k) _ (HY.1.keep aK.1) hU.1 (by have:=lO.1;omega) (by have:=lN.1;omega)).mono ?_;rintro e w4 ⟨⟨s6,p6,n6,c6,t6,q6,m6,d6,rfl,cX⟩,hY⟩;have aL:Below H.heap.size H w4:=aK.1.trans (hY.mono aK.1.size);have aX:=Kh ((aD.1.keep aL).upd hlt (HU.1▸cX));have dE:=Kh (U.1.trans (aL.mono (kU (Nat.le_of_eq aT.symm) U.1.size)));clear cX aL Z);(first|done|with_reducible refine hK.out _ _ ?_ (λhHeld3=>?_) |(go_wp2_with fail;with_reducible refine hK.out _ _ ?_ (λhHeld3=>?_))))
      focus((try dsimp only);(first|with_reducible assumption |(refine A7 (by with_reducible assumption) ?_;assumption)))
      focus(clear hK K hHeld2;(try simp only[Act.put,Br,Bt,Bs]))
      refine K7 13 ?_;refine Zb [14] ?_;refine AllReadyH.cons rfl (λK hK=>?_) ?_;focus(go_simp;refine hK.out _ _ ?_ (λhHeld4=>?_))
      focus((try dsimp only);(refine D6 ?_ ?_ ?_ ?_ ?_ ?_ ?_ ?_ ?_ ?_ ?_ ?_ ?_ ?_ ?_ ?_ ?_ ?_ ?_ ?_ ?_ ?_ ?_ ?_ ?_ ?_ ?_ ?_ ?_ ?_ ?_ ?_ ?_ ?_ ?_ ?_ ?_ ?_ ?_ ?_ ?_ <;> first|assumption|exact NotInt.bool _|exact NotInt.slice _ _ _ |(dsimp only;omega) |(simp;done)))
      focus(clear hK K hHeld3;(try simp only[Act.put,Br,Bt,Bs]))
      focus(refine wpAnyH_done (by kernel_rfl) ?_ _)
      rotate_left
      exact AllReadyH.nil;exact AllReadyH.nil;exact AllReadyH.nil;exact AllReadyH.nil;all_goals have cD:=Kh (QAt.done aX.1 rfl)
      all_goals clear aX aD U
      all_goals go_wp2
      all_goals go_roundw
      all_goals first
       | exact⟨k+1,by omega,by go_num,cD.1,A5 dE.1⟩
       |(simp[intOf];omega)
     ·have HU:=Kh (show u1=Fg a b f n k by unfold Fg;rw[bE.1,if_neg hkn,Rat.add_zero])
      have cD:=Kh (QAt.done aD.1 HU.1);go_wp2;go_roundw
      case rel=>exact⟨k+1,by omega,by go_num,cD.1,U.1⟩
      case measure=>simp[intOf];omega
  ·obtain rfl:k=N:=by omega
   go_wp2;go_ret;exact⟨⟨g,rfl,mA,cF.1⟩,HW.1.trans (dY.1.mono mA)⟩
/-! Everything but one block stays -/
theorem Af {w w':World} (g:Nat) (h:Below w.heap.size w w'):w.grownBy w' (some g):=⟨h.os,h.tape,h.output,h.size,λk H _=>h.block k H⟩
theorem Ai (w:World) (g i:Nat) (v:Value):w.grownBy (w.setCell ⟨g,i,none⟩ v) (some g):=
 ⟨rfl,rfl,rfl,by simp,λk I H=>Below.heap_setCell w ⟨g,i,none⟩ v k (λe=>H (by rw[e]))⟩
theorem Gt (w:World) (g i j k l:Nat) (v0 v1 v2 v3:Value):w.grownBy ((((w.setCell ⟨g,i,none⟩ v0).setCell ⟨g,j,none⟩ v1).setCell ⟨g,k,none⟩ v2).setCell ⟨g,l,none⟩ v3) (some g):=
 (((Ai w g i v0).trans (Ai _ g j v1)).trans (Ai _ g k v2)).trans (Ai _ g l v3)
theorem I32.but {w w':World} {g:Nat} (I:Sts w g) (h:w.grownBy w' (some g)):I32 w w':=
 ⟨h.size,λJ i n e=>h.cell e (λH=>by
  injection H with H
  exact I.2 i _ (by rw[<-H];exact e) _ _ rfl)⟩
theorem QE.but {P:FP} (hP:Bh P) {w w':World} {g H i:Nat} (hs:Sts w g) (h:w.grownBy w' (some g)) (O:H≠g) (hq:QE P w H i):QE P w' H i:=by
 obtain⟨s,p,n,c,t,q,m,d,U,V,Y,Z,h4⟩:=hq;have I:∀j v,w.cell? ⟨H,j,none⟩=some v->w'.cell? ⟨H,j,none⟩=some v:=λj v e=>h.cell e (λJ=>by injection J with J;exact O J)
 exact⟨s,p,n,c,t,q,m,d,I _ _ U,I _ _ V,I _ _ Y,I _ _ Z,hP _ _ _ _ _ _ _ _ _ _ (I32.but hs h) h4⟩
def PL (g:Nat) (f:Nat->Rat) (w:World) (v:Value) (n:Nat):Prop:=∃g' cap,v=.slice (some ⟨g',0,none⟩) n cap/\g<g'/\g'<w.heap.size/\∀j,j<n->QE (IsQ (f j)) w g' (j*4)
theorem PL.keep {g:Nat} {f:Nat->Rat} {w w':World} {v:Value} {n:Nat} (h:PL g f w v n) (H:Below w.heap.size w w'):PL g f w' v n:=by
 obtain⟨I,cap,e,J,O,U⟩:=h;exact⟨I,cap,e,J,kV O H.size,λj V=>(U j V).keep (IsQ.solid _) H⟩
theorem PL.but {g:Nat} {f:Nat->Rat} {w w':World} {v:Value} {n:Nat} (h:PL g f w v n) (Y:Sts w g) (H:w.grownBy w' (some g)):PL g f w' v n:=by
 obtain⟨I,cap,e,J,O,U⟩:=h;exact⟨I,cap,e,J,kV O H.size,λj V=>(U j V).but (IsQ.solid _) Y H (by omega)⟩
theorem PL.ql {g:Nat} {f:Nat->Rat} {w:World} {v:Value} {n:Nat} (h:PL g f w v n):QL (λj=>IsQ (f j)) w v n:=by
 obtain⟨H,cap,e,U,I,J⟩:=h;exact .inr ⟨H,0,cap,e,I,λj O=>by rw[Nat.zero_add];exact J j O⟩
theorem PL.congr {g:Nat} {f H:Nat->Rat} {w:World} {v:Value} {n:Nat} (h:PL g f w v n) (e:∀j,j<n->f j=H j):PL g H w v n:=by
 obtain⟨O,cap,J,U,V,Y⟩:=h;exact⟨O,cap,J,U,V,λj I=>by rw[<-e j I];exact Y j I⟩
def mixQ (f f':Nat->Rat) (k j:Nat):Rat:=if j<k then f' j else f j
theorem Ug (f H:Nat->Rat) (j:Nat):mixQ f H 0 j=f j:=if_neg (Nat.not_lt_zero _)
theorem Xa {f H:Nat->Rat} {n j:Nat} (h:j<n):mixQ f H n j=H j:=if_pos h
theorem aP (f H:Nat->Rat) (k:Nat):mixQ f H k k=f k:=if_neg (Nat.lt_irrefl _)
theorem mixQ_far {f H:Nat->Rat} {k j:Nat} (I:j≠k):mixQ f H k j=mixQ f H (k+1) j:=by
 unfold mixQ;by_cases h1:j<k
 ·rw[if_pos h1,if_pos (by omega)]
 ·rw[if_neg h1,if_neg (by omega)]
theorem Xb {f H:Nat->Rat} {w:World} {g n k:Nat} (h:QRow (λj=>IsQ (mixQ f H k j)) w g n n) (O:k<n) {s t:Bool} {p q:Option Addr} {i c m d:Nat} (hq:Qs w s p i c t q m d (H k)):
  QRow (λj=>IsQ (mixQ f H (k+1) j)) ((((w.setCell ⟨g,k*4,none⟩ (.bool s)).setCell ⟨g,k*4+1,none⟩ (.slice p i c)).setCell ⟨g,k*4+2,none⟩ (.bool t)).setCell ⟨g,k*4+3,none⟩ (.slice q m d)) g n n:=
 QRow.set (k':=n) (λ_=>IsQ.solid _) h k O (λj=>IsQ (mixQ f H (k+1) j)) (IsQ.solid _) (λj J I=>And.intro J (congrArg IsQ (mixQ_far I))) (show IsQ (mixQ f H (k+1) k) w s p i c t q m d by unfold mixQ;rw[if_pos (kW k)];exact hq)
theorem An {B:Nat} {b w w':World} {g:Nat} (h:Below B b w) (hg:w.grownBy w' (some g)) (I:B<=w.heap.size) (J:B<=g):Below B b w':=h.grown hg I (λk H=>by injection H with H;omega)
/-! The values -/
theorem Ub (q:Rat) (i:Nat) (a b c d:Int) (k j:Nat) (J:j<=k+1):
  Fg (if k<i then a else c) (if k<i then b else d) (λj=>q*(mv i a b c d k j:Int)) (k+1) j=q*(mv i a b c d (k+1) j:Int):=by
 have I:∀a b:Int,Fg a b (λj=>q*(mv i a b c d k j:Int)) (k+1) j=Fg a b (λj=>q*(mv i a b c d k j:Int)) (k+1) j:=λ_ _=>rfl
 have H:∀e f:Int,Fg e f (λj=>q*(mv i a b c d k j:Int)) (k+1) j=q*(lin e f (mv i a b c d k) j:Int):=by
  intro e f;rw[Q2];unfold Fg;by_cases hjk:j<k+1
  ·rw[if_pos hjk]
  ·obtain rfl:j=k+1:=by omega
   rw[if_neg hjk,I8 i a b c d k (k+1) (kW k)];simp
 rw[H,mv];by_cases hk:k<i
 ·simp only[if_pos hk]
 ·simp only[if_neg hk]
theorem Dd {a:Int} (h:-1073741824<=a) (H:a<=1073741824):nd a.natAbs<=2:=Be.2 (show a.natAbs<4294967296 ^ 2 by omega)
theorem Kf {x y:Int} {K:Nat} (hK:1<=K) (H:nd x.natAbs<=K) (I:nd y.natAbs<=K):hq (Rat.divInt x y)<=K:=by
 by_cases h:y=0
 ·subst h
  simp[hq,Du,G9];omega
 ·exact Cz h H I
theorem O7 {q:Rat} {K i k j:Nat} {a b c d:Int} (V:hq q<=K) (I:nd a.natAbs<=2) (J:nd b.natAbs<=2) (O:nd c.natAbs<=2) (U:nd d.natAbs<=2) (Z:k<=30):hq (q*(mv i a b c d k j:Int))<=K+96:=by
 have H:=Cc q ((mv i a b c d k j:Int):Rat);have Y:=Sj i a b c d I J O U k j;rw[Gj]at H;omega
theorem Cs {q:Nat->Rat} {K w n j:Nat} {a b c d:Int} (H:∀i,i<n->hq (q i)<=K) (I:nd a.natAbs<=2) (J:nd b.natAbs<=2) (O:nd c.natAbs<=2) (U:nd d.natAbs<=2) (Z:w<=30) (Y:n<=30):hq (subst q w a b c d n j)<=30*K+3880:=by
 have h:=Dm (λi=>q i*(mv i a b c d w j:Int)) (K+96) n (λi V=>O7 (H i V) I J O U Z);have h2:n*(K+96+1)<=30*(K+96+1):=Nat.mul_le_mul Y (kT _);unfold subst;omega
def IsB (K:Nat) (x y:Int):FP:=λw s p n c t q m d=>Zr w s p n c x/\Zr w t q m d y/\n<=K/\m<=K
theorem IsB.solid (K:Nat) (x y:Int):Bh (IsB K x y):=λ_ _ _ _ _ _ _ _ _ _ h hq=>⟨hq.1.i32 h,hq.2.1.i32 h,hq.2.2⟩
theorem Ou (K:Nat) (oB:1<=K) (hK:K<=1000000) (v:Value) (n:Nat) (x y:Nat->Int) (a b c d:Int) (w:World) (h:QL (λj=>IsB K (x j) (y j)) w v n) (h0:0<n) (hn:n<=30) (ha:-1073741824<=a) (hN:a<=1073741824) (hb:-1073741824<=b) (hO:b<=1073741824) (hc:-1073741824<=c) (hP:c<=1073741824) (hd:-1073741824<=d) (hR:d<=1073741824):
  Calls prog 68 #[v,.agg #[.int .i64 a,.int .i64 b,.int .i64 c,.int .i64 d]] w λe w'=>(∃g,e=.returned (.slice (some ⟨g,0,none⟩) n n)/\w.heap.size<=g/\QRow (λj=>IsQ (subst (λi=>Rat.divInt (x i) (y i)) (n - 1) a b c d n j)) w' g n n)/\Below w.heap.size w w':=by
 obtain⟨g1,o1,l1,rfl,oX,r1⟩:=h.resolve_left (λh=>by omega);obtain⟨m,hm⟩:∃m,n=m+1:=⟨n - 1,by omega⟩
 have oZ:(n:Int) - 1=(m:Nat):=by omega
 have pB:IntKind.i64.wrap (m:Int)=(m:Nat):=IntWalk.i64_in _ (by omega);have pC:(m:Int)+1=(n:Nat):=by omega
 have oE:=Ir n (by omega);have lS:=Kh r1
 have kZ:=Kh (λi (hi:i<n)=>show hq (Rat.divInt (x i) (y i))<=K by
  obtain⟨_,_,_,_,_,_,_,_,_,_,_,_,h5,h6,h7,h8⟩:=r1 i hi;exact Kf oB (kU h5.size h7) (kU h6.size h8))
 obtain⟨Q,hQ⟩:∃Q:Nat->Rat,(λi=>Rat.divInt (x i) (y i))=Q:=⟨_,rfl⟩
 have lQ:=Kh (λi=>(congrFun hQ i:Rat.divInt (x i) (y i)=Q i));rw[hQ];simp only[lQ.1]at kZ;have hJ:=Kh (λi (hi:i<n) k (hk:k<=m) j=>O7 (q:=Q i) (i:=i) (k:=k) (j:=j) (kZ.1 i hi) (Dd ha hN) (Dd hb hO) (Dd hc hP) (Dd hd hR) (by omega));have lW:=Kh (λi (hi:i<=n) j=>Cs (q:=Q) (w:=m) (n:=i) (j:=j) (λk hk=>kZ.1 k (by omega)) (Dd ha hN) (Dd hb hO) (Dd hc hP) (Dd hd hR) (by omega) (by omega));obtain⟨SB,mC⟩:∃SB:Nat->Nat->Rat,(λi j=>subst Q m a b c d i j)=SB:=⟨_,rfl⟩
 obtain⟨Y,mA⟩:∃Y:Nat->Nat->Nat->Rat,(λi k j=>Q i*(mv i a b c d k j:Int))=Y:=⟨_,rfl⟩
 have dC:∀i j,subst Q m a b c d i j=SB i j:=λi j=>congrFun (congrFun mC i) j
 have aU:∀i k j,Q i*(mv i a b c d k j:Int)=Y i k j:=λi k j=>congrFun (congrFun (congrFun mA i) k) j
 have lU:=Kh (λj=>(show SB 0 j=0 by rw[<-dC];rfl));have lV:=Kh (λi j=>(show SB (i+1) j=SB i j+Y i m j by rw[<-dC,<-dC,<-aU];rfl));have nT:=Kh (λi=>(show Y i 0 0=Q i by rw[<-aU];simp[mv]))
 have lO:=Kh (λi k j (hj:j<=k+1)=>(show Fg (if k<i then a else c) (if k<i then b else d) (Y i k) (k+1) j=Y i (k+1) j by
  have h1:=Ub (Q i) i a b c d k j hj;rw[show(λj=>Q i*(mv i a b c d k j:Int))=Y i k from funext (aU i k),aU]at h1;exact h1))
 have nU:=Kh (λi j (h:Q i=0)=>(show Y i m j=0 by rw[<-aU,h,Rat.zero_mul]));rw[show n - 1=m by omega];simp only[dC]at lW ⊢;simp only[aU]at hJ;have aL:=Kh (And.intro (And.intro ha hN) (And.intro (And.intro hb hO) (And.intro (And.intro hc hP) (And.intro hd hR))));have HM:=Kh hm;clear h r1 ha hN hb hO hc hP hd hR dC aU mC mA hQ hm;go_enter func68,ntmps68
 go_upto_region 3 with(fail)
 obtain⟨wm,hT⟩:∃wm,w.alloc (.cells #[.int .i64 a,.int .i64 b,.int .i64 c,.int .i64 d] 63)=wm:=⟨_,rfl⟩
 obtain⟨X0,aX⟩:=Gs w #[.int .i64 a,.int .i64 b,.int .i64 c,.int .i64 d] 63;rw[hT]at X0 aX;have aT:wm.heap.size=w.heap.size+1:=by rw[<-hT];simp
 have hL:=Kh (QRow.made (λ_=>IsQ 0) wm n);obtain⟨wn,hU⟩:∃wn,wm.alloc (.cells (madeCells #[.bool false,.slice none 0 0,.bool false,.slice none 0 0] (n*4)) 86)=wn:=⟨_,rfl⟩
 have iL:=Kh (show Below wm.heap.size wm wn from hU▸(Below.refl _ _).alloc (kT _) _);rw[hU]at hL;rw[hT,hU];have HW:=Kh aX;have HR:=Kh (λj (hj:j<n)=>QE.keep (IsB.solid _ _ _) (lS.1 j hj) aX);obtain⟨g,hg⟩:∃g,w.heap.size+1=g:=⟨_,rfl⟩
 rw[hg]at aT ⊢;rw[aT]at iL hL;obtain⟨gm,mI⟩:∃gm,w.heap.size=gm:=⟨_,rfl⟩
 rw[mI]at X0;have hM:=Kh X0;have mH:w.heap.size<=g:=by omega
 have pA:gm<g:=by omega
 have oL:g1<g:=by omega
 simp only[mI];clear X0 aX hT hU hg oE lS;go_wp2;go_loopw [21] (λi wr=>∃k:Nat,k<=n/\i=.int .i64 k/\QRow (λ_=>IsQ 0) wr g n k/\Below g wm wr) (λi _=>n - (intOf i).toNat)
 case atStart=>exact⟨0,Nat.zero_le _,rfl,hL.1,iL.1⟩
 case round=>
  obtain⟨k,hk,rfl,I,eP⟩:=hrel;have H:=Kh I;have U:=Kh eP;clear I eP iL hL;by_cases hlt:k<n
  ·go_wp2_with fail
   refine(Ey 0 wr (by omega) (by omega)).mono ?_;rintro e w3 ⟨⟨s3,p3,n3,c3,t3,q3,m3,d3,rfl,mM⟩,cF⟩;have aD:=QRow.keep (λ_=>IsQ.solid _) H.1 cF;have nV:=Kh (QAt.done (QAt.set (L:=λ_=>0) aD hlt mM) rfl);have cC:=Kh (U.1.trans (cF.mono (kU (Nat.le_of_eq aT.symm) U.1.size)));obtain⟨u0,pD⟩:=kX (aD.has (k*4) (by omega));obtain⟨u1,pE⟩:=kX (aD.has (k*4+1) (by omega));obtain⟨u2,hu2⟩:=kX (aD.has (k*4+2) (by omega));obtain⟨u3,pF⟩:=kX (aD.has (k*4+3) (by omega));have f0:=aD.free (k*4) (by omega);have f1:=aD.free (k*4+1) (by omega);have f2:=aD.free (k*4+2) (by omega);have f3:=aD.free (k*4+3) (by omega);clear mM cF aD H U;go_wp2;go_roundw
   case rel=>exact⟨k+1,by omega,by go_num,nV.1,A5 cC.1⟩
   case measure=>simp[intOf];omega
  ·obtain rfl:n=k:=by omega
   have lT:=Kh (H.1.congr (G:=λj=>IsQ (SB 0 j)) (λj _=>by rw[lU.1]));clear H hlt hk lU;go_wp2;go_loopw [31] (λii wx=>∃i:Nat,i<=n/\ii=.int .i64 i/\QRow (λj=>IsQ (SB i j)) wx g n n/\Below g wm wx) (λii _=>n - (intOf ii).toNat)
   case atStart=>exact⟨0,Nat.zero_le _,rfl,lT.1,U.1⟩
   case round=>
    obtain⟨i,hi,rfl,I,eP⟩:=hrel;obtain⟨wx,rfl⟩:∃wx:World,wx=wr:=⟨_,rfl⟩
    clear lT U;have H:=Kh I;have U:=Kh eP;clear I eP;by_cases hlt:i<n
    ·have mD:=U.1
     have aX:=Below.mono2 aT mD;obtain⟨s',p',i1,c',t',q',m',d',a0,a1,a2,a3,hx⟩:=(HR.1 i hlt).keep (IsB.solid _ _ _) aX;have aN:=Kh hx;have lC:=Kh (λO (hb:Below wx.heap.size wx O)=>R7 s' p' i1 c' (x i) t' q' m' d' (y i) O (aN.1.1.keep hb) (aN.1.2.1.keep hb) (by have:=aN.1.2.2.1;omega) (by have:=aN.1.2.2.2;omega));have hI:=Kh (λO (hb:Below wx.heap.size wx O)=>Lu s' p' i1 c' (x i) t' q' m' d' (y i) O (aN.1.1.keep hb) (aN.1.2.1.keep hb) (by have:=aN.1.2.2.1;omega) (by have:=aN.1.2.2.2;omega));simp only[lQ.1]at lC hI;have oY:(i:Int)<(n:Int):=by omega
     clear hx mD aX;go_wp2_with fail
     refine(lC.1 _ ((Below.refl _ _).alloc (kT _) _)).mono ?_;rintro e w2 ⟨⟨oH,rfl,lH⟩,lD⟩;have cT:=Kh (((Below.refl _ wx).alloc (kT _) (.cells #[.bool s',.slice p' i1 c',.bool t',.slice q' m' d'] 86)).trans (lD.mono (by simp)));have gF:=(Blk.new wx 86 #[.bool s',.slice p' i1 c',.bool t',.slice q' m' d']).below_ lD (by simp);have y0:w2.cell? ⟨wx.heap.size,0,none⟩=some (.bool s'):=gF.at_ 0 rfl;have y1:w2.cell? ⟨wx.heap.size,1,none⟩=some (.slice p' i1 c'):=gF.at_ 1 rfl;have y2:w2.cell? ⟨wx.heap.size,2,none⟩=some (.bool t'):=gF.at_ 2 rfl;have y3:w2.cell? ⟨wx.heap.size,3,none⟩=some (.slice q' m' d'):=gF.at_ 3 rfl;clear lD lC a0 a1 a2 a3 gF;by_cases hz:oH=0
     ·have mL:=lH.1 hz
      have lA:=Kh (QRow.congr (G:=λj=>IsQ (SB (i+1) j)) (H.1.keep (λ_=>IsQ.solid _) cT.1) (λj _=>by rw[lV.1,nU.1 i j mL,Rat.add_zero]));have lM:=Kh (U.1.trans (cT.1.mono (kU (Nat.le_of_eq aT.symm) U.1.size)));subst hz;clear lH mL hI H U;go_wp2;go_roundw
      case rel=>exact⟨i+1,by omega,by go_num,lA.1,lM.1⟩
      case measure=>simp[intOf];omega
     ·clear lH
      go_wp2_with fail
      refine(hI.1 _ cT.1).mono ?_;rintro e w3 ⟨⟨s3,p3,n3,c3,t3,q3,m3,d3,rfl,mQ⟩,cF⟩;have lZ:=Kh mQ;have cC:=bt cT cF;clear mQ cF hI y0 y1 y2 y3 cT;have lY:=Kh (U.1.trans (cC.1.mono (kU (Nat.le_of_eq aT.symm) U.1.size)));have hS:g<w3.heap.size:=kV H.1.sts.1 cC.1.size;obtain⟨wi,lI⟩:∃wi,w3.alloc (.cells #[.bool s3,.slice p3 n3 c3,.bool t3,.slice q3 m3 d3] 86)=wi:=⟨_,rfl⟩
      have dY:Below w3.heap.size w3 wi:=lI▸(Below.refl _ _).alloc (kT _) _;have bB:=Blk.new w3 86 #[.bool s3,.slice p3 n3 c3,.bool t3,.slice q3 m3 d3];rw[lI]at bB
      have hW:=Kh (show PL g (Y i 0) wi (.slice (some ⟨w3.heap.size,0,none⟩) 1 1) 1 from⟨_,_,rfl,hS,bB.lt,λj hj=>by
       obtain rfl:j=0:=by omega
       exact⟨_,_,_,_,_,_,_,_,bB.at_ 0 rfl,bB.at_ 1 rfl,bB.at_ 2 rfl,bB.at_ 3 rfl,show Qs wi s3 p3 n3 c3 t3 q3 m3 d3 (Y i 0 0)by rw[nT.1];exact lZ.1.keep dY⟩⟩)
      have lR:=Kh ((H.1.keep (λ_=>IsQ.solid _) cC.1).keep (λ_=>IsQ.solid _) dY);have hZ:=Kh (lY.1.trans (dY.mono (Nat.le_of_lt hS)));have lF:g<wi.heap.size:=kV hS dY.size;clear lZ cC lY dY bB H U hS;go_wp2;clear lI;go_loopw [10,11] (λv1 kk wy=>∃k:Nat,k<=m/\kk=.int .i64 k/\PL g (Y i k) wy v1 (k+1)/\Below wi.heap.size wi wy) (λ_ kk _=>m - (intOf kk).toNat)
      case atStart=>exact⟨0,Nat.zero_le _,rfl,hW.1,Below.refl _ _⟩
      case round=>
       obtain⟨k,hk,rfl,cG,Z⟩:=hrel;obtain⟨wy,rfl⟩:∃wy:World,wy=wr:=⟨_,rfl⟩
       have aJ:=Kh Z;have oD:g<wy.heap.size:=kV lF Z.size;have gA:=Below.mono2 aT (hZ.1.trans (Z.mono (Nat.le_of_lt lF)));have x0:=(bk hM gA).at_ 0 rfl;have x1:=(bk hM gA).at_ 1 rfl;have x2:=(bk hM gA).at_ 2 rfl;have x3:=(bk hM gA).at_ 3 rfl;clear hW Z gA;by_cases hkm:k<m
       ·by_cases lG:k<i
        ·have HL:=Kh (Oq u10 (k+1) (Y i k) a b wy cG.ql (by omega) (by omega) (by have:=aL.1;omega) (by have:=aL.1;omega) (by have:=aL.1;omega) (by have:=aL.1;omega) (λj _=>by have:=hJ.1 i hlt k (by omega) j;omega))
         have HV:=Kh (λj (hj:j<k+1+1)=>(show Fg a b (Y i k) (k+1) j=Y i (k+1) j by have h1:=lO.1 i k j (by omega);simp only[if_pos lG]at h1;exact h1));clear cG;go_wp2_with fail
         refine HL.1.mono ?_;rintro e w5 ⟨⟨g5,rfl,mG,bA⟩,dE⟩;have cX:=Kh (show PL g (Y i (k+1)) w5 (.slice (some ⟨g5,0,none⟩) (k+1+1) (k+1+1)) (k+1+1)from⟨g5,_,rfl,by omega,bA.sts.1,λj hj=>by have h1:=bA.val j hj;rw[HV.1 j hj]at h1;exact h1⟩);have hY:=bt aJ dE;clear bA dE HL HV aJ;go_wp2;go_roundw
         case rel=>exact⟨k+1,by omega,by go_num,cX.1,hY.1⟩
         case measure=>simp[intOf];omega
        ·have HL:=Kh (Oq u10 (k+1) (Y i k) c d wy cG.ql (by omega) (by omega) (by have:=aL.1;omega) (by have:=aL.1;omega) (by have:=aL.1;omega) (by have:=aL.1;omega) (λj _=>by have:=hJ.1 i hlt k (by omega) j;omega))
         have HV:=Kh (λj (hj:j<k+1+1)=>(show Fg c d (Y i k) (k+1) j=Y i (k+1) j by have h1:=lO.1 i k j (by omega);simp only[if_neg lG]at h1;exact h1));clear cG;go_wp2_with fail
         refine HL.1.mono ?_;rintro e w5 ⟨⟨g5,rfl,mG,bA⟩,dE⟩;have cX:=Kh (show PL g (Y i (k+1)) w5 (.slice (some ⟨g5,0,none⟩) (k+1+1) (k+1+1)) (k+1+1)from⟨g5,_,rfl,by omega,bA.sts.1,λj hj=>by have h1:=bA.val j hj;rw[HV.1 j hj]at h1;exact h1⟩);have hY:=bt aJ dE;clear bA dE HL HV aJ;go_wp2;go_roundw
         case rel=>exact⟨k+1,by omega,by go_num,cX.1,hY.1⟩
         case measure=>simp[intOf];omega
       ·obtain rfl:m=k:=by omega
        have lB:=Kh ((lR.1.keep (λ_=>IsQ.solid _) aJ.1).congr (G:=λj=>IsQ (mixQ (SB i) (SB (i+1)) 0 j)) (λj _=>by rw[Ug]));have nQ:=Kh (hZ.1.trans (aJ.1.mono (Nat.le_of_lt lF)));rw[<-HM.1]at cG;obtain⟨g5,oK,rfl,mG,oM,mF⟩:=cG;have nR:=Kh mF;clear mF lR hZ aJ x0 x1 x2 x3 hkm;go_wp2;go_loopw [64] (λkk J=>∃k:Nat,k<=n/\kk=.int .i64 k/\QRow (λj=>IsQ (mixQ (SB i) (SB (i+1)) k j)) J g n n/\wy.grownBy J (some g)) (λkk _=>n - (intOf kk).toNat)
        case atStart=>exact⟨0,Nat.zero_le _,rfl,lB.1,Af g (Below.refl _ _)⟩
        case round=>
         obtain⟨k,hk,rfl,I,Z⟩:=hrel;obtain⟨J,rfl⟩:∃J:World,J=wr:=⟨_,rfl⟩
         have H:=Kh I;have aJ:=Kh Z;have kY:=Kh (An nQ.1 Z (Nat.le_of_lt oD) (kT _));by_cases hkn:k<n
         ·obtain⟨s',p',i1,c',t',q',m',d',a0,a1,a2,a3,hx⟩:=(nR.1 k hkn).but (IsQ.solid _) lB.1.sts Z (by omega)
          obtain⟨s5,p5,n5,c5,t5,q5,m5,d5,e0,e1,e2,e3,hy⟩:=I.val k hkn;have hG:=Kh (show Cells4 J g (k*4) s5 p5 n5 c5 t5 q5 m5 d5 from⟨e0,e1,e2,e3⟩);have bE:=Kh (show Cells4 J.drew g (k*4) s5 p5 n5 c5 t5 q5 m5 d5 from⟨e0,e1,e2,e3⟩);have mP:Qs J s5 p5 n5 c5 t5 q5 m5 d5 (SB i k):=by rw[<-aP (SB i) (SB (i+1)) k];exact hy
          have mO:Qs J s' p' i1 c' t' q' m' d' (Y i m k):=hx;have lL:=Kh (λO (hb:Below J.heap.size J O)=>Fo s5 p5 n5 c5 t5 q5 m5 d5 (SB i k) s' p' i1 c' t' q' m' d' (Y i m k) O (mP.keep hb) (mO.keep hb) (by have:=lW.1 i (by omega) k;omega) (by have:=hJ.1 i hlt m (kT _) k;omega));simp only[<-lV.1]at lL;have lG:(k:Int)<(n:Int):=by omega
          have V:=I;clear hx hy mP mO e0 e1 e2 e3 I Z;go_upto_region 22 with(fail)
          have mB:J.drew.cell? ⟨g5,k*4,none⟩=some (.bool s')/\J.drew.cell? ⟨g5,k*4+1,none⟩=some (.slice p' i1 c')/\J.drew.cell? ⟨g5,k*4+2,none⟩=some (.bool t')/\J.drew.cell? ⟨g5,k*4+3,none⟩=some (.slice q' m' d')/\J.drew.cell? ⟨g,k*4,none⟩=some (cellOf J.drew ⟨g,k*4,none⟩)/\J.drew.frozen? ⟨g,k*4,none⟩=false/\Sts J.drew (g)/\J.drew.cell? ⟨g,k*4+1,none⟩=some (cellOf J.drew ⟨g,k*4+1,none⟩)/\J.drew.frozen? ⟨g,k*4+1,none⟩=false/\Sts J.drew (g)/\J.drew.cell? ⟨g,k*4+2,none⟩=some (cellOf J.drew ⟨g,k*4+2,none⟩)/\J.drew.frozen? ⟨g,k*4+2,none⟩=false/\Sts J.drew (g)/\J.drew.cell? ⟨g,k*4+3,none⟩=some (cellOf J.drew ⟨g,k*4+3,none⟩)/\J.drew.frozen? ⟨g,k*4+3,none⟩=false/\Sts J.drew (g)/\Below g wm J.drew/\g<=J.drew.heap.size:=D4 (Below.refl _ J).drew ⟨a0,a1,a2,a3,Am (V.has _ (by omega)),V.free _ (by omega),V.sts,Am (V.has _ (by omega)),V.free _ (by omega),V.sts,Am (V.has _ (by omega)),V.free _ (by omega),V.sts,Am (V.has _ (by omega)),V.free _ (by omega),V.sts,kY.1,kU (Nat.le_of_eq aT.symm) (Below.size kY.1)⟩;clear a0 a1 a2 a3 V;have M1:True:=trivial;refine wp_region_held_drew (S:=(λO=>O.cell? ⟨g5,k*4,none⟩=some (.bool s')/\O.cell? ⟨g5,k*4+1,none⟩=some (.slice p' i1 c')/\O.cell? ⟨g5,k*4+2,none⟩=some (.bool t')/\O.cell? ⟨g5,k*4+3,none⟩=some (.slice q' m' d')/\O.cell? ⟨g,k*4,none⟩=some (cellOf O ⟨g,k*4,none⟩)/\O.frozen? ⟨g,k*4,none⟩=false/\Sts O (g)/\O.cell? ⟨g,k*4+1,none⟩=some (cellOf O ⟨g,k*4+1,none⟩)/\O.frozen? ⟨g,k*4+1,none⟩=false/\Sts O (g)/\O.cell? ⟨g,k*4+2,none⟩=some (cellOf O ⟨g,k*4+2,none⟩)/\O.frozen? ⟨g,k*4+2,none⟩=false/\Sts O (g)/\O.cell? ⟨g,k*4+3,none⟩=some (cellOf O ⟨g,k*4+3,none⟩)/\O.frozen? ⟨g,k*4+3,none⟩=false/\Sts O (g)/\Below g wm O/\g<=O.heap.size)) (by kernel_rfl) ?_ (λhHeld0=>?_);focus((try dsimp only);with_reducible exact mB)
          refine K7 0 ?_;refine K7 1 ?_;refine K7 2 ?_;refine K7 3 ?_;refine K7 4 ?_;refine K7 6 ?_;refine K7 7 ?_;refine K7 8 ?_;refine K7 9 ?_;refine Zb [5] ?_;refine AllReadyH.cons rfl (λK hK=>?_) ?_;focus(go_simp;refine hK.out _ _ ?_ (λhHeld1=>?_))
          focus((try dsimp only);(first|with_reducible exact mB |(refine D4 (by with_reducible assumption) ?_;assumption)))
          focus(clear hK K hHeld0;(try simp only[Act.put,Br,Bt,Bs]))
          refine Zb [10] ?_;refine AllReadyH.cons rfl (λK hK=>?_) ?_;focus(go_simp;(go_at_call 39;(first|rw[Ae bE.1.1,Ae bE.1.2.1,Ae bE.1.2.2.1,Ae bE.1.2.2.2]|rw[Ae hG.1.1,Ae hG.1.2.1,Ae hG.1.2.2.1,Ae hG.1.2.2.2]);refine(lL.1 _ (by first|exact(Below.refl _ _).drew|exact Below.refl _ _)).mono ?_;rintro e w4 ⟨⟨s6,p6,n6,c6,t6,q6,m6,d6,rfl,mR⟩,mE⟩;have lE:Below J.heap.size J w4:=(by first|exact(Below.refl _ J).drew.trans mE|exact mE);have lP:=Kh (Xb (H.1.keep (λ_=>IsQ.solid _) lE) hkn mR);have nS:=Kh (aJ.1.trans (Af g lE));clear mR lE);(first|done|with_reducible refine hK.out _ _ ?_ (λhHeld2=>?_) |(go_wp2_with fail;with_reducible refine hK.out _ _ ?_ (λhHeld2=>?_))))
          focus((try dsimp only);(refine D4 (by with_reducible assumption) ?_;assumption))
          focus(clear hK K hHeld1;(try simp only[Act.put,Br,Bt,Bs]))
          refine K7 11 ?_;refine Zb [12] ?_;refine AllReadyH.cons rfl (λK hK=>?_) ?_;focus(go_simp;refine hK.out _ _ ?_ (λhHeld3=>?_))
          focus((try dsimp only);(refine N6 ?_ ?_ ?_ ?_ ?_ ?_ ?_ ?_ ?_ ?_ ?_ ?_ ?_ ?_ ?_ ?_ ?_ ?_ ?_ ?_ ?_ ?_ ?_ ?_ ?_ <;> first|assumption|exact NotInt.bool _|exact NotInt.slice _ _ _ |(dsimp only;omega) |(simp;done)))
          focus(clear hK K hHeld2;(try simp only[Act.put,Br,Bt,Bs]))
          focus(refine wpAnyH_done (by kernel_rfl) ?_ _)
          rotate_left
          exact AllReadyH.nil;exact AllReadyH.nil;exact AllReadyH.nil;all_goals go_wp2
          all_goals go_roundw
          all_goals first
           | exact⟨k+1,by omega,by go_num,lP.1,nS.1.trans (Gt _ _ _ _ _ _ _ _ _ _)⟩
           |(simp[intOf];omega)
         ·obtain rfl:n=k:=by omega
          have lA:=Kh (I.congr (G:=λj=>IsQ (SB (i+1) j)) (λj hj=>by rw[Xa hj]));clear I Z H lB;go_wp2;go_roundw
          case rel=>exact⟨i+1,by omega,by go_num,lA.1,kY.1⟩
          case measure=>simp[intOf];omega
    ·obtain rfl:n=i:=by omega
     go_wp2;go_ret;exact⟨⟨g,rfl,mH,H.1⟩,HW.1.trans (U.1.mono mH)⟩
theorem ZE.but {z:Int} {w w':World} {g H i:Nat} (Z:Sts w g) (h:w.grownBy w' (some g)) (J:H≠g) (hq:ZE z w H i):ZE z w' H i:=by
 obtain⟨s,p,n,c,U,V,Y⟩:=hq;have O:∀j v,w.cell? ⟨H,j,none⟩=some v->w'.cell? ⟨H,j,none⟩=some v:=λj v e=>h.cell e (λI=>by injection I with I;exact J I)
 exact⟨s,p,n,c,O _ _ U,O _ _ V,Y.i32 (I32.but Z h)⟩
def Cells2 (w:World) (g i:Nat) (s:Bool) (p:Option Addr) (n c:Nat):Prop:=w.cell? ⟨g,i,none⟩=some (.bool s)/\w.cell? ⟨g,i+1,none⟩=some (.slice p n c)
theorem Cells2.keep {w w':World} {g i:Nat} {s:Bool} {p:Option Addr} {n c:Nat} (h:Cells2 w g i s p n c) (I:Below w.heap.size w w'):Cells2 w' g i s p n c:=by
 have H:∀j v,w.cell? ⟨g,j,none⟩=some v->w'.cell? ⟨g,j,none⟩=some v:=λj v e=>(I.cell (p:=⟨g,j,none⟩) (World.block_lt_of_cell? w ⟨g,j,none⟩ e)).trans e
 exact⟨H _ _ h.1,H _ _ h.2⟩
theorem Jq (w:World) (g i j:Nat) (v0 v1:Value):w.grownBy ((w.setCell ⟨g,i,none⟩ v0).setCell ⟨g,j,none⟩ v1) (some g):=(Ai w g i v0).trans (Ai _ g j v1)
end Go.Proofs.YtenlbhlllgppmaaGreatDoor
