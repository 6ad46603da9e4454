/- Contracts of the two functions that list the matrices of T_n. -/
import Derived.Test.YtenlbhlllgppmaaGreatDoorC07
set_option maxRecDepth 100000
set_option maxHeartbeats 8000000
namespace Go.Proofs.YtenlbhlllgppmaaGreatDoor
open Go.RowKit Tryz
def matc (x:Pl.Cos):List Value:=[.int .i64 x.1.1,.int .i64 x.1.2.1,.int .i64 0,.int .i64 x.1.2.2]
def facc (x:Pl.Cos):List Value:=[.int .i64 x.2]
theorem Yj (x:Pl.Cos):∀u∈matc x,u.oneCell'=true:=by intro u E;simp[matc]at E;rcases E with rfl|rfl|rfl|rfl <;> rfl
theorem Xf (x:Pl.Cos):∀u∈facc x,u.oneCell'=true:=by intro u E;simp[facc]at E;subst E;rfl
theorem cR:(prog.info? 63).map (λi=>(i.zero,i.size,i.bytes))=some (some (.agg #[.int .i64 0,.int .i64 0,.int .i64 0,.int .i64 0]),4,32):=by kernel_rfl
theorem Xv:(prog.info? 3).map (λi=>(i.zero,i.size,i.bytes))=some (some (.int .i64 0),1,8):=by kernel_rfl
structure Two (w:World) (B:Nat) (v1 v2:Value) (L:List Pl.Cos):Prop where
 mats:w.ownsRow B 63 4 v1 L.length (L.flatMap matc)
 facs:w.ownsRow B 3 1 v2 L.length (L.flatMap facc)
theorem Two.nil_ (w:World) (B:Nat):Two w B (.slice none 0 0) (.slice none 0 0) []:=⟨World.ownsRow_nil _ _ _ _,World.ownsRow_nil _ _ _ _⟩
theorem Two.keep {w w':World} {B:Nat} {v1 v2:Value} {L:List Pl.Cos} (h:Two w B v1 v2 L) (E:Below w.heap.size w w'):Two w' B v1 v2 L:=⟨Kl h.mats E,Kl h.facs E⟩
theorem iV {w W E:World} {B g:Nat} {cs:Array Value} {l f v2:Value} {L:List Pl.Cos} {x:Pl.Cos} (h:Two W B l f L) (_ho:E.ownsRow B 63 4 v2 (L.length+1) (L.flatMap matc++matc x)) (hg:W.grownBy E l.ownBlock)
  (hB:Blk W g 23 cs) (J:Below B w W) (I:B<=W.heap.size):E.ownsRow B 3 1 f L.length (L.flatMap facc)/\Blk E g 23 cs/\Below B w E/\B<=E.heap.size:=
 ⟨Mb h.facs h.mats (by decide) hg,Sy hB h.mats (by decide) hg,At J h.mats hg (nL _) I,nM I hg.size⟩
theorem iW {w E I:World} {B g:Nat} {cs:Array Value} {f v2 v3:Value} {L:List Pl.Cos} {x:Pl.Cos} (U:E.ownsRow B 63 4 v2 (L.length+1) (L.flatMap matc++matc x)) (J:E.ownsRow B 3 1 f L.length (L.flatMap facc))
  (M:I.ownsRow B 3 1 v3 (L.length+1) (L.flatMap facc++facc x)) (hg:E.grownBy I f.ownBlock) (hB:Blk E g 23 cs) (O:Below B w E) (V:B<=E.heap.size):
  Two I B v2 v3 (L++[x])/\Blk I g 23 cs/\Below B w I:=
 ⟨⟨by rw[Pc,Lz];exact Mb U J (by decide) hg,by rw[Pc,Lz];exact M⟩,Sy hB J (by decide) hg,At O J hg (nL _) V⟩
theorem Q5 {N k D n:Int} (h:Pl.check N k D≠0):Pl.cosE N k D n=Pl.check N k D/\∀chi,Pl.cosL chi N k D n=[]:=by
 have E:Pl.cosE N k D n=Pl.check N k D:=by unfold Pl.cosE;rw[if_pos h]
 exact⟨E,λchi=>by unfold Pl.cosL;rw[if_neg (by rw[E];exact h)]⟩
theorem gG {N k D n:Int} (h:Pl.check N k D=0) (hn:n<1∨128<n):Pl.cosE N k D n=2/\∀chi,Pl.cosL chi N k D n=[]:=by
 have E:Pl.cosE N k D n=2:=by unfold Pl.cosE;rw[if_neg (by omega),if_pos hn]
 exact⟨E,λchi=>by unfold Pl.cosL;rw[if_neg (by rw[E];decide)]⟩
theorem Oe (N n:Nat) (k D:Int) (w:World) (hT:Tab w) (hN:0<N) (nV:N<=120) (hD:-120<=D) (nU:D<=120) (hn:0<n) (hS:n<=128) (eG:Pl.check N k D=0):
  Calls prog 75 #[Ku N k D,.int .i64 n] w λe w'=>(∃v1 v2,e=.returned (.tuple #[v1,v2,.int .i64 0])/\Two w' w.heap.size v1 v2 (Pl.cosAt (Pl.kroP D) N n n))/\Below w.heap.size w w':=by
 have HK:=Kh eG;clear eG;go_enter func75,ntmps75
 go_wp2_with fail
 refine(Fo N k D _).mono ?_;rw[HK.1];rintro en w1 ⟨rfl,bY⟩;simp only[World.size_alloc]at bY;have B1:Blk w1 w.heap.size 23 #[.int .i64 N,.int .i64 k,.int .i64 D]:=(Blk.new w _ _).below_ bY (by omega);have W1:Below w.heap.size w w1:=((Below.refl _ _).alloc (nL _) _).trans (bY.mono (by omega));have gL:=Kh B1;have hE:=Kh W1;have HT:=Kh hT;clear bY B1 W1 hT;go_wp2;go_loopw [8,9,10] (λl f x wr=>∃q:Nat,q<=n/\x=.int .i64 ((q+1:Nat):Int)/\Two wr w.heap.size l f (Pl.cosAt (Pl.kroP D) N n q)/\Blk wr w.heap.size 23 #[.int .i64 N,.int .i64 k,.int .i64 D]/\Below w.heap.size w wr ) (λ_ _ x _=>n+1 - (intOf x).toNat)
 case atStart=>exact⟨0,Nat.zero_le _,rfl,Two.nil_ _ _,gL.1,hE.1⟩
 case round=>
  obtain⟨q,hq,rfl,cF,hB,hW⟩:=hrel;have gF:=hW.size;have aD:=Kh cF;have HB:=Kh hB;have HW:=Kh hW;have d0:wr.cell? ⟨w.heap.size,0,none⟩=some (.int .i64 N):=hB.at_ 0 rfl;have d2:wr.cell? ⟨w.heap.size,2,none⟩=some (.int .i64 D):=hB.at_ 2 rfl;clear cF hB hW;obtain⟨a,ha⟩:∃a,q+1=a:=⟨_,rfl⟩
  rw[ha];have eF:0<a/\a<=n+1:=by omega
  obtain⟨eF,nW⟩:=eF;have U:=Kh ha;clear ha hq;by_cases hle:a<=n
  ·have eT:=Pl.cosAt_len (Pl.kroP D) N n q
   have cT:q*n<=128*128:=Nat.mul_le_mul (by have:=U.1;omega) (by omega);have V:w.heap.size<wr.heap.size:=HB.1.lt;by_cases hd:n % a=0
   ·have hP:((n:Int) % (a:Int) != 0)=false:=by rw[<-Int.natCast_emod,hd];rfl
    have hJ:=Kh hd;clear hd;obtain⟨g,hg⟩:∃g,Nat.gcd a N=g:=⟨_,rfl⟩
    have HG:=Kh (show((Int.gcd (a:Int) (N:Int):Nat):Int)=(g:Int)by rw[<-hg];rfl);have Hg:=Kh hg;clear hg;by_cases hg1:g=1
    ·have eP:((g:Int) != 1)=false:=by rw[bne_eq_false_iff_eq];omega
     obtain⟨d,aN⟩:∃d,n / a=d:=⟨_,rfl⟩
     have nY:(n:Int) / (a:Int)=(d:Int):=by rw[<-aN];exact(Int.natCast_ediv _ _).symm
     have nX:d<=128:=by rw[<-aN];exact nM (Nat.div_le_self _ _) hS
     obtain⟨c,hc⟩:∃c,Pl.kroP D a=c:=⟨_,rfl⟩
     have HC:=Kh hc;have gP:=Kh aN;have E:=Pl.cosAt_yes (chi:=Pl.kroP D) (N:=N) (n:=n) (k:=q) (by rw[U.1];exact hJ.1) (by rw[U.1,Hg.1];exact hg1);rw[U.1,aN]at E;generalize hL:Pl.cosAt (Pl.kroP D) N n q=L at eT aD E;have h:=Kh E;have HL:=Kh hL;have nR:=Kh hg1;clear hc aN E hL hg1;go_wp2_with (first |(go_at_call 40;refine(Ec _ _ _ (by omega) (by omega) (by omega) (by omega)).mono ?_;rw[HG.1];rintro e wx ⟨rfl,bA⟩;have I:=A4 bA;have J:=Kh I;have e0:wx.cell? ⟨w.heap.size,0,none⟩=some (.int .i64 N):=(I.cell V).trans d0;have e2:wx.cell? ⟨w.heap.size,2,none⟩=some (.int .i64 D):=(I.cell V).trans d2;clear I bA) |(go_at_call 128;refine(Iq D a _ ((HT.1.below HW.1).below J.1) (by omega) (by omega) (by omega) (by omega)).mono ?_;rw[HC.1];rintro e wy ⟨rfl,rfl⟩))
     obtain⟨T2,B2,W2⟩:Two wx w.heap.size u8 u9 L/\Blk wx w.heap.size 23 #[.int .i64 N,.int .i64 k,.int .i64 D]/\Below w.heap.size w wx:=
      ⟨aD.1.keep J.1,HB.1.below_ J.1 V,HW.1.trans (J.1.mono gF)⟩
     have gU:=Kh T2;have gN:=Kh B2;have hG:=Kh W2;clear T2 B2 W2 e0 e2 d0 d2;obtain⟨wo,rfl⟩:∃wo:World,wo=wx:=⟨_,rfl⟩
     go_loopw [8,9,12] (λl f x wr=>∃j:Nat,j<=d/\x=.int .i64 j/\Two wr w.heap.size l f (L++Pl.cosRow (Pl.kroP D) n a j)/\Blk wr w.heap.size 23 #[.int .i64 N,.int .i64 k,.int .i64 D]/\Below w.heap.size w wr) (λ_ _ x _=>d - (intOf x).toNat)
     case atStart=>exact⟨0,Nat.zero_le _,rfl,by rw[show Pl.cosRow (Pl.kroP D) n a 0=[]from rfl,List.append_nil];exact gU.1,gN.1,hG.1⟩
     case round=>
      obtain⟨j,hj,rfl,Z,bE,aK⟩:=hrel;have gA:=aK.size;have hR:(L++Pl.cosRow (Pl.kroP D) n a j).length<=128*128+128:=by rw[List.length_append,Pl.cosRow_len];omega
      by_cases hjd:j<d
      ·have eY:L++Pl.cosRow (Pl.kroP D) n a (j+1)=(L++Pl.cosRow (Pl.kroP D) n a j)++[((a,j,d),c)]:=by rw[Pl.cosRow_succ,List.append_assoc,gP.1,HC.1]
       have cX:=Kh eY;generalize L++Pl.cosRow (Pl.kroP D) n a j=M at Z hR cX;have bC:=Kh Z;have cG:=Kh bE;have cM:=Kh aK;clear eY Z bE aK;go_wp2_with (first |(at_builtin;refine Ho rfl (.tmp 51) (.tmp 58) _ 63 rfl underlying113 cR rfl (by decide) w.heap.size M.length _ (M.flatMap matc) (matc ((a,j,d),c)) rfl bC.1.mats rfl rfl (Yj _) (by omega) (by omega) gA ?_;intro v2 w2 O cC nA;have cS:=iV bC.1 O cC cG.1 cM.1 gA;have gS:=Kh O;have bB:=Kh cS;have eX:=cS.2.2.2;clear O cC cS) |(at_builtin;refine Ho rfl (.tmp 60) (.tmp 62) _ 3 rfl underlying93 Xv rfl (by decide) w.heap.size M.length _ (M.flatMap facc) (facc ((a,j,d),c)) rfl bB.1.1 rfl rfl (Xf _) (by omega) (by omega) eX ?_;intro v3 w3 aX cD nB;have dY:=iW gS.1 bB.1.1 aX cD bB.1.2.1 bB.1.2.2.1 eX;have cI:=Kh dY;clear aX cD dY))
       go_roundw
       case rel=>exact⟨j+1,by omega,by go_num,by rw[cX.1];exact cI.1.1,cI.1.2.1,cI.1.2.2⟩
       case measure=>simp[intOf];omega
      ·have hQ:j=d:=by omega
       subst hQ;rw[<-h.1]at Z;have bC:=Kh Z;have cG:=Kh bE;have cM:=Kh aK;clear Z bE aK;go_wp2;go_roundw
       case rel=>exact⟨q+1,by have:=U.1;omega,by have:=U.1;go_num,by rw[U.1];exact bC.1,cG.1,cM.1⟩
       case measure=>simp[intOf];omega
    ·have eP:((g:Int) != 1)=true:=by rw[bne_iff_ne];omega
     have E:=Pl.cosAt_no (chi:=Pl.kroP D) (N:=N) (n:=n) (k:=q) (.inr (by rw[U.1,Hg.1];exact hg1));have h:=Kh E;clear E hg1;go_wp2_with (go_at_call 40;refine(Ec _ _ _ (by omega) (by omega) (by omega) (by omega)).mono ?_;rw[HG.1];rintro e wx ⟨rfl,bA⟩;have I:=A4 bA;have J:=Kh I;have e0:wx.cell? ⟨w.heap.size,0,none⟩=some (.int .i64 N):=(I.cell V).trans d0;have e2:wx.cell? ⟨w.heap.size,2,none⟩=some (.int .i64 D):=(I.cell V).trans d2;clear I bA)
     go_roundw
     case rel=>exact⟨q+1,by have:=U.1;omega,by have:=U.1;go_num,by rw[h.1];exact aD.1.keep J.1,HB.1.below_ J.1 V,HW.1.trans (J.1.mono gF)⟩
     case measure=>simp[intOf];omega
   ·have hP:((n:Int) % (a:Int) != 0)=true:=by rw[<-Int.natCast_emod,bne_iff_ne];omega
    have E:=Pl.cosAt_no (chi:=Pl.kroP D) (N:=N) (n:=n) (k:=q) (.inl (by rw[U.1];exact hd));have h:=Kh E;clear E hd;go_wp2;go_roundw
    case rel=>exact⟨q+1,by have:=U.1;omega,by have:=U.1;go_num,by rw[h.1];exact aD.1,HB.1,HW.1⟩
    case measure=>simp[intOf];omega
  ·have cT:q=n:=by have:=U.1;omega
   have cB:Two wr w.heap.size u8 u9 (Pl.cosAt (Pl.kroP D) N n n):=by have:=aD.1;rw[cT]at this;exact this
   have dC:=Kh cB;clear cB cT;go_wp2;go_ret3
   exact⟨⟨_,_,rfl,dC.1⟩,HW.1⟩
theorem Od (N k D n:Int) (w:World) (hT:Tab w):
  Calls prog 75 #[Ku N k D,.int .i64 n] w λe w'=>(∃v1 v2,e=.returned (.tuple #[v1,v2,.int .i64 (Pl.cosE N k D n)])/\Two w' w.heap.size v1 v2 (Pl.cosL (Pl.kroP D) N k D n))/\Below w.heap.size w w':=by
 by_cases hc:Pl.check N k D=0
 ·by_cases hn:n<1∨128<n
  ·obtain⟨I,J⟩:=gG (D:=D) hc hn
   rw[I,J];have HK:=Kh hc;clear hc I J
   have M:∀(e:Ending) (w':World),e=.returned (.tuple #[.slice none 0 0,.slice none 0 0,.int .i64 2])->Below w.heap.size w w'->(∃v1 v2,e=.returned (.tuple #[v1,v2,.int .i64 2])/\Two w' w.heap.size v1 v2 [])/\Below w.heap.size w w':=
    λe w' O Z=>⟨⟨_,_,O,Two.nil_ _ _⟩,Z⟩
   rcases hn with hn|hn
   ·go_enter func75,ntmps75
    go_wp2_with (go_at_call 127;refine(Fo N k D _).mono ?_;rw[HK.1];rintro en w1 ⟨rfl,E⟩)
    go_ret3
    simp only[World.size_alloc]at E;exact M _ _ rfl (((Below.refl _ _).alloc (nL _) _).trans (E.mono (by omega)))
   ·have bC:¬n<1:=by omega
    go_enter func75,ntmps75
    go_wp2_with (go_at_call 127;refine(Fo N k D _).mono ?_;rw[HK.1];rintro en w1 ⟨rfl,E⟩)
    go_ret3
    simp only[World.size_alloc]at E;exact M _ _ rfl (((Below.refl _ _).alloc (nL _) _).trans (E.mono (by omega)))
  ·have O:Pl.cosE N k D n=0:=by unfold Pl.cosE;rw[if_neg (by omega),if_neg hn]
   have Z:Pl.cosL (Pl.kroP D) N k D n=Pl.cosAt (Pl.kroP D) N.toNat n.toNat n.toNat:=by unfold Pl.cosL;rw[if_pos O]
   rw[O,Z];obtain⟨⟨a1,a2⟩,_,⟨a3,a4⟩,_,_⟩:=Pl.check_ok hc;obtain⟨N,rfl⟩:=Int.eq_ofNat_of_zero_le (show 0<=N by omega);obtain⟨n,rfl⟩:=Int.eq_ofNat_of_zero_le (show 0<=n by omega);simp only[Int.toNat_natCast];exact Oe N n k D w hT (by omega) (by omega) a3 a4 (by omega) (by omega) hc
 ·obtain⟨I,J⟩:=Q5 (n:=n) hc
  rw[I,J];have h:(Pl.check N k D != 0)=true:=by rw[bne_iff_ne];exact hc
  have U:=λw=>Fo N k D w
  generalize Pl.check N k D=c at hc h U;have V:=Kh U;clear U hc I J;go_enter func75,ntmps75
  go_wp2_with (go_at_call 127;refine(V.1 _).mono ?_;rintro en w1 ⟨rfl,E⟩)
  go_ret3
  simp only[World.size_alloc]at E;exact⟨⟨_,_,rfl,Two.nil_ _ _⟩,((Below.refl _ _).alloc (nL _) _).trans (E.mono (by omega))⟩
def Rd (w:World) (sz:Nat) (v:Value) (n:Nat) (xs:List Value):Prop:=
 xs.length=n*sz/\((n=0/\∃a c,v=.slice a 0 c)∨∃g o cap,v=.slice (some ⟨g,o,none⟩) n cap/\g<w.heap.size/\∀j u,xs[j]?=some u->w.cell? ⟨g,o+j,none⟩=some u)
theorem Rd.of_own {w:World} {B E sz n:Nat} {v:Value} {I:List Value} (h:w.ownsRow B E sz v n I):Rd w sz v n I:=by
 refine⟨h.1,?_⟩;rcases Cb h with⟨rfl,rfl,_⟩ |⟨g,cap,rfl,_,hg,_⟩
 ·exact .inl ⟨rfl,_,_,rfl⟩
 ·exact .inr ⟨g,0,cap,rfl,hg,λj u J=>by rw[Nat.zero_add];exact Ai h J⟩
theorem Rd.keep {w w':World} {sz n:Nat} {v:Value} {I:List Value} (h:Rd w sz v n I) (E:Below w.heap.size w w'):Rd w' sz v n I:=by
 refine⟨h.1,?_⟩;rcases h.2 with J |⟨g,o,cap,e,hg,M⟩
 ·exact .inl J
 ·exact .inr ⟨g,o,cap,e,nN hg E.size,λj u O=>(E.cell (p:=⟨g,o+j,none⟩) hg).trans (M j u O)⟩
theorem Ft {I:Type} (f:I->List Value) (sz:Nat) (E:∀x,(f x).length=sz) (l:List I) (k:Nat) (h:k<l.length) (i:Nat) (J:i<sz):(l.flatMap f)[k*sz+i]?=(f l[k])[i]?:=by
 induction l generalizing k with
 | nil=>simp at h
 | cons x l ih=>
  rw[List.flatMap_cons];cases k with
  | zero=>rw[Nat.zero_mul,Nat.zero_add,List.getElem?_append_left (by rw[E];exact J)];rfl
  | succ k=>
   rw[List.getElem?_append_right (by rw[E,Nat.succ_mul];omega),E,show(k+1)*sz+i - sz=k*sz+i from by rw[Nat.succ_mul];omega,ih k (by simpa using h)];rfl
theorem Rd.cells {M:Type} {w:World} {sz g o:Nat} {f:M->List Value} {l:List M} (J:∀x,(f x).length=sz) (O:∀j u,(l.flatMap f)[j]?=some u->w.cell? ⟨g,o+j,none⟩=some u) {k:Nat} (h:k<l.length) {i:Nat} {u:Value} (I:(f l[k])[i]?=some u):
  w.cell? ⟨g,o+(k*sz+i),none⟩=some u:=by
 refine O _ _ ?_
 have U:i<sz:=by
  rw[<-J l[k]];rcases Nat.lt_or_ge i (f l[k]).length with hlt|E
  ·exact hlt
  ·rw[List.getElem?_eq_none E]at I;cases I
 rw[Ft f sz J l k h i U];exact I
theorem Ug (v1 v2:Value) (L:List Pl.Cos) (w:World) (J:Rd w 4 v1 L.length (L.flatMap matc)) (M:Rd w 4 v2 L.length (L.flatMap matc)) (hl:L.length<=1000000):
  Calls prog 76 #[v1,v2] w λe w'=>e=.returned (.bool true)/\∃n,w'=w.drewN n:=by
 by_cases h0:L.length=0
 ·have e1:∃a c,v1=.slice a 0 c:=by
   rcases J.2 with⟨_,h⟩ |⟨_,_,_,e,_⟩
   ·exact h
   ·exact⟨_,_,by rw[e,h0]⟩
  have e2:∃a c,v2=.slice a 0 c:=by
   rcases M.2 with⟨_,h⟩ |⟨_,_,_,e,_⟩
   ·exact h
   ·exact⟨_,_,by rw[e,h0]⟩
  obtain⟨O,c1,rfl⟩:=e1;obtain⟨Z,c2,rfl⟩:=e2;clear J M h0;go_enter func76,ntmps76
  go_wp2;go_loop [5] (λi=>i=.int .i64 0) (λ_=>0)
  case atStart=>rfl
  case round=>
   obtain rfl:=hrel;go_wp2;go_ret;exact⟨rfl,0,rfl⟩
 ·obtain⟨g1,o1,c1,rfl,_,r1⟩:=J.2.resolve_left (λh=>h0 h.1)
  obtain⟨g2,o2,c2,rfl,_,r2⟩:=M.2.resolve_left (λh=>h0 h.1);have E:=Kh r1;have I:=Kh r2;clear J M r1 r2 h0;go_enter func76,ntmps76
  go_wp2;go_loopw [5] (λi wr=>∃k:Nat,k<=L.length/\i=.int .i64 k/\∃n,wr=w.drewN n) (λi _=>L.length - (intOf i).toNat)
  case atStart=>exact⟨0,Nat.zero_le _,rfl,0,rfl⟩
  case round=>
   obtain⟨k,hk,rfl,nr,rfl⟩:=hrel;by_cases hlt:k<L.length
   ·have a0:=Rd.cells (sz:=4) (f:=matc) (λ_=>rfl) E.1 hlt (i:=0) rfl
    have O:=Rd.cells (sz:=4) (f:=matc) (λ_=>rfl) E.1 hlt (i:=1) rfl;have Z:=Rd.cells (sz:=4) (f:=matc) (λ_=>rfl) E.1 hlt (i:=2) rfl;have a3:=Rd.cells (sz:=4) (f:=matc) (λ_=>rfl) E.1 hlt (i:=3) rfl;have U:=Rd.cells (sz:=4) (f:=matc) (λ_=>rfl) I.1 hlt (i:=0) rfl;have b1:=Rd.cells (sz:=4) (f:=matc) (λ_=>rfl) I.1 hlt (i:=1) rfl;have b2:=Rd.cells (sz:=4) (f:=matc) (λ_=>rfl) I.1 hlt (i:=2) rfl;have b3:=Rd.cells (sz:=4) (f:=matc) (λ_=>rfl) I.1 hlt (i:=3) rfl;rw[<-Nat.add_assoc]at a0 O Z a3 U b1 b2 b3;rw[Nat.add_zero]at a0 U;generalize ((L[k]).1.1:Int)=x0 at a0 U;generalize ((L[k]).1.2.1:Int)=x1 at O b1;generalize ((L[k]).1.2.2:Int)=x3 at a3 b3;go_wp2;go_quiet (fail)
    go_wp2;go_roundw
    case rel=>exact⟨k+1,by omega,by go_num,_,rfl⟩
    case measure=>simp[intOf];omega
   ·have V:k=L.length:=by omega
    subst V;go_wp2;go_ret;exact⟨rfl,nr,rfl⟩
theorem Up (L:List Pl.Cos):L.flatMap facc=(L.map (·.2)).map (Value.int .i64):=by
 induction L with
 | nil=>rfl
 | cons x L ih=>rw[List.flatMap_cons,ih];rfl
theorem Qq (v1 v2:Value) (L:List Int) (w:World) (E:Rd w 1 v1 L.length (L.map (Value.int .i64))) (I:Rd w 1 v2 L.length (L.map (Value.int .i64))) (hl:L.length<=1000000):
  Calls prog 77 #[v1,v2] w λe w'=>e=.returned (.bool true)/\∃n,w'=w.drewN n:=by
 by_cases h0:L.length=0
 ·have e1:∃a c,v1=.slice a 0 c:=by
   rcases E.2 with⟨_,h⟩ |⟨_,_,_,e,_⟩
   ·exact h
   ·exact⟨_,_,by rw[e,h0]⟩
  have e2:∃a c,v2=.slice a 0 c:=by
   rcases I.2 with⟨_,h⟩ |⟨_,_,_,e,_⟩
   ·exact h
   ·exact⟨_,_,by rw[e,h0]⟩
  obtain⟨a1,c1,rfl⟩:=e1;obtain⟨a2,c2,rfl⟩:=e2;clear E I h0;go_enter func77,ntmps77
  go_wp2;go_loop [5] (λi=>i=.int .i64 0) (λ_=>0)
  case atStart=>rfl
  case round=>
   obtain rfl:=hrel;go_wp2;go_ret;exact⟨rfl,0,rfl⟩
 ·obtain⟨g1,o1,c1,rfl,_,O⟩:=E.2.resolve_left (λh=>h0 h.1)
  obtain⟨g2,o2,c2,rfl,_,U⟩:=I.2.resolve_left (λh=>h0 h.1);have V:=Kh O;have Z:=Kh U;clear E I O U h0;go_enter func77,ntmps77
  go_wp2;go_loopw [5] (λi wr=>∃k:Nat,k<=L.length/\i=.int .i64 k/\∃n,wr=w.drewN n) (λi _=>L.length - (intOf i).toNat)
  case atStart=>exact⟨0,Nat.zero_le _,rfl,0,rfl⟩
  case round=>
   obtain⟨k,hk,rfl,nr,rfl⟩:=hrel;by_cases hlt:k<L.length
   ·obtain⟨x,M⟩:∃x,(L.map (Value.int .i64))[k]?=some (.int .i64 x):=⟨L[k],by simp[List.getElem?_eq_getElem hlt]⟩
    have a0:=V.1 k _ M;have b0:=Z.1 k _ M;clear M;go_wp2;go_quiet (fail)
    go_wp2;go_roundw
    case rel=>exact⟨k+1,by omega,by go_num,_,rfl⟩
    case measure=>simp[intOf];omega
   ·have J:k=L.length:=by omega
    subst J;go_wp2;go_ret;exact⟨rfl,nr,rfl⟩
theorem aJ:Pl.cosE 3 3 (-3) 2=0:=by decide +kernel
theorem aL:Pl.cosL (Pl.kroP (-3)) 3 3 (-3) 2=[((1,0,2),1),((1,1,2),1),((2,0,1),-1)]:=by decide +kernel
theorem Zg (w:World) (E sz n:Nat) (cs:Array Value) (h:cs.size=n*sz):Rd (w.alloc (.cells cs E)) sz (.slice (some ⟨w.heap.size,0,none⟩) n n) n cs.toList:=
 ⟨by simpa using h,.inr ⟨w.heap.size,0,n,rfl,by simp,λj u I=>by rw[Nat.zero_add,(Blk.new w E cs).cell_ j];simpa using I⟩⟩
theorem Uh (w:World) (hT:Tab w):
  Calls prog 35 #[] w λe w'=>e=.returned (.bool true)/\Below w.heap.size w w':=by
 have CC:=Od 3 3 (-3) 2 w hT;rw[aJ,aL]at CC;have HC:=Kh CC;clear CC;go_enter func35,ntmps35
 go_wp2_with fail
 refine HC.1.mono ?_;rintro en w1 ⟨⟨v1,v2,rfl,E⟩,V⟩;have Z:=Rd.of_own E.mats;have O:=Rd.of_own E.facs;rw[Up]at O;have aK:=Kh Z;have aN:=Kh O;have U:=Kh V;clear E Z O V;go_wp2_with fail
 refine(Ug v1 _ [((1,0,2),1),((1,1,2),1),((2,0,1),-1)] _ (aK.1.keep ((Below.refl _ _).alloc (nL _) _)) (Zg w1 _ 4 3 _ rfl) (by decide)).mono ?_;rintro en h ⟨rfl,hq⟩;have J:=A4 hq;simp only[World.size_alloc]at J;have W2:Below w1.heap.size w1 h:=((Below.refl _ _).alloc (nL _) _).trans (J.mono (by omega));have I:=Kh W2;clear hq J W2;go_wp2_with fail
 refine(Qq v2 _ [1,1,-1] _ ((aN.1.keep I.1).keep ((Below.refl _ _).alloc (nL _) _)) (Zg h _ 1 3 _ rfl) (by decide)).mono ?_;rintro en w3 ⟨rfl,hq⟩;have M:=A4 hq;simp only[World.size_alloc]at M;have W3:Below h.heap.size h w3:=((Below.refl _ _).alloc (nL _) _).trans (M.mono (by omega));have aX:=Kh W3;clear hq M W3;go_wp2;go_ret;have s1:=U.1.size;have s2:=I.1.size;exact⟨rfl,(U.1.trans (I.1.mono s1)).trans (aX.1.mono (by omega))⟩
theorem bZ (N k D n:Int) (chi:Nat->Int):(Pl.cosL chi N k D n).length<=1000000:=by
 unfold Pl.cosL;split
 ·rename_i h
  obtain⟨_,E,I⟩:=Pl.cosE_ok h;have J:=Pl.cosAt_len chi N.toNat n.toNat n.toNat;have M:n.toNat*n.toNat<=128*128:=Nat.mul_le_mul (by omega) (by omega);omega
 ·decide
end Go.Proofs.YtenlbhlllgppmaaGreatDoor
