/- Contracts of halfplaneref01: trim. -/
import Derived.Test.YtenlbhlllgppmaaGreatDoorB13
import Derived.Laws.AppendOwnNone
set_option maxRecDepth 100000
set_option maxHeartbeats 8000000
namespace Go.Proofs.YtenlbhlllgppmaaGreatDoor
open Go.RowKit Tryz
theorem Qo {P:Program} {w:World} (I:Nat) (t Z e:TypeId) (i:TypeInfo) (size:Nat) (V:P.underlying t=some (.slice e)) (U:P.info? e=some i)
  (v:Value) (n c:Nat) (h:List Value) (J:w.ownsRow I e size v n h):
  (Builtin.append_ #[t,t] Z #[v,.slice none 0 c]).run P w=.ok v w:=by
 rcases J.2 with⟨rfl,rfl⟩ |⟨g,cap,Y,rfl,_,_,O,_⟩
 ·simp[Builtin.append_,run_underlying V,sizeOf,typeInfo,U,Builtin.lenOf,Builtin.firstCells]
 ·simp[Builtin.append_,run_underlying V,sizeOf,typeInfo,U,Builtin.lenOf,Builtin.firstCells,O,storeCells]
theorem Q3 {P:Program} {w:World} {U:Array Oper} {rest:List Oper} {o:Oper} {a:Act} {Q:Exit->Act->World->Prop} (V:o.guard=none) (s x:Operand) (t:TypeId)
  (ho:o.op=.call { callee:=.builtin .append,args:=#[s,x],argTypes:=#[t,t] })
  (I:Nat) (e:TypeId) (i:TypeInfo) (size:Nat) (ht:P.underlying t=some (.slice e)) (Z:P.info? e=some i)
  (v:Value) (n c:Nat) (Y:List Value) (hs:a.eval s=v) (J:w.ownsRow I e size v n Y) (hx:a.eval x=.slice none 0 c)
  (h:wpList P U Q rest (a.put o.dst v) w):wpList P U Q (o :: rest) a w:=by
 refine wpList_plain V λK hK=>?_
 have O:=Qo (P:=P) (w:=w) I t o.type e i size ht Z v n c Y J;unfold Oper.wp;simp[execOp,ho,resolve,invoke,builtin,hs,hx,O,Result.andThen];exact hK _ _ h
def jH (B:Nat) (w':World) (e:Ending) (v:Nat):Prop:=∃p c,e=.returned (.slice p (nd v) c)/\Nm w' p c v/\(nd v=0∨∃g,p=some ⟨g,0,none⟩/\B<=g)
theorem Dg.of_own' {w:World} {B n:Nat} {v:Value} {a:Nat->Nat} (h:w.ownsRow B 200 1 v n (Ca a n)) (I:∀j,j<n->a j<4294967296):∃p c,v=.slice p n c/\Dg w p c n a/\(n=0∨∃g,p=some ⟨g,0,none⟩/\B<=g):=by
 rcases De h with⟨rfl,rfl,_⟩ |⟨g,cap,rfl,hB,hg,J⟩
 ·exact⟨none,0,rfl,⟨nR _,I,.inl rfl⟩,.inl rfl⟩
 ·exact⟨_,_,rfl,⟨J,I,.inr ⟨g,0,rfl,hg,λj O=>by rw[Nat.zero_add];exact An h (Fx O)⟩⟩,.inr ⟨g,rfl,hB⟩⟩
theorem Xm (p:Option Addr) (c n:Nat) (a:Nat->Nat) (w:World) (h:Dg w p c n a) (hn:n<=35184372088830):
  Calls prog 179 #[.slice p n c] w λe w'=>jH w.heap.size w' e (vf a n)/\Below w.heap.size w w':=by
 have H:=Kh h;have gU:=h.cap;clear h;go_enter func179,ntmps179
 go_wp2;go_loopw [3] (λv3 wr=>∃k:Nat,k<=n/\v3=.int .i64 k/\vf a k=vf a n/\wr=w) (λv3 _=>(intOf v3).toNat)
 case atStart=>exact⟨n,nR _,rfl,rfl,rfl⟩
 case round=>
  obtain⟨k,hk,rfl,hv,rfl⟩:=hrel;have HV:=Kh hv;clear hv;by_cases h0:k=0
  ·subst h0
   cases p with
   | none=>
    have gF:=Kh (show vf a n=0 by rw[<-HV.1];rfl);obtain⟨i0,hi,V,Y,Z⟩:=info_parts Gw;go_wp2_with (at_builtin;refine Q3 rfl _ _ 82 rfl wr.heap.size 200 i0 1 Qz hi _ _ c _ rfl (World.ownsRow_made wr #[] 0 (nR _) (Nat.zero_le _) rfl) rfl ?_)
    clear hi V Y Z;go_wp2;go_ret;rw[gF.1];exact⟨⟨_,_,by rw[Cq];rfl,⟨Nat.zero_le _,λj hj=>absurd hj (by simp[Cq]),.inl Cq⟩,.inl Cq⟩,(Below.refl _ wr).alloc (nR _) _⟩
   | some q=>
    have I:∀(ob:Obj) (j:Nat) (u:Value),(Ca a 0)[j]?=some u->(wr.alloc ob).cell? (q.add j)=some u:=by
     intro ob j u hu;obtain⟨hj,rfl⟩:=Hb hu;omega
    have HC:=Kh I;have bC:=(H.1.take hk).norm (.inl rfl);have U:=Kh bC;have aX:=Kh (λj (hj:j<0)=>H.1.lt j (by omega));obtain⟨i0,hi,V,Y,Z⟩:=info_parts Gw;clear I bC;go_wp2_with (at_builtin;refine wpList_append_own _ rfl _ _ 82 rfl wr.heap.size 200 i0 (.int .u32 0) 1 4 Qz hi V Y Z rfl (by decide) _ _ _ rfl (World.ownsRow_made wr #[] 0 (nR _) (Nat.zero_le _) rfl) q 0 c (Ca a 0) rfl ?qc1 ?qc2 ?qc3 ?qc4 ?qc5 ?qc6 ?_)
    case qc1=>rw[D9,Nat.mul_one]
    case qc2=>exact HC.1 _
    case qc3=>exact Fy
    case qc4=>unfold maxLen;omega
    case qc5=>omega
    case qc6=>simp
    intro v' w1 O J bB;have hb:Below wr.heap.size wr w1:=((Below.refl _ wr).alloc (nR _) _).grown J (by simp) (by intro k hk;simp[Value.ownBlock]at hk;omega);obtain⟨p',c',rfl,hd,bA⟩:=Dg.of_own' (n:=0) (a:=a) (by simpa using O) aX.1;have HD:=Kh (hd.nm (t:=vf a n) HV.1 (by rw[<-HV.1];exact U.1.1));have HB:=Kh hb;have HK:=Kh (show nd (vf a n)=0 by rw[<-HV.1];exact U.1.1);have cA:=Kh bA;clear bA O J bB hd hb HC U aX hi V Y Z;go_wp2;go_ret;exact⟨⟨p',c',by rw[HK.1];rfl,HD.1,by rw[HK.1];first|exact cA.1|exact .inl rfl⟩,HB.1⟩
  ·have hE:0<k:=by omega
   obtain⟨g,o,rfl,hg,hc⟩:=H.1.head (by omega);have c1:=hc (k - 1) (by omega);have e1:((k:Int) - 1).toNat=k - 1:=by omega
   have dY:=Kh hc;clear hc;by_cases hz:a (k - 1)=0
   ·have HZ:=Kh hz
    rw[hz]at c1;clear hz;go_wp2;go_roundw
    case rel=>exact⟨k - 1,by omega,by go_num,by
     rw[<-HV.1];obtain⟨m,rfl⟩:∃m,k=m+1:=⟨k - 1,by omega⟩
     rw[vf];have:=HZ.1;simp only[Nat.add_sub_cancel]at this ⊢;rw[this];simp,by first|rfl|trivial⟩
    case measure=>simp[intOf];omega
   ·have hG:(((a (k - 1):Nat):Int)==0)=false:=beq_eq_false_iff_ne.2 (by omega)
    have gA:=Kh hz;clear hz
    have I:∀(ob:Obj) (j:Nat) (u:Value),(Ca a k)[j]?=some u->(wr.alloc ob).cell? ((⟨g,o,none⟩:Addr).add j)=some u:=by
     intro ob j u hu;obtain⟨hj,rfl⟩:=Hb hu;rw[Addr.add_lit];exact Lib.cell?_alloc_some _ (dY.1 j (by omega))
    have HC:=Kh I;have bC:=(H.1.take hk).norm (.inr gA.1);have U:=Kh bC;have aX:=Kh (λj (hj:j<k)=>H.1.lt j (by omega));obtain⟨i0,hi,V,Y,Z⟩:=info_parts Gw;clear I bC;go_wp2_with (at_builtin;refine wpList_append_own _ rfl _ _ 82 rfl wr.heap.size 200 i0 (.int .u32 0) 1 4 Qz hi V Y Z rfl (by decide) _ _ _ rfl (World.ownsRow_made wr #[] 0 (nR _) (Nat.zero_le _) rfl) (⟨g,o,none⟩:Addr) k c (Ca a k) rfl ?qc1 ?qc2 ?qc3 ?qc4 ?qc5 ?qc6 ?_)
    case qc1=>rw[D9,Nat.mul_one]
    case qc2=>exact HC.1 _
    case qc3=>exact Fy
    case qc4=>unfold maxLen;omega
    case qc5=>omega
    case qc6=>simp
    intro v' w1 O J bB;have hb:Below wr.heap.size wr w1:=((Below.refl _ wr).alloc (nR _) _).grown J (by simp) (by intro k hk;simp[Value.ownBlock]at hk;omega);obtain⟨p',c',rfl,hd,bA⟩:=Dg.of_own' (n:=k) (a:=a) (by simpa using O) aX.1;have HD:=Kh (hd.nm (t:=vf a n) HV.1 (by rw[<-HV.1];exact U.1.1));have HB:=Kh hb;have HK:=Kh (show nd (vf a n)=k by rw[<-HV.1];exact U.1.1);have cA:=Kh bA;clear bA O J bB hd hb HC U aX hi V Y Z;go_wp2;go_ret;exact⟨⟨p',c',by rw[HK.1];rfl,HD.1,by rw[HK.1];first|exact cA.1|exact .inl rfl⟩,HB.1⟩
theorem Sz (p:Option Addr) (c n:Nat) (a:Nat->Nat) (w:World) (h:Dg w p c n a) (hn:n<=35184372088830):
  Calls prog 179 #[.slice p n c] w λe w'=>RetN w' e (vf a n)/\Below w.heap.size w w':=by
 refine(Xm p c n a w h hn).mono ?_;rintro e w' ⟨⟨p',I,J,O,_⟩,U⟩;exact⟨⟨p',I,J,O⟩,U⟩
theorem Ee {w:World} {s:Bool} {p:Option Addr} {n c:Nat} {z:Int} (h:Zr w s p n c z) (hn:n<=35184372088830):
  sg s z.natAbs=z/\nd z.natAbs<=n/\∀I,Below w.heap.size w I->Calls prog 179 #[.slice p n c] I λe w'=>RetN w' e z.natAbs/\Below I.heap.size I w':=by
 obtain⟨a,O,U⟩:=h;have J:z.natAbs=vf a n:=by rw[<-U,I6]
 refine⟨by rw[J];exact U,by rw[J];exact Bj.2 (Dq O.lt),λI V=>?_⟩;rw[J];exact Sz p c n a I (O.keep V) hn
theorem Nr (s:Bool) (p:Option Addr) (n c:Nat) (z:Int) (w:World) (h:Zr w s p n c z) (hn:n<=35184372088830):
  Calls prog 177 #[.agg #[.bool s,.slice p n c]] w λe w'=>Gx w' e z/\Below w.heap.size w w':=by
 obtain⟨hs,hk,hT⟩:=Ee h hn;have HT:=Kh hT;have HZ:=Kh hs;have HK:=Kh hk;clear h hT hs hk;go_enter func177,ntmps177
 go_wp2_with fail
 obtain⟨w0,cF,X0,X1,cB⟩:=bx2 w #[.bool s,.slice p n c] 84 #[.bool false,.slice none 0 0] 84;rw[cF];have bC:=Kh X0;have bE:=Kh X1;have U:=Kh cB;clear cF X0 X1 cB;refine(HT.1 _ U.1).mono ?_;rintro e w2 ⟨⟨p2,c2,rfl,hm⟩,O⟩;obtain⟨k,hk⟩:∃k,nd z.natAbs=k:=⟨_,rfl⟩
 rw[hk];have X0:=bk bC O;have V:=Var2.of (bk bE O) (NotInt.bool _) (NotInt.slice _ _ _);have a0:=X0.at_ 0 rfl;obtain⟨⟨u0,cC⟩,⟨u1,cD⟩⟩:=V.cells;have f0:=V.free 0;have f1:=V.free 1;have cG:∀t,t=(s&&decide (0<k))->Zs w2 t p2 k c2 z:=λt ht=>by have:=Q5 hm hk ht;rw[HZ.1]at this;exact this
 have HV:=Kh V;have bY:=Kh cG;have bB:=bt U O;clear hm O hk X0 V cG HT bC bE U HK HZ;cases s with
 | false=>
  have J:=(bY.1 false rfl).put2 HV.1.sts 0 1 (.bool false) (.slice p2 k c2) (NotInt.bool _);have I:Below w.heap.size w ((w2.setCell ⟨w.heap.size+1,0,none⟩ (.bool false)).setCell ⟨w.heap.size+1,1,none⟩ (.slice p2 k c2)):=(bB.1.setCell (by show w.heap.size<=w.heap.size+1;omega) _).setCell (by show w.heap.size<=w.heap.size+1;omega) _;have Z:=Kh J;have Y:=Kh I;clear J I;go_wp2;try simp only[Exit.inBlock,Exit.then]
  refine bodyPost_ret (by simp[results,results177,go_sem,cC,cD];try rfl) rfl ?_;exact⟨⟨false,p2,k,c2,rfl,Z.1⟩,Y.1⟩
 | true=>
  obtain⟨t,ht⟩:∃t,decide (0<k)=t:=⟨_,rfl⟩
  have gP:decide ((0:Int)<(k:Int))=t:=by rw[<-ht,decide_eq_decide];omega
  have J:=(bY.1 t (by rw[<-ht];rfl)).put2 HV.1.sts 0 1 (.bool t) (.slice p2 k c2) (NotInt.bool _);have I:Below w.heap.size w ((w2.setCell ⟨w.heap.size+1,0,none⟩ (.bool t)).setCell ⟨w.heap.size+1,1,none⟩ (.slice p2 k c2)):=(bB.1.setCell (by show w.heap.size<=w.heap.size+1;omega) _).setCell (by show w.heap.size<=w.heap.size+1;omega) _;have Z:=Kh J;have Y:=Kh I;clear J I;go_wp2;try simp only[Exit.inBlock,Exit.then]
  refine bodyPost_ret (by simp[results,results177,go_sem,cC,cD];try rfl) rfl ?_;exact⟨⟨t,p2,k,c2,rfl,Z.1⟩,Y.1⟩
theorem Gi (J:Bool) (p:Option Addr) (c n:Nat) (a:Nat->Nat) (w:World) (h:Dg w p c n a) (hn:n<=35184372088830):
  Calls prog 180 #[.bool J,.slice p n c] w λe w'=>Gx w' e (sg J (vf a n))/\Below w.heap.size w w':=by
 have HC:=Kh (λw1 (hb:Below w.heap.size w w1)=>Nr J p n c (sg J (vf a n)) w1 ⟨a,h.keep hb,rfl⟩ hn);clear h;go_enter func180,ntmps180
 go_wp2_with fail
 obtain⟨w0,aX,X0,Y⟩:=bx1 w #[.bool false,.slice none 0 0] 84;rw[aX];have V:=Kh X0;have O:=Kh Y;clear aX X0 Y;refine(HC.1 _ O.1).mono ?_;rintro e w2 ⟨⟨s2,p2,n2,c2,rfl,bA⟩,U⟩;have I:=Kh (Var2.of (bk V U) (NotInt.bool _) (NotInt.slice _ _ _));have bC:=bt O U;clear U V O HC;obtain⟨⟨u0,cA⟩,⟨u1,cB⟩⟩:=I.1.cells;have f0:=I.1.free 0;have f1:=I.1.free 1;have bB:=bA.put2 I.1.sts 0 1 (.bool s2) (.slice p2 n2 c2) (NotInt.bool _);have Z:Below w.heap.size w ((w2.setCell ⟨w.heap.size,0,none⟩ (.bool s2)).setCell ⟨w.heap.size,1,none⟩ (.slice p2 n2 c2)):=(bC.1.setCell (nR _) _).setCell (nR _) _;have bY:=Kh bB;have bE:=Kh Z;clear bA bB Z;go_wp2;try simp only[Exit.inBlock,Exit.then]
 refine bodyPost_ret (by simp[results,results180,go_sem,cA,cB];try rfl) rfl ?_;exact⟨⟨s2,p2,n2,c2,rfl,bY.1⟩,bE.1⟩
theorem cO (s:Bool) (p:Option Addr) (n c:Nat) (z:Int) (w:World) (h:Zr w s p n c z) (hn:n<=35184372088830):
  Calls prog 171 #[.agg #[.bool s,.slice p n c]] w λe w'=>e=.returned (.int .i64 (Int.sign z))/\Below w.heap.size w w':=by
 have HC:=Kh (λw1 (hb:Below w.heap.size w w1)=>Nr s p n c z w1 (h.keep hb) hn);obtain⟨g,hg⟩:∃g,Int.sign z=g:=⟨_,rfl⟩
 have HG:=Kh hg;rw[hg];clear h hg;go_enter func171,ntmps171
 go_wp2_with fail
 obtain⟨w0,bB,X0,Z⟩:=bx1 w #[.bool s,.slice p n c] 84;rw[bB];have O:=Kh Z;clear bB X0 Z;refine(HC.1 _ O.1).mono ?_;rintro e w2 ⟨⟨s2,p2,n2,c2,rfl,Y⟩,aX⟩;have U:=bt O aX;have V:=Kh (U.1.alloc U.1.size (.cells #[.bool s2,.slice p2 n2 c2] 84));have hk:=Y.2.1;have hs:=Y.1;clear Y aX HC O U;by_cases hk0:n2=0
 ·obtain rfl:z=0:=by have:=Bz (v:=z.natAbs);omega
  obtain rfl:g=0:=HG.1.symm;subst hk0;clear hk hs;go_wp2;go_ret;exact⟨rfl,V.1⟩
 ·have cT:((n2:Int)==0)=false:=beq_eq_false_iff_ne.2 (by omega)
  have bC:z≠0:=λh=>hk0 (by rw[<-hk,h];rfl)
  cases s2 with
  | true=>
   have I:z<0:=by simpa using hs
   obtain rfl:g=-1:=by rw[<-HG.1];exact Int.sign_eq_neg_one_of_neg I
   clear hk hs I bC;go_wp2;go_ret;exact⟨rfl,V.1⟩
  | false=>
   have J:0<z:=by have:¬z<0:=by simpa using hs
                  omega
   obtain rfl:g=1:=by rw[<-HG.1];exact Int.sign_eq_one_of_pos J
   clear hk hs J bC;go_wp2;go_ret;exact⟨rfl,V.1⟩
theorem aK:(prog.info? 200).map (λi=>(i.zero,i.size,i.bytes))=some (some (.int .u32 0),1,4):=Gw
theorem fF (s:Nat):∀u∈[Value.int .u32 (s:Nat)],u.oneCell'=true:=by
 intro u I;rw[List.mem_singleton]at I;subst I;rfl
theorem Xj (s:Bool) (p:Option Addr) (n c:Nat) (z:Int) (w:World) (h:Zr w s p n c z) (hn:n<=35184372088830):
  Calls prog 206 #[.agg #[.bool s,.slice p n c]] w λe w'=>Gx w' e ((z.natAbs:Int))/\Below w.heap.size w w':=by
 obtain⟨a,hd,hz⟩:=h;have HC:=Kh (λw1 (hb:Below w.heap.size w w1)=>Gi (false) p c n a w1 (hd.keep hb) hn);have HV:=Kh (show sg (false) (vf a n)=(z.natAbs:Int)by rw[<-hz,I6];rfl);clear hd hz;go_enter func206,ntmps206
 go_wp2_with fail
 obtain⟨w0,Z,X0,X1,V⟩:=bx2 w #[.bool s,.slice p n c] 84 #[.bool false,.slice none 0 0] 84;rw[Z];have U:=Kh X1;have J:=Kh V;clear Z X0 X1 V;refine(HC.1 _ J.1).mono ?_;rintro e w2 ⟨⟨s2,p2,n2,c2,rfl,aX⟩,O⟩;have I:=Kh (Var2.of (bk U O) (NotInt.bool _) (NotInt.slice _ _ _));have bB:=bt J O;clear O U J HC;obtain⟨⟨u0,bY⟩,⟨u1,cA⟩⟩:=I.1.cells;have f0:=I.1.free 0;have f1:=I.1.free 1;have bA:=aX.put2 I.1.sts 0 1 (.bool s2) (.slice p2 n2 c2) (NotInt.bool _);have Y:Below w.heap.size w ((w2.setCell ⟨w.heap.size+1,0,none⟩ (.bool s2)).setCell ⟨w.heap.size+1,1,none⟩ (.slice p2 n2 c2)):=(bB.1.setCell (by show w.heap.size<=w.heap.size+1;omega) _).setCell (by show w.heap.size<=w.heap.size+1;omega) _;have bE:=Kh bA;have bC:=Kh Y;clear aX bA Y;go_wp2;try simp only[Exit.inBlock,Exit.then]
 refine bodyPost_ret (by simp[results,results206,go_sem,bY,cA];try rfl) rfl ?_;exact⟨⟨s2,p2,n2,c2,rfl,HV.1▸bE.1⟩,bC.1⟩
theorem S0 (p:Option Addr) (c n:Nat) (a:Nat->Nat) (w:World) (h:Dg w p c n a) (hn:n<=2):
  Calls prog 207 #[.slice p n c] w λe w'=>e=.returned (.int .u64 (vf a n:Nat))/\w'=w:=by
 by_cases h0:n=0
 ·subst h0
  clear h hn;go_enter func207,ntmps207
  go_wp2;refine wp_loop_rounds 1 ?_;rw[rounds_succ];go_wp2;go_ret;exact⟨rfl,rfl⟩
 ·obtain⟨g,o,rfl,hg,J⟩:=h.head (by omega)
  have V:=h.lt 0 (by omega);have c0:=J 0 (by omega);obtain⟨x,I⟩:∃x,a 0=x:=⟨_,rfl⟩
  rw[I]at V c0;rw[Nat.add_zero]at c0;have Z:(x:Int)<4294967296:=by omega
  by_cases h1:n=1
  ·subst h1
   have O:=Kh (show vf a 1=x by simp[vf,I]);clear J h I V;go_enter func207,ntmps207
   go_wp2;go_rounds 2
   go_ret;exact⟨A5 (by rw[O.1]),rfl⟩
  ·obtain rfl:n=2:=by omega
   have Y:=h.lt 1 (by omega);have c1:=J 1 (by omega);obtain⟨y,U⟩:∃y,a 1=y:=⟨_,rfl⟩
   rw[U]at Y c1;have aX:(y:Int)<4294967296:=by omega
   have O:=Kh (show vf a 2=x+4294967296*y by simp[vf,I,U]);clear J h I U V Y;go_enter func207,ntmps207
   go_wp2;go_rounds 3
   go_ret;exact⟨A5 (by rw[O.1];omega),rfl⟩
theorem Xl (v:Nat) (w:World) (hv:v<18446744073709551616):
  Calls prog 208 #[.int .u64 v] w λe w'=>RetN w' e v/\Below w.heap.size w w':=by
 obtain⟨x,hx⟩:∃x,v % 4294967296=x:=⟨_,rfl⟩
 obtain⟨y,hy⟩:∃y,v / 4294967296=y:=⟨_,rfl⟩
 have bE:(v:Int) % 4294967296=(x:Nat):=by omega
 have cA:(v:Int) / 4294967296=(y:Nat):=by omega
 have cB:(y:Int)<4294967296:=by omega
 have cC:(y:Int) % 4294967296=(y:Nat):=by omega
 have I:=(Row.alloc w #[.int .u32 x,.int .u32 y] 2 (dg v) rfl (λi hi=>by
  rcases Nat.lt_or_ge i 1 with h2|h2
  ·obtain rfl:i=0:=by omega
   simp[dg];omega
  ·obtain rfl:i=1:=by omega
   simp[dg];omega) (λi _=>dg_lt v i)).dg 2 (nR _)
 have J:=Sz (some ⟨w.heap.size,0,none⟩) 2 2 (dg v) _ I (by omega);rw[Lt (show v<4294967296 ^ 2 by omega)]at J;replace J:=Kh J;have Y:=Kh ((Below.refl w.heap.size w).alloc (nR _) (.cells #[.int .u32 x,.int .u32 y] 200));clear I hx hy hv;go_enter func208,ntmps208
 go_wp2_with fail
 refine J.1.mono ?_;rintro e w2 ⟨⟨p2,c2,rfl,Z⟩,O⟩;obtain⟨k,V⟩:∃k,nd v=k:=⟨_,rfl⟩
 rw[V];have h:=Kh V;have HM:=Kh Z;have U:=bt Y O;clear V Z O J Y;go_wp2;go_ret;exact⟨⟨p2,c2,by rw[h.1];rfl,HM.1⟩,U.1⟩
theorem Xy {u v n:Nat} (O:nd u=n) (U:nd v=n) (h:∀j,j<n->dg u j=dg v j):u=v:=by
 have I:=Bn u;have J:=Bn v;rw[O]at I;rw[U]at J;rw[<-I,<-J];exact D8 h
theorem cN (s:Bool) (p:Option Addr) (n c:Nat) (x:Int) (t:Bool) (q:Option Addr) (m d:Nat) (y:Int) (w:World) (h:Zs w s p n c x) (h':Zs w t q m d y) (hn:n<=35184372088830):
  Calls prog 175 #[.agg #[.bool s,.slice p n c],.agg #[.bool t,.slice q m d]] w λe w'=>e=.returned (.bool (decide (x=y)))/\Below w.heap.size w w':=by
 obtain⟨r,hr⟩:∃r,decide (x=y)=r:=⟨_,rfl⟩
 rw[hr];obtain⟨hs,Z,J⟩:=h;obtain⟨ht,Y,O⟩:=h';unfold Nm at J O;rw[Z]at J;rw[Y]at O;have HR:=Kh hr;have HS:=Kh hs;have HT:=Kh ht;have HN:=Kh Z;have HM:=Kh Y;have HX:=Kh J;have HY:=Kh O;have I:=Kh (((Below.refl w.heap.size w).alloc (nR _) (.cells #[.bool s,.slice p n c] 84)).alloc (by simp) (.cells #[.bool t,.slice q m d] 84));clear hr hs ht Z Y J O;by_cases hst:s=t
 ·by_cases J:n=m
  ·subst hst J
   go_enter func175,ntmps175
   go_wp2;obtain⟨w0,U⟩:∃w0,(w.alloc (.cells #[.bool s,.slice p n c] 84)).alloc (.cells #[.bool s,.slice q n d] 84)=w0:=⟨_,rfl⟩
   rw[U];rw[U]at I;obtain⟨X0,X1,_⟩:=Lx w #[.bool s,.slice p n c] 84 #[.bool s,.slice q n d] 84;rw[U]at X0 X1;have a1:=X0.at_ 1 rfl;have b1:=X1.at_ 1 rfl;clear X0 X1 U;go_loopw [5] (λv5 wr=>∃i:Nat,i<=n/\v5=.int .i64 i/\(∀j,j<i->dg x.natAbs j=dg y.natAbs j)/\∃k,wr=w0.drewN k) (λv5 _=>n - (intOf v5).toNat)
   case atStart=>exact⟨0,Nat.zero_le _,rfl,λj hj=>absurd hj (Nat.not_lt_zero _),0,rfl⟩
   case round=>
    obtain⟨i,hi,rfl,bB,mr,rfl⟩:=hrel;have HE:=Kh bB;clear bB;by_cases hin:i<n
    ·obtain⟨g1,o1,rfl,cB,aX⟩:=HX.1.head (by omega)
     obtain⟨g2,o2,rfl,cC,bA⟩:=HY.1.head (by omega);have c1:w0.cell? ⟨g1,o1+i,none⟩=some (.int .u32 (dg x.natAbs i:Nat)):=(I.1.cell (p:=⟨g1,o1+i,none⟩) cB).trans (aX i hin);have c2:w0.cell? ⟨g2,o2+i,none⟩=some (.int .u32 (dg y.natAbs i:Nat)):=(I.1.cell (p:=⟨g2,o2+i,none⟩) cC).trans (bA i hin);obtain⟨u,hu⟩:∃u,dg x.natAbs i=u:=⟨_,rfl⟩
     obtain⟨v,hv⟩:∃v,dg y.natAbs i=v:=⟨_,rfl⟩
     rw[hu]at c1;rw[hv]at c2;have HU:=Kh hu;have HV:=Kh hv;clear aX bA hu hv;by_cases huv:u=v
     ·subst huv
      go_wp2;go_quiet (fail)
      go_wp2;go_roundw
      case rel=>exact⟨i+1,by omega,by go_num,λj hj=>by
       rcases Nat.lt_or_ge j i with h3|h3
       ·exact HE.1 j h3
       ·rw[show j=i from by omega,HU.1,HV.1],_,by first|rfl|rw[L7]⟩
      case measure=>simp[intOf];omega
     ·have hM:((u:Int) !=(v:Int))=true:=by rw[bne_iff_ne];omega
      have V:=Kh (show false=r by
       rw[<-HR.1];refine(decide_eq_false λh=>huv ?_).symm;rw[<-HU.1,<-HV.1,h])
      clear huv;go_wp2;go_quiet (fail)
      go_wp2;go_ret;exact⟨by rw[<-V.1];rfl,by first|exact Aa (Aa I.1 _) _|exact Aa I.1 _⟩
    ·obtain rfl:i=n:=by omega
     have V:=Kh (show true=r by
      rw[<-HR.1];refine(decide_eq_true ?_).symm;have h1:=Xy HN.1 HM.1 HE.1;have h2:=HS.1;rw[HT.1,decide_eq_decide]at h2;omega)
     go_wp2;go_ret;exact⟨by rw[<-V.1];rfl,Aa I.1 _⟩
  ·subst hst
   have hJ:((n:Int) !=(m:Int))=true:=by rw[bne_iff_ne];omega
   have V:=Kh (show false=r by
    rw[<-HR.1];exact(decide_eq_false λh=>J (by rw[<-HN.1,<-HM.1,h])).symm)
   clear J;go_enter func175,ntmps175
   go_wp2;go_ret;exact⟨by rw[<-V.1];rfl,I.1⟩
 ·obtain rfl:t = !s:=by cases s <;> cases t <;> simp_all
  have hL:(s != !s)=true:=by cases s <;> rfl
  have V:=Kh (show false=r by
   rw[<-HR.1];refine(decide_eq_false λh=>?_).symm;have h1:=HS.1;have h2:=HT.1;rw[<-h,<-h1]at h2;cases s <;> cases h2)
  clear hst;go_enter func175,ntmps175
  go_wp2;go_ret;exact⟨by rw[<-V.1];rfl,I.1⟩
def BitAt (w:World) (gq M k u v R:Nat):Prop:=∃rq,Row w gq M rq/\(∀l,l<M->2 ^ (min 32 (k - 32*l))∣rq l)/\u=v*vf rq M+R/\R<v*2 ^ k
theorem BitAt.far {w w':World} {J M k u v R:Nat} (h:BitAt w J M k u v R) (U:Below w.heap.size w w'):BitAt w' J M k u v R:=by
 obtain⟨V,I,O⟩:=h;exact⟨V,I.below U I.1.lt,O⟩
def nK (G:Nat) (p:Option Addr) (n:Nat):Prop:=n=0∨∃g o,p=some ⟨g,o,none⟩/\g≠G
theorem Dg.off {w:World} {G:Nat} {p:Option Addr} {c n:Nat} {a:Nat->Nat} (h:Dg w p c n a) (Z:nK G p n) (i:Nat) (v:Value):Dg (w.setCell ⟨G,i,none⟩ v) p c n a:=
 ⟨h.cap,h.lt,by
  rcases h.at' with U |⟨g,o,e,hg,V⟩
  ·exact .inl U
  ·rcases Z with O |⟨g',o',I,J⟩
   ·exact .inl O
   ·rw[e]at I
    injection I with I;injection I with e1 e2
    exact .inr ⟨g,o,e,by simpa using hg,λj Y=>by
     rw[World.cell?_setCell_far w ⟨G,i,none⟩ ⟨g,o+j,none⟩ v (by show G≠g;rw[e1];exact Ne.symm J)];exact V j Y⟩⟩
abbrev ZB (B:Nat) (w:World) (g:Nat):Prop:=B<=g/\w.cell? ⟨g,0,none⟩=some (.bool false)/\w.cell? ⟨g,1,none⟩=some (.slice none 0 0)/\w.frozen? ⟨g,0,none⟩=false/\w.frozen? ⟨g,1,none⟩=false/\Blk w g 84 #[.bool false,.slice none 0 0]
theorem K3 {w:World} {B g:Nat} (hB:B<=g) (h:Blk w g 84 #[.bool false,.slice none 0 0]):ZB B w g:=⟨hB,h.at_ 0 rfl,h.at_ 1 rfl,h.free_ 0,h.free_ 1,h⟩
theorem lK {W w':World} {B g:Nat} (hg:W.heap.size=g) (hB:B<=g) (I:Below (W.alloc (.cells #[.bool false,.slice none 0 0] 84)).heap.size (W.alloc (.cells #[.bool false,.slice none 0 0] 84)) w'):ZB B w' g:=by
 subst hg;exact K3 hB ((Blk.new W 84 #[.bool false,.slice none 0 0]).below_ I (by simp))
theorem nG {W w':World} {B g:Nat} (hg:W.heap.size=g) (hB:B<=g) (I:Below ((W.alloc (.cells #[.bool false,.slice none 0 0] 84)).alloc (.cells #[.bool false,.slice none 0 0] 84)).heap.size ((W.alloc (.cells #[.bool false,.slice none 0 0] 84)).alloc (.cells #[.bool false,.slice none 0 0] 84)) w'):ZB B w' g:=by
 subst hg;exact K3 hB (((Blk.new W 84 #[.bool false,.slice none 0 0]).alloc_ _).below_ I (by simp;omega))
theorem kK {w w':World} {B g:Nat} (h:ZB B w g) (I:Below w.heap.size w w'):ZB B w' g:=K3 h.1 (h.2.2.2.2.2.below_ I h.2.2.2.2.2.lt)
theorem mI {w w':World} {o:Obj} {B g:Nat} (h:ZB B w g) (I:Below (w.alloc o).heap.size (w.alloc o) w'):ZB B w' g:=K3 h.1 ((h.2.2.2.2.2.alloc_ o).below_ I (h.2.2.2.2.2.alloc_ o).lt)
theorem S8 {w:World} {B g:Nat} (h:ZB B w g) (o:Obj):ZB B (w.alloc o) g:=K3 h.1 (h.2.2.2.2.2.alloc_ _)
theorem gX {w:World} {B:Nat} (hB:B<=w.heap.size):(ZB B ((w.alloc (.cells #[.bool false,.slice none 0 0] 84)).alloc (.cells #[.bool false,.slice none 0 0] 84)) w.heap.size)/\(B<=(w.heap.size+1)/\((w.alloc (.cells #[.bool false,.slice none 0 0] 84)).alloc (.cells #[.bool false,.slice none 0 0] 84)).cell? ⟨(w.heap.size+1),0,none⟩=some (.bool false)/\((w.alloc (.cells #[.bool false,.slice none 0 0] 84)).alloc (.cells #[.bool false,.slice none 0 0] 84)).cell? ⟨(w.heap.size+1),1,none⟩=some (.slice none 0 0)/\((w.alloc (.cells #[.bool false,.slice none 0 0] 84)).alloc (.cells #[.bool false,.slice none 0 0] 84)).frozen? ⟨(w.heap.size+1),0,none⟩=false/\((w.alloc (.cells #[.bool false,.slice none 0 0] 84)).alloc (.cells #[.bool false,.slice none 0 0] 84)).frozen? ⟨(w.heap.size+1),1,none⟩=false/\Blk ((w.alloc (.cells #[.bool false,.slice none 0 0] 84)).alloc (.cells #[.bool false,.slice none 0 0] 84)) (w.heap.size+1) 84 #[.bool false,.slice none 0 0]):=by
 have h:=Blk.new (w.alloc (.cells #[.bool false,.slice none 0 0] 84)) 84 #[.bool false,.slice none 0 0];rw[World.size_alloc]at h;exact⟨K3 hB ((Blk.new w 84 #[.bool false,.slice none 0 0]).alloc_ _),K3 (by omega) h⟩
theorem Nf {w:World} {s t:Bool} {p q:Option Addr} {n c m d:Nat} {x y:Int} (h:Zs w s p n c x/\Zs w t q m d y):Ow ((w.alloc (.cells #[.bool s,.slice p n c] 84)).alloc (.cells #[.bool t,.slice q m d] 84)) w.heap.size (w.heap.size+1) x y:=by
 obtain⟨J,O,_⟩:=Lx w #[.bool s,.slice p n c] 84 #[.bool t,.slice q m d] 84;have I:∀(w:World) (o:Obj),Below w.heap.size w (w.alloc o):=λw o=>(Below.refl _ _).alloc (nR _) o
 exact⟨_,_,_,_,_,_,_,_,J,O,(h.1.keep (I _ _)).keep (I _ _),(h.2.keep (I _ _)).keep (I _ _)⟩
theorem V7 {w:World} {s t:Bool} {p q:Option Addr} {n c m d:Nat} {x y:Int} (h:Zs w s p n c x/\Zs w t q m d y):Ow ((w.alloc (.cells #[.bool t,.slice q m d] 84)).alloc (.cells #[.bool s,.slice p n c] 84)) (w.heap.size+1) w.heap.size x y:=by
 obtain⟨s',p',n',V,t',q',Z,Y,I,J,O,U⟩:=Nf (And.intro h.2 h.1);exact⟨_,_,_,_,_,_,_,_,J,I,U,O⟩
theorem Ii {w:World} {A:Nat} {s t:Bool} {p q:Option Addr} {n c m d:Nat} {x y:Int} (hA:Blk w A 84 #[.bool false,.slice none 0 0]) (h:Zs w s p n c x/\Zs w t q m d y):
  Ow (((((w.alloc (.cells #[.bool false,.slice none 0 0] 84)).setCell ⟨A,0,none⟩ (.bool s)).setCell ⟨A,1,none⟩ (.slice p n c)).setCell ⟨w.heap.size,0,none⟩ (.bool t)).setCell ⟨w.heap.size,1,none⟩ (.slice q m d)) A w.heap.size x y:=by
 have I:Below w.heap.size w (w.alloc (.cells #[.bool false,.slice none 0 0] 84)):=(Below.refl _ _).alloc (nR _) _;exact B8 (Nat.ne_of_lt hA.lt) (hA.alloc_ _) (Blk.new w _ _) (h.1.keep I) (h.2.keep I)
theorem J4 {w:World} {A:Nat} {s t:Bool} {p q:Option Addr} {n c m d:Nat} {x y:Int} (hA:Blk w A 84 #[.bool false,.slice none 0 0]) (h:Zs w s p n c x/\Zs w t q m d y):
  Ow (((w.alloc (.cells #[.bool s,.slice p n c] 84)).setCell ⟨A,0,none⟩ (.bool t)).setCell ⟨A,1,none⟩ (.slice q m d)) w.heap.size A x y:=by
 have O:Below w.heap.size w (w.alloc (.cells #[.bool s,.slice p n c] 84)):=(Below.refl _ _).alloc (nR _) _;have I:=hA.alloc_ (.cells #[.bool s,.slice p n c] 84);have J:=Nat.ne_of_gt hA.lt;obtain⟨U,V⟩:=Fh I (h.2.keep O);exact⟨_,_,_,_,_,_,_,_,((Blk.new w _ _).far_ (p:=⟨A,0,none⟩) J _).far_ (p:=⟨A,1,none⟩) J _,U,(h.1.keep O).put2 (Sts.box I) 0 1 _ _ (NotInt.bool _),V⟩
theorem Gf {B:Nat} {w0 w:World} {I J O U:Addr} {v0 v1 v2 v3:Value} (h:aW B w0 w I J O U v0 v1 v2 v3):B<=w.heap.size:=SS.sizeLe (B:=B) (w0:=w0) (l:=[(I,v0),(J,v1),(O,v2),(U,v3)]) h
theorem Xk (s:Bool) (p:Option Addr) (n c:Nat) (x:Int) (t:Bool) (q:Option Addr) (m d:Nat) (y:Int) (w:World) (h:Zr w s p n c x) (h':Zr w t q m d y) (hn:n<=8796093022200) (hm:m<=8796093022200):
  Calls prog 138 #[.agg #[.bool s,.slice p n c],.agg #[.bool t,.slice q m d]] w λe w'=>Gx w' e (x*y)/\Below w.heap.size w w':=by
 obtain⟨gA,iL,dC⟩:=Ee h (by omega);obtain⟨gF,mA,dE⟩:=Ee h' (by omega);obtain⟨u,hu⟩:∃u,x.natAbs=u:=⟨_,rfl⟩
 obtain⟨v,hv⟩:∃v,y.natAbs=v:=⟨_,rfl⟩
 rw[hu]at gA iL dC;rw[hv]at gF mA dE;obtain⟨k,hk⟩:∃k,nd u=k:=⟨_,rfl⟩
 obtain⟨l,hl⟩:∃l,nd v=l:=⟨_,rfl⟩
 rw[hk]at iL;rw[hl]at mA;have HV:=Kh (show sg (s != t) (u*v)=x*y by rw[<-Z3,gA,gF]);have oI:=Kh dC;have oJ:=Kh dE;have aX:=Kh hk;have bA:=Kh hl;clear h h' dC dE gA gF hu hv hk hl;go_enter func138,ntmps138
 go_upto_region 1 with(fail)
 obtain⟨w0,nC,X0,X1,X2,dY⟩:=Kk w #[.bool s,.slice p n c] 84 #[.bool t,.slice q m d] 84 #[.bool false,.slice none 0 0] 84;rw[nC];have mE:w.heap.size<=w0.heap.size:=dY.size;clear nC;have M1:True:=trivial;have T2:=Sts.of X2 (by intro v hv;simp at hv;rcases hv with rfl|rfl <;> first|exact NotInt.bool _|exact NotInt.slice _ _ _);have hQ:=Cl (Below.refl _ w0).drew ⟨X0.c0,X0.c1,X1.c0,X1.c1,X2.so 0,X2.free_ 0,T2,X2.so 1,X2.free_ 1,T2,dY,mE⟩;clear X0 X1 X2
 go_region_held3 (λO=>O.cell? ⟨w.heap.size,0,none⟩=some (.bool s)/\O.cell? ⟨w.heap.size,1,none⟩=some (.slice p n c)/\O.cell? ⟨w.heap.size+1,0,none⟩=some (.bool t)/\O.cell? ⟨w.heap.size+1,1,none⟩=some (.slice q m d)/\O.cell? ⟨w.heap.size+1+1,0,none⟩=some (cellOf O ⟨w.heap.size+1+1,0,none⟩)/\O.frozen? ⟨w.heap.size+1+1,0,none⟩=false/\Sts O (w.heap.size+1+1)/\O.cell? ⟨w.heap.size+1+1,1,none⟩=some (cellOf O ⟨w.heap.size+1+1,1,none⟩)/\O.frozen? ⟨w.heap.size+1+1,1,none⟩=false/\Sts O (w.heap.size+1+1)/\Below w.heap.size w O/\w.heap.size<=O.heap.size)
  (first|with_reducible exact hQ |(refine Cl (by with_reducible assumption) ?_;assumption) |(refine Hk ?_ ?_ ?_ ?_ ?_ ?_ ?_ ?_ ?_ ?_ ?_ ?_ ?_ <;> first|assumption|exact NotInt.bool _|exact NotInt.slice _ _ _ |(dsimp only;omega) |(simp;done)))
  (first
   |(go_at_call 179;clear M1;refine(oI.1 _ (Bf (by with_reducible assumption))).mono ?_;rintro e w2 ⟨⟨p2,c2,rfl,mB⟩,oT⟩;rw[aX.1];have hD:=Kh mB;clear mB)
   |(go_at_call 179;refine(oJ.1 _ (Bf (by with_reducible assumption))).mono ?_;rintro e J ⟨⟨p3,c3,rfl,mC⟩,hU⟩;rw[bA.1];have cT:=Kh (And.intro (hD.1.keep hU) mC);clear mC oT hD))
 have hH:J.cell? ⟨w.heap.size,0,none⟩=some (.bool s)/\J.cell? ⟨w.heap.size,1,none⟩=some (.slice p n c)/\J.cell? ⟨w.heap.size+1,0,none⟩=some (.bool t)/\J.cell? ⟨w.heap.size+1,1,none⟩=some (.slice q m d)/\J.cell? ⟨w.heap.size+1+1,0,none⟩=some (cellOf J ⟨w.heap.size+1+1,0,none⟩)/\J.frozen? ⟨w.heap.size+1+1,0,none⟩=false/\Sts J (w.heap.size+1+1)/\J.cell? ⟨w.heap.size+1+1,1,none⟩=some (cellOf J ⟨w.heap.size+1+1,1,none⟩)/\J.frozen? ⟨w.heap.size+1+1,1,none⟩=false/\Sts J (w.heap.size+1+1)/\Below w.heap.size w J/\w.heap.size<=J.heap.size:=by assumption
 have H1:=Kh (show Dg J p2 c2 k (dg u)by have:=cT.1.1;unfold Nm at this;rw[aX.1]at this;exact this);have H2:=Kh (show Dg J p3 c3 l (dg v)by have:=cT.1.2;unfold Nm at this;rw[bA.1]at this;exact this);have hL:=Kh (show vf (dg u) k=u by rw[<-aX.1,Bn]);have hM:=Kh (show vf (dg v) l=v by rw[<-bA.1,Bn]);have HH:=Kh hH;have pA:∀w,(Instr.makeSlice 82 (.int .i64 ((k:Int)+(l:Int))) (.int .i64 ((k:Int)+(l:Int)))).run prog w=.ok (.slice (some ⟨w.heap.size,0,none⟩) (k+l) (k+l)) (w.alloc (.cells (madeCells #[.int .u32 0] (k+l)) 200)):=F7 (k+l) (by omega)
 obtain⟨a,ha⟩:∃a,dg u=a:=⟨_,rfl⟩
 obtain⟨b,hb⟩:∃b,dg v=b:=⟨_,rfl⟩
 rw[ha]at H1 hL;rw[hb]at H2 hM;obtain⟨wb,bC⟩:∃wb,J.alloc (.cells (madeCells #[.int .u32 0] (k+l)) 200)=wb:=⟨_,rfl⟩
 have I:=Row.made J (k+l);have Y:Below J.heap.size J wb:=by rw[<-bC];exact(Below.refl _ _).alloc (nR _) _
 rw[bC]at I;obtain⟨G,hG⟩:∃G,J.heap.size=G:=⟨_,rfl⟩
 rw[hG]at I Y;have HG:=Kh hG;have hJ:=Kh (show TimesAt wb G (k+l) (0+l) (vf a 0*vf b l)from⟨_,I,by rw[J7 (λ_ _=>rfl)];simp[vf],λ_ _ _=>rfl⟩);have gU:=Kh Y;clear ha hb cT aX bA I Y hH hQ dY mE hU;go_wp2;try rw[bC,hG]
 clear bC hG pA;go_loopw [8] (λv8 wr=>∃i:Nat,i<=k/\v8=.int .i64 i/\TimesAt wr G (k+l) (i+l) (vf a i*vf b l)/\Below G J wr) (λv8 _=>k - (intOf v8).toNat)
 case atStart=>exact⟨0,Nat.zero_le _,rfl,hJ.1,gU.1⟩
 case round=>
  clear hJ gU;obtain⟨i,hi,rfl,hT,hb⟩:=hrel;have HB:=Kh hb;have HT:=Kh hT;clear hb hT;by_cases hlt:(i:Int)<(k:Int)
  ·obtain⟨g1,o1,rfl,qT,hX⟩:=H1.1.head (by omega)
   have hB:=Kh (hX i (by omega));have hZ:g1<G:=by have:=HG.1;omega
   have pK:((a i:Nat):Int)<4294967296:=by have:=H1.1.lt i (by omega);omega
   obtain⟨xx,hx⟩:∃x,a i=x:=⟨_,rfl⟩
   rw[hx]at hB pK;have HX:=Kh hx;obtain⟨V,hV⟩:∃V,vf a i*vf b l=V:=⟨_,rfl⟩
   have oK:=Kh hV;rw[hV]at HT;clear hV hx hX;go_wp2;go_loopw [9,10] (λv9 gN wr=>∃j cy:Nat,j<=l/\v9=.int .u64 cy/\gN=.int .i64 j/\(cy:Int)<4294967296/\Jk wr G (k+l) (i+l) i j (V+4294967296 ^ i*(xx*vf b j)) cy/\Below G J wr) (λ_ gN _=>l - (intOf gN).toNat)
   case atStart=>exact⟨0,0,Nat.zero_le _,rfl,rfl,by decide,by
    obtain⟨r,hr,hv,hz⟩:=HT.1;exact⟨r,hr,by simp[vf,hv],hz⟩,HB.1⟩
   case round=>
    obtain⟨j,cy,hj,rfl,rfl,qS,hI,hb⟩:=hrel;have Z:=Kh hb;clear hb;by_cases hjl:(j:Int)<(l:Int)
    ·obtain⟨r,I,cF,hz⟩:=hI
     obtain⟨g2,o2,rfl,qU,hY⟩:=H2.1.head (by omega);have c1:wr.cell? ⟨g1,o1+i,none⟩=some (.int .u32 (xx:Nat)):=(Z.1.cell (p:=⟨g1,o1+i,none⟩) hZ).trans hB.1;have d1:wr.cell? ⟨g2,o2+j,none⟩=some (.int .u32 (b j:Nat)):=(Z.1.cell (p:=⟨g2,o2+j,none⟩) (by have:=HG.1;show g2<G;omega)).trans (hY j (by omega));have pM:((b j:Nat):Int)<4294967296:=by have:=H2.1.lt j (by omega);omega
     obtain⟨yy,hy⟩:∃y,b j=y:=⟨_,rfl⟩
     rw[hy]at d1 pM;have nA:wr.cell? ⟨G,i+j,none⟩=some (.int .u32 (r (i+j):Nat)):=I.1.cell (by omega);have oW:wr.frozen? ⟨G,i+j,none⟩=false:=I.1.frozen _;have pC:((r (i+j):Nat):Int)<4294967296:=by have:=I.2 (i+j) (by omega);omega
     obtain⟨oo,ho⟩:∃o,r (i+j)=o:=⟨_,rfl⟩
     rw[ho]at nA pC;obtain⟨pp,bB⟩:∃pp,xx*yy=pp:=⟨_,rfl⟩
     have mD:(xx:Int)*(yy:Int)=(pp:Nat):=by rw[<-bB];exact(Int.natCast_mul _ _).symm
     have oZ:pp<=4294967295*4294967295:=by rw[<-bB];exact Nat.mul_le_mul (by omega) (by omega)
     have qC:(pp:Int)<=18446744065119617025:=by omega
     obtain⟨ss,hs⟩:∃s,(xx*yy+oo+cy) % 4294967296=s:=⟨_,rfl⟩
     obtain⟨cz,eP⟩:∃cz,(xx*yy+oo+cy) / 4294967296=cz:=⟨_,rfl⟩
     have cD:=K8 I cF hz (by omega) ho hy hs eP;rw[bB]at hs eP;obtain⟨po,pE⟩:∃z,pp+oo=z:=⟨_,rfl⟩
     obtain⟨pc,pD⟩:∃z,po+cy=z:=⟨_,rfl⟩
     have qX:IntKind.u64.wrap ((xx:Int)*(yy:Int))=(pp:Nat):=by rw[mD,IntKind.wrap_u64];omega
     have qY:IntKind.u64.wrap ((pp:Int)+(oo:Int))=(po:Nat):=by rw[IntKind.wrap_u64];omega
     have qZ:IntKind.u64.wrap ((po:Int)+(cy:Int))=(pc:Nat):=by rw[IntKind.wrap_u64];omega
     have qW:(pc:Int) % 4294967296=(ss:Nat):=by omega
     have qR:(pc:Int) / 4294967296=(cz:Nat):=by omega
     have oV:(cz:Int)<4294967296:=by omega
     have qV:IntKind.i64.wrap ((i:Int)+(j:Int))=(i:Int)+(j:Int):=IntWalk.i64_in _ (by omega);have pZ:0<=(i:Int)+(j:Int):=by omega
     have qB:((i:Int)+(j:Int)).toNat=i+j:=by omega
     have qA:(i:Int)+(j:Int)<(k:Int)+(l:Int):=by omega
     have HN:=Kh cD;clear cD I cF hz ho hy hs eP bB oZ pE pD hY;go_wp2;go_quiet (fail)
     go_wp2;go_roundw
     case rel=>exact⟨j+1,cz,by omega,by first|rfl |(congr 1;omega),by go_num,oV,HN.1,(Aa Z.1 _).setCell (nR _) _⟩
     case measure=>simp[intOf];omega
    ·obtain rfl:j=l:=by omega
     have cC:=Mt hI oK.1.symm HX.1 (by omega);obtain⟨r,I,_,_⟩:=hI;have nA:wr.cell? ⟨G,i+j,none⟩=some (.int .u32 (r (i+j):Nat)):=I.1.cell (by omega);have oW:wr.frozen? ⟨G,i+j,none⟩=false:=I.1.frozen _;have HF:=Kh cC;clear cC I;go_wp2;go_roundw
     case rel=>exact⟨i+1,by omega,by go_num,HF.1,Z.1.setCell (nR _) _⟩
     case measure=>simp[intOf];omega
  ·obtain rfl:i=k:=by omega
   obtain⟨r,hr,nB,_⟩:=HT.1;have HD:=Kh (hr.dg (i+l) (nR _));have oL:=Kh (show vf r (i+l)=u*v by rw[nB,hL.1,hM.1]);have hW:Below J.heap.size J wr:=by rw[HG.1];exact HB.1
   have hR:wr.cell? ⟨w.heap.size,0,none⟩=some (.bool s)/\wr.cell? ⟨w.heap.size,1,none⟩=some (.slice p n c)/\wr.cell? ⟨w.heap.size+1,0,none⟩=some (.bool t)/\wr.cell? ⟨w.heap.size+1,1,none⟩=some (.slice q m d)/\wr.cell? ⟨w.heap.size+1+1,0,none⟩=some (cellOf wr ⟨w.heap.size+1+1,0,none⟩)/\wr.frozen? ⟨w.heap.size+1+1,0,none⟩=false/\Sts wr (w.heap.size+1+1)/\wr.cell? ⟨w.heap.size+1+1,1,none⟩=some (cellOf wr ⟨w.heap.size+1+1,1,none⟩)/\wr.frozen? ⟨w.heap.size+1+1,1,none⟩=false/\Sts wr (w.heap.size+1+1)/\Below w.heap.size w wr/\w.heap.size<=wr.heap.size:=Cl hW HH.1;have cX:=Kh hR
   have pG:w.heap.size+1+1<J.heap.size:=by
    have h1:=HH.1.2.2.2.2.2.2.1;exact h1.1
   obtain⟨q0,_,q2,_,_,q5,_,_,q8,_,cB,_⟩:=hR;have hE:=Kh (λw9 (oU:Below wr.heap.size wr w9)=>Gi (s != t) _ _ (i+l) r w9 (HD.1.keep oU) (by omega));rw[oL.1]at hE;have oF:=Kh q5;have oG:=Kh q8;have bE:=Kh cB;clear hr nB hW q5 q8 cB pG;go_wp2_with fail
   refine(hE.1 wr (Below.refl _ _)).mono ?_;rintro e w6 ⟨⟨s2,p6,n6,c6,rfl,nD⟩,U⟩;obtain⟨⟨hO,hT⟩,⟨hP,_⟩⟩:=Hj U cX.1;obtain⟨u0,pH⟩:=nV hO;obtain⟨u1,pI⟩:=nV hP;have f0:=Ab U (Bx cX.1.2.2.2.2.1) oF.1;have f1:=Ab U (Bx cX.1.2.2.2.2.2.2.2.1) oG.1;have oM:=Kh (nD.put2 hT 0 1 (.bool s2) (.slice p6 n6 c6) (NotInt.bool _));have oD:=Kh (((bE.1.trans (U.mono bE.1.size)).setCell (show w.heap.size<=(⟨w.heap.size+1+1,0,none⟩:Addr).block by show w.heap.size<=w.heap.size+1+1;omega) (.bool s2)).setCell (show w.heap.size<=(⟨w.heap.size+1+1,1,none⟩:Addr).block by show w.heap.size<=w.heap.size+1+1;omega) (.slice p6 n6 c6));clear nD hT U hO hP q0 q2;go_wp2;try simp only[Exit.inBlock,Exit.then]
   refine bodyPost_ret (by simp[results,results138,go_sem,pH,pI];try rfl) rfl ?_;exact⟨⟨s2,p6,n6,c6,rfl,HV.1▸oM.1⟩,oD.1⟩
theorem Mj (s:Bool) (p:Option Addr) (n c:Nat) (x:Int) (t:Bool) (q:Option Addr) (m d:Nat) (y:Int) (w:World) (h:Zs w s p n c x) (h':Zs w t q m d y) (hn:n<=35184372088830):
  Calls prog 123 #[.agg #[.bool s,.slice p n c],.agg #[.bool t,.slice q m d]] w λe w'=>e=.returned (.bool (decide (x=y)))/\Below w.heap.size w w':=by
 obtain⟨r,hr⟩:∃r,decide (x=y)=r:=⟨_,rfl⟩
 rw[hr];obtain⟨hs,Z,J⟩:=h;obtain⟨ht,Y,O⟩:=h';unfold Nm at J O;rw[Z]at J;rw[Y]at O;have HR:=Kh hr;have HS:=Kh hs;have HT:=Kh ht;have HN:=Kh Z;have HM:=Kh Y;have HX:=Kh J;have HY:=Kh O;have I:=Kh (((Below.refl w.heap.size w).alloc (nR _) (.cells #[.bool s,.slice p n c] 84)).alloc (by simp) (.cells #[.bool t,.slice q m d] 84));clear hr hs ht Z Y J O;by_cases hst:s=t
 ·by_cases J:n=m
  ·subst hst J
   go_enter func123,ntmps123
   go_wp2;obtain⟨w0,U⟩:∃w0,(w.alloc (.cells #[.bool s,.slice p n c] 84)).alloc (.cells #[.bool s,.slice q n d] 84)=w0:=⟨_,rfl⟩
   rw[U];rw[U]at I;obtain⟨X0,X1,_⟩:=Lx w #[.bool s,.slice p n c] 84 #[.bool s,.slice q n d] 84;rw[U]at X0 X1;have a1:=X0.at_ 1 rfl;have b1:=X1.at_ 1 rfl;clear X0 X1 U;go_loopw [5] (λv5 wr=>∃i:Nat,i<=n/\v5=.int .i64 i/\(∀j,j<i->dg x.natAbs j=dg y.natAbs j)/\∃k,wr=w0.drewN k) (λv5 _=>n - (intOf v5).toNat)
   case atStart=>exact⟨0,Nat.zero_le _,rfl,λj hj=>absurd hj (Nat.not_lt_zero _),0,rfl⟩
   case round=>
    obtain⟨i,hi,rfl,bB,mr,rfl⟩:=hrel;have HE:=Kh bB;clear bB;by_cases hin:i<n
    ·obtain⟨g1,o1,rfl,cB,aX⟩:=HX.1.head (by omega)
     obtain⟨g2,o2,rfl,cC,bA⟩:=HY.1.head (by omega);have c1:w0.cell? ⟨g1,o1+i,none⟩=some (.int .u32 (dg x.natAbs i:Nat)):=(I.1.cell (p:=⟨g1,o1+i,none⟩) cB).trans (aX i hin);have c2:w0.cell? ⟨g2,o2+i,none⟩=some (.int .u32 (dg y.natAbs i:Nat)):=(I.1.cell (p:=⟨g2,o2+i,none⟩) cC).trans (bA i hin);obtain⟨u,hu⟩:∃u,dg x.natAbs i=u:=⟨_,rfl⟩
     obtain⟨v,hv⟩:∃v,dg y.natAbs i=v:=⟨_,rfl⟩
     rw[hu]at c1;rw[hv]at c2;have HU:=Kh hu;have HV:=Kh hv;clear aX bA hu hv;by_cases huv:u=v
     ·subst huv
      go_wp2;go_quiet (fail)
      go_wp2;go_roundw
      case rel=>exact⟨i+1,by omega,by go_num,λj hj=>by
       rcases Nat.lt_or_ge j i with h3|h3
       ·exact HE.1 j h3
       ·rw[show j=i from by omega,HU.1,HV.1],_,by first|rfl|rw[L7]⟩
      case measure=>simp[intOf];omega
     ·have hM:((u:Int) !=(v:Int))=true:=by rw[bne_iff_ne];omega
      have V:=Kh (show false=r by
       rw[<-HR.1];refine(decide_eq_false λh=>huv ?_).symm;rw[<-HU.1,<-HV.1,h])
      clear huv;go_wp2;go_quiet (fail)
      go_wp2;go_ret;exact⟨by rw[<-V.1];rfl,by first|exact Aa (Aa I.1 _) _|exact Aa I.1 _⟩
    ·obtain rfl:i=n:=by omega
     have V:=Kh (show true=r by
      rw[<-HR.1];refine(decide_eq_true ?_).symm;have h1:=Xy HN.1 HM.1 HE.1;have h2:=HS.1;rw[HT.1,decide_eq_decide]at h2;omega)
     go_wp2;go_ret;exact⟨by rw[<-V.1];rfl,Aa I.1 _⟩
  ·subst hst
   have hJ:((n:Int) !=(m:Int))=true:=by rw[bne_iff_ne];omega
   have V:=Kh (show false=r by
    rw[<-HR.1];exact(decide_eq_false λh=>J (by rw[<-HN.1,<-HM.1,h])).symm)
   clear J;go_enter func123,ntmps123
   go_wp2;go_ret;exact⟨by rw[<-V.1];rfl,I.1⟩
 ·obtain rfl:t = !s:=by cases s <;> cases t <;> simp_all
  have hL:(s != !s)=true:=by cases s <;> rfl
  have V:=Kh (show false=r by
   rw[<-HR.1];refine(decide_eq_false λh=>?_).symm;have h1:=HS.1;have h2:=HT.1;rw[<-h,<-h1]at h2;cases s <;> cases h2)
  clear hst;go_enter func123,ntmps123
  go_wp2;go_ret;exact⟨by rw[<-V.1];rfl,I.1⟩
theorem kD (n:Int) (w:World) (h1:-4611686018427387904<=n) (h2:n<=4611686018427387904):
  Calls prog 176 #[.int .i64 n] w λe w'=>Gx w' e n/\Below w.heap.size w w':=by
 obtain⟨v,hv⟩:∃v:Nat,n.natAbs=v:=⟨_,rfl⟩
 have cC:v<=4611686018427387904:=by omega
 obtain⟨lo,gF⟩:∃x,v % 4294967296=x:=⟨_,rfl⟩
 obtain⟨hi,gA⟩:∃y,v / 4294967296=y:=⟨_,rfl⟩
 have hH:(v:Int) % 4294967296=(lo:Nat):=by omega
 have hI:(v:Int) / 4294967296=(hi:Nat):=by omega
 have hJ:(hi:Int) % 4294967296=(hi:Nat):=by omega
 obtain⟨w0,gN⟩:∃w0,w.alloc (.cells #[.bool false,.slice none 0 0] 84)=w0:=⟨_,rfl⟩
 obtain⟨X0,h⟩:=Gy w #[.bool false,.slice none 0 0] 84;rw[gN]at X0 h
 have aX:=(Row.alloc w0 #[.int .u32 lo,.int .u32 hi] 2 (dg v) rfl (λi hG=>by
  rcases Nat.lt_or_ge i 1 with h2|h2
  ·obtain rfl:i=0:=by omega
   simp[dg];omega
  ·obtain rfl:i=1:=by omega
   simp[dg];omega) (λi _=>dg_lt v i)).dg 2 (nR _)
 have hS:=Gi (decide (n<0)) (some ⟨w0.heap.size,0,none⟩) 2 2 (dg v) _ aX (by omega);rw[Lt (show v<4294967296 ^ 2 by omega)]at hS;have HV:=Kh (show sg (decide (n<0)) v=n by rw[<-hv];exact Ok n);have bY:Below w0.heap.size w0 (w0.alloc (.cells #[.int .u32 lo,.int .u32 hi] 200)):=(Below.refl _ _).alloc (nR _) _;have Z:=Kh (X0.below_ bY X0.lt);have Y:=Kh (h.trans (bY.mono h.size));have gU:=Kh cC;clear aX X0 h bY gF gA;by_cases hneg:n<0
 ·have e1:IntKind.u64.wrap n=n+18446744073709551616:=by rw[IntKind.wrap_u64];omega
  have e2:IntKind.u64.wrap (-(n+18446744073709551616))=(v:Nat):=by rw[IntKind.wrap_u64];omega
  have e3:IntKind.u64.wrap (-n)=(v:Nat):=by rw[IntKind.wrap_u64];omega
  have hd:decide (n<0)=true:=decide_eq_true hneg;rw[hd]at hS HV;have HS:=Kh hS;clear h1 h2 hneg hv hS cC;go_enter func176,ntmps176
  go_wp2_with fail
  refine HS.1.mono ?_;rintro e w2 ⟨⟨s2,p2,n2,c2,rfl,U⟩,J⟩;have I:=Kh (Var2.of (bk Z J) (NotInt.bool _) (NotInt.slice _ _ _));have bA:=bt Y J;clear J Z Y HS;obtain⟨⟨u0,cA⟩,⟨u1,cB⟩⟩:=I.1.cells;have f0:=I.1.free 0;have f1:=I.1.free 1;have V:=U.put2 I.1.sts 0 1 (.bool s2) (.slice p2 n2 c2) (NotInt.bool _);have O:Below w.heap.size w ((w2.setCell ⟨w.heap.size,0,none⟩ (.bool s2)).setCell ⟨w.heap.size,1,none⟩ (.slice p2 n2 c2)):=(bA.1.setCell (nR _) _).setCell (nR _) _;have bC:=Kh V;have bB:=Kh O;clear U V O;go_wp2;try simp only[Exit.inBlock,Exit.then]
  refine bodyPost_ret (by simp[results,results176,go_sem,cA,cB];try rfl) rfl ?_;exact⟨⟨s2,p2,n2,c2,rfl,HV.1▸bC.1⟩,bB.1⟩
 ·have e1:IntKind.u64.wrap n=(v:Nat):=by rw[IntKind.wrap_u64];omega
  have hd:decide (n<0)=false:=decide_eq_false hneg;rw[hd]at hS HV;have HS:=Kh hS;clear h1 h2 hneg hv hS cC;go_enter func176,ntmps176
  go_wp2_with fail
  refine HS.1.mono ?_;rintro e w2 ⟨⟨s2,p2,n2,c2,rfl,U⟩,J⟩;have I:=Kh (Var2.of (bk Z J) (NotInt.bool _) (NotInt.slice _ _ _));have bA:=bt Y J;clear J Z Y HS;obtain⟨⟨u0,cA⟩,⟨u1,cB⟩⟩:=I.1.cells;have f0:=I.1.free 0;have f1:=I.1.free 1;have V:=U.put2 I.1.sts 0 1 (.bool s2) (.slice p2 n2 c2) (NotInt.bool _);have O:Below w.heap.size w ((w2.setCell ⟨w.heap.size,0,none⟩ (.bool s2)).setCell ⟨w.heap.size,1,none⟩ (.slice p2 n2 c2)):=(bA.1.setCell (nR _) _).setCell (nR _) _;have bC:=Kh V;have bB:=Kh O;clear U V O;go_wp2;try simp only[Exit.inBlock,Exit.then]
  refine bodyPost_ret (by simp[results,results176,go_sem,cA,cB];try rfl) rfl ?_;exact⟨⟨s2,p2,n2,c2,rfl,HV.1▸bC.1⟩,bB.1⟩
abbrev fJ (B:Nat) (w0 w:World) (a0 a1:Addr) (v0 v1:Value):Prop:=w.cell? a0=some v0/\w.cell? a1=some v1/\Below B w0 w/\B<=w.heap.size
theorem Md {B:Nat} {w0 w w':World} {I J:Addr} {v0 v1:Value} (O:Below w.heap.size w w') (h:fJ B w0 w I J v0 v1):fJ B w0 w' I J v0 v1:=SS.next (B:=B) (w0:=w0) (l:=[(I,v0),(J,v1)]) (m:=[]) O h
theorem J8 {B:Nat} {w0 w:World} {I J:Addr} {v0 v1:Value} (h:fJ B w0 w I J v0 v1):Below B w0 w:=SS.below (B:=B) (w0:=w0) (l:=[(I,v0),(J,v1)]) (m:=[]) h
theorem eD (y:Int):Int.sign y<0↔y<0:=by
 rcases Int.lt_trichotomy y 0 with h|h|h
 ·rw[Int.sign_eq_neg_one_of_neg h];omega
 ·subst h;simp
 ·rw[Int.sign_eq_one_of_pos h];omega
def G3 (x y:Int):Int:=if y<0 then -(Int.gcd x y:Nat)else(Int.gcd x y:Nat)
theorem Vw {x y:Int} {K:Nat} (J:y≠0) (h:nd y.natAbs<=K):nd (G3 x y).natAbs<=K:=by
 have I:(G3 x y).natAbs=Int.gcd x y:=by unfold G3;split <;> omega
 rw[I];exact nS (Bv (Nat.le_of_dvd (by omega) (Nat.gcd_dvd_right x.natAbs y.natAbs))) h
theorem Qq {x y:Int} (Y:y≠0):(Rat.divInt x y).num=x / G3 x y/\((Rat.divInt x y).den:Int)=y / G3 x y:=by
 have V:((Int.gcd x y:Nat):Int)∣x:=Int.gcd_dvd_left ..;have J:((Int.gcd x y:Nat):Int)∣y:=Int.gcd_dvd_right ..;unfold G3;split
 ·have h:=Qc x y
  have I:0 < -y:=by omega
  have e:Int.gcd (-x) (-y)=Int.gcd x y:=by rw[Int.neg_gcd,Int.gcd_neg]
  have O:=Ga (n:=-x) I;have U:=F9 (n:=-x) I;rw[h,e]at O U;rw[O,U,Int.ediv_neg,Int.ediv_neg,Int.neg_ediv_of_dvd V,Int.neg_ediv_of_dvd J];exact⟨rfl,rfl⟩
 ·have I:0<y:=by omega
  exact⟨Ga I,F9 I⟩
theorem Z5 {x y:Int} (J:y≠0) (h:G3 x y=1):(Rat.divInt x y).num=x/\((Rat.divInt x y).den:Int)=y:=by
 have I:=Qq (x:=x) J;rw[h,Int.ediv_one,Int.ediv_one]at I;exact I
def TwoQ (w:World) (A B:Nat) (x y:Rat):Prop:=∃s1 p1 n1 c1 t1 q1 m1 d1 s2 p2 n2 c2 t2 q2 m2 d2,Blk w A 86 #[.bool s1,.slice p1 n1 c1,.bool t1,.slice q1 m1 d1]/\Blk w B 86 #[.bool s2,.slice p2 n2 c2,.bool t2,.slice q2 m2 d2]/\Qs w s1 p1 n1 c1 t1 q1 m1 d1 x/\Qs w s2 p2 n2 c2 t2 q2 m2 d2 y
theorem TwoQ.symm {w:World} {A B:Nat} {x y:Rat} (h:TwoQ w A B x y):TwoQ w B A y x:=by
 obtain⟨s1,p1,n1,c1,t1,q1,Z,V,s2,p2,n2,c2,t2,q2,m2,Y,I,J,O,U⟩:=h;exact⟨_,_,_,_,_,_,_,_,_,_,_,_,_,_,_,_,J,I,U,O⟩
end Go.Proofs.YtenlbhlllgppmaaGreatDoor
