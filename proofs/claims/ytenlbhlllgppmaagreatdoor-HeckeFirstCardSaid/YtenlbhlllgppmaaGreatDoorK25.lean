/- Contract of symbols.minus: a row less a multiple of another. -/
import Derived.Test.YtenlbhlllgppmaaGreatDoorK24
set_option maxRecDepth 100000
set_option maxHeartbeats 8000000
namespace Go.Proofs.YtenlbhlllgppmaaGreatDoor
open Go.RowKit Eli
theorem freshQ {W w':World} (g:Nat) (hg:W.heap.size=g) (hb:Below (W.alloc (.cells #[.bool false,.slice none 0 0,.bool false,.slice none 0 0] 86)).heap.size (W.alloc (.cells #[.bool false,.slice none 0 0,.bool false,.slice none 0 0] 86)) w'):
  w'.cell? ⟨g,0,none⟩=some (.bool false)∧w'.cell? ⟨g,1,none⟩=some (.slice none 0 0)∧w'.cell? ⟨g,2,none⟩=some (.bool false)∧w'.cell? ⟨g,3,none⟩=some (.slice none 0 0)∧w'.frozen? ⟨g,0,none⟩=false∧w'.frozen? ⟨g,1,none⟩=false∧w'.frozen? ⟨g,2,none⟩=false∧w'.frozen? ⟨g,3,none⟩=false∧Blk w' g 86 #[.bool false,.slice none 0 0,.bool false,.slice none 0 0]:=by
 subst hg
 have h:=(Blk.new W 86 #[.bool false,.slice none 0 0,.bool false,.slice none 0 0]).below_ hb (by simp)
 exact⟨h.at_ 0 rfl,h.at_ 1 rfl,h.at_ 2 rfl,h.at_ 3 rfl,h.free_ 0,h.free_ 1,h.free_ 2,h.free_ 3,h⟩
theorem freshQ_next {w w':World} {g:Nat} (hb:Below w.heap.size w w') (h:w.cell? ⟨g,0,none⟩=some (.bool false)∧w.cell? ⟨g,1,none⟩=some (.slice none 0 0)∧w.cell? ⟨g,2,none⟩=some (.bool false)∧w.cell? ⟨g,3,none⟩=some (.slice none 0 0)∧w.frozen? ⟨g,0,none⟩=false∧w.frozen? ⟨g,1,none⟩=false∧w.frozen? ⟨g,2,none⟩=false∧w.frozen? ⟨g,3,none⟩=false∧Blk w g 86 #[.bool false,.slice none 0 0,.bool false,.slice none 0 0]):
  w'.cell? ⟨g,0,none⟩=some (.bool false)∧w'.cell? ⟨g,1,none⟩=some (.slice none 0 0)∧w'.cell? ⟨g,2,none⟩=some (.bool false)∧w'.cell? ⟨g,3,none⟩=some (.slice none 0 0)∧w'.frozen? ⟨g,0,none⟩=false∧w'.frozen? ⟨g,1,none⟩=false∧w'.frozen? ⟨g,2,none⟩=false∧w'.frozen? ⟨g,3,none⟩=false∧Blk w' g 86 #[.bool false,.slice none 0 0,.bool false,.slice none 0 0]:=by
 have h0:=h.2.2.2.2.2.2.2.2
 have h:=h0.below_ hb h0.lt
 exact⟨h.at_ 0 rfl,h.at_ 1 rfl,h.at_ 2 rfl,h.at_ 3 rfl,h.free_ 0,h.free_ 1,h.free_ 2,h.free_ 3,h⟩
theorem cell_next {w w':World} {a:Addr} {v:Value} (hb:Below w.heap.size w w') (h:w.cell? a=some v):w'.cell? a=some v:=(hb.cell (p:=a) (World.block_lt_of_cell? w a h)).trans h
def lenOf:Value→Nat
 |.slice _ n _=>n
 | _=>0
def Sml (K:Nat) (c:Rat) (a b:List (Nat×Rat)):Prop:=hq c≤K∧(∀ x,x∈a→hq x.2≤K)∧(∀ x,x∈b→hq x.2≤K)
theorem Sml.left {K:Nat} {c:Rat} {x:Nat×Rat} {a b:List (Nat×Rat)} (h:Sml K c (x :: a) b):Sml K c a b:=⟨h.1,fun y hy=>h.2.1 y (List.mem_cons_of_mem _ hy),h.2.2⟩
theorem Sml.right {K:Nat} {c:Rat} {y:Nat×Rat} {a b:List (Nat×Rat)} (h:Sml K c a (y :: b)):Sml K c a b:=⟨h.1,h.2.1,fun z hz=>h.2.2 z (List.mem_cons_of_mem _ hz)⟩
theorem Sml.first {K:Nat} {c:Rat} {x:Nat×Rat} {a b:List (Nat×Rat)} (h:Sml K c (x :: a) b):hq x.2≤K:=h.2.1 x (List.mem_cons_self ..)
theorem Sml.second {K:Nat} {c:Rat} {y:Nat×Rat} {a b:List (Nat×Rat)} (h:Sml K c a (y :: b)):hq y.2≤K:=h.2.2 y (List.mem_cons_self ..)
theorem c_minus (v1 v2:Value) (l1 l2:List (Nat×Rat)) (s:Bool) (p:Option Addr) (n c:Nat) (t:Bool) (q:Option Addr) (m d:Nat) (x:Rat) (K:Nat) (w:World) (h1:TL l1 w w.heap.size v1) (h2:TL l2 w w.heap.size v2) (hx:Qs w s p n c t q m d x) (hK:Sml K x l1 l2) (hK2:K≤100000000) (hn:l1.length+l2.length≤1000000):
  Calls Tryz.prog 95 #[v1,.agg #[.bool s,.slice p n c,.bool t,.slice q m d],v2] w fun e w'=>(∃ v',e=.returned v'∧OwnT (mrg x l1 l2) w' (w.heap.size+1) v')∧Below w.heap.size w w':=by
 have H1:=Kh h1
 have H2:=Kh h2
 have HX:=Kh hx
 have HK:=Kh hK
 clear h1 h2 hx hK
 go_enter Tryz.func95,Tryz.ntmps95
 go_wp2_with fail
 obtain⟨w0,hw0,X0,hb0⟩:=bx1 w #[.bool s,.slice p n c,.bool t,.slice q m d] 86
 rw[hw0]
 have hsz:w0.heap.size=w.heap.size+1:=by rw[← hw0];simp
 have HB0:=Kh hb0
 have HC0:=Kh X0
 have H320:=Kh (I32.below hb0)
 have HQ0:=Kh (HX.out.keep hb0)
 have HSZ:=Kh hsz
 have HT1:=Kh ((H1.out.next H320.out hb0).up (Nat.le_succ _))
 have HT2:=Kh ((H2.out.next H320.out hb0).up (Nat.le_succ _))
 have HO0:=Kh (OwnT.nil w0 (w.heap.size+1))
 clear X0 hb0 hw0 hsz H1 H2 HX
 go_loopw [0,2,7] (fun va vb vo wr=>∃ la lb lo,TL la wr (w.heap.size+1) va∧TL lb wr (w.heap.size+1) vb∧OwnT lo wr (w.heap.size+1) vo∧lo++mrg x la lb=mrg x l1 l2∧Sml K x la lb∧la.length+lb.length+lo.length≤l1.length+l2.length∧Below (w.heap.size+1) w0 wr∧I32 w0 wr) (fun va vb _ _=>lenOf va+lenOf vb)
 case atStart=>exact⟨l1,l2,[],HT1.out,HT2.out,HO0.out,rfl,HK.out,by simp,Below.refl _ _,I32.refl _⟩
 case round=>
  obtain⟨la,lb,lo,hta,htb,hto,hlo,hsm,hln,hbw,h32⟩:=hrel
  have HB:=Kh hbw
  have HS:=Kh hsm
  have H32:=Kh h32
  have HLO:=Kh hlo
  have HTO:=Kh hto
  have HBS:=Kh (show w.heap.size+1≤wr.heap.size from HSZ.out▸hbw.size)
  have HLN:=Kh (show lo.length≤1000000 by omega)
  clear hbw hsm h32 hlo HT1 HT2 HO0 HK
  cases la with
  | nil=>
   obtain⟨aa,ac,rfl⟩:=hta.nil
   cases lb with
   | nil=>
    obtain⟨ba,bc,rfl⟩:=htb.nil
    clear hta htb hto
    go_wp2
    go_ret
    exact⟨⟨_,rfl,by rw[← HLO.out,mrg_nil,List.append_nil];exact HTO.out⟩,HB0.out.trans (HB.out.mono (Nat.le_succ _))⟩
   | cons z lb=>
    clear hta
    obtain⟨xs,hKO,hXO⟩:=hto
    have HKO:=Kh (fun w1 (hb:Below wr.heap.size wr w1)=>hKO.keep hb)
    have HXO:=Kh (fun w1 (hb:Below wr.heap.size wr w1) j x hx=>show TX x w1 xs (j*5)from⟨(hXO j x hx).1,(hXO j x hx).2.i32 (IsQ.solid _) (I32.below hb)⟩)
    clear hKO hXO
    obtain⟨gb,ob,cb,rfl,hcb,hcb2,hgb,⟨b0,s2,p2,n2,c2,t2,q2,m2,d2,b1,b2,b3,b4,hq2⟩,htb'⟩:=htb.cons
    have HTB:=Kh htb'
    have HTZ:=Kh htb
    have HQZ:=Kh (show Qs wr s2 p2 n2 c2 t2 q2 m2 d2 z.2 from hq2)
    have r0:=(HB.out.cell (p:=⟨w.heap.size,0,none⟩) (Nat.lt_succ_self _)).trans (HC0.out.at_ 0 rfl)
    have r1:=(HB.out.cell (p:=⟨w.heap.size,1,none⟩) (Nat.lt_succ_self _)).trans (HC0.out.at_ 1 rfl)
    have r2:=(HB.out.cell (p:=⟨w.heap.size,2,none⟩) (Nat.lt_succ_self _)).trans (HC0.out.at_ 2 rfl)
    have r3:=(HB.out.cell (p:=⟨w.heap.size,3,none⟩) (Nat.lt_succ_self _)).trans (HC0.out.at_ 3 rfl)
    have HQX:=Kh (HQ0.out.i32 H32.out)
    clear htb htb' hq2
    have g1:(0:Int)<((lb.length+1:Nat):Int):=by omega
    have g2:(((lb.length:Nat):Int)+1==0)=false:=by simp;omega
    go_wp2_with fail
    go_quiet (fail)
    go_wp2_with fail
    go_quiet (fail)
    have HMU:=Kh (fun w1 (hb:Below wr.heap.size wr w1)=>c_qMulQ s p n c t q m d x s2 p2 n2 c2 t2 q2 m2 d2 z.2 w1 (HQX.out.keep hb) (HQZ.out.keep hb) (by have:=HS.out.1;omega) (by have:=HS.out.second;omega))
    have HMS:=Kh (show hq (x*z.2)≤1000000000 by have h1:=hq_mul x z.2;have h2:=HS.out.1;have h3:=HS.out.second;omega)
    have HS1:=Kh (show ∀ w1,Below (w.heap.size+1) wr w1→(w1.cell? ⟨gb,ob,none⟩=some (.int .i64 (z.1:Int))∧w1.cell? ⟨gb,ob+1,none⟩=some (.bool s2)∧w1.cell? ⟨gb,ob+2,none⟩=some (.slice p2 n2 c2)∧w1.cell? ⟨gb,ob+3,none⟩=some (.bool t2)∧w1.cell? ⟨gb,ob+4,none⟩=some (.slice q2 m2 d2)∧w1.cell? ⟨w.heap.size,0,none⟩=some (.bool s)∧w1.cell? ⟨w.heap.size,1,none⟩=some (.slice p n c)∧w1.cell? ⟨w.heap.size,2,none⟩=some (.bool t)∧w1.cell? ⟨w.heap.size,3,none⟩=some (.slice q m d))from fun w1 hb=>⟨(hb.cell (p:=⟨gb,ob,none⟩) (hgb)).trans b0,(hb.cell (p:=⟨gb,ob+1,none⟩) (hgb)).trans b1,(hb.cell (p:=⟨gb,ob+2,none⟩) (hgb)).trans b2,(hb.cell (p:=⟨gb,ob+3,none⟩) (hgb)).trans b3,(hb.cell (p:=⟨gb,ob+4,none⟩) (hgb)).trans b4,(hb.cell (p:=⟨w.heap.size,0,none⟩) (Nat.lt_succ_self _)).trans r0,(hb.cell (p:=⟨w.heap.size,1,none⟩) (Nat.lt_succ_self _)).trans r1,(hb.cell (p:=⟨w.heap.size,2,none⟩) (Nat.lt_succ_self _)).trans r2,(hb.cell (p:=⟨w.heap.size,3,none⟩) (Nat.lt_succ_self _)).trans r3⟩)
    clear b0 b1 b2 b3 b4 r0 r1 r2 r3
    go_upto_region 11 with(fail)
    go_region_held3 (fun w1=>w1.cell? ⟨gb,ob,none⟩=some (.int .i64 (z.1:Int))∧w1.cell? ⟨gb,ob+1,none⟩=some (.bool s2)∧w1.cell? ⟨gb,ob+2,none⟩=some (.slice p2 n2 c2)∧w1.cell? ⟨gb,ob+3,none⟩=some (.bool t2)∧w1.cell? ⟨gb,ob+4,none⟩=some (.slice q2 m2 d2)∧w1.cell? ⟨w.heap.size,0,none⟩=some (.bool s)∧w1.cell? ⟨w.heap.size,1,none⟩=some (.slice p n c)∧w1.cell? ⟨w.heap.size,2,none⟩=some (.bool t)∧w1.cell? ⟨w.heap.size,3,none⟩=some (.slice q m d))
     (first|exact HS1.out _ (Below.mono (show Below wr.heap.size wr _ from(by first|exact(below_drewN' (below_drewN' (Below.refl _ wr) _) _).drew|exact(below_drewN' (Below.refl _ wr) _).drew|exact(Below.refl _ wr).drew)) HBS.out)|with_reducible exact HS1.out _ hbB|exact HS1.out _ (hbB.alloc hsB _)|exact HS1.out _ HB9.out |(exfalso;assumption))
     (first
      |(refine step_app2 NotU32 rfl (.tmp 87) (.tmp 100) _ 110 rfl Tryz.underlying107 termInfo rfl (by decide) (w.heap.size+1) lo.length u7 xs [.int .i64 (z.1:Int),.bool s4,.slice p4 n4 c4,.bool t4,.slice q4 m4 d4] rfl (HKO.out _ (hbW)) rfl rfl (oneT _ _ _ _ _ _ _ _ _) (by have:=HLN.out;omega) (by have:=HLN.out;omega) (by first|exact HBS.out|exact Nat.le_trans HBS.out (Below.size (hbW))) (nuT _ _ _ _ _ _ _ _ _) nuTz ?_;intro v9 w9 hown9 hgr9 hat9;have HO9:=Kh (OwnT.push (HKO.out _ (hbW)) (HXO.out _ (hbW)) z.1 (-(x*z.2)) hz4 hown9 hgr9);have H329:=Kh (show I32 wr w9 from(I32.below (hbW)).trans (I32.grown (K:=NotU32) (fun z=>not_u32 z) (HKO.out _ (hbW)).2 hgr9));have HB9:=Kh (show Below (w.heap.size+1) wr w9 from(Below.mono (hbW) HBS.out).trans (own_below (Below.refl _ _) (HKO.out _ (hbW)).1 hgr9 (Nat.le_refl _) (by first|exact HBS.out|exact Nat.le_trans HBS.out (Below.size (hbW)))));clear hown9 hgr9 hat9)
      |(go_at_call 44;refine(HMU.out _ (show Below wr.heap.size wr _ from(by first|exact(below_drewN' (below_drewN' (Below.refl _ wr) _) _).drew|exact(below_drewN' (Below.refl _ wr) _).drew|exact(Below.refl _ wr).drew))).mono ?_;rintro e w2 ⟨⟨s3,p3,n3,c3,t3,q3,m3,d3,rfl,hz3⟩,hb2⟩;have hbV:Below wr.heap.size wr w2:=Below.trans (show Below wr.heap.size wr _ from(by first|exact(below_drewN' (below_drewN' (Below.refl _ wr) _) _).drew|exact(below_drewN' (Below.refl _ wr) _).drew|exact(Below.refl _ wr).drew)) hb2;have hbB:=hbV.mono HBS.out;have hsB:=Nat.le_trans HBS.out hbV.size)
      |(go_at_call 51;refine(c_qNegQ s3 p3 n3 c3 t3 q3 m3 d3 (x*z.2) _ hz3 HMS.out).mono ?_;rintro e w3 ⟨⟨s4,p4,n4,c4,t4,q4,m4,d4,rfl,hz4⟩,hb3⟩;have hbW:Below wr.heap.size wr w3:=hbV.trans (hb3.mono hbV.size);have hbB:=hbW.mono HBS.out;have hsB:=Nat.le_trans HBS.out hbW.size))
    all_goals go_wp2
    all_goals go_roundw
    all_goals first
     | exact⟨[],lb,lo++[(z.1,-(x*z.2))],.inl ⟨rfl,_,_,rfl⟩,(HTB.out.next H329.out HB9.out).cut _ hcb,HO9.out,by rw[← HLO.out,mrg_right,List.append_assoc];rfl,HS.out.right,by simp at hln ⊢;omega,HB.out.trans HB9.out,H32.out.trans H329.out⟩
     |(simp[lenOf])
  | cons y la=>
   obtain⟨ga,oa,ca,rfl,hca,hca2,hga,⟨a0,s1,p1,n1,c1,t1,q1,m1,d1,a1,a2,a3,a4,hq1⟩,hta'⟩:=hta.cons
   obtain⟨xs,hKO,hXO⟩:=hto
   have HKO:=Kh (fun w1 (hb:Below wr.heap.size wr w1)=>hKO.keep hb)
   have HXO:=Kh (fun w1 (hb:Below wr.heap.size wr w1) j x hx=>show TX x w1 xs (j*5)from⟨(hXO j x hx).1,(hXO j x hx).2.i32 (IsQ.solid _) (I32.below hb)⟩)
   clear hKO hXO
   have HTA:=Kh hta'
   have HTY:=Kh hta
   have HQ8:=Kh (show Qs wr s1 p1 n1 c1 t1 q1 m1 d1 y.2 from hq1)
   clear hta hta' hq1
   cases lb with
   | nil=>
    obtain⟨ba,bc,rfl⟩:=htb.nil
    have HTB:=Kh htb
    clear htb
    have g1:(0:Int)<((la.length+1:Nat):Int):=by omega
    go_wp2_with fail
    go_quiet (fail)
    go_wp2_with (at_builtin;refine wpl_app2 NotU32 rfl (.tmp 64) (.tmp 68) _ 110 rfl Tryz.underlying107 termInfo rfl (by decide) (w.heap.size+1) lo.length u7 xs [.int .i64 (y.1:Int),.bool s1,.slice p1 n1 c1,.bool t1,.slice q1 m1 d1] rfl (HKO.out _ (below_drewN' (Below.refl _ wr) _)) rfl rfl (oneT _ _ _ _ _ _ _ _ _) (by have:=HLN.out;omega) (by have:=HLN.out;omega) (by first|exact HBS.out|exact Nat.le_trans HBS.out (Below.size (below_drewN' (Below.refl _ wr) _))) (nuT _ _ _ _ _ _ _ _ _) nuTz ?_;intro v9 w9 hown9 hgr9 hat9;have HO9:=Kh (OwnT.push (HKO.out _ (below_drewN' (Below.refl _ wr) _)) (HXO.out _ (below_drewN' (Below.refl _ wr) _)) y.1 y.2 (HQ8.out.keep (below_drewN' (Below.refl _ wr) _)) hown9 hgr9);have H329:=Kh (show I32 wr w9 from(I32.below (below_drewN' (Below.refl _ wr) _)).trans (I32.grown (K:=NotU32) (fun z=>not_u32 z) (HKO.out _ (below_drewN' (Below.refl _ wr) _)).2 hgr9));have HB9:=Kh (show Below (w.heap.size+1) wr w9 from(Below.mono (below_drewN' (Below.refl _ wr) _) HBS.out).trans (own_below (Below.refl _ _) (HKO.out _ (below_drewN' (Below.refl _ wr) _)).1 hgr9 (Nat.le_refl _) (by first|exact HBS.out|exact Nat.le_trans HBS.out (Below.size (below_drewN' (Below.refl _ wr) _)))));clear hown9 hgr9 hat9)
    go_roundw
    case rel=>exact⟨la,[],lo++[(y.1,y.2)],(HTA.out.next H329.out HB9.out).cut _ hca,HTB.out.next H329.out HB9.out,HO9.out,by rw[← HLO.out,mrg_left,List.append_assoc];rfl,HS.out.left,by simp at hln ⊢;omega,HB.out.trans HB9.out,H32.out.trans H329.out⟩
    case measure=>simp[lenOf]
   | cons z lb=>
    obtain⟨gb,ob,cb,rfl,hcb,hcb2,hgb,⟨b0,s2,p2,n2,c2,t2,q2,m2,d2,b1,b2,b3,b4,hq2⟩,htb'⟩:=htb.cons
    have HTB:=Kh htb'
    have HTZ:=Kh htb
    have HQZ:=Kh (show Qs wr s2 p2 n2 c2 t2 q2 m2 d2 z.2 from hq2)
    have r0:=(HB.out.cell (p:=⟨w.heap.size,0,none⟩) (Nat.lt_succ_self _)).trans (HC0.out.at_ 0 rfl)
    have r1:=(HB.out.cell (p:=⟨w.heap.size,1,none⟩) (Nat.lt_succ_self _)).trans (HC0.out.at_ 1 rfl)
    have r2:=(HB.out.cell (p:=⟨w.heap.size,2,none⟩) (Nat.lt_succ_self _)).trans (HC0.out.at_ 2 rfl)
    have r3:=(HB.out.cell (p:=⟨w.heap.size,3,none⟩) (Nat.lt_succ_self _)).trans (HC0.out.at_ 3 rfl)
    have HQX:=Kh (HQ0.out.i32 H32.out)
    clear htb htb' hq2
    have g1:(0:Int)<((la.length+1:Nat):Int):=by omega
    have g2:(((la.length:Nat):Int)+1==0)=false:=by simp;omega
    have g3:(((lb.length:Nat):Int)+1==0)=false:=by simp;omega
    rcases Nat.lt_trichotomy y.1 z.1 with hlt|heq|hgt
    ·have g4:(y.1:Int)<(z.1:Int):=by omega
     clear r0 r1 r2 r3
     go_wp2_with fail
     go_quiet (fail)
     go_wp2_with (at_builtin;refine wpl_app2 NotU32 rfl (.tmp 64) (.tmp 68) _ 110 rfl Tryz.underlying107 termInfo rfl (by decide) (w.heap.size+1) lo.length u7 xs [.int .i64 (y.1:Int),.bool s1,.slice p1 n1 c1,.bool t1,.slice q1 m1 d1] rfl (HKO.out _ (below_drewN' (Below.refl _ wr) _)) rfl rfl (oneT _ _ _ _ _ _ _ _ _) (by have:=HLN.out;omega) (by have:=HLN.out;omega) (by first|exact HBS.out|exact Nat.le_trans HBS.out (Below.size (below_drewN' (Below.refl _ wr) _))) (nuT _ _ _ _ _ _ _ _ _) nuTz ?_;intro v9 w9 hown9 hgr9 hat9;have HO9:=Kh (OwnT.push (HKO.out _ (below_drewN' (Below.refl _ wr) _)) (HXO.out _ (below_drewN' (Below.refl _ wr) _)) y.1 y.2 (HQ8.out.keep (below_drewN' (Below.refl _ wr) _)) hown9 hgr9);have H329:=Kh (show I32 wr w9 from(I32.below (below_drewN' (Below.refl _ wr) _)).trans (I32.grown (K:=NotU32) (fun z=>not_u32 z) (HKO.out _ (below_drewN' (Below.refl _ wr) _)).2 hgr9));have HB9:=Kh (show Below (w.heap.size+1) wr w9 from(Below.mono (below_drewN' (Below.refl _ wr) _) HBS.out).trans (own_below (Below.refl _ _) (HKO.out _ (below_drewN' (Below.refl _ wr) _)).1 hgr9 (Nat.le_refl _) (by first|exact HBS.out|exact Nat.le_trans HBS.out (Below.size (below_drewN' (Below.refl _ wr) _)))));clear hown9 hgr9 hat9)
     go_roundw
     case rel=>exact⟨la,z :: lb,lo++[(y.1,y.2)],(HTA.out.next H329.out HB9.out).cut _ hca,HTZ.out.next H329.out HB9.out,HO9.out,by rw[← HLO.out,mrg_lt x y z la lb hlt,List.append_assoc];rfl,HS.out.left,by simp at hln ⊢;omega,HB.out.trans HB9.out,H32.out.trans H329.out⟩
     case measure=>simp[lenOf]
    ·have g4:decide ((y.1:Int)<(z.1:Int))=false:=by simp;omega
     have g5:decide ((z.1:Int)<(y.1:Int))=false:=by simp;omega
     go_wp2_with fail
     go_quiet (fail)
     go_wp2_with fail
     go_quiet (fail)
     have HMU:=Kh (fun w1 (hb:Below wr.heap.size wr w1)=>c_qMulQ s p n c t q m d x s2 p2 n2 c2 t2 q2 m2 d2 z.2 w1 (HQX.out.keep hb) (HQZ.out.keep hb) (by have:=HS.out.1;omega) (by have:=HS.out.second;omega))
     have HMS:=Kh (show hq (x*z.2)≤200000000 by have h1:=hq_mul x z.2;have h2:=HS.out.1;have h3:=HS.out.second;omega)
     have HYS:=Kh (show hq y.2≤1000000000 by have h3:=HS.out.first;omega)
     have HDS:=Kh (show hq (y.2 - x*z.2)≤1000000000 by have h3:=HS.out.first;have h4:=HMS.out;have h5:=hq_add y.2 (-(x*z.2));rw[hq_neg]at h5;rw[Rat.sub_eq_add_neg];omega)
     have HS1:=Kh (show ∀ w1,Below (w.heap.size+1) wr w1→(w1.cell? ⟨ga,oa+1,none⟩=some (.bool s1)∧w1.cell? ⟨ga,oa+2,none⟩=some (.slice p1 n1 c1)∧w1.cell? ⟨ga,oa+3,none⟩=some (.bool t1)∧w1.cell? ⟨ga,oa+4,none⟩=some (.slice q1 m1 d1)∧w1.cell? ⟨gb,ob+1,none⟩=some (.bool s2)∧w1.cell? ⟨gb,ob+2,none⟩=some (.slice p2 n2 c2)∧w1.cell? ⟨gb,ob+3,none⟩=some (.bool t2)∧w1.cell? ⟨gb,ob+4,none⟩=some (.slice q2 m2 d2)∧w1.cell? ⟨w.heap.size,0,none⟩=some (.bool s)∧w1.cell? ⟨w.heap.size,1,none⟩=some (.slice p n c)∧w1.cell? ⟨w.heap.size,2,none⟩=some (.bool t)∧w1.cell? ⟨w.heap.size,3,none⟩=some (.slice q m d))from fun w1 hb=>⟨(hb.cell (p:=⟨ga,oa+1,none⟩) (hga)).trans a1,(hb.cell (p:=⟨ga,oa+2,none⟩) (hga)).trans a2,(hb.cell (p:=⟨ga,oa+3,none⟩) (hga)).trans a3,(hb.cell (p:=⟨ga,oa+4,none⟩) (hga)).trans a4,(hb.cell (p:=⟨gb,ob+1,none⟩) (hgb)).trans b1,(hb.cell (p:=⟨gb,ob+2,none⟩) (hgb)).trans b2,(hb.cell (p:=⟨gb,ob+3,none⟩) (hgb)).trans b3,(hb.cell (p:=⟨gb,ob+4,none⟩) (hgb)).trans b4,(hb.cell (p:=⟨w.heap.size,0,none⟩) (Nat.lt_succ_self _)).trans r0,(hb.cell (p:=⟨w.heap.size,1,none⟩) (Nat.lt_succ_self _)).trans r1,(hb.cell (p:=⟨w.heap.size,2,none⟩) (Nat.lt_succ_self _)).trans r2,(hb.cell (p:=⟨w.heap.size,3,none⟩) (Nat.lt_succ_self _)).trans r3⟩)
     have HA0:=Kh (fun w1 (hb:Below (w.heap.size+1) wr w1)=>(hb.cell (p:=⟨ga,oa,none⟩) hga).trans a0)
     clear a0 a1 a2 a3 a4 b0 b1 b2 b3 b4 r0 r1 r2 r3
     go_upto_region 3 with(fail)
     go_cut [8]from 17 to 27 (fun v8 wd=>∃ R s4 p4 n4 c4 t4 q4 m4 d4,v8=.pointer (some ⟨R,0,none⟩)∧wd.cell? ⟨R,0,none⟩=some (.bool s4)∧wd.cell? ⟨R,1,none⟩=some (.slice p4 n4 c4)∧wd.cell? ⟨R,2,none⟩=some (.bool t4)∧wd.cell? ⟨R,3,none⟩=some (.slice q4 m4 d4)∧Qs wd s4 p4 n4 c4 t4 q4 m4 d4 (y.2 - x*z.2)∧Below wr.heap.size wr wd∧wr.heap.size≤R)
     case first=>
      have M1:True:=trivial
      go_region_held3 (fun w1=>w1.cell? ⟨ga,oa+1,none⟩=some (.bool s1)∧w1.cell? ⟨ga,oa+2,none⟩=some (.slice p1 n1 c1)∧w1.cell? ⟨ga,oa+3,none⟩=some (.bool t1)∧w1.cell? ⟨ga,oa+4,none⟩=some (.slice q1 m1 d1)∧w1.cell? ⟨gb,ob+1,none⟩=some (.bool s2)∧w1.cell? ⟨gb,ob+2,none⟩=some (.slice p2 n2 c2)∧w1.cell? ⟨gb,ob+3,none⟩=some (.bool t2)∧w1.cell? ⟨gb,ob+4,none⟩=some (.slice q2 m2 d2)∧w1.cell? ⟨w.heap.size,0,none⟩=some (.bool s)∧w1.cell? ⟨w.heap.size,1,none⟩=some (.slice p n c)∧w1.cell? ⟨w.heap.size,2,none⟩=some (.bool t)∧w1.cell? ⟨w.heap.size,3,none⟩=some (.slice q m d))
       (first|exact HS1.out _ (Below.mono (show Below wr.heap.size wr _ from(by first|exact(below_drewN' (below_drewN' (Below.refl _ wr) _) _).drew|exact(below_drewN' (Below.refl _ wr) _).drew|exact((below_drewN' (below_drewN' (Below.refl _ wr) _) _).drew).alloc (Nat.le_refl _) _|exact((below_drewN' (Below.refl _ wr) _).drew).alloc (Nat.le_refl _) _)) HBS.out)|with_reducible exact HS1.out _ hbB|exact HS1.out _ (hbB.alloc hsB _)|with_reducible exact HS1.out _ (below_putR hbB hRB.out _ _ _ _)|with_reducible exact HS1.out _ (below_putR hbB HBS.out _ _ _ _)|with_reducible exact HS1.out _ (below_putR (hbB.alloc hsB _) hsB _ _ _ _) |(exfalso;assumption))
       (first
        |(go_at_call 44;clear M1;refine(HMU.out _ (by first|exact(below_drewN' (below_drewN' (Below.refl _ wr) _) _).drew|exact(below_drewN' (Below.refl _ wr) _).drew|exact((below_drewN' (below_drewN' (Below.refl _ wr) _) _).drew).alloc (Nat.le_refl _) _|exact((below_drewN' (Below.refl _ wr) _).drew).alloc (Nat.le_refl _) _)).mono ?_;rintro e w2 ⟨⟨s3,p3,n3,c3,t3,q3,m3,d3,rfl,hz3⟩,hb2⟩;have hbV:Below wr.heap.size wr w2:=Below.trans (show Below wr.heap.size wr _ from(by first|exact(below_drewN' (below_drewN' (Below.refl _ wr) _) _).drew|exact(below_drewN' (Below.refl _ wr) _).drew|exact((below_drewN' (below_drewN' (Below.refl _ wr) _) _).drew).alloc (Nat.le_refl _) _|exact((below_drewN' (Below.refl _ wr) _).drew).alloc (Nat.le_refl _) _)) (Below.mono hb2 (Below.size (show Below wr.heap.size wr _ from(by first|exact(below_drewN' (below_drewN' (Below.refl _ wr) _) _).drew|exact(below_drewN' (Below.refl _ wr) _).drew|exact((below_drewN' (below_drewN' (Below.refl _ wr) _) _).drew).alloc (Nat.le_refl _) _|exact((below_drewN' (Below.refl _ wr) _).drew).alloc (Nat.le_refl _) _))));have hbB:=hbV.mono HBS.out;have hsB:=Nat.le_trans HBS.out hbV.size;(try have fa:=freshQ wr.heap.size (by first|exact rfl |(simp;done)) hb2))
        |(go_at_call 146;refine(c_qSubQ s1 p1 n1 c1 t1 q1 m1 d1 y.2 s3 p3 n3 c3 t3 q3 m3 d3 (x*z.2) _ (HQ8.out.keep (show Below wr.heap.size wr _ from(by first|exact hbV|exact hbV.alloc hbV.size _))) (by first|exact hz3|exact hz3.keep ((Below.refl _ _).alloc (Nat.le_refl _) _)) HYS.out (by have:=HMS.out;omega)).mono ?_;rintro e w3 ⟨⟨s4,p4,n4,c4,t4,q4,m4,d4,rfl,hz4⟩,hb3⟩;have hbW:Below wr.heap.size wr w3:=Below.trans (show Below wr.heap.size wr _ from(by first|exact hbV|exact hbV.alloc hbV.size _)) (Below.mono hb3 (Below.size (show Below wr.heap.size wr _ from(by first|exact hbV|exact hbV.alloc hbV.size _))));have hbB:=hbW.mono HBS.out;have hsB:=Nat.le_trans HBS.out hbW.size;(first|have fa:=freshQ_next (by first|exact hb3) fa|have fa:=freshQ w2.heap.size rfl hb3|skip);have hRB:=Kh (show w.heap.size+1≤w2.heap.size from Nat.le_trans HBS.out hbV.size)))
      all_goals go_wp2
      all_goals go_meet
      all_goals first
       | exact⟨w3.heap.size,s4,p4,n4,c4,t4,q4,m4,d4,rfl,(Blk.new w3 86 #[.bool s4,.slice p4 n4 c4,.bool t4,.slice q4 m4 d4]).at_ 0 rfl,(Blk.new w3 86 #[.bool s4,.slice p4 n4 c4,.bool t4,.slice q4 m4 d4]).at_ 1 rfl,(Blk.new w3 86 #[.bool s4,.slice p4 n4 c4,.bool t4,.slice q4 m4 d4]).at_ 2 rfl,(Blk.new w3 86 #[.bool s4,.slice p4 n4 c4,.bool t4,.slice q4 m4 d4]).at_ 3 rfl,hz4.keep ((Below.refl _ _).alloc (Nat.le_refl _) _),hbW.alloc hbW.size _,hbW.size⟩
       |(obtain⟨E0,E1,E2,E3,hq9⟩:=rat_put fa.2.2.2.2.2.2.2.2 hz4 rfl;exact⟨_,s4,p4,n4,c4,t4,q4,m4,d4,rfl,E0,E1,E2,E3,hq9,below_putR hbW (by first|exact Nat.le_refl _|exact hbV.size) _ _ _ _,by first|exact Nat.le_refl _|exact hbV.size⟩)
     case rest=>
      obtain⟨R,s4,p4,n4,c4,t4,q4,m4,d4,rfl,e0,e1,e2,e3,hz,hbd,hR⟩:=hcut
      obtain⟨wd,rfl⟩:∃ wd:World,wd=wc:=⟨_,rfl⟩
      have HZ4:=Kh hz
      have HBD:=Kh hbd
      have HRG:=Kh (show ∀ g,u7.ownBlock=some g→g≠R from fun g hg e=>by have:=((HKO.out wr (Below.refl _ _)).2 g hg).1;omega)
      have HE4:=Kh (And.intro e0 (And.intro e1 (And.intro e2 e3)))
      clear hz hbd hR
      go_wp2_with fail
      refine(c_qSignQ s4 p4 n4 c4 t4 q4 m4 d4 (y.2 - x*z.2) wd HZ4.out HDS.out).mono ?_
      rintro e we ⟨⟨sg,rfl,hsg⟩,hbe⟩
      have HBE:=bt HBD hbe
      have HSG:=Kh hsg
      have HQE:=Kh (HZ4.out.keep hbe)
      have HE5:=Kh (fun w1 (hb:Below we.heap.size we w1)=>show w1.cell? ⟨R,0,none⟩=some (.bool s4)∧w1.cell? ⟨R,1,none⟩=some (.slice p4 n4 c4)∧w1.cell? ⟨R,2,none⟩=some (.bool t4)∧w1.cell? ⟨R,3,none⟩=some (.slice q4 m4 d4)from⟨cell_next (hbe.trans (hb.mono hbe.size)) HE4.out.1,cell_next (hbe.trans (hb.mono hbe.size)) HE4.out.2.1,cell_next (hbe.trans (hb.mono hbe.size)) HE4.out.2.2.1,cell_next (hbe.trans (hb.mono hbe.size)) HE4.out.2.2.2⟩)
      clear hsg hbe HMU HMS HYS HZ4 HBD HE4 e0 e1 e2 e3
      by_cases hd:y.2 - x*z.2=0
      ·have h0:sg=0:=HSG.out.2 hd
       subst h0
       have HD0:=Kh hd
       clear hd
       go_wp2_with fail
       go_quiet (fail)
       go_wp2
       go_roundw
       case rel=>
        have hbx:∀ n,Below wr.heap.size wr (we.drewN n):=fun n=>below_drewN' HBE.out n
        exact⟨la,lb,lo,(HTA.out.next (I32.below (hbx _)) ((hbx _).mono HBS.out)).cut _ hca,(HTB.out.next (I32.below (hbx _)) ((hbx _).mono HBS.out)).cut _ hcb,⟨xs,HKO.out _ (hbx _),HXO.out _ (hbx _)⟩,by rw[← HLO.out,mrg_eq0 x y z la lb heq HD0.out],HS.out.left.right,by simp at hln ⊢;omega,HB.out.trans ((hbx _).mono HBS.out),H32.out.trans (I32.below (hbx _))⟩
       case measure=>simp[lenOf];omega
      ·have h0:(sg != 0)=true:=by
        have:sg≠0:=fun e=>hd (HSG.out.1 e)
        simpa using this
       have HD1:=Kh hd
       clear hd
       go_upto_region 5 with(fail)
       have HS5:=Kh (show ∀ w1,Below we.heap.size we w1→(w1.cell? ⟨ga,oa,none⟩=some (.int .i64 (y.1:Int))∧w1.cell? ⟨R,0,none⟩=some (.bool s4)∧w1.cell? ⟨R,1,none⟩=some (.slice p4 n4 c4)∧w1.cell? ⟨R,2,none⟩=some (.bool t4)∧w1.cell? ⟨R,3,none⟩=some (.slice q4 m4 d4))from fun w1 hb=>⟨HA0.out w1 ((HBE.out.mono HBS.out).trans (hb.mono (Nat.le_trans HBS.out HBE.out.size))),HE5.out w1 hb⟩)
       have hS0:=HS5.out _ (Below.refl _ we).drew
       go_region_held3 (fun w1=>w1.cell? ⟨ga,oa,none⟩=some (.int .i64 (y.1:Int))∧w1.cell? ⟨R,0,none⟩=some (.bool s4)∧w1.cell? ⟨R,1,none⟩=some (.slice p4 n4 c4)∧w1.cell? ⟨R,2,none⟩=some (.bool t4)∧w1.cell? ⟨R,3,none⟩=some (.slice q4 m4 d4))
        (first|with_reducible exact hS0|with_reducible exact HS9.out|exact HS5.out _ ((Below.refl _ we).drew.alloc (Nat.le_refl _) _) |(exfalso;assumption))
        (first
         |(refine step_app2 (W:=we.drew) NotU32 rfl (.tmp 31) (.tmp 38) _ 110 rfl Tryz.underlying107 termInfo rfl (by decide) (w.heap.size+1) lo.length u7 xs [.int .i64 (z.1:Int),.bool s4,.slice p4 n4 c4,.bool t4,.slice q4 m4 d4] rfl (HKO.out _ (show Below wr.heap.size wr _ from(by first|exact HBE.out.drew|exact HBE.out))) rfl rfl (oneT _ _ _ _ _ _ _ _ _) (by have:=HLN.out;omega) (by have:=HLN.out;omega) (by first|exact HBS.out|exact Nat.le_trans HBS.out (Below.size (show Below wr.heap.size wr _ from(by first|exact HBE.out.drew|exact HBE.out)))) (nuT _ _ _ _ _ _ _ _ _) nuTz ?_;intro v9 w9 hown9 hgr9 hat9;have HO9:=Kh (OwnT.push (HKO.out _ (show Below wr.heap.size wr _ from(by first|exact HBE.out.drew|exact HBE.out))) (HXO.out _ (show Below wr.heap.size wr _ from(by first|exact HBE.out.drew|exact HBE.out))) z.1 (y.2 - x*z.2) (HQE.out.keep (by first|exact(Below.refl _ we).drew|exact Below.refl _ we)) hown9 hgr9);have H329:=Kh (show I32 wr w9 from(I32.below (show Below wr.heap.size wr _ from(by first|exact HBE.out.drew|exact HBE.out))).trans (I32.grown (K:=NotU32) (fun z=>not_u32 z) (HKO.out _ (show Below wr.heap.size wr _ from(by first|exact HBE.out.drew|exact HBE.out))).2 hgr9));have HB9:=Kh (show Below (w.heap.size+1) wr w9 from(Below.mono (show Below wr.heap.size wr _ from(by first|exact HBE.out.drew|exact HBE.out)) HBS.out).trans (own_below (Below.refl _ _) (HKO.out _ (show Below wr.heap.size wr _ from(by first|exact HBE.out.drew|exact HBE.out))).1 hgr9 (Nat.le_refl _) (by first|exact HBS.out|exact Nat.le_trans HBS.out (Below.size (show Below wr.heap.size wr _ from(by first|exact HBE.out.drew|exact HBE.out))))));have HS9:=Kh (show w9.cell? ⟨ga,oa,none⟩=some (.int .i64 (y.1:Int))∧w9.cell? ⟨R,0,none⟩=some (.bool s4)∧w9.cell? ⟨R,1,none⟩=some (.slice p4 n4 c4)∧w9.cell? ⟨R,2,none⟩=some (.bool t4)∧w9.cell? ⟨R,3,none⟩=some (.slice q4 m4 d4)from⟨HA0.out _ HB9.out,hgr9.cell (HE5.out _ (by first|exact(Below.refl _ we).drew|exact Below.refl _ we)).1 (fun e=>HRG.out _ e.symm rfl),hgr9.cell (HE5.out _ (by first|exact(Below.refl _ we).drew|exact Below.refl _ we)).2.1 (fun e=>HRG.out _ e.symm rfl),hgr9.cell (HE5.out _ (by first|exact(Below.refl _ we).drew|exact Below.refl _ we)).2.2.1 (fun e=>HRG.out _ e.symm rfl),hgr9.cell (HE5.out _ (by first|exact(Below.refl _ we).drew|exact Below.refl _ we)).2.2.2 (fun e=>HRG.out _ e.symm rfl)⟩);clear hown9 hgr9 hat9))
       all_goals go_wp2_with fail
       all_goals go_quiet (fail)
       all_goals go_wp2
       all_goals go_roundw
       all_goals first
        | exact⟨la,lb,lo++[(z.1,y.2 - x*z.2)],(HTA.out.next (H329.out.trans (I32.below (below_drewN' (Below.refl _ _) _))) (below_drewN' HB9.out _)).cut _ hca,(HTB.out.next (H329.out.trans (I32.below (below_drewN' (Below.refl _ _) _))) (below_drewN' HB9.out _)).cut _ hcb,HO9.out.keep (below_drewN' (Below.refl _ _) _),by rw[← HLO.out,mrg_eq1 x y z la lb heq HD1.out,heq,List.append_assoc];rfl,HS.out.left.right,by simp at hln ⊢;omega,HB.out.trans (below_drewN' HB9.out _),H32.out.trans (H329.out.trans (I32.below (below_drewN' (Below.refl _ _) _)))⟩
        |(simp[lenOf];omega)
    ·have g4:decide ((y.1:Int)<(z.1:Int))=false:=by simp;omega
     have g5:(z.1:Int)<(y.1:Int):=by omega
     go_wp2_with fail
     go_quiet (fail)
     go_wp2_with fail
     go_quiet (fail)
     have HMU:=Kh (fun w1 (hb:Below wr.heap.size wr w1)=>c_qMulQ s p n c t q m d x s2 p2 n2 c2 t2 q2 m2 d2 z.2 w1 (HQX.out.keep hb) (HQZ.out.keep hb) (by have:=HS.out.1;omega) (by have:=HS.out.second;omega))
     have HMS:=Kh (show hq (x*z.2)≤1000000000 by have h1:=hq_mul x z.2;have h2:=HS.out.1;have h3:=HS.out.second;omega)
     have HS1:=Kh (show ∀ w1,Below (w.heap.size+1) wr w1→(w1.cell? ⟨gb,ob,none⟩=some (.int .i64 (z.1:Int))∧w1.cell? ⟨gb,ob+1,none⟩=some (.bool s2)∧w1.cell? ⟨gb,ob+2,none⟩=some (.slice p2 n2 c2)∧w1.cell? ⟨gb,ob+3,none⟩=some (.bool t2)∧w1.cell? ⟨gb,ob+4,none⟩=some (.slice q2 m2 d2)∧w1.cell? ⟨w.heap.size,0,none⟩=some (.bool s)∧w1.cell? ⟨w.heap.size,1,none⟩=some (.slice p n c)∧w1.cell? ⟨w.heap.size,2,none⟩=some (.bool t)∧w1.cell? ⟨w.heap.size,3,none⟩=some (.slice q m d))from fun w1 hb=>⟨(hb.cell (p:=⟨gb,ob,none⟩) (hgb)).trans b0,(hb.cell (p:=⟨gb,ob+1,none⟩) (hgb)).trans b1,(hb.cell (p:=⟨gb,ob+2,none⟩) (hgb)).trans b2,(hb.cell (p:=⟨gb,ob+3,none⟩) (hgb)).trans b3,(hb.cell (p:=⟨gb,ob+4,none⟩) (hgb)).trans b4,(hb.cell (p:=⟨w.heap.size,0,none⟩) (Nat.lt_succ_self _)).trans r0,(hb.cell (p:=⟨w.heap.size,1,none⟩) (Nat.lt_succ_self _)).trans r1,(hb.cell (p:=⟨w.heap.size,2,none⟩) (Nat.lt_succ_self _)).trans r2,(hb.cell (p:=⟨w.heap.size,3,none⟩) (Nat.lt_succ_self _)).trans r3⟩)
     clear b0 b1 b2 b3 b4 r0 r1 r2 r3
     go_upto_region 11 with(fail)
     go_region_held3 (fun w1=>w1.cell? ⟨gb,ob,none⟩=some (.int .i64 (z.1:Int))∧w1.cell? ⟨gb,ob+1,none⟩=some (.bool s2)∧w1.cell? ⟨gb,ob+2,none⟩=some (.slice p2 n2 c2)∧w1.cell? ⟨gb,ob+3,none⟩=some (.bool t2)∧w1.cell? ⟨gb,ob+4,none⟩=some (.slice q2 m2 d2)∧w1.cell? ⟨w.heap.size,0,none⟩=some (.bool s)∧w1.cell? ⟨w.heap.size,1,none⟩=some (.slice p n c)∧w1.cell? ⟨w.heap.size,2,none⟩=some (.bool t)∧w1.cell? ⟨w.heap.size,3,none⟩=some (.slice q m d))
      (first|exact HS1.out _ (Below.mono (show Below wr.heap.size wr _ from(by first|exact(below_drewN' (below_drewN' (Below.refl _ wr) _) _).drew|exact(below_drewN' (Below.refl _ wr) _).drew|exact(Below.refl _ wr).drew)) HBS.out)|with_reducible exact HS1.out _ hbB|exact HS1.out _ (hbB.alloc hsB _)|exact HS1.out _ HB9.out |(exfalso;assumption))
      (first
       |(refine step_app2 NotU32 rfl (.tmp 87) (.tmp 100) _ 110 rfl Tryz.underlying107 termInfo rfl (by decide) (w.heap.size+1) lo.length u7 xs [.int .i64 (z.1:Int),.bool s4,.slice p4 n4 c4,.bool t4,.slice q4 m4 d4] rfl (HKO.out _ (hbW)) rfl rfl (oneT _ _ _ _ _ _ _ _ _) (by have:=HLN.out;omega) (by have:=HLN.out;omega) (by first|exact HBS.out|exact Nat.le_trans HBS.out (Below.size (hbW))) (nuT _ _ _ _ _ _ _ _ _) nuTz ?_;intro v9 w9 hown9 hgr9 hat9;have HO9:=Kh (OwnT.push (HKO.out _ (hbW)) (HXO.out _ (hbW)) z.1 (-(x*z.2)) hz4 hown9 hgr9);have H329:=Kh (show I32 wr w9 from(I32.below (hbW)).trans (I32.grown (K:=NotU32) (fun z=>not_u32 z) (HKO.out _ (hbW)).2 hgr9));have HB9:=Kh (show Below (w.heap.size+1) wr w9 from(Below.mono (hbW) HBS.out).trans (own_below (Below.refl _ _) (HKO.out _ (hbW)).1 hgr9 (Nat.le_refl _) (by first|exact HBS.out|exact Nat.le_trans HBS.out (Below.size (hbW)))));clear hown9 hgr9 hat9)
       |(go_at_call 44;refine(HMU.out _ (show Below wr.heap.size wr _ from(by first|exact(below_drewN' (below_drewN' (Below.refl _ wr) _) _).drew|exact(below_drewN' (Below.refl _ wr) _).drew|exact(Below.refl _ wr).drew))).mono ?_;rintro e w2 ⟨⟨s3,p3,n3,c3,t3,q3,m3,d3,rfl,hz3⟩,hb2⟩;have hbV:Below wr.heap.size wr w2:=Below.trans (show Below wr.heap.size wr _ from(by first|exact(below_drewN' (below_drewN' (Below.refl _ wr) _) _).drew|exact(below_drewN' (Below.refl _ wr) _).drew|exact(Below.refl _ wr).drew)) hb2;have hbB:=hbV.mono HBS.out;have hsB:=Nat.le_trans HBS.out hbV.size)
       |(go_at_call 51;refine(c_qNegQ s3 p3 n3 c3 t3 q3 m3 d3 (x*z.2) _ hz3 HMS.out).mono ?_;rintro e w3 ⟨⟨s4,p4,n4,c4,t4,q4,m4,d4,rfl,hz4⟩,hb3⟩;have hbW:Below wr.heap.size wr w3:=hbV.trans (hb3.mono hbV.size);have hbB:=hbW.mono HBS.out;have hsB:=Nat.le_trans HBS.out hbW.size))
     all_goals go_wp2
     all_goals go_roundw
     all_goals first
      | exact⟨y :: la,lb,lo++[(z.1,-(x*z.2))],HTY.out.next H329.out HB9.out,(HTB.out.next H329.out HB9.out).cut _ hcb,HO9.out,by rw[← HLO.out,mrg_gt x y z la lb hgt,List.append_assoc];rfl,HS.out.right,by simp at hln ⊢;omega,HB.out.trans HB9.out,H32.out.trans H329.out⟩
      |(simp[lenOf])
end Go.Proofs.YtenlbhlllgppmaaGreatDoor
