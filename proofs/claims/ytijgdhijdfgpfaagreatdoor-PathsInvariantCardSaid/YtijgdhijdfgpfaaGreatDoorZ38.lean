/- contfrac at the document's example: the expansions, the convergents and the chain from 0 to infinity. -/
import Derived.Test.YtijgdhijdfgpfaaGreatDoorZ22
import Derived.Test.YtijgdhijdfgpfaaGreatDoorZ30
import Derived.Test.YtijgdhijdfgpfaaGreatDoorZ27
import Derived.Deep.Upon
import Derived.Test.YtijgdhijdfgpfaaGreatDoorZ13
import Derived.Test.YtijgdhijdfgpfaaGreatDoorZ37
import Derived.Test.YtijgdhijdfgpfaaGreatDoorZ35
set_option linter.unusedSimpArgs false
set_option maxRecDepth 100000
set_option maxHeartbeats 8000000
namespace Go.Proofs.YtijgdhijdfgpfaaGreatDoor
open Go.RowKit
theorem c_inC (n:Int) (w:World):Calls Tryz.prog 154 #[.int .i64 n] w fun e w'=>e=.returned (.bool (inE n))∧w'=w:=by
 go_enter Tryz.func154,Tryz.ntmps154
 go_wp2
 all_goals (go_ret;exact⟨ret_b (by rw[Bool.eq_iff_iff];simp[inE];omega),rfl⟩)
theorem cuspInfo:(Tryz.prog.info? 24).map (fun i=>(i.zero,i.size,i.bytes))=some (some (.agg #[.int .i64 0,.int .i64 0]),2,16):=by kernel_rfl
theorem int_i64 (n:Int):NotU32 (.int .i64 n):=fun _ h=>by cases h
theorem nz_int:∀ u∈(Value.int .i64 0).cells.toList,NotU32 u:=by
 intro u hu
 simp[Value.cells]at hu
 subst hu
 exact int_i64 _
theorem nz_cusp:∀ u∈(Value.agg #[.int .i64 0,.int .i64 0]).cells.toList,NotU32 u:=by
 intro u hu
 simp[Value.cells]at hu
 subst hu
 exact int_i64 _
theorem two_i64 (a b:Int):∀ u∈[Value.int .i64 a,.int .i64 b],NotU32 u:=by
 intro u hu
 simp at hu
 rcases hu with rfl|rfl <;> exact int_i64 _
theorem two_one (a b:Int):∀ u∈[Value.int .i64 a,.int .i64 b],u.oneCell'=true:=by
 intro u hu
 simp at hu
 rcases hu with rfl|rfl <;> rfl
theorem one_i64 (a:Int):∀ u∈[Value.int .i64 a],NotU32 u:=by
 intro u hu
 simp at hu
 subst hu;exact int_i64 _
theorem one_one (a:Int):∀ u∈[Value.int .i64 a],u.oneCell'=true:=by
 intro u hu
 simp at hu
 subst hu;rfl
theorem c_Expand10 (w:World):
  Calls Tryz.prog 122 #[.agg #[.int .i64 1,.int .i64 0]] w fun e w'=>e=.returned (.tuple #[.slice none 0 0,.int .i64 5])∧Below w.heap.size w w':=by
 go_enter Tryz.func122,Tryz.ntmps122
 go_wp2_with fail
 obtain⟨w0,hw0,X0,hb0⟩:=bx1 w #[.int .i64 1,.int .i64 0] 24
 rw[hw0]
 refine(c_CheckCusp 1 0 w0 (by omega) (by omega) (by omega) (by omega)).mono ?_
 rintro e w1 ⟨rfl,hb1⟩
 rw[show cuspE 1 0=0 by decide]
 have X1:=X0.below_ hb1 X0.lt
 have x0:=X1.at_ 0 rfl
 have x1:=X1.at_ 1 rfl
 have HB1:=Kh (hb0.trans (hb1.mono hb0.size))
 clear hw0 X0 hb0 hb1 X1
 go_wp2
 (first|go_ret2|go_ret)
 exact⟨rfl,HB1.out⟩
theorem c_Expand01 (w:World):
  Calls Tryz.prog 122 #[.agg #[.int .i64 0,.int .i64 1]] w fun e w'=>(∃ v,e=.returned (.tuple #[v,.int .i64 0])∧OwnK NotU32 w' w.heap.size 3 1 v 1 [.int .i64 0])∧Below w.heap.size w w':=by
 have HN:=Kh (OwnK.nil NotU32 w w.heap.size 3 1)
 go_enter Tryz.func122,Tryz.ntmps122
 go_wp2_with fail
 obtain⟨w0,hw0,X0,hb0⟩:=bx1 w #[.int .i64 0,.int .i64 1] 24
 rw[hw0]
 refine(c_CheckCusp 0 1 w0 (by omega) (by omega) (by omega) (by omega)).mono ?_
 rintro e w1 ⟨rfl,hb1⟩
 rw[show cuspE 0 1=0 by decide]
 have X1:=X0.below_ hb1 X0.lt
 have x0:=X1.at_ 0 rfl
 have x1:=X1.at_ 1 rfl
 have HB1:=Kh (hb0.trans (hb1.mono hb0.size))
 clear hw0 X0 hb0 hb1 X1
 go_upto_region 7 with(fail)
 go_quiet (fail)
 have HB2:=Kh (show Below w.heap.size w (w1.drewN nq)from below_drewN' HB1.out nq)
 generalize w1.drewN nq=w2 at HB2 ⊢
 have HN2:=Kh (show OwnK NotU32 w2 w.heap.size 3 1 (.slice none 0 0) 0 []from OwnK.nil NotU32 w2 w.heap.size 3 1)
 clear x0 x1 HB1 HN
 go_wp2_with fail
 go_loopw [5,6,7] (fun vl p q wr=>(p=.int .i64 0∧q=.int .i64 1∧vl=.slice none 0 0∧wr=w2)∨(p=.int .i64 1∧q=.int .i64 0∧OwnK NotU32 wr w.heap.size 3 1 vl 1 [.int .i64 0]∧Below w.heap.size w wr)) (fun _ _ q _=>(intOf q).toNat)
 case atStart=>exact .inl ⟨rfl,rfl,rfl,rfl⟩
 case round=>
  rcases hrel with⟨rfl,rfl,rfl,rfl⟩ |⟨rfl,rfl,hown,hbw⟩
  ·have hsz:=HB2.out.size
   go_wp2_with (at_builtin;refine wpl_app2 NotU32 rfl (.tmp 31) (.tmp 37) _ 3 rfl Tryz.underlying94 intInfo rfl (by decide) w.heap.size 0 (.slice none 0 0) [] [.int .i64 0] rfl HN2.out rfl rfl (one_one 0) (by omega) (by omega) hsz (one_i64 0) nz_int ?_;intro v3 w3 hown3 hgr3 hat3;have HO3:=Kh hown3;have HB3:=Kh (own_below HB2.out HN2.out.1 hgr3 (Nat.le_refl _) hsz);clear hown3 hgr3 hat3)
   go_roundw
   case rel=>exact .inr ⟨rfl,rfl,HO3.out,HB3.out⟩
   case measure=>simp[intOf]
  ·have HO:=Kh hown
   have HB:=Kh hbw
   clear hown hbw
   go_wp2
   (first|go_ret2|go_ret)
   exact⟨⟨_,rfl,HO.out⟩,HB.out⟩
theorem c_Convergents0 (g cap:Nat) (w:World) (hc:w.cell? ⟨g,0,none⟩=some (.int .i64 0)):
  Calls Tryz.prog 123 #[.slice (some ⟨g,0,none⟩) 1 cap] w fun e w'=>(∃ v,e=.returned (.tuple #[v,.int .i64 0])∧OwnK NotU32 w' w.heap.size 24 2 v 1 [.int .i64 0,.int .i64 1])∧Below w.heap.size w w':=by
 have HC:=Kh hc
 clear hc
 go_enter Tryz.func123,Tryz.ntmps123
 go_wp2_with fail
 go_loopw [19] (fun ii wr=>(ii=.int .i64 0∨ii=.int .i64 1)∧wr=w) (fun ii _=>1 - (intOf ii).toNat)
 case atStart=>exact⟨.inl rfl,rfl⟩
 case round=>
  obtain⟨hii,hwr⟩:=hrel
  obtain rfl:w=wr:=hwr.symm
  rcases hii with rfl|rfl
  ·have hc:=HC.out
   go_wp2_with fail
   refine(c_inC 0 w).mono ?_
   rintro e w' ⟨rfl,hw'⟩
   obtain rfl:w=w':=hw'.symm
   rw[show inE 0=true from rfl]
   go_wp2
   go_roundw
   case rel=>exact⟨.inr rfl,trivial⟩
   case measure=>simp[intOf]
  ·go_wp2_with fail
   obtain⟨w2,hw2,XA,XB,hb2⟩:=bx2 w #[.int .i64 0,.int .i64 1] 24 #[.int .i64 1,.int .i64 0] 24
   rw[hw2]
   have hc2:=cell_next hb2 HC.out
   obtain⟨ga,hga⟩:∃ x,w.heap.size=x:=⟨_,rfl⟩
   obtain⟨gb,hgb⟩:∃ x,w.heap.size+1=x:=⟨_,rfl⟩
   have HGA:=Kh hga
   have HGB:=Kh hgb
   rw[hgb]at XB ⊢
   rw[hga]at XA ⊢
   have HA:=Kh XA
   have HBB:=Kh XB
   have HB2:=Kh hb2
   have HC2:=Kh hc2
   clear hw2 XA XB hb2 hc2 hga hgb
   go_loopw [6,40] (fun vl ii wr=>(ii=.int .i64 0∧vl=.slice none 0 0∧wr=w2)∨(ii=.int .i64 1∧OwnK NotU32 wr w.heap.size 24 2 vl 1 [.int .i64 0,.int .i64 1]∧Below w.heap.size w wr)) (fun _ ii _=>1 - (intOf ii).toNat)
   case atStart=>exact .inl ⟨rfl,rfl,rfl⟩
   case round=>
    rcases hrel with⟨rfl,rfl,rfl⟩ |⟨rfl,hown,hbw⟩
    ·have hc2:=HC2.out
     have a0:=HA.out.at_ 0 rfl
     have a1:=HA.out.at_ 1 rfl
     have b0:=HBB.out.at_ 0 rfl
     have b1:=HBB.out.at_ 1 rfl
     have fa0:=HA.out.free_ 0
     have fa1:=HA.out.free_ 1
     have fb0:=HBB.out.free_ 0
     have fb1:=HBB.out.free_ 1
     have hab:ga≠gb:=by have:=HGA.out;have:=HGB.out;omega
     go_upto_region 16 with(fail)
     go_region
     have XA:=(HA.out.set_ 0 (.int .i64 1)).set_ 1 (.int .i64 0)
     have hgaw:w.heap.size≤ga:=Nat.le_of_eq HGA.out
     have hgbw:w.heap.size≤gb:=by have:=HGB.out;omega
     have XB:=((((HBB.out.far_ (p:=⟨ga,0,none⟩) (fun e=>hab e.symm) (.int .i64 1)).far_ (p:=⟨ga,1,none⟩) (fun e=>hab e.symm) (.int .i64 0)).set_ 0 (.int .i64 0)).set_ 1 (.int .i64 1)).drew_
     obtain⟨ws,hws⟩:∃ ws,((((wr.setCell ⟨ga,0,none⟩ (.int .i64 1)).setCell ⟨ga,1,none⟩ (.int .i64 0)).setCell ⟨gb,0,none⟩ (.int .i64 0)).setCell ⟨gb,1,none⟩ (.int .i64 1)).drew=ws:=⟨_,rfl⟩
     have HBS:=Kh (show Below w.heap.size w ws from hws▸((((HB2.out.setCell (p:=⟨ga,0,none⟩) hgaw _).setCell (p:=⟨ga,1,none⟩) hgaw _).setCell (p:=⟨gb,0,none⟩) hgbw _).setCell (p:=⟨gb,1,none⟩) hgbw _).drew)
     replace XB:=hws▸XB
     rw[hws]
     have c0:=XB.at_ 0 rfl
     have c1:=XB.at_ 1 rfl
     have HN:=Kh (OwnK.nil NotU32 ws w.heap.size 24 2)
     have hsz:=HBS.out.size
     clear hws XA XB hgaw hgbw hc2 a0 a1 b0 b1 fa0 fa1 fb0 fb1 hab HC2 HBB HA HB2
     go_wp2_with fail
     refine(c_inC 0 ws).mono ?_
     rintro e w' ⟨rfl,hw'⟩
     obtain rfl:ws=w':=hw'.symm
     rw[show inE 0=true from rfl]
     go_wp2_with fail
     refine(c_inC 1 ws).mono ?_
     rintro e w' ⟨rfl,hw'⟩
     obtain rfl:ws=w':=hw'.symm
     rw[show inE 1=true from rfl]
     go_wp2_with (at_builtin;refine wpl_app2 NotU32 rfl (.tmp 70) (.tmp 72) _ 24 rfl Tryz.underlying72 cuspInfo rfl (by decide) w.heap.size 0 (.slice none 0 0) [] [.int .i64 0,.int .i64 1] rfl HN.out rfl rfl (two_one 0 1) (by omega) (by omega) hsz (two_i64 0 1) nz_cusp ?_;intro v3 w3 hown3 hgr3 hat3;have HO3:=Kh hown3;have HB3:=Kh (own_below HBS.out HN.out.1 hgr3 (Nat.le_refl _) hsz);clear hown3 hgr3 hat3)
     go_roundw
     case rel=>exact .inr ⟨rfl,HO3.out,HB3.out⟩
     case measure=>simp[intOf]
    ·have HO:=Kh hown
     have HB:=Kh hbw
     clear hown hbw
     go_wp2
     (first|go_ret2|go_ret)
     exact⟨⟨_,rfl,HO.out⟩,HB.out⟩
theorem own_at {K:Value→Prop} {w:World} {B E sz n:Nat} {v:Value} {xs:List Value} (h:OwnK K w B E sz v n xs) (hn:0<n):∃ g cap,v=.slice (some ⟨g,0,none⟩) n cap∧n≤cap∧cap≤9223372036854775807∧B≤g∧g<w.heap.size∧(∀ i,w.frozen? ⟨g,i,none⟩=false)∧∀ (j:Nat) u,xs[j]?=some u→w.cell? ⟨g,j,none⟩=some u:=by
 rcases h.1.2 with⟨_,e2⟩ |⟨g,cap,cs,e1,hB,hg,hc,hcm,hcs,_⟩
 ·omega
 ·have hs:=h.2 g (by rw[e1];rfl)
  subst e1
  exact⟨g,cap,rfl,hc,by simp only[maxLen]at hcm;omega,hB,hs.1,fun i=>Blk.free_ hg i,fun j u hu=>own_read h.1 hu⟩
theorem own_lit {w:World} {B g:Nat} (X:Blk w g 24 #[.int .i64 1,.int .i64 0]) (hB:B≤g):OwnK NotU32 w B 24 2 (.slice (some ⟨g,0,none⟩) 1 1) 1 [.int .i64 1,.int .i64 0]:=by
 refine⟨⟨rfl,.inr ⟨g,1,#[.int .i64 1,.int .i64 0],rfl,hB,X,Nat.le_refl _,by decide,rfl,rfl⟩⟩,fun g' e=>?_⟩
 have e2:g=g':=by simpa [Value.ownBlock] using e
 subst e2
 exact Stk.of X (by intro v hv;simp at hv;rcases hv with rfl|rfl <;> exact int_i64 _)
theorem c_Path10 (w:World):
  Calls Tryz.prog 83 #[.agg #[.int .i64 1,.int .i64 0]] w fun e w'=>(∃ v,e=.returned (.tuple #[v,.int .i64 0])∧OwnK NotU32 w' w.heap.size 24 2 v 1 [.int .i64 1,.int .i64 0])∧Below w.heap.size w w':=by
 go_enter Tryz.func83,Tryz.ntmps83
 go_wp2_with fail
 obtain⟨w2,hw2,_,XB,hb2⟩:=bx2 w #[.int .i64 1,.int .i64 0] 24 #[.int .i64 1,.int .i64 0] 24
 rw[hw2]
 refine(c_Expand10 w2).mono ?_
 rintro e w3 ⟨rfl,hb3⟩
 have HO:=Kh (own_lit (B:=w.heap.size) (XB.below_ hb3 XB.lt) (by omega))
 have HB:=Kh (hb2.trans (hb3.mono hb2.size))
 clear hw2 XB hb2 hb3
 go_wp2
 (first|go_ret2|go_ret)
 exact⟨⟨_,rfl,HO.out⟩,HB.out⟩
theorem c_Path01 (w:World):
  Calls Tryz.prog 83 #[.agg #[.int .i64 0,.int .i64 1]] w fun e w'=>(∃ v,e=.returned (.tuple #[v,.int .i64 0])∧OwnK NotU32 w' w.heap.size 24 2 v 2 [.int .i64 1,.int .i64 0,.int .i64 0,.int .i64 1])∧Below w.heap.size w w':=by
 go_enter Tryz.func83,Tryz.ntmps83
 go_wp2_with fail
 obtain⟨w2,hw2,_,XB,hb2⟩:=bx2 w #[.int .i64 0,.int .i64 1] 24 #[.int .i64 1,.int .i64 0] 24
 rw[hw2]
 refine(c_Expand01 w2).mono ?_
 rintro e w3 ⟨⟨v,rfl,hown⟩,hb3⟩
 obtain⟨g,cap,rfl,_,_,_,_,_,hcell⟩:=own_at hown (by omega)
 have HC:=Kh (hcell 0 _ rfl)
 have HO:=Kh (own_lit (B:=w.heap.size) (XB.below_ hb3 XB.lt) (by omega))
 have HB:=Kh (hb2.trans (hb3.mono hb2.size))
 clear hw2 XB hb2 hb3 hown hcell
 go_wp2_with fail
 refine(c_Convergents0 g cap w3 HC.out).mono ?_
 rintro e w4 ⟨⟨v4,rfl,hown4⟩,hb4⟩
 obtain⟨g4,cap4,rfl,_,_,_,_,_,hcell4⟩:=own_at hown4 (by omega)
 have HC4:=Kh (show ∀ (j:Nat) u,[Value.int .i64 0,.int .i64 1][j]?=some u→w4.cell? ⟨g4,j,none⟩=some u from hcell4)
 have HO4:=Kh (HO.out.keep hb4)
 have HB4:=bt HB hb4
 have hsz:=HB4.out.size
 clear hown4 hcell4 hb4 HO HB HC
 go_wp2_with (at_builtin;refine wpl_appN NotU32 rfl (.tmp 27) (.tmp 28) _ 24 rfl Tryz.underlying72 cuspInfo rfl (by decide) w.heap.size 1 1 g4 cap4 _ [.int .i64 1,.int .i64 0] [.int .i64 0,.int .i64 1] rfl HO4.out rfl rfl HC4.out (two_one 0 1) (by omega) (by omega) (by omega) hsz (two_i64 0 1) nz_cusp ?_;intro v5 w5 hown5 hgr5 hat5;have HO5:=Kh hown5;have HB5:=Kh (own_below HB4.out HO4.out.1 hgr5 (Nat.le_refl _) hsz);clear hown5 hgr5 hat5)
 (first|go_ret2|go_ret)
 exact⟨⟨_,rfl,HO5.out⟩,HB5.out⟩
theorem tuE {P:Program} {md:Region.Mode} {ops:Array Oper} {Q:Exit→Act→World→Prop} {S:World→Prop} (i:Nat) {oi:Oper} {n d:Nat} {listed:Array Bool} {a a':Act} {w:World} (h:wpE P md ops Q S n (listed.setIfInBounds i true) a' w)
  (hi:ops[i]?=some oi:=by rfl) (hS:S w:=by assumption) (hw:Region.wanted oi (yielded ops a.tmps)=false:=by rfl)
  (hd:oi.dst=some d:=by rfl) (ha:a.put (some d) undef=a':=by(try simp only[Act.put,List.setIfInBounds_toArray,List.set_cons_zero,List.set_cons_succ]);rfl)
  (hs:Region.noSelect ops=true:=by kernel_rfl) (hf:Region.free md ops listed i=true:=by kernel_rfl) (hr:(Region.ready md ops listed).contains i=true:=by kernel_rfl) (hk:waitE md ops listed i=true:=by kernel_rfl)
  (hQ:∀ c a w,Q (.panic c) (a.put oi.dst undef) w→Q (.panic c) a w:=by exact fun _ _ _ h=>h):wpE P md ops Q S (n+1) listed a w:=by
 subst ha
 rw[← hd]at h
 obtain⟨k,ok,h1,h2,h3,h4⟩:=waitE_spec hk
 exact wpE.first hi h1 h2 h4 (Region.noSelect_spec hs) hQ n listed a w (Region.free_spec hi hf) h3 (by simpa using hr) (.inr ⟨hw,rfl⟩) hS h
theorem wpl_none {P:Program} {W:World} {ops:Array Oper} {rest:List Oper} {o:Oper} {a:Act} {Q:Exit→Act→World→Prop} (hgd:o.guard=none) (s x:Operand) (t E:TypeId)
  (ho:o.op=.call { callee:=.builtin .append,args:=#[s,x],argTypes:=#[t,t] }) {z:Value} {sz bytes:Nat} (hU:P.underlying t=some (.slice E))
  (hinfo:(P.info? E).map (fun i=>(i.zero,i.size,i.bytes))=some (some z,sz,bytes)) (q p:Option Addr) (n k c:Nat) (hle:n≤k)
  (hs:a.eval s=.slice q n k) (hx:a.eval x=.slice p 0 c)
  (h:wpList P ops Q rest (a.put o.dst (.slice q n k)) W):
  wpList P ops Q (o :: rest) a W:=by
 obtain⟨i0,hi,hz0,hz1,hz2⟩:=info_parts hinfo
 have hsrc:Src P i0.size t (.slice p 0 c) 0 [] W:=by
  cases p with
  | none=>exact Src.ofNil W hU c
  | some a=>exact Src.ofSlice W hU a 0 c [] (by simp) (fun j u h=>by simp at h) (fun u h=>by cases h)
 have hr:=run_append_nothing (P:=P) W t t o.type E i0 hU hi q n k hle (.slice p 0 c) hsrc
 refine wpList_plain hgd fun K' hK'=>?_
 unfold Oper.wp execOp
 simp only[ho,resolve,invoke,builtin,Sem.run_bind,Sem.run_pure,Result.andThen_ok,List.map_toArray,List.map_cons,List.map_nil,hs,hx,hr]
 exact hK' _ _ h
theorem c_Reverse2 (g cap:Nat) (a0 a1 a2 a3:Int) (w:World) (h0:w.cell? ⟨g,0,none⟩=some (.int .i64 a0)) (h1:w.cell? ⟨g,1,none⟩=some (.int .i64 a1)) (h2:w.cell? ⟨g,2,none⟩=some (.int .i64 a2)) (h3:w.cell? ⟨g,3,none⟩=some (.int .i64 a3)) (hf:∀ i,w.frozen? ⟨g,i,none⟩=false):
  Calls Tryz.prog 84 #[.slice (some ⟨g,0,none⟩) 2 cap] w fun e w'=>(∃ v,e=.returned v)∧w'.cell? ⟨g,0,none⟩=some (.int .i64 a2)∧w'.cell? ⟨g,1,none⟩=some (.int .i64 a3)∧w'.cell? ⟨g,2,none⟩=some (.int .i64 a0)∧w'.cell? ⟨g,3,none⟩=some (.int .i64 a1)∧∀ B,B≤g→Below B w w':=by
 have f0:=hf 0
 have f1:=hf 1
 have f2:=hf 2
 have f3:=hf 3
 clear hf
 go_enter Tryz.func84,Tryz.ntmps84
 go_wp2_with fail
 go_loopw [2,3] (fun i j wr=>(i=.int .i64 0∧j=.int .i64 1∧wr=w)∨(i=.int .i64 1∧j=.int .i64 0∧wr.cell? ⟨g,0,none⟩=some (.int .i64 a2)∧wr.cell? ⟨g,1,none⟩=some (.int .i64 a3)∧wr.cell? ⟨g,2,none⟩=some (.int .i64 a0)∧wr.cell? ⟨g,3,none⟩=some (.int .i64 a1)∧∀ B,B≤g→Below B w wr)) (fun _ j _=>(intOf j).toNat)
 case atStart=>exact .inl ⟨rfl,rfl,rfl⟩
 case round=>
  rcases hrel with⟨rfl,rfl,hwr⟩ |⟨rfl,rfl,r0,r1,r2,r3,hb⟩
  ·obtain rfl:w=wr:=hwr.symm
   have HC:=Kh (show ∀ u0 u1 u2 u3,((((w.setCell ⟨g,0,none⟩ u0).setCell ⟨g,1,none⟩ u1).setCell ⟨g,2,none⟩ u2).setCell ⟨g,3,none⟩ u3).cell? ⟨g,0,none⟩=some u0∧((((w.setCell ⟨g,0,none⟩ u0).setCell ⟨g,1,none⟩ u1).setCell ⟨g,2,none⟩ u2).setCell ⟨g,3,none⟩ u3).cell? ⟨g,1,none⟩=some u1∧((((w.setCell ⟨g,0,none⟩ u0).setCell ⟨g,1,none⟩ u1).setCell ⟨g,2,none⟩ u2).setCell ⟨g,3,none⟩ u3).cell? ⟨g,2,none⟩=some u2∧((((w.setCell ⟨g,0,none⟩ u0).setCell ⟨g,1,none⟩ u1).setCell ⟨g,2,none⟩ u2).setCell ⟨g,3,none⟩ u3).cell? ⟨g,3,none⟩=some u3 from fun u0 u1 u2 u3=>by
    have k0:(w.cell? ⟨g,0,none⟩).isSome=true:=by rw[h0];rfl
    have k1:(w.cell? ⟨g,1,none⟩).isSome=true:=by rw[h1];rfl
    have k2:(w.cell? ⟨g,2,none⟩).isSome=true:=by rw[h2];rfl
    have k3:(w.cell? ⟨g,3,none⟩).isSome=true:=by rw[h3];rfl
    refine⟨?_,?_,?_,?_⟩
    ·rw[World.cell?_setCell_other _ _ _ _ (by simp),World.cell?_setCell_other _ _ _ _ (by simp),World.cell?_setCell_other _ _ _ _ (by simp)];exact World.cell?_setCell_same' _ _ _ k0
    ·rw[World.cell?_setCell_other _ _ _ _ (by simp),World.cell?_setCell_other _ _ _ _ (by simp)];exact World.cell?_setCell_same' _ _ _ (some_put k1)
    ·rw[World.cell?_setCell_other _ _ _ _ (by simp)];exact World.cell?_setCell_same' _ _ _ (some_put (some_put k2))
    ·exact World.cell?_setCell_same' _ _ _ (some_put (some_put (some_put k3))))
   go_upto_region 3 with(fail)
   go_region
   go_wp2
   go_roundw
   case rel=>
    obtain⟨c0,c1,c2,c3⟩:=HC.out (.int .i64 a2) (.int .i64 a3) (.int .i64 a0) (.int .i64 a1)
    exact .inr ⟨rfl,rfl,c0,c1,c2,c3,fun B hB=>(((((Below.refl _ _).setCell (p:=⟨g,0,none⟩) hB _).setCell (p:=⟨g,1,none⟩) hB _).setCell (p:=⟨g,2,none⟩) hB _).setCell (p:=⟨g,3,none⟩) hB _).drew⟩
   case measure=>simp[intOf]
  ·have HB:=Kh hb
   clear hb
   go_wp2
   go_end0
   exact⟨⟨_,rfl⟩,r0,r1,r2,r3,HB.out⟩
theorem c_Chain01 (w:World):
  Calls Tryz.prog 46 #[.agg #[.int .i64 0,.int .i64 1],.agg #[.int .i64 1,.int .i64 0]] w fun e w'=>(∃ g cap,e=.returned (.tuple #[.slice (some ⟨g,0,none⟩) 2 cap,.int .i64 0])∧g<w'.heap.size∧w'.cell? ⟨g,0,none⟩=some (.int .i64 0)∧w'.cell? ⟨g,1,none⟩=some (.int .i64 1)∧w'.cell? ⟨g,2,none⟩=some (.int .i64 1)∧w'.cell? ⟨g,3,none⟩=some (.int .i64 0))∧Below w.heap.size w w':=by
 go_enter Tryz.func46,Tryz.ntmps46
 go_wp2_with fail
 obtain⟨w0,hw0,_,XB,hb0⟩:=bx2 w #[.int .i64 0,.int .i64 1] 24 #[.int .i64 1,.int .i64 0] 24
 rw[hw0]
 refine(c_Path01 w0).mono ?_
 rintro e w1 ⟨⟨v1,rfl,hown1⟩,hb1⟩
 have XB1:=XB.below_ hb1 XB.lt
 have x0:=XB1.at_ 0 rfl
 have x1:=XB1.at_ 1 rfl
 obtain⟨g,cap,rfl,hn1,hn2,hg0,hg1,hf1,hc1⟩:=own_at hown1 (by omega)
 have HC1:=Kh hc1
 have HF1:=Kh hf1
 have HG:=Kh (show w.heap.size≤g from Nat.le_trans hb0.size hg0)
 have HB1:=Kh (hb0.trans (hb1.mono hb0.size))
 clear hw0 XB hb0 hb1 XB1 hown1 hf1 hc1 hg0
 go_wp2_with fail
 refine(c_Path10 w1).mono ?_
 rintro e w2 ⟨⟨v2,rfl,hown2⟩,hb2⟩
 obtain⟨g2,cap2,rfl,hm1,hm2,hg2,hg3,_,hc2⟩:=own_at hown2 (by omega)
 have HGG:=Kh (show g<g2 by omega)
 have d0:=cell_next hb2 (HC1.out 0 _ rfl)
 have d1:=cell_next hb2 (HC1.out 1 _ rfl)
 have d2:=cell_next hb2 (HC1.out 2 _ rfl)
 have d3:=cell_next hb2 (HC1.out 3 _ rfl)
 have HF2:=Kh (show ∀ i,w2.frozen? ⟨g,i,none⟩=false from fun i=>(World.frozen?_of_block (a:=⟨g,i,none⟩) (hb2.block g hg1)).trans (HF1.out i))
 have e0:=hc2 0 _ rfl
 have e1:=hc2 1 _ rfl
 have HB2:=bt HB1 hb2
 have HGL:=Kh (Nat.lt_of_lt_of_le hg1 hb2.size)
 have HD:=Kh (And.intro d0 (And.intro d1 (And.intro d2 d3)))
 clear x0 x1 hown2 hb2 hc2 HC1 HF1 HB1 hg1 hg2 hg3
 go_wp2_with fail
 go_loopw [9] (fun ii wr=>(ii=.int .i64 0∨ii=.int .i64 1)∧Below w2.heap.size w2 wr) (fun ii _=>1 - (intOf ii).toNat)
 case atStart=>exact⟨.inl rfl,Below.refl _ _⟩
 case round=>
  obtain⟨hii,hbm⟩:=hrel
  obtain⟨w3,rfl⟩:∃ w3:World,w3=wr:=⟨_,rfl⟩
  have HBM:=Kh hbm
  clear hbm
  have d0:=cell_next HBM.out d0
  have d1:=cell_next HBM.out d1
  have d2:=cell_next HBM.out d2
  have d3:=cell_next HBM.out d3
  have e0:=cell_next HBM.out e0
  have e1:=cell_next HBM.out e1
  rcases hii with rfl|rfl
  ·go_wp2_with fail
   go_quiet (fail)
   go_wp2
   go_roundw
   case rel=>exact⟨.inr rfl,below_drewN' HBM.out _⟩
   case measure=>simp[intOf]
  ·clear d0 d1 d2 d3 e0 e1
   go_upto_region 8 with(fail)
   refine rgB (fun _=>True) (fun _ _=>trivial) (fun _ hT=>?_)
   refine tkE 0 ?_;refine tkE 1 ?_;refine tkE 2 ?_;refine tkE 3 ?_;refine tkE 4 ?_;refine tkE 5 ?_;refine tkE 6 ?_;refine tkE 7 ?_
   refine tuE 8 ?_;refine tuE 9 ?_;refine tuE 10 ?_;refine tuE 11 ?_;refine tuE 12 ?_;refine tuE 13 ?_;refine tuE 14 ?_;refine tuE 15 ?_;refine tuE 16 ?_
   refine laE 17 rfl (fun K hK=>?_)
   go_simp
   refine hK.out _ _ ?_
   clear hK K
   (try simp only[Act.put,lsa,lsz,lss])
   have HBN:=Kh (show Below w2.heap.size w2 w3.drew from HBM.out.drew)
   generalize w3.drew=w4 at HBN ⊢
   have d0:=cell_next HBN.out (HD.out.1)
   have d1:=cell_next HBN.out (HD.out.2.1)
   have d2:=cell_next HBN.out (HD.out.2.2.1)
   have d3:=cell_next HBN.out (HD.out.2.2.2)
   have hcz:¬ (cap=0):=by omega
   have HWN:=Kh (HB2.out.trans (HBN.out.mono HB2.out.size))
   have HF4:=Kh (show ∀ i,w4.frozen? ⟨g,i,none⟩=false from fun i=>(World.frozen?_of_block (a:=⟨g,i,none⟩) (HBN.out.block g HGL.out)).trans (HF2.out i))
   clear HBM HBN HF2
   simp only[show min (2:Int) 1=1 by decide,Int.lt_irrefl,decide_false,if_false]
   go_wp2_with fail
   refine(c_Reverse2 g cap 1 0 0 1 w4 d0 d1 d2 d3 HF4.out).mono ?_
   rintro e w5 ⟨⟨v,rfl⟩,c0,c1,c2,c3,hb5⟩
   have HB5:=Kh (HWN.out.trans ((hb5 w.heap.size HG.out)))
   have hg5:g<w5.heap.size:=World.block_lt_of_cell? w5 _ c0
   clear hb5 d0 d1 d2 d3
   go_wp2_with (at_builtin;refine wpl_none rfl (.tmp 52) (.tmp 55) _ 24 rfl Tryz.underlying72 cuspInfo _ _ 2 cap _ hn1 rfl rfl ?_)
   all_goals (first|go_ret2|go_ret)
   all_goals exact⟨⟨g,⟨cap,rfl⟩,hg5,c0,c1,c2,c3⟩,HB5.out⟩
end Go.Proofs.YtijgdhijdfgpfaaGreatDoor
namespace Go.Proofs.YtijgdhijdfgpfaaGreatDoor
open Go.RowKit Eli
theorem ex_plc:plcOf 1 1 0 1=(0,1):=by decide +kernel
theorem ex_pts:(pts 1 (1*1)).length=1:=by decide +kernel
theorem ex_stp:stpM (0,1) (1,0)=((1,0),(0,1)):=by decide
theorem ex_mv:∀ k,k<3→∀ i,i<3→mv k 1 0 0 1 2 i=if k=i then 1 else 0:=by decide +kernel
theorem ex_sub (Q:Nat→Rat) (i:Nat) (hi:i<3):subst Q 2 1 0 0 1 3 i=Q i:=by
 unfold subst
 rw[sumQ_single hi (fun k hk hne=>by rw[ex_mv k hk i hi,if_neg hne];exact Rat.mul_zero _),ex_mv i hi i hi,if_pos rfl]
 exact Rat.mul_one _
theorem ex_val (Q:Nat→Rat) (X:Nat→Nat→Rat) (h0:Q 0=0) (h1:Q 1=0) (h2:Q 2=1) (hX:X 2 2=1):stC Q 1 2 1 X [(0,1),(1,0)] 2 1=1:=by
 have hT:∀ i,i<3→stT Q 1 2 1 X (0,1) (1,0) 2 i=Q i*X i 2:=fun i hi=>by
  unfold stT
  rw[ex_stp]
  dsimp only
  rw[ex_plc,ex_pts,ex_sub Q i hi]
  dsimp only
  rw[Nat.mul_one,Nat.add_zero]
  have:((1:Int):Rat)=1:=rfl
  rw[this,Rat.mul_one]
 show(0:Rat)+stS Q 1 2 1 X (0,1) (1,0) 2 3=1
 show(0:Rat)+(((0+stT Q 1 2 1 X (0,1) (1,0) 2 0)+stT Q 1 2 1 X (0,1) (1,0) 2 1)+stT Q 1 2 1 X (0,1) (1,0) 2 2)=1
 rw[hT 0 (by omega),hT 1 (by omega),hT 2 (by omega),h0,h1,h2,hX]
 grind
theorem QL.r4 {x y:Nat→Int} {w:World} {v:Value} {n:Nat} (h:QL (fun j=>IsR (x j) (y j)) w v n):QL (fun j=>IsB 4000 (x j) (y j)) w v n:=by
 rcases h with h |⟨g,o,c,h1,h2,h3⟩
 ·exact .inl h
 ·exact .inr ⟨g,o,c,h1,h2,fun j hj=>by
   obtain⟨s,p,k,c',t,q,m,d,e0,e1,e2,e3,hx⟩:=h3 j hj
   exact⟨s,p,k,c',t,q,m,d,e0,e1,e2,e3,hx.1,hx.2.1,Nat.le_trans hx.2.2.1 (by decide),Nat.le_trans hx.2.2.2 (by decide)⟩⟩
theorem c_Coord01 (M B:Nat) (X:Nat→Nat→Rat) (gv cv:Nat) (x y:Nat→Int) (w:World) (hT:Tab w) (hmod:ModAt w M B 1 4 1 [2] 3 X) (hB:B≤w.heap.size) (hX:∀ j f,j<3→f∈[2]→hq (X j f)≤10000)
  (hp:QL (fun j=>IsR (x j) (y j)) w (.slice (some ⟨gv,0,none⟩) 3 cv) 3) (h0:Rat.divInt (x 0) (y 0)=0) (h1:Rat.divInt (x 1) (y 1)=0) (h2:Rat.divInt (x 2) (y 2)=1) (hX2:X 2 2=1):
  Calls Tryz.prog 18 #[.pointer (some ⟨M,0,none⟩),.agg #[.slice (some ⟨gv,0,none⟩) 3 cv,.int .i64 0,.int .i64 1,.int .i64 1,.int .i64 0]] w fun e w'=>(∃ g,e=.returned (.tuple #[.slice (some ⟨g,0,none⟩) 1 1,.int .i64 0])∧QRow (fun _=>IsQ 1) w' g 1 1)∧Below w.heap.size w w':=by
 have HSP:=Kh (fun W (hb:Below w.heap.size w W)=>c_Spec M B 1 4 1 [2] 3 X W (hmod.keep hB hb) (Nat.le_trans hB hb.size))
 have HCO:=Kh (fun W gc cc (hb:Below w.heap.size w W) (hg:gc<W.heap.size) (c0:W.cell? ⟨gc,0,none⟩=some (.int .i64 0)) (c1:W.cell? ⟨gc,1,none⟩=some (.int .i64 1)) (c2:W.cell? ⟨gc,2,none⟩=some (.int .i64 1)) (c3:W.cell? ⟨gc,3,none⟩=some (.int .i64 0))=>c_collect M B 1 2 1 [2] 3 X [(0,1),(1,0)] gc 0 cc (.slice (some ⟨gv,0,none⟩) 3 cv) x y W (hT.below hb) aw_check aw_cnt (by decide) (hmod.keep hB hb) (Nat.le_trans hB hb.size) hX (hp.r4.keep (fun _=>IsB.solid _ _ _) hb) hg (by decide)
  (fun k c hk=>by
   rcases k with _|_|k
   ·injection hk with hk;subst hk;exact⟨c0,c1,by decide⟩
   ·injection hk with hk;subst hk;exact⟨c2,c3,by decide⟩
   ·simp at hk)
  (fun k a b ha hb=>by
   rcases k with _|k
   ·injection ha with ha
    injection hb with hb
    subst ha
    subst hb
    refine⟨.inl (by decide),?_⟩
    rw[ex_stp]
    dsimp only
    rw[ex_plc]
    decide
   ·simp at hb))
 have HV:=Kh (ex_val (fun i=>Rat.divInt (x i) (y i)) X h0 h1 h2 hX2)
 clear hT hmod hB hX hp h0 h1 h2 hX2
 go_enter Tryz.func18,Tryz.ntmps18
 go_upto_region 3 with(fail)
 obtain⟨w0,hw0,X0,hb0⟩:=bx1 w #[.slice (some ⟨gv,0,none⟩) 3 cv,.int .i64 0,.int .i64 1,.int .i64 1,.int .i64 0] 26
 rw[hw0]
 obtain⟨gp,hgp⟩:∃ x,w.heap.size=x:=⟨_,rfl⟩
 have HGP:=Kh hgp
 rw[hgp]at X0 ⊢
 have HX0:=Kh X0
 have HB0:=Kh hb0
 have x0:=X0.at_ 0 rfl
 have hfd:∀ W:World,(Instr.field 40 (.agg #[.int .i64 1,.int .i64 4,.int .i64 1]) 1).run Tryz.prog W=.ok (.int .i64 4) W:=fun W=>by kernel_rfl
 clear hw0 X0 hb0 hgp
 refine rgB (fun W=>W.cell? ⟨gp,0,none⟩=some (.slice (some ⟨gv,0,none⟩) 3 cv)) (fun W hb=>cnx hb x0) (fun HSE hHeld0=>?_)
 refine tkE 0 ?_;refine tkE 1 ?_;refine tkE 2 ?_;refine tkE 3 ?_
 refine stE 4 rfl (fun K hK=>?_)
 focus(go_simp;refine(HSP.out _ HB0.out.drew).mono ?_;rintro e w1 ⟨rfl,hb1⟩;have HB1:=Kh ((Below.refl _ w0).drew.trans hb1:Below w0.heap.size w0 w1);clear hb1;(first|with_reducible refine hK.out _ _ ?_ (fun hHeld1=>?_) |(go_wp2_with fail;with_reducible refine hK.out _ _ ?_ (fun hHeld1=>?_))))
 focus((try dsimp only);exact HSE.out _ HB1.out)
 focus(clear hK K;(try simp only[Act.put,lsa,lsz,lss]))
 refine tkE 5 ?_;refine tkE 6 ?_
 refine laE 7 rfl (fun K hK=>?_)
 go_simp
 refine hK.out _ _ ?_
 clear hK K
 (try simp only[Act.put,lsa,lsz,lss])
 have HX1:=Kh (HX0.out.below_ HB1.out HX0.out.lt)
 have HW1:=Kh (HB0.out.trans (HB1.out.mono HB0.out.size))
 clear x0 HSE HB1 hHeld0 hHeld1 HSP HX0 HB0
 have x0:=HX1.out.at_ 0 rfl
 have x1:=HX1.out.at_ 1 rfl
 have x2:=HX1.out.at_ 2 rfl
 have x3:=HX1.out.at_ 3 rfl
 have x4:=HX1.out.at_ 4 rfl
 go_wp2_with fail
 refine(c_CheckCusp 0 1 w1 (by omega) (by omega) (by omega) (by omega)).mono ?_
 rintro e w2 ⟨rfl,hb2⟩
 rw[show cuspE 0 1=0 by decide]
 have HX2:=Kh (bk HX1 hb2)
 have HW2:=bt HW1 hb2
 clear x0 x1 x2 x3 x4 hb2 HX1 HW1
 have x0:=HX2.out.at_ 0 rfl
 have x1:=HX2.out.at_ 1 rfl
 have x2:=HX2.out.at_ 2 rfl
 have x3:=HX2.out.at_ 3 rfl
 have x4:=HX2.out.at_ 4 rfl
 go_wp2_with fail
 refine(c_CheckCusp 1 0 w2 (by omega) (by omega) (by omega) (by omega)).mono ?_
 rintro e w3 ⟨rfl,hb3⟩
 rw[show cuspE 1 0=0 by decide]
 have HX3:=Kh (bk HX2 hb3)
 have HW3:=bt HW2 hb3
 clear x0 x1 x2 x3 x4 hb3 HX2 HW2
 have x0:=HX3.out.at_ 0 rfl
 have x1:=HX3.out.at_ 1 rfl
 have x2:=HX3.out.at_ 2 rfl
 have x3:=HX3.out.at_ 3 rfl
 have x4:=HX3.out.at_ 4 rfl
 go_wp2_with fail
 refine(c_Chain01 w3).mono ?_
 rintro e w4 ⟨⟨gc,cc,rfl,hg,c0,c1,c2,c3⟩,hb4⟩
 have HX4:=Kh (bk HX3 hb4)
 have HW4:=bt HW3 hb4
 have HC4:=Kh (HCO.out w4 gc cc HW4.out hg c0 c1 c2 c3)
 clear x0 x1 x2 x3 x4 hb4 HX3 HW3 c0 c1 c2 c3 hg HCO
 have x0:=HX4.out.at_ 0 rfl
 go_wp2_with fail
 refine HC4.out.mono ?_
 rintro e w5 ⟨⟨g,rfl,_,hrow⟩,hb5⟩
 have HR:=Kh (show QRow (fun _=>IsQ 1) w5 g 1 1 from QRow.congr hrow (fun j hj=>by
  have hj':j<1:=hj
  obtain rfl:j=0:=by omega
  show IsQ (stC (fun i=>Rat.divInt (x i) (y i)) 1 2 1 X [(0,1),(1,0)] 2 1)=_
  rw[HV.out]))
 have HB5:=bt HW4 hb5
 clear hrow hb5 x0
 go_wp2
 (first|go_ret2|go_ret)
 exact⟨⟨g,rfl,HR.out⟩,HB5.out⟩
end Go.Proofs.YtijgdhijdfgpfaaGreatDoor
