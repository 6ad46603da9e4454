/- Contracts of the reference's Kronecker symbol and of the character. -/
import Derived.Test.YtijgdhijdfgpfaaGreatDoorZ05
import Derived.Test.YtijgdhijdfgpfaaGreatDoorZ06
set_option maxRecDepth 100000
set_option maxHeartbeats 8000000
namespace Go.Proofs.YtijgdhijdfgpfaaGreatDoor
open Go.RowKit
theorem c_two (a:Int) (w:World):
  Calls Tryz.prog 90 #[.int .i64 a] w fun e w'=>e=.returned (.int .i64 (Pl.two a))∧w=w':=by
 obtain⟨r,hr⟩:∃ r,a % 8=r:=⟨_,rfl⟩
 have ht:Pl.two a=if r=1∨r=7 then 1 else if r=3∨r=5 then -1 else 0:=by rw[← hr];rfl
 have hr0:0≤r∧r<8:=by omega
 obtain⟨hr0,hr1⟩:=hr0
 have HT:=Kh ht
 have HR:=Kh hr
 clear ht hr
 go_enter Tryz.func90,Tryz.ntmps90
 go_wp2_with (go_at_call 125;refine(c_Mod03 _ _ _ (by omega) (by omega)).mono ?_;rw[HR.out];rintro e w' ⟨rfl,rfl⟩)
 all_goals go_ret
 all_goals refine⟨ret_i ?_,rfl⟩
 all_goals rw[HT.out]
 all_goals (simp only[beq_iff_eq,beq_eq_false_iff_ne,ne_eq]at *;split <;> first|omega |(split <;> omega))
theorem c_powR (a:Int) (n m:Nat) (w:World) (hm:0<m) (hm':m≤1000) (hn:n≤1000):
  Calls Tryz.prog 91 #[.int .i64 a,.int .i64 n,.int .i64 m] w fun e w'=>e=.returned (.int .i64 (Pl.powR 64 (1 % m) (a % (m:Int)).toNat n m))∧∃ k,w'=w.drewN k:=by
 obtain⟨x,hx⟩:∃ x:Nat,a % (m:Int)=x:=⟨(a % (m:Int)).toNat,by have:=Int.emod_nonneg a (show(m:Int)≠0 by omega);omega⟩
 have hxm:x<m:=by have:=Int.emod_lt_of_pos a (show(0:Int)<m by omega);omega
 have h1m:1 % m<m:=Nat.mod_lt _ hm
 have h1i:(1:Int) % (m:Int)=((1 % m:Nat):Int):=by rw[Int.natCast_emod];rfl
 rw[hx,Int.toNat_natCast]
 have HX:=Kh hx
 clear hx
 obtain⟨o,ho⟩:∃ o,1 % m=o:=⟨_,rfl⟩
 rw[ho]at h1m h1i ⊢
 have HO:=Kh ho
 clear ho
 go_enter Tryz.func91,Tryz.ntmps91
 go_wp2
 go_quiet ((go_at_call 125;refine Calls.quiet_of_same (?_:Calls _ _ _ _ (fun e w'=>e=.returned (.int .i64 (x:Int))∧w'=_));rw[← HX.out];exact c_Mod03 _ _ _ (by omega) (by omega)))
 go_wp2
 obtain⟨w1,hw1⟩:∃ w1,w.drewN nq=w1:=⟨_,rfl⟩
 have HW:=Kh hw1
 rw[hw1]
 clear hw1
 go_loop [1,7,8] (fun n' o' x'=>∃ (n1 o1 x1 f:Nat),n'=.int .i64 n1∧o'=.int .i64 o1∧x'=.int .i64 x1∧o1<m∧x1<m∧n1≤n∧n1<2 ^ f∧Pl.powR f o1 x1 n1 m=Pl.powR 64 o x n m) (fun n' _ _=>(intOf n').toNat)
 case atStart=>exact⟨n,o,x,64,rfl,val_i h1i,rfl,h1m,hxm,Nat.le_refl _,by omega,rfl⟩
 case round=>
  obtain⟨n1,o1,x1,f,rfl,rfl,rfl,ho1,hx1,hn1,hf,hp⟩:=hrel
  by_cases h0:n1=0
  ·subst h0
   have hpe:Pl.powR 64 o x n m=o1:=by rw[← hp];cases f with|zero=>rfl|succ f=>rfl
   have HPE:=Kh hpe
   clear hp hpe h1i
   go_wp2
   go_ret
   exact⟨ret_i (by rw[HPE.out]),nq,HW.out.symm⟩
  ·obtain⟨g,rfl⟩:∃ g,f=g+1:=⟨f - 1,by have:f≠0:=(by rintro rfl;simp at hf;omega);omega⟩
   rw[Pl.powR,if_pos (by omega)]at hp
   have hg:n1 / 2<2 ^ g:=by rw[Nat.pow_succ]at hf;omega
   have hxx:x1*x1≤1000*1000:=Nat.mul_le_mul (by omega) (by omega)
   have hox:o1*x1≤1000*1000:=Nat.mul_le_mul (by omega) (by omega)
   have h1:(x1:Int)*(x1:Int)=((x1*x1:Nat):Int):=(Int.natCast_mul _ _).symm
   have h2:(o1:Int)*(x1:Int)=((o1*x1:Nat):Int):=(Int.natCast_mul _ _).symm
   have h3:=Nat.mod_lt (x1*x1) hm
   have h4:=Nat.mod_lt (o1*x1) hm
   have h5:((x1*x1:Nat):Int) % (m:Int)=((x1*x1 % m:Nat):Int):=(Int.natCast_emod _ _).symm
   have h6:((o1*x1:Nat):Int) % (m:Int)=((o1*x1 % m:Nat):Int):=(Int.natCast_emod _ _).symm
   generalize x1*x1=xx at *
   generalize o1*x1=ox at *
   generalize xx % m=xm at *
   generalize ox % m=om at *
   have HP:=Kh hp
   have HG:=Kh hg
   clear hp hf hg h1i
   by_cases h7:n1 % 2=1
   ·have h7b:((n1:Int) % 2==1)=true:=by rw[beq_iff_eq];omega
    go_wp2
    go_round
    case rel=>exact⟨n1 / 2,om,xm,g,by go_num,val_i h6,val_i h5,h4,h3,by omega,HG.out,by have:=HP.out;rw[if_pos h7]at this;exact this⟩
    case measure=>simp[intOf];omega
   ·have h7b:((n1:Int) % 2==1)=false:=beq_eq_false_iff_ne.2 (by omega)
    go_wp2
    go_round
    case rel=>exact⟨n1 / 2,o1,xm,g,by go_num,rfl,val_i h5,ho1,h3,by omega,HG.out,by have:=HP.out;rw[if_neg h7]at this;exact this⟩
    case measure=>simp[intOf];omega
def ppc (pe:Nat×Nat):List Value:=[.int .i64 pe.1,.int .i64 pe.2]
theorem ppc_one (pe:Nat×Nat):∀ u∈ppc pe,u.oneCell'=true:=by intro u hu;simp[ppc]at hu;rcases hu with rfl|rfl <;> rfl
theorem ppInfo:(Tryz.prog.info? 154).map (fun i=>(i.zero,i.size,i.bytes))=some (some (.agg #[.int .i64 0,.int .i64 0]),2,16):=by kernel_rfl
theorem flat_snoc {α:Type} (f:α→List Value) (l:List α) (x:α):(l++[x]).flatMap f=l.flatMap f++f x:=by simp
theorem len_snoc {α:Type} (l:List α) (x:α):(l++[x]).length=l.length+1:=by simp
theorem facR_div {f d n:Nat} (h:d*d≤n):Pl.facR (f+1) d n=if 0<(Pl.mult n d n).1 then(d,(Pl.mult n d n).1) :: Pl.facR f (d+1) (Pl.mult n d n).2 else Pl.facR f (d+1) (Pl.mult n d n).2:=by
 rw[Pl.facR,if_pos h]
theorem facR_end {f d n:Nat} (h:¬ d*d≤n):Pl.facR (f+1) d n=if 1<n then [(n,1)]else []:=by
 rw[Pl.facR,if_neg h]
theorem c_Factor03 (n:Nat) (w:World) (hn:0<n) (hn':n<241):
  Calls Tryz.prog 89 #[.int .i64 n] w fun e w'=>(∃ v,e=.returned v∧w'.ownsRow w.heap.size 154 2 v (Pl.facsR n).length ((Pl.facsR n).flatMap ppc))∧Below w.heap.size w w':=by
 have hlen:=Pl.facsR_len n hn'
 go_enter Tryz.func89,Tryz.ntmps89
 go_wp2
 go_loopw [0,3,4] (fun x o y wr=>∃ (m d f:Nat) (done:List (Nat×Nat)),x=.int .i64 m∧y=.int .i64 d∧0<m∧m≤n∧1<d∧d≤n+1∧d+f=n+3∧Pl.facsR n=done++Pl.facR f d m∧wr.ownsRow w.heap.size 154 2 o done.length (done.flatMap ppc)∧Below w.heap.size w wr) (fun _ _ y _=>n+2 - (intOf y).toNat)
 case atStart=>exact⟨n,2,n+1,[],rfl,rfl,hn,Nat.le_refl _,by omega,by omega,by omega,rfl,World.ownsRow_nil _ _ _ _,Below.refl _ _⟩
 case round=>
  obtain⟨m,d,f,done,rfl,rfl,hm0,hm,hd,hdn,hf,hfac,hown,hbel⟩:=hrel
  obtain⟨f,rfl⟩:∃ g,f=g+1:=⟨f - 1,by omega⟩
  obtain⟨pp,hpp⟩:∃ pp:Nat,pp=d*d:=⟨_,rfl⟩
  have hppi:(d:Int)*(d:Int)=(pp:Int):=by rw[hpp];exact(Int.natCast_mul _ _).symm
  have hple:d*2≤pp:=by rw[hpp];exact Nat.mul_le_mul_left _ (by omega)
  have hppb:pp≤241*241:=by rw[hpp];exact Nat.mul_le_mul (by omega) (by omega)
  have hdl:done.length≤4:=by have:=congrArg List.length hfac;rw[List.length_append]at this;omega
  have hsz:=hbel.size
  have HO:=Kh hown
  have HB:=Kh hbel
  have HPP:=Kh hpp
  have HFA:=Kh hfac
  clear hown hbel hpp hfac
  by_cases hle:pp≤m
  ·have hst:Pl.facR (f+1) d m=if 0<(Pl.mult m d m).1 then(d,(Pl.mult m d m).1) :: Pl.facR f (d+1) (Pl.mult m d m).2 else Pl.facR f (d+1) (Pl.mult m d m).2:=facR_div (by rw[← HPP.out];exact hle)
   obtain⟨er,her⟩:∃ er,er=Pl.mult m d m:=⟨_,rfl⟩
   obtain⟨E,R⟩:=er
   have hpos:=Pl.mult_pos m d m hm0 (by omega)
   have hEm:=Pl.mult_le m d m
   rw[← her]at hpos hEm hst
   obtain⟨hR0,hRm⟩:=hpos
   dsimp only at hR0 hRm hEm hst
   have HER:=Kh her
   have HST:=Kh hst
   have hf2:d+1+f=n+3:=by omega
   have HF2:=Kh hf2
   clear her hst hf hf2
   go_wp2
   obtain⟨wo,rfl⟩:∃ wo:World,wo=wr:=⟨_,rfl⟩
   go_loop [0,5] (fun x y=>∃ (m' e' g:Nat),x=.int .i64 m'∧y=.int .i64 e'∧0<m'∧m'≤m∧e'≤E∧m'≤g∧Pl.mult g d m'=(E - e',R)) (fun x _=>(intOf x).toNat)
   case atStart=>exact⟨m,0,m,rfl,rfl,hm0,Nat.le_refl _,Nat.zero_le _,Nat.le_refl _,HER.out.symm⟩
   case round=>
    obtain⟨m',e',g,rfl,rfl,hm0',hmm',hee,hg,hmul⟩:=hrel
    obtain⟨g,rfl⟩:∃ h,g=h+1:=⟨g - 1,by omega⟩
    by_cases hdd:m' % d=0
    ·have hdi:(((m':Int) % (d:Int))==0)=true:=by rw[← Int.natCast_emod,hdd];rfl
     have hdv:(m':Int) / (d:Int)=((m' / d:Nat):Int):=(Int.natCast_ediv _ _).symm
     rw[Pl.mult,if_pos hdd]at hmul
     injection hmul with hmul1 hmul2
     have h1:0<m' / d:=Nat.div_pos (Nat.le_of_dvd hm0' (Nat.dvd_of_mod_eq_zero hdd)) (by omega)
     have h2:m' / d<m':=Nat.div_lt_self hm0' hd
     generalize hdq:m' / d=q at hmul1 hmul2 h1 h2 hdv
     have H1:=Kh hmul1
     have H2:=Kh hmul2
     have hmul3:e'+1≤E:=by omega
     clear hmul1 hmul2 hdd hdq
     go_wp2
     go_round
     case rel=>exact⟨q,e'+1,g,rfl,by go_num,h1,by omega,by omega,by omega,Prod.ext (by have:=H1.out;show(Pl.mult g d q).1=E - (e'+1);omega) H2.out⟩
     case measure=>simp only[intOf];omega
    ·have hdi:(((m':Int) % (d:Int))==0)=false:=by rw[← Int.natCast_emod];exact beq_eq_false_iff_ne.2 (by omega)
     rw[Pl.mult,if_neg hdd]at hmul
     injection hmul with hmul1 hmul2
     subst hmul2
     have heE:e'=E:=by omega
     subst heE
     clear hmul1 hdd
     by_cases he0:0<e'
     ·have hst2:=HST.out
      rw[if_pos he0]at hst2
      have HS:=Kh hst2
      clear hst2
      go_wp2_with (at_builtin;refine wpl_app1 rfl (.tmp 24) (.tmp 28) _ 154 rfl Tryz.underlying151 ppInfo rfl (by decide) w.heap.size done.length _ (done.flatMap ppc) (ppc (d,e')) rfl HO.out rfl rfl (ppc_one _) (by omega) (by omega) hsz ?_;intro v2 w2 hown2 hgr2 hat2;have HO2:=Kh hown2;have HG2:=Kh hgr2;clear hown2 hgr2)
      go_roundw
      case rel=>exact⟨m',d+1,f,done++[(d,e')],rfl,by go_num,hm0',by omega,by omega,by omega,HF2.out,by rw[HFA.out,HS.out,List.append_assoc];rfl,by rw[flat_snoc,len_snoc];exact HO2.out,own_below HB.out HO.out HG2.out (Nat.le_refl _) hsz⟩
      case measure=>simp[intOf];omega
     ·have hst2:=HST.out
      rw[if_neg he0]at hst2
      have HS:=Kh hst2
      clear hst2
      go_wp2
      go_roundw
      case rel=>exact⟨m',d+1,f,done,rfl,by go_num,hm0',by omega,by omega,by omega,HF2.out,by rw[HFA.out,HS.out],HO.out,HB.out⟩
      case measure=>simp[intOf];omega
  ·have hst:=facR_end (f:=f) (d:=d) (n:=m) (by rw[← HPP.out];exact hle)
   by_cases h1:1<m
   ·rw[if_pos h1]at hst
    have HS:=Kh hst
    clear hst
    go_wp2_with (at_builtin;refine wpl_app1 rfl (.tmp 32) (.tmp 35) _ 154 rfl Tryz.underlying151 ppInfo rfl (by decide) w.heap.size done.length _ (done.flatMap ppc) (ppc (m,1)) rfl HO.out rfl rfl (ppc_one _) (by omega) (by omega) hsz ?_;intro v2 w2 hown2 hgr2 hat2;have HO2:=Kh hown2;have HG2:=Kh hgr2;clear hown2 hgr2)
    go_ret
    exact⟨⟨v2,rfl,by rw[HFA.out,HS.out,flat_snoc,len_snoc];exact HO2.out⟩,own_below HB.out HO.out HG2.out (Nat.le_refl _) hsz⟩
   ·rw[if_neg h1]at hst
    have HS:=Kh hst
    clear hst
    go_wp2
    go_ret
    exact⟨⟨_,rfl,by rw[HFA.out,HS.out,List.append_nil];exact HO.out⟩,HB.out⟩
theorem kroFold_snoc (a:Int) (l:List (Nat×Nat)) (q e:Nat):Pl.kroFold a (l++[(q,e)])=Pl.kroFold a l*Pl.ipow (Pl.symR a q) e:=by
 unfold Pl.kroFold;rw[List.foldl_append];rfl
theorem pp_at (l:List (Nat×Nat)) (k:Nat) (h:k<l.length):(l.flatMap ppc)[k*2]?=some (.int .i64 (l[k]).1)∧(l.flatMap ppc)[k*2+1]?=some (.int .i64 (l[k]).2):=by
 induction l generalizing k with
 | nil=>simp at h
 | cons x l ih=>
  cases k with
  | zero=>simp[ppc]
  | succ k=>
   have:=ih k (by simpa using h)
   rw[show(k+1)*2=k*2+2 from by omega]
   simpa [ppc] using this
theorem take_get {α:Type} (l:List α) (k:Nat) (h:k<l.length):l.take (k+1)=l.take k++[l[k]]:=by
 rw[List.take_add_one,List.getElem?_eq_getElem h];rfl
theorem m1_small:(-1:Int)=0∨(-1:Int)=1∨(-1:Int)=-1:=.inr (.inr rfl)
theorem c_Kronecker03 (a:Int) (n:Nat) (w:World) (ha:-120≤a) (ha':a≤120) (hn:0<n) (hn':n<241):
  Calls Tryz.prog 53 #[.int .i64 a,.int .i64 n] w fun e w'=>e=.returned (.int .i64 (Pl.kroR a n))∧Below w.heap.size w w':=by
 obtain⟨L,hL⟩:∃ L,Pl.facsR n=L:=⟨_,rfl⟩
 have hlen:=Pl.facsR_len n hn'
 have hpr:=Pl.facsR_prime n hn'
 have hkr:Pl.kroR a n=Pl.kroFold a L:=by rw[← hL];rfl
 have hsm:∀ k,Pl.kroFold a (L.take k)=0∨Pl.kroFold a (L.take k)=1∨Pl.kroFold a (L.take k)=-1:=fun k=>
  Pl.kroFold_small ha ha' _ (fun pe hpe=>by rw[hL]at hpr;exact(hpr pe (List.mem_of_mem_take hpe)).1)
 rw[hL]at hlen hpr
 have CF:=c_Factor03 n w hn hn'
 rw[hL]at CF
 have HC:=Kh CF
 have HP:=Kh hpr
 have HS:=Kh hsm
 have HK:=Kh hkr
 have HL:=Kh hL
 clear CF hpr hsm hkr hL
 go_enter Tryz.func53,Tryz.ntmps53
 go_wp2_with fail
 refine HC.out.mono ?_
 rintro en w1 ⟨⟨v,rfl,hown⟩,hb1⟩
 rcases own_shape hown with⟨rfl,hl0,_⟩ |⟨g,cap,rfl,hgB,hgS,hcap⟩
 ·have hk0:Pl.kroFold a L=1:=by rw[List.eq_nil_of_length_eq_zero hl0];rfl
  have HK0:=Kh hk0
  have HO:=Kh hown
  clear hown hl0 hk0
  go_wp2
  go_loop [5,7] (fun o i=>o=.int .i64 1∧i=.int .i64 0) (fun _ i=>0)
  case atStart=>exact⟨rfl,rfl⟩
  case round=>
   obtain⟨rfl,rfl⟩:=hrel
   go_wp2
   go_ret
   exact⟨ret_i (by rw[HK.out,HK0.out]),hb1⟩
 ·have HO:=Kh hown
  clear hown
  go_wp2
  go_loopw [5,7] (fun o i wr=>∃ k:Nat,k≤L.length∧i=.int .i64 k∧o=.int .i64 (Pl.kroFold a (L.take k))∧Below w1.heap.size w1 wr) (fun _ i _=>L.length - (intOf i).toNat)
  case atStart=>exact⟨0,Nat.zero_le _,rfl,rfl,Below.refl _ _⟩
  case round=>
   obtain⟨k,hk,rfl,rfl,hbr⟩:=hrel
   by_cases hlt:k<L.length
   ·obtain⟨pe,hpe⟩:∃ pe,L[k]=pe:=⟨_,rfl⟩
    obtain⟨p,e⟩:=pe
    have hmem:(p,e)∈L:=by rw[← hpe];exact List.getElem_mem hlt
    obtain⟨hp1,hp2,hp3,hp4⟩:=HP.out _ hmem
    have hsy:=Pl.symR_small a ha ha' p hp1
    obtain⟨c1,c2⟩:=pp_at L k hlt
    rw[hpe]at c1 c2
    have r1:=(hbr.cell (p:=⟨g,k*2,none⟩) hgS).trans (own_read HO.out c1)
    have r2:=(hbr.cell (p:=⟨g,k*2+1,none⟩) hgS).trans (own_read HO.out c2)
    dsimp only at r1 r2 hp2 hp3 hp4
    have hst:Pl.kroFold a (L.take (k+1))=Pl.kroFold a (L.take k)*Pl.ipow (Pl.symR a p) e:=by rw[take_get L k hlt,hpe,kroFold_snoc]
    have HST:=Kh hst
    have hs:=HS.out k
    generalize Pl.kroFold a (L.take k)=o at hs HST
    generalize hsr:Pl.symR a p=s at hsy HST
    have HSR:=Kh hsr
    have HB:=Kh hbr
    clear c1 c2 hpe hmem hp1 hst hbr hsr
    by_cases h2:2<p
    ·have hsr2:s=if Pl.powR 64 (1 % p) (a % (p:Int)).toNat ((p - 1) / 2) p=p - 1 then -1 else((Pl.powR 64 (1 % p) (a % (p:Int)).toNat ((p - 1) / 2) p:Nat):Int):=by
      rw[← HSR.out,Pl.symR,if_pos h2]
     have CP:=fun w=>c_powR a ((p - 1) / 2) p w (by omega) (by omega) (by omega)
     generalize Pl.powR 64 (1 % p) (a % (p:Int)).toNat ((p - 1) / 2) p=x at hsr2 CP
     have HX:=Kh hsr2
     have HCP:=Kh CP
     have hq:((p:Int) - 1) / 2=(((p - 1) / 2:Nat):Int):=by omega
     clear hsr2 CP
     by_cases hxp:x=p - 1
     ·have hse:s=-1:=by rw[HX.out,if_pos hxp]
      subst hse
      have hxb:((x:Int)==(p:Int) - 1)=true:=by rw[beq_iff_eq];omega
      have HXP:=Kh hxp
      clear hxp
      clear hsy
      go_wp2_with (first |(go_at_call 90;refine(c_two _ _).mono ?_;rintro e w' ⟨rfl,rfl⟩) |(go_at_call 91;refine(HCP.out _).mono ?_;rintro e w' ⟨rfl,nq,rfl⟩))
      obtain⟨wo,hwo⟩:∃ wo:World,wr.drewN nq=wo:=⟨_,rfl⟩
      rw[hwo]
      have q2:wo.cell? ⟨g,k*2+1,none⟩=some (.int .i64 (e:Int)):=by rw[← hwo];exact r2
      have QB:Below w1.heap.size w1 wo:=by rw[← hwo];exact below_drewN' HB.out _
      have HWO:=Kh hwo
      clear hwo r1 r2
      go_loop [5,10] (fun t i=>∃ j:Nat,j≤e∧i=.int .i64 j∧t=.int .i64 (o*Pl.ipow (-1) j)) (fun _ i=>e - (intOf i).toNat)
      case atStart=>exact⟨0,Nat.zero_le _,rfl,val_i (by simp[Pl.ipow])⟩
      case round=>
       obtain⟨j,hj,rfl,rfl⟩:=hrel
       have ht:=Pl.mul_small hs (Pl.ipow_small m1_small j)
       have ht2:=Pl.mul_small ht m1_small
       have hst2:o*Pl.ipow (-1) (j+1)=o*Pl.ipow (-1) j*(-1):=by rw[Pl.ipow,Int.mul_assoc]
       by_cases hje:j<e
       ·generalize htt:o*Pl.ipow (-1) j=t at ht ht2 hst2
        have HT:=Kh htt
        have HS2:=Kh hst2
        have b1:-1≤t*(-1):=by omega
        have b2:t*(-1)≤1:=by omega
        clear htt hst2 ht2
        go_wp2
        go_round
        case rel=>exact⟨j+1,by omega,by go_num,val_i (by rw[HS2.out];omega)⟩
        case measure=>simp[intOf];omega
       ·have hjee:j=e:=by omega
        subst hjee
        have HEQ:o*Pl.ipow (-1) j=Pl.kroFold a (L.take (k+1)):=HST.out.symm
        have HEQ':=Kh HEQ
        clear HEQ hst2 ht2 ht
        go_wp2
        go_roundw
        case rel=>exact⟨k+1,by omega,by go_num,val_i HEQ'.out,QB⟩
        case measure=>simp[intOf];omega
     ·have hse:s=(x:Int):=by rw[HX.out,if_neg hxp]
      subst hse
      have hxb:((x:Int)==(p:Int) - 1)=false:=beq_eq_false_iff_ne.2 (by omega)
      have HSY:=Kh hsy
      clear hsy
      go_wp2_with (first |(go_at_call 90;refine(c_two _ _).mono ?_;rintro e w' ⟨rfl,rfl⟩) |(go_at_call 91;refine(HCP.out _).mono ?_;rintro e w' ⟨rfl,nq,rfl⟩))
      obtain⟨wo,hwo⟩:∃ wo:World,wr.drewN nq=wo:=⟨_,rfl⟩
      rw[hwo]
      have q2:wo.cell? ⟨g,k*2+1,none⟩=some (.int .i64 (e:Int)):=by rw[← hwo];exact r2
      have QB:Below w1.heap.size w1 wo:=by rw[← hwo];exact below_drewN' HB.out _
      have HWO:=Kh hwo
      clear hwo r1 r2
      go_loop [5,10] (fun t i=>∃ j:Nat,j≤e∧i=.int .i64 j∧t=.int .i64 (o*Pl.ipow (x:Int) j)) (fun _ i=>e - (intOf i).toNat)
      case atStart=>exact⟨0,Nat.zero_le _,rfl,val_i (by simp[Pl.ipow])⟩
      case round=>
       obtain⟨j,hj,rfl,rfl⟩:=hrel
       have ht:=Pl.mul_small hs (Pl.ipow_small HSY.out j)
       have ht2:=Pl.mul_small ht HSY.out
       have hst2:o*Pl.ipow (x:Int) (j+1)=o*Pl.ipow (x:Int) j*(x:Int):=by rw[Pl.ipow,Int.mul_assoc]
       by_cases hje:j<e
       ·generalize htt:o*Pl.ipow (x:Int) j=t at ht ht2 hst2
        have HT:=Kh htt
        have HS2:=Kh hst2
        have b1:-1≤t*(x:Int):=by omega
        have b2:t*(x:Int)≤1:=by omega
        clear htt hst2 ht2
        go_wp2
        go_round
        case rel=>exact⟨j+1,by omega,by go_num,val_i HS2.out.symm⟩
        case measure=>simp[intOf];omega
       ·have hjee:j=e:=by omega
        subst hjee
        have HEQ:o*Pl.ipow (x:Int) j=Pl.kroFold a (L.take (k+1)):=HST.out.symm
        have HEQ':=Kh HEQ
        clear HEQ hst2 ht2 ht
        go_wp2
        go_roundw
        case rel=>exact⟨k+1,by omega,by go_num,val_i HEQ'.out,QB⟩
        case measure=>simp[intOf];omega
    ·have hse:Pl.two a=s:=by rw[← HSR.out,Pl.symR,if_neg h2]
     have HSE:=Kh hse
     clear hse
     have HSY:=Kh hsy
     clear hsy
     go_wp2_with (go_at_call 90;refine(c_two _ _).mono ?_;rw[HSE.out];rintro e w' ⟨rfl,rfl⟩)
     obtain⟨wo,hwo⟩:∃ wo:World,wr=wo:=⟨_,rfl⟩
     rw[hwo]
     have q2:wo.cell? ⟨g,k*2+1,none⟩=some (.int .i64 (e:Int)):=by rw[← hwo];exact r2
     have QB:Below w1.heap.size w1 wo:=by rw[← hwo];exact HB.out
     have HWO:=Kh hwo
     clear hwo r1 r2
     go_loop [5,10] (fun t i=>∃ j:Nat,j≤e∧i=.int .i64 j∧t=.int .i64 (o*Pl.ipow (s) j)) (fun _ i=>e - (intOf i).toNat)
     case atStart=>exact⟨0,Nat.zero_le _,rfl,val_i (by simp[Pl.ipow])⟩
     case round=>
      obtain⟨j,hj,rfl,rfl⟩:=hrel
      have ht:=Pl.mul_small hs (Pl.ipow_small HSY.out j)
      have ht2:=Pl.mul_small ht HSY.out
      have hst2:o*Pl.ipow (s) (j+1)=o*Pl.ipow (s) j*(s):=by rw[Pl.ipow,Int.mul_assoc]
      by_cases hje:j<e
      ·generalize htt:o*Pl.ipow (s) j=t at ht ht2 hst2
       have HT:=Kh htt
       have HS2:=Kh hst2
       have b1:-1≤t*(s):=by omega
       have b2:t*(s)≤1:=by omega
       clear htt hst2 ht2
       go_wp2
       go_round
       case rel=>exact⟨j+1,by omega,by go_num,val_i HS2.out.symm⟩
       case measure=>simp[intOf];omega
      ·have hjee:j=e:=by omega
       subst hjee
       have HEQ:o*Pl.ipow (s) j=Pl.kroFold a (L.take (k+1)):=HST.out.symm
       have HEQ':=Kh HEQ
       clear HEQ hst2 ht2 ht
       go_wp2
       go_roundw
       case rel=>exact⟨k+1,by omega,by go_num,val_i HEQ'.out,QB⟩
       case measure=>simp[intOf];omega
   ·have hke:k=L.length:=by omega
    subst hke
    have HE:Pl.kroFold a (L.take L.length)=Pl.kroFold a L:=by rw[List.take_length]
    have HE':=Kh HE
    clear HE
    go_wp2
    go_ret
    exact⟨ret_i (by rw[HK.out,HE'.out]),hb1.trans (hbr.mono (by have:=hb1.size;omega))⟩
theorem c_ChiI (N:Nat) (a k D:Int) (w:World) (hN:0<N) (hN':N≤120) (hD:-120≤D) (hD':D≤120):
  Calls Tryz.prog 25 #[spec N k D,.int .i64 a] w fun e w'=>e=.returned (.int .i64 (Pl.chiR N D (a % N).toNat))∧Below w.heap.size w w':=by
 obtain⟨r,hr⟩:∃ r,(a % N).toNat=r:=⟨_,rfl⟩
 have hri:a % (N:Int)=(r:Int):=by rw[← hr];exact(Int.toNat_of_nonneg (Int.emod_nonneg _ (by omega))).symm
 have hrN:r<N:=by have:=Int.emod_lt_of_pos a (show(0:Int)<N by omega);omega
 rw[hr]
 have hch:Pl.chiR N D r=if Nat.gcd r N≠1 then 0 else Pl.kroR D (r+N):=by unfold Pl.chiR;rw[Nat.mod_eq_of_lt hrN]
 have HR:=Kh hri
 have hg:((Int.gcd (r:Int) (N:Int):Nat):Int)=((Nat.gcd r N:Nat):Int):=rfl
 obtain⟨g,hgg⟩:∃ g,Nat.gcd r N=g:=⟨_,rfl⟩
 have hC1:g=1→Pl.chiR N D r=Pl.kroR D (r+N):=fun h=>by rw[hch,if_neg (by rw[hgg];omega)]
 have hC0:g≠1→Pl.chiR N D r=0:=fun h=>by rw[hch,if_pos (by rw[hgg];omega)]
 rw[hgg]at hg
 have HG:=Kh hg
 have HC1:=Kh hC1
 have HC0:=Kh hC0
 clear hr hri hch hg hgg hC1 hC0
 by_cases h1:g=1
 ·have h1b:((g:Int) != 1)=false:=by rw[bne_eq_false_iff_eq];omega
  have hc3:Pl.chiR N D r=Pl.kroR D (r+N):=HC1.out h1
  obtain⟨m,hm⟩:∃ m,r+N=m:=⟨_,rfl⟩
  rw[hm]at hc3
  have hsum:(r:Int)+(N:Int)=(m:Int):=by omega
  have hm1:0<m∧m<241:=by omega
  obtain⟨hm1,hm2⟩:=hm1
  have HC3:=Kh hc3
  clear hc3 h1 hm
  go_enter Tryz.func25,Tryz.ntmps25
  go_wp2_with (go_at_call 51;refine(c_Mod _ _ _ (by omega) (by omega)).mono ?_;rw[HR.out];rintro e w' ⟨rfl,rfl⟩)
  refine(c_gcd40 _ _ _ (by omega) (by omega) (by omega) (by omega)).mono ?_
  rw[HG.out]
  rintro e w1 ⟨rfl,hq⟩
  have B1:Blk w1 w.heap.size 40 #[.int .i64 N,.int .i64 k,.int .i64 D]:=by obtain⟨nq,rfl⟩:=hq;exact(Blk.new w _ _).drewN_ nq
  have W1:Below w.heap.size w w1:=by obtain⟨nq,rfl⟩:=hq;exact below_drewN' ((Below.refl _ _).alloc (Nat.le_refl _) _) nq
  have d0:w1.cell? ⟨w.heap.size,0,none⟩=some (.int .i64 N):=B1.at_ 0 rfl
  have d2:w1.cell? ⟨w.heap.size,2,none⟩=some (.int .i64 D):=B1.at_ 2 rfl
  have HB1:=Kh B1
  clear hq B1
  go_wp2_with (go_at_call 53;refine(c_Kronecker03 D m _ hD hD' hm1 hm2).mono ?_;rw[← HC3.out];rintro e w2 ⟨rfl,hb2⟩)
  go_ret
  exact⟨rfl,W1.trans (hb2.mono W1.size)⟩
 ·have h1b:((g:Int) != 1)=true:=by rw[bne_iff_ne];omega
  have hc3:Pl.chiR N D r=0:=HC0.out h1
  have HC3:=Kh hc3
  clear hc3 h1
  go_enter Tryz.func25,Tryz.ntmps25
  go_wp2_with (go_at_call 51;refine(c_Mod _ _ _ (by omega) (by omega)).mono ?_;rw[HR.out];rintro e w' ⟨rfl,rfl⟩)
  refine(c_gcd40 _ _ _ (by omega) (by omega) (by omega) (by omega)).mono ?_
  rw[HG.out]
  rintro e w1 ⟨rfl,hq⟩
  have B1:Blk w1 w.heap.size 40 #[.int .i64 N,.int .i64 k,.int .i64 D]:=by obtain⟨nq,rfl⟩:=hq;exact(Blk.new w _ _).drewN_ nq
  have W1:Below w.heap.size w w1:=by obtain⟨nq,rfl⟩:=hq;exact below_drewN' ((Below.refl _ _).alloc (Nat.le_refl _) _) nq
  have d0:w1.cell? ⟨w.heap.size,0,none⟩=some (.int .i64 N):=B1.at_ 0 rfl
  have d2:w1.cell? ⟨w.heap.size,2,none⟩=some (.int .i64 D):=B1.at_ 2 rfl
  have HB1:=Kh B1
  clear hq B1
  go_wp2
  go_ret
  exact⟨ret_i HC3.out.symm,W1⟩
end Go.Proofs.YtijgdhijdfgpfaaGreatDoor
namespace Go.Proofs.YtijgdhijdfgpfaaGreatDoor.Pl
abbrev Cos:=(Nat×Nat×Nat)×Int
theorem check_ok {N k D:Int} (h:check N k D=0):(1≤N∧N≤120)∧(2≤k∧k≤24)∧(-120≤D∧D≤120)∧fund D=true∧N % D=0:=by
 unfold check at h
 by_cases h1:N<1∨120<N∨k<2∨24<k∨D < -120∨120<D
 ·rw[if_pos h1]at h;cases h
 ·rw[if_neg h1]at h
  by_cases h2:fund D=false
  ·rw[if_pos h2]at h;cases h
  ·rw[if_neg h2]at h
   by_cases h3:N % D≠0
   ·rw[if_pos h3]at h;cases h
   ·refine⟨by omega,by omega,by omega,by simpa using h2,by omega⟩
end Go.Proofs.YtijgdhijdfgpfaaGreatDoor.Pl
