/- Contract of bigint's times. -/
import Derived.Test.YtenlbhlllgppmaaGreatDoorK09
import Derived.Lib.BitFns
import Derived.Lib.Strings
import Derived.Lib.Slices
import Derived.Lib.Small
import Derived.Lib.Walk
set_option maxRecDepth 100000
namespace Go.Proofs.YtenlbhlllgppmaaGreatDoor
open Go.RowKit
def RetT (w':World) (e:Ending) (K t:Nat):Prop:=∃ k,k≤K∧RetD w' e k t
theorem RetN.d {w':World} {e:Ending} {v:Nat} (h:RetN w' e v):RetD w' e (nd v) v:=by
 obtain⟨p,c,he,hn⟩:=h
 exact⟨p,c,dg v,he,hn,vf_nd v⟩
theorem RetD.t {w':World} {e:Ending} {k v K:Nat} (h:RetD w' e k v) (hk:k≤K):RetT w' e K v:=⟨k,hk,h⟩
def TimesAt (w:World) (g K k t:Nat):Prop:=∃ r,Row w g K r∧vf r k=t∧∀ l,k≤l→l<K→r l=0
def InnerAt (w:World) (g K k i j t cy:Nat):Prop:=∃ r,Row w g K r∧vf r k+4294967296 ^ (i+j)*cy=t∧∀ l,k≤l→l<K→r l=0
theorem TimesAt.cell {w:World} {g K k t:Nat} (h:TimesAt w g K k t) {i:Nat} (hi:i<K):∃ u,w.cell? ⟨g,i,none⟩=some u:=by
 obtain⟨r,hr,_⟩:=h
 exact⟨_,hr.1.cell hi⟩
theorem inner_alg {vr P cy V Q x vb s cz o R y vu:Nat} (h1:vr+P*cy=V+Q*(x*vb)) (hP:P=Q*R) (h2:x*y+o+cy=s+4294967296*cz) (h3:vu+P*o=vr+P*s):vu+(4294967296*P)*cz=V+Q*(x*(vb+R*y)):=by
 have h4:P*(x*y)+P*o+P*cy=P*s+P*(4294967296*cz):=by rw[← Nat.mul_add,← Nat.mul_add,← Nat.mul_add,h2]
 have h5:Q*(x*(vb+R*y))=Q*(x*vb)+P*(x*y):=by rw[hP];simp only[Nat.mul_add,Nat.mul_comm,Nat.mul_left_comm]
 have h6:(4294967296*P)*cz=P*(4294967296*cz):=by simp only[Nat.mul_comm,Nat.mul_left_comm]
 rw[h5,h6]
 omega
theorem inner_step {w:World} {g K k i j V x cy o y s cz:Nat} {b r:Nat→Nat} (hrow:Row w g K r) (hval:vf r k+4294967296 ^ (i+j)*cy=V+4294967296 ^ i*(x*vf b j)) (hz:∀ l,k≤l→l<K→r l=0)
  (hk:i+j<k) (ho:r (i+j)=o) (hy:b j=y) (hs:(x*y+o+cy) % 4294967296=s) (hcz:(x*y+o+cy) / 4294967296=cz):
  InnerAt (w.setCell ⟨g,i+j,none⟩ (.int .u32 s)) g K k i (j+1) (V+4294967296 ^ i*(x*vf b (j+1))) cz:=by
 refine⟨_,hrow.set (i+j) s (by omega),?_,fun l h1 h2=>by unfold upd;rw[if_neg (by omega)];exact hz l h1 h2⟩
 have h3:=vf_upd (a:=r) (k:=i+j) (d:=s) (n:=k) hk
 rw[ho]at h3
 rw[vf,hy,← Nat.add_assoc i j 1,pow_succ']
 exact inner_alg hval (Nat.pow_add _ _ _) (by omega) h3
theorem inner_end {w:World} {g K i m V x cy:Nat} {a b:Nat→Nat} (h:InnerAt w g K (i+m) i m (V+4294967296 ^ i*(x*vf b m)) cy) (hV:V=vf a i*vf b m) (hx:a i=x) (hcy:cy<4294967296):
  TimesAt (w.setCell ⟨g,i+m,none⟩ (.int .u32 cy)) g K (i+1+m) (vf a (i+1)*vf b m):=by
 obtain⟨r,hrow,hval,hz⟩:=h
 refine⟨_,hrow.set (i+m) cy hcy,?_,fun l h1 h2=>by unfold upd;rw[if_neg (by omega)];exact hz l (by omega) h2⟩
 rw[show i+1+m=(i+m)+1 from by omega,vf,vf_upd_ge (Nat.le_refl _),show upd r (i+m) cy (i+m)=cy from by simp[upd],hval,hV,vf,hx,Nat.add_mul,Nat.mul_assoc]
theorem c_times (p:Option Addr) (c n:Nat) (a:Nat→Nat) (q:Option Addr) (d m:Nat) (b:Nat→Nat) (w:World) (h1:Dg w p c n a) (h2:Dg w q d m b) (hn:n≤35184372088830) (hm:m≤35184372088830):
  Calls Tryz.prog 133 #[.slice p n c,.slice q m d] w fun e w'=>RetT w' e (n+m) (vf a n*vf b m)∧Below w.heap.size w w':=by
 have H1:=Kh h1
 have H2:=Kh h2
 clear h1 h2
 by_cases h0:n=0∨m=0
 ·have hT:vf a n*vf b m=0:=by rcases h0 with rfl|rfl <;> simp[vf]
  rw[hT]
  have hnil:RetT w (.returned (.slice none 0 0)) (n+m) 0:=⟨0,Nat.zero_le _,none,0,fun _=>0,rfl,⟨Nat.le_refl _,fun j hj=>absurd hj (Nat.not_lt_zero _),.inl rfl⟩,rfl⟩
  have HN:=Kh hnil
  clear hnil hT
  by_cases hn0:n=0
  ·subst hn0
   clear h0
   go_enter Tryz.func133,Tryz.ntmps133
   go_wp2
   go_ret
   exact⟨HN.out,Below.refl _ _⟩
  ·have hm0:m=0:=h0.resolve_left hn0
   subst hm0
   have hnb:((n:Int)==0)=false:=beq_eq_false_iff_ne.2 (by omega)
   clear h0 hn0
   go_enter Tryz.func133,Tryz.ntmps133
   go_wp2
   go_ret
   exact⟨HN.out,Below.refl _ _⟩
 ·have hn0:0<n:=by omega
  have hm0:0<m:=by omega
  have hnb:((n:Int)==0)=false:=beq_eq_false_iff_ne.2 (by omega)
  have hmb:((m:Int)==0)=false:=beq_eq_false_iff_ne.2 (by omega)
  clear h0
  obtain⟨g1,o1,rfl,hg1,hc1⟩:=H1.out.head hn0
  obtain⟨g2,o2,rfl,hg2,hc2⟩:=H2.out.head hm0
  by_cases hone:n=1∧m=1
  ·obtain⟨rfl,rfl⟩:=hone
   have l0:=H1.out.lt 0 (by omega)
   have m0:=H2.out.lt 0 (by omega)
   have c0:=hc1 0 (by omega)
   have d0:=hc2 0 (by omega)
   obtain⟨x,hx⟩:∃ x,a 0=x:=⟨_,rfl⟩
   obtain⟨y,hy⟩:∃ y,b 0=y:=⟨_,rfl⟩
   have hT:vf a 1*vf b 1=x*y:=by simp[vf,hx,hy]
   rw[hx]at c0 l0
   rw[hy]at d0 m0
   rw[Nat.add_zero]at c0 d0
   obtain⟨pp,hpp⟩:∃ pp,x*y=pp:=⟨_,rfl⟩
   have hppi:(x:Int)*(y:Int)=(pp:Nat):=by rw[← hpp];exact(Int.natCast_mul _ _).symm
   have hle:pp≤4294967295*4294967295:=by rw[← hpp];exact Nat.mul_le_mul (by omega) (by omega)
   have hppl:(pp:Int)<18446744073709551616:=by omega
   have hnd:nd pp≤1+1:=nd_le.2 (by omega)
   have hxi:(x:Int)<4294967296:=by omega
   have hyi:(y:Int)<4294967296:=by omega
   rw[hT,hpp]
   have hw:=fun w=>c_wide pp w (by omega)
   have HW:=Kh hw
   have HND:=Kh hnd
   clear hw hT hpp hx hy l0 m0 hle hnd hc1 hc2 hn0 hm0
   go_enter Tryz.func133,Tryz.ntmps133
   go_wp2
   go_still_tail 9,(by kernel_rfl)
   change wpList _ _ _ _ _ w.drew
   generalize hwd:w.drew=wd
   have hbd:Below w.heap.size w wd:=by rw[← hwd];exact(Below.refl _ _).drew
   have HBD:=Kh hbd
   clear hwd hbd
   go_wp2_with (go_at_call 132;rw[hppi];refine(HW.out _).mono ?_;rintro e w' ⟨⟨p,c',rfl,hnm⟩,hb⟩)
   go_ret
   have hR:RetN w' (.returned (.slice p (nd pp) c')) pp:=⟨p,c',rfl,hnm⟩
   exact⟨RetD.t hR.d HND.out,HBD.out.trans (hb.mono HBD.out.size)⟩
  ·have hmk:∀ w,(Instr.makeSlice 82 (.int .i64 ((n:Int)+(m:Int))) (.int .i64 ((n:Int)+(m:Int)))).run Tryz.prog w=.ok (.slice (some ⟨w.heap.size,0,none⟩) (n+m) (n+m)) (w.alloc (.cells (madeCells #[.int .u32 0] (n+m)) 200)):=make32 (n+m) (by omega)
   have hrow:=Row.made w (n+m)
   have HR:=Kh hrow
   have HO:=Kh hone
   clear hrow hone hc1 hc2
   go_enter Tryz.func133,Tryz.ntmps133
   go_upto_region 3 with(fail)
   go_cut [27] (fun v wc=>wc=w∧v=.bool false)
   case first=>
    by_cases hn1:(n:Int)=1
    ·have hmb1:((m:Int)==1)=false:=beq_eq_false_iff_ne.2 (by have:=HO.out;omega)
     have hnb1:((n:Int)==1)=true:=by rw[beq_iff_eq];exact hn1
     clear hn1
     go_wp2
     go_meet
     case rel=>exact⟨rfl,rfl⟩
    ·have hnb1:((n:Int)==1)=false:=beq_eq_false_iff_ne.2 hn1
     clear hn1
     go_wp2
     go_meet
     case rel=>exact⟨rfl,rfl⟩
   case rest=>
    obtain⟨rfl,rfl⟩:=hcut
    go_wp2
    obtain⟨wb,hwb⟩:∃ wb,wc.alloc (.cells (madeCells #[.int .u32 0] (n+m)) 200)=wb:=⟨_,rfl⟩
    rw[hwb]
    have hbel:Below wc.heap.size wc wb:=by rw[← hwb];exact(Below.refl _ _).alloc (Nat.le_refl _) _
    have hstart:TimesAt wb wc.heap.size (n+m) (0+m) (vf a 0*vf b m):=by
     rw[hwb]at HR
     refine⟨_,HR.out,?_,fun _ _ _=>rfl⟩
     rw[vf_zero (fun _ _=>rfl)];simp[vf]
    have HB0:=Kh hbel
    have HS0:=Kh hstart
    obtain⟨G,hG⟩:∃ G,wc.heap.size=G:=⟨_,rfl⟩
    have HG:=Kh hG
    have hg1':g1<G:=by omega
    have hg2':g2<G:=by omega
    rw[hG]at HB0 HS0
    rw[hG]
    clear hwb hbel hstart hmk HR hG hg1 hg2 HO
    go_loopw [46] (fun v wr=>∃ i:Nat,i≤n∧v=.int .i64 i∧TimesAt wr G (n+m) (i+m) (vf a i*vf b m)∧Below G wc wr) (fun v _=>n - (intOf v).toNat)
    case atStart=>exact⟨0,Nat.zero_le _,rfl,HS0.out,HB0.out⟩
    case round=>
     obtain⟨i,hi,rfl,hT,hb⟩:=hrel
     have HB:=Kh hb
     have HT:=Kh hT
     clear hb hT
     by_cases hlt:(i:Int)<(n:Int)
     ·have c1:wr.cell? ⟨g1,o1+i,none⟩=_:=(HB.out.cell (p:=⟨g1,o1+i,none⟩) hg1').trans ((H1.out.head hn0).elim fun g h=>h.elim fun o h=>by
       obtain⟨e,_,hc⟩:=h
       injection e with e;injection e with e1 e2;subst e1;subst e2
       exact hc i (by omega))
      have hxl:((a i:Nat):Int)<4294967296:=by have:=H1.out.lt i (by omega);omega
      obtain⟨x,hx⟩:∃ x,a i=x:=⟨_,rfl⟩
      rw[hx]at c1 hxl
      have HX:=Kh hx
      clear hx
      go_wp2
      obtain⟨wo,rfl⟩:∃ wo:World,wo=wr:=⟨_,rfl⟩
      obtain⟨V,hV⟩:∃ V,vf a i*vf b m=V:=⟨_,rfl⟩
      have HV:=Kh hV
      rw[hV]at HT
      clear hV
      go_loopw [8,53] (fun v8 v53 wr=>∃ j cy:Nat,j≤m∧v8=.int .u64 cy∧v53=.int .i64 j∧(cy:Int)<4294967296∧InnerAt wr G (n+m) (i+m) i j (V+4294967296 ^ i*(x*vf b j)) cy∧Below G wc wr) (fun _ v53 _=>m - (intOf v53).toNat)
      case atStart=>exact⟨0,0,Nat.zero_le _,rfl,rfl,by decide,by
       obtain⟨r,hr,hv,hz⟩:=HT.out
       exact⟨r,hr,by simp[vf,hv],hz⟩,HB.out⟩
      case round=>
       obtain⟨j,cy,hj,rfl,rfl,hcy,hI,hb⟩:=hrel
       have HB2:=Kh hb
       clear hb
       by_cases hjl:(j:Int)<(m:Int)
       ·obtain⟨r,hrow,hval,hz⟩:=hI
        have d1:wr.cell? ⟨g2,o2+j,none⟩=_:=(HB2.out.cell (p:=⟨g2,o2+j,none⟩) hg2').trans ((H2.out.head hm0).elim fun g h=>h.elim fun o h=>by
         obtain⟨e,_,hc⟩:=h
         injection e with e;injection e with e1 e2;subst e1;subst e2
         exact hc j (by omega))
        have hyl:((b j:Nat):Int)<4294967296:=by have:=H2.out.lt j (by omega);omega
        obtain⟨y,hy⟩:∃ y,b j=y:=⟨_,rfl⟩
        rw[hy]at d1 hyl
        have hst:wr.cell? ⟨G,i+j,none⟩=some (.int .u32 (r (i+j):Nat)):=hrow.1.cell (by omega)
        have hfz:wr.frozen? ⟨G,i+j,none⟩=false:=hrow.1.frozen _
        have hol:((r (i+j):Nat):Int)<4294967296:=by have:=hrow.2 (i+j) (by omega);omega
        obtain⟨o,ho⟩:∃ o,r (i+j)=o:=⟨_,rfl⟩
        rw[ho]at hst hol
        obtain⟨pp,hpp⟩:∃ pp,x*y=pp:=⟨_,rfl⟩
        have hppi:(x:Int)*(y:Int)=(pp:Nat):=by rw[← hpp];exact(Int.natCast_mul _ _).symm
        have hle:pp≤4294967295*4294967295:=by rw[← hpp];exact Nat.mul_le_mul (by omega) (by omega)
        have hppl:(pp:Int)≤18446744065119617025:=by omega
        obtain⟨s,hs⟩:∃ s,(x*y+o+cy) % 4294967296=s:=⟨_,rfl⟩
        obtain⟨cz,hcz⟩:∃ cz,(x*y+o+cy) / 4294967296=cz:=⟨_,rfl⟩
        have hnew:=inner_step hrow hval hz (by omega) ho hy hs hcz
        rw[hpp]at hs hcz
        have hsi:((pp:Int)+(o:Int)+(cy:Int)) % 4294967296=(s:Nat):=by omega
        have hci:((pp:Int)+(o:Int)+(cy:Int)) / 4294967296=(cz:Nat):=by omega
        have hcl:(cz:Int)<4294967296:=by omega
        have HN:=Kh hnew
        clear hnew hrow hval hz ho hy hs hcz hpp hle
        go_wp2
        go_roundw
        case rel=>exact⟨j+1,cz,by omega,rfl,by go_num,hcl,HN.out,HB2.out.setCell (Nat.le_refl _) _⟩
        case measure=>simp[intOf];omega
       ·obtain rfl:j=m:=by omega
        have hfin:=inner_end hI HV.out.symm HX.out (by omega)
        obtain⟨r,hrow,_,_⟩:=hI
        have hst:wr.cell? ⟨G,i+j,none⟩=some (.int .u32 (r (i+j):Nat)):=hrow.1.cell (by omega)
        have hfz:wr.frozen? ⟨G,i+j,none⟩=false:=hrow.1.frozen _
        have HF:=Kh hfin
        clear hfin hrow
        go_wp2
        go_roundw
        case rel=>exact⟨i+1,by omega,by go_num,HF.out,HB2.out.setCell (Nat.le_refl _) _⟩
        case measure=>simp[intOf];omega
     ·obtain rfl:i=n:=by omega
      go_wp2
      go_ret
      obtain⟨r,hr,hv,_⟩:=HT.out
      have hR:RetD wr (.returned (.slice (some ⟨G,0,none⟩) (i+m) (i+m))) (i+m) (vf a i*vf b m):=⟨_,_,r,rfl,hr.dg _ (Nat.le_refl _),hv⟩
      exact⟨hR.t (Nat.le_refl _),by rw[HG.out];exact HB.out⟩
theorem c_Div32 (hi lo y:Nat) (w:World) (hlo:(lo:Int)<4294967296) (hy:(y:Int)<4294967296) (hlt:(hi:Int)<(y:Int)):
  Calls Tryz.prog 224 #[.int .u32 hi,.int .u32 lo,.int .u32 y] w fun e w'=>e=.returned (.tuple #[.int .u32 ((lo+4294967296*hi) / y:Nat),.int .u32 ((lo+4294967296*hi) % y:Nat)])∧∃ k,w'=w.drewN k:=by
 have hor:=or64 hi lo (by omega) (by omega)
 obtain⟨z,hz⟩:∃ z,lo+4294967296*hi=z:=⟨_,rfl⟩
 rw[hz]at hor ⊢
 have hzi:(lo:Int)+4294967296*(hi:Int)=(z:Nat):=by omega
 obtain⟨q,hq⟩:∃ q,z / y=q:=⟨_,rfl⟩
 obtain⟨r,hr⟩:∃ r,z % y=r:=⟨_,rfl⟩
 have hqi:(z:Int) / (y:Int)=(q:Nat):=by rw[← hq];exact(Int.natCast_ediv _ _).symm
 have hri:(z:Int) % (y:Int)=(r:Nat):=by rw[← hr];exact(Int.natCast_emod _ _).symm
 have hrl:r<y:=by rw[← hr];exact Nat.mod_lt _ (by omega)
 have hql:q<4294967296:=by
  rw[← hq,Nat.div_lt_iff_lt_mul (by omega)]
  have:4294967296*(hi+1)≤4294967296*y:=Nat.mul_le_mul_left _ (by omega)
  omega
 have hqt:Int.tdiv (z:Int) (y:Int)=(q:Nat):=by rw[Int.tdiv_eq_ediv_of_nonneg (by omega)];exact hqi
 have hrt:Int.tmod (z:Int) (y:Int)=(r:Nat):=by rw[Int.tmod_eq_emod_of_nonneg (by omega)];exact hri
 have hqm:((q:Nat):Int) % 4294967296=(q:Nat):=by omega
 have hrm:((r:Nat):Int) % 4294967296=(r:Nat):=by omega
 have hqm2:((q:Nat):Int) % 18446744073709551616=(q:Nat):=by omega
 have hzl:(z:Int)<18446744073709551616:=by omega
 have hqli:(q:Int)<4294967296:=by omega
 have hrli:(r:Int)<4294967296:=by omega
 have hyb:((y:Int) != 0)=true:=by rw[bne_iff_ne];omega
 have hle:¬ ((y:Int)≤(hi:Int)):=by omega
 rw[hq,hr]
 clear hq hr hql hrl hz hzi
 go_enter Tryz.func224,Tryz.ntmps224
 go_wp2
 go_quiet (fail)
 go_wp2
 go_ret2
 exact⟨rfl,nq,rfl⟩
def ShortAt (w:World) (g n k d r:Nat) (a:Nat→Nat):Prop:=∃ qr,Row w g n qr∧(∀ l,l<k→qr l=0)∧vf qr n*d+4294967296 ^ k*r+vf a k=vf a n
theorem short_step {w:World} {g n k d r x q r':Nat} {a:Nat→Nat} (h:ShortAt w g n (k+1) d r a) (hx:a k=x) (hk:k<n) (hq:(x+4294967296*r) / d=q) (hr:(x+4294967296*r) % d=r') (hql:q<4294967296):
  ShortAt (w.setCell ⟨g,k,none⟩ (.int .u32 q)) g n k d r' a:=by
 obtain⟨qr,hrow,hz,hv⟩:=h
 refine⟨_,hrow.set k q hql,fun l hl=>by unfold upd;rw[if_neg (by omega)];exact hz l (by omega),?_⟩
 have h1:=vf_upd (a:=qr) (k:=k) (d:=q) (n:=n) hk
 rw[hz k (by omega),Nat.mul_zero,Nat.add_zero]at h1
 have h2:d*q+r'=x+4294967296*r:=by rw[← hq,← hr];exact Nat.div_add_mod _ _
 have h3:=congrArg (4294967296 ^ k * ·) h2
 simp only[Nat.mul_add]at h3
 rw[vf,hx,pow_succ']at hv
 rw[h1,Nat.add_mul,Nat.mul_assoc,Nat.mul_comm q d]
 rw[show 4294967296*4294967296 ^ k*r=4294967296 ^ k*(4294967296*r)from by rw[Nat.mul_comm 4294967296,Nat.mul_assoc]]at hv
 omega
def RetS (w':World) (e:Ending) (n t r:Nat):Prop:=∃ p c qr,e=.returned (.tuple #[.slice p n c,.int .u32 (r:Nat)])∧Dg w' p c n qr∧vf qr n=t
theorem c_short (p:Option Addr) (c n:Nat) (a:Nat→Nat) (d:Nat) (w:World) (h1:Dg w p c n a) (hn:n≤70368744177660) (hd0:0<d) (hd:(d:Int)<4294967296):
  Calls Tryz.prog 214 #[.slice p n c,.int .u32 d] w fun e w'=>RetS w' e n (vf a n / d) (vf a n % d)∧Below w.heap.size w w':=by
 have hmk:∀ w,(Instr.makeSlice 82 (.int .i64 (n:Int)) (.int .i64 (n:Int))).run Tryz.prog w=.ok (.slice (some ⟨w.heap.size,0,none⟩) n n) (w.alloc (.cells (madeCells #[.int .u32 0] n) 200)):=make32 n (by omega)
 have hrow:=Row.made w n
 have H1:=Kh h1
 have HR:=Kh hrow
 clear h1 hrow
 go_enter Tryz.func214,Tryz.ntmps214
 go_wp2
 obtain⟨wb,hwb⟩:∃ wb,w.alloc (.cells (madeCells #[.int .u32 0] n) 200)=wb:=⟨_,rfl⟩
 rw[hwb]
 have hbel:Below w.heap.size w wb:=by rw[← hwb];exact(Below.refl _ _).alloc (Nat.le_refl _) _
 rw[hwb]at HR
 have HB0:=Kh hbel
 clear hwb hbel hmk
 go_loopw [7,8] (fun v7 v8 wr=>∃ k r:Nat,k≤n∧v7=.int .u32 r∧v8=.int .i64 ((k:Int) - 1)∧(r:Int)<(d:Int)∧ShortAt wr w.heap.size n k d r a∧Below w.heap.size w wr) (fun _ v8 _=>(intOf v8+1).toNat)
 case atStart=>exact⟨n,0,Nat.le_refl _,rfl,by go_num,by omega,⟨_,HR.out,fun _ _=>rfl,by rw[vf_zero (fun _ _=>rfl)];omega⟩,HB0.out⟩
 case round=>
  obtain⟨k,r,hk,rfl,rfl,hrd,hS,hb⟩:=hrel
  have HB:=Kh hb
  have HS:=Kh hS
  clear hb hS
  by_cases h0:k=0
  ·subst h0
   obtain⟨qr,hrow,_,hv⟩:=HS.out
   simp only[Nat.pow_zero,Nat.one_mul,vf,Nat.add_zero]at hv
   have hq:vf qr n=vf a n / d:=by rw[← hv,Nat.mul_comm,Nat.mul_add_div hd0,Nat.div_eq_of_lt (by omega),Nat.add_zero]
   have hr:r=vf a n % d:=by rw[← hv,Nat.mul_comm,Nat.mul_add_mod,Nat.mod_eq_of_lt (by omega)]
   have HQ:=Kh hq
   have hR:RetS wr (.returned (.tuple #[.slice (some ⟨w.heap.size,0,none⟩) n n,.int .u32 (r:Nat)])) n (vf a n / d) (vf a n % d):=by rw[← hr];exact⟨_,_,qr,rfl,hrow.dg n (Nat.le_refl _),hq⟩
   have HF:=Kh hR
   clear hrow hv hq hr hR
   go_wp2
   go_ret2
   exact⟨HF.out,HB.out⟩
  ·obtain⟨k,rfl⟩:∃ j,k=j+1:=⟨k - 1,by omega⟩
   obtain⟨g1,o1,rfl,hg1,hc1⟩:=H1.out.head (by omega)
   have c1:wr.cell? ⟨g1,o1+k,none⟩=_:=(HB.out.cell (p:=⟨g1,o1+k,none⟩) hg1).trans (hc1 k (by omega))
   have hxl:((a k:Nat):Int)<4294967296:=by have:=H1.out.lt k (by omega);omega
   obtain⟨x,hx⟩:∃ x,a k=x:=⟨_,rfl⟩
   rw[hx]at c1 hxl
   have hst:∃ u,wr.cell? ⟨w.heap.size,k,none⟩=some u:=by obtain⟨qr,hrow,_⟩:=HS.out;exact⟨_,hrow.1.cell (by omega)⟩
   obtain⟨u,hst⟩:=hst
   have hfz:wr.frozen? ⟨w.heap.size,k,none⟩=false:=by obtain⟨qr,hrow,_⟩:=HS.out;exact hrow.1.frozen k
   have HC:=c_Div32 r x d wr hxl hd hrd
   obtain⟨q,hq⟩:∃ q,(x+4294967296*r) / d=q:=⟨_,rfl⟩
   obtain⟨r',hr⟩:∃ r',(x+4294967296*r) % d=r':=⟨_,rfl⟩
   have hql:q<4294967296:=by
    rw[← hq,Nat.div_lt_iff_lt_mul hd0]
    have:4294967296*(r+1)≤4294967296*d:=Nat.mul_le_mul_left _ (by omega)
    omega
   have hrl:(r':Int)<(d:Int):=by have:r'<d:=(by rw[← hr];exact Nat.mod_lt _ hd0);omega
   have hqi:(q:Int)<4294967296:=by omega
   have hnew:=short_step HS.out hx (by omega) hq hr hql
   rw[hq,hr]at HC
   have HC:=Kh HC
   have HN:=Kh hnew
   have e1:(((k+1:Nat):Int) - 1)=(k:Int):=by omega
   rw[e1]
   clear hnew hq hr hx hc1 hql h0 e1
   go_wp2_with (go_at_call 224;refine HC.out.mono ?_;rintro e w' ⟨rfl,kk,rfl⟩)
   go_roundw
   case rel=>exact⟨k,r',by omega,rfl,rfl,hrl,HN.out,(below_drewN' HB.out kk).setCell (Nat.le_refl _) _⟩
   case measure=>simp[intOf]
theorem len8_get (b:Int) (h0:0≤b) (h1:b≤255) {h:b.toNat<Lib.len8tab.size}:((Lib.len8tab[b.toNat]'h).toNat:Int)=(Lib.bitLen b.toNat:Int):=by
 rw[← Lib.len8_of b h0 h1]
 unfold Lib.len8
 rw[getElem?_pos Lib.len8tab b.toNat h]
 rfl
theorem len24 (x:Int) (y:Nat) (h0:0≤x) (h1:x≤4294967295) (h2:16777216≤x) (h3:x / 65536 / 256≤255) (hb:(y:Int)=(Lib.bitLen (x / 65536 / 256).toNat:Int)):wrap64 (24+wrap64 (y:Int))=((Lib.bitLen x.toNat:Nat):Int):=by
 have l:=Lib.bitLen_le8' (x / 65536 / 256) (by omega) h3
 have s:=Lib.bitLen_shift24 x.toNat (by omega) (by omega)
 have e:(x / 65536 / 256).toNat=x.toNat / 16777216:=by omega
 rw[e]at hb l
 generalize Lib.bitLen (x.toNat / 16777216)=z at *
 generalize Lib.bitLen x.toNat=t at *
 have:y≤8:=by omega
 clear e h0 h1 h2 h3
 unfold wrap64
 omega
theorem len16 (x:Int) (y:Nat) (h0:0≤x) (h1:x≤4294967295) (h2:65536≤x) (h3:x / 65536≤255) (hb:(y:Int)=(Lib.bitLen (x / 65536).toNat:Int)):wrap64 (16+wrap64 (y:Int))=((Lib.bitLen x.toNat:Nat):Int):=by
 have l:=Lib.bitLen_le8' (x / 65536) (by omega) h3
 have s:=Lib.bitLen_shift16 x.toNat (by omega) (by omega)
 have e:(x / 65536).toNat=x.toNat / 65536:=by omega
 rw[e]at hb l
 generalize Lib.bitLen (x.toNat / 65536)=z at *
 generalize Lib.bitLen x.toNat=t at *
 have:y≤8:=by omega
 clear e h0 h1 h2 h3
 unfold wrap64
 omega
theorem len8 (x:Int) (y:Nat) (h0:0≤x) (h1:x≤4294967295) (h2:256≤x) (h3:x / 256≤255) (hb:(y:Int)=(Lib.bitLen (x / 256).toNat:Int)):wrap64 (8+wrap64 (y:Int))=((Lib.bitLen x.toNat:Nat):Int):=by
 have l:=Lib.bitLen_le8' (x / 256) (by omega) h3
 have s:=Lib.bitLen_shift8 x.toNat (by omega) (by omega)
 have e:(x / 256).toNat=x.toNat / 256:=by omega
 rw[e]at hb l
 generalize Lib.bitLen (x.toNat / 256)=z at *
 generalize Lib.bitLen x.toNat=t at *
 have:y≤8:=by omega
 clear e h0 h1 h2 h3
 unfold wrap64
 omega
theorem len0 (x:Int) (y:Nat) (h0:0≤x) (h3:x≤255) (hb:(y:Int)=(Lib.bitLen x.toNat:Int)):wrap64 (wrap64 (y:Int))=((Lib.bitLen x.toNat:Nat):Int):=by
 have l:=Lib.bitLen_le8' x h0 h3
 generalize Lib.bitLen x.toNat=z at *
 have:y≤8:=by omega
 unfold wrap64
 omega
theorem c_Len32 (x:Int) (w:World) (h0:0≤x) (h1:x≤4294967295):
  Calls Tryz.prog 225 #[.int .u32 x] w fun e w'=>e=.returned (.int .i64 (Lib.bitLen x.toNat))∧w'=w:=by
 have hsz:(Lib.len8tab.size:Int)=256:=by rw[Lib.len8tab_size];rfl
 go_enter Tryz.func225,Tryz.ntmps225
 go_wp2
 ·go_ret
  exact⟨ret_i (len24 x _ h0 h1 (by omega) (by omega) (len8_get _ (by omega) (by omega))),rfl⟩
 ·go_ret
  exact⟨ret_i (len16 x _ h0 h1 (by omega) (by omega) (len8_get _ (by omega) (by omega))),rfl⟩
 ·go_ret
  exact⟨ret_i (len8 x _ h0 h1 (by omega) (by omega) (len8_get _ (by omega) (by omega))),rfl⟩
 ·go_ret
  exact⟨ret_i (len0 x _ h0 (by omega) (len8_get _ (by omega) (by omega))),rfl⟩
theorem c_Lz32 (x:Int) (w:World) (h0:0≤x) (h1:x≤4294967295):
  Calls Tryz.prog 215 #[.int .u32 x] w fun e w'=>e=.returned (.int .i64 (32 - (Lib.bitLen x.toNat:Int)))∧w'=w:=by
 have l:Lib.bitLen x.toNat≤32:=Lib.bitLen_le x.toNat 32 (by omega) (by omega)
 have e8:(32 - (Lib.bitLen x.toNat:Int)+9223372036854775808) % 18446744073709551616 - 9223372036854775808=32 - (Lib.bitLen x.toNat:Int):=by omega
 go_enter Tryz.func215,Tryz.ntmps215
 go_wp2_with (go_at_call 225;refine(c_Len32 x _ h0 h1).mono ?_;rintro e w' ⟨rfl,rfl⟩)
 go_ret
 refine⟨?_,rfl⟩
 rw[← e8]
 rfl
theorem pow_split {s:Nat} (hs:s<32):(4294967296:Nat)=2 ^ s*2 ^ (32 - s):=by
 rw[← Nat.pow_add,show s+(32 - s)=32 from by omega]
theorem shl_mod (x s:Nat) (hs:s<32):x*2 ^ s % 4294967296=2 ^ s*(x % 2 ^ (32 - s)):=by
 rw[pow_split hs,Nat.mul_comm x,Nat.mul_mod_mul_left]
theorem shl_lt (x s r:Nat) (hs:s<32) (hr:r<2 ^ s):r+x*2 ^ s % 4294967296<4294967296:=by
 rw[shl_mod x s hs]
 have h1:=Nat.mod_lt x (Nat.two_pow_pos (32 - s))
 have h2:=Nat.mul_le_mul_left (2 ^ s) (show x % 2 ^ (32 - s)+1≤2 ^ (32 - s)from h1)
 rw[← pow_split hs,Nat.mul_add,Nat.mul_one]at h2
 omega
theorem shl_or (x s r:Nat) (hs:s<32) (hr:r<2 ^ s):bits .or .u32 (r:Int) (((x*2 ^ s:Nat):Int) % 4294967296)=((r+x*2 ^ s % 4294967296:Nat):Int):=by
 have h1:=shl_lt x s r hs hr
 have h2:((x*2 ^ s:Nat):Int) % 4294967296=((x*2 ^ s % 4294967296:Nat):Int):=by rw[Int.natCast_emod];rfl
 rw[h2,u32_or_nat _ _ (by omega) (Nat.mod_lt _ (by omega)),Nat.or_comm,shl_mod x s hs,← Nat.two_pow_add_eq_or_of_lt hr,Nat.add_comm]
theorem shl_top (x s:Nat) (hx:x<4294967296):x*2 ^ s / 4294967296<2 ^ s:=by
 rw[Nat.div_lt_iff_lt_mul (by omega),Nat.mul_comm]
 exact Nat.mul_lt_mul_of_pos_left hx (Nat.two_pow_pos s)
theorem two_pow_le {s:Nat} (hs:s<32):2 ^ s≤2147483648:=by
 have:=Nat.pow_le_pow_right (show 0<2 by omega) (show s≤31 by omega)
 omega
theorem shl_wrap (x s:Nat) (hs:s<32) (hx:x<4294967296):IntKind.u64.wrap ((x:Int)*2 ^ s)=((x*2 ^ s:Nat):Int):=by
 have h1:x*2 ^ s≤4294967295*2147483648:=Nat.mul_le_mul (by omega) (two_pow_le hs)
 have h2:(x:Int)*2 ^ s=((x*2 ^ s:Nat):Int):=by rw[Int.natCast_mul,Int.natCast_pow];rfl
 rw[h2,IntKind.wrap_u64]
 generalize x*2 ^ s=t at *
 omega
def ShiftAt (w:World) (g n1 k s t:Nat):Prop:=∃ r,Row w g n1 r∧vf r (k+1)=t*2 ^ s∧r k<2 ^ s
theorem shift_step {w:World} {g n1 k s x y z:Nat} {a r:Nat→Nat} (hrow:Row w g n1 r) (hv:vf r (k+1)=vf a k*2 ^ s) (hrs:r k<2 ^ s) (hs:s<32) (hx:a k=x) (hxl:x<4294967296) (hy:r k+x*2 ^ s % 4294967296=y) (hz:x*2 ^ s / 4294967296=z):
  ShiftAt ((w.setCell ⟨g,k,none⟩ (.int .u32 y)).setCell ⟨g,k+1,none⟩ (.int .u32 z)) g n1 (k+1) s (vf a (k+1)):=by
 have h1:=shl_lt x s (r k) hs hrs
 have h2:=shl_top x s hxl
 have h3:=two_pow_le hs
 refine⟨_,(hrow.set k y (by omega)).set (k+1) z (by omega),?_,by show(if k+1=k+1 then z else _)<_;rw[if_pos rfl,← hz];exact h2⟩
 rw[vf,vf_upd_ge (Nat.le_refl _),vf,vf_upd_ge (Nat.le_refl _),show upd (upd r k y) (k+1) z (k+1)=z from by simp[upd],show upd r k y k=y from by simp[upd],vf,hx,Nat.add_mul,← hv,vf,pow_succ']
 have h4:x*2 ^ s=x*2 ^ s % 4294967296+4294967296*z:=by rw[← hz];omega
 have h5:4294967296 ^ k*x*2 ^ s=4294967296 ^ k*(x*2 ^ s % 4294967296)+4294967296*4294967296 ^ k*z:=by
  rw[Nat.mul_assoc,Nat.mul_comm 4294967296,Nat.mul_assoc,← Nat.mul_add,← h4]
 rw[h5,← hy,Nat.mul_add]
 omega
def RetR (B:Nat) (w':World) (e:Ending) (k t:Nat):Prop:=∃ g c r,e=.returned (.slice (some ⟨g,0,none⟩) k c)∧k≤c∧B≤g∧Row w' g k r∧vf r k=t
theorem c_shifted (p:Option Addr) (c n:Nat) (a:Nat→Nat) (s:Nat) (w:World) (h1:Dg w p c n a) (hn:n≤70368744177660) (hs:(s:Int)<32):
  Calls Tryz.prog 216 #[.slice p n c,.int .u64 s] w fun e w'=>RetR w.heap.size w' e (n+1) (vf a n*2 ^ s)∧Below w.heap.size w w':=by
 have hmk:∀ w,(Instr.makeSlice 82 (.int .i64 ((n:Int)+1)) (.int .i64 ((n:Int)+1))).run Tryz.prog w=.ok (.slice (some ⟨w.heap.size,0,none⟩) (n+1) (n+1)) (w.alloc (.cells (madeCells #[.int .u32 0] (n+1)) 200)):=make32 (n+1) (by omega)
 have hrow:=Row.made w (n+1)
 have H1:=Kh h1
 have HR:=Kh hrow
 clear h1 hrow
 go_enter Tryz.func216,Tryz.ntmps216
 go_wp2
 obtain⟨wb,hwb⟩:∃ wb,w.alloc (.cells (madeCells #[.int .u32 0] (n+1)) 200)=wb:=⟨_,rfl⟩
 rw[hwb]
 have hbel:Below w.heap.size w wb:=by rw[← hwb];exact(Below.refl _ _).alloc (Nat.le_refl _) _
 rw[hwb]at HR
 have HB0:=Kh hbel
 clear hwb hbel hmk
 go_loopw [15] (fun v15 wr=>∃ k:Nat,k≤n∧v15=.int .i64 k∧ShiftAt wr w.heap.size (n+1) k s (vf a k)∧Below w.heap.size w wr) (fun v15 _=>n - (intOf v15).toNat)
 case atStart=>exact⟨0,Nat.zero_le _,rfl,⟨_,HR.out,by simp[vf],Nat.two_pow_pos s⟩,HB0.out⟩
 case round=>
  obtain⟨k,hk,rfl,⟨r,hrow,hv,hrs⟩,hb⟩:=hrel
  have HB:=Kh hb
  have HV:=Kh hv
  have HRS:=Kh hrs
  clear hb hv hrs
  by_cases hlt:(k:Int)<(n:Int)
  ·obtain⟨g1,o1,rfl,hg1,hc1⟩:=H1.out.head (by omega)
   have c1:wr.cell? ⟨g1,o1+k,none⟩=_:=(HB.out.cell (p:=⟨g1,o1+k,none⟩) hg1).trans (hc1 k (by omega))
   have hxl:((a k:Nat):Int)<4294967296:=by have:=H1.out.lt k (by omega);omega
   obtain⟨x,hx⟩:∃ x,a k=x:=⟨_,rfl⟩
   rw[hx]at c1 hxl
   have hst:wr.cell? ⟨w.heap.size,k,none⟩=some (.int .u32 (r k:Nat)):=hrow.1.cell (by omega)
   have hfz:wr.frozen? ⟨w.heap.size,k,none⟩=false:=hrow.1.frozen _
   have hst1:wr.cell? ⟨w.heap.size,k+1,none⟩=some (.int .u32 (r (k+1):Nat)):=hrow.1.cell (by omega)
   have hfz1:wr.frozen? ⟨w.heap.size,k+1,none⟩=false:=hrow.1.frozen _
   have hwr:=shl_wrap x s (by omega) (by omega)
   have hor:=shl_or x s (r k) (by omega) HRS.out
   have hnew:=shift_step hrow HV.out HRS.out (by omega) hx (by omega) rfl rfl
   have hcut:((x*2 ^ s:Nat):Int) / 4294967296 % 4294967296=((x*2 ^ s / 4294967296:Nat):Int):=by
    have h1:=shl_top x s (by omega)
    have h2:=two_pow_le (s:=s) (by omega)
    generalize x*2 ^ s=t at *
    omega
   have HN:=Kh hnew
   have HW:=Kh hwr
   have HO:=Kh hor
   have HCU:=Kh hcut
   clear hnew hrow hc1 hx hwr hor hcut
   go_wp2
   rw[HW.out,HO.out,HCU.out]
   go_roundw
   case rel=>exact⟨k+1,by omega,by go_num,HN.out,(HB.out.setCell (Nat.le_refl _) _).setCell (Nat.le_refl _) _⟩
   case measure=>simp[intOf];omega
  ·obtain rfl:k=n:=by omega
   go_wp2
   go_ret
   have hR:RetR w.heap.size wr (.returned (.slice (some ⟨w.heap.size,0,none⟩) (k+1) (k+1))) (k+1) (vf a k*2 ^ s):=⟨_,_,r,rfl,Nat.le_refl _,Nat.le_refl _,hrow,HV.out⟩
   exact⟨hR,HB.out⟩
theorem vf_div {a:Nat→Nat} {n:Nat} (h:∀ i,i<n→a i<4294967296) {i:Nat} (hi:i≤n):vf a n / 4294967296 ^ i=vf (shf a i) (n - i):=by
 obtain⟨k,rfl⟩:∃ k,n=i+k:=⟨n - i,by omega⟩
 rw[vf_split,Nat.add_sub_cancel_left,Nat.add_mul_div_left _ _ (Dig.pow_pos i),Nat.div_eq_of_lt (vf_lt fun j hj=>h j (by omega)),Nat.zero_add]
theorem unshift_digit {a:Nat→Nat} {n s i:Nat} (h:∀ i,i<n→a i<4294967296) (hs:s<32) (hi:i<n):dg (vf a n / 2 ^ s) i=(a i+4294967296*ext a n (i+1)) / 2 ^ s % 4294967296:=by
 unfold dg
 rw[Nat.div_div_eq_div_mul,Nat.mul_comm,← Nat.div_div_eq_div_mul,vf_div h (Nat.le_of_lt hi)]
 obtain⟨m,hm⟩:∃ m,n - i=m+1:=⟨n - i - 1,by omega⟩
 rw[hm,vf_head,show shf a i 0=a i from rfl]
 have hz:∃ Z,vf (shf (shf a i) 1) m=ext a n (i+1)+4294967296*Z:=by
  cases m with
  | zero=>exact⟨0,by unfold ext;rw[if_neg (by omega)];rfl⟩
  | succ m=>exact⟨vf (shf (shf (shf a i) 1) 1) m,by rw[vf_head];unfold ext;rw[if_pos (by omega)];unfold shf;simp⟩
 obtain⟨Z,hZ⟩:=hz
 rw[hZ]
 have e:a i+4294967296*(ext a n (i+1)+4294967296*Z)=(a i+4294967296*ext a n (i+1))+2 ^ s*(4294967296*(2 ^ (32 - s)*Z)):=by
  have:=pow_split hs
  rw[Nat.mul_add,show 2 ^ s*(4294967296*(2 ^ (32 - s)*Z))=(2 ^ s*2 ^ (32 - s))*(4294967296*Z)from by simp only[Nat.mul_assoc,Nat.mul_comm,Nat.mul_left_comm],← this]
  omega
 rw[e,Nat.add_mul_div_left _ _ (Nat.two_pow_pos s),Nat.add_mul_mod_self_left]
theorem un_or (x y:Nat) (hx:x<4294967296) (hy:y<4294967296):bits .or .u64 (x:Int) ((y:Int)*4294967296)=((x+4294967296*y:Nat):Int):=by
 rw[show(y:Int)*4294967296=((2 ^ 32*y:Nat):Int)from by omega,bits_or_u64_nat _ _ (by omega) (by omega),Nat.or_comm,← Nat.two_pow_add_eq_or_of_lt (show x<2 ^ 32 from hx)]
 omega
theorem un_cast (t s:Nat):((t:Nat):Int) / 2 ^ s % 4294967296=((t / 2 ^ s % 4294967296:Nat):Int):=by
 rw[Int.natCast_emod,Int.natCast_ediv,Int.natCast_pow];rfl
def UnAt (w:World) (g n k T:Nat):Prop:=∃ r,Row w g n r∧∀ i,i<k→r i=dg T i
theorem un_step {w:World} {g n k T:Nat} {r:Nat→Nat} (hrow:Row w g n r) (hv:∀ i,i<k→r i=dg T i):UnAt (w.setCell ⟨g,k,none⟩ (.int .u32 (dg T k:Nat))) g n (k+1) T:=
 ⟨_,hrow.set k _ (dg_lt T k),fun i hi=>by
  unfold upd
  split
  ·rename_i h;rw[h]
  ·exact hv i (by omega)⟩
theorem c_unshifted (p:Option Addr) (c n:Nat) (a:Nat→Nat) (s:Nat) (w:World) (h1:Dg w p c n a) (hn:n≤70368744177660) (hs:(s:Int)<32):
  Calls Tryz.prog 218 #[.slice p n c,.int .u64 s] w fun e w'=>RetD w' e n (vf a n / 2 ^ s)∧Below w.heap.size w w':=by
 have hmk:∀ w,(Instr.makeSlice 82 (.int .i64 (n:Int)) (.int .i64 (n:Int))).run Tryz.prog w=.ok (.slice (some ⟨w.heap.size,0,none⟩) n n) (w.alloc (.cells (madeCells #[.int .u32 0] n) 200)):=make32 n (by omega)
 have hrow:=Row.made w n
 have H1:=Kh h1
 have HR:=Kh hrow
 clear h1 hrow
 go_enter Tryz.func218,Tryz.ntmps218
 go_wp2
 obtain⟨wb,hwb⟩:∃ wb,w.alloc (.cells (madeCells #[.int .u32 0] n) 200)=wb:=⟨_,rfl⟩
 rw[hwb]
 have hbel:Below w.heap.size w wb:=by rw[← hwb];exact(Below.refl _ _).alloc (Nat.le_refl _) _
 rw[hwb]at HR
 have HB0:=Kh hbel
 clear hwb hbel hmk
 go_loopw [13] (fun v wr=>∃ k:Nat,k≤n∧v=.int .i64 k∧UnAt wr w.heap.size n k (vf a n / 2 ^ s)∧Below w.heap.size w wr) (fun v _=>n - (intOf v).toNat)
 case atStart=>exact⟨0,Nat.zero_le _,rfl,⟨_,HR.out,fun i hi=>absurd hi (Nat.not_lt_zero _)⟩,HB0.out⟩
 case round=>
  obtain⟨k,hk,rfl,⟨r,hrow,hv⟩,hb⟩:=hrel
  have HB:=Kh hb
  have HV:=Kh hv
  clear hb hv
  by_cases hlt:(k:Int)<(n:Int)
  ·obtain⟨g1,o1,rfl,hg1,hc1⟩:=H1.out.head (by omega)
   have c1:wr.cell? ⟨g1,o1+k,none⟩=_:=(HB.out.cell (p:=⟨g1,o1+k,none⟩) hg1).trans (hc1 k (by omega))
   have hxl:((a k:Nat):Int)<4294967296:=by have:=H1.out.lt k (by omega);omega
   obtain⟨x,hx⟩:∃ x,a k=x:=⟨_,rfl⟩
   have hst:wr.cell? ⟨w.heap.size,k,none⟩=some (.int .u32 (r k:Nat)):=hrow.1.cell (by omega)
   have hfz:wr.frozen? ⟨w.heap.size,k,none⟩=false:=hrow.1.frozen _
   have hd:=unshift_digit (a:=a) (n:=n) (s:=s) (i:=k) H1.out.lt (by omega) (by omega)
   rw[hx]at c1 hxl hd
   by_cases hlt1:(k:Int)+1<(n:Int)
   ·have c2:wr.cell? ⟨g1,o1+(k+1),none⟩=_:=(HB.out.cell (p:=⟨g1,o1+(k+1),none⟩) hg1).trans (hc1 (k+1) (by omega))
    have hyl:((a (k+1):Nat):Int)<4294967296:=by have:=H1.out.lt (k+1) (by omega);omega
    obtain⟨y,hy⟩:∃ y,a (k+1)=y:=⟨_,rfl⟩
    rw[show ext a n (k+1)=y from by unfold ext;rw[if_pos (by omega)];exact hy]at hd
    rw[hy]at c2 hyl
    have e2:((k:Int)+1).toNat=k+1:=by omega
    have hor:=un_or x y (by omega) (by omega)
    have hcs:=un_cast (x+4294967296*y) s
    rw[← hd]at hcs
    have hnew:=un_step hrow HV.out
    have HN:=Kh hnew
    have HO:=Kh hor
    have HCS:=Kh hcs
    clear hc1 hx hy hor hcs hnew hd hrow
    go_wp2
    rw[HO.out,HCS.out]
    go_roundw
    case rel=>exact⟨k+1,by omega,by go_num,HN.out,HB.out.setCell (Nat.le_refl _) _⟩
    case measure=>simp[intOf];omega
   ·rw[show ext a n (k+1)=0 from by unfold ext;rw[if_neg (by omega)]]at hd
    have hcs:=un_cast x s
    rw[Nat.mul_zero,Nat.add_zero]at hd
    rw[← hd]at hcs
    have hnew:=un_step hrow HV.out
    have HN:=Kh hnew
    have HCS:=Kh hcs
    clear hc1 hx hcs hnew hd hrow
    go_wp2
    rw[HCS.out]
    go_roundw
    case rel=>exact⟨k+1,by omega,by go_num,HN.out,HB.out.setCell (Nat.le_refl _) _⟩
    case measure=>simp[intOf];omega
  ·obtain rfl:k=n:=by omega
   have hval:vf r k=vf a k / 2 ^ s:=by
    rw[vf_congr HV.out,vf_dg]
    exact Nat.lt_of_le_of_lt (Nat.div_le_self _ _) (vf_lt H1.out.lt)
   have hR:RetD wr (.returned (.slice (some ⟨w.heap.size,0,none⟩) k k)) k (vf a k / 2 ^ s):=⟨_,_,r,rfl,hrow.dg _ (Nat.le_refl _),hval⟩
   have HF:=Kh hR
   clear hR hval hrow
   go_wp2
   go_ret
   exact⟨HF.out,HB.out⟩
end Go.Proofs.YtenlbhlllgppmaaGreatDoor
namespace Go.Proofs.YtenlbhlllgppmaaGreatDoor.Kn
structure Tops (P lu lv T u2 v1 v2 U V:Nat):Prop where
 hlu:lu<P
 hlv:lv<P
 hu2:u2<4294967296
 hv2:v2<4294967296
 hv1:2147483648≤v1
 hU:U=lu+P*(u2+4294967296*T)
 hV:V=lv+P*(v2+4294967296*v1)
 hlt:U<V*4294967296
section
variable {P lu lv T u2 v1 v2 U V:Nat}
theorem Tops.hP (h:Tops P lu lv T u2 v1 v2 U V):0<P:=by have:=h.hlu;omega
theorem Tops.Vpos (h:Tops P lu lv T u2 v1 v2 U V):0<V:=by
 have h1:=h.hV
 have h2:=h.hP
 have h3:=h.hv1
 have h4:=Nat.mul_pos h2 (show 0<v2+4294967296*v1 by omega)
 omega
theorem Tops.Ult (h:Tops P lu lv T u2 v1 v2 U V):U<(P*4294967296)*(T+1):=by
 have h1:=h.hU
 have h2:=h.hlu
 have h3:=Nat.mul_le_mul_left P (show u2+1≤4294967296 from h.hu2)
 rw[Nat.mul_add,Nat.mul_one]at h3
 rw[Nat.mul_add,← Nat.mul_assoc]at h1
 rw[Nat.mul_add,Nat.mul_one]
 omega
theorem Tops.Vlt (h:Tops P lu lv T u2 v1 v2 U V):V<(P*4294967296)*(v1+1):=by
 have h1:=h.hV
 have h2:=h.hlv
 have h3:=Nat.mul_le_mul_left P (show v2+1≤4294967296 from h.hv2)
 rw[Nat.mul_add,Nat.mul_one]at h3
 rw[Nat.mul_add,← Nat.mul_assoc]at h1
 rw[Nat.mul_add,Nat.mul_one]
 omega
theorem Tops.Vge (h:Tops P lu lv T u2 v1 v2 U V):(P*4294967296)*v1≤V:=by
 have h1:=h.hV
 rw[Nat.mul_add,← Nat.mul_assoc]at h1
 omega
theorem Tops.Uge (h:Tops P lu lv T u2 v1 v2 U V):(P*4294967296)*T≤U:=by
 have h1:=h.hU
 rw[Nat.mul_add,← Nat.mul_assoc]at h1
 omega
theorem Tops.first (h:Tops P lu lv T u2 v1 v2 U V):U / V≤T / v1:=by
 have h1:=Nat.div_mul_le_self U V
 have h2:=Nat.mul_le_mul_left (U / V) h.Vge
 have h3:=h.Ult
 have h4:=h.hv1
 have h5:=h.hP
 generalize U / V=Q at *
 rw[Nat.le_div_iff_mul_le (by omega)]
 have h6:(P*4294967296)*(Q*v1)<(P*4294967296)*(T+1):=by
  rw[show(P*4294967296)*(Q*v1)=Q*((P*4294967296)*v1)from by grind]
  omega
 have h7:=Nat.lt_of_mul_lt_mul_left h6
 omega
theorem Tops.small (h:Tops P lu lv T u2 v1 v2 U V):U / V<4294967296:=(Nat.div_lt_iff_lt_mul h.Vpos).2 (by rw[Nat.mul_comm];exact h.hlt)
theorem Tops.down (h:Tops P lu lv T u2 v1 v2 U V) {g r:Nat} (he:g*v1+r=T) (ht:r*4294967296+u2<g*v2):U / V<g:=by
 rw[Nat.div_lt_iff_lt_mul h.Vpos]
 have h1:g*(P*(v2+4294967296*v1))≤g*V:=Nat.mul_le_mul_left _ (by have:=h.hV;omega)
 have h2:g*(P*(v2+4294967296*v1))=P*(g*v2+4294967296*(g*v1)):=by grind
 have h3:P*(u2+4294967296*T+1)≤P*(g*v2+4294967296*(g*v1)):=Nat.mul_le_mul_left _ (by omega)
 have h4:=h.hU
 have h5:=h.hlu
 rw[Nat.mul_add P _ 1,Nat.mul_one]at h3
 omega
theorem Tops.upA (h:Tops P lu lv T u2 v1 v2 U V) {g r:Nat} (he:g*v1+r=T) (hg:g<4294967296) (ht:g*v2≤r*4294967296+u2):g≤U / V+1:=by
 have h1:g*V=g*lv+P*(g*v2+4294967296*(g*v1)):=by
  rw[h.hV,Nat.mul_add]
  have:g*(P*(v2+4294967296*v1))=P*(g*v2+4294967296*(g*v1)):=by grind
  omega
 have h2:P*(g*v2+4294967296*(g*v1))≤P*(u2+4294967296*T):=Nat.mul_le_mul_left _ (by omega)
 have h3:g*lv≤4294967296*P:=Nat.mul_le_mul (by omega) (Nat.le_of_lt h.hlv)
 have h4:=h.Vge
 have h5:(P*4294967296)*1≤(P*4294967296)*v1:=Nat.mul_le_mul_left _ (by have:=h.hv1;omega)
 have h6:=h.hU
 have h7:g*V≤U+V:=by omega
 have h8:(g - 1)*V≤U:=by rw[Nat.sub_mul];omega
 have h9:=(Nat.le_div_iff_mul_le h.Vpos).2 h8
 omega
theorem Tops.upB (h:Tops P lu lv T u2 v1 v2 U V) {g r:Nat} (he:g*v1+r=T) (hg:g≤4294967296) (hr:4294967296≤r):g≤U / V:=by
 rw[Nat.le_div_iff_mul_le h.Vpos]
 have h1:g*V≤g*((P*4294967296)*(v1+1)):=Nat.mul_le_mul_left _ (Nat.le_of_lt h.Vlt)
 have h2:g*((P*4294967296)*(v1+1))=(P*4294967296)*(g*v1+g):=by grind
 have h3:(P*4294967296)*(g*v1+g)≤(P*4294967296)*T:=Nat.mul_le_mul_left _ (by omega)
 have h4:=h.Uge
 omega
theorem Tops.start (h:Tops P lu lv T u2 v1 v2 U V):T / v1≤4294967297:=by
 have h1:=h.Uge
 have h2:=h.hlt
 have h3:=Nat.mul_lt_mul_of_pos_right h.Vlt (show 0<4294967296 by omega)
 have h4:(P*4294967296)*T<(P*4294967296)*((v1+1)*4294967296):=by rw[← Nat.mul_assoc];omega
 have h5:=Nat.lt_of_mul_lt_mul_left h4
 have h6:=h.hv1
 have:T / v1<4294967298:=by
  rw[Nat.div_lt_iff_lt_mul (by omega)]
  omega
 omega
end
end Go.Proofs.YtenlbhlllgppmaaGreatDoor.Kn
