/- Contract of bigint's digit (a digit of a long division). -/
import Derived.Test.YtenlbhlllgppmaaGreatDoorK10
import Derived.IntWalk
import Derived.Deep.CutBlock
import Derived.Lib.SliceRun
set_option maxRecDepth 100000
set_option maxHeartbeats 8000000
namespace Go.Proofs.YtenlbhlllgppmaaGreatDoor
open Go.RowKit
structure Only (g:Nat) (w w':World):Prop where
 os:w'.os=w.os
 tape:w'.tape=w.tape
 output:w'.output=w.output
 size:w.heap.size≤w'.heap.size
 block:∀ k,k<w.heap.size→k≠g→w'.heap[k]?=w.heap[k]?
theorem Only.refl (g:Nat) (w:World):Only g w w:=⟨rfl,rfl,rfl,Nat.le_refl _,fun _ _ _=>rfl⟩
theorem Only.trans {g:Nat} {a b c:World} (h:Only g a b) (k:Only g b c):Only g a c:=
 ⟨k.os.trans h.os,k.tape.trans h.tape,k.output.trans h.output,Nat.le_trans h.size k.size,fun i hi hne=>(k.block i (Nat.lt_of_lt_of_le hi h.size) hne).trans (h.block i hi hne)⟩
theorem Only.set {g:Nat} {a w:World} (h:Only g a w) (i:Nat) (v:Value):Only g a (w.setCell ⟨g,i,none⟩ v):=
 ⟨h.os,h.tape,h.output,by simpa using h.size,fun k hk hne=>(Below.heap_setCell w ⟨g,i,none⟩ v k hne).trans (h.block k hk hne)⟩
theorem Only.drewN {g:Nat} {a w:World} (h:Only g a w) (n:Nat):Only g a (w.drewN n):=⟨h.os,h.tape,h.output,h.size,h.block⟩
theorem Only.cell {g:Nat} {w w':World} (h:Only g w w') {p:Addr} (hp:p.block<w.heap.size) (hne:p.block≠g):w'.cell? p=w.cell? p:=World.cell?_of_block (w:=w) (h.block p.block hp hne)
theorem Only.below {g B:Nat} {w w':World} (h:Only g w w') (hg:B≤g) (hB:B≤w.heap.size):Below B w w':=⟨h.os,h.tape,h.output,h.size,fun k hk=>h.block k (by omega) (by omega)⟩
theorem Only.dg {g:Nat} {w w':World} (h:Only g w w') {g' o c n:Nat} {a:Nat→Nat} (hd:Dg w (some ⟨g',o,none⟩) c n a) (hne:g'≠g):Dg w' (some ⟨g',o,none⟩) c n a:=
 ⟨hd.cap,hd.lt,by
  rcases hd.at' with h1 |⟨g2,o2,e,hg,hc⟩
  ·exact .inl h1
  ·injection e with e;injection e with e1 e2;subst e1;subst e2
   exact .inr ⟨g',o,rfl,Nat.lt_of_lt_of_le hg h.size,fun j hj=>(h.cell (p:=⟨g',o+j,none⟩) hg hne).trans (hc j hj)⟩⟩
theorem Only.row {g:Nat} {w w':World} (h:Only g w w') {g' n:Nat} {a:Nat→Nat} (hr:Row w g' n a) (hne:g'≠g):Row w' g' n a:=⟨hr.1.of_block (h.block g' hr.1.lt hne),hr.2⟩
theorem vf_three (a:Nat→Nat) (m:Nat):vf a (m+3)=vf a m+4294967296 ^ m*(a m+4294967296*(a (m+1)+4294967296*a (m+2))):=by
 rw[show m+3=m+2+1 from rfl,vf,show m+2=m+1+1 from rfl,vf,vf,pow_succ',pow_succ']
 grind
theorem vf_two (a:Nat→Nat) (m:Nat):vf a (m+2)=vf a m+4294967296 ^ m*(a m+4294967296*a (m+1)):=by
 rw[show m+2=m+1+1 from rfl,vf,vf,pow_succ']
 grind
theorem tops_of {a b:Nat→Nat} {N u0 u1 u2 v1 v2:Nat} (hN:2≤N) (ha:∀ i,i<N+1→a i<4294967296) (hb:∀ i,i<N→b i<4294967296) (hu0:a N=u0) (hu1:a (N - 1)=u1) (hu2:a (N - 2)=u2) (hv1:b (N - 1)=v1) (hv2:b (N - 2)=v2) (htop:2147483648≤v1) (hlt:vf a (N+1)<vf b N*4294967296):
  Kn.Tops (4294967296 ^ (N - 2)) (vf a (N - 2)) (vf b (N - 2)) (u1+4294967296*u0) u2 v1 v2 (vf a (N+1)) (vf b N):=by
 obtain⟨m,rfl⟩:∃ m,N=m+2:=⟨N - 2,by omega⟩
 have h1:=ha m (by omega)
 have h2:=hb m (by omega)
 simp only[show m+2 - 1=m+1 from rfl,show m+2 - 2=m from rfl]at *
 exact⟨vf_lt fun i hi=>ha i (by omega),vf_lt fun i hi=>hb i (by omega),by omega,by omega,htop,by rw[show m+2+1=m+3 from rfl,vf_three,hu0,hu1,hu2],by rw[vf_two,hv1,hv2],hlt⟩
theorem shf_upd (r:Nat→Nat) (j i d:Nat):shf (upd r (j+i) d) j=upd (shf r j) i d:=by
 funext l
 unfold shf upd
 by_cases h:l=i
 ·rw[if_pos h,if_pos (by omega)]
 ·rw[if_neg h,if_neg (by omega)]
def SubAt (w:World) (g K j i h cy:Nat) (r b:Nat→Nat):Prop:=∃ r2,Row w g K r2∧(∀ l,l<j∨j+i≤l→r2 l=r l)∧vf (shf r2 j) i+h*vf b i=vf (shf r j) i+4294967296 ^ i*cy
theorem sub_step {w:World} {g K j i h cy bw x y tl cz s bz:Nat} {r b r2:Nat→Nat} (hrow:Row w g K r2) (hkeep:∀ l,l<j∨j+i≤l→r2 l=r l) (hval:vf (shf r2 j) i+h*vf b i=vf (shf r j) i+4294967296 ^ i*(cy+bw))
  (hx:r (j+i)=x) (hy:b i=y) (ht:tl+4294967296*cz=h*y+cy) (hs:s+tl+bw=x+4294967296*bz) (hsl:s<4294967296):
  SubAt (w.setCell ⟨g,j+i,none⟩ (.int .u32 s)) g K j (i+1) h (cz+bz) r b:=by
 refine⟨_,hrow.set (j+i) s hsl,fun l hl=>by unfold upd;rw[if_neg (by omega)];exact hkeep l (by omega),?_⟩
 rw[shf_upd,vf,vf_upd_ge (Nat.le_refl _),show upd (shf r2 j) i s i=s from by simp[upd],vf,vf,hy,show shf r j i=x from hx,pow_succ']
 have h1:s+h*y+(cy+bw)=x+4294967296*(cz+bz):=by omega
 have h2:=congrArg (4294967296 ^ i * ·) h1
 simp only[Nat.mul_add]at h2 hval ⊢
 grind
theorem sub_last {w:World} {g K j N h cy bw x s bz:Nat} {r b r2:Nat→Nat} (hrow:Row w g K r2) (hkeep:∀ l,l<j∨j+N≤l→r2 l=r l) (hval:vf (shf r2 j) N+h*vf b N=vf (shf r j) N+4294967296 ^ N*(cy+bw))
  (hx:r (j+N)=x) (hs:s+cy+bw=x+4294967296*bz) (hsl:s<4294967296):
  ∃ r3,Row (w.setCell ⟨g,j+N,none⟩ (.int .u32 s)) g K r3∧(∀ l,l<j∨j+N<l→r3 l=r l)∧vf (shf r3 j) (N+1)+h*vf b N=vf (shf r j) (N+1)+4294967296 ^ (N+1)*bz:=by
 refine⟨_,hrow.set (j+N) s hsl,fun l hl=>by unfold upd;rw[if_neg (by omega)];exact hkeep l (by omega),?_⟩
 rw[shf_upd,vf,vf_upd_ge (Nat.le_refl _),show upd (shf r2 j) N s N=s from by simp[upd],vf,show shf r j N=x from hx,pow_succ']
 have h2:=congrArg (4294967296 ^ N * ·) hs
 simp only[Nat.mul_add]at h2 hval ⊢
 grind
def DigitAt (w:World) (g K j N:Nat) (r:Nat→Nat) (R:Nat):Prop:=∃ r',Row w g K r'∧(∀ l,l<j∨j+N<l→r' l=r l)∧vf (shf r' j) (N+1)=R
theorem digit_zero {w:World} {g K j N h U V Q P bz:Nat} {r r3:Nat→Nat} (hb:bz=0) (hrow:Row w g K r3) (hkeep:∀ l,l<j∨j+N<l→r3 l=r l) (hval:vf (shf r3 j) (N+1)+h*V=U+P*bz) (hQ:U / V=Q) (hlow:Q≤h) (hV:0<V):h=Q∧DigitAt w g K j N r (U % V):=by
 subst hb
 rw[Nat.mul_zero,Nat.add_zero]at hval
 have h1:h≤U / V:=(Nat.le_div_iff_mul_le hV).2 (by omega)
 have h2:h=Q:=by omega
 refine⟨h2,r3,hrow,hkeep,?_⟩
 have h3:=Nat.div_add_mod U V
 rw[hQ,← h2,Nat.mul_comm]at h3
 omega
def BackAt (w:World) (g K j i bk:Nat) (r3 b:Nat→Nat):Prop:=∃ r4,Row w g K r4∧(∀ l,l<j∨j+i≤l→r4 l=r3 l)∧vf (shf r4 j) i+4294967296 ^ i*bk=vf (shf r3 j) i+vf b i
theorem back_step {w:World} {g K j i bk x y s bz:Nat} {r3 b r4:Nat→Nat} (hrow:Row w g K r4) (hkeep:∀ l,l<j∨j+i≤l→r4 l=r3 l) (hval:vf (shf r4 j) i+4294967296 ^ i*bk=vf (shf r3 j) i+vf b i)
  (hx:r3 (j+i)=x) (hy:b i=y) (hs:(x+y+bk) % 4294967296=s) (hb:(x+y+bk) / 4294967296=bz):
  BackAt (w.setCell ⟨g,j+i,none⟩ (.int .u32 s)) g K j (i+1) bz r3 b:=by
 refine⟨_,hrow.set (j+i) s (by omega),fun l hl=>by unfold upd;rw[if_neg (by omega)];exact hkeep l (by omega),?_⟩
 rw[shf_upd,vf,vf_upd_ge (Nat.le_refl _),show upd (shf r4 j) i s i=s from by simp[upd],vf,vf,hy,show shf r3 j i=x from hx,pow_succ']
 have h1:s+4294967296*bz=x+y+bk:=by omega
 have h2:=congrArg (4294967296 ^ i * ·) h1
 simp only[Nat.mul_add]at h2 hval ⊢
 grind
theorem back_h {K j N h U V Q:Nat} {r3:Nat→Nat} (hr3:∀ l,l<K→r3 l<4294967296) {bz:Nat} (hb:bz=1) (hval3:vf (shf r3 j) (N+1)+h*V=U+4294967296 ^ (N+1)*bz) (hj:j+N<K) (hQ:U / V=Q) (hlow:Q≤h) (hup:h≤Q+1):h=Q+1:=by
 subst hb
 rw[Nat.mul_one]at hval3
 have h0:vf (shf r3 j) (N+1)<4294967296 ^ (N+1):=vf_lt fun i hi=>hr3 (j+i) (by omega)
 rcases Nat.lt_or_ge Q h with h2|h2
 ·omega
 ·exfalso
  have h3:h=Q:=by omega
  have h4:=Nat.div_mul_le_self U V
  rw[hQ,← h3]at h4
  omega
theorem back_last {w:World} {g K j N h bk U V Q x s:Nat} {r r3 r4:Nat→Nat} (hrow:Row w g K r4) (hkeep:∀ l,l<j∨j+N≤l→r4 l=r3 l) (hval:vf (shf r4 j) N+4294967296 ^ N*bk=vf (shf r3 j) N+V)
  (hkeep3:∀ l,l<j∨j+N<l→r3 l=r l) {bz:Nat} (hb:bz=1) (hval3:vf (shf r3 j) (N+1)+h*V=U+4294967296 ^ (N+1)*bz) (hj:j+N<K) (hr3:∀ l,l<K→r3 l<4294967296)
  (hx:r3 (j+N)=x) (hs:(x+bk) % 4294967296=s) (hQ:U / V=Q) (hlow:Q≤h) (hup:h≤Q+1) (hV:0<V) (hVl:V<4294967296 ^ N):
  h=Q+1∧DigitAt (w.setCell ⟨g,j+N,none⟩ (.int .u32 s)) g K j N r (U % V):=by
 subst hb
 rw[Nat.mul_one]at hval3
 have h0:vf (shf r3 j) (N+1)<4294967296 ^ (N+1):=vf_lt fun i hi=>hr3 (j+i) (by omega)
 have h1:h=Q+1:=by
  rcases Nat.lt_or_ge Q h with h2|h2
  ·omega
  ·exfalso
   have h3:h=Q:=by omega
   have h4:=Nat.div_mul_le_self U V
   rw[hQ,← h3]at h4
   omega
 refine⟨h1,_,hrow.set (j+N) s (by omega),fun l hl=>by unfold upd;rw[if_neg (by omega),hkeep l (by omega)];exact hkeep3 l hl,?_⟩
 rw[shf_upd,vf,vf_upd_ge (Nat.le_refl _),show upd (shf r4 j) N s N=s from by simp[upd]]
 have h5:=Nat.div_add_mod U V
 have h6:=Nat.mod_lt U hV
 rw[hQ,Nat.mul_comm]at h5
 rw[h1,Nat.add_mul,Nat.one_mul,vf,show shf r3 j N=x from hx,pow_succ']at hval3
 have h7:vf (shf r4 j) N<4294967296 ^ N:=vf_lt fun i hi=>hrow.2 (j+i) (by omega)
 have h8:vf (shf r4 j) N+4294967296 ^ N*(x+bk)=U % V+4294967296 ^ N*4294967296:=by
  rw[Nat.mul_add,Nat.mul_comm (4294967296 ^ N) 4294967296];omega
 generalize U % V=R at *
 generalize 4294967296 ^ N=P at *
 have h9:x+bk=4294967296:=by
  rcases Nat.lt_trichotomy (x+bk) 4294967296 with h10|h10|h10
  ·exfalso
   have:=Nat.mul_le_mul_left P (show x+bk+1≤4294967296 from h10)
   rw[Nat.mul_add,Nat.mul_one]at this
   omega
  ·exact h10
  ·exfalso
   have:=Nat.mul_le_mul_left P (show 4294967296+1≤x+bk from h10)
   rw[Nat.mul_add,Nat.mul_one]at this
   omega
 rw[h9]at hs h8
 rw[← hs]
 simp
 omega
theorem c_digit (g j K N cu gv ov cv:Nat) (r b:Nat→Nat) (w:World) (hrow:Row w g K r) (hjn:j+N<K) (hN:2≤N) (hv:Dg w (some ⟨gv,ov,none⟩) cv N b) (hgv:gv≠g) (htop:2147483648≤b (N - 1)) (hlt:vf (shf r j) (N+1)<vf b N*4294967296) (hNl:N≤70368744177660):
  Calls Tryz.prog 217 #[.slice (some ⟨g,j,none⟩) (N+1) cu,.slice (some ⟨gv,ov,none⟩) N cv] w fun e w'=>e=.returned (.int .u32 (vf (shf r j) (N+1) / vf b N:Nat))∧Only g w w'∧DigitAt w' g K j N r (vf (shf r j) (N+1) % vf b N):=by
 obtain⟨gv',ov',e,hgvl,hcv⟩:=hv.head (by omega)
 injection e with e;injection e with e1 e2;subst e1;subst e2
 obtain⟨u0,hu0⟩:∃ x,r (j+N)=x:=⟨_,rfl⟩
 obtain⟨u1,hu1⟩:∃ x,r (j+(N - 1))=x:=⟨_,rfl⟩
 obtain⟨u2,hu2⟩:∃ x,r (j+(N - 2))=x:=⟨_,rfl⟩
 obtain⟨v1,hv1⟩:∃ x,b (N - 1)=x:=⟨_,rfl⟩
 obtain⟨v2,hv2⟩:∃ x,b (N - 2)=x:=⟨_,rfl⟩
 have cu0:w.cell? ⟨g,j+N,none⟩=some (.int .u32 u0):=by rw[← hu0];exact hrow.1.cell (by omega)
 have cu1:w.cell? ⟨g,j+(N - 1),none⟩=some (.int .u32 u1):=by rw[← hu1];exact hrow.1.cell (by omega)
 have cu2:w.cell? ⟨g,j+(N - 2),none⟩=some (.int .u32 u2):=by rw[← hu2];exact hrow.1.cell (by omega)
 have cv1:w.cell? ⟨gv,ov+(N - 1),none⟩=some (.int .u32 v1):=by rw[← hv1];exact hcv _ (by omega)
 have cv2:w.cell? ⟨gv,ov+(N - 2),none⟩=some (.int .u32 v2):=by rw[← hv2];exact hcv _ (by omega)
 have lu0:(u0:Int)<4294967296:=by have:=hrow.2 (j+N) (by omega);omega
 have lu1:(u1:Int)<4294967296:=by have:=hrow.2 (j+(N - 1)) (by omega);omega
 have lu2:(u2:Int)<4294967296:=by have:=hrow.2 (j+(N - 2)) (by omega);omega
 have lv1:(v1:Int)<4294967296:=by have:=hv.lt (N - 1) (by omega);omega
 have lv2:(v2:Int)<4294967296:=by have:=hv.lt (N - 2) (by omega);omega
 have hv1g:(2147483648:Int)≤(v1:Int):=by omega
 have hNi:(2:Int)≤(N:Int):=by omega
 have HROW:=Kh hrow
 have HV:=Kh hv
 have HLT:=Kh hlt
 have hor:=or64 u0 u1 (by omega) (by omega)
 obtain⟨T,hT⟩:∃ T,u1+4294967296*u0=T:=⟨_,rfl⟩
 have hTl:(T:Int)<18446744073709551616:=by omega
 rw[hT]at hor
 have HCV:=Kh hcv
 clear hrow hv hlt hcv htop
 have hK:=tops_of (a:=shf r j) (b:=b) hN (fun i hi=>HROW.out.2 (j+i) (by omega)) HV.out.lt hu0 hu1 hu2 hv1 hv2 (by omega) HLT.out
 rw[hT]at hK
 obtain⟨U,hU⟩:∃ U,vf (shf r j) (N+1)=U:=⟨_,rfl⟩
 obtain⟨V,hV⟩:∃ V,vf b N=V:=⟨_,rfl⟩
 obtain⟨Q,hQ⟩:∃ Q,U / V=Q:=⟨_,rfl⟩
 rw[hU,hV]at hK
 rw[hU,hV,hQ]
 obtain⟨q0,hq0⟩:∃ q0,T / v1=q0:=⟨_,rfl⟩
 obtain⟨r0,hr0⟩:∃ r0,T % v1=r0:=⟨_,rfl⟩
 have hqt:Int.tdiv (T:Int) (v1:Int)=(q0:Nat):=by rw[Int.tdiv_eq_ediv_of_nonneg (by omega),← hq0];exact(Int.natCast_ediv _ _).symm
 have hrt:Int.tmod (T:Int) (v1:Int)=(r0:Nat):=by rw[Int.tmod_eq_emod_of_nonneg (by omega),← hr0];exact(Int.natCast_emod _ _).symm
 have hqt2:(T:Int) / (v1:Int)=(q0:Nat):=by rw[← hq0];exact(Int.natCast_ediv _ _).symm
 have hrt2:(T:Int) % (v1:Int)=(r0:Nat):=by rw[← hr0];exact(Int.natCast_emod _ _).symm
 have hq1:(q0:Int)≤4294967297:=by have:=hK.start;omega
 have hqw:IntKind.u64.wrap (q0:Int)=q0:=by rw[IntKind.wrap_u64];omega
 have hq2:Q≤q0:=by rw[← hQ,← hq0];exact hK.first
 have hr1:(r0:Int)<(v1:Int):=by have:=Nat.mod_lt T (show 0<v1 by omega);omega
 have hqr:q0*v1+r0=T:=by rw[← hq0,← hr0,Nat.mul_comm];exact Nat.div_add_mod _ _
 have HK:=Kh hK
 have HU:=Kh hU
 have HVV:=Kh hV
 have HQ:=Kh hQ
 have HQ2:=Kh hq2
 have HQR:=Kh hqr
 have HT:=Kh hT
 clear hK hU hV hQ hq2 hqr hT hq0 hr0 hu0 hu1 hu2 hv1 hv2
 go_enter Tryz.func217,Tryz.ntmps217
 go_wp2
 go_quiet (fail)
 go_wp2
 go_quiet (fail)
 go_upto_block 0 with(fail)
 clear hqt hrt hqt2 hrt2 hqw
 go_cut [7]from 48 to 81 (fun v7 wc=>∃ h:Nat,v7=.int .u64 h∧Q≤h∧h≤Q+1∧(h:Int)<4294967296∧∃ k,wc=w.drewN k)
 case first=>
  go_wp2_with fail
  go_loopw [7,8] (fun v7 v8 wr=>∃ q r':Nat,v7=.int .u64 q∧v8=.int .u64 r'∧q*v1+r'=T∧(r':Int)<4294967296∧Q≤q∧(q:Int)≤4294967297∧∃ k,wr=w.drewN k) (fun v7 _ _=>(intOf v7).toNat)
  case atStart=>exact⟨q0,r0,rfl,rfl,HQR.out,by omega,HQ2.out,hq1,_,by rw[dr2]⟩
  case round=>
   clear HQ2 HQR hq1 hr1
   obtain⟨q,r',rfl,rfl,hqr,hrl,hQq,hql,k,rfl⟩:=hrel
   have HQR:=Kh hqr
   have HQQ:=Kh hQq
   clear hqr hQq
   go_upto_region 4 with(fail)
   go_cut [69]from 48 to 69 (fun v wc=>∃ t:Bool,v=.bool t∧(t=true→Q<q)∧(t=false→q<4294967296∧q≤Q+1)∧∃ k,wc=w.drewN k)
   case first=>
    have n2w:IntKind.i64.wrap ((N:Int) - 2)=(N:Int) - 2:=IntWalk.i64_in _ (by omega)
    have n2n:((N:Int) - 2).toNat=N - 2:=by omega
    have n20:0≤(N:Int) - 2:=by omega
    have n2l:N - 2<N:=by omega
    have n2m:N - 2<N+1:=by omega
    by_cases hge:(4294967296:Int)≤(q:Int)
    ·have hgeb:decide ((4294967296:Int)≤(q:Int))=true:=decide_eq_true hge
     have hlow:Q<q:=by have:=HK.out.small;have:=HQ.out;omega
     have HLOW:=Kh hlow
     clear hlow
     go_wp2
     go_region
     go_wp2
     go_meet
     case rel=>exact⟨true,rfl,fun _=>HLOW.out,fun h=>by simp at h,_,by first|rfl|rw[dr2]|exact(dr2 _ _ 1)⟩
    ·have hgeb:decide ((4294967296:Int)≤(q:Int))=false:=decide_eq_false hge
     have HGB:=Kh hgeb
     obtain⟨pv,hpv⟩:∃ pv,q*v2=pv:=⟨_,rfl⟩
     have hpvi:(q:Int)*(v2:Int)=(pv:Nat):=by rw[← hpv];exact(Int.natCast_mul _ _).symm
     have hpl:pv≤4294967295*4294967295:=by rw[← hpv];exact Nat.mul_le_mul (by omega) (by omega)
     have hpli:(pv:Int)≤18446744065119617025:=by omega
     have hor2:=or64 r' u2 (by omega) (by omega)
     obtain⟨z,hz⟩:∃ z,u2+4294967296*r'=z:=⟨_,rfl⟩
     rw[hz]at hor2
     by_cases hgt:(z:Int)<(pv:Int)
     ·have hlow:Q<q:=by rw[← HQ.out];exact HK.out.down HQR.out (by omega)
      have HLOW:=Kh hlow
      clear hlow hz hpv hpl
      go_wp2
      go_region
      go_wp2
      go_meet
      case rel=>exact⟨true,rfl,fun _=>HLOW.out,fun h=>by simp at h,_,by first|rfl|rw[dr2]|exact(dr2 _ _ 1)⟩
     ·have hlow:q≤Q+1:=by rw[← HQ.out];exact HK.out.upA HQR.out (by omega) (by omega)
      have hqb:q<4294967296:=by omega
      have HLOW:=Kh hlow
      have HQB:=Kh hqb
      clear hlow hqb hz hpv hpl
      go_wp2
      go_region
      go_wp2
      go_meet
      case rel=>exact⟨false,val_b (decide_eq_false (by omega)),fun h=>by simp at h,fun _=>⟨HQB.out,HLOW.out⟩,_,by first|rfl|rw[dr2]|exact(dr2 _ _ 1)⟩
   case rest=>
    obtain⟨t,rfl,ht,hf,k2,rfl⟩:=hcut
    cases t with
    | true=>
     have hlow:=ht rfl
     obtain⟨h,rfl⟩:∃ h,q=h+1:=⟨q - 1,by omega⟩
     have hqr2:h*v1+(r'+v1)=T:=by have:=HQR.out;rw[Nat.add_mul]at this;omega
     have hlow2:Q≤h:=by omega
     have HQR2:=Kh hqr2
     have HL2:=Kh hlow2
     clear ht hf hqr2 hlow hlow2
     by_cases hbr:(4294967296:Int)≤(r':Int)+(v1:Int)
     ·have hup:h≤Q:=by rw[← HQ.out];exact HK.out.upB HQR2.out (by omega) (by omega)
      have hh3:(h:Int)<4294967296:=by have:=HK.out.small;have:=HQ.out;omega
      go_wp2
      go_meet
      case rel=>exact⟨h,by go_num,HL2.out,by omega,hh3,_,by first|rfl|rw[dr2]⟩
     ·go_wp2
      go_roundw
      case rel=>exact⟨h,r'+v1,rfl,by go_num,HQR2.out,by omega,HL2.out,by omega,_,rfl⟩
      case measure=>simp[intOf]
    | false=>
     obtain⟨hqb,hup⟩:=hf rfl
     clear ht hf
     go_wp2
     go_meet
     case rel=>exact⟨q,rfl,HQQ.out,hup,by omega,_,by first|rfl|rw[dr2]⟩
 case rest=>
  clear HQ2 HQR hq1 hr1
  obtain⟨h,rfl,hA,hBU,hh3,k0,rfl⟩:=hcut
  have HBU:=Kh hBU
  have HA:=Kh hA
  clear hA hBU
  go_wp2
  go_loopw [9,10,84] (fun v9 v10 v84 wr=>∃ i cy bw:Nat,i≤N∧v9=.int .u64 cy∧v10=.int .u32 bw∧v84=.int .i64 i∧(cy:Int)<4294967296∧(bw:Int)≤1∧SubAt wr g K j i h (cy+bw) r b∧Only g w wr) (fun _ _ v84 _=>N - (intOf v84).toNat)
  case atStart=>exact⟨0,0,0,Nat.zero_le _,rfl,rfl,rfl,by decide,by decide,⟨r,HROW.out,fun _ _=>rfl,by simp[vf]⟩,(Only.refl _ _).drewN _⟩
  case round=>
   obtain⟨i,cy,bw,hi,rfl,rfl,rfl,hcy,hbw,⟨r2,hrow,hkeep,hval⟩,hO⟩:=hrel
   have HO:=Kh hO
   clear hO
   have hxe:r2 (j+i)=r (j+i):=hkeep (j+i) (.inr (Nat.le_refl _))
   by_cases hlt:(i:Int)<(N:Int)
   ·have cx:wr.cell? ⟨g,j+i,none⟩=some (.int .u32 (r (j+i):Nat)):=by rw[← hxe];exact hrow.1.cell (by omega)
    have fx:wr.frozen? ⟨g,j+i,none⟩=false:=hrow.1.frozen _
    have cb:wr.cell? ⟨gv,ov+i,none⟩=some (.int .u32 (b i:Nat)):=(HO.out.cell (p:=⟨gv,ov+i,none⟩) hgvl hgv).trans (HCV.out i (by omega))
    have hxl:((r (j+i):Nat):Int)<4294967296:=by have:=HROW.out.2 (j+i) (by omega);omega
    have hyl:((b i:Nat):Int)<4294967296:=by have:=HV.out.lt i (by omega);omega
    obtain⟨x,hx⟩:∃ x,r (j+i)=x:=⟨_,rfl⟩
    obtain⟨y,hy⟩:∃ y,b i=y:=⟨_,rfl⟩
    rw[hx]at cx hxl
    rw[hy]at cb hyl
    obtain⟨pp,hpp⟩:∃ pp,h*y=pp:=⟨_,rfl⟩
    have hppi:(h:Int)*(y:Int)=(pp:Nat):=by rw[← hpp];exact(Int.natCast_mul _ _).symm
    have hple:pp≤4294967295*4294967295:=by rw[← hpp];exact Nat.mul_le_mul (by omega) (by omega)
    have hppl:(pp:Int)≤18446744065119617025:=by omega
    obtain⟨tl,htl⟩:∃ tl,(pp+cy) % 4294967296=tl:=⟨_,rfl⟩
    obtain⟨cz,hcz⟩:∃ cz,(pp+cy) / 4294967296=cz:=⟨_,rfl⟩
    have htli:((pp:Int)+(cy:Int)) % 4294967296=(tl:Nat):=by omega
    have hczi:((pp:Int)+(cy:Int)) / 4294967296=(cz:Nat):=by omega
    have htll:(tl:Int)<4294967296:=by omega
    have hczl:(cz:Int)<4294967296:=by omega
    have HC:=c_Sub32 x tl bw wr hxl htll hbw
    obtain⟨s,hs⟩:∃ s:Nat,(s:Int)=((x:Int) - tl - bw) % 4294967296:=⟨(((x:Int) - tl - bw) % 4294967296).toNat,by omega⟩
    obtain⟨bz,hbz⟩:∃ bz:Nat,(if x<tl+bw then 1 else 0)=bz:=⟨_,rfl⟩
    have hbzi:(if x<tl+bw then(1:Int)else 0)=(bz:Nat):=by rw[← hbz];split <;> rfl
    have hbzl:(bz:Int)≤1:=by rw[← hbzi];split <;> decide
    have hsum:s+tl+bw=x+4294967296*bz:=by split at hbz <;> omega
    rw[← hs,hbzi]at HC
    have hnew:=sub_step hrow hkeep hval hx hy (show tl+4294967296*cz=h*y+cy by omega) hsum (by omega)
    have HN:=Kh hnew
    have HC:=Kh HC
    clear hnew hrow hkeep hval hx hy hpp hple htl hcz hs hbz hbzi hsum hxe
    go_wp2_with (go_at_call 203;refine HC.out.mono ?_;rintro e w' ⟨rfl,rfl⟩)
    go_roundw
    case rel=>exact⟨i+1,cz,bz,by omega,rfl,rfl,by go_num,hczl,hbzl,HN.out,HO.out.set _ _⟩
    case measure=>simp[intOf];omega
   ·obtain rfl:i=N:=by omega
    have cx:wr.cell? ⟨g,j+i,none⟩=some (.int .u32 (r (j+i):Nat)):=by rw[← hxe];exact hrow.1.cell (by omega)
    have fx:wr.frozen? ⟨g,j+i,none⟩=false:=hrow.1.frozen _
    have hxl:((r (j+i):Nat):Int)<4294967296:=by have:=HROW.out.2 (j+i) (by omega);omega
    obtain⟨x,hx⟩:∃ x,r (j+i)=x:=⟨_,rfl⟩
    rw[hx]at cx hxl
    have hcym:(cy:Int) % 4294967296=(cy:Int):=by omega
    have HC:=c_Sub32 x cy bw wr hxl hcy hbw
    obtain⟨s,hs⟩:∃ s:Nat,(s:Int)=((x:Int) - cy - bw) % 4294967296:=⟨(((x:Int) - cy - bw) % 4294967296).toNat,by omega⟩
    obtain⟨bz,hbz⟩:∃ bz:Nat,(if x<cy+bw then 1 else 0)=bz:=⟨_,rfl⟩
    have hbzi:(if x<cy+bw then(1:Int)else 0)=(bz:Nat):=by rw[← hbz];split <;> rfl
    have hbzl:(bz:Int)≤1:=by rw[← hbzi];split <;> decide
    have hsum:s+cy+bw=x+4294967296*bz:=by split at hbz <;> omega
    rw[← hs,hbzi]at HC
    have hnew:=sub_last hrow hkeep hval hx hsum (by omega)
    rw[HU.out,HVV.out]at hnew
    have HN:=Kh hnew
    have HC:=Kh HC
    have hO3:=HO.out.set (j+i) (.int .u32 (s:Nat))
    have HO3:=Kh hO3
    have hhm:(h:Int) % 4294967296=(h:Int):=by omega
    clear hnew hrow hkeep hval hx hs hbz hbzi hsum hxe hO3
    by_cases hb0:bz=0
    ·subst hb0
     obtain⟨r3,hrow3,hkeep3,hval3⟩:=HN.out
     have hd:=digit_zero rfl hrow3 hkeep3 hval3 HQ.out HA.out HK.out.Vpos
     obtain⟨hhq,hd⟩:=hd
     have HD:=Kh hd
     have HHQ:=Kh hhq
     clear hrow3 hkeep3 hval3 hd hhq
     go_wp2_with (go_at_call 203;refine HC.out.mono ?_;rintro e w' ⟨rfl,rfl⟩)
     go_ret
     exact⟨ret_i (by rw[HHQ.out]),HO3.out,HD.out⟩
    ·obtain rfl:bz=1:=by omega
     clear hb0
     obtain⟨r3,hrow3,hkeep3,hval3⟩:=HN.out
     have hhq:=back_h hrow3.2 rfl hval3 hjn HQ.out HA.out HBU.out
     have HHQ:=Kh hhq
     have hh1:(1:Int)≤(h:Int):=by omega
     have hhm1:((h:Int) - 1) % 4294967296=(h:Int) - 1:=by omega
     have HR3L:=Kh hrow3.2
     have HR3:=Kh hrow3
     have HK3:=Kh hkeep3
     have HV3:=Kh hval3
     clear hrow3 hkeep3 hval3 hhq HN
     go_wp2_with (go_at_call 203;refine HC.out.mono ?_;rintro e w' ⟨rfl,rfl⟩)
     obtain⟨w3,hw3⟩:∃ w3,World.setCell w' ⟨g,j+i,none⟩ (.int .u32 (s:Nat))=w3:=⟨_,rfl⟩
     rw[hw3]at HR3 HO3 ⊢
     clear hw3 cx fx HC HO
     go_loopw [14,132] (fun v14 v132 wr=>∃ i2 bk:Nat,i2≤i∧v14=.int .u32 bk∧v132=.int .i64 i2∧(bk:Int)≤1∧BackAt wr g K j i2 bk r3 b∧Only g w wr) (fun _ v132 _=>i - (intOf v132).toNat)
     case atStart=>exact⟨0,0,Nat.zero_le _,rfl,rfl,by decide,⟨r3,HR3.out,fun _ _=>rfl,by simp[vf]⟩,HO3.out⟩
     case round=>
      obtain⟨i2,bk,hi2,rfl,rfl,hbk,⟨r4,hrow4,hkeep4,hval4⟩,hO4⟩:=hrel
      have HO4:=Kh hO4
      clear hO4 HO3 HR3
      have hxe:r4 (j+i2)=r3 (j+i2):=hkeep4 (j+i2) (.inr (Nat.le_refl _))
      have fx:wr.frozen? ⟨g,j+i2,none⟩=false:=hrow4.1.frozen _
      have cx:wr.cell? ⟨g,j+i2,none⟩=some (.int .u32 (r4 (j+i2):Nat)):=hrow4.1.cell (by omega)
      have hxl:((r4 (j+i2):Nat):Int)<4294967296:=by have:=hrow4.2 (j+i2) (by omega);omega
      obtain⟨x4,hx⟩:∃ x4,r3 (j+i2)=x4:=⟨_,rfl⟩
      rw[hxe,hx]at cx hxl
      by_cases hlt4:(i2:Int)<(i:Int)
      ·have cb:wr.cell? ⟨gv,ov+i2,none⟩=some (.int .u32 (b i2:Nat)):=(HO4.out.cell (p:=⟨gv,ov+i2,none⟩) hgvl hgv).trans (HCV.out i2 (by omega))
       have hyl:((b i2:Nat):Int)<4294967296:=by have:=HV.out.lt i2 (by omega);omega
       obtain⟨y,hy⟩:∃ y,b i2=y:=⟨_,rfl⟩
       rw[hy]at cb hyl
       have HC:=c_Add32 x4 y bk wr hxl hyl (by omega)
       obtain⟨s4,hs⟩:∃ s4,(x4+y+bk) % 4294967296=s4:=⟨_,rfl⟩
       obtain⟨bz,hbz⟩:∃ bz,(x4+y+bk) / 4294967296=bz:=⟨_,rfl⟩
       have hsl:(s4:Int)<4294967296:=by omega
       have hbzl:(bz:Int)≤1:=by omega
       have hnew:=back_step hrow4 hkeep4 hval4 hx hy hs hbz
       rw[hs,hbz]at HC
       have HN:=Kh hnew
       have HC:=Kh HC
       clear hnew hrow4 hkeep4 hval4 hx hy hs hbz hxe
       go_wp2_with (go_at_call 201;refine HC.out.mono ?_;rintro e w' ⟨rfl,rfl⟩)
       go_roundw
       case rel=>exact⟨i2+1,bz,by omega,rfl,by go_num,hbzl,HN.out,HO4.out.set _ _⟩
       case measure=>simp[intOf];omega
      ·obtain rfl:i2=i:=by omega
       obtain⟨s4,hs⟩:∃ s4,(x4+bk) % 4294967296=s4:=⟨_,rfl⟩
       have hsi:((x4:Int)+(bk:Int)) % 4294967296=(s4:Nat):=by omega
       have hsl:(s4:Int)<4294967296:=by omega
       have hvl:V<4294967296 ^ i2:=by rw[← HVV.out];exact vf_lt HV.out.lt
       rw[HVV.out]at hval4
       obtain⟨_,hd⟩:=back_last hrow4 hkeep4 hval4 HK3.out rfl HV3.out hjn HR3L.out hx hs HQ.out HA.out HBU.out HK.out.Vpos hvl
       have HD:=Kh hd
       have HO5:=Kh (HO4.out.set (j+i2) (.int .u32 (s4:Nat)))
       clear hrow4 hkeep4 hval4 hx hs hxe hd hvl HO4
       go_wp2
       go_ret
       exact⟨ret_i (by have:=HHQ.out;omega),HO5.out,HD.out⟩
def RetNN (w':World) (e:Ending) (q r:Nat):Prop:=∃ p c p' c',e=.returned (.tuple #[.slice p (nd q) c,.slice p' (nd r) c'])∧Nm w' p c q∧Nm w' p' c' r
theorem shf_shf (a:Nat→Nat) (m k:Nat):shf (shf a m) k=shf a (m+k):=by
 funext i;unfold shf;rw[Nat.add_assoc]
theorem vf_shf_head (r:Nat→Nat) (k n:Nat):vf (shf r k) (n+1)=r k+4294967296*vf (shf r (k+1)) n:=by
 rw[vf_head,shf_shf];rfl
def LongAt (w:World) (gu gq N M k:Nat) (r0:Nat→Nat) (V:Nat):Prop:=
 ∃ r q,Row w gu (M+N) r∧Row w gq M q∧(∀ l,l<k→r l=r0 l)∧vf (shf r k) N=vf (shf r0 k) (M+N - k) % V∧vf (shf q k) (M - k)=vf (shf r0 k) (M+N - k) / V
theorem long_start {w:World} {gu gq N M V:Nat} {r0 q:Nat→Nat} (hu:Row w gu (M+N) r0) (hq:Row w gq M q) (hV:vf (shf r0 M) N<V):LongAt w gu gq N M M r0 V:=by
 refine⟨r0,q,hu,hq,fun _ _=>rfl,?_,?_⟩
 ·rw[show M+N - M=N from by omega,Nat.mod_eq_of_lt hV]
 ·rw[show M+N - M=N from by omega,Nat.sub_self,Nat.div_eq_of_lt hV];rfl
theorem long_window {N k V X:Nat} {r r0:Nat→Nat} (hlow:∀ l,l<k+1→r l=r0 l) (hval:vf (shf r (k+1)) N=X % V) (hV:0<V):vf (shf r k) (N+1)=r0 k+4294967296*(X % V)∧(r0 k<4294967296→vf (shf r k) (N+1)<V*4294967296):=by
 have h1:vf (shf r k) (N+1)=r0 k+4294967296*(X % V):=by rw[vf_shf_head,hval,hlow k (by omega)]
 refine⟨h1,fun h2=>?_⟩
 rw[h1]
 have h3:=Nat.mod_lt X hV
 omega
theorem long_digit {x X V:Nat} (hV:0<V):(x+4294967296*X) / V=(x+4294967296*(X % V)) / V+4294967296*(X / V)∧(x+4294967296*X) % V=(x+4294967296*(X % V)) % V:=by
 have h:x+4294967296*X=(x+4294967296*(X % V))+V*(4294967296*(X / V)):=by
  have:=Nat.div_add_mod X V
  generalize X / V=Q at *
  generalize X % V=R at *
  rw[← this]
  grind
 rw[h]
 exact⟨Nat.add_mul_div_left _ _ hV,Nat.add_mul_mod_self_left _ _ _⟩
theorem long_step {w:World} {gu gq N M k V X Q:Nat} {r r0 r' q:Nat→Nat} (hk:k<M) (hX:vf (shf r0 (k+1)) (M+N - (k+1))=X) (hlow:∀ l,l<k+1→r l=r0 l)
  (hu:Row w gu (M+N) r') (hkeep:∀ l,l<k∨k+N<l→r' l=r l) (hrem:vf (shf r' k) (N+1)=(r0 k+4294967296*(X % V)) % V)
  (hq:Row w gq M q) (hqv:vf (shf q (k+1)) (M - (k+1))=X / V) (hV:0<V) (hVB:V≤4294967296 ^ N) (hQ:(r0 k+4294967296*(X % V)) / V=Q) (hQl:Q<4294967296) (hne:gq≠gu):
  LongAt (w.setCell ⟨gq,k,none⟩ (.int .u32 Q)) gu gq N M k r0 V:=by
 refine⟨r',upd q k Q,⟨hu.1.of_block (Below.heap_setCell w ⟨gq,k,none⟩ _ gu (Ne.symm hne)),hu.2⟩,hq.set k Q hQl,fun l hl=>by rw[hkeep l (.inl hl)];exact hlow l (by omega),?_,?_⟩
 ·have h1:vf (shf r0 k) (M+N - k)=r0 k+4294967296*X:=by
   rw[show M+N - k=(M+N - (k+1))+1 from by omega,vf_shf_head,hX]
  have h2:=(long_digit (x:=r0 k) (X:=X) hV).2
  rw[h1,h2,← hrem]
  have h3:=Nat.mod_lt (r0 k+4294967296*(X % V)) hV
  rw[← hrem,vf]at h3
  rw[vf]
  rcases Nat.eq_zero_or_pos (shf r' k N)with h4|h4
  ·rw[h4];simp
  ·exfalso
   have h5:=Nat.mul_le_mul_left (4294967296 ^ N) (show 1≤shf r' k N from h4)
   omega
 ·have h1:vf (shf r0 k) (M+N - k)=r0 k+4294967296*X:=by
   rw[show M+N - k=(M+N - (k+1))+1 from by omega,vf_shf_head,hX]
  have h2:=(long_digit (x:=r0 k) (X:=X) hV).1
  rw[h1,h2,hQ,← hqv,show M - k=(M - (k+1))+1 from by omega,vf_shf_head]
  rw[show upd q k Q k=Q from by simp[upd]]
  congr 2
  exact vf_congr fun i _=>by unfold shf upd;rw[if_neg (by omega)]
theorem long_end {w:World} {gu gq N M V:Nat} {r0:Nat→Nat} (h:LongAt w gu gq N M 0 r0 V):
  ∃ r q,Row w gu (M+N) r∧Row w gq M q∧vf r N=vf r0 (M+N) % V∧vf q M=vf r0 (M+N) / V:=by
 obtain⟨r,q,h1,h2,_,h4,h5⟩:=h
 have e:∀ a:Nat→Nat,shf a 0=a:=fun a=>by funext i;unfold shf;rw[Nat.zero_add]
 simp only[e,Nat.sub_zero]at h4 h5
 exact⟨r,q,h1,h2,h4,h5⟩
theorem lt_bitLenAux:∀ (f x:Nat),x<2 ^ f→x<2 ^ Lib.bitLenAux f x
 | 0,x,h=>by simpa [Lib.bitLenAux] using h
 | f+1,x,h=>by
  rw[Lib.bitLenAux]
  by_cases h0:x=0
  ·rw[if_pos h0,h0];simp
  ·rw[if_neg h0]
   have h1:=lt_bitLenAux f (x / 2) (by rw[Nat.pow_succ]at h;omega)
   rw[Nat.add_comm,Nat.pow_succ]
   omega
theorem lt_bitLen (t:Nat) (h:t<2 ^ 64):t<2 ^ Lib.bitLen t:=lt_bitLenAux 64 t h
theorem bitLen_pos (t:Nat) (h:t≠0):1≤Lib.bitLen t:=by
 unfold Lib.bitLen
 rw[show(64:Nat)=63+1 from rfl,Lib.bitLenAux,if_neg h]
 omega
theorem bitLen_ge (t:Nat) (h0:t≠0):2 ^ (Lib.bitLen t - 1)≤t:=by
 rcases Nat.lt_or_ge t (2 ^ (Lib.bitLen t - 1))with h|h
 ·exfalso
  have h1:=Lib.bitLenAux_le 64 t _ h
  have h2:=bitLen_pos t h0
  unfold Lib.bitLen at h1 h2
  omega
 ·exact h
theorem lz_facts {v t s:Nat} (hv:v≠0) (ht:v / 4294967296 ^ (nd v - 1)=t) (hs:s+Lib.bitLen t=32):
  s<32∧t<4294967296∧nd (v*2 ^ s)=nd v∧2147483648≤dg (v*2 ^ s) (nd v - 1)∧v*2 ^ s<4294967296 ^ (nd v)∧4294967296 ^ (nd v - 1)*2147483648≤v*2 ^ s:=by
 obtain⟨m,hm⟩:∃ m,nd v=m+1:=⟨nd v - 1,by have:=nd_pos.2 hv;omega⟩
 have h1:=nd_top hv
 have h2:=nd_le.1 (Nat.le_refl (nd v))
 rw[hm]at h1 h2 ht
 rw[hm]
 simp only[Nat.add_sub_cancel]at *
 have hP:0<4294967296 ^ m:=Dig.pow_pos m
 have t0:t≠0:=by
  have:1≤v / 4294967296 ^ m:=(Nat.le_div_iff_mul_le hP).2 (by omega)
  omega
 have t1:t<4294967296:=by rw[← ht,Nat.div_lt_iff_lt_mul hP,← pow_succ'];exact h2
 have l3:=lt_bitLen t (by omega)
 have l2:=bitLen_ge t t0
 have l1:=bitLen_pos t t0
 generalize Lib.bitLen t=L at *
 obtain⟨l,rfl⟩:∃ l,L=l+1:=⟨L - 1,by omega⟩
 have hs1:s<32:=by omega
 have e1:2 ^ s*2 ^ (l+1)=4294967296:=by rw[← Nat.pow_add,hs]
 have e2:2 ^ s*2 ^ l=2147483648:=by rw[Nat.pow_succ,← Nat.mul_assoc]at e1;omega
 simp only[Nat.add_sub_cancel]at l2
 have v1:4294967296 ^ m*t≤v:=by rw[← ht];exact Nat.mul_div_le _ _
 have v2:v<4294967296 ^ m*(t+1):=by rw[← ht];exact Nat.lt_mul_div_succ _ hP
 obtain⟨P,hPm⟩:∃ P,4294967296 ^ m=P:=⟨_,rfl⟩
 rw[hPm]at hP v1 v2 ⊢
 have a1:P*2147483648≤v*2 ^ s:=by
  have h5:=Nat.mul_le_mul_left P (Nat.mul_le_mul_left (2 ^ s) l2)
  have h6:=Nat.mul_le_mul_right (2 ^ s) v1
  rw[e2]at h5
  have e3:P*(2 ^ s*t)=P*t*2 ^ s:=by grind
  omega
 have a2:v*2 ^ s<4294967296*P:=by
  have h5:=Nat.mul_le_mul_left P (Nat.mul_le_mul_left (2 ^ s) (show t+1≤2 ^ (l+1)from l3))
  have h6:=Nat.mul_lt_mul_of_pos_right v2 (Nat.two_pow_pos s)
  rw[e1]at h5
  have e3:P*(2 ^ s*(t+1))=P*(t+1)*2 ^ s:=by grind
  omega
 have n1:nd (v*2 ^ s)=m+1:=by
  have h5:=(nd_le (v:=v*2 ^ s) (k:=m+1)).2 (by rw[pow_succ'];exact hPm▸a2)
  have h6:¬ nd (v*2 ^ s)≤m:=fun h7=>by
   have h8:=nd_le.1 h7
   rw[hPm]at h8
   have h9:=Nat.mul_le_mul_left P (show 1≤2147483648 by omega)
   omega
  omega
 refine⟨hs1,t1,n1,?_,by rw[pow_succ',hPm];exact a2,a1⟩
 unfold dg
 rw[hPm]
 have h5:2147483648≤v*2 ^ s / P:=(Nat.le_div_iff_mul_le hP).2 (by rw[Nat.mul_comm];exact a1)
 have h6:v*2 ^ s / P<4294967296:=by rw[Nat.div_lt_iff_lt_mul hP];exact a2
 rw[Nat.mod_eq_of_lt h6];exact h5
def sg (s:Bool) (m:Nat):Int:=if s then -(m:Int)else(m:Int)
theorem sg_abs (s:Bool) (m:Nat):(sg s m).natAbs=m:=by unfold sg;split <;> omega
theorem sg_neg (s:Bool) (m:Nat):decide (sg s m<0)=(s&&decide (m≠0)):=by
 cases s
 ·simp[sg]
 ·simp only[sg,if_true,Bool.true_and,decide_eq_decide];omega
theorem sg_same (s:Bool) (u v:Nat):sg s u+sg s v=sg s (u+v):=by unfold sg;split <;> omega
theorem sg_less (s:Bool) (u v:Nat) (h:v≤u):sg s u+sg (!s) v=sg s (u - v):=by cases s <;> simp[sg] <;> omega
theorem sg_more (s:Bool) (u v:Nat) (h:u≤v):sg s u+sg (!s) v=sg (!s) (v - u):=by cases s <;> simp[sg] <;> omega
theorem sg_mul (s t:Bool) (u v:Nat):sg s u*sg t v=sg (s != t) (u*v):=by
 cases s <;> cases t <;> simp[sg,Int.neg_mul,Int.mul_neg]
theorem sg_not (s:Bool) (u:Nat):sg (!s) u=- sg s u:=by cases s <;> simp[sg]
theorem sg_false (u:Nat):sg false u=u:=rfl
theorem sg_self (z:Int):sg (decide (z<0)) z.natAbs=z:=by
 by_cases h:z<0
 ·rw[decide_eq_true h];simp only[sg,if_true];omega
 ·rw[decide_eq_false h];simp only[sg,Bool.false_eq_true,if_false];omega
def Zr (w:World) (s:Bool) (p:Option Addr) (n c:Nat) (z:Int):Prop:=∃ a,Dg w p c n a∧sg s (vf a n)=z
def Zs (w:World) (s:Bool) (p:Option Addr) (n c:Nat) (z:Int):Prop:=s=decide (z<0)∧nd z.natAbs=n∧Nm w p c z.natAbs
theorem Zr.keep {w w':World} {s:Bool} {p:Option Addr} {n c:Nat} {z:Int} (h:Zr w s p n c z) (hb:Below w.heap.size w w'):Zr w' s p n c z:=by
 obtain⟨a,h1,h2⟩:=h
 exact⟨a,h1.keep hb,h2⟩
theorem Zs.keep {w w':World} {s:Bool} {p:Option Addr} {n c:Nat} {z:Int} (h:Zs w s p n c z) (hb:Below w.heap.size w w'):Zs w' s p n c z:=⟨h.1,h.2.1,h.2.2.keep hb⟩
theorem Zs.raw {w:World} {s:Bool} {p:Option Addr} {n c:Nat} {z:Int} (h:Zs w s p n c z):Zr w s p n c z:=by
 obtain⟨h1,h2,h3⟩:=h
 unfold Nm at h3
 rw[h2]at h3
 exact⟨_,h3,by rw[h1,← h2,vf_nd,sg_self]⟩
theorem Zr.size {w:World} {s:Bool} {p:Option Addr} {n c:Nat} {z:Int} (h:Zr w s p n c z):nd z.natAbs≤n:=by
 obtain⟨a,h1,h2⟩:=h
 rw[← h2,sg_abs]
 exact nd_le.2 (vf_lt h1.lt)
def RetZ (w':World) (e:Ending) (z:Int):Prop:=∃ s p n c,e=.returned (.agg #[.bool s,.slice p n c])∧Zs w' s p n c z
theorem zs_of {w:World} {p:Option Addr} {c m k:Nat} {s t:Bool} (h:Nm w p c m) (hk:nd m=k) (ht:t=(s&&decide (0<k))):Zs w t p k c (sg s m):=by
 refine⟨?_,by rw[sg_abs];exact hk,by rw[sg_abs];exact h⟩
 rw[sg_neg,ht,← hk]
 congr 1
 rw[decide_eq_decide]
 exact nd_pos
def cells32 (a:Nat→Nat) (n:Nat):List Value:=(List.range n).map fun i=>.int .u32 (a i:Nat)
theorem cells32_len (a:Nat→Nat) (n:Nat):(cells32 a n).length=n:=by simp[cells32]
theorem cells32_get {a:Nat→Nat} {n j:Nat} (h:j<n):(cells32 a n)[j]?=some (.int .u32 (a j:Nat)):=by simp[cells32,h]
theorem cells32_of {a:Nat→Nat} {n j:Nat} {u:Value} (h:(cells32 a n)[j]?=some u):j<n∧u=.int .u32 (a j:Nat):=by
 have h1:j<n:=by
  rcases Nat.lt_or_ge j n with h1|h1
  ·exact h1
  ·rw[List.getElem?_eq_none (by rw[cells32_len];exact h1)]at h;cases h
 rw[cells32_get h1]at h
 injection h with h
 exact⟨h1,h.symm⟩
theorem cells32_one {a:Nat→Nat} {n:Nat}:∀ u∈cells32 a n,u.oneCell'=true:=by
 intro u hu
 obtain⟨i,_,rfl⟩:=List.mem_map.1 hu
 rfl
theorem Dg.of_own {w:World} {B n:Nat} {v:Value} {a:Nat→Nat} (h:w.ownsRow B 200 1 v n (cells32 a n)) (hl:∀ j,j<n→a j<4294967296):∃ p c,v=.slice p n c∧Dg w p c n a:=by
 rcases own_shape h with⟨rfl,rfl,_⟩ |⟨g,cap,rfl,_,hg,hc⟩
 ·exact⟨none,0,rfl,Nat.le_refl _,hl,.inl rfl⟩
 ·exact⟨_,_,rfl,hc,hl,.inr ⟨g,0,rfl,hg,fun j hj=>by rw[Nat.zero_add];exact own_read h (cells32_get hj)⟩⟩
theorem u32U:Tryz.prog.underlying 82=some (.slice 200):=Tryz.underlying82
theorem c_Clone (p:Option Addr) (c n:Nat) (a:Nat→Nat) (w:World) (h:Dg w p c n a) (hn:n≤35184372088830):
  Calls Tryz.prog 147 #[.slice p n c] w fun e w'=>RetD w' e n (vf a n)∧Below w.heap.size w w':=by
 cases p with
 | none=>
  obtain rfl:n=0:=by
   rcases h.at' with h1 |⟨g,o,e,_⟩
   ·exact h1
   ·cases e
  clear h
  have q22:∀ (w:World) (a:Option Addr) (n c n' c':Nat),(binOp .eql 82 (.slice a n c) (.slice none n' c')).run Tryz.prog w=.ok (.bool a.isNone) w:=fun w a n c n' c'=>Lib.run_eql_slice_nil w _ _ a n c n' c' u32U
  go_enter Tryz.func147,Tryz.ntmps147
  go_wp2
  go_ret
  exact⟨⟨none,0,a,rfl,⟨Nat.le_refl _,fun j hj=>absurd hj (Nat.not_lt_zero _),.inl rfl⟩,rfl⟩,Below.refl _ _⟩
 | some q=>
  have hcell:∀ (o:Obj) (j:Nat) (u:Value),(cells32 a n)[j]?=some u→(w.alloc o).cell? (q.add j)=some u:=by
   intro o j u hu
   obtain⟨hj,rfl⟩:=cells32_of hu
   obtain⟨g,o',e,hg,hc⟩:=h.head (by omega)
   injection e with e
   subst e
   rw[Addr.add_lit]
   exact Lib.cell?_alloc_some _ (hc j hj)
  have HC:=Kh hcell
  have HL:=Kh h.lt
  have HN:=Kh hn
  clear hcell h hn
  obtain⟨i0,hi,hz0,hz1,hz2⟩:=info_parts u32Info
  have q22:∀ (w:World) (a:Option Addr) (n c n' c':Nat),(binOp .eql 82 (.slice a n c) (.slice none n' c')).run Tryz.prog w=.ok (.bool a.isNone) w:=fun w a n c n' c'=>Lib.run_eql_slice_nil w _ _ a n c n' c' u32U
  go_enter Tryz.func147,Tryz.ntmps147
  go_wp2_with (at_builtin;refine wpList_append_own _ rfl _ _ 82 rfl w.heap.size 200 i0 (.int .u32 0) 1 4 u32U hi hz0 hz1 hz2 rfl (by decide) _ _ _ rfl (World.ownsRow_made w #[] 0 (Nat.le_refl _) (Nat.zero_le _) rfl) q n c (cells32 a n) rfl ?qc1 ?qc2 ?qc3 ?qc4 ?qc5 ?qc6 ?_)
  case qc1=>rw[cells32_len,Nat.mul_one]
  case qc2=>exact HC.out _
  case qc3=>exact cells32_one
  case qc4=>have:=HN.out;unfold maxLen;omega
  case qc5=>have:=HN.out;omega
  case qc6=>simp
  intro v' w1 hown hgrow hnil
  have hb:Below w.heap.size w w1:=((Below.refl _ w).alloc (Nat.le_refl _) _).grown hgrow (by simp) (by intro k hk;simp[Value.ownBlock]at hk;omega)
  obtain⟨p',c',rfl,hd⟩:=Dg.of_own (n:=n) (a:=a) (by simpa using hown) HL.out
  have HD:=Kh hd
  have HB:=Kh hb
  clear hown hgrow hnil hd hb
  go_wp2
  go_ret
  exact⟨⟨p',c',a,rfl,HD.out,rfl⟩,HB.out⟩
end Go.Proofs.YtenlbhlllgppmaaGreatDoor
