/- The span of the rows of an elimination, and the classes of vectors. No program in sight. -/
import Derived.Test.YtijgdhijdfgpfaaGreatDoorV25
import Derived.Test.YtijgdhijdfgpfaaGreatDoorV39
import Derived.Test.YtijgdhijdfgpfaaGreatDoorV35
import Derived.Test.YtijgdhijdfgpfaaGreatDoorV36
import Derived.Test.YtijgdhijdfgpfaaGreatDoorV19
import Derived.Test.YtijgdhijdfgpfaaGreatDoorV13
import Derived.Test.YtijgdhijdfgpfaaGreatDoorV30
import Derived.Test.YtijgdhijdfgpfaaGreatDoorV34
set_option linter.unusedSimpArgs false
set_option maxRecDepth 100000
set_option maxHeartbeats 8000000
namespace Go.Proofs.YtijgdhijdfgpfaaGreatDoor
namespace Eli
open Sie
def RSp (rows:Nat→Nat→Int) (k:Nat) (u:Nat→Rat):Prop:=∃ z:Nat→Rat,∀ q,u q=sumQ (fun i=>z i*(rows i q:Rat)) k
theorem RSp.nil (rows:Nat→Nat→Int) (k:Nat):RSp rows k (fun _=>0):=⟨fun _=>0,fun q=>(sumQ_zero (fun i _=>by grind)).symm⟩
theorem RSp.combine {rows:Nat→Nat→Int} {k:Nat} {u v:Nat→Rat} (hu:RSp rows k u) (c:Rat) (hv:RSp rows k v):RSp rows k (fun q=>u q+c*v q):=by
 obtain⟨y,ey⟩:=hu
 obtain⟨z,ez⟩:=hv
 refine⟨fun j=>y j+c*z j,fun q=>?_⟩
 dsimp only
 rw[ey,ez,← sumQ_mul,← sumQ_add]
 exact sumQ_congr fun i _=>by grind
theorem RSp.congr {rows:Nat→Nat→Int} {k:Nat} {u v:Nat→Rat} (hu:RSp rows k u) (h:∀ q,v q=u q):RSp rows k v:=by
 obtain⟨y,ey⟩:=hu
 exact⟨y,fun q=>by rw[h,ey]⟩
theorem RSp.mono {rows:Nat→Nat→Int} {k k':Nat} {u:Nat→Rat} (hu:RSp rows k u) (h:k≤k'):RSp rows k' u:=by
 obtain⟨y,ey⟩:=hu
 refine⟨fun j=>if j<k then y j else 0,fun q=>?_⟩
 rw[ey,sumQ_tail h (fun i h1 _=>by simp only[if_neg (Nat.not_lt.2 h1)];grind)]
 exact sumQ_congr fun i hi=>by simp only[if_pos hi]
theorem RSp.row {rows:Nat→Nat→Int} {k i:Nat} (hi:i<k):RSp rows k (fun q=>(rows i q:Rat)):=by
 refine⟨fun j=>if j=i then 1 else 0,fun q=>?_⟩
 rw[sumQ_single hi (fun j _ hne=>by simp only[if_neg hne];grind)]
 simp
theorem RSp.sum {rows:Nat→Nat→Int} {k:Nat} {L:Nat→Nat→Rat} {z:Nat→Rat}:∀ t,(∀ j,j<t→z j=0∨RSp rows k (L j))→RSp rows k (fun q=>sumQ (fun j=>z j*L j q) t)
 | 0,_=>(RSp.nil rows k).congr (fun _=>rfl)
 | t+1,h=>by
  have h1:=RSp.sum t (fun j hj=>h j (by omega)) (rows:=rows) (k:=k) (L:=L) (z:=z)
  rcases h t (Nat.lt_succ_self _)with h2|h2
  ·exact h1.congr (fun q=>by rw[sumQ,h2];grind)
  ·exact(h1.combine (z t) h2).congr (fun q=>by rw[sumQ])
theorem RSp.of_sp {rows:Nat→Nat→Int} {k t:Nat} {ld:Nat→Bool} {L:Nat→Nat→Rat} {u:Nat→Rat} (hu:Sp ld L t u) (h:∀ j,j<t→ld j=true→RSp rows k (L j)):RSp rows k u:=by
 obtain⟨z,hz,ez⟩:=hu
 refine(RSp.sum (L:=L) (z:=z) t (fun j hj=>?_)).congr ez
 cases hl:ld j with
 | false=>exact .inl (hz j hj hl)
 | true=>exact .inr (h j hj hl)
theorem Sp.sum {ld:Nat→Bool} {L:Nat→Nat→Rat} {t:Nat} {R:Nat→Nat→Rat} {z:Nat→Rat}:∀ k,(∀ j,j<k→z j=0∨Sp ld L t (R j))→Sp ld L t (fun q=>sumQ (fun j=>z j*R j q) k)
 | 0,_=>(Sp.nil ld L t).congr (fun _=>rfl)
 | k+1,h=>by
  have h1:=Sp.sum k (fun j hj=>h j (by omega)) (ld:=ld) (L:=L) (t:=t) (R:=R) (z:=z)
  rcases h k (Nat.lt_succ_self _)with h2|h2
  ·exact h1.congr (fun q=>by rw[sumQ,h2];grind)
  ·exact(h1.combine (z k) h2).congr (fun q=>by rw[sumQ])
theorem RSp.sp {rows:Nat→Nat→Int} {k t:Nat} {ld:Nat→Bool} {L:Nat→Nat→Rat} {u:Nat→Rat} (hu:RSp rows k u) (h:∀ i,i<k→Sp ld L t (fun q=>(rows i q:Rat))):Sp ld L t u:=by
 obtain⟨z,ez⟩:=hu
 exact(Sp.sum (R:=fun i q=>(rows i q:Rat)) (z:=z) k (fun j hj=>.inr (h j hj))).congr ez
theorem Sp.trim {ld:Nat→Bool} {L:Nat→Nat→Rat} {t n:Nat} {u:Nat→Rat} (hu:Sp ld L t u) (h:∀ j,n≤j→ld j=false):Sp ld L n u:=by
 by_cases ht:t≤n
 ·exact hu.mono ht
 ·obtain⟨z,hz,ez⟩:=hu
  refine⟨z,fun j hj hl=>hz j (by omega) hl,fun q=>?_⟩
  rw[ez]
  exact sumQ_tail (by omega) (fun i h1 h2=>by rw[hz i h2 (h i h1)];grind)
theorem Good.high {n B:Nat} {leads:Nat→List (Nat×Rat)} (h:Good n B leads) (j:Nat) (hj:n≤j):ldOf leads j=false:=ldOf_false ((h.ord j).top hj)
theorem put_facts {leads:Nat→List (Nat×Rat)} {x:Nat×Rat} {r:List (Nat×Rat)} (hno:leads x.1=[]):
  ldOf (Eli.put leads (x :: r)) x.1=true∧(∀ q,rowOf (Eli.put leads (x :: r)) x.1 q=1 / x.2*val (x :: r) q) ∧
  (∀ j,j≠x.1→ldOf (Eli.put leads (x :: r)) j=ldOf leads j∧rowOf (Eli.put leads (x :: r)) j=rowOf leads j) ∧
  ∀ t u,Sp (ldOf leads) (rowOf leads) t u→Sp (ldOf (Eli.put leads (x :: r))) (rowOf (Eli.put leads (x :: r))) t u:=by
 obtain⟨L',hL'⟩:∃ L',Eli.put leads (x :: r)=L':=⟨_,rfl⟩
 have e1:L' x.1=scl (x :: r):=by rw[← hL'];exact if_pos rfl
 have e2:∀ j,j≠x.1→L' j=leads j:=fun j hj=>by rw[← hL'];exact if_neg hj
 have e3:scl (x :: r)≠[]:=by rw[scl,List.map_cons];exact List.cons_ne_nil _ _
 have hld:ldOf L' x.1=true:=ldOf_true (by rw[e1];exact e3)
 have hld2:∀ j,j≠x.1→ldOf L' j=ldOf leads j:=fun j hj=>by rw[ldOf,e2 j hj];rfl
 have hro:∀ j,j≠x.1→rowOf L' j=rowOf leads j:=fun j hj=>by funext q;rw[rowOf,rowOf,hld2 j hj,e2 j hj]
 have hrx:∀ q,rowOf L' x.1 q=1 / x.2*val (x :: r) q:=fun q=>by rw[rowOf,hld,if_pos rfl,e1,val_scl]
 rw[hL']
 refine⟨hld,hrx,fun j hj=>⟨hld2 j hj,hro j hj⟩,fun t u hu=>hu.turn fun j _ hl=>?_⟩
 have hne:j≠x.1:=fun e=>by rw[e,ldOf_false hno]at hl;cases hl
 exact⟨by rw[hld2 j hne];exact hl,hro j hne⟩
theorem put_new {n B:Nat} {leads:Nat→List (Nat×Rat)} {v:Nat→Int} {t:Nat} {x:Nat×Rat} {r:List (Nat×Rat)} (h:Good n B leads) (hr:RowOk n leads v t (x :: r)) (hs:red leads (x :: r)=x :: r):leads x.1=[]:=by
 refine Classical.byContradiction fun hl=>?_
 obtain⟨⟨ho,_⟩,_⟩:=hr.step h hl
 rw[hs]at ho
 have:=ho.1
 omega
theorem elim_span {n B:Nat} {rows:Nat→Nat→Int} (hB:1≤B) (hb:∀ i q,(rows i q).natAbs≤B) (h0:∀ i q,n≤q→rows i q=0) (k:Nat):
  (∀ i,i<k→Sp (ldOf (elim n rows k)) (rowOf (elim n rows k)) n (fun q=>(rows i q:Rat)))∧∀ j,ldOf (elim n rows k) j=true→RSp rows k (rowOf (elim n rows k) j):=by
 induction k with
 | zero=>exact⟨fun i hi=>absurd hi (Nat.not_lt_zero _),fun j hj=>by cases hj⟩
 | succ k ih=>
  obtain⟨ih1,ih2⟩:=ih
  have hg:=Good.elim hB hb h0 k
  have hr:=RowOk.first n (Eli.elim n rows k) (rows k) (h0 k)
  obtain⟨t,h1,_⟩:=hr.steps hg n
  have hs:=hr.end_still hg
  rw[show elim n rows (k+1)=Eli.put (elim n rows k) (redN (elim n rows k) n (spr (rows k) n))from rfl]
  generalize redN (elim n rows k) n (spr (rows k) n)=r at h1 hs ⊢
  generalize elim n rows k=leads at ih1 ih2 hg h1 hs ⊢
  obtain⟨ho,u,hu,he⟩:=h1
  have hun:=hu.trim hg.high
  have hur:RSp rows k u:=RSp.of_sp hu (fun j _ hj=>ih2 j hj)
  cases r with
  | nil=>
   refine⟨fun i hi=>?_,fun j hj=>(ih2 j hj).mono (Nat.le_succ _)⟩
   by_cases e:i=k
   ·subst e
    exact hun.congr (fun q=>by rw[he,val_nil];grind)
   ·exact ih1 i (by omega)
  | cons x r=>
   have hno:=put_new hg ⟨ho,u,hu,he⟩ hs
   obtain⟨f1,f2,f3,f4⟩:=put_facts (r:=r) hno
   have hx:=ho.2.2.1
   have hxn:=ho.2.1
   refine⟨fun i hi=>?_,fun j hj=>?_⟩
   ·by_cases e:i=k
    ·subst e
     refine((f4 _ _ hun).combine x.2 (Sp.lead hxn f1)).congr (fun q=>?_)
     rw[he,f2]
     grind
    ·exact f4 _ _ (ih1 i (by omega))
   ·by_cases e:j=x.1
    ·subst e
     have h2:RSp rows (k+1) (fun q=>(rows k q:Rat)+(-1)*u q):=(RSp.row (Nat.lt_succ_self _)).combine (-1) (hur.mono (Nat.le_succ _))
     refine((RSp.nil rows (k+1)).combine (1 / x.2) h2).congr (fun q=>?_)
     rw[f2,he]
     grind
    ·obtain⟨g1,g2⟩:=f3 j e
     rw[g1]at hj
     rw[g2]
     exact(ih2 j hj).mono (Nat.le_succ _)
theorem Inv.unique {B:Nat} {ld:Nat→Bool} {L:Nat→Nat→Rat} {R:Nat→Nat→Int} (h:Inv B ld L R) {n:Nat} {x y u v:Nat→Rat} (hu:Sp ld L n u) (hv:Sp ld L n v)
  (he:∀ q,q<n→sumQ (fun f=>(if ld f then 0 else x f)*L f q) n+u q=sumQ (fun f=>(if ld f then 0 else y f)*L f q) n+v q):∀ f,f<n→ld f=false→x f=y f:=by
 obtain⟨a,ha,ea⟩:=hu
 obtain⟨b,hb,eb⟩:=hv
 have h1:=h.tri (t:=n) (z:=fun j=>((if ld j then 0 else x j)+a j)+(-1)*((if ld j then 0 else y j)+b j)) (fun q hq=>by
  have e:=he q hq
  rw[ea,eb]at e
  have e2:sumQ (fun j=>(((if ld j then 0 else x j)+a j)+(-1)*((if ld j then 0 else y j)+b j))*L j q) n
    =(sumQ (fun f=>(if ld f then 0 else x f)*L f q) n+sumQ (fun j=>a j*L j q) n)+(-1)*(sumQ (fun f=>(if ld f then 0 else y f)*L f q) n+sumQ (fun j=>b j*L j q) n):=by
   rw[← sumQ_add,← sumQ_add,← sumQ_mul,← sumQ_add]
   exact sumQ_congr fun i _=>by grind
  rw[e2,e]
  grind)
 intro f hf hl
 have h2:=h1 f hf
 rw[ha f hf hl,hb f hf hl,hl]at h2
 simp only[Bool.false_eq_true,if_false]at h2
 grind
theorem class_of {n B:Nat} {leads:Nat→List (Nat×Rat)} (h:Good n B leads) (V:Nat→Rat):∀ m,m≤n →
  ∃ u,Sp (ldOf leads) (rowOf leads) n u∧∀ q,(if q<m then V q else 0)=sumQ (fun f=>(if ldOf leads f then 0 else sumQ (fun j=>V j*crd leads n n j f) m)*rowOf leads f q) n+u q
 | 0,_=>⟨fun _=>0,Sp.nil _ _ _,fun q=>by
   rw[if_neg (Nat.not_lt_zero _),sumQ_zero (fun i _=>?_)]
   ·grind
   ·rw[sumQ];split <;> grind⟩
 | m+1,hm=>by
  obtain⟨u,hu,eu⟩:=class_of h V m (by omega)
  obtain⟨w,hw,ew⟩:=said h n m (by omega) (by omega) n (by omega) (Nat.le_refl _)
  refine⟨_,hu.combine (V m) hw,fun q=>?_⟩
  have e1:(if q<m+1 then V q else 0)=(if q<m then V q else 0)+V m*(if q=m then(1:Rat)else 0):=by
   by_cases h1:q=m
   ·rw[h1,if_pos (by omega),if_neg (by omega),if_pos rfl];grind
   ·rw[if_neg h1]
    by_cases h2:q<m
    ·rw[if_pos (by omega),if_pos h2];grind
    ·rw[if_neg (by omega),if_neg h2];grind
  have e2:sumQ (fun f=>(if ldOf leads f then 0 else sumQ (fun j=>V j*crd leads n n j f) (m+1))*rowOf leads f q) n=sumQ (fun f=>(if ldOf leads f then 0 else sumQ (fun j=>V j*crd leads n n j f) m)*rowOf leads f q) n+V m*sumQ (fun f=>(if ldOf leads f then 0 else crd leads n n m f)*rowOf leads f q) n:=by
   rw[← sumQ_mul,← sumQ_add]
   refine sumQ_congr fun f _=>?_
   rw[sumQ]
   split <;> grind
  rw[e1,eu,ew,e2]
  grind
theorem class_zero {n B:Nat} {leads:Nat→List (Nat×Rat)} (h:Good n B leads) {V:Nat→Rat} (hV:Sp (ldOf leads) (rowOf leads) n V) {f:Nat} (hf:f<n) (hl:leads f=[]):sumQ (fun j=>V j*crd leads n n j f) n=0:=by
 obtain⟨u,hu,eu⟩:=class_of h V n (Nat.le_refl _)
 obtain⟨R,hi⟩:=h.inv
 exact hi.unique (x:=fun f=>sumQ (fun j=>V j*crd leads n n j f) n) (y:=fun _=>0) hu hV (fun q hq=>by
  rw[← eu,if_pos hq,sumQ_zero (fun i _=>?_)]
  ·grind
  ·split <;> grind) f hf (ldOf_false hl)
end Eli
end Go.Proofs.YtijgdhijdfgpfaaGreatDoor
namespace Go.Proofs.YtijgdhijdfgpfaaGreatDoor
open Eli
theorem relZ_of {n wt:Nat} {D:Int} (hw:wt≤22) {f:Nat} (hf:f∈frs (elF n wt D) (cntF n wt)):RelZ n wt D (fun j=>crd (elF n wt D) (cntF n wt) (cntF n wt) j f):=by
 intro r hr
 obtain⟨h1,h2⟩:=frs_mem.1 hf
 have h:=class_zero (elF_good hw) ((elim_span (by omega) (rowF_small (relF_small hw)) (rowF_zero _ _) _).1 r hr) h1 h2
 rw[← h]
 refine sumQ_congr (fun k hk=>?_)
 have hk':k<cntF n wt:=hk
 have e:rowF (cntF n wt) (relF n wt D) r k=relOf n wt D r k:=by
  unfold rowF relF
  rw[if_pos hk']
  have e1:(r*cntF n wt+k) / ((wt+1)*(pts n (n*n)).length)=r:=by
   show(r*cntF n wt+k) / cntF n wt=r
   rw[Nat.mul_comm,Nat.mul_add_div (by omega),Nat.div_eq_of_lt hk',Nat.add_zero]
  have e2:(r*cntF n wt+k) % ((wt+1)*(pts n (n*n)).length)=k:=by
   show(r*cntF n wt+k) % cntF n wt=k
   rw[Nat.mul_comm,Nat.mul_add_mod,Nat.mod_eq_of_lt hk']
  rw[e1,e2]
 rw[e]
end Go.Proofs.YtijgdhijdfgpfaaGreatDoor
namespace Go.Proofs.YtijgdhijdfgpfaaGreatDoor
open Go.RowKit Eli
abbrev C0_4 (B:Nat) (w0 w:World) (b0 b1 b2 b3:Addr):Prop:=w.cell? b0=some (cellOf w b0)∧w.frozen? b0=false∧Sts w b0.block∧w.cell? b1=some (cellOf w b1)∧w.frozen? b1=false∧Sts w b1.block∧w.cell? b2=some (cellOf w b2)∧w.frozen? b2=false∧Sts w b2.block∧w.cell? b3=some (cellOf w b3)∧w.frozen? b3=false∧Sts w b3.block∧Below B w0 w∧B≤w.heap.size
theorem S0_4_next {B:Nat} {w0 w w':World} {b0 b1 b2 b3:Addr} (hb:Below w.heap.size w w') (h:C0_4 B w0 w b0 b1 b2 b3):C0_4 B w0 w' b0 b1 b2 b3:=SS.next (B:=B) (w0:=w0) (l:=([]:List (Addr×Value))) (m:=[b0,b1,b2,b3]) hb h
theorem S0_4_put {B:Nat} {w0 w:World} {b0 b1 b2 b3:Addr} (h:C0_4 B w0 w b0 b1 b2 b3) {p0 p1 p2 p3:Addr} {u0 u1 u2 u3:Value} (hi0:NotInt u0) (hp0:B≤p0.block) (hi1:NotInt u1) (hp1:B≤p1.block) (hi2:NotInt u2) (hp2:B≤p2.block) (hi3:NotInt u3) (hp3:B≤p3.block):C0_4 B w0 ((((w.setCell p0 u0).setCell p1 u1).setCell p2 u2).setCell p3 u3) b0 b1 b2 b3:=(SS.put (B:=B) (w0:=w0) (l:=([]:List (Addr×Value))) (m:=[b0,b1,b2,b3]) (SS.put (B:=B) (w0:=w0) (l:=([]:List (Addr×Value))) (m:=[b0,b1,b2,b3]) (SS.put (B:=B) (w0:=w0) (l:=([]:List (Addr×Value))) (m:=[b0,b1,b2,b3]) (SS.put (B:=B) (w0:=w0) (l:=([]:List (Addr×Value))) (m:=[b0,b1,b2,b3]) h p0 u0 hi0 hp0 (by simp[*])) p1 u1 hi1 hp1 (by simp[*])) p2 u2 hi2 hp2 (by simp[*])) p3 u3 hi3 hp3 (by simp[*]))
theorem frac_val {n:Int} {d g:Nat} (hd:0<d) (hg:Nat.gcd n.natAbs d=g):(Rat.divInt n d).num=Int.tdiv n g∧((Rat.divInt n d).den:Int)=Int.tdiv (d:Int) g:=by
 have h0:(0:Int)<(d:Int):=by omega
 have hgd:Int.gcd n (d:Int)=g:=hg
 have hgp:0<g:=by rw[← hg];exact Nat.gcd_pos_of_pos_right _ hd
 have h1:=over_num (n:=n) h0
 have h2:=over_den (n:=n) h0
 rw[hgd]at h1 h2
 have hdv:((g:Nat):Int)∣n:=by rw[← hgd];exact Int.gcd_dvd_left ..
 rw[h1,h2]
 refine⟨?_,?_⟩
 ·rw[Int.tdiv_eq_ediv]
  by_cases hn:0≤n
  ·rw[if_pos (.inl hn),Int.add_zero]
  ·rw[if_pos (.inr hdv),Int.add_zero]
 ·rw[Int.tdiv_eq_ediv_of_nonneg (by omega)]
theorem c_Frac (n:Int) (d:Nat) (w:World) (hn:-1000000≤n) (hn':n≤1000000) (hd:0<d) (hd':d≤1000000):
  Calls Tryz.prog 43 #[.int .i64 n,.int .i64 d] w fun e w'=>RetQ w' e (Rat.divInt n d)∧Below w.heap.size w w':=by
 obtain⟨g,hg⟩:∃ g,Nat.gcd n.natAbs d=g:=⟨_,rfl⟩
 have hgp:0<g:=by rw[← hg];exact Nat.gcd_pos_of_pos_right _ hd
 have hgd:g≤d:=by rw[← hg];exact Nat.gcd_le_right _ hd
 obtain⟨e1,e2⟩:=frac_val (n:=n) hd hg
 obtain⟨P,hP⟩:∃ P,Int.tdiv n (g:Int)=P:=⟨_,rfl⟩
 obtain⟨Q,hQ⟩:∃ Q,Int.tdiv (d:Int) (g:Int)=Q:=⟨_,rfl⟩
 have hPl:-1000000≤P∧P≤1000000:=by
  have h:(Int.tdiv n (g:Int)).natAbs≤n.natAbs:=by rw[Int.natAbs_tdiv];exact Nat.div_le_self _ _
  rw[hP]at h;omega
 have hQl:-1000000≤Q∧Q≤1000000:=by
  have h:(Int.tdiv (d:Int) (g:Int)).natAbs≤(d:Int).natAbs:=by rw[Int.natAbs_tdiv];exact Nat.div_le_self _ _
  rw[hQ]at h;omega
 obtain⟨hP1,hP2⟩:=hPl
 obtain⟨hQ1,hQ2⟩:=hQl
 rw[hP]at e1
 rw[hQ]at e2
 have HE:=Kh (And.intro e1 e2)
 have HZ1:=Kh (fun w1=>c_Z P w1 (by omega) (by omega))
 have HZ2:=Kh (fun w1=>c_Z Q w1 (by omega) (by omega))
 have HG:=Kh hg
 have hmx:(if n < -n then -n else n)=(n.natAbs:Int):=by split <;> omega
 have hdi:¬ ((d:Int)<0):=by omega
 clear e1 e2 hg
 go_enter Tryz.func43,Tryz.ntmps43
 go_wp2_with fail
 obtain⟨w0,hw0,X0,hb0⟩:=bx1 w #[.bool false,.slice none 0 0,.bool false,.slice none 0 0] 67
 rw[hw0]
 have HX0:=Kh X0
 have HB0:=Kh hb0
 have hmx2:max n (-n)=(n.natAbs:Int):=by omega
 rw[hmx2]
 have HNA:=Kh (show n.natAbs≤1000000 by omega)
 clear hw0 X0 hb0 hmx hmx2
 go_loopw [5,6] (fun x y wr=>∃ a b:Nat,x=.int .i64 a∧y=.int .i64 b∧Nat.gcd a b=g∧a≤1000000∧b≤1000000∧∃ m,wr=w0.drewN m) (fun _ y _=>(intOf y).toNat)
 case atStart=>exact⟨n.natAbs,d,rfl,rfl,HG.out,HNA.out,hd',0,rfl⟩
 case round=>
  obtain⟨a,b,rfl,rfl,hab,ha,hb,m,rfl⟩:=hrel
  rcases Nat.eq_zero_or_pos b with rfl|hbp
  ·rw[Nat.gcd_zero_right]at hab
   subst hab
   have hb1:Below w0.heap.size w0 (w0.drewN m):=below_drewN' (Below.refl _ _) m
   generalize w0.drewN m=wq at hb1 ⊢
   have hx1:=bk HX0 hb1
   have HX1:=Kh hx1
   have HB1:=bt HB0 hb1
   obtain⟨gr,hgr⟩:∃ x,w.heap.size=x:=⟨_,rfl⟩
   rw[hgr]at hx1 HX1 ⊢
   have HGR:=Kh hgr
   have T0:=Sts.of hx1 (by intro v hv;simp at hv;rcases hv with rfl|rfl|rfl|rfl <;> first|exact NotInt.bool _|exact NotInt.slice _ _ _)
   have HT0:=Kh T0
   have hgl:gr<wq.heap.size:=hx1.lt
   have v1:IntKind.i64.wrap P=P:=IntWalk.i64_in _ (by omega)
   have v2:IntKind.i64.wrap Q=Q:=IntWalk.i64_in _ (by omega)
   have e5:((a:Int)==0)=false:=beq_eq_false_iff_ne.2 (by omega)
   have e6:a≠0:=by omega
   clear hb1 hgr HB0 HX0
   go_upto_region 6 with(fail)
   have HK1:=Kh (show ∀ wb,Below wq.drew.heap.size wq.drew wb→Below wq.heap.size wq wb from fun wb hb=>(Below.refl _ wq).drew.trans hb)
   have HK2:=Kh (show ∀ wa wb,Below wq.heap.size wq wa→Below wa.heap.size wa wb→Below wq.heap.size wq wb from fun wa wb h1 h2=>h1.trans (h2.mono h1.size))
   have hS0:wq.drew.cell? ⟨gr,0,none⟩=some (cellOf wq.drew ⟨gr,0,none⟩)∧wq.drew.frozen? ⟨gr,0,none⟩=false∧Sts wq.drew (gr)∧wq.drew.cell? ⟨gr,1,none⟩=some (cellOf wq.drew ⟨gr,1,none⟩)∧wq.drew.frozen? ⟨gr,1,none⟩=false∧Sts wq.drew (gr)∧wq.drew.cell? ⟨gr,2,none⟩=some (cellOf wq.drew ⟨gr,2,none⟩)∧wq.drew.frozen? ⟨gr,2,none⟩=false∧Sts wq.drew (gr)∧wq.drew.cell? ⟨gr,3,none⟩=some (cellOf wq.drew ⟨gr,3,none⟩)∧wq.drew.frozen? ⟨gr,3,none⟩=false∧Sts wq.drew (gr)∧Below 0 wq wq.drew∧0≤wq.drew.heap.size:=S0_4_next (Below.refl _ wq).drew ⟨cellOf_some (by rw[hx1.at_ 0 rfl];rfl),hx1.free_ 0,T0,cellOf_some (by rw[hx1.at_ 1 rfl];rfl),hx1.free_ 1,T0,cellOf_some (by rw[hx1.at_ 2 rfl];rfl),hx1.free_ 2,T0,cellOf_some (by rw[hx1.at_ 3 rfl];rfl),hx1.free_ 3,T0,(Below.refl 0 wq),Nat.le_trans (Nat.zero_le _) (Below.size (Below.refl 0 wq))⟩
   clear hx1 T0
   have M1:True:=trivial
   go_region_held3 (fun w1=>w1.cell? ⟨gr,0,none⟩=some (cellOf w1 ⟨gr,0,none⟩)∧w1.frozen? ⟨gr,0,none⟩=false∧Sts w1 (gr)∧w1.cell? ⟨gr,1,none⟩=some (cellOf w1 ⟨gr,1,none⟩)∧w1.frozen? ⟨gr,1,none⟩=false∧Sts w1 (gr)∧w1.cell? ⟨gr,2,none⟩=some (cellOf w1 ⟨gr,2,none⟩)∧w1.frozen? ⟨gr,2,none⟩=false∧Sts w1 (gr)∧w1.cell? ⟨gr,3,none⟩=some (cellOf w1 ⟨gr,3,none⟩)∧w1.frozen? ⟨gr,3,none⟩=false∧Sts w1 (gr)∧Below 0 wq w1∧0≤w1.heap.size)
    (first|with_reducible exact hS0|with_reducible assumption |(refine S0_4_next (by with_reducible assumption) ?_;assumption) |(refine S0_4_put ?_ ?_ ?_ ?_ ?_ ?_ ?_ ?_ ?_ <;> first|assumption|exact NotInt.bool _|exact NotInt.slice _ _ _ |(dsimp only;omega) |(simp;done)))
    (first
     |(go_at_call 50;(with_reducible refine(HZ1.out _).mono ?_);rintro e w2 ⟨⟨s2,p2,n2,c2,rfl,hz2⟩,hb2⟩;have HBA:=Kh (show Below wq.heap.size wq w2 from by first|exact HK2.out _ _ HBA.out hb2|exact HK1.out _ hb2))
     |(go_at_call 50;(with_reducible refine(HZ2.out _).mono ?_);rintro e w3 ⟨⟨s3,p3,n3,c3,rfl,hz3⟩,hb3⟩;have HBA:=Kh (show Below wq.heap.size wq w3 from by first|exact HK2.out _ _ HBA.out hb3|exact HK1.out _ hb3)))
   all_goals go_wp2
   all_goals first
    |(have hqf:Qs w3 s2 p2 n2 c2 s3 p3 n3 c3 (Rat.divInt n d):=⟨by rw[HE.out.1];exact hz2.keep hb3,by rw[HE.out.2];exact hz3⟩
      have X3:=HX1.out.below_ HBA.out HX1.out.lt
      obtain⟨w9,hw9⟩:∃ w9,(((w3.setCell ⟨gr,0,none⟩ (.bool s2)).setCell ⟨gr,1,none⟩ (.slice p2 n2 c2)).setCell ⟨gr,2,none⟩ (.bool s3)).setCell ⟨gr,3,none⟩ (.slice p3 n3 c3)=w9:=⟨_,rfl⟩
      obtain⟨E0,E1,E2,E3,hq9⟩:=rat_put X3 hqf hw9
      have hb9:Below w.heap.size w w9:=by rw[← hw9];exact below_putR (HB1.out.trans (HBA.out.mono HB1.out.size)) (Nat.le_of_eq HGR.out) _ _ _ _
      rw[hw9]
      try simp only[Exit.inBlock,Exit.then]
      refine bodyPost_ret (by simp[results,Tryz.results43,go_sem,E0,E1,E2,E3];try rfl) rfl ?_
      exact⟨⟨s2,p2,n2,c2,s3,p3,n3,c3,rfl,hq9⟩,hb9⟩)
    |(have hqf:Qs w2 s2 p2 n2 c2 s3 p3 n3 c3 (Rat.divInt n d):=⟨by rw[HE.out.1];exact hz2,by rw[HE.out.2];exact hz3.keep hb2⟩
      have X3:=HX1.out.below_ HBA.out HX1.out.lt
      obtain⟨w9,hw9⟩:∃ w9,(((w2.setCell ⟨gr,0,none⟩ (.bool s2)).setCell ⟨gr,1,none⟩ (.slice p2 n2 c2)).setCell ⟨gr,2,none⟩ (.bool s3)).setCell ⟨gr,3,none⟩ (.slice p3 n3 c3)=w9:=⟨_,rfl⟩
      obtain⟨E0,E1,E2,E3,hq9⟩:=rat_put X3 hqf hw9
      have hb9:Below w.heap.size w w9:=by rw[← hw9];exact below_putR (HB1.out.trans (HBA.out.mono HB1.out.size)) (Nat.le_of_eq HGR.out) _ _ _ _
      rw[hw9]
      try simp only[Exit.inBlock,Exit.then]
      refine bodyPost_ret (by simp[results,Tryz.results43,go_sem,E0,E1,E2,E3];try rfl) rfl ?_
      exact⟨⟨s2,p2,n2,c2,s3,p3,n3,c3,rfl,hq9⟩,hb9⟩)
  ·have hbi:(0:Int)<(b:Int):=by omega
   have e1:Int.tmod (a:Int) (b:Int)=((a % b:Nat):Int):=by rw[Int.tmod_eq_emod_of_nonneg (by omega)];rfl
   have e2:((b:Int)==0)=false:=beq_eq_false_iff_ne.2 (by omega)
   have e3:b≠0:=by omega
   obtain⟨r,hr⟩:∃ r,a % b=r:=⟨_,rfl⟩
   have hrb:r<b:=by rw[← hr];exact Nat.mod_lt _ hbp
   have HGN:=Kh (show Nat.gcd b r=g by rw[← hr,Nat.gcd_comm b,← Nat.gcd_rec,Nat.gcd_comm];exact hab)
   rw[hr]at e1
   have v1:IntKind.i64.wrap (r:Int)=(r:Nat):=IntWalk.i64_in _ (by omega)
   clear hr hab
   go_wp2_with fail
   go_quiet (fail)
   go_wp2
   go_roundw
   case rel=>exact⟨b,r,rfl,rfl,HGN.out,hb,by omega,_,dr2 _ _ _⟩
   case measure=>simp[intOf];omega
def plU (x:Nat→Int) (ln k:Nat):Rat:=Rat.divInt (if k<ln then x k else 0) ((1+k % 2:Nat):Int)
theorem plU_size {x:Nat→Int} {ln k:Nat} (hx:∀ k,k<ln→-128≤x k∧x k≤127):hq (plU x ln k)≤1:=by
 refine hq_over (by omega) (nd_le.2 ?_) (nd_le.2 ?_)
 ·split
  ·rename_i h
   have:=hx k h
   omega
  ·decide
 ·omega
theorem c_Poly (p:Option Addr) (ln c:Nat) (x:Nat→Int) (n:Nat) (w:World) (hp:∀ k,k<ln→∃ g o,p=some ⟨g,o,none⟩∧g<w.heap.size∧w.cell? ⟨g,o+k,none⟩=some (.int .i8 (x k))) (hx:∀ k,k<ln→-128≤x k∧x k≤127) (hn:n≤1000):
  Calls Tryz.prog 17 #[.slice p ln c,.int .i64 n] w fun e w'=>(∃ v',e=.returned v'∧OwnQ (fun j=>IsQ (plU x ln j)) w' w.heap.size v' n)∧Below w.heap.size w w':=by
 have HN:=Kh (OwnQ.nil (fun j=>IsQ (plU x ln j)) w w.heap.size)
 have HP:=Kh hp
 have HX:=Kh hx
 clear hp hx
 go_enter Tryz.func17,Tryz.ntmps17
 go_wp2
 go_loopw [5,6] (fun v i wr=>∃ k:Nat,k≤n∧i=.int .i64 k∧OwnQ (fun j=>IsQ (plU x ln j)) wr w.heap.size v k∧Below w.heap.size w wr) (fun _ i _=>n - (intOf i).toNat)
 case atStart=>exact⟨0,Nat.zero_le _,rfl,HN.out,Below.refl _ _⟩
 case round=>
  obtain⟨k,hk,rfl,ho,hb⟩:=hrel
  have HO:=Kh ho
  have HB:=Kh hb
  clear ho HN
  by_cases hlt:k<n
  ·obtain⟨r,hr⟩:∃ r,k % 2=r:=⟨_,rfl⟩
   have hr2:r<2:=by omega
   obtain⟨d,hd⟩:∃ d,1+r=d:=⟨_,rfl⟩
   have e1:Int.tmod (k:Int) 2=(r:Nat):=by rw[Int.tmod_eq_emod_of_nonneg (by omega)];omega
   have v0:IntKind.i64.wrap (r:Int)=(r:Nat):=IntWalk.i64_in _ (by omega)
   have e2:(1:Int)+(r:Int)=(d:Nat):=by omega
   have v1:IntKind.i64.wrap (d:Int)=(d:Nat):=IntWalk.i64_in _ (by omega)
   have HD:=Kh (show 1+k % 2=d by omega)
   have hd1:0<d∧d≤3:=by omega
   have HD1:=Kh hd1
   have hki:(k:Int)<(n:Int):=by omega
   by_cases hkl:k<ln
   ·obtain⟨g,o,rfl,hg,hc⟩:=HP.out k hkl
    obtain⟨z,hz⟩:∃ z,x k=z:=⟨_,rfl⟩
    have hzb:=HX.out k hkl
    rw[hz]at hc hzb
    have HZ:=Kh (show plU x ln k=Rat.divInt z d by rw[plU,if_pos hkl,hz,HD.out])
    have a0:wr.cell? ⟨g,o+k,none⟩=some (.int .i8 z):=(hb.cell (p:=⟨g,o+k,none⟩) hg).trans hc
    have v2:IntKind.i64.wrap z=z:=IntWalk.i64_in _ (by omega)
    have hkli:(k:Int)<(ln:Int):=by omega
    have HC:=Kh (c_Frac z d wr (by omega) (by omega) (by omega) (by omega))
    clear hb hz hc hd hr hd1 hzb
    go_wp2_with fail
    refine HC.out.mono ?_
    rintro e w2 ⟨⟨s,p1,i1,c1,t,q1,m,d1,rfl,hq⟩,hb2⟩
    obtain⟨xs,hK,hX⟩:=HO.out.keep (fun _=>IsQ.solid _) hb2
    have HK:=Kh hK
    have HX2:=Kh hX
    have HQ:=Kh (show IsQ (plU x ln k) w2 s p1 i1 c1 t q1 m d1 by rw[HZ.out];exact hq)
    have HB1:=bt HB hb2
    clear hK hX hq hb2 HO HB a0 HC
    go_wp2_with (at_builtin;refine wpl_app2 NotInt rfl (.tmp 22) (.tmp 28) _ 67 rfl Tryz.underlying22 ratInfo rfl (by decide) w.heap.size k u5 xs [.bool s,.slice p1 i1 c1,.bool t,.slice q1 m d1] rfl HK.out rfl rfl (one4 _ _ _ _ _ _ _ _) (by omega) (by omega) HB1.out.size (ni4 _ _ _ _ _ _ _ _) niz ?_;intro v' w' hown' hgr hat;have HO2:=Kh (OwnQ.push (W:=_) (fun _=>IsQ.solid _) HK.out HX2.out HQ.out hown' hgr);have HB2:=Kh (own_below HB1.out HK.out.1 hgr (Nat.le_refl _) HB1.out.size);clear hown' hgr hat)
    go_roundw
    case rel=>exact⟨k+1,by omega,by go_num,HO2.out,HB2.out⟩
    case measure=>simp[intOf];omega
   ·have HZ:=Kh (show plU x ln k=Rat.divInt 0 d by rw[plU,if_neg hkl,HD.out])
    have hkli:¬ ((k:Int)<(ln:Int)):=by omega
    have HC:=Kh (c_Frac 0 d wr (by omega) (by omega) (by omega) (by omega))
    clear hb hd hr hd1
    go_wp2_with fail
    refine HC.out.mono ?_
    rintro e w2 ⟨⟨s,p1,i1,c1,t,q1,m,d1,rfl,hq⟩,hb2⟩
    obtain⟨xs,hK,hX⟩:=HO.out.keep (fun _=>IsQ.solid _) hb2
    have HK:=Kh hK
    have HX2:=Kh hX
    have HQ:=Kh (show IsQ (plU x ln k) w2 s p1 i1 c1 t q1 m d1 by rw[HZ.out];exact hq)
    have HB1:=bt HB hb2
    clear hK hX hq hb2 HO HB HC
    go_wp2_with (at_builtin;refine wpl_app2 NotInt rfl (.tmp 22) (.tmp 28) _ 67 rfl Tryz.underlying22 ratInfo rfl (by decide) w.heap.size k u5 xs [.bool s,.slice p1 i1 c1,.bool t,.slice q1 m d1] rfl HK.out rfl rfl (one4 _ _ _ _ _ _ _ _) (by omega) (by omega) HB1.out.size (ni4 _ _ _ _ _ _ _ _) niz ?_;intro v' w' hown' hgr hat;have HO2:=Kh (OwnQ.push (W:=_) (fun _=>IsQ.solid _) HK.out HX2.out HQ.out hown' hgr);have HB2:=Kh (own_below HB1.out HK.out.1 hgr (Nat.le_refl _) HB1.out.size);clear hown' hgr hat)
    go_roundw
    case rel=>exact⟨k+1,by omega,by go_num,HO2.out,HB2.out⟩
    case measure=>simp[intOf];omega
  ·obtain rfl:k=n:=by omega
   clear hb
   go_wp2
   go_ret
   exact⟨⟨_,rfl,HO.out⟩,HB.out⟩
theorem c_sum (ga gb gc N ca cb cc:Nat) (A B C:Nat→Rat) (w:World) (hga:ga<w.heap.size) (hgb:gb<w.heap.size) (hgc:gc<w.heap.size) (hA:QRow (fun j=>IsQ (A j)) w ga N N) (hB:QRow (fun j=>IsQ (B j)) w gb N N) (hC:QRow (fun j=>IsQ (C j)) w gc N N) (hN:N≤1000) (hAs:∀ j,j<N→hq (A j)≤100000000) (hBs:∀ j,j<N→hq (B j)≤100000000) (hCs:∀ j,j<N→hq (C j)≤100000000):
  Calls Tryz.prog 22 #[.slice (some ⟨ga,0,none⟩) N ca,.slice (some ⟨gb,0,none⟩) N cb,.slice (some ⟨gc,0,none⟩) N cc] w fun e w'=>(∃ v,e=.returned v∧OwnQ (fun j=>IsQ (A j+(B j+C j))) w' w.heap.size v N)∧Below w.heap.size w w':=by
 have HN:=Kh (OwnQ.nil (fun j=>IsQ (A j+(B j+C j))) w w.heap.size)
 have HAR:=Kh hA
 have HBR:=Kh hB
 have HCR:=Kh hC
 have HG:=Kh (And.intro hga (And.intro hgb hgc))
 have HS:=Kh (show ∀ j,j<N→hq (A j)≤100000000∧hq (B j)≤100000000∧hq (C j)≤100000000 from fun j hj=>⟨hAs j hj,hBs j hj,hCs j hj⟩)
 clear hA hB hC hAs hBs hCs hga hgb hgc
 go_enter Tryz.func22,Tryz.ntmps22
 go_wp2
 go_loopw [7,8] (fun v i wr=>∃ k:Nat,k≤N∧i=.int .i64 k∧OwnQ (fun j=>IsQ (A j+(B j+C j))) wr w.heap.size v k∧Below w.heap.size w wr) (fun _ i _=>N - (intOf i).toNat)
 case atStart=>exact⟨0,Nat.zero_le _,rfl,HN.out,Below.refl _ _⟩
 case round=>
  obtain⟨k,hk,rfl,ho,hb⟩:=hrel
  obtain⟨we,rfl⟩:∃ we:World,we=wr:=⟨_,rfl⟩
  have HO:=Kh ho
  have HB:=Kh hb
  clear ho HN hb
  by_cases hlt:k<N
  ·have hki:(k:Int)<(N:Int):=by omega
   obtain⟨s1,p1,n1,c1,t1,q1,m1,d1,a10,a11,a12,a13,x1⟩:=(HAR.out.keep (fun _=>IsQ.solid _) HB.out).val k hlt
   obtain⟨s2,p2,n2,c2,t2,q2,m2,d2,a20,a21,a22,a23,x2⟩:=(HBR.out.keep (fun _=>IsQ.solid _) HB.out).val k hlt
   obtain⟨s3,p3,n3,c3,t3,q3,m3,d3,a30,a31,a32,a33,x3⟩:=(HCR.out.keep (fun _=>IsQ.solid _) HB.out).val k hlt
   have hsz:=HS.out k hlt
   have HA1:=Kh (fun W (hb:Below we.heap.size we W)=>c_qAddQ s2 p2 n2 c2 t2 q2 m2 d2 (B k) s3 p3 n3 c3 t3 q3 m3 d3 (C k) W (Qs.keep x2 hb) (Qs.keep x3 hb) (by omega) (by omega))
   have HA2:=Kh (fun W (hb:Below we.heap.size we W) s p n c t q m d (hq:Qs W s p n c t q m d (B k+C k))=>c_qAddQ s1 p1 n1 c1 t1 q1 m1 d1 (A k) s p n c t q m d (B k+C k) W (Qs.keep x1 hb) hq (by omega) (by have:=hq_add (B k) (C k);omega))
   clear x1 x2 x3 hsz
   go_upto_region 5 with(fail)
   refine rgX [17] (fun W=>W.cell? ⟨ga,k*4,none⟩=some (.bool s1)∧W.cell? ⟨ga,k*4+1,none⟩=some (.slice p1 n1 c1)∧W.cell? ⟨ga,k*4+2,none⟩=some (.bool t1)∧W.cell? ⟨ga,k*4+3,none⟩=some (.slice q1 m1 d1)∧W.cell? ⟨gb,k*4,none⟩=some (.bool s2)∧W.cell? ⟨gb,k*4+1,none⟩=some (.slice p2 n2 c2)∧W.cell? ⟨gb,k*4+2,none⟩=some (.bool t2)∧W.cell? ⟨gb,k*4+3,none⟩=some (.slice q2 m2 d2)∧W.cell? ⟨gc,k*4,none⟩=some (.bool s3)∧W.cell? ⟨gc,k*4+1,none⟩=some (.slice p3 n3 c3)∧W.cell? ⟨gc,k*4+2,none⟩=some (.bool t3)∧W.cell? ⟨gc,k*4+3,none⟩=some (.slice q3 m3 d3)) (fun W hb=>⟨cnx hb a10,cnx hb a11,cnx hb a12,cnx hb a13,cnx hb a20,cnx hb a21,cnx hb a22,cnx hb a23,cnx hb a30,cnx hb a31,cnx hb a32,cnx hb a33⟩) (fun HSE hHeld0=>?_)
   refine tkX 0 ?_;refine tkX 1 ?_;refine tkX 2 ?_;refine tkX 3 ?_;refine tkX 4 ?_;refine tkX 5 ?_;refine tkX 6 ?_;refine tkX 7 ?_;refine tkX 8 ?_;refine tkX 9 ?_;refine tkX 10 ?_;refine tkX 11 ?_;refine tkX 12 ?_
   refine stX 13 rfl (fun K hK=>?_)
   focus(go_simp;(with_reducible refine(HA1.out _ (Below.refl _ we).drew).mono ?_);rintro e w5 ⟨⟨s5,p5,n5,c5,t5,q5,m5,d5,rfl,hq5⟩,hb5⟩;have HB5:=Kh ((Below.refl _ we).drew.trans hb5:Below we.heap.size we w5);have HQ5:=Kh hq5;clear hq5 hb5;(first|with_reducible refine hK.out _ _ ?_ (fun hHeld1=>?_) |(go_wp2_with fail;with_reducible refine hK.out _ _ ?_ (fun hHeld1=>?_))))
   focus((try dsimp only);exact HSE.out _ HB5.out)
   focus(clear hK K;(try simp only[Act.put,lsa,lsz,lss]))
   refine stX 14 rfl (fun K hK=>?_)
   focus(go_simp;(with_reducible refine(HA2.out _ HB5.out _ _ _ _ _ _ _ _ HQ5.out).mono ?_);rintro e w6 ⟨⟨s6,p6,n6,c6,t6,q6,m6,d6,rfl,hq6⟩,hb6⟩;have HB6:=Kh (HB5.out.trans (hb6.mono HB5.out.size):Below we.heap.size we w6);have HQ6:=Kh hq6;clear hq6 hb6;(first|with_reducible refine hK.out _ _ ?_ (fun hHeld2=>?_) |(go_wp2_with fail;with_reducible refine hK.out _ _ ?_ (fun hHeld2=>?_))))
   focus((try dsimp only);exact HSE.out _ HB6.out)
   focus(clear hK K;(try simp only[Act.put,lsa,lsz,lss]))
   refine stX 15 rfl (fun K hK=>?_)
   focus(go_simp;refine hK.out _ _ ?_ (fun hHeld3=>?_))
   focus((try dsimp only);exact HSE.out _ (HB6.out.alloc HB6.out.size _))
   focus(clear hK K;(try simp only[Act.put,lsa,lsz,lss]))
   refine snX 16 rfl (fun K hK=>?_)
   focus(obtain⟨xs,hK6,hX6⟩:=HO.out.keep (fun _=>IsQ.solid _) HB6.out;refine step_app2 (W:=w6) NotInt rfl (.tmp 27) (.tmp 42) _ 67 rfl Tryz.underlying22 ratInfo rfl (by decide) w.heap.size k u7 xs [.bool s6,.slice p6 n6 c6,.bool t6,.slice q6 m6 d6] (by rfl) hK6 (by rfl) rfl (one4 _ _ _ _ _ _ _ _) (by omega) (by omega) (Nat.le_trans HB.out.size HB6.out.size) (ni4 _ _ _ _ _ _ _ _) niz ?_;intro v9 w9 hown9 hgr9 hat9;have HO9:=Kh (OwnQ.push (W:=w6) (fun _=>IsQ.solid _) hK6 hX6 HQ6.out hown9 hgr9);have HB9:=Kh (own_below (HB.out.trans (HB6.out.mono HB.out.size)) hK6.1 hgr9 (Nat.le_refl _) (Nat.le_trans HB.out.size HB6.out.size));clear hown9 hgr9 hat9;(first|with_reducible refine hK.out _ _ ?_ |(go_wp2_with fail;with_reducible refine hK.out _ _ ?_)))
   clear hK K
   (try simp only[Act.put,lsa,lsz,lss])
   refine tkJ 17 ?_
   refine dnX ?_
   go_wp2
   go_roundw
   case rel=>exact⟨k+1,by omega,by go_num,HO9.out,HB9.out⟩
   case measure=>simp[intOf];omega
  ·obtain rfl:k=N:=by omega
   go_wp2
   go_ret
   exact⟨⟨_,rfl,HO.out⟩,HB.out⟩
theorem ret_d {a b:Bool} (h:a=b):Ending.returned (.bool a)=Ending.returned (.bool b):=by rw[h]
theorem c_small42 (p q:Int) (w:World):Calls Tryz.prog 37 #[.agg #[.int .i64 p,.int .i64 q]] w fun e w'=>e=.returned (.bool (decide (q≤400)))∧Below w.heap.size w w':=by
 go_enter Tryz.func37,Tryz.ntmps37
 go_wp2
 go_ret
 exact⟨rfl,(Below.refl _ _).alloc (Nat.le_refl _) _⟩
theorem c_Quick (v:Value) (p q p' q':Int) (w:World):Calls Tryz.prog 15 #[.agg #[v,.int .i64 p,.int .i64 q,.int .i64 p',.int .i64 q']] w fun e w'=>e=.returned (.bool (decide (q≤400∧q'≤400)))∧Below w.heap.size w w':=by
 have HS:=Kh c_small42
 go_enter Tryz.func15,Tryz.ntmps15
 go_wp2_with fail
 obtain⟨w0,hw0,X0,hb0⟩:=bx1 w #[v,.int .i64 p,.int .i64 q,.int .i64 p',.int .i64 q'] 26
 rw[hw0]
 refine(HS.out p q w0).mono ?_
 rintro e w1 ⟨rfl,hb1⟩
 have X1:=X0.below_ hb1 X0.lt
 have x3:=X1.at_ 3 rfl
 have x4:=X1.at_ 4 rfl
 have HB1:=Kh (hb0.trans (hb1.mono hb0.size))
 clear hw0 X0 hb0 hb1 X1
 by_cases h:q≤400
 ·rw[decide_eq_true h]
  go_wp2_with fail
  refine(HS.out p' q' w1).mono ?_
  rintro e w2 ⟨rfl,hb2⟩
  have HB2:=bt HB1 hb2
  clear hb2
  go_wp2
  go_ret
  exact⟨ret_d (by simp[h]),HB2.out⟩
 ·rw[decide_eq_false h]
  go_wp2
  go_ret
  exact⟨ret_d (by simp;omega),HB1.out⟩
theorem QRow.cellOf {F:Nat→FP} {w:World} {g N:Nat} (h:QRow F w g N N) {i:Nat} (hi:i<N*4):w.cell? ⟨g,i,none⟩=some (cellOf w ⟨g,i,none⟩):=by
 obtain⟨u,hu⟩:=Option.isSome_iff_exists.1 (h.has i hi)
 rw[hu,cellOf_eq hu]
theorem QRow.shape {F:Nat→FP} {w:World} {g N:Nat} (h:QRow F w g N N) {u:Value} (hu:u∈rowCells w g (N*4)):(∃ s,u=.bool s)∨∃ p n c,u=.slice p n c:=by
 obtain⟨i,hj⟩:=List.getElem?_of_mem hu
 have hi:=rowCells_lt hj
 rw[rowCells_get hi]at hj
 injection hj with hj
 subst hj
 obtain⟨s,p,n,c,t,q,m,d,e0,e1,e2,e3,_⟩:=h.val (i / 4) (by omega)
 rcases(by omega:i % 4=0∨i % 4=1∨i % 4=2∨i % 4=3)with h4|h4|h4|h4
 ·rw[show i / 4*4=i by omega]at e0
  exact .inl ⟨s,cellOf_eq e0⟩
 ·rw[show i / 4*4+1=i by omega]at e1
  exact .inr ⟨p,n,c,cellOf_eq e1⟩
 ·rw[show i / 4*4+2=i by omega]at e2
  exact .inl ⟨t,cellOf_eq e2⟩
 ·rw[show i / 4*4+3=i by omega]at e3
  exact .inr ⟨q,m,d,cellOf_eq e3⟩
theorem QRow.one {F:Nat→FP} {w:World} {g N:Nat} (h:QRow F w g N N):∀ u∈rowCells w g (N*4),u.oneCell'=true:=by
 intro u hu
 rcases h.shape hu with⟨s,rfl⟩ |⟨p,n,c,rfl⟩ <;> rfl
theorem QRow.cells {F:Nat→FP} {w:World} {g N:Nat} (h:QRow F w g N N):∀ (j:Nat) (u:Value),(rowCells w g (N*4))[j]?=some u→w.cell? ⟨g,j,none⟩=some u:=by
 intro j u hj
 have hl:=rowCells_lt hj
 rw[rowCells_get hl]at hj
 rw[h.cellOf hl,hj]
theorem OwnQ.more {F R:Nat→FP} (hF:∀ j,Solid (F j)) {W w':World} {B n m g:Nat} {v v':Value} {xs:List Value} (h1:OwnK NotInt W B 67 4 v n xs) (h2:∀ j,j<n→QX (F j) W xs (j*4))
  (hr:QRow R W g m m) (h3:OwnK NotInt w' B 67 4 v' (n+m) (xs++rowCells W g (m*4))) (hg:W.grownBy w' v.ownBlock) (e2:∀ j,j<m→F (n+j)=R j):OwnQ F w' B v' (n+m):=by
 have h32:=I32.grown (K:=NotInt) (fun x=>not_int32 x) h1.2 hg
 refine⟨_,h3,fun j hj=>?_⟩
 by_cases hjn:j<n
 ·exact((h2 j hjn).i32 (hF j) h32).app
 ·obtain⟨k,rfl⟩:∃ k,j=n+k:=⟨j - n,by omega⟩
  have hk:k<m:=by omega
  have hl:xs.length=n*4:=h1.1.1
  obtain⟨s,p,c,d,t,q,e,f,c0,c1,c2,c3,hz⟩:=hr.val k hk
  rw[← e2 k hk]at hz
  refine⟨s,p,c,d,t,q,e,f,?_,?_,?_,?_,hF _ _ _ _ _ _ _ _ _ _ _ h32 hz⟩
  ·rw[List.getElem?_append_right (by omega),hl,show(n+k)*4 - n*4=k*4 by omega,rowCells_get (by omega),cellOf_eq c0]
  ·rw[List.getElem?_append_right (by omega),hl,show(n+k)*4+1 - n*4=k*4+1 by omega,rowCells_get (by omega),cellOf_eq c1]
  ·rw[List.getElem?_append_right (by omega),hl,show(n+k)*4+2 - n*4=k*4+2 by omega,rowCells_get (by omega),cellOf_eq c2]
  ·rw[List.getElem?_append_right (by omega),hl,show(n+k)*4+3 - n*4=k*4+3 by omega,rowCells_get (by omega),cellOf_eq c3]
structure MatAt (F:Nat→FP) (w:World) (go B R C m:Nat):Prop where
 lt:go<B
 hB:B≤w.heap.size
 c0:w.cell? ⟨go,0,none⟩=some (.int .i64 (R:Int))
 c1:w.cell? ⟨go,1,none⟩=some (.int .i64 (C:Int))
 c2:∃ p c,w.cell? ⟨go,2,none⟩=some (.slice p m c)∧OwnQ F w B (.slice p m c) m
 fr:w.frozen? ⟨go,2,none⟩=false
 stk:Stk NotU32 w go
theorem MatAt.keep {F:Nat→FP} (hF:∀ j,Solid (F j)) {w w':World} {go B R C m:Nat} (h:MatAt F w go B R C m) (hb:Below w.heap.size w w'):MatAt F w' go B R C m:=by
 obtain⟨p,c,e2,h2⟩:=h.c2
 exact⟨h.lt,Nat.le_trans h.hB hb.size,cell_next hb h.c0,cell_next hb h.c1,⟨p,c,cell_next hb e2,h2.keep hF hb⟩,frozen_keep hb (by rw[e2];rfl) h.fr,h.stk.next hb⟩
theorem OwnQ.box {F:Nat→FP} (hF:∀ j,Solid (F j)) {w w':World} {B n G:Nat} {v:Value} (h:OwnQ F w B v n) (h32:I32 w w') (hg:w.grownBy w' (some G)) (hG:G<B):OwnQ F w' B v n:=by
 obtain⟨xs,h1,h2⟩:=h
 have hne:∀ g,v.ownBlock=some g→some g≠some G:=fun g e e2=>by
  have:=own_ge h1.1 e.symm
  injection e2 with e2;omega
 refine⟨xs,⟨h1.1.kept hg ?_,fun g e=>?_⟩,fun j hj=>(h2 j hj).i32 (hF j) h32⟩
 ·cases hv:v.ownBlock with
  | none=>exact .inl rfl
  | some g=>exact .inr (hne g hv)
 ·have hs:=h1.2 g e
  have hb:=hg.block g hs.1 (hne g e)
  exact⟨Nat.lt_of_lt_of_le hs.1 hg.size,fun i u hu=>hs.2 i u ((World.cell?_of_block (a:=⟨g,i,none⟩) hb).symm.trans hu)⟩
theorem MatAt.more {F:Nat→FP} (hF:∀ j,Solid (F j)) {W w':World} {go B R C m n:Nat} {xs:List Value} {p:Option Addr} {c:Nat} {p':Option Addr} {c':Nat} (h:MatAt F W go B R C m) (hv:W.cell? ⟨go,2,none⟩=some (.slice p m c)) (h1:W.ownsRow B 67 4 (.slice p m c) m xs) (hO:OwnQ F w' B (.slice p' n c') n) (hg:W.grownBy w' (Value.slice p m c).ownBlock):
  w'.cell? ⟨go,2,none⟩=some (.slice p m c)∧w'.frozen? ⟨go,2,none⟩=false∧MatAt F (w'.setCell ⟨go,2,none⟩ (.slice p' n c')) go B R C n:=by
 have hne:some go≠(Value.slice p m c).ownBlock:=fun e=>by
  have:=own_ge h1 e
  have:=h.lt
  omega
 have hgo:go<W.heap.size:=Nat.lt_of_lt_of_le h.lt h.hB
 have hblk:=hg.block go hgo (fun e=>hne e)
 have d2:w'.cell? ⟨go,2,none⟩=some (.slice p m c):=(World.cell?_of_block (a:=⟨go,2,none⟩) hblk).trans hv
 have df:w'.frozen? ⟨go,2,none⟩=false:=(World.frozen?_of_block (a:=⟨go,2,none⟩) hblk).trans h.fr
 have hst:Stk NotU32 w' go:=⟨Nat.lt_of_lt_of_le hgo hg.size,fun i u hu=>h.stk.2 i u ((World.cell?_of_block (a:=⟨go,i,none⟩) hblk).symm.trans hu)⟩
 refine⟨d2,df,h.lt,by simpa using Nat.le_trans h.hB hg.size,?_,?_,⟨p',c',World.cell?_setCell_same' _ _ _ (by rw[d2];rfl),hO.box hF (I32.putU hst 2 _) (but_put w' go 2 _) h.lt⟩,frozen_set df,stk_put hst _ _ (fun _ h=>by cases h)⟩
 ·rw[World.cell?_setCell_other _ _ _ _ (by simp)];exact(World.cell?_of_block (a:=⟨go,0,none⟩) hblk).trans h.c0
 ·rw[World.cell?_setCell_other _ _ _ _ (by simp)];exact(World.cell?_of_block (a:=⟨go,1,none⟩) hblk).trans h.c1
end Go.Proofs.YtijgdhijdfgpfaaGreatDoor
