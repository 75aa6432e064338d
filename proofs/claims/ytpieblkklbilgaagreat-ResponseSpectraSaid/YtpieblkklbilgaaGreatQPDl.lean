/- The group delay: what is computed, plain facts. -/
import Derived.Test.YtpieblkklbilgaaGreatQPM28
import Derived.Test.YtpieblkklbilgaaGreatQPRp5
import Derived.Test.YtpieblkklbilgaaGreatQPRp6
set_option linter.unusedVariables false
namespace Go.Proofs.YtpieblkklbilgaaGreat
open Go.RowKit Go.Front Go.Num Stab
def dlN (p q:List Rat):List Rat:=subV (mul5V (crossV (trnV p) p) (crossV q q)) (mul5V (crossV (trnV q) q) (crossV p p))
def dlD (p q:List Rat):List Rat:=mul5V (crossV p p) (crossV q q)
def ngV (l:List Rat):List Rat:=tz (l.map (· * ((-1:Int):Rat)))
def delV (b a:List Rat):Int × List Rat × List Rat :=
 if VF b a then
  if tz b=[] then (3,[],[])
  else if 50 < (tz b).length+(tz a).length then (12,[],[])
  else if evV (quoV (dlD (tz b) (tz a)) (gcdV (dlN (tz b) (tz a)) (dlD (tz b) (tz a)))) ((1:Int):Rat) < 0 then
   (0,ngV (quoV (dlN (tz b) (tz a)) (gcdV (dlN (tz b) (tz a)) (dlD (tz b) (tz a)))),ngV (quoV (dlD (tz b) (tz a)) (gcdV (dlN (tz b) (tz a)) (dlD (tz b) (tz a)))))
  else (0,quoV (dlN (tz b) (tz a)) (gcdV (dlN (tz b) (tz a)) (dlD (tz b) (tz a))),quoV (dlD (tz b) (tz a)) (gcdV (dlN (tz b) (tz a)) (dlD (tz b) (tz a))))
 else (2,[],[])
theorem fbV_le (c:List Rat):(fbV c).length≤c.length:=by
 unfold fbV
 refine Nat.le_trans (tz_len_le _) ?_
 rw [List.length_map,List.length_range]
 exact Nat.le_refl _
theorem cross_len {p q:List Rat} {n:Nat} (hp:p.length≤n) (hq:q.length≤n):(crossV p q).length≤n:=by
 unfold crossV
 refine Nat.le_trans (fbV_le _) ?_
 rw [List.length_map,List.length_range]
 have:=tz_len_le p
 have:=tz_len_le q
 omega
theorem mul5_len1 {p q:List Rat} {n m:Nat} (hp:p.length≤n) (hq:q.length≤m):(mul5V p q).length≤n+m - 1:=by
 unfold mul5V
 refine Nat.le_trans (tz_len_le _) ?_
 have:=tz_len_le p
 have:=tz_len_le q
 rw [List.length_map,List.length_range]
 omega
theorem add5_len {p q:List Rat} {n:Nat} (hp:p.length≤n) (hq:q.length≤n):(add5V p q).length≤n:=by
 unfold add5V
 refine Nat.le_trans (tz_len_le _) ?_
 rw [List.length_map,List.length_range]
 omega
theorem sub_len {p q:List Rat} {n:Nat} (hp:p.length≤n) (hq:q.length≤n):(subV p q).length≤n:=add5_len hp (by rw [List.length_map];exact hq)
theorem dl_len {p q:List Rat} (hp:p.length≤5) (hq:q.length≤5):(dlN p q).length≤9∧(dlD p q).length≤9:=by
 have h1:=cross_len (p:=trnV p) (q:=p) (n:=5) (by rw [trn_len];exact hp) hp
 have h2:=cross_len (p:=trnV q) (q:=q) (n:=5) (by rw [trn_len];exact hq) hq
 have h3:=cross_len hp hp
 have h4:=cross_len hq hq
 exact ⟨sub_len (mul5_len1 h1 h4) (mul5_len1 h2 h3),mul5_len1 h3 h4⟩
theorem dl_frb {S:Nat} {p q:List Rat} (hp:FrB S p) (hq:FrB S q) (hpl:p.length≤5) (hql:q.length≤5) (hS:S≤13) :
  FrB 30 (crossV p p)∧FrB 30 (crossV q q)∧FrB 31 (crossV (trnV p) p)∧FrB 31 (crossV (trnV q) q)∧FrB 62 (mul5V (crossV (trnV p) p) (crossV q q))∧FrB 62 (mul5V (crossV (trnV q) q) (crossV p p))∧FrB 125 (dlN p q)∧FrB 61 (dlD p q):=by
 have h1:FrB 30 (crossV p p):=(hp.cross hp (by omega) (by omega)).mono (by omega)
 have h2:FrB 30 (crossV q q):=(hq.cross hq (by omega) (by omega)).mono (by omega)
 have h3:FrB 31 (crossV (trnV p) p):=((trn_frb hp (by omega)).cross hp (by rw [trn_len];omega) (by omega)).mono (by omega)
 have h4:FrB 31 (crossV (trnV q) q):=((trn_frb hq (by omega)).cross hq (by rw [trn_len];omega) (by omega)).mono (by omega)
 have l1:=cross_len (p:=trnV p) (q:=p) (n:=5) (by rw [trn_len];exact hpl) hpl
 have l2:=cross_len (p:=trnV q) (q:=q) (n:=5) (by rw [trn_len];exact hql) hql
 have l3:=cross_len hpl hpl
 have h5:FrB 62 (mul5V (crossV (trnV p) p) (crossV q q)):=(h3.mul h2 (by omega)).mono (by omega)
 have h6:FrB 62 (mul5V (crossV (trnV q) q) (crossV p p)):=(h4.mul h1 (by omega)).mono (by omega)
 exact ⟨h1,h2,h3,h4,h5,h6,h5.add h6.neg,(h1.mul h2 (by omega)).mono (by omega)⟩
theorem mul5_ne {p q:List Rat} (hp:tz p ≠ []) (hq:tz q ≠ []):mul5V p q ≠ []:=by
 intro h
 obtain ⟨n,hn⟩:∃ n,(tz p).length=n+1:=⟨(tz p).length - 1,by have:=List.length_pos_iff.2 hp;omega⟩
 obtain ⟨m,hm⟩:∃ m,(tz q).length=m+1:=⟨(tz q).length - 1,by have:=List.length_pos_iff.2 hq;omega⟩
 have h1:seq (mul5V p q) (n+m)=0:=by rw [h];rfl
 rw [mul5_seq,ap_cv,cv_top (by rw [← hn];exact Bd.seq _) (by rw [← hm];exact Bd.seq _)] at h1
 have h2:(tz p).getD n 0 ≠ 0:=by rw [tz_getD'];exact tz_last2 hn
 have h3:(tz q).getD m 0 ≠ 0:=by rw [tz_getD'];exact tz_last2 hm
 rcases Rat.mul_eq_zero.1 h1 with h4 | h4
 ·exact h2 h4
 ·exact h3 h4
theorem sm_sq_pos {n:Nat} {f:Nat→Rat} {k:Nat} (hk:k < n) (h:f k ≠ 0):0 < sm n (fun i=>f i * f i):=by
 induction n with
 | zero=>omega
 | succ n ih =>
  show 0 < sm n (fun i=>f i * f i)+f n * f n
  have h0:=sm_nonneg (n:=n) (f:=fun i=>f i * f i) (fun i _=>sq_nonneg _)
  have h1:=sq_nonneg (f n)
  rcases Nat.lt_or_ge k n with h2 | h2
  ·have:=ih h2;grind
  ·obtain rfl:k=n:=by omega
   have h3:f k * f k ≠ 0:=fun h3=>by
    rcases Rat.mul_eq_zero.1 h3 with h4 | h4 <;> exact h h4
   grind
theorem mag_ne {p:List Rat} (hp:tz p ≠ []):crossV p p ≠ []:=by
 intro h
 obtain ⟨n,hn⟩:∃ n,(tz p).length=n+1:=⟨(tz p).length - 1,by have:=List.length_pos_iff.2 hp;omega⟩
 unfold crossV at h
 rw [Nat.max_self] at h
 have h1:fbV ((List.range (tz p).length).map (crE (tz p) (tz p)))=fbV (List.replicate (tz p).length 0):=by
  rw [h]
  symm
  unfold fbV
  apply tz_zeros
  intro x hx
  obtain ⟨i,-,rfl⟩:=List.mem_map.1 hx
  unfold fbS
  exact sm_zero' (fun k _=>by rw [rep_zero];grind)
 have h2:=fb_inj (tz p).length ((List.range (tz p).length).map (crE (tz p) (tz p))) (List.replicate (tz p).length 0) (by simp) (by simp) (fun i _=>by rw [← fbV_getD,← fbV_getD,h1])
 have h3:((List.range (tz p).length).map (crE (tz p) (tz p))).getD 0 0=0:=by rw [h2,rep_zero]
 rw [pd_range,if_pos (by omega)] at h3
 have h4:crE (tz p) (tz p) 0=sm (tz p).length (fun i=>(tz p).getD i 0 * (tz p).getD i 0):=by
  unfold crE corV
  rw [if_pos rfl,Nat.sub_zero,Nat.min_self]
  exact sm_congr (fun i _=>by rw [Nat.add_zero])
 rw [h4] at h3
 have h5:=sm_sq_pos (n:=(tz p).length) (f:=fun i=>(tz p).getD i 0) (k:=n) (by omega) (by show (tz p).getD n 0 ≠ 0;rw [tz_getD'];exact tz_last2 hn)
 rw [h3] at h5
 exact absurd h5 Rat.lt_irrefl
theorem monV_ne {p:List Rat} (h:tz p ≠ []):monV p ≠ []:=fun h1=>by
 have h2:=monV_len p
 rw [h1] at h2
 exact h (List.length_eq_zero_iff.1 h2.symm)
theorem gcdI_ne:∀ (f:Nat) (p q:List Rat),q.length≤f→tz q=q→tz p=p→(p ≠ [] ∨ q ≠ [])→gcdI f p q ≠ []:=by
 intro f
 induction f with
 | zero =>
  intro p q h _ _ h0
  have hq:q=[]:=List.length_eq_zero_iff.1 (by omega)
  rw [hq,gcdI_nil]
  rcases h0 with h0 | h0
  ·exact h0
  ·exact absurd hq h0
 | succ f ih =>
  intro p q h hq hp h0
  by_cases hq0:q=[]
  ·rw [hq0,gcdI_nil]
   rcases h0 with h0 | h0
   ·exact h0
   ·exact absurd hq0 h0
  ·rw [gcdI_step hq0]
   obtain ⟨g1,g2,-,-⟩:=quo_rem p (q:=q) (by rw [hq];exact hq0)
   refine ih q _ ?_ (monV_tz _) hq (Or.inl hq0)
   rw [monV_len,g2]
   rw [hq] at g1
   omega
theorem gcdV_ne {p q:List Rat} (h:tz p ≠ [] ∨ tz q ≠ []):gcdV p q ≠ []:=by
 unfold gcdV
 refine gcdI_ne _ _ _ (by rw [monV_len];exact Nat.le_refl _) (monV_tz _) (monV_tz _) ?_
 rcases h with h | h
 ·exact Or.inl (monV_ne h)
 ·exact Or.inr (monV_ne h)
theorem gcdI_tz:∀ (f:Nat) (p q:List Rat),tz q=q→tz p=p→tz (gcdI f p q)=gcdI f p q:=by
 intro f
 induction f with
 | zero=>intro p q hq hp;exact hp
 | succ f ih =>
  intro p q hq hp
  by_cases hq0:q=[]
  ·rw [hq0,gcdI_nil];exact hp
  ·rw [gcdI_step hq0]
   exact ih q _ (monV_tz _) hq
theorem gcdV_tz (p q:List Rat):tz (gcdV p q)=gcdV p q:=gcdI_tz _ _ _ (monV_tz _) (monV_tz _)
theorem dl_gcd {p q:List Rat} (hp:tz p ≠ []) (hq:tz q ≠ []):tz (gcdV (dlN p q) (dlD p q)) ≠ []:=by
 rw [gcdV_tz]
 refine gcdV_ne (Or.inr ?_)
 have h1:tz (dlD p q)=dlD p q:=tz_idem _
 rw [h1]
 exact mul5_ne (by rw [show tz (crossV p p)=crossV p p from tz_idem _];exact mag_ne hp) (by rw [show tz (crossV q q)=crossV q q from tz_idem _];exact mag_ne hq)
theorem gcr_bound {g:List Rat} (h:GcR 7440174 g):g.length≤14∧∃ X D,FrL X D g∧1≤X∧0 < D∧D < W32 ^ X∧X≤2480057:=by
 obtain ⟨X,D,h1,h2,h3,h4,h5⟩:=h
 constructor
 ·rcases Nat.lt_or_ge 14 g.length with h6 | h6
  ·exfalso
   have h7:3 ^ 15≤3 ^ max g.length 1:=Nat.pow_le_pow_right (by decide) (by omega)
   have h8:3 ^ max g.length 1≤(X+1) * 3 ^ max g.length 1:=Nat.le_mul_of_pos_left _ (by omega)
   have h9:(3:Nat) ^ 15=14348907:=by decide
   omega
  ·exact h6
 ·refine ⟨X,D,h1,h2,h3,h4,?_⟩
  have h7:3 ^ 1≤3 ^ max g.length 1:=Nat.pow_le_pow_right (by decide) (by omega)
  have h8:=Nat.mul_le_mul_left (X+1) h7
  omega
theorem divV_len (q:List Rat):∀ (f:Nat) (u p:List Rat),(divV q f u p).1.length=u.length:=by
 intro f
 induction f with
 | zero=>intro u p;rfl
 | succ f ih =>
  intro u p
  rw [show divV q (f+1) u p=if q.length≤p.length then divV q f (u.set (p.length - q.length) (lead p / lead q)) (rstep p q) else (u,p) from rfl]
  split
  ·rw [ih,List.length_set]
  ·rfl
theorem quoV_len (p q:List Rat):(quoV p q).length≤p.length+1:=by
 unfold quoV
 refine Nat.le_trans (tz_len_le _) ?_
 rw [divV_len,List.length_replicate]
 have:=tz_len_le p
 omega
theorem ev_frb_sz {S T:Nat} {p:List Rat} {x:Rat} (hp:FrB S p) (hx:Sz T x) (hT:1≤T) (hn:p.length≤1000) (hT3:T≤1000) (hS3:S≤30000000):Sz (S+34000000) (evV p x):=by
 obtain ⟨hS,D,hD,hD2,hpf⟩:=hp
 rw [← ev_spl,← eh_end]
 have hl:(splL p).length≤1000:=by rw [spl_len];exact Nat.le_trans (tz_len_le p) hn
 have hw:∀ y ∈ splL p,Wz S y:=spl_wz (fun x hx=>FrL.tz hpf x hx) hD
 have h1:T * (splL p).length≤1000 * 1000:=Nat.mul_le_mul hT3 hl
 have h2:(T+1) * (splL p).length=T * (splL p).length+(splL p).length:=Nat.succ_mul _ _
 have hm:Sz S (splM p):=(meas_fr (fun x hx=>FrL.tz hpf x hx)).sz hS hD hD2
 refine (hm.mul ((((ehS_wz hw hx _ (Nat.le_refl _)).mono (S':=32000000) (by omega)).sz (by decide)).div (((ehP_wz hx).mono (S':=2000000) (by omega)).sz (by decide)))).mono (by omega)
theorem pmul_sh (s t:SH) (p q:List Rat) (S U:Nat) (w:World) (h:CanL w s p) (k:CanL w t q) (hp:FrB S p) (hq:FrB U q) (hn:p.length≤100) (hm:q.length≤100) (hSU:S+U≤8000000) :
  Does 136 [s.v,t.v] w SH.v (fun s w'=>NewL w.heap.size w' s (mul5V p q)):=by
 obtain ⟨ao,n,c⟩:=s
 obtain ⟨bo,m,d⟩:=t
 have e1:=h.len
 have e2:=k.len
 simp only at e1 e2
 exact pmulB_any ao bo n c m d p q S U w (h.raw hp.sz (by omega)) (k.raw hq.sz (by omega)) (by omega) (by omega) hp hq hSU
theorem psub_sh (s t:SH) (p q:List Rat) (S:Nat) (w:World) (h:CanL w s p) (k:CanL w t q) (zp:SzL S p) (zq:SzL S q) (hn:p.length≤200) (hm:q.length≤200) (hS:S≤8000000) :
  Does 135 [s.v,t.v] w SH.v (fun s w'=>NewL w.heap.size w' s (subV p q)):=by
 obtain ⟨ao,n,c⟩:=s
 obtain ⟨bo,m,d⟩:=t
 have e1:=h.len
 have e2:=k.len
 simp only at e1 e2
 exact psub_any ao bo n c m d p q w (h.raw zp (by omega)) (k.raw zq (by omega)) (by omega) (by omega) (zp.mono (by omega)) (zq.mono (by omega))
end Go.Proofs.YtpieblkklbilgaaGreat
