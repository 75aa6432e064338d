/- Sizes of the divisors of a small polynomial. Plain facts. -/
import Derived.Test.YtcbgamclcgcodaaGreatQYNg
import Derived.Test.YtcbgamclcgcodaaGreatQYM11
set_option linter.unusedVariables false
namespace Go.Proofs.YtcbgamclcgcodaaGreat
open Go.RowKit Go.Front Go.Num Stab Sg
theorem dv_ex {p q:List Rat} {S U:Nat} (hp:∀ x ∈ p,Wz S x) (hq:∀ x ∈ q,Wz U x) (htp:tz p = p) (htq:tz q = q) (h0:q ≠ []):∃ s r f,DvP p q S U s r f:=by
 have hlead:lead q ≠ 0:=by
  have:=lead_tz (q:=q) (by rw [htq]; exact h0)
  rwa [htq] at this
 have hpos:=List.length_pos_iff.2 h0
 by_cases hl:q.length≤p.length
 ·have key:∀ (k j:Nat) (sl r:List Rat) (f:Rat),p.length + 2 - j≤k→DvI p q S U j sl r f→∃ s r f,DvP p q S U s r f:=by
   intro k
   induction k with
   | zero=>intro j sl r f hk h; have:=h.jl; omega
   | succ k ih =>
    intro j sl r f hk h
    by_cases h2:r.length < q.length
    ·exact ⟨sl,r,f,h.done h2⟩
    ·refine ih (j + 1) _ _ _ (by omega) (h.step hpos hlead hq (by omega) rfl (r2:=(List.range r.length).map fun i=>r.getD i 0 * (((lead r / lead q).den:Int):Rat) - if r.length - q.length≤i then ((lead r / lead q).num:Rat) * q.getD (i - (r.length - q.length)) 0 else 0) (by simp) (fun i hi=>by rw [pd_range,if_pos hi]))
  exact key _ 0 _ _ _ (Nat.le_refl _) (DvI.start hp htp hl)
 ·exact ⟨[],p,1,DvP.short hp htp (by omega)⟩
theorem gcr_ex {K:Nat} {p q:List Rat}:∀ (n:Nat) (a b:List Rat) (X:Nat),b.length≤n→GcI K p q a b X→GcR K (gcdV p q):=by
 intro n
 induction n with
 | zero=>intro a b X hn h; exact h.done (List.length_eq_zero_iff.1 (by omega))
 | succ n ih =>
  intro a b X hn h
  by_cases hb:b = []
  ·exact h.done hb
  ·obtain ⟨s,r,f,hd⟩:=dv_ex h.2.2.1 h.2.2.2.1 h.1 h.2.1 hb
   have h2:=h.next hb hd
   obtain ⟨d0,d1,d2,d3,d4,d5,d6,d7⟩:=hd
   exact ih _ _ _ (by rw [spl_len,d4]; omega) h2
theorem gcd_gcr {p:List Rat} {S D K:Nat} (hS:1≤S) (hD:0 < D) (hf:FrL S D p) (hl:p.length≤1000) (h0:tz p ≠ []) (hK:(S + 2) * 3 ^ p.length≤K):GcR K (gcdV p (derL p)):=by
 have h1:=derT_len h0
 have h2:=tz_len_le p
 have hd:=derL_fr hf (by omega)
 have e1:=spl_len p
 have e2:=spl_len (derL p)
 refine gcr_ex _ (splL p) (splL (derL p)) (S + 1) (Nat.le_refl _) ⟨spl_tz p,spl_tz _,fun x hx=>(spl_wz (fun y hy=>hf y (mem_tz hy)) hD x hx).mono (by omega),spl_wz hd hD,by omega,Nat.le_trans (Nat.mul_le_mul_left _ (Nat.pow_le_pow_right (by decide) ?_)) hK,gcd_first p (derL p),by omega,by omega⟩
 omega
def Sm (q:List Rat):Prop:=∃ S D,1≤S∧0 < D∧D < W32 ^ S∧FrL S D q∧(S + 2) * 3 ^ q.length≤8748 * 2 ^ (7 - q.length)
theorem pow2_le (n:Nat):8748 * 2 ^ (7 - n)≤5000000:=by
 have:=Nat.pow_le_pow_right (n:=2) (by decide) (show 7 - n≤7 by omega)
 have e:(2:Nat) ^ 7 = 128:=by decide
 omega
theorem Sm.frk {q:List Rat} (h:Sm q):FrK 5000000 q:=let ⟨S,D,h1,h2,h3,h4,h5⟩:=h; ⟨S,D,h1,h2,h3,h4,Nat.le_trans h5 (pow2_le _)⟩
theorem mon_one {g:List Rat} (hm:monV g = g) (h0:tz g ≠ []) (hl:g.length = 1):g = [1]:=by
 have h1:=mon_lead h0
 have ht:tz g = g:=by rw [← hm,monV_tz]
 rw [hm] at h1
 rw [ht] at h1
 unfold lead at h1
 rw [hl] at h1
 match g,hl with
 | [x],_=>rw [show x = 1 from h1]
theorem Sm.one:Sm [1]:=⟨1,1,by decide,by decide,by decide,fun x hx=>by
 obtain rfl:x = 1:=by simpa using hx
 exact Fr.one Wz.one,by decide⟩
theorem Sm.gcd {q:List Rat} (h:Sm q) (hl:q.length≤7) (ht:tz q = q) (h0:tz q ≠ []):Sm (gcdV q (derL q)):=by
 obtain ⟨S,D,h1,h2,h3,h4,h5⟩:=h
 have hg0:=gcd_ne h0
 have hgt:=gcdV_tz q (derL q)
 have hgl:=List.length_pos_iff.2 hg0
 rw [hgt] at hgl
 by_cases hk:(gcdV q (derL q)).length = 1
 ·rw [mon_one (gcdV_mon _ _) hg0 hk]; exact Sm.one
 ·obtain ⟨X,E,g1,g2,g3,g4,g5⟩:=gcd_gcr h1 h2 h4 (by omega) h0 (Nat.le_refl ((S + 2) * 3 ^ q.length))
  have hlt:(gcdV q (derL q)).length < q.length:=by
   refine gcd_lt ?_
   have:=gcd_len h0
   rw [ht]; omega
  rw [show max (gcdV q (derL q)).length 1 = (gcdV q (derL q)).length by omega] at g5
  refine ⟨X,E,g2,g3,g4,g1,?_⟩
  generalize (gcdV q (derL q)).length = k at *
  have e1:(X + 2) * 3 ^ k≤2 * ((X + 1) * 3 ^ k):=by rw [← Nat.mul_assoc]; exact Nat.mul_le_mul_right _ (by omega)
  have e2:8748 * 2 ^ (7 - q.length) * 2≤8748 * 2 ^ (7 - k):=by
   rw [Nat.mul_assoc,← Nat.pow_succ]
   exact Nat.mul_le_mul_left _ (Nat.pow_le_pow_right (by decide) (by omega))
  omega
theorem num_key:∀ l:Nat,l < 8→8748 * 2 ^ (7 - l) + l * (8748 * 2 ^ (7 - l) * 3 ^ (l - 3))≤5000000:=by decide
theorem num_le {S X len k sl:Nat} (h1:2≤k) (h2:k≤len) (h3:len≤7) (h4:sl + k≤len + 1) (a:(S + 2) * 3 ^ len≤8748 * 2 ^ (7 - len)) (b:(X + 1) * 3 ^ k≤(S + 2) * 3 ^ len):(S + len * (X + 1) + 2) * 3 ^ sl≤5000000:=by
 have e1:3 ^ sl≤3 ^ len:=Nat.pow_le_pow_right (by decide) (by omega)
 have e2:3 ^ sl≤3 ^ k * 3 ^ (len - 3):=by rw [← Nat.pow_add]; exact Nat.pow_le_pow_right (by decide) (by omega)
 have key:=num_key len (by omega)
 generalize 8748 * 2 ^ (7 - len) = B at *
 generalize 3 ^ sl = Q at *
 generalize 3 ^ (len - 3) = R at *
 have h6:(S + 2) * Q≤(S + 2) * 3 ^ len:=Nat.mul_le_mul_left _ e1
 have h7:(X + 1) * Q≤B * R:=by
  refine Nat.le_trans (Nat.mul_le_mul_left _ e2) ?_
  rw [← Nat.mul_assoc]
  exact Nat.mul_le_mul_right _ (Nat.le_trans b a)
 have h8:len * ((X + 1) * Q)≤len * (B * R):=Nat.mul_le_mul_left _ h7
 have h9:(S + len * (X + 1) + 2) * Q = (S + 2) * Q + len * ((X + 1) * Q):=by
  rw [show S + len * (X + 1) + 2 = (S + 2) + len * (X + 1) by omega,Nat.add_mul,Nat.mul_assoc]
 omega
theorem mon_size {q l:List Rat} {T D:Nat} (hT:1≤T) (hf:FrL T D l) (hD:0 < D) (h0:tz l ≠ []) (he:monV q = monV l):∃ E,0 < E∧E < W32 ^ T∧FrL T E (monV q):=by
 have h1:FrL T 1 (splL l):=fun x hx=>Fr.one (spl_wz (fun y hy=>hf y (mem_tz hy)) hD x hx)
 have h2:tz (splL l) ≠ []:=by rw [spl_tz]; exact fun h=>h0 (spl_ne.1 h)
 rw [he,← (spl_pr l).mon]
 exact ⟨ldD (tz (splL l)) 1,ldD_pos h1.tz (lead_tz h2) (by decide),ldD_lt h1.tz,monV_fr h1⟩
theorem Sm.sqf {q:List Rat} (h:Sm q) (hl:q.length≤7) (ht:tz q = q) (h0:tz q ≠ []):FrK 5000000 (sqfV q):=by
 obtain ⟨S,D,h1,h2,h3,h4,h5⟩:=h
 have hg0:=gcd_ne h0
 have hgt:=gcdV_tz q (derL q)
 have hgl:=List.length_pos_iff.2 hg0
 rw [hgt] at hgl
 have hq:=quo_exact hg0 (gcd_dv q)
 have hqt:tz (quoV q (gcdV q (derL q))) = quoV q (gcdV q (derL q)):=(quo_rem q hg0).2.2.1
 have hq0:tz (quoV q (gcdV q (derL q))) ≠ []:=fun h=>by
  obtain ⟨y,hy⟩:=ne_ex h0
  exact hy (by rw [hq,ev_tznil.1 h y]; grind)
 have hsl:(sqfV q).length = (quoV q (gcdV q (derL q))).length:=by
  unfold sqfV; rw [monV_len,hqt]
 by_cases hk:(gcdV q (derL q)).length = 1
 ·have hg:=mon_one (gcdV_mon _ _) hg0 hk
  have he:∀ x,evV q x = evV (quoV q (gcdV q (derL q))) x:=fun x=>by
   rw [hq x,hg]
   show (0 * x + 1) * evV (quoV q [1]) x = evV (quoV q [1]) x
   grind
  have hm:monV (quoV q (gcdV q (derL q))) = monV q:=(Pr.mon ⟨1,by decide,fun n=>by rw [Rat.one_mul,ev_inj he n]⟩)
  obtain ⟨E,e1,e2,e3⟩:=mon_size h1 h4 h2 h0 hm
  have hlen:=sqf_len h0
  exact ⟨S,E,h1,e1,e2,e3,Nat.le_trans (Nat.le_trans (Nat.mul_le_mul_left _ (Nat.pow_le_pow_right (by decide) hlen)) h5) (pow2_le _)⟩
 ·obtain ⟨X,E,g1,g2,g3,g4,g5⟩:=gcd_gcr h1 h2 h4 (by omega) h0 (Nat.le_refl ((S + 2) * 3 ^ q.length))
  rw [show max (gcdV q (derL q)).length 1 = (gcdV q (derL q)).length by omega] at g5
  obtain ⟨hT,F,f1,f2,f3⟩:=quoV_frb h4 g1 hg0 h1 h2 h3 g3 g4 (Nat.le_refl q.length)
  obtain ⟨E2,e1,e2,e3⟩:=mon_size (q:=quoV q (gcdV q (derL q))) hT f3 f1 hq0 rfl
  have hgq:=gcd_len h0
  obtain ⟨m,hm,hm0⟩:=len_ne hq0
  obtain ⟨k,hk2,hk0⟩:=len_ne hg0
  have hsum:(sqfV q).length + (gcdV q (derL q)).length≤q.length + 1:=by
   have h7:=ev_inj (p:=q) (q:=mul5V (quoV q (gcdV q (derL q))) (gcdV q (derL q))) (fun x=>by rw [ev_mul5,hq x]; grind) (m + k)
   rw [seq_mul,ap_cv] at h7
   have b1:Bd (m + 1) (seq (quoV q (gcdV q (derL q)))):=by rw [← seq_tz,← hm]; exact Bd.seq _
   have b2:Bd (k + 1) (seq (gcdV q (derL q))):=by rw [← seq_tz,← hk2]; exact Bd.seq _
   rw [cv_top b1 b2] at h7
   have h8:=seq_nz (p:=q) (i:=m + k) (by
    rw [h7]; intro h
    rcases Rat.mul_eq_zero.1 h with h | h
    ·exact hm0 h
    ·exact hk0 h)
   rw [hqt] at hm
   rw [hgt] at hk2
   omega
  exact ⟨_,E2,hT,e1,e2,e3,num_le (by omega) hgq hl hsum h5 g5⟩
theorem Sm.ok:∀ (n:Nat) (q:List Rat),Sm q→q.length≤7→tz q = q→tz q ≠ []→OkC 5000000 n q:=by
 intro n
 induction n with
 | zero=>intro q _ _ _ _; trivial
 | succ n ih =>
  intro q h hl ht h0
  exact ⟨h.frk,h.sqf hl ht h0,ih _ (h.gcd hl ht h0) (by have:=gcd_len h0; omega) (gcdV_tz _ _) (gcd_ne h0)⟩
theorem rat840:∀ a:Nat,a < 25→∀ b:Nat,b < 8→(((((a:Int) - 12:Int):Rat) / ((1 + (b:Int):Int):Rat)) * ((840:Nat):Rat)).den = 1∧(((((a:Int) - 12:Int):Rat) / ((1 + (b:Int):Int):Rat)) * ((840:Nat):Rat)).num.natAbs < W32:=by decide +kernel
theorem ratQ_fr (n:Int):Fr 1 840 (ratQ n):=by
 have h1:=Int.emod_nonneg n (show (25:Int) ≠ 0 by decide)
 have h2:=Int.emod_lt_of_pos n (show (0:Int) < 25 by decide)
 have h3:=Int.emod_nonneg (n.tdiv 25) (show (8:Int) ≠ 0 by decide)
 have h4:=Int.emod_lt_of_pos (n.tdiv 25) (show (0:Int) < 8 by decide)
 have h:=rat840 (n % 25).toNat (by omega) (n.tdiv 25 % 8).toNat (by omega)
 rw [show (((n % 25).toNat:Nat):Int) = n % 25 by omega,show (((n.tdiv 25 % 8).toNat:Nat):Int) = n.tdiv 25 % 8 by omega] at h
 exact ⟨h.1,by rw [Nat.pow_one]; exact h.2⟩
end Go.Proofs.YtcbgamclcgcodaaGreat
/- Sizes of the divisors of a small square. Plain facts. -/
set_option linter.unusedVariables false
namespace Go.Proofs.YtcbgamclcgcodaaGreat
open Go.RowKit Go.Front Go.Num Stab Sg
def Sr (q:List Rat):Prop:=∃ S D,1≤S∧0 < D∧D < W32 ^ S∧FrL S D q∧(S + 2) * 3 ^ q.length≤15309 * 2 ^ (7 - q.length)
theorem pow2_ler (n:Nat):15309 * 2 ^ (7 - n)≤9000000:=by
 have:=Nat.pow_le_pow_right (n:=2) (by decide) (show 7 - n≤7 by omega)
 have e:(2:Nat) ^ 7 = 128:=by decide
 omega
theorem Sr.frk {q:List Rat} (h:Sr q):FrK 9000000 q:=let ⟨S,D,h1,h2,h3,h4,h5⟩:=h; ⟨S,D,h1,h2,h3,h4,Nat.le_trans h5 (pow2_ler _)⟩
theorem Sr.spl {q:List Rat} (h:Sr q) (ht:tz q = q):Sr (splL q):=by
 obtain ⟨S,D,h1,h2,h3,h4,h5⟩:=h
 have e:(splL q).length = q.length:=by rw [spl_len,ht]
 exact ⟨S,1,h1,by decide,Nat.one_lt_pow (by omega) (by decide),fun x hx=>Fr.one (spl_wz (fun y hy=>h4 y (mem_tz hy)) h2 x hx),by rw [e]; exact h5⟩
theorem Sr.one:Sr [1]:=⟨1,1,by decide,by decide,by decide,fun x hx=>by
 obtain rfl:x = 1:=by simpa using hx
 exact Fr.one Wz.one,by decide⟩
theorem Sr.gcd {q:List Rat} (h:Sr q) (hl:q.length≤7) (ht:tz q = q) (h0:tz q ≠ []):Sr (gcdV q (derL q)):=by
 obtain ⟨S,D,h1,h2,h3,h4,h5⟩:=h
 have hg0:=gcd_ne h0
 have hgt:=gcdV_tz q (derL q)
 have hgl:=List.length_pos_iff.2 hg0
 rw [hgt] at hgl
 by_cases hk:(gcdV q (derL q)).length = 1
 ·rw [mon_one (gcdV_mon _ _) hg0 hk]; exact Sr.one
 ·obtain ⟨X,E,g1,g2,g3,g4,g5⟩:=gcd_gcr h1 h2 h4 (by omega) h0 (Nat.le_refl ((S + 2) * 3 ^ q.length))
  have hlt:(gcdV q (derL q)).length < q.length:=by
   refine gcd_lt ?_
   have:=gcd_len h0
   rw [ht]; omega
  rw [show max (gcdV q (derL q)).length 1 = (gcdV q (derL q)).length by omega] at g5
  refine ⟨X,E,g2,g3,g4,g1,?_⟩
  generalize (gcdV q (derL q)).length = k at *
  have e1:(X + 2) * 3 ^ k≤2 * ((X + 1) * 3 ^ k):=by rw [← Nat.mul_assoc]; exact Nat.mul_le_mul_right _ (by omega)
  have e2:15309 * 2 ^ (7 - q.length) * 2≤15309 * 2 ^ (7 - k):=by
   rw [Nat.mul_assoc,← Nat.pow_succ]
   exact Nat.mul_le_mul_left _ (Nat.pow_le_pow_right (by decide) (by omega))
  omega
theorem num_keyr:∀ l:Nat,l < 8→15309 * 2 ^ (7 - l) + l * (15309 * 2 ^ (7 - l) * 3 ^ (l - 3))≤9000000:=by decide
theorem num_ler {S X len k sl:Nat} (h1:2≤k) (h2:k≤len) (h3:len≤7) (h4:sl + k≤len + 1) (a:(S + 2) * 3 ^ len≤15309 * 2 ^ (7 - len)) (b:(X + 1) * 3 ^ k≤(S + 2) * 3 ^ len):(S + len * (X + 1) + 2) * 3 ^ sl≤9000000:=by
 have e1:3 ^ sl≤3 ^ len:=Nat.pow_le_pow_right (by decide) (by omega)
 have e2:3 ^ sl≤3 ^ k * 3 ^ (len - 3):=by rw [← Nat.pow_add]; exact Nat.pow_le_pow_right (by decide) (by omega)
 have key:=num_keyr len (by omega)
 generalize 15309 * 2 ^ (7 - len) = B at *
 generalize 3 ^ sl = Q at *
 generalize 3 ^ (len - 3) = R at *
 have h6:(S + 2) * Q≤(S + 2) * 3 ^ len:=Nat.mul_le_mul_left _ e1
 have h7:(X + 1) * Q≤B * R:=by
  refine Nat.le_trans (Nat.mul_le_mul_left _ e2) ?_
  rw [← Nat.mul_assoc]
  exact Nat.mul_le_mul_right _ (Nat.le_trans b a)
 have h8:len * ((X + 1) * Q)≤len * (B * R):=Nat.mul_le_mul_left _ h7
 have h9:(S + len * (X + 1) + 2) * Q = (S + 2) * Q + len * ((X + 1) * Q):=by
  rw [show S + len * (X + 1) + 2 = (S + 2) + len * (X + 1) by omega,Nat.add_mul,Nat.mul_assoc]
 omega
theorem Sr.sqf {q:List Rat} (h:Sr q) (hl:q.length≤7) (ht:tz q = q) (h0:tz q ≠ []):FrK 9000000 (sqfV q):=by
 obtain ⟨S,D,h1,h2,h3,h4,h5⟩:=h
 have hg0:=gcd_ne h0
 have hgt:=gcdV_tz q (derL q)
 have hgl:=List.length_pos_iff.2 hg0
 rw [hgt] at hgl
 have hq:=quo_exact hg0 (gcd_dv q)
 have hqt:tz (quoV q (gcdV q (derL q))) = quoV q (gcdV q (derL q)):=(quo_rem q hg0).2.2.1
 have hq0:tz (quoV q (gcdV q (derL q))) ≠ []:=fun h=>by
  obtain ⟨y,hy⟩:=ne_ex h0
  exact hy (by rw [hq,ev_tznil.1 h y]; grind)
 have hsl:(sqfV q).length = (quoV q (gcdV q (derL q))).length:=by
  unfold sqfV; rw [monV_len,hqt]
 by_cases hk:(gcdV q (derL q)).length = 1
 ·have hg:=mon_one (gcdV_mon _ _) hg0 hk
  have he:∀ x,evV q x = evV (quoV q (gcdV q (derL q))) x:=fun x=>by
   rw [hq x,hg]
   show (0 * x + 1) * evV (quoV q [1]) x = evV (quoV q [1]) x
   grind
  have hm:monV (quoV q (gcdV q (derL q))) = monV q:=(Pr.mon ⟨1,by decide,fun n=>by rw [Rat.one_mul,ev_inj he n]⟩)
  obtain ⟨E,e1,e2,e3⟩:=mon_size h1 h4 h2 h0 hm
  have hlen:=sqf_len h0
  exact ⟨S,E,h1,e1,e2,e3,Nat.le_trans (Nat.le_trans (Nat.mul_le_mul_left _ (Nat.pow_le_pow_right (by decide) hlen)) h5) (pow2_ler _)⟩
 ·obtain ⟨X,E,g1,g2,g3,g4,g5⟩:=gcd_gcr h1 h2 h4 (by omega) h0 (Nat.le_refl ((S + 2) * 3 ^ q.length))
  rw [show max (gcdV q (derL q)).length 1 = (gcdV q (derL q)).length by omega] at g5
  obtain ⟨hT,F,f1,f2,f3⟩:=quoV_frb h4 g1 hg0 h1 h2 h3 g3 g4 (Nat.le_refl q.length)
  obtain ⟨E2,e1,e2,e3⟩:=mon_size (q:=quoV q (gcdV q (derL q))) hT f3 f1 hq0 rfl
  have hgq:=gcd_len h0
  obtain ⟨m,hm,hm0⟩:=len_ne hq0
  obtain ⟨k,hk2,hk0⟩:=len_ne hg0
  have hsum:(sqfV q).length + (gcdV q (derL q)).length≤q.length + 1:=by
   have h7:=ev_inj (p:=q) (q:=mul5V (quoV q (gcdV q (derL q))) (gcdV q (derL q))) (fun x=>by rw [ev_mul5,hq x]; grind) (m + k)
   rw [seq_mul,ap_cv] at h7
   have b1:Bd (m + 1) (seq (quoV q (gcdV q (derL q)))):=by rw [← seq_tz,← hm]; exact Bd.seq _
   have b2:Bd (k + 1) (seq (gcdV q (derL q))):=by rw [← seq_tz,← hk2]; exact Bd.seq _
   rw [cv_top b1 b2] at h7
   have h8:=seq_nz (p:=q) (i:=m + k) (by
    rw [h7]; intro h
    rcases Rat.mul_eq_zero.1 h with h | h
    ·exact hm0 h
    ·exact hk0 h)
   rw [hqt] at hm
   rw [hgt] at hk2
   omega
  exact ⟨_,E2,hT,e1,e2,e3,num_ler (by omega) hgq hl hsum h5 g5⟩
theorem Sr.ok:∀ (n:Nat) (q:List Rat),Sr q→q.length≤7→tz q = q→tz q ≠ []→OkC 9000000 n q:=by
 intro n
 induction n with
 | zero=>intro q _ _ _ _; trivial
 | succ n ih =>
  intro q h hl ht h0
  exact ⟨h.frk,h.sqf hl ht h0,ih _ (h.gcd hl ht h0) (by have:=gcd_len h0; omega) (gcdV_tz _ _) (gcd_ne h0)⟩
theorem nil_frkr:FrK 9000000 []:=⟨1,1,by decide,by decide,by decide,fun x hx=>by simp at hx,by decide⟩
theorem nil_okr:∀ n,OkC 9000000 n []:=by
 intro n
 induction n with
 | zero=>trivial
 | succ n ih =>
  have e1:sqfV [] = []:=by decide +kernel
  have e2:gcdV [] (derL []) = []:=by decide +kernel
  exact ⟨nil_frkr,by rw [e1]; exact nil_frkr,by rw [e2]; exact ih⟩
theorem Sr.pok {p:List Rat} (h:Sr p) (hl:p.length≤7) (ht:tz p = p) (P:Nat):PoK 9000000 P p:=by
 by_cases h0:tz p = []
 ·have hp:p = []:=by rw [← ht]; exact h0
  subst hp
  exact ⟨ht,nil_frkr,by rw [show sqfV [] = [] by decide +kernel]; exact nil_frkr,nil_okr _⟩
 ·have e:(splL p).length = p.length:=by rw [spl_len,ht]
  exact ⟨ht,h.frk,h.sqf hl ht h0,Sr.ok _ _ (h.spl ht) (by omega) (spl_tz p) (by rw [spl_tz]; exact fun k=>h0 (spl_ne.1 k))⟩
theorem polyQ3 (xs:List Int):FrL 1 840 (polyQ xs 3)∧(polyQ xs 3).length≤4∧tz (polyQ xs 3) = polyQ xs 3∧SzL 1 (polyQ xs 3):=by
 refine ⟨FrL.tz (fun x hx=>by
  obtain ⟨n,-,rfl⟩:=List.mem_map.1 hx
  exact ratQ_fr n),?_,tz_idem _,SzL.tz (rats_sz _)⟩
 unfold polyQ
 refine Nat.le_trans (tz_len_le _) ?_
 rw [List.length_map,List.length_take]
 omega
def sqP (xs:List Int):List Rat:=mul5V (polyQ xs 3) (polyQ xs 3)
def sqC (xs:List Int) (m:Nat):List Rat:=add5V (sqP xs) [((1:Int):Rat) / ((1 + (m:Int):Int):Rat)]
theorem pot_r {S k:Nat} (hS:S≤5) (hk:k≤7):(S + 2) * 3 ^ k≤15309 * 2 ^ (7 - k):=by
 have h1:(S + 2) * 3 ^ k≤7 * 3 ^ k:=Nat.mul_le_mul_right _ (by omega)
 refine Nat.le_trans h1 ?_
 have hk:k = 0 ∨ k = 1 ∨ k = 2 ∨ k = 3 ∨ k = 4 ∨ k = 5 ∨ k = 6 ∨ k = 7:=by omega
 rcases hk with rfl | rfl | rfl | rfl | rfl | rfl | rfl | rfl <;> decide
theorem sqP_facts (xs:List Int):Sr (sqP xs)∧(sqP xs).length≤7∧tz (sqP xs) = sqP xs∧SzL 3 (sqP xs)∧∀ x,evV (sqP xs) x = evV (polyQ xs 3) x * evV (polyQ xs 3) x:=by
 obtain ⟨h1,h2,h3,h4⟩:=polyQ3 xs
 have hW:(4:Nat)≤W32:=by decide
 have hf:FrL 3 (840 * 840) (sqP xs):=(mul5_fr h1 h1 (Nat.le_trans h2 hW)).mono (by decide)
 have hl:(sqP xs).length≤7:=by
  unfold sqP mul5V
  refine Nat.le_trans (tz_len_le _) ?_
  rw [List.length_map,List.length_range,h3]
  omega
 exact ⟨⟨3,840 * 840,by decide,by decide,by decide,hf,pot_r (by decide) hl⟩,hl,mul5_tz _ _,hf.sz (by decide) (by decide) (by decide),fun x=>ev_mul5 _ _ x⟩
theorem sqC_facts (xs:List Int) {m:Nat} (hm:m < 1000):Sr (sqC xs m)∧(sqC xs m).length≤7∧tz (sqC xs m) = sqC xs m∧0 < ((1:Int):Rat) / ((1 + (m:Int):Int):Rat)∧Sz 2 (((1:Int):Rat) / ((1 + (m:Int):Int):Rat))∧∀ x,((1:Int):Rat) / ((1 + (m:Int):Int):Rat)≤evV (sqC xs m) x:=by
 obtain ⟨h1,h2,h3,h4⟩:=polyQ3 xs
 have hW:(4:Nat)≤W32:=by decide
 have hf:FrL 3 (840 * 840) (sqP xs):=(mul5_fr h1 h1 (Nat.le_trans h2 hW)).mono (by decide)
 have hl:(sqP xs).length≤7:=(sqP_facts xs).2.1
 have e0:((1 + (m:Int):Int):Rat) = ((1 + m:Nat):Rat):=by rw [← Rat.intCast_natCast]; rfl
 have hpos:(0:Rat) < ((1 + m:Nat):Rat):=Rat.natCast_pos.2 (by omega)
 have hne:((1 + m:Nat):Rat) ≠ 0:=fun h=>by rw [h] at hpos; exact absurd hpos Rat.lt_irrefl
 have hc:0 < ((1:Int):Rat) / ((1 + (m:Int):Int):Rat):=by rw [e0]; exact divP (by decide) hpos
 have hd:=div_cancel (a:=((1:Int):Rat)) (b:=((1 + m:Nat):Rat)) hne
 have hg:FrL 4 (840 * 840 * (1 + m)) (sqP xs):=(hf.den (U:=1) (by rw [Nat.pow_one]; unfold W32; omega)).mono (by decide)
 have hcf:FrL 4 (840 * 840 * (1 + m)) [((1:Int):Rat) / ((1 + (m:Int):Int):Rat)]:=fun x hx=>by
  rw [List.mem_singleton.1 hx]
  refine Fr.int (z:=840 * 840) (by decide) ?_
  rw [e0,Rat.natCast_mul]
  have:((1:Int):Rat) / ((1 + m:Nat):Rat) * (((840 * 840:Nat):Rat) * ((1 + m:Nat):Rat)) = ((1:Int):Rat) / ((1 + m:Nat):Rat) * ((1 + m:Nat):Rat) * ((840 * 840:Nat):Rat):=by grind
  rw [this,hd]
  show ((1:Int):Rat) * ((840 * 840:Nat):Rat) = _
  rw [show ((1:Int):Rat) = 1 from rfl,Rat.one_mul]
  rfl
 have hs:=add5_fr hg hcf
 have hls:(sqC xs m).length≤7:=by
  unfold sqC add5V
  refine Nat.le_trans (tz_len_le _) ?_
  rw [List.length_map,List.length_range]
  simp only [List.length_cons,List.length_nil]
  omega
 refine ⟨⟨5,840 * 840 * (1 + m),by decide,by omega,?_,hs.mono (by decide),pot_r (by decide) hls⟩,hls,tz_idem _,hc,(Sz.int (by decide)).div (Sz.int (by unfold W32; omega)),fun x=>?_⟩
 ·have:(4294967296:Nat)≤W32 ^ 5:=by decide
  omega
 ·have e:=ev_add5 (sqP xs) [((1:Int):Rat) / ((1 + (m:Int):Int):Rat)] x
  have e2:evV [((1:Int):Rat) / ((1 + (m:Int):Int):Rat)] x = ((1:Int):Rat) / ((1 + (m:Int):Int):Rat):=by
   show 0 * x + _ = _
   grind
  have e3:=(sqP_facts xs).2.2.2.2 x
  have e4:=sq_nn (evV (polyQ xs 3) x)
  show _≤evV (add5V (sqP xs) _) x
  rw [e,e2,e3]
  grind
end Go.Proofs.YtcbgamclcgcodaaGreat
