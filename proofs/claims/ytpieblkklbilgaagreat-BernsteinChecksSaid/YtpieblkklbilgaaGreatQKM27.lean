/- Fr, Run, MgP, FrB -/
import Derived.Test.YtpieblkklbilgaaGreatQKM22
import Derived.Test.YtpieblkklbilgaaGreatQKM13
import Derived.Test.YtpieblkklbilgaaGreatQKM14
set_option linter.unusedVariables false
namespace Go.Proofs.YtpieblkklbilgaaGreat
open Go.RowKit Go.Front Go.Num Stab
theorem Fr.mono {S S' D:Nat} {q:Rat} (h:Fr S D q) (hS:S≤S'):Fr S' D q:=Wz.mono (q:=q * (D:Rat)) h hS
theorem Fr.add {S D:Nat} {a b:Rat} (ha:Fr S D a) (hb:Fr S D b):Fr (S+1) D (a+b):=by
 have:=Wz.add (a:=a * (D:Rat)) (b:=b * (D:Rat)) ha hb
 rw [← Rat.add_mul] at this
 exact this
theorem Fr.mul {S U D E:Nat} {a b:Rat} (ha:Fr S D a) (hb:Fr U E b):Fr (S+U) (D * E) (a * b):=by
 have:=Wz.mul (a:=a * (D:Rat)) (b:=b * (E:Rat)) ha hb
 have e:a * b * ((D * E:Nat):Rat)=a * (D:Rat) * (b * (E:Rat)):=by rw [Rat.natCast_mul];grind
 unfold Fr
 rw [e]
 exact this
theorem Fr.one {S:Nat} {q:Rat} (h:Wz S q):Fr S 1 q:=by
 unfold Fr
 rw [show q * ((1:Nat):Rat)=q from Rat.mul_one q]
 exact h
theorem Fr.muli {S U D:Nat} {a b:Rat} (ha:Fr S D a) (hb:Wz U b):Fr (S+U) D (a * b):=by
 have:=ha.mul (Fr.one hb)
 rwa [Nat.mul_one] at this
theorem Wz.nat {S n:Nat} (h:n < W32 ^ S):Wz S ((n:Nat):Rat):=by
 have:=Wz.int (S:=S) (z:=(n:Int)) (by simpa using h)
 exact this
theorem Fr.den {S U D E:Nat} {a:Rat} (ha:Fr S D a) (hE:E < W32 ^ U):Fr (S+U) (D * E) a:=by
 have:=Wz.mul (a:=a * (D:Rat)) (b:=(E:Rat)) ha (Wz.nat hE)
 have e:a * ((D * E:Nat):Rat)=a * (D:Rat) * (E:Rat):=by rw [Rat.natCast_mul];grind
 unfold Fr
 rw [e]
 exact this
theorem Fr.denl {S U D E:Nat} {a:Rat} (ha:Fr S D a) (hE:E < W32 ^ U):Fr (S+U) (E * D) a:=by rw [Nat.mul_comm];exact ha.den hE
theorem wz_sm {S:Nat} {f:Nat→Rat}:∀ n,(∀ i,i < n→Wz S (f i))→Wh (sm n f)∧(sm n f).num.natAbs+n≤n * W32 ^ S:=by
 intro n
 induction n with
 | zero=>intro _;exact ⟨rfl,Nat.zero_le (0 * W32 ^ S)⟩
 | succ n ih =>
  intro h
  obtain ⟨h1,h2⟩:=ih (fun i hi=>h i (by omega))
  obtain ⟨h3,h4⟩:=h n (by omega)
  show Wh (sm n f+f n)∧(sm n f+f n).num.natAbs+(n+1)≤_
  refine ⟨h1.add h3,?_⟩
  have e:(sm n f+f n)=(((sm n f).num+(f n).num:Int):Rat):=by rw [Rat.intCast_add,← h1.eq,← h3.eq]
  rw [e,Rat.num_intCast]
  have:=Int.natAbs_add_le (sm n f).num (f n).num
  rw [Nat.succ_mul]
  omega
theorem Wz.sm {S n:Nat} {f:Nat→Rat} (h:∀ i,i < n→Wz S (f i)) (hn:n≤W32):Wz (S+1) (sm n f):=by
 obtain ⟨h1,h2⟩:=wz_sm n h
 refine ⟨h1,?_⟩
 have h3:n * W32 ^ S≤W32 ^ (S+1):=by rw [Nat.pow_succ,Nat.mul_comm];exact Nat.mul_le_mul_left _ hn
 rcases Nat.eq_zero_or_pos n with h0 | h0
 ·subst h0
  have h4:(Stab.sm 0 f).num.natAbs=0:=rfl
  have:=Nat.pow_pos (n:=S+1) W32_pos
  omega
 ·omega
theorem Fr.sm {S D n:Nat} {f:Nat→Rat} (h:∀ i,i < n→Fr S D (f i)) (hn:n≤W32):Fr (S+1) D (sm n f):=by
 have:=Wz.sm (f:=fun i=>f i * (D:Rat)) (S:=S) (n:=n) h hn
 have e:Stab.sm n (fun i=>f i * (D:Rat))=Stab.sm n f * (D:Rat):=by
  rw [sm_congr (g:=fun i=>(D:Rat) * f i) (fun i _=>Rat.mul_comm _ _),sm_mul,Rat.mul_comm]
 rw [e] at this
 exact this
def FrL (S D:Nat) (l:List Rat):Prop:=∀ x ∈ l,Fr S D x
theorem FrL.mono {S S' D:Nat} {l:List Rat} (h:FrL S D l) (hS:S≤S'):FrL S' D l:=fun x hx=>(h x hx).mono hS
theorem FrL.at {S D:Nat} {l:List Rat} (h:FrL S D l) (i:Nat):Fr S D (l.getD i 0):=by
 rcases Nat.lt_or_ge i l.length with hi | hi
 ·exact h _ (getD_mem' hi)
 ·rw [pd_over hi];exact Fr.zero _ _
theorem FrL.of {S D:Nat} {l:List Rat} (h:∀ i,Fr S D (l.getD i 0)):FrL S D l:=fun x hx=>by
 obtain ⟨i,-,rfl⟩:=mem_getD hx
 exact h i
theorem FrL.tz {S D:Nat} {l:List Rat} (h:FrL S D l):FrL S D (tz l):=FrL.of fun i=>by rw [tz_getD'];exact h.at i
theorem FrL.den {S U D E:Nat} {l:List Rat} (h:FrL S D l) (hE:E < W32 ^ U):FrL (S+U) (D * E) l:=fun x hx=>(h x hx).den hE
theorem FrL.denl {S U D E:Nat} {l:List Rat} (h:FrL S D l) (hE:E < W32 ^ U):FrL (S+U) (E * D) l:=fun x hx=>(h x hx).denl hE
theorem FrL.sz {S D:Nat} {l:List Rat} (h:FrL S D l) (hS:1≤S) (hD:0 < D) (hl:D < W32 ^ S):SzL S l:=fun x hx=>(h x hx).sz hS hD hl
theorem FrL.range {S D n:Nat} {f:Nat→Rat} (h:∀ i,i < n→Fr S D (f i)):FrL S D ((List.range n).map f):=fun x hx=>by
 obtain ⟨i,hi,rfl⟩:=List.mem_map.1 hx
 exact h i (List.mem_range.1 hi)
theorem ap_fr {S U D E:Nat} {p q:List Rat} (hp:FrL S D p) (hq:FrL U E q) (hl:p.length≤W32) (n:Nat):Fr (S+U+1) (D * E) (ap p (seq q) n):=by
 rw [ap_sum]
 refine Fr.sm (fun i _=>(hp.at i).mul ?_) hl
 unfold shn
 split
 ·exact hq.at _
 ·exact Fr.zero _ _
theorem mul5_fr {S U D E:Nat} {p q:List Rat} (hp:FrL S D p) (hq:FrL U E q) (hl:p.length≤W32):FrL (S+U+1) (D * E) (mul5V p q):=by
 unfold mul5V
 exact FrL.tz (FrL.range fun i _=>ap_fr hp.tz hq.tz (Nat.le_trans (tz_len_le p) hl) i)
theorem add5_fr {S D:Nat} {p q:List Rat} (hp:FrL S D p) (hq:FrL S D q):FrL (S+1) D (add5V p q):=by
 unfold add5V
 exact FrL.tz (FrL.range fun i _=>(hp.at i).add (hq.at i))
theorem cor_fr {S U D E k:Nat} {b c:List Rat} (hb:FrL S D b) (hc:FrL U E c) (hl:b.length≤W32):Fr (S+U+1) (D * E) (corV b c k):=by
 unfold corV
 exact Fr.sm (fun i _=>(hb.at i).mul (hc.at _)) (by omega)
theorem crE_fr {S U D E k:Nat} {b c:List Rat} (hb:FrL S D b) (hc:FrL U E c) (hl:b.length≤W32) (hl2:c.length≤W32):Fr (S+U+2) (D * E) (crE b c k):=by
 unfold crE
 split
 ·exact (cor_fr hb hc hl).mono (by omega)
 ·refine (cor_fr hb hc hl).add ?_
  have:=cor_fr (k:=k) hc hb hl2
  rwa [Nat.mul_comm,Nat.add_comm U S] at this
theorem Tf_wz {k i:Nat} (hk:k≤20):Wz 1 (Tf k i):=by
 have h:=(chP_int k).1
 have hb:3 ^ k < W32 ^ 1:=Nat.lt_of_le_of_lt (Nat.pow_le_pow_right (by decide) hk) (by decide)
 unfold Tf
 rcases Nat.lt_or_ge i (chP k).1.length with hi | hi
 ·obtain ⟨h1,h2⟩:=h _ (getD_mem' hi)
  exact ⟨h1,Nat.lt_of_le_of_lt h2 hb⟩
 ·rw [pd_over hi];exact Wz.zero 1
theorem fbV_fr {S D:Nat} {c:List Rat} (h:FrL S D c) (hl:c.length≤21):FrL (S+2) D (fbV c):=by
 unfold fbV
 refine FrL.tz (FrL.range fun i _=>?_)
 unfold fbS
 refine (Fr.sm (S:=S+1) (fun k hk=>(h.at k).muli (Tf_wz (by omega))) (Nat.le_trans hl (by decide))).mono (by omega)
theorem cross_fr {S U D E:Nat} {p q:List Rat} (hp:FrL S D p) (hq:FrL U E q) (hl:p.length≤21) (hl2:q.length≤21):FrL (S+U+4) (D * E) (crossV p q):=by
 have h1:=tz_len_le p
 have h2:=tz_len_le q
 have h3:21≤W32:=by decide
 unfold crossV
 refine fbV_fr (S:=S+U+2) (FrL.range fun i _=>crE_fr hp.tz hq.tz (by omega) (by omega)) ?_
 rw [List.length_map,List.length_range]
 omega
theorem ap_tz (p:List Rat) (u:Nat→Rat):ap (tz p) u=ap p u:=by rw [ap_cv,ap_cv,seq_tz]
theorem seq_mul (p q:List Rat):seq (mul5V p q)=ap p (seq q):=by rw [mul5_seq,ap_tz,seq_tz]
def FrB (S:Nat) (l:List Rat):Prop:=1≤S∧∃ D,0 < D∧D < W32 ^ S∧FrL S D l
theorem W32_le {S U:Nat} (h:S≤U):W32 ^ S≤W32 ^ U:=Nat.pow_le_pow_right W32_pos h
theorem FrB.mono {S U:Nat} {l:List Rat} (h:FrB S l) (hS:S≤U):FrB U l:=by
 obtain ⟨h0,D,h1,h2,h3⟩:=h
 exact ⟨by omega,D,h1,Nat.lt_of_lt_of_le h2 (W32_le hS),h3.mono hS⟩
theorem FrB.sz {S:Nat} {l:List Rat} (h:FrB S l):SzL S l:=by
 obtain ⟨h0,D,h1,h2,h3⟩:=h
 exact h3.sz h0 h1 h2
theorem FrB.tz {S:Nat} {l:List Rat} (h:FrB S l):FrB S (tz l):=by
 obtain ⟨h0,D,h1,h2,h3⟩:=h
 exact ⟨h0,D,h1,h2,h3.tz⟩
theorem mul_lt_W {S U D E:Nat} (hD:D < W32 ^ S) (hE:E < W32 ^ U) (h:0 < E):D * E < W32 ^ (S+U):=by
 rw [Nat.pow_add]
 exact Nat.mul_lt_mul_of_lt_of_lt hD hE
theorem FrB.mul {S U:Nat} {p q:List Rat} (hp:FrB S p) (hq:FrB U q) (hl:p.length≤1000000):FrB (S+U+1) (mul5V p q):=by
 obtain ⟨h0,D,h1,h2,h3⟩:=hp
 obtain ⟨k0,E,k1,k2,k3⟩:=hq
 exact ⟨by omega,D * E,Nat.mul_pos h1 k1,Nat.lt_of_lt_of_le (mul_lt_W h2 k2 k1) (W32_le (by omega)),mul5_fr h3 k3 (Nat.le_trans hl (by decide))⟩
theorem FrB.add {S U:Nat} {p q:List Rat} (hp:FrB S p) (hq:FrB U q):FrB (S+U+1) (add5V p q):=by
 obtain ⟨h0,D,h1,h2,h3⟩:=hp
 obtain ⟨k0,E,k1,k2,k3⟩:=hq
 refine ⟨by omega,D * E,Nat.mul_pos h1 k1,Nat.lt_of_lt_of_le (mul_lt_W h2 k2 k1) (W32_le (by omega)),add5_fr (h3.den k2) ?_⟩
 have:=k3.denl h2
 rwa [Nat.add_comm U S] at this
theorem FrB.neg {S:Nat} {p:List Rat} (hp:FrB S p):FrB S (p.map (fun x=>-x)):=by
 obtain ⟨h0,D,h1,h2,h3⟩:=hp
 exact ⟨h0,D,h1,h2,fun x hx=>by
  obtain ⟨y,hy,rfl⟩:=List.mem_map.1 hx
  exact (h3 y hy).neg⟩
theorem FrB.cross {S U:Nat} {p q:List Rat} (hp:FrB S p) (hq:FrB U q) (hl:p.length≤21) (hl2:q.length≤21):FrB (S+U+4) (crossV p q):=by
 obtain ⟨h0,D,h1,h2,h3⟩:=hp
 obtain ⟨k0,E,k1,k2,k3⟩:=hq
 exact ⟨by omega,D * E,Nat.mul_pos h1 k1,Nat.lt_of_lt_of_le (mul_lt_W h2 k2 k1) (W32_le (by omega)),cross_fr h3 k3 hl hl2⟩
theorem FrB.of {k n:Nat} {p:List Rat} (h:SzL k p) (hl:p.length≤n):FrB (k * (n+1)+1) p:=by
 obtain ⟨D,h1,h2,h3⟩:=fr_all p h
 have e:=Nat.mul_le_mul_left k (show p.length+1≤n+1 by omega)
 have e2:=Nat.mul_le_mul_left k (show p.length≤n+1 by omega)
 exact ⟨by omega,D,h1,Nat.lt_of_lt_of_le h2 (W32_le (by omega)),FrL.mono h3 (by omega)⟩
theorem FrB.nil:FrB 1 []:=⟨by decide,1,by decide,by decide,fun x hx=>by simp at hx⟩
end Go.Proofs.YtpieblkklbilgaaGreat
