/- Fr, Run, MgP, FrB -/
import Derived.Test.YtpieblkklbilgaaGreatQPM22
import Derived.Test.YtpieblkklbilgaaGreatQPM13
import Derived.Test.YtpieblkklbilgaaGreatQPM14
set_option linter.unusedVariables false
namespace Go.Proofs.YtpieblkklbilgaaGreat
open Go.RowKit Go.Front Go.Num Stab
theorem Fr.mono {S S' D:Nat} {q:Rat} (h:Fr S D q) (hS:S≤S'):Fr S' D q:=Wz.mono (q:=q * (D:Rat)) h hS
theorem Fr.add {S D:Nat} {a b:Rat} (ha:Fr S D a) (hb:Fr S D b):Fr (S+1) D (a+b):=by
 have:=Wz.add (a:=a * (D:Rat)) (b:=b * (D:Rat)) ha hb
 rw [← Rat.add_mul] at this
 exact this
theorem Fr.sub {S D:Nat} {a b:Rat} (ha:Fr S D a) (hb:Fr S D b):Fr (S+1) D (a - b):=by
 rw [Rat.sub_eq_add_neg];exact ha.add hb.neg
theorem Fr.mul {S U D E:Nat} {a b:Rat} (ha:Fr S D a) (hb:Fr U E b):Fr (S+U) (D * E) (a * b):=by
 have:=Wz.mul (a:=a * (D:Rat)) (b:=b * (E:Rat)) ha hb
 have e:a * b * ((D * E:Nat):Rat)=a * (D:Rat) * (b * (E:Rat)):=by rw [Rat.natCast_mul];grind
 unfold Fr
 rw [e]
 exact this
theorem Fr.one {S:Nat} {q:Rat} (h:Wz S q):Fr S 1 q:=by
 unfold Fr
 rw [show q * ((1:Nat):Rat)=q from Rat.mul_one q]
 exact h
theorem Fr.wz {S:Nat} {q:Rat} (h:Fr S 1 q):Wz S q:=by
 unfold Fr at h
 rw [show q * ((1:Nat):Rat)=q from Rat.mul_one q] at h
 exact h
theorem Fr.muli {S U D:Nat} {a b:Rat} (ha:Fr S D a) (hb:Wz U b):Fr (S+U) D (a * b):=by
 have:=ha.mul (Fr.one hb)
 rwa [Nat.mul_one] at this
theorem Fr.imul {S U D:Nat} {a b:Rat} (hb:Wz U b) (ha:Fr S D a):Fr (S+U) D (b * a):=by rw [Rat.mul_comm];exact ha.muli hb
theorem Wz.nat {S n:Nat} (h:n < W32 ^ S):Wz S ((n:Nat):Rat):=by
 have:=Wz.int (S:=S) (z:=(n:Int)) (by simpa using h)
 exact this
theorem Fr.den {S U D E:Nat} {a:Rat} (ha:Fr S D a) (hE:E < W32 ^ U):Fr (S+U) (D * E) a:=by
 have:=Wz.mul (a:=a * (D:Rat)) (b:=(E:Rat)) ha (Wz.nat hE)
 have e:a * ((D * E:Nat):Rat)=a * (D:Rat) * (E:Rat):=by rw [Rat.natCast_mul];grind
 unfold Fr
 rw [e]
 exact this
theorem Fr.denl {S U D E:Nat} {a:Rat} (ha:Fr S D a) (hE:E < W32 ^ U):Fr (S+U) (E * D) a:=by rw [Nat.mul_comm];exact ha.den hE
theorem wz_sm {S:Nat} {f:Nat→Rat}:∀ n,(∀ i,i < n→Wz S (f i))→Wh (sm n f)∧(sm n f).num.natAbs+n≤n * W32 ^ S:=by
 intro n
 induction n with
 | zero=>intro _;exact ⟨rfl,Nat.zero_le (0 * W32 ^ S)⟩
 | succ n ih =>
  intro h
  obtain ⟨h1,h2⟩:=ih (fun i hi=>h i (by omega))
  obtain ⟨h3,h4⟩:=h n (by omega)
  show Wh (sm n f+f n)∧(sm n f+f n).num.natAbs+(n+1)≤_
  refine ⟨h1.add h3,?_⟩
  have e:(sm n f+f n)=(((sm n f).num+(f n).num:Int):Rat):=by rw [Rat.intCast_add,← h1.eq,← h3.eq]
  rw [e,Rat.num_intCast]
  have:=Int.natAbs_add_le (sm n f).num (f n).num
  rw [Nat.succ_mul]
  omega
theorem Wz.sm {S n:Nat} {f:Nat→Rat} (h:∀ i,i < n→Wz S (f i)) (hn:n≤W32):Wz (S+1) (sm n f):=by
 obtain ⟨h1,h2⟩:=wz_sm n h
 refine ⟨h1,?_⟩
 have h3:n * W32 ^ S≤W32 ^ (S+1):=by rw [Nat.pow_succ,Nat.mul_comm];exact Nat.mul_le_mul_left _ hn
 rcases Nat.eq_zero_or_pos n with h0 | h0
 ·subst h0
  have h4:(Stab.sm 0 f).num.natAbs=0:=rfl
  have:=Nat.pow_pos (n:=S+1) W32_pos
  omega
 ·omega
theorem Fr.sm {S D n:Nat} {f:Nat→Rat} (h:∀ i,i < n→Fr S D (f i)) (hn:n≤W32):Fr (S+1) D (sm n f):=by
 have:=Wz.sm (f:=fun i=>f i * (D:Rat)) (S:=S) (n:=n) h hn
 have e:Stab.sm n (fun i=>f i * (D:Rat))=Stab.sm n f * (D:Rat):=by
  rw [sm_congr (g:=fun i=>(D:Rat) * f i) (fun i _=>Rat.mul_comm _ _),sm_mul,Rat.mul_comm]
 rw [e] at this
 exact this
def FrL (S D:Nat) (l:List Rat):Prop:=∀ x ∈ l,Fr S D x
theorem FrL.mono {S S' D:Nat} {l:List Rat} (h:FrL S D l) (hS:S≤S'):FrL S' D l:=fun x hx=>(h x hx).mono hS
theorem FrL.at {S D:Nat} {l:List Rat} (h:FrL S D l) (i:Nat):Fr S D (l.getD i 0):=by
 rcases Nat.lt_or_ge i l.length with hi | hi
 ·exact h _ (getD_mem' hi)
 ·rw [pd_over hi];exact Fr.zero _ _
theorem FrL.of {S D:Nat} {l:List Rat} (h:∀ i,Fr S D (l.getD i 0)):FrL S D l:=fun x hx=>by
 obtain ⟨i,-,rfl⟩:=mem_getD hx
 exact h i
theorem FrL.tz {S D:Nat} {l:List Rat} (h:FrL S D l):FrL S D (tz l):=FrL.of fun i=>by rw [tz_getD'];exact h.at i
theorem FrL.den {S U D E:Nat} {l:List Rat} (h:FrL S D l) (hE:E < W32 ^ U):FrL (S+U) (D * E) l:=fun x hx=>(h x hx).den hE
theorem FrL.denl {S U D E:Nat} {l:List Rat} (h:FrL S D l) (hE:E < W32 ^ U):FrL (S+U) (E * D) l:=fun x hx=>(h x hx).denl hE
theorem FrL.sz {S D:Nat} {l:List Rat} (h:FrL S D l) (hS:1≤S) (hD:0 < D) (hl:D < W32 ^ S):SzL S l:=fun x hx=>(h x hx).sz hS hD hl
theorem FrL.range {S D n:Nat} {f:Nat→Rat} (h:∀ i,i < n→Fr S D (f i)):FrL S D ((List.range n).map f):=fun x hx=>by
 obtain ⟨i,hi,rfl⟩:=List.mem_map.1 hx
 exact h i (List.mem_range.1 hi)
theorem ap_fr {S U D E:Nat} {p q:List Rat} (hp:FrL S D p) (hq:FrL U E q) (hl:p.length≤W32) (n:Nat):Fr (S+U+1) (D * E) (ap p (seq q) n):=by
 rw [ap_sum]
 refine Fr.sm (fun i _=>(hp.at i).mul ?_) hl
 unfold shn
 split
 ·exact hq.at _
 ·exact Fr.zero _ _
theorem mul5_fr {S U D E:Nat} {p q:List Rat} (hp:FrL S D p) (hq:FrL U E q) (hl:p.length≤W32):FrL (S+U+1) (D * E) (mul5V p q):=by
 unfold mul5V
 exact FrL.tz (FrL.range fun i _=>ap_fr hp.tz hq.tz (Nat.le_trans (tz_len_le p) hl) i)
theorem add5_fr {S D:Nat} {p q:List Rat} (hp:FrL S D p) (hq:FrL S D q):FrL (S+1) D (add5V p q):=by
 unfold add5V
 exact FrL.tz (FrL.range fun i _=>(hp.at i).add (hq.at i))
theorem cor_fr {S U D E k:Nat} {b c:List Rat} (hb:FrL S D b) (hc:FrL U E c) (hl:b.length≤W32):Fr (S+U+1) (D * E) (corV b c k):=by
 unfold corV
 exact Fr.sm (fun i _=>(hb.at i).mul (hc.at _)) (by omega)
theorem crE_fr {S U D E k:Nat} {b c:List Rat} (hb:FrL S D b) (hc:FrL U E c) (hl:b.length≤W32) (hl2:c.length≤W32):Fr (S+U+2) (D * E) (crE b c k):=by
 unfold crE
 split
 ·exact (cor_fr hb hc hl).mono (by omega)
 ·refine (cor_fr hb hc hl).add ?_
  have:=cor_fr (k:=k) hc hb hl2
  rwa [Nat.mul_comm,Nat.add_comm U S] at this
theorem Tf_wz {k i:Nat} (hk:k≤20):Wz 1 (Tf k i):=by
 have h:=(chP_int k).1
 have hb:3 ^ k < W32 ^ 1:=Nat.lt_of_le_of_lt (Nat.pow_le_pow_right (by decide) hk) (by decide)
 unfold Tf
 rcases Nat.lt_or_ge i (chP k).1.length with hi | hi
 ·obtain ⟨h1,h2⟩:=h _ (getD_mem' hi)
  exact ⟨h1,Nat.lt_of_le_of_lt h2 hb⟩
 ·rw [pd_over hi];exact Wz.zero 1
theorem fbV_fr {S D:Nat} {c:List Rat} (h:FrL S D c) (hl:c.length≤21):FrL (S+2) D (fbV c):=by
 unfold fbV
 refine FrL.tz (FrL.range fun i _=>?_)
 unfold fbS
 refine (Fr.sm (S:=S+1) (fun k hk=>(h.at k).muli (Tf_wz (by omega))) (Nat.le_trans hl (by decide))).mono (by omega)
theorem cross_fr {S U D E:Nat} {p q:List Rat} (hp:FrL S D p) (hq:FrL U E q) (hl:p.length≤21) (hl2:q.length≤21):FrL (S+U+4) (D * E) (crossV p q):=by
 have h1:=tz_len_le p
 have h2:=tz_len_le q
 have h3:21≤W32:=by decide
 unfold crossV
 refine fbV_fr (S:=S+U+2) (FrL.range fun i _=>crE_fr hp.tz hq.tz (by omega) (by omega)) ?_
 rw [List.length_map,List.length_range]
 omega
theorem fr_abs {S U D:Nat} {L x:Rat} (hL:Wz U L) (h:Wz S (x * (D:Rat) * L)):Fr S (D * L.num.natAbs) x:=by
 have e0:x * ((D * L.num.natAbs:Nat):Rat)=x * (D:Rat) * ((L.num.natAbs:Nat):Rat):=by rw [Rat.natCast_mul,Rat.mul_assoc]
 unfold Fr
 rw [e0]
 have e1:=hL.1.eq
 have e2:((L.num.natAbs:Nat):Rat)=(((L.num.natAbs:Nat):Int):Rat):=rfl
 rcases Int.natAbs_eq L.num with h1 | h1
 ·rw [e2,← h1,← e1];exact h
 ·have e3:(((L.num.natAbs:Nat):Int):Rat)=-L:=by
   have:((L.num.natAbs:Nat):Int)=-L.num:=by omega
   rw [this,Rat.intCast_neg,← e1]
  rw [e2,e3,Rat.mul_neg]
  exact h.neg
theorem wz_lead {U E:Nat} {q:List Rat} (hq:FrL U E q):Wz U (lead q * (E:Rat)):=hq.at _
def ldD (q:List Rat) (E:Nat):Nat:=(lead q * (E:Rat)).num.natAbs
theorem ldD_lt {U E:Nat} {q:List Rat} (hq:FrL U E q):ldD q E < W32 ^ U:=(wz_lead hq).2
theorem ldD_pos {U E:Nat} {q:List Rat} (hq:FrL U E q) (h0:lead q ≠ 0) (hE:0 < E):0 < ldD q E:=by
 rcases Nat.eq_zero_or_pos (ldD q E) with h | h
 ·exfalso
  have h1:(lead q * (E:Rat)).num=0:=by unfold ldD at h;omega
  have h2:=(wz_lead hq).1.eq
  rw [h1] at h2
  rcases Rat.mul_eq_zero.1 h2 with h3 | h3
  ·exact h0 h3
  ·have:((E:Nat):Rat)=(((E:Nat):Int):Rat):=rfl
   rw [this] at h3
   have h4:=congrArg Rat.num h3
   rw [Rat.num_intCast] at h4
   have:((0:Rat)).num=0:=rfl
   omega
 ·exact h
theorem rstep_fr {S U D E:Nat} {p q:List Rat} (hp:FrL S D p) (hq:FrL U E q) (h0:lead q ≠ 0):FrL (S+U+1) (D * ldD q E) (rstep p q):=by
 unfold rstep
 refine FrL.tz (FrL.range fun i _=>?_)
 refine fr_abs (wz_lead hq) ?_
 have h1:Wz (S+U) (p.getD i 0 * (D:Rat) * (lead q * (E:Rat))):=Wz.mul (hp.at i) (wz_lead hq)
 have h2:Wz (S+U) (lead p * (D:Rat) * (q.getD (i - (p.length - q.length)) 0 * (E:Rat))):=Wz.mul (hp.at _) (hq.at _)
 have h3:=pd_div (a:=lead p) h0
 split
 ·have e:(p.getD i 0 - lead p / lead q * q.getD (i - (p.length - q.length)) 0) * (D:Rat) * (lead q * (E:Rat))=p.getD i 0 * (D:Rat) * (lead q * (E:Rat)) - lead p * (D:Rat) * (q.getD (i - (p.length - q.length)) 0 * (E:Rat)):=by
   generalize lead p / lead q=c at *
   rw [← h3];grind
  rw [e]
  exact h1.sub h2
 ·have e:(p.getD i 0 - 0) * (D:Rat) * (lead q * (E:Rat))=p.getD i 0 * (D:Rat) * (lead q * (E:Rat)):=by grind
  rw [e]
  exact h1.mono (by omega)
theorem monV_fr {S D:Nat} {p:List Rat} (hp:FrL S D p):FrL S (ldD (tz p) D) (monV p):=by
 unfold monV
 split
 ·intro x hx;simp at hx
 ·next h =>
  refine FrL.tz fun x hx=>?_
  obtain ⟨y,hy,rfl⟩:=List.mem_map.1 hx
  have h1:=fr_abs (S:=S) (D:=1) (x:=y * (((1:Int):Rat) / lead (tz p))) (wz_lead hp.tz) (by
   have h2:=pd_div (a:=((1:Int):Rat)) (lead_tz h)
   have e:y * (((1:Int):Rat) / lead (tz p)) * ((1:Nat):Rat) * (lead (tz p) * (D:Rat))=y * (D:Rat):=by
    have h3:((1:Int):Rat)=1:=rfl
    have h4:((1:Nat):Rat)=1:=rfl
    rw [h4]
    rw [h3] at h2 ⊢
    generalize 1 / lead (tz p)=c at *
    grind
   rw [e]
   exact hp.tz y hy)
  rwa [Nat.one_mul] at h1
def runN (b a:List Rat) (x:Nat→Rat) (y:List Rat):Rat:=sm (y.length+1) (fun k=>b.getD k 0 * x (y.length - k)) - sm y.length (fun k=>a.getD (k+1) 0 * y.getD (y.length - 1 - k) 0)
def runL (b a:List Rat) (x:Nat→Rat):Nat→List Rat
 | 0=>[]
 | n+1=>runL b a x n ++ [runN b a x (runL b a x n)]
theorem runL_len (b a:List Rat) (x:Nat→Rat) (n:Nat):(runL b a x n).length=n:=by
 induction n with
 | zero=>rfl
 | succ n ih=>unfold runL;rw [List.length_append,ih];rfl
theorem getD_snoc {l:List Rat} {x:Rat}:(l ++ [x]).getD l.length 0=x:=by simp
theorem getD_snoc_lt {l:List Rat} {x:Rat} {k:Nat} (h:k < l.length):(l ++ [x]).getD k 0=l.getD k 0:=by simp [List.getElem?_append_left h]
theorem runL_get (b a:List Rat) (x:Nat→Rat) {k m:Nat} (h:k < m):(runL b a x m).getD k 0=runN b a x (runL b a x k):=by
 induction m with
 | zero=>omega
 | succ m ih =>
  show (runL b a x m ++ [runN b a x (runL b a x m)]).getD k 0=_
  rcases Nat.lt_or_ge k m with h1 | h1
  ·rw [getD_snoc_lt (by rw [runL_len];exact h1)]
   exact ih h1
  ·obtain rfl:k=m:=by omega
   have:=getD_snoc (l:=runL b a x k) (x:=runN b a x (runL b a x k))
   rwa [runL_len] at this
theorem runL_pre (b a:List Rat) (x:Nat→Rat) {k m n:Nat} (h:k < m) (h2:k < n):(runL b a x m).getD k 0=(runL b a x n).getD k 0:=by rw [runL_get b a x h,runL_get b a x h2]
theorem run_tz (b a:List Rat) (x:Nat→Rat) (n:Nat):runL (tz b) (tz a) x n=runL b a x n:=by
 induction n with
 | zero=>rfl
 | succ n ih =>
  unfold runL
  rw [ih]
  congr 2
  unfold runN
  congr 1
  ·exact sm_congr (fun i _=>by rw [tz_getD'])
  ·exact sm_congr (fun i _=>by rw [tz_getD'])
def nsm:Nat→(Nat→Nat)→Nat
 | 0,_=>0
 | n+1,f=>nsm n f+f n
theorem sm_szv {t:Nat→Nat} {f:Nat→Rat} {n:Nat} (h:∀ i,i < n→Sz (t i) (f i)):Sz (1+nsm n (fun i=>t i+1)) (sm n f):=by
 induction n with
 | zero=>exact Sz.zero (by show 1≤1+0;decide)
 | succ n ih =>
  show Sz (1+(nsm n _+(t n+1))) (sm n f+f n)
  exact ((ih (fun i hi=>h i (by omega))).add (h n (by omega))).mono (by omega)
theorem geo_sum (K c n:Nat):∀ m,m≤n→nsm m (fun i=>c+K * 2 ^ (n - 1 - i))+K * 2 ^ (n - m)=m * c+K * 2 ^ n:=by
 intro m
 induction m with
 | zero=>intro _;simp [nsm]
 | succ m ih =>
  intro h
  have h1:=ih (by omega)
  show nsm m _+(c+K * 2 ^ (n - 1 - m))+K * 2 ^ (n - (m+1))=_
  have e:K * 2 ^ (n - m)=K * 2 ^ (n - 1 - m)+K * 2 ^ (n - (m+1)):=by
   rw [show n - m=(n - (m+1))+1 by omega,show n - 1 - m=n - (m+1) by omega,Nat.pow_succ,← Nat.mul_assoc];omega
  rw [Nat.succ_mul]
  omega
def runK (sb sa sx lb la:Nat):Nat:=4+lb * (sb+sx+1)+la * (sa+1)
theorem run_part1 {b:List Rat} {x:Nat→Rat} {sb sx n:Nat} (hb:SzL sb b) (h1:1≤sb) (hx:∀ i,Sz sx (x i)) (k:Nat):Sz (1+k * (sb+sx+1)) (sm (min k (n+1)) (fun k=>b.getD k 0 * x (n - k))):=by
 refine (sm_sz (t:=sb+sx) (fun i _=>(hb.getD h1 i).mul (hx _))).mono ?_
 have:=Nat.mul_le_mul_right (sb+sx+1) (show min k (n+1)≤k by omega)
 omega
theorem run_part2 {a:List Rat} {y:List Rat} {sa K n:Nat} (ha:SzL sa a) (h1:1≤sa) (hy:∀ i,i < n→Sz (K * 2 ^ i) (y.getD i 0)) (hn:1≤K) (k:Nat):Sz (1+k * (sa+1)+K * 2 ^ n - K) (sm (min k n) (fun k=>a.getD (k+1) 0 * y.getD (n - 1 - k) 0)):=by
 have h2:=sm_szv (t:=fun i=>sa+K * 2 ^ (n - 1 - i)) (f:=fun k=>a.getD (k+1) 0 * y.getD (n - 1 - k) 0) (n:=min k n) (fun i hi=>(ha.getD h1 _).mul (hy _ (by omega)))
 refine h2.mono ?_
 have h3:=geo_sum K (sa+1) n (min k n) (by omega)
 have e:nsm (min k n) (fun i=>sa+K * 2 ^ (n - 1 - i)+1)=nsm (min k n) (fun i=>sa+1+K * 2 ^ (n - 1 - i)):=by
  congr 1
  funext i
  omega
 rw [e]
 have h4:=Nat.mul_le_mul_right (sa+1) (show min k n≤k by omega)
 have h5:1≤2 ^ (n - min k n):=Nat.one_le_two_pow
 have h6:=Nat.mul_le_mul_left K h5
 omega
theorem run_sz1 {b a y:List Rat} {x:Nat→Rat} {sb sa sx lb la n:Nat} (hb:SzL sb b) (ha:SzL sa a) (h1:1≤sb) (h2:1≤sa) (hx:∀ i,Sz sx (x i)) (hlb:b.length≤lb) (hla:a.length≤la)
  (hy:∀ i,i < n→Sz (runK sb sa sx lb la * 2 ^ i) (y.getD i 0)) (k j:Nat) (hk:k≤lb) (hj:j≤la) :
  Sz (runK sb sa sx lb la * 2 ^ n) (sm (min k (n+1)) (fun k=>b.getD k 0 * x (n - k)) - sm (min j n) (fun k=>a.getD (k+1) 0 * y.getD (n - 1 - k) 0)):=by
 refine ((run_part1 hb h1 hx k).sub (run_part2 ha h2 hy (by unfold runK;omega) j)).mono ?_
 have h3:=Nat.mul_le_mul_right (sb+sx+1) hk
 have h4:=Nat.mul_le_mul_right (sa+1) hj
 have h5:1≤2 ^ n:=Nat.one_le_two_pow
 have h6:=Nat.mul_le_mul_left (runK sb sa sx lb la) h5
 have e:runK sb sa sx lb la=4+lb * (sb+sx+1)+la * (sa+1):=rfl
 omega
theorem sm_cut {f:Nat→Rat} {n l k:Nat} (h:∀ i,l≤i→f i=0) (hk:l≤k):sm (min k n) f=sm n f:=by
 refine sm_extend (by omega) (fun i h1 h2=>h i (by omega))
theorem run_full {b a:List Rat} {x:Nat→Rat} {y:List Rat} {n k j:Nat} (hn:y.length=n) (hk:b.length≤k) (hj:a.length≤j+1):sm (min k (n+1)) (fun k=>b.getD k 0 * x (n - k)) - sm (min j n) (fun k=>a.getD (k+1) 0 * y.getD (n - 1 - k) 0)=runN b a x y:=by
 unfold runN
 rw [hn,sm_cut (l:=b.length) (fun i hi=>by rw [pd_over hi];grind) hk,sm_cut (l:=j) (fun i hi=>by rw [pd_over (l:=a) (by omega)];grind) (Nat.le_refl _)]
theorem run_sz {b a:List Rat} {x:Nat→Rat} {sb sa sx lb la:Nat} (hb:SzL sb b) (ha:SzL sa a) (h1:1≤sb) (h2:1≤sa) (hx:∀ i,Sz sx (x i)) (hlb:b.length≤lb) (hla:a.length≤la) (N:Nat):∀ n,n < N→Sz (runK sb sa sx lb la * 2 ^ n) ((runL b a x N).getD n 0):=by
 induction N with
 | zero=>intro n hn;omega
 | succ N ih =>
  intro n hn
  rcases Nat.lt_or_ge n N with h | h
  ·rw [runL_pre b a x (m:=N+1) (n:=N) (by omega) h]
   exact ih n h
  ·obtain rfl:n=N:=by omega
   rw [runL_get b a x (by omega),← run_full (runL_len b a x n) hlb (by omega:a.length≤la+1)]
   exact run_sz1 hb ha h1 h2 hx hlb hla ih lb la (Nat.le_refl _) (Nat.le_refl _)
theorem cv_mulr (c:Rat) (s u:Nat→Rat):cv u (fun n=>c * s n)=fun n=>c * cv u s n:=by rw [cv_comm,cv_mul,cv_comm s]
theorem sm_zero' {n:Nat} {f:Nat→Rat} (h:∀ i,i < n→f i=0):sm n f=0:=by rw [sm_congr (g:=fun _=>0) h,sm_zero]
def FrB (S:Nat) (l:List Rat):Prop:=1≤S∧∃ D,0 < D∧D < W32 ^ S∧FrL S D l
theorem W32_le {S U:Nat} (h:S≤U):W32 ^ S≤W32 ^ U:=Nat.pow_le_pow_right W32_pos h
theorem FrB.mono {S U:Nat} {l:List Rat} (h:FrB S l) (hS:S≤U):FrB U l:=by
 obtain ⟨h0,D,h1,h2,h3⟩:=h
 exact ⟨by omega,D,h1,Nat.lt_of_lt_of_le h2 (W32_le hS),h3.mono hS⟩
theorem FrB.sz {S:Nat} {l:List Rat} (h:FrB S l):SzL S l:=by
 obtain ⟨h0,D,h1,h2,h3⟩:=h
 exact h3.sz h0 h1 h2
theorem FrB.tz {S:Nat} {l:List Rat} (h:FrB S l):FrB S (tz l):=by
 obtain ⟨h0,D,h1,h2,h3⟩:=h
 exact ⟨h0,D,h1,h2,h3.tz⟩
theorem mul_lt_W {S U D E:Nat} (hD:D < W32 ^ S) (hE:E < W32 ^ U) (h:0 < E):D * E < W32 ^ (S+U):=by
 rw [Nat.pow_add]
 exact Nat.mul_lt_mul_of_lt_of_lt hD hE
theorem FrB.mul {S U:Nat} {p q:List Rat} (hp:FrB S p) (hq:FrB U q) (hl:p.length≤1000000):FrB (S+U+1) (mul5V p q):=by
 obtain ⟨h0,D,h1,h2,h3⟩:=hp
 obtain ⟨k0,E,k1,k2,k3⟩:=hq
 exact ⟨by omega,D * E,Nat.mul_pos h1 k1,Nat.lt_of_lt_of_le (mul_lt_W h2 k2 k1) (W32_le (by omega)),mul5_fr h3 k3 (Nat.le_trans hl (by decide))⟩
theorem FrB.add {S U:Nat} {p q:List Rat} (hp:FrB S p) (hq:FrB U q):FrB (S+U+1) (add5V p q):=by
 obtain ⟨h0,D,h1,h2,h3⟩:=hp
 obtain ⟨k0,E,k1,k2,k3⟩:=hq
 refine ⟨by omega,D * E,Nat.mul_pos h1 k1,Nat.lt_of_lt_of_le (mul_lt_W h2 k2 k1) (W32_le (by omega)),add5_fr (h3.den k2) ?_⟩
 have:=k3.denl h2
 rwa [Nat.add_comm U S] at this
theorem FrB.neg {S:Nat} {p:List Rat} (hp:FrB S p):FrB S (p.map (fun x=>-x)):=by
 obtain ⟨h0,D,h1,h2,h3⟩:=hp
 exact ⟨h0,D,h1,h2,fun x hx=>by
  obtain ⟨y,hy,rfl⟩:=List.mem_map.1 hx
  exact (h3 y hy).neg⟩
theorem FrB.cross {S U:Nat} {p q:List Rat} (hp:FrB S p) (hq:FrB U q) (hl:p.length≤21) (hl2:q.length≤21):FrB (S+U+4) (crossV p q):=by
 obtain ⟨h0,D,h1,h2,h3⟩:=hp
 obtain ⟨k0,E,k1,k2,k3⟩:=hq
 exact ⟨by omega,D * E,Nat.mul_pos h1 k1,Nat.lt_of_lt_of_le (mul_lt_W h2 k2 k1) (W32_le (by omega)),cross_fr h3 k3 hl hl2⟩
theorem FrB.of {k n:Nat} {p:List Rat} (h:SzL k p) (hl:p.length≤n):FrB (k * (n+1)+1) p:=by
 obtain ⟨D,h1,h2,h3⟩:=fr_all p h
 have e:=Nat.mul_le_mul_left k (show p.length+1≤n+1 by omega)
 have e2:=Nat.mul_le_mul_left k (show p.length≤n+1 by omega)
 exact ⟨by omega,D,h1,Nat.lt_of_lt_of_le h2 (W32_le (by omega)),FrL.mono h3 (by omega)⟩
theorem FrB.nil:FrB 1 []:=⟨by decide,1,by decide,by decide,fun x hx=>by simp at hx⟩
theorem FrB.range {S n:Nat} {l:List Rat} (h:FrB S l) {f:Nat→Rat} (hf:∀ i,i < n→∃ z,Wz 1 z∧f i=z * l.getD i 0):FrB (S+1) ((List.range n).map f):=by
 obtain ⟨h0,D,h1,h2,h3⟩:=h
 refine ⟨by omega,D,h1,Nat.lt_of_lt_of_le h2 (W32_le (by omega)),FrL.range fun i hi=>?_⟩
 obtain ⟨z,hz,e⟩:=hf i hi
 rw [e]
 exact Fr.imul hz (h3.at i)
end Go.Proofs.YtpieblkklbilgaaGreat
