/- Stab, StbP, Stb1, Stb2, Stb3 -/
import Derived.Test.YtpieblkklbilgaaGreatQPM8
import Derived.Test.YtpieblkklbilgaaGreatQPM7
import Derived.Test.YtpieblkklbilgaaGreatQPM1
set_option linter.unusedVariables false
namespace Go.Stab
def sm:Nat→(Nat→Rat)→Rat
 | 0,_=>0
 | n+1,f=>sm n f+f n
theorem sm_congr {n:Nat} {f g:Nat→Rat} (h:∀ i,i < n→f i=g i):sm n f=sm n g:=by
 induction n with
 | zero=>rfl
 | succ n ih=>simp only [sm];rw [ih (fun i hi=>h i (by omega)),h n (by omega)]
theorem sm_add (n:Nat) (f g:Nat→Rat):sm n (fun i=>f i+g i)=sm n f+sm n g:=by
 induction n with
 | zero=>simp only [sm];grind
 | succ n ih=>simp only [sm];rw [ih];grind
theorem sm_mul (n:Nat) (c:Rat) (f:Nat→Rat):sm n (fun i=>c * f i)=c * sm n f:=by
 induction n with
 | zero=>simp [sm]
 | succ n ih=>simp only [sm];rw [ih];grind
theorem sm_zero (n:Nat):sm n (fun _=>0)=0:=by
 induction n with
 | zero=>rfl
 | succ n ih=>simp only [sm];rw [ih];grind
theorem sm_le {n:Nat} {f g:Nat→Rat} (h:∀ i,i < n→f i≤g i):sm n f≤sm n g:=by
 induction n with
 | zero=>exact Rat.le_refl
 | succ n ih =>
  simp only [sm]
  have h1:=ih (fun i hi=>h i (by omega))
  have h2:=h n (by omega)
  grind
theorem sm_nonneg {n:Nat} {f:Nat→Rat} (h:∀ i,i < n→0≤f i):0≤sm n f:=by
 have:=sm_le (f:=fun _=>0) (g:=f) h
 rwa [sm_zero] at this
theorem sm_succ' (n:Nat) (f:Nat→Rat):sm (n+1) f=f 0+sm n (fun i=>f (i+1)):=by
 induction n with
 | zero=>simp [sm];grind
 | succ n ih=>rw [sm,ih];simp only [sm];grind
theorem sm_split (n m:Nat) (f:Nat→Rat):sm (n+m) f=sm n f+sm m (fun i=>f (n+i)):=by
 induction m with
 | zero=>simp [sm];grind
 | succ m ih=>rw [← Nat.add_assoc];simp only [sm];rw [ih];grind
theorem sm_rev (n:Nat) (f:Nat→Rat):sm n f=sm n (fun i=>f (n - 1 - i)):=by
 induction n with
 | zero=>rfl
 | succ n ih =>
  rw [sm_succ' n (fun i=>f (n+1 - 1 - i))]
  simp only [sm]
  rw [ih]
  have:sm n (fun i=>f (n+1 - 1 - (i+1)))=sm n (fun i=>f (n - 1 - i)):=sm_congr (fun i hi=>by congr 1;omega)
  rw [this]
  simp only [Nat.add_sub_cancel,Nat.sub_zero]
  grind
def sh (u:Nat→Rat):Nat→Rat
 | 0=>0
 | n+1=>u n
def ap:List Rat→(Nat→Rat)→Nat→Rat
 | [],_=>fun _=>0
 | a :: l,u=>fun n=>a * u n+sh (ap l u) n
def E (n:Nat) (u:Nat→Rat):Rat:=sm n (fun i=>u i * u i)
theorem sq_nonneg (x:Rat):0≤x * x:=by
 rcases Rat.le_total (a:=0) (b:=x) with h | h
 ·exact Rat.mul_nonneg h h
 ·have:=Rat.mul_nonneg (a:=-x) (b:=-x) (by grind) (by grind)
  grind
theorem E_sh (n:Nat) (u:Nat→Rat):E n (sh u)≤E n u:=by
 unfold E
 cases n with
 | zero=>exact Rat.le_refl
 | succ n =>
  rw [sm_succ']
  simp only [sh,sm]
  have:=sq_nonneg (u n)
  grind
theorem sh_add (u v:Nat→Rat):sh (fun n=>u n+v n)=fun n=>sh u n+sh v n:=by
 funext n
 cases n
 ·simp only [sh];grind
 ·rfl
theorem sh_mul (c:Rat) (u:Nat→Rat):sh (fun n=>c * u n)=fun n=>c * sh u n:=by
 funext n;cases n <;> simp [sh]
theorem sh_zero:sh (fun _=>0)=fun _=>0:=by
 funext n;cases n <;> rfl
def ladd (a b:List Rat):List Rat:=List.zipWith (·+·) a b
def lmul (c:Rat) (a:List Rat):List Rat:=a.map (c * ·)
theorem ap_ladd {a b:List Rat} (h:a.length=b.length) (u:Nat→Rat):ap (ladd a b) u=fun n=>ap a u n+ap b u n:=by
 induction a generalizing b with
 | nil =>
  cases b with
  | nil=>funext n;simp only [ladd,ap,List.zipWith_nil_left];grind
  | cons x b=>simp at h
 | cons x a ih =>
  cases b with
  | nil=>simp at h
  | cons y b =>
   have h':=ih (b:=b) (by simpa using h)
   funext n
   simp only [ladd,List.zipWith_cons_cons,ap] at *
   rw [h',sh_add]
   grind
theorem ap_lmul (c:Rat) (a:List Rat) (u:Nat→Rat):ap (lmul c a) u=fun n=>c * ap a u n:=by
 induction a with
 | nil=>funext n;simp [lmul,ap]
 | cons x a ih =>
  funext n
  simp only [lmul,List.map_cons,ap] at *
  rw [ih,sh_mul]
  grind
theorem ap_snoc (a:List Rat) (u:Nat→Rat):ap (a ++ [0]) u=ap a u:=by
 induction a with
 | nil=>funext n;simp only [List.nil_append,ap,sh_zero];grind
 | cons x a ih=>funext n;simp only [List.cons_append,ap];rw [ih]
theorem ap_cons0 (a:List Rat) (u:Nat→Rat):ap (0 :: a) u=sh (ap a u):=by
 funext n;simp only [ap];grind
def up (c:List Rat) (k:Rat):List Rat:=ladd (c ++ [0]) (lmul k (0 :: c.reverse))
theorem lmul_reverse (k:Rat) (a:List Rat):(lmul k a).reverse=lmul k a.reverse:=by simp [lmul]
theorem ladd_reverse {a b:List Rat} (h:a.length=b.length):(ladd a b).reverse=ladd a.reverse b.reverse:=by
 unfold ladd;exact List.reverse_zipWith h
theorem up_ap (c:List Rat) (k:Rat) (u:Nat→Rat):ap (up c k) u=fun n=>ap c u n+k * sh (ap c.reverse u) n:=by
 unfold up
 rw [ap_ladd (by simp [lmul]),ap_lmul,ap_snoc,ap_cons0]
theorem up_rev (c:List Rat) (k:Rat) (u:Nat→Rat):ap (up c k).reverse u=fun n=>sh (ap c.reverse u) n+k * ap c u n:=by
 unfold up
 rw [ladd_reverse (by simp [lmul]),lmul_reverse,ap_ladd (by simp [lmul]),ap_lmul,List.reverse_append,@List.reverse_cons _ 0 c.reverse,List.reverse_reverse,ap_snoc]
 simp only [List.reverse_cons,List.reverse_nil,List.nil_append,List.singleton_append]
 rw [ap_cons0]
theorem up_length (c:List Rat) (k:Rat):(up c k).length=c.length+1:=by simp [up,ladd,lmul]
def Inv (c:List Rat):Prop:=∃ C:Rat,0≤C∧∀ u N,E N u≤C * E N (ap c u)
def Con (c:List Rat):Prop:=∀ u N,E N (ap c.reverse u)≤E N (ap c u)
theorem E_lin (N:Nat) (f g:Nat→Rat) (a b:Rat):E N (fun n=>a * f n+b * g n)=a * a * E N f+2 * a * b * sm N (fun n=>f n * g n)+b * b * E N g:=by
 unfold E
 rw [← sm_mul,← sm_mul,← sm_mul,← sm_add,← sm_add]
 exact sm_congr (fun i _=>by grind)
theorem up_E (c:List Rat) (k:Rat) (u:Nat→Rat) (N:Nat):E N (ap (up c k) u) - E N (ap (up c k).reverse u)=(1 - k * k) * (E N (ap c u) - E N (sh (ap c.reverse u))):=by
 have h1:=E_lin N (ap c u) (sh (ap c.reverse u)) 1 k
 have h2:=E_lin N (ap c u) (sh (ap c.reverse u)) k 1
 have e1:(fun n=>1 * ap c u n+k * sh (ap c.reverse u) n)=ap (up c k) u:=by rw [up_ap];funext n;grind
 have e2:(fun n=>k * ap c u n+1 * sh (ap c.reverse u) n)=ap (up c k).reverse u:=by rw [up_rev];funext n;grind
 rw [e1] at h1
 rw [e2] at h2
 rw [h1,h2]
 grind
theorem weigh {P Q R:Nat→Rat} {k K:Rat} {N:Nat} (h:∀ n,P n=Q n+k * R n) (hE:E N R≤E N P) (h0:0≤K) (h1:K < 1) (hk:k=K ∨ k=-K):(1 - K) * (1 - K) * E N P≤E N Q:=by
 have hp:∀ n,(1 - K) * (P n * P n)≤Q n * Q n+K * (1 - K) * (R n * R n):=by
  intro n
  rw [h n]
  rcases hk with hk | hk <;> subst hk
  ·have:=Rat.mul_nonneg h0 (sq_nonneg (Q n - (1 - k) * R n))
   grind
  ·have:=Rat.mul_nonneg h0 (sq_nonneg (Q n+(1 - K) * R n))
   grind
 have hs:(1 - K) * E N P≤E N Q+K * (1 - K) * E N R:=by
  unfold E
  rw [← sm_mul,← sm_mul,← sm_add]
  exact sm_le (fun i _=>hp i)
 have h2:K * (1 - K) * E N R≤K * (1 - K) * E N P:=Rat.mul_le_mul_of_nonneg_left hE (Rat.mul_nonneg h0 (by grind))
 grind
theorem abs_cases (k:Rat) (h1:-1 < k) (h2:k < 1):∃ K:Rat,0≤K∧K < 1∧(k=K ∨ k=-K):=by
 rcases Rat.le_total (a:=0) (b:=k) with h | h
 ·exact ⟨k,h,h2,Or.inl rfl⟩
 ·exact ⟨-k,by grind,by grind,Or.inr (by grind)⟩
theorem div_le_of {C e x y:Rat} (he:0 < e) (hC:0≤C) (h:e * x≤y):C * x≤C / e * y:=by
 have h1:0≤C / e:=by rw [Rat.div_def];exact Rat.mul_nonneg hC (Rat.le_of_lt (Rat.inv_pos.2 he))
 have h2:=Rat.mul_le_mul_of_nonneg_left h h1
 have h3:C / e * e=C:=Rat.div_mul_cancel (by grind)
 rw [← Rat.mul_assoc,h3] at h2
 exact h2
theorem div_nonneg {C e:Rat} (hC:0≤C) (he:0 < e):0≤C / e:=by
 rw [Rat.div_def];exact Rat.mul_nonneg hC (Rat.le_of_lt (Rat.inv_pos.2 he))
theorem sq_pos {K:Rat} (h:K < 1):0 < (1 - K) * (1 - K):=Rat.mul_pos (by grind) (by grind)
theorem Con.up {c:List Rat} (h:Con c) {k:Rat} (h1:-1 < k) (h2:k < 1):Con (up c k):=by
 intro u N
 have e:=up_E c k u N
 have e1:=Rat.le_trans (E_sh N (ap c.reverse u)) (h u N)
 have e2:0≤1 - k * k:=by
  have:=Rat.mul_nonneg (a:=1 - k) (b:=1+k) (by grind) (by grind)
  grind
 have e3:=Rat.mul_nonneg e2 (b:=E N (ap c u) - E N (sh (ap c.reverse u))) (by grind)
 grind
theorem Inv.up {c:List Rat} (hi:Inv c) (h:Con c) {k:Rat} (h1:-1 < k) (h2:k < 1):Inv (up c k):=by
 obtain ⟨C,hC,hI⟩:=hi
 obtain ⟨K,hK0,hK1,hk⟩:=abs_cases k h1 h2
 refine ⟨C / ((1 - K) * (1 - K)),div_nonneg hC (sq_pos hK1),fun u N=>?_⟩
 have hw:=weigh (P:=ap c u) (Q:=ap (Stab.up c k) u) (R:=fun n=>-1 * sh (ap c.reverse u) n) (k:=k) (K:=K) (N:=N)
  (fun n=>by rw [up_ap];grind) (by
   have e:=E_lin N (sh (ap c.reverse u)) (fun _=>0) (-1) 0
   have e':(fun n=>-1 * sh (ap c.reverse u) n+0 * (fun _=>(0:Rat)) n)=fun n=>-1 * sh (ap c.reverse u) n:=by funext n;grind
   rw [e'] at e
   have:=Rat.le_trans (E_sh N (ap c.reverse u)) (h u N)
   grind) hK0 hK1 hk
 exact Rat.le_trans (hI u N) (div_le_of (sq_pos hK1) hC hw)
theorem Inv.down {c:List Rat} {k:Rat} (hi:Inv (Stab.up c k)) (h:Con (Stab.up c k)) (h1:-1 < k) (h2:k < 1):Inv c:=by
 obtain ⟨C,hC,hI⟩:=hi
 obtain ⟨K,hK0,hK1,hk⟩:=abs_cases k h1 h2
 have hz:0≤(1 - k * k) * (1 - k * k):=sq_nonneg _
 refine ⟨C / ((1 - K) * (1 - K)) * ((1 - k * k) * (1 - k * k)),Rat.mul_nonneg (div_nonneg hC (sq_pos hK1)) hz,fun u N=>?_⟩
 have hw:=weigh (P:=ap (Stab.up c k) u) (Q:=fun n=>(1 - k * k) * ap c u n) (R:=ap (Stab.up c k).reverse u) (k:=k) (K:=K) (N:=N)
  (fun n=>by rw [up_ap,up_rev];grind) (h u N) hK0 hK1 hk
 have e:=E_lin N (ap c u) (fun _=>0) (1 - k * k) 0
 have e':(fun n=>(1 - k * k) * ap c u n+0 * (fun _=>(0:Rat)) n)=fun n=>(1 - k * k) * ap c u n:=by funext n;grind
 rw [e'] at e
 rw [e] at hw
 have:=Rat.le_trans (hI u N) (div_le_of (sq_pos hK1) hC hw)
 grind
def shn (i:Nat) (u:Nat→Rat) (n:Nat):Rat:=if i≤n then u (n - i) else 0
theorem shn_succ (i:Nat) (u:Nat→Rat) (n:Nat):shn (i+1) u (n+1)=shn i u n:=by
 unfold shn
 by_cases h:i≤n
 ·rw [if_pos h,if_pos (by omega)];congr 1;omega
 ·rw [if_neg h,if_neg (by omega)]
theorem ap_sum (c:List Rat) (u:Nat→Rat) (n:Nat):ap c u n=sm c.length (fun i=>c.getD i 0 * shn i u n):=by
 induction c generalizing n with
 | nil=>rfl
 | cons a l ih =>
  simp only [ap,List.length_cons]
  rw [sm_succ']
  have e0:shn 0 u n=u n:=by unfold shn;simp
  have e1:sh (ap l u) n=sm l.length (fun i=>(a :: l).getD (i+1) 0 * shn (i+1) u n):=by
   cases n with
   | zero =>
    simp only [sh]
    rw [sm_congr (g:=fun _=>0) (fun i _=>by simp [shn]),sm_zero]
   | succ n =>
    simp only [sh]
    rw [ih]
    exact sm_congr (fun i _=>by rw [shn_succ];simp)
  rw [e1,e0]
  simp
def G (L:Nat) (u:Nat→Rat) (i j:Nat):Rat:=sm L (fun n=>shn i u n * shn j u n)
theorem lt_or_le (a b:Rat):a < b ∨ b≤a:=by
 rcases Rat.le_total (a:=b) (b:=a) with h | h
 ·exact Or.inr h
 ·by_cases h1:a=b
  ·right;rw [h1];exact Rat.le_refl
  ·left;exact Rat.lt_of_le_of_ne h h1
def seq (c:List Rat) (n:Nat):Rat:=c.getD n 0
def cv (s u:Nat→Rat) (n:Nat):Rat:=sm (n+1) (fun i=>s i * u (n - i))
theorem cv_comm (s u:Nat→Rat):cv s u=cv u s:=by
 funext n
 unfold cv
 rw [sm_rev]
 exact sm_congr (fun i hi=>by rw [show n - (n+1 - 1 - i)=i by omega,show n+1 - 1 - i=n - i by omega];grind)
theorem cv_sh (t u:Nat→Rat):cv (sh t) u=sh (cv t u):=by
 funext n
 cases n with
 | zero=>simp only [cv,sm,sh];grind
 | succ n =>
  simp only [sh]
  unfold cv
  rw [sm_succ']
  simp only [sh]
  rw [sm_congr (f:=fun i=>t i * u (n+1 - (i+1))) (g:=fun i=>t i * u (n - i)) (fun i hi=>by rw [show n+1 - (i+1)=n - i by omega])]
  grind
theorem cv_add (s t u:Nat→Rat):cv (fun n=>s n+t n) u=fun n=>cv s u n+cv t u n:=by
 funext n
 unfold cv
 rw [← sm_add]
 exact sm_congr (fun i _=>by grind)
theorem cv_mul (c:Rat) (s u:Nat→Rat):cv (fun n=>c * s n) u=fun n=>c * cv s u n:=by
 funext n
 unfold cv
 rw [← sm_mul]
 exact sm_congr (fun i _=>by grind)
theorem cv_ap (p:List Rat) (s u:Nat→Rat):cv (ap p s) u=ap p (cv s u):=by
 induction p with
 | nil=>funext n;unfold cv ap;rw [sm_congr (g:=fun _=>0) (fun i _=>by grind),sm_zero]
 | cons a l ih=>simp only [ap];rw [cv_add,cv_mul,cv_sh,ih]
theorem seq_cons (a:Rat) (l:List Rat):seq (a :: l)=fun n=>a * (if n=0 then 1 else 0)+sh (seq l) n:=by
 funext n
 cases n with
 | zero=>simp only [seq,sh,List.getD_cons_zero,if_true];grind
 | succ n=>simp only [seq,sh,List.getD_cons_succ,if_neg (Nat.succ_ne_zero n)];grind
theorem cv_one (u:Nat→Rat):cv (fun n=>if n=0 then 1 else 0) u=u:=by
 funext n
 unfold cv
 rw [sm_succ',sm_congr (f:=fun i=>(if i+1=0 then 1 else 0) * u (n - (i+1))) (g:=fun _=>0) (fun i _=>by rw [if_neg (Nat.succ_ne_zero i)];grind),sm_zero]
 simp only [if_true,Nat.sub_zero]
 grind
theorem ap_cv (p:List Rat) (u:Nat→Rat):ap p u=cv (seq p) u:=by
 induction p with
 | nil=>funext n;unfold cv ap;rw [sm_congr (g:=fun _=>0) (fun i _=>by simp only [seq,List.getD_nil];grind),sm_zero]
 | cons a l ih=>rw [seq_cons,cv_add,cv_mul,cv_sh,cv_one,← ih];rfl
theorem ap_swap (p q:List Rat):ap p (seq q)=ap q (seq p):=by rw [ap_cv,ap_cv,cv_comm]
theorem E_lmul (N:Nat) (a:Rat) (u:Nat→Rat):E N (fun n=>a * u n)=a * a * E N u:=by
 unfold E
 rw [← sm_mul]
 exact sm_congr (fun i _=>by grind)
theorem Inv.lmul {a:Rat} {c:List Rat} (ha:a ≠ 0) (h:Inv c):Inv (lmul a c):=by
 obtain ⟨C,hC,hI⟩:=h
 have hp:0 < a * a:=by
  have h1:=sq_nonneg a
  rcases lt_or_le 0 (a * a) with h | h
  ·exact h
  ·exfalso
   have h2:a * a=0:=Rat.le_antisymm h h1
   rcases Rat.mul_eq_zero.1 h2 with h3 | h3 <;> exact ha h3
 refine ⟨C / (a * a),div_nonneg hC hp,fun u N=>?_⟩
 rw [ap_lmul,E_lmul]
 have h1:C / (a * a) * (a * a * E N (ap c u))=C * E N (ap c u):=by
  rw [← Rat.mul_assoc,Rat.div_mul_cancel (by grind)]
 rw [h1]
 exact hI u N
theorem Inv.snoc {c:List Rat}:Inv (c ++ [0])↔Inv c:=by
 unfold Inv
 simp only [ap_snoc]
theorem getD_app {a b:List Rat} {i:Nat} (h:i < a.length):(a ++ b).getD i 0=a.getD i 0:=by
 rw [List.getD_eq_getElem?_getD,List.getD_eq_getElem?_getD,List.getElem?_append_left h]
theorem getD_appr {a b:List Rat} {i:Nat} (h:a.length≤i):(a ++ b).getD i 0=b.getD (i - a.length) 0:=by
 rw [List.getD_eq_getElem?_getD,List.getD_eq_getElem?_getD,List.getElem?_append_right h]
def down (c:List Rat) (r:Rat) (m:Nat):List Rat:=(List.range m).map (fun i=>(c.getD i 0 - r * c.getD (m - i) 0) / (1 - r * r))
def refl:Nat→List Rat→Option (List Rat)
 | 0,_=>some []
 | m+1,c=>if -1 < c.getD (m+1) 0∧c.getD (m+1) 0 < 1 then (refl m (down c (c.getD (m+1) 0) (m+1))).map (· ++ [c.getD (m+1) 0]) else none
theorem down_length (c:List Rat) (r:Rat) (m:Nat):(down c r m).length=m:=by simp [down]
theorem up_getD {c:List Rat} {k:Rat} {i:Nat} (h:i≤c.length):(up c k).getD i 0=(c ++ [0]).getD i 0+k * (0 :: c.reverse).getD i 0:=by
 unfold up ladd lmul
 simp only [List.getD_eq_getElem?_getD,List.getElem?_zipWith,List.getElem?_map]
 rw [List.getElem?_eq_getElem (l:=c ++ [0]) (by simp;omega),List.getElem?_eq_getElem (l:=0 :: c.reverse) (by simp;omega)]
 rfl
theorem getD_ext {a b:List Rat} (hl:a.length=b.length) (h:∀ i,i < a.length→a.getD i 0=b.getD i 0):a=b:=by
 apply List.ext_getElem hl
 intro i h1 h2
 have:=h i h1
 simpa [List.getD_eq_getElem?_getD,List.getElem?_eq_getElem h1,List.getElem?_eq_getElem h2] using this
theorem rev_getD {c:List Rat} {m i:Nat} (hc:c.length=m+1) (hi:i≤m+1):(0 :: c.reverse).getD i 0=c.getD (m+1 - i) 0:=by
 cases i with
 | zero=>rw [List.getD_cons_zero,List.getD_eq_getElem?_getD,List.getElem?_eq_none (by omega)];rfl
 | succ j =>
  rw [List.getD_cons_succ,List.getD_eq_getElem?_getD,List.getD_eq_getElem?_getD,List.getElem?_reverse (by omega),hc]
  congr 2
  omega
theorem snoc0_getD (c:List Rat) (i:Nat):(c ++ [0]).getD i 0=c.getD i 0:=by
 rcases Nat.lt_or_ge i c.length with h | h
 ·exact getD_app h
 ·rw [getD_appr h,List.getD_eq_getElem?_getD,List.getD_eq_getElem?_getD,List.getElem?_eq_none (l:=c) h]
  cases h':i - c.length <;> simp
theorem up_at {c:List Rat} {k:Rat} {m i:Nat} (hc:c.length=m+1) (hi:i≤m+1):(up c k).getD i 0=c.getD i 0+k * c.getD (m+1 - i) 0:=by
 rw [up_getD (by omega),snoc0_getD,rev_getD hc hi]
def ups (k:List Rat):List Rat:=k.foldl up [1]
theorem ups_snoc (k:List Rat) (r:Rat):ups (k ++ [r])=up (ups k) r:=by simp [ups]
theorem snoc_ind {P:List Rat→Prop} (h0:P []) (h1:∀ l r,P l→P (l ++ [r])) (l:List Rat):P l:=by
 have:∀ l:List Rat,P l.reverse:=by
  intro l
  induction l with
  | nil=>exact h0
  | cons a l ih=>rw [List.reverse_cons];exact h1 _ _ ih
 have:=this l.reverse
 rwa [List.reverse_reverse] at this
theorem ups_length (k:List Rat):(ups k).length=k.length+1:=by
 induction k using snoc_ind with
 | h0=>rfl
 | h1 l r ih=>rw [ups_snoc,up_length,ih];simp
end Go.Stab
namespace Go.Proofs.YtpieblkklbilgaaGreat
open Go.RowKit Go.Front Go.Num
attribute [local go_sem] XW.cell XW.frozen
theorem Sz.abs {k:Nat} {q:Rat} (h:Sz k q):Sz k q.abs:=by
 unfold Rat.abs
 split
 ·exact h
 ·exact h.neg
theorem RawR.szk {w:World} {s:RH} {q:Rat} (h:RawR w s q):Sz 134217728 q:=by
 have h1:=h
 obtain ⟨_,_,_,_,_,h2,h3⟩:=h1
 exact h.sz (by decide) h2 h3
theorem RAt.lt {w:World} {b o:Nat} {r:RH} (h:RAt w b o r):b < w.heap.size:=World.block_lt_of_cell? _ _ h.1
theorem RawL.cells {w:World} {ao:Option Addr} {n c:Nat} {qs:List Rat} (h:RawL w ⟨ao,n,c⟩ qs) {k:Nat} (hk:k < n):∃ b off r,ao=some ⟨b,off,none⟩∧b < w.heap.size∧RAt w b (off+k * 3) r∧RawR w r (qs.getD k 0) :=
 let ⟨b,off,r,h1,h2,h3⟩:=h.at hk;⟨b,off,r,h1,h2.lt,h2,h3⟩
end Go.Proofs.YtpieblkklbilgaaGreat
