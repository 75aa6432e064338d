/- Stab, StbP, Stb1, Stb2, Stb3 -/
import Derived.Test.YteafdebcihbjdaaGreatM8
import Derived.Test.YteafdebcihbjdaaGreatM7
import Derived.Test.YteafdebcihbjdaaGreatM1
set_option linter.unusedVariables false
/- Stability without complex numbers: the step down succeeds exactly if the operator is bounded below. Plain facts. -/
namespace Go.Stab
/-- The sum of the first n elements. -/
def sm : Nat → (Nat → Rat) → Rat
  | 0, _ => 0
  | n + 1, f => sm n f + f n
theorem sm_congr {n : Nat} {f g : Nat → Rat} (h : ∀ i, i < n → f i = g i) : sm n f = sm n g := by
  induction n with
  | zero => rfl
  | succ n ih => simp only [sm]; rw [ih (fun i hi => h i (by omega)), h n (by omega)]
theorem sm_add (n : Nat) (f g : Nat → Rat) : sm n (fun i => f i + g i) = sm n f + sm n g := by
  induction n with
  | zero => simp only [sm]; grind
  | succ n ih => simp only [sm]; rw [ih]; grind
theorem sm_mul (n : Nat) (c : Rat) (f : Nat → Rat) : sm n (fun i => c * f i) = c * sm n f := by
  induction n with
  | zero => simp [sm]
  | succ n ih => simp only [sm]; rw [ih]; grind
theorem sm_zero (n : Nat) : sm n (fun _ => 0) = 0 := by
  induction n with
  | zero => rfl
  | succ n ih => simp only [sm]; rw [ih]; grind
theorem sm_le {n : Nat} {f g : Nat → Rat} (h : ∀ i, i < n → f i ≤ g i) : sm n f ≤ sm n g := by
  induction n with
  | zero => exact Rat.le_refl
  | succ n ih =>
    simp only [sm]
    have h1 := ih (fun i hi => h i (by omega))
    have h2 := h n (by omega)
    grind
theorem sm_nonneg {n : Nat} {f : Nat → Rat} (h : ∀ i, i < n → 0 ≤ f i) : 0 ≤ sm n f := by
  have := sm_le (f := fun _ => 0) (g := f) h
  rwa [sm_zero] at this
theorem sm_succ' (n : Nat) (f : Nat → Rat) : sm (n + 1) f = f 0 + sm n (fun i => f (i + 1)) := by
  induction n with
  | zero => simp [sm]; grind
  | succ n ih => rw [sm, ih]; simp only [sm]; grind
theorem sm_split (n m : Nat) (f : Nat → Rat) : sm (n + m) f = sm n f + sm m (fun i => f (n + i)) := by
  induction m with
  | zero => simp [sm]; grind
  | succ m ih => rw [← Nat.add_assoc]; simp only [sm]; rw [ih]; grind
theorem sm_rev (n : Nat) (f : Nat → Rat) : sm n f = sm n (fun i => f (n - 1 - i)) := by
  induction n with
  | zero => rfl
  | succ n ih =>
    rw [sm_succ' n (fun i => f (n + 1 - 1 - i))]
    simp only [sm]
    rw [ih]
    have : sm n (fun i => f (n + 1 - 1 - (i + 1))) = sm n (fun i => f (n - 1 - i)) := sm_congr (fun i hi => by congr 1; omega)
    rw [this]
    simp only [Nat.add_sub_cancel, Nat.sub_zero]
    grind
theorem sm_comm (n m : Nat) (f : Nat → Nat → Rat) : sm n (fun i => sm m (fun j => f i j)) = sm m (fun j => sm n (fun i => f i j)) := by
  induction n with
  | zero => simp only [sm]; rw [sm_zero]
  | succ n ih => simp only [sm]; rw [ih, ← sm_add]
/-- Delayed by one. -/
def sh (u : Nat → Rat) : Nat → Rat
  | 0 => 0
  | n + 1 => u n
/-- The polynomial as an operator on sequences. -/
def ap : List Rat → (Nat → Rat) → Nat → Rat
  | [], _ => fun _ => 0
  | a :: l, u => fun n => a * u n + sh (ap l u) n
def E (n : Nat) (u : Nat → Rat) : Rat := sm n (fun i => u i * u i)
theorem sq_nonneg (x : Rat) : 0 ≤ x * x := by
  rcases Rat.le_total (a := 0) (b := x) with h | h
  · exact Rat.mul_nonneg h h
  · have := Rat.mul_nonneg (a := -x) (b := -x) (by grind) (by grind)
    grind
theorem E_nonneg (n : Nat) (u : Nat → Rat) : 0 ≤ E n u := sm_nonneg (fun _ _ => sq_nonneg _)
theorem E_sh (n : Nat) (u : Nat → Rat) : E n (sh u) ≤ E n u := by
  unfold E
  cases n with
  | zero => exact Rat.le_refl
  | succ n =>
    rw [sm_succ']
    simp only [sh, sm]
    have := sq_nonneg (u n)
    grind
theorem sh_add (u v : Nat → Rat) : sh (fun n => u n + v n) = fun n => sh u n + sh v n := by
  funext n
  cases n
  · simp only [sh]; grind
  · rfl
theorem sh_mul (c : Rat) (u : Nat → Rat) : sh (fun n => c * u n) = fun n => c * sh u n := by
  funext n; cases n <;> simp [sh]
theorem sh_zero : sh (fun _ => 0) = fun _ => 0 := by
  funext n; cases n <;> rfl
def ladd (a b : List Rat) : List Rat := List.zipWith (· + ·) a b
def lmul (c : Rat) (a : List Rat) : List Rat := a.map (c * ·)
theorem ap_ladd {a b : List Rat} (h : a.length = b.length) (u : Nat → Rat) : ap (ladd a b) u = fun n => ap a u n + ap b u n := by
  induction a generalizing b with
  | nil =>
    cases b with
    | nil => funext n; simp only [ladd, ap, List.zipWith_nil_left]; grind
    | cons x b => simp at h
  | cons x a ih =>
    cases b with
    | nil => simp at h
    | cons y b =>
      have h' := ih (b := b) (by simpa using h)
      funext n
      simp only [ladd, List.zipWith_cons_cons, ap] at *
      rw [h', sh_add]
      grind
theorem ap_lmul (c : Rat) (a : List Rat) (u : Nat → Rat) : ap (lmul c a) u = fun n => c * ap a u n := by
  induction a with
  | nil => funext n; simp [lmul, ap]
  | cons x a ih =>
    funext n
    simp only [lmul, List.map_cons, ap] at *
    rw [ih, sh_mul]
    grind
theorem ap_snoc (a : List Rat) (u : Nat → Rat) : ap (a ++ [0]) u = ap a u := by
  induction a with
  | nil => funext n; simp only [List.nil_append, ap, sh_zero]; grind
  | cons x a ih => funext n; simp only [List.cons_append, ap]; rw [ih]
theorem ap_cons0 (a : List Rat) (u : Nat → Rat) : ap (0 :: a) u = sh (ap a u) := by
  funext n; simp only [ap]; grind
/-- A step up. -/
def up (c : List Rat) (k : Rat) : List Rat := ladd (c ++ [0]) (lmul k (0 :: c.reverse))
theorem lmul_reverse (k : Rat) (a : List Rat) : (lmul k a).reverse = lmul k a.reverse := by simp [lmul]
theorem ladd_reverse {a b : List Rat} (h : a.length = b.length) : (ladd a b).reverse = ladd a.reverse b.reverse := by
  unfold ladd; exact List.reverse_zipWith h
theorem up_ap (c : List Rat) (k : Rat) (u : Nat → Rat) : ap (up c k) u = fun n => ap c u n + k * sh (ap c.reverse u) n := by
  unfold up
  rw [ap_ladd (by simp [lmul]), ap_lmul, ap_snoc, ap_cons0]
theorem up_rev (c : List Rat) (k : Rat) (u : Nat → Rat) : ap (up c k).reverse u = fun n => sh (ap c.reverse u) n + k * ap c u n := by
  unfold up
  rw [ladd_reverse (by simp [lmul]), lmul_reverse, ap_ladd (by simp [lmul]), ap_lmul, List.reverse_append, @List.reverse_cons _ 0 c.reverse, List.reverse_reverse, ap_snoc]
  simp only [List.reverse_cons, List.reverse_nil, List.nil_append, List.singleton_append]
  rw [ap_cons0]
theorem up_length (c : List Rat) (k : Rat) : (up c k).length = c.length + 1 := by simp [up, ladd, lmul]
/-- Bounded below. -/
def Inv (c : List Rat) : Prop := ∃ C : Rat, 0 ≤ C ∧ ∀ u N, E N u ≤ C * E N (ap c u)
def Con (c : List Rat) : Prop := ∀ u N, E N (ap c.reverse u) ≤ E N (ap c u)
theorem E_lin (N : Nat) (f g : Nat → Rat) (a b : Rat) : E N (fun n => a * f n + b * g n) = a * a * E N f + 2 * a * b * sm N (fun n => f n * g n) + b * b * E N g := by
  unfold E
  rw [← sm_mul, ← sm_mul, ← sm_mul, ← sm_add, ← sm_add]
  exact sm_congr (fun i _ => by grind)
/-- The energies of a step. -/
theorem up_E (c : List Rat) (k : Rat) (u : Nat → Rat) (N : Nat) : E N (ap (up c k) u) - E N (ap (up c k).reverse u) = (1 - k * k) * (E N (ap c u) - E N (sh (ap c.reverse u))) := by
  have h1 := E_lin N (ap c u) (sh (ap c.reverse u)) 1 k
  have h2 := E_lin N (ap c u) (sh (ap c.reverse u)) k 1
  have e1 : (fun n => 1 * ap c u n + k * sh (ap c.reverse u) n) = ap (up c k) u := by rw [up_ap]; funext n; grind
  have e2 : (fun n => k * ap c u n + 1 * sh (ap c.reverse u) n) = ap (up c k).reverse u := by rw [up_rev]; funext n; grind
  rw [e1] at h1
  rw [e2] at h2
  rw [h1, h2]
  grind
/-- A weighted square. -/
theorem weigh {P Q R : Nat → Rat} {k K : Rat} {N : Nat} (h : ∀ n, P n = Q n + k * R n) (hE : E N R ≤ E N P) (h0 : 0 ≤ K) (h1 : K < 1) (hk : k = K ∨ k = -K) : (1 - K) * (1 - K) * E N P ≤ E N Q := by
  have hp : ∀ n, (1 - K) * (P n * P n) ≤ Q n * Q n + K * (1 - K) * (R n * R n) := by
    intro n
    rw [h n]
    rcases hk with hk | hk <;> subst hk
    · have := Rat.mul_nonneg h0 (sq_nonneg (Q n - (1 - k) * R n))
      grind
    · have := Rat.mul_nonneg h0 (sq_nonneg (Q n + (1 - K) * R n))
      grind
  have hs : (1 - K) * E N P ≤ E N Q + K * (1 - K) * E N R := by
    unfold E
    rw [← sm_mul, ← sm_mul, ← sm_add]
    exact sm_le (fun i _ => hp i)
  have h2 : K * (1 - K) * E N R ≤ K * (1 - K) * E N P := Rat.mul_le_mul_of_nonneg_left hE (Rat.mul_nonneg h0 (by grind))
  grind
theorem abs_cases (k : Rat) (h1 : -1 < k) (h2 : k < 1) : ∃ K : Rat, 0 ≤ K ∧ K < 1 ∧ (k = K ∨ k = -K) := by
  rcases Rat.le_total (a := 0) (b := k) with h | h
  · exact ⟨k, h, h2, Or.inl rfl⟩
  · exact ⟨-k, by grind, by grind, Or.inr (by grind)⟩
theorem div_le_of {C e x y : Rat} (he : 0 < e) (hC : 0 ≤ C) (h : e * x ≤ y) : C * x ≤ C / e * y := by
  have h1 : 0 ≤ C / e := by rw [Rat.div_def]; exact Rat.mul_nonneg hC (Rat.le_of_lt (Rat.inv_pos.2 he))
  have h2 := Rat.mul_le_mul_of_nonneg_left h h1
  have h3 : C / e * e = C := Rat.div_mul_cancel (by grind)
  rw [← Rat.mul_assoc, h3] at h2
  exact h2
theorem div_nonneg {C e : Rat} (hC : 0 ≤ C) (he : 0 < e) : 0 ≤ C / e := by
  rw [Rat.div_def]; exact Rat.mul_nonneg hC (Rat.le_of_lt (Rat.inv_pos.2 he))
theorem sq_pos {K : Rat} (h : K < 1) : 0 < (1 - K) * (1 - K) := Rat.mul_pos (by grind) (by grind)
theorem Con.up {c : List Rat} (h : Con c) {k : Rat} (h1 : -1 < k) (h2 : k < 1) : Con (up c k) := by
  intro u N
  have e := up_E c k u N
  have e1 := Rat.le_trans (E_sh N (ap c.reverse u)) (h u N)
  have e2 : 0 ≤ 1 - k * k := by
    have := Rat.mul_nonneg (a := 1 - k) (b := 1 + k) (by grind) (by grind)
    grind
  have e3 := Rat.mul_nonneg e2 (b := E N (ap c u) - E N (sh (ap c.reverse u))) (by grind)
  grind
theorem Inv.up {c : List Rat} (hi : Inv c) (h : Con c) {k : Rat} (h1 : -1 < k) (h2 : k < 1) : Inv (up c k) := by
  obtain ⟨C, hC, hI⟩ := hi
  obtain ⟨K, hK0, hK1, hk⟩ := abs_cases k h1 h2
  refine ⟨C / ((1 - K) * (1 - K)), div_nonneg hC (sq_pos hK1), fun u N => ?_⟩
  have hw := weigh (P := ap c u) (Q := ap (Stab.up c k) u) (R := fun n => -1 * sh (ap c.reverse u) n) (k := k) (K := K) (N := N)
    (fun n => by rw [up_ap]; grind) (by
      have e := E_lin N (sh (ap c.reverse u)) (fun _ => 0) (-1) 0
      have e' : (fun n => -1 * sh (ap c.reverse u) n + 0 * (fun _ => (0 : Rat)) n) = fun n => -1 * sh (ap c.reverse u) n := by funext n; grind
      rw [e'] at e
      have := Rat.le_trans (E_sh N (ap c.reverse u)) (h u N)
      grind) hK0 hK1 hk
  exact Rat.le_trans (hI u N) (div_le_of (sq_pos hK1) hC hw)
theorem Inv.down {c : List Rat} {k : Rat} (hi : Inv (Stab.up c k)) (h : Con (Stab.up c k)) (h1 : -1 < k) (h2 : k < 1) : Inv c := by
  obtain ⟨C, hC, hI⟩ := hi
  obtain ⟨K, hK0, hK1, hk⟩ := abs_cases k h1 h2
  have hz : 0 ≤ (1 - k * k) * (1 - k * k) := sq_nonneg _
  refine ⟨C / ((1 - K) * (1 - K)) * ((1 - k * k) * (1 - k * k)), Rat.mul_nonneg (div_nonneg hC (sq_pos hK1)) hz, fun u N => ?_⟩
  have hw := weigh (P := ap (Stab.up c k) u) (Q := fun n => (1 - k * k) * ap c u n) (R := ap (Stab.up c k).reverse u) (k := k) (K := K) (N := N)
    (fun n => by rw [up_ap, up_rev]; grind) (h u N) hK0 hK1 hk
  have e := E_lin N (ap c u) (fun _ => 0) (1 - k * k) 0
  have e' : (fun n => (1 - k * k) * ap c u n + 0 * (fun _ => (0 : Rat)) n) = fun n => (1 - k * k) * ap c u n := by funext n; grind
  rw [e'] at e
  rw [e] at hw
  have := Rat.le_trans (hI u N) (div_le_of (sq_pos hK1) hC hw)
  grind
/-- An upper bound. -/
theorem ap_bound (c : List Rat) : ∃ K : Rat, 0 ≤ K ∧ ∀ u N, E N (ap c u) ≤ K * E N u := by
  induction c with
  | nil => exact ⟨0, Rat.le_refl, fun u N => by unfold E ap; rw [sm_congr (g := fun _ => 0) (fun i _ => by grind), sm_zero]; grind⟩
  | cons a l ih =>
    obtain ⟨K, hK, h⟩ := ih
    refine ⟨2 * (a * a) + 2 * K, by have := sq_nonneg a; grind, fun u N => ?_⟩
    have h1 : E N (ap (a :: l) u) ≤ 2 * (a * a) * E N u + 2 * E N (sh (ap l u)) := by
      unfold E
      rw [← sm_mul, ← sm_mul, ← sm_add]
      refine sm_le (fun i _ => ?_)
      have := sq_nonneg (a * u i - sh (ap l u) i)
      simp only [ap]
      grind
    have h2 := Rat.le_trans (E_sh N (ap l u)) (h u N)
    grind
/-- Only what was before counts. -/
theorem ap_congr (c : List Rat) {u v : Nat → Rat} {n : Nat} (h : ∀ i, i ≤ n → u i = v i) : ap c u n = ap c v n := by
  induction c generalizing n with
  | nil => rfl
  | cons a l ih =>
    simp only [ap]
    rw [h n (Nat.le_refl _)]
    cases n with
    | zero => rfl
    | succ n => simp only [sh]; rw [ih (fun i hi => h i (by omega))]
theorem sh_congr (c : List Rat) {u v : Nat → Rat} {n : Nat} (h : ∀ i, i < n → u i = v i) : sh (ap c u) n = sh (ap c v) n := by
  cases n with
  | zero => rfl
  | succ n => simp only [sh]; exact ap_congr c (fun i hi => h i (by omega))
theorem E_congr {u v : Nat → Rat} {N : Nat} (h : ∀ i, i < N → u i = v i) : E N u = E N v := sm_congr (fun i hi => by rw [h i hi])
theorem E_mono {u : Nat → Rat} {N M : Nat} (h : N ≤ M) : E N u ≤ E M u := by
  obtain ⟨d, rfl⟩ := Nat.exists_eq_add_of_le h
  unfold E
  rw [sm_split]
  have := sm_nonneg (n := d) (f := fun i => u (N + i) * u (N + i)) (fun _ _ => sq_nonneg _)
  grind
/-- The sequence goes on so that nothing comes out. -/
theorem go_on (a : Rat) (l : List Rat) (ha : a ≠ 0) (u : Nat → Rat) (N L : Nat) : ∃ v : Nat → Rat, (∀ n, n < N → v n = u n) ∧ ∀ n, N ≤ n → n < N + L → ap (a :: l) v n = 0 := by
  induction L with
  | zero => exact ⟨u, fun _ _ => rfl, fun n h1 h2 => by omega⟩
  | succ L ih =>
    obtain ⟨v, h1, h2⟩ := ih
    obtain ⟨v', hv1, hv2⟩ : ∃ v' : Nat → Rat, (∀ i, i ≠ N + L → v' i = v i) ∧ v' (N + L) = -(sh (ap l v) (N + L)) / a :=
      ⟨fun i => if i = N + L then -(sh (ap l v) (N + L)) / a else v i, fun i hi => if_neg hi, if_pos rfl⟩
    refine ⟨v', fun n hn => by rw [hv1 n (by omega)]; exact h1 n hn, fun n hn hl => ?_⟩
    by_cases he : n = N + L
    · subst he
      simp only [ap]
      rw [sh_congr l (v := v) (fun i hi => hv1 i (by omega)), hv2]
      have e : a * (-(sh (ap l v) (N + L)) / a) = -(sh (ap l v) (N + L)) := by rw [Rat.mul_comm]; exact Rat.div_mul_cancel ha
      rw [e]
      exact Rat.neg_add_cancel _
    · rw [ap_congr (a :: l) (v := v) (fun i hi => hv1 i (by omega))]
      exact h2 n hn (by omega)
/-- Delayed by i. -/
def shn (i : Nat) (u : Nat → Rat) (n : Nat) : Rat := if i ≤ n then u (n - i) else 0
theorem shn_succ (i : Nat) (u : Nat → Rat) (n : Nat) : shn (i + 1) u (n + 1) = shn i u n := by
  unfold shn
  by_cases h : i ≤ n
  · rw [if_pos h, if_pos (by omega)]; congr 1; omega
  · rw [if_neg h, if_neg (by omega)]
theorem ap_sum (c : List Rat) (u : Nat → Rat) (n : Nat) : ap c u n = sm c.length (fun i => c.getD i 0 * shn i u n) := by
  induction c generalizing n with
  | nil => rfl
  | cons a l ih =>
    simp only [ap, List.length_cons]
    rw [sm_succ']
    have e0 : shn 0 u n = u n := by unfold shn; simp
    have e1 : sh (ap l u) n = sm l.length (fun i => (a :: l).getD (i + 1) 0 * shn (i + 1) u n) := by
      cases n with
      | zero =>
        simp only [sh]
        rw [sm_congr (g := fun _ => 0) (fun i _ => by simp [shn]), sm_zero]
      | succ n =>
        simp only [sh]
        rw [ih]
        exact sm_congr (fun i _ => by rw [shn_succ]; simp)
    rw [e1, e0]
    simp
theorem sm_prod (n m : Nat) (f g : Nat → Rat) : sm n f * sm m g = sm n (fun i => sm m (fun j => f i * g j)) := by
  rw [show (fun i => sm m (fun j => f i * g j)) = fun i => sm m g * f i from funext fun i => by rw [sm_mul]; grind, sm_mul]
  grind
def G (L : Nat) (u : Nat → Rat) (i j : Nat) : Rat := sm L (fun n => shn i u n * shn j u n)
theorem G_symm (L : Nat) (u : Nat → Rat) (i j : Nat) : G L u i j = G L u j i := sm_congr (fun n _ => by grind)
theorem E_sum (c : List Rat) (u : Nat → Rat) (L : Nat) : E L (ap c u) = sm c.length (fun i => sm c.length (fun j => c.getD i 0 * c.getD j 0 * G L u i j)) := by
  unfold E G
  have e : ∀ n, ap c u n * ap c u n = sm c.length (fun i => sm c.length (fun j => c.getD i 0 * c.getD j 0 * (shn i u n * shn j u n))) := by
    intro n
    rw [ap_sum, sm_prod]
    exact sm_congr (fun i _ => sm_congr (fun j _ => by grind))
  rw [sm_congr (fun n _ => e n), sm_comm]
  refine sm_congr (fun i _ => ?_)
  rw [sm_comm]
  exact sm_congr (fun j _ => by rw [sm_mul])
theorem G_step {L M m : Nat} {u : Nat → Rat} (hu : ∀ n, M ≤ n → u n = 0) (hL : M + m ≤ L) {i j : Nat} (hi : i < m) : G L u (i + 1) (j + 1) = G L u i j := by
  obtain ⟨L', rfl⟩ : ∃ L', L = L' + 1 := ⟨L - 1, by omega⟩
  unfold G
  rw [sm_succ']
  simp only [sm]
  have e0 : shn (i + 1) u 0 = 0 := by simp [shn]
  have e1 : shn i u L' = 0 := by
    unfold shn
    rw [if_pos (by omega)]
    exact hu _ (by omega)
  rw [e0, e1, sm_congr (fun n _ => by rw [shn_succ, shn_succ])]
  grind
theorem G_shift {L M m : Nat} {u : Nat → Rat} (hu : ∀ n, M ≤ n → u n = 0) (hL : M + m ≤ L) {i j d : Nat} (hi : i + d ≤ m) : G L u (i + d) (j + d) = G L u i j := by
  induction d with
  | zero => rfl
  | succ d ih => rw [← Nat.add_assoc, ← Nat.add_assoc, G_step hu hL (by omega)]; exact ih (by omega)
/-- A polynomial and its reverse have the same energy. -/
theorem full {c : List Rat} {M m L : Nat} {u : Nat → Rat} (hc : c.length = m + 1) (hu : ∀ n, M ≤ n → u n = 0) (hL : M + m ≤ L) : E L (ap c u) = E L (ap c.reverse u) := by
  rw [E_sum, E_sum, List.length_reverse, hc]
  rw [sm_rev (m + 1) (fun i => sm (m + 1) (fun j => c.reverse.getD i 0 * c.reverse.getD j 0 * G L u i j))]
  refine sm_congr (fun i hi => ?_)
  rw [sm_rev (m + 1) (fun j => c.reverse.getD (m + 1 - 1 - i) 0 * c.reverse.getD j 0 * G L u (m + 1 - 1 - i) j)]
  refine sm_congr (fun j hj => ?_)
  have er : ∀ k, k < m + 1 → c.reverse.getD (m + 1 - 1 - k) 0 = c.getD k 0 := by
    intro k hk
    rw [List.getD_eq_getElem?_getD, List.getD_eq_getElem?_getD, List.getElem?_reverse (by omega)]
    congr 2
    omega
  rw [er i hi, er j hj]
  congr 1
  rcases Nat.le_total i j with h | h
  · have e1 := G_shift hu hL (i := j - i) (j := 0) (d := m - j) (by omega)
    have e2 := G_shift hu hL (i := j - i) (j := 0) (d := i) (by omega)
    rw [show j - i + (m - j) = m + 1 - 1 - i by omega, show 0 + (m - j) = m + 1 - 1 - j by omega] at e1
    rw [show j - i + i = j by omega, Nat.zero_add] at e2
    rw [e1, ← e2, G_symm]
  · have e1 := G_shift hu hL (i := 0) (j := i - j) (d := m - i) (by omega)
    have e2 := G_shift hu hL (i := 0) (j := i - j) (d := j) (by omega)
    rw [show i - j + (m - i) = m + 1 - 1 - j by omega, show 0 + (m - i) = m + 1 - 1 - i by omega] at e1
    rw [show i - j + j = i by omega, Nat.zero_add] at e2
    rw [e1, ← e2, G_symm]
theorem lt_or_le (a b : Rat) : a < b ∨ b ≤ a := by
  rcases Rat.le_total (a := b) (b := a) with h | h
  · exact Or.inr h
  · by_cases h1 : a = b
    · right; rw [h1]; exact Rat.le_refl
    · left; exact Rat.lt_of_le_of_ne h h1
theorem lin1 {x y z X W : Rat} (h1 : x ≤ X) (h2 : 0 ≤ y) (h3 : y + z ≤ W) : x + z ≤ X + W := by grind
theorem arch (q : Rat) : ∃ J : Nat, 1 ≤ J ∧ q < (J : Rat) := by
  refine ⟨q.ceil.toNat + 1, by omega, ?_⟩
  have h1 : q ≤ (q.ceil : Rat) := Rat.le_ceil
  have h2 : ((q.ceil : Int) : Rat) ≤ ((q.ceil.toNat : Int) : Rat) := Rat.intCast_le_intCast.2 (Int.self_le_toNat _)
  have h3 : ((q.ceil.toNat + 1 : Nat) : Rat) = ((q.ceil.toNat : Int) : Rat) + 1 := by rw [Rat.natCast_add]; rfl
  rw [h3]
  grind
theorem sm_const (n : Nat) (c : Rat) : sm n (fun _ => c) = (n : Rat) * c := by
  induction n with
  | zero => simp only [sm]; grind
  | succ n ih => simp only [sm]; rw [ih, Rat.natCast_add]; grind
theorem pigeon {J : Nat} {f : Nat → Rat} {S : Rat} (hJ : 1 ≤ J) (h : sm J f ≤ S) : ∃ j, j < J ∧ (J : Rat) * f j ≤ S := by
  apply Classical.byContradiction
  intro hn
  have hall : ∀ j, j < J → S < (J : Rat) * f j := by
    intro j hj
    rcases lt_or_le (S) ((J : Rat) * f j) with h1 | h1
    · exact h1
    · exact absurd ⟨j, hj, h1⟩ hn
  have h1 : sm J (fun _ => S) ≤ sm J (fun j => (J : Rat) * f j) := sm_le (fun j hj => Rat.le_of_lt (hall j hj))
  have h2 : sm J (fun _ => S) < sm J (fun j => (J : Rat) * f j) := by
    obtain ⟨J', rfl⟩ : ∃ J', J = J' + 1 := ⟨J - 1, by omega⟩
    simp only [sm]
    have a1 := hall J' (by omega)
    have a2 : sm J' (fun _ => S) ≤ sm J' (fun j => ((J' + 1 : Nat) : Rat) * f j) := sm_le (fun j hj => Rat.le_of_lt (hall j (by omega)))
    grind
  rw [sm_const, sm_mul] at h2
  have h3 := Rat.mul_le_mul_of_nonneg_left h (c := (J : Rat)) (by exact Rat.natCast_nonneg)
  grind
theorem sm_blocks (J m : Nat) (f : Nat → Rat) : sm (J * m) f = sm J (fun j => sm m (fun i => f (j * m + i))) := by
  induction J with
  | zero => rw [Nat.zero_mul]; rfl
  | succ J ih => rw [Nat.succ_mul, sm_split, ih]; rfl
/-- Bounded below: then the reverse is no greater. -/
theorem Inv.con {a : Rat} {l : List Rat} (ha : a ≠ 0) (hi : Inv (a :: l)) : Con (a :: l) := by
  intro u N
  obtain ⟨C, hC, hI⟩ := hi
  obtain ⟨K, hK, hB⟩ := ap_bound (a :: l)
  rcases lt_or_le (E N (ap (a :: l) u)) (E N (ap (a :: l).reverse u)) with hlt | hle
  · exfalso
    obtain ⟨X, hX⟩ : ∃ X, X = E N (ap (a :: l) u) := ⟨_, rfl⟩
    obtain ⟨Y, hY⟩ : ∃ Y, Y = E N (ap (a :: l).reverse u) := ⟨_, rfl⟩
    rw [← hX, ← hY] at hlt
    have hd : 0 < Y - X := by grind
    obtain ⟨J, hJ1, hJ⟩ := arch (K * (C * X) / (Y - X))
    obtain ⟨m, hm⟩ : ∃ m, m = l.length := ⟨_, rfl⟩
    obtain ⟨v, hv1, hv2⟩ := go_on a l ha u N (J * (m + 1))
    have hEv : E (N + J * (m + 1)) (ap (a :: l) v) = X := by
      unfold E
      rw [sm_split, hX]
      have e1 : sm N (fun i => ap (a :: l) v i * ap (a :: l) v i) = E N (ap (a :: l) u) := E_congr (fun i hi => ap_congr _ (fun k hk => hv1 k (by omega)))
      have e2 : sm (J * (m + 1)) (fun i => ap (a :: l) v (N + i) * ap (a :: l) v (N + i)) = 0 := by
        rw [sm_congr (g := fun _ => 0) (fun i hi => by rw [hv2 (N + i) (by omega) (by omega)]; grind), sm_zero]
      rw [e1, e2]
      grind
    have hsum : sm J (fun j => sm (m + 1) (fun i => v (N + (j * (m + 1) + i)) * v (N + (j * (m + 1) + i)))) ≤ C * X := by
      rw [← sm_blocks J (m + 1) (fun i => v (N + i) * v (N + i))]
      have h1 := hI v (N + J * (m + 1))
      rw [hEv] at h1
      unfold E at h1
      rw [sm_split] at h1
      have h2 : 0 ≤ sm N (fun i => v i * v i) := E_nonneg N v
      grind
    obtain ⟨j, hj, hjs⟩ := pigeon hJ1 hsum
    obtain ⟨M, hM⟩ : ∃ M, M = N + (j * (m + 1)) + (m + 1) := ⟨_, rfl⟩
    have hMle : M ≤ N + J * (m + 1) := by
      have : (j + 1) * (m + 1) ≤ J * (m + 1) := Nat.mul_le_mul_right _ hj
      rw [Nat.succ_mul] at this
      omega
    obtain ⟨t, ht1, ht2⟩ : ∃ t : Nat → Rat, (∀ i, i < M → t i = v i) ∧ ∀ i, M ≤ i → t i = 0 := ⟨fun i => if i < M then v i else 0, fun i hi => if_pos hi, fun i hi => if_neg (by omega)⟩
    obtain ⟨b, hb1, hb2⟩ : ∃ b : Nat → Rat, (∀ i, i < N + j * (m + 1) → b i = 0) ∧ ∀ i, N + j * (m + 1) ≤ i → b i = t i := ⟨fun i => if i < N + j * (m + 1) then 0 else t i, fun i hi => if_pos hi, fun i hi => if_neg (by omega)⟩
    have hfull := full (c := a :: l) (M := M) (m := m) (L := M + m) (u := t) (by simp [hm]) ht2 (Nat.le_refl _)
    have hEt : E (M + m) (ap (a :: l) t) ≤ X + K * E (M + m) b := by
      unfold E
      rw [sm_split]
      have e1 : sm M (fun i => ap (a :: l) t i * ap (a :: l) t i) ≤ X := by
        have h1 : E M (ap (a :: l) t) = E M (ap (a :: l) v) := E_congr (fun i hi => ap_congr _ (fun k hk => ht1 k (by omega)))
        have h2 := E_mono (u := ap (a :: l) v) hMle
        rw [hEv, ← h1] at h2
        exact h2
      have e2 : ∀ i, i < m → ap (a :: l) t (M + i) = ap (a :: l) b (M + i) := by
        intro i hi
        rw [ap_sum, ap_sum]
        refine sm_congr (fun k hk => ?_)
        have hk' : k ≤ m := by simp at hk; omega
        unfold shn
        rw [if_pos (by omega), if_pos (by omega), hb2 _ (by omega)]
      have e3 := hB b (M + m)
      unfold E at e3
      rw [sm_split] at e3
      have e4 : 0 ≤ sm M (fun i => ap (a :: l) b i * ap (a :: l) b i) := E_nonneg M _
      have e5 : sm m (fun i => ap (a :: l) t (M + i) * ap (a :: l) t (M + i)) = sm m (fun i => ap (a :: l) b (M + i) * ap (a :: l) b (M + i)) := sm_congr (fun i hi => by rw [e2 i hi])
      rw [e5]
      exact lin1 e1 e4 e3
    have hEb : E (M + m) b = sm (m + 1) (fun i => v (N + (j * (m + 1) + i)) * v (N + (j * (m + 1) + i))) := by
      unfold E
      rw [sm_split, sm_congr (n := m) (g := fun _ => 0) (fun i hi => by rw [hb2 _ (by omega), ht2 _ (by omega)]; grind), sm_zero, hM, sm_split,
        sm_congr (n := N + j * (m + 1)) (g := fun _ => 0) (fun i hi => by rw [hb1 _ hi]; grind), sm_zero,
        sm_congr (fun i hi => by rw [hb2 _ (by omega), ht1 _ (by omega)])]
      simp only [Nat.add_assoc]
      grind
    have hYt : Y ≤ E (M + m) (ap (a :: l).reverse t) := by
      rw [hY, E_congr (u := ap (a :: l).reverse u) (v := ap (a :: l).reverse t) (fun i hi => ap_congr _ (fun k hk => by rw [ht1 k (by omega), hv1 k (by omega)]))]
      exact E_mono (by omega)
    rw [← hfull] at hYt
    rw [← hEb] at hjs
    have h1 : Y - X ≤ K * E (M + m) b := by grind
    have h2 : (J : Rat) * (Y - X) ≤ K * (C * X) := by
      have a1 := Rat.mul_le_mul_of_nonneg_left h1 (c := (J : Rat)) (by exact Rat.natCast_nonneg)
      have a2 := Rat.mul_le_mul_of_nonneg_left hjs hK
      grind
    have h3 := (Rat.div_lt_iff hd).1 hJ
    grind
  · exact hle
theorem Inv.head {c : List Rat} (hi : Inv c) : ∃ a l, c = a :: l ∧ a ≠ 0 := by
  obtain ⟨C, hC, hI⟩ := hi
  have h := hI (fun _ => 1) 1
  cases c with
  | nil => simp only [E, sm, ap] at h; grind
  | cons a l =>
    refine ⟨a, l, rfl, fun h0 => ?_⟩
    subst h0
    simp only [E, sm, ap, sh] at h
    grind
theorem ap_last (x : List Rat) (u : Nat → Rat) : ∃ s : Nat → Rat, (∀ N, E N s ≤ E N u) ∧ ∀ b, ap (x ++ [b]) u = fun n => ap x u n + b * s n := by
  induction x with
  | nil => exact ⟨u, fun _ => Rat.le_refl, fun b => by funext n; simp only [List.nil_append, ap, sh_zero]; grind⟩
  | cons a x ih =>
    obtain ⟨s, h1, h2⟩ := ih
    refine ⟨sh s, fun N => Rat.le_trans (E_sh N s) (h1 N), fun b => ?_⟩
    funext n
    simp only [List.cons_append, ap]
    rw [h2, sh_add, sh_mul]
    grind
/-- The last coefficient is less than the first one. -/
theorem Inv.last {x : List Rat} {a b : Rat} (hi : Inv (a :: x ++ [b])) : b * b < a * a := by
  obtain ⟨C, hC, hI⟩ := hi
  have key : ∀ e : Rat, 4 * C * (e * e) ≤ 1 → (b + e) * (b + e) ≤ a * a := by
    intro e he
    have hinv : Inv (a :: x ++ [b + e]) := by
      refine ⟨4 * C, by grind, fun u N => ?_⟩
      obtain ⟨s, hs1, hs2⟩ := ap_last (a :: x) u
      have h1 := hI u N
      have h2 : E N (ap (a :: x ++ [b]) u) ≤ 2 * E N (ap (a :: x ++ [b + e]) u) + 2 * (e * e) * E N u := by
        have h3 : E N (ap (a :: x ++ [b]) u) ≤ 2 * E N (ap (a :: x ++ [b + e]) u) + 2 * (e * e) * E N s := by
          unfold E
          rw [← sm_mul, ← sm_mul, ← sm_add]
          refine sm_le (fun i _ => ?_)
          rw [hs2, hs2]
          have := sq_nonneg (ap (a :: x) u i + b * s i + 2 * e * s i)
          grind
        have h4 := Rat.mul_le_mul_of_nonneg_left (hs1 N) (c := 2 * (e * e)) (by have := sq_nonneg e; grind)
        grind
      have h5 := Rat.mul_le_mul_of_nonneg_left h2 hC
      have h6 := Rat.mul_le_mul_of_nonneg_left he (E_nonneg N u)
      grind
    obtain ⟨a', l', hal, ha'⟩ := hinv.head
    have ha0 : a = a' := by injection hal
    have hcon : E 1 (ap (a :: x ++ [b + e]).reverse (fun _ => 1)) ≤ E 1 (ap (a :: x ++ [b + e]) (fun _ => 1)) := Inv.con (by rw [ha0]; exact ha') hinv (fun _ => 1) 1
    have e1 : (a :: x ++ [b + e]).reverse = (b + e) :: (a :: x).reverse := by simp
    rw [e1] at hcon
    simp only [E, sm, ap, sh, List.cons_append] at hcon
    grind
  have hk := key 0 (by grind)
  rcases lt_or_le (b * b) (a * a) with h | h
  · exact h
  · exfalso
    have hCC : 0 < 4 * C + 1 := by grind
    obtain ⟨e, he⟩ : ∃ e : Rat, e = 1 / (4 * C + 1) := ⟨_, rfl⟩
    have he0 : 0 < e := by rw [he, Rat.div_def, Rat.one_mul]; exact Rat.inv_pos.2 hCC
    have he1 : e * (4 * C + 1) = 1 := by rw [he]; exact Rat.div_mul_cancel (by grind)
    have he2 : e ≤ 1 := by
      have := Rat.mul_nonneg (Rat.le_of_lt he0) (b := 4 * C) (by grind)
      grind
    have he3 : 4 * C * (e * e) ≤ 1 := by
      have h1 := Rat.mul_le_mul_of_nonneg_left he2 (c := 4 * C * e) (Rat.mul_nonneg (by grind) (Rat.le_of_lt he0))
      grind
    rcases Rat.le_total (a := 0) (b := b) with hb | hb
    · have := key e he3
      have h2 := Rat.mul_nonneg hb (Rat.le_of_lt he0)
      have h3 := Rat.mul_pos he0 he0
      grind
    · have := key (-e) (by grind)
      have h2 := Rat.mul_nonneg (a := -b) (b := e) (by grind) (Rat.le_of_lt he0)
      have h3 := Rat.mul_pos he0 he0
      grind
/-- The coefficients as a sequence. -/
def seq (c : List Rat) (n : Nat) : Rat := c.getD n 0
def cv (s u : Nat → Rat) (n : Nat) : Rat := sm (n + 1) (fun i => s i * u (n - i))
theorem cv_comm (s u : Nat → Rat) : cv s u = cv u s := by
  funext n
  unfold cv
  rw [sm_rev]
  exact sm_congr (fun i hi => by rw [show n - (n + 1 - 1 - i) = i by omega, show n + 1 - 1 - i = n - i by omega]; grind)
theorem cv_sh (t u : Nat → Rat) : cv (sh t) u = sh (cv t u) := by
  funext n
  cases n with
  | zero => simp only [cv, sm, sh]; grind
  | succ n =>
    simp only [sh]
    unfold cv
    rw [sm_succ']
    simp only [sh]
    rw [sm_congr (f := fun i => t i * u (n + 1 - (i + 1))) (g := fun i => t i * u (n - i)) (fun i hi => by rw [show n + 1 - (i + 1) = n - i by omega])]
    grind
theorem cv_add (s t u : Nat → Rat) : cv (fun n => s n + t n) u = fun n => cv s u n + cv t u n := by
  funext n
  unfold cv
  rw [← sm_add]
  exact sm_congr (fun i _ => by grind)
theorem cv_mul (c : Rat) (s u : Nat → Rat) : cv (fun n => c * s n) u = fun n => c * cv s u n := by
  funext n
  unfold cv
  rw [← sm_mul]
  exact sm_congr (fun i _ => by grind)
theorem cv_ap (p : List Rat) (s u : Nat → Rat) : cv (ap p s) u = ap p (cv s u) := by
  induction p with
  | nil => funext n; unfold cv ap; rw [sm_congr (g := fun _ => 0) (fun i _ => by grind), sm_zero]
  | cons a l ih => simp only [ap]; rw [cv_add, cv_mul, cv_sh, ih]
theorem seq_cons (a : Rat) (l : List Rat) : seq (a :: l) = fun n => a * (if n = 0 then 1 else 0) + sh (seq l) n := by
  funext n
  cases n with
  | zero => simp only [seq, sh, List.getD_cons_zero, if_true]; grind
  | succ n => simp only [seq, sh, List.getD_cons_succ, if_neg (Nat.succ_ne_zero n)]; grind
theorem cv_one (u : Nat → Rat) : cv (fun n => if n = 0 then 1 else 0) u = u := by
  funext n
  unfold cv
  rw [sm_succ', sm_congr (f := fun i => (if i + 1 = 0 then 1 else 0) * u (n - (i + 1))) (g := fun _ => 0) (fun i _ => by rw [if_neg (Nat.succ_ne_zero i)]; grind), sm_zero]
  simp only [if_true, Nat.sub_zero]
  grind
theorem ap_cv (p : List Rat) (u : Nat → Rat) : ap p u = cv (seq p) u := by
  induction p with
  | nil => funext n; unfold cv ap; rw [sm_congr (g := fun _ => 0) (fun i _ => by simp only [seq, List.getD_nil]; grind), sm_zero]
  | cons a l ih => rw [seq_cons, cv_add, cv_mul, cv_sh, cv_one, ← ih]; rfl
theorem ap_swap (p q : List Rat) : ap p (seq q) = ap q (seq p) := by rw [ap_cv, ap_cv, cv_comm]
theorem ap_prod {r p q : List Rat} (h : seq r = ap p (seq q)) (u : Nat → Rat) : ap r u = ap p (ap q u) := by
  rw [ap_cv r, h, cv_ap, ← ap_cv]
theorem Inv.prod {r p q : List Rat} (h : seq r = ap p (seq q)) : Inv r ↔ Inv p ∧ Inv q := by
  have h1 := ap_prod h
  have h2 := ap_prod (h.trans (ap_swap p q))
  constructor
  · rintro ⟨C, hC, hI⟩
    obtain ⟨K, hK, hB⟩ := ap_bound p
    obtain ⟨K', hK', hB'⟩ := ap_bound q
    refine ⟨⟨C * K', Rat.mul_nonneg hC hK', fun u N => ?_⟩, ⟨C * K, Rat.mul_nonneg hC hK, fun u N => ?_⟩⟩
    · have a1 := hI u N
      rw [h2] at a1
      have a2 := Rat.mul_le_mul_of_nonneg_left (hB' (ap p u) N) hC
      rw [Rat.mul_assoc]
      exact Rat.le_trans a1 a2
    · have a1 := hI u N
      rw [h1] at a1
      have a2 := Rat.mul_le_mul_of_nonneg_left (hB (ap q u) N) hC
      rw [Rat.mul_assoc]
      exact Rat.le_trans a1 a2
  · rintro ⟨⟨C, hC, hI⟩, ⟨C', hC', hI'⟩⟩
    refine ⟨C' * C, Rat.mul_nonneg hC' hC, fun u N => ?_⟩
    rw [h1, Rat.mul_assoc]
    exact Rat.le_trans (hI' u N) (Rat.mul_le_mul_of_nonneg_left (hI (ap q u) N) hC')
theorem E_lmul (N : Nat) (a : Rat) (u : Nat → Rat) : E N (fun n => a * u n) = a * a * E N u := by
  unfold E
  rw [← sm_mul]
  exact sm_congr (fun i _ => by grind)
theorem Inv.lmul {a : Rat} {c : List Rat} (ha : a ≠ 0) (h : Inv c) : Inv (lmul a c) := by
  obtain ⟨C, hC, hI⟩ := h
  have hp : 0 < a * a := by
    have h1 := sq_nonneg a
    rcases lt_or_le 0 (a * a) with h | h
    · exact h
    · exfalso
      have h2 : a * a = 0 := Rat.le_antisymm h h1
      rcases Rat.mul_eq_zero.1 h2 with h3 | h3 <;> exact ha h3
  refine ⟨C / (a * a), div_nonneg hC hp, fun u N => ?_⟩
  rw [ap_lmul, E_lmul]
  have h1 : C / (a * a) * (a * a * E N (ap c u)) = C * E N (ap c u) := by
    rw [← Rat.mul_assoc, Rat.div_mul_cancel (by grind)]
  rw [h1]
  exact hI u N
theorem lmul_lmul (a b : Rat) (c : List Rat) : lmul a (lmul b c) = lmul (a * b) c := by
  unfold lmul
  rw [List.map_map]
  congr 1
  funext x
  simp only [Function.comp]
  grind
theorem lmul_one (c : List Rat) : lmul 1 c = c := by
  unfold lmul
  rw [show (fun x : Rat => 1 * x) = id from funext fun x => by simp only [id]; grind, List.map_id]
theorem Inv.lmul_iff {a : Rat} {c : List Rat} (ha : a ≠ 0) : Inv (Stab.lmul a c) ↔ Inv c := by
  constructor
  · intro h
    have h1 := h.lmul (a := a⁻¹) (by intro h0; exact ha (by rw [← Rat.inv_inv a, h0, Rat.inv_zero]))
    rw [lmul_lmul, Rat.inv_mul_cancel _ ha, lmul_one] at h1
    exact h1
  · exact Inv.lmul ha
theorem Inv.snoc {c : List Rat} : Inv (c ++ [0]) ↔ Inv c := by
  unfold Inv
  simp only [ap_snoc]
/-- Powers of r as weights of the coefficients. -/
def scl (r : Rat) : List Rat → List Rat
  | [] => []
  | a :: l => a :: lmul r (scl r l)
theorem scl_ap (r : Rat) (c : List Rat) (v : Nat → Rat) : ap (scl r c) (fun n => r ^ n * v n) = fun n => r ^ n * ap c v n := by
  induction c with
  | nil => funext n; simp only [scl, ap]; grind
  | cons a l ih =>
    funext n
    simp only [scl, ap]
    rw [ap_lmul, ih]
    cases n with
    | zero => simp only [sh]; grind
    | succ n => simp only [sh]; rw [Rat.pow_succ]; grind
theorem pow_pos' {r : Rat} (h : 0 < r) (n : Nat) : 0 < r ^ n := by
  induction n with
  | zero => rw [Rat.pow_zero]; decide
  | succ n ih => rw [Rat.pow_succ]; exact Rat.mul_pos ih h
theorem abel {w x : Nat → Rat} (hx : ∀ N, 0 ≤ sm N x) (hw : ∀ n, w (n + 1) ≤ w n) (N : Nat) : w N * sm (N + 1) x ≤ sm (N + 1) (fun i => w i * x i) := by
  induction N with
  | zero => simp only [sm]; grind
  | succ N ih =>
    have h1 := Rat.mul_le_mul_of_nonneg_right (hw N) (hx (N + 1))
    rw [show sm (N + 1 + 1) x = sm (N + 1) x + x (N + 1) from rfl, show sm (N + 1 + 1) (fun i => w i * x i) = sm (N + 1) (fun i => w i * x i) + w (N + 1) * x (N + 1) from rfl]
    grind
theorem Inv.scl {r : Rat} {c : List Rat} (h0 : 0 < r) (h1 : r ≤ 1) (h : Inv c) : Inv (scl r c) := by
  obtain ⟨C, hC, hI⟩ := h
  refine ⟨C, hC, fun u N => ?_⟩
  obtain ⟨v, hv⟩ : ∃ v : Nat → Rat, u = fun n => r ^ n * v n := ⟨fun n => u n / r ^ n, by
    funext n
    rw [Rat.mul_comm, Rat.div_mul_cancel (by have := pow_pos' h0 n; grind)]⟩
  rw [hv, scl_ap]
  cases N with
  | zero => simp only [E, sm]; grind
  | succ N =>
    have hx : ∀ N, 0 ≤ sm N (fun n => C * (ap c v n * ap c v n) + -1 * (v n * v n)) := by
      intro N
      rw [sm_add, sm_mul, sm_mul]
      have := hI v N
      unfold E at this
      grind
    have ha := abel (w := fun n => r ^ n * r ^ n) hx (fun n => by
      have p := pow_pos' h0 n
      rw [Rat.pow_succ]
      have q1 := Rat.mul_le_mul_of_nonneg_left h1 (Rat.le_of_lt p)
      have q2 := Rat.mul_nonneg (Rat.le_of_lt p) (Rat.le_of_lt h0)
      have q3 := Rat.mul_le_mul_of_nonneg_left q1 q2
      have q4 := Rat.mul_le_mul_of_nonneg_right q1 (Rat.le_of_lt p)
      grind) N
    have hb : 0 ≤ r ^ N * r ^ N * sm (N + 1) (fun n => C * (ap c v n * ap c v n) + -1 * (v n * v n)) := Rat.mul_nonneg (sq_nonneg _) (hx _)
    have hc : sm (N + 1) (fun i => r ^ i * r ^ i * (C * (ap c v i * ap c v i) + -1 * (v i * v i))) = C * E (N + 1) (fun n => r ^ n * ap c v n) + -1 * E (N + 1) (fun n => r ^ n * v n) := by
      unfold E
      rw [← sm_mul, ← sm_mul, ← sm_add]
      exact sm_congr (fun i _ => by grind)
    rw [hc] at ha
    grind
theorem div_self' {a : Rat} (h : a ≠ 0) : a / a = 1 := by rw [Rat.div_def, Rat.mul_inv_cancel _ h]
theorem getD_app {a b : List Rat} {i : Nat} (h : i < a.length) : (a ++ b).getD i 0 = a.getD i 0 := by
  rw [List.getD_eq_getElem?_getD, List.getD_eq_getElem?_getD, List.getElem?_append_left h]
theorem getD_appr {a b : List Rat} {i : Nat} (h : a.length ≤ i) : (a ++ b).getD i 0 = b.getD (i - a.length) 0 := by
  rw [List.getD_eq_getElem?_getD, List.getD_eq_getElem?_getD, List.getElem?_append_right h]
/-- A step down. -/
def down (c : List Rat) (r : Rat) (m : Nat) : List Rat := (List.range m).map (fun i => (c.getD i 0 - r * c.getD (m - i) 0) / (1 - r * r))
def refl : Nat → List Rat → Option (List Rat)
  | 0, _ => some []
  | m + 1, c => if -1 < c.getD (m + 1) 0 ∧ c.getD (m + 1) 0 < 1 then (refl m (down c (c.getD (m + 1) 0) (m + 1))).map (· ++ [c.getD (m + 1) 0]) else none
theorem one_sub_sq {r : Rat} (h1 : -1 < r) (h2 : r < 1) : 0 < 1 - r * r := by
  have := Rat.mul_pos (a := 1 - r) (b := 1 + r) (by grind) (by grind)
  grind
theorem down_length (c : List Rat) (r : Rat) (m : Nat) : (down c r m).length = m := by simp [down]
theorem down_getD {c : List Rat} {r : Rat} {m i : Nat} (h : i < m) : (down c r m).getD i 0 = (c.getD i 0 - r * c.getD (m - i) 0) / (1 - r * r) := by
  simp [down, h]
theorem up_getD {c : List Rat} {k : Rat} {i : Nat} (h : i ≤ c.length) : (up c k).getD i 0 = (c ++ [0]).getD i 0 + k * (0 :: c.reverse).getD i 0 := by
  unfold up ladd lmul
  simp only [List.getD_eq_getElem?_getD, List.getElem?_zipWith, List.getElem?_map]
  rw [List.getElem?_eq_getElem (l := c ++ [0]) (by simp; omega), List.getElem?_eq_getElem (l := 0 :: c.reverse) (by simp; omega)]
  rfl
theorem getD_ext {a b : List Rat} (hl : a.length = b.length) (h : ∀ i, i < a.length → a.getD i 0 = b.getD i 0) : a = b := by
  apply List.ext_getElem hl
  intro i h1 h2
  have := h i h1
  simpa [List.getD_eq_getElem?_getD, List.getElem?_eq_getElem h1, List.getElem?_eq_getElem h2] using this
theorem up_down {c : List Rat} {m : Nat} (hc : c.length = m + 2) (h0 : c.getD 0 0 = 1) (h1 : -1 < c.getD (m + 1) 0) (h2 : c.getD (m + 1) 0 < 1) : up (down c (c.getD (m + 1) 0) (m + 1)) (c.getD (m + 1) 0) = c := by
  obtain ⟨r, hr⟩ : ∃ r, r = c.getD (m + 1) 0 := ⟨_, rfl⟩
  rw [← hr] at h1 h2 ⊢
  have hp := one_sub_sq h1 h2
  have hp0 : 1 - r * r ≠ 0 := by grind
  apply getD_ext
  · rw [up_length, down_length, hc]
  · intro i hi
    rw [up_length, down_length] at hi
    rw [up_getD (by rw [down_length]; omega)]
    have hd0 : (down c r (m + 1)).getD 0 0 = 1 := by
      rw [down_getD (by omega), h0, Nat.sub_zero, ← hr]
      exact div_self' hp0
    have hrev : ∀ j, j < m + 1 → (0 :: (down c r (m + 1)).reverse).getD (j + 1) 0 = (down c r (m + 1)).getD (m - j) 0 := by
      intro j hj
      rw [List.getD_cons_succ, List.getD_eq_getElem?_getD, List.getD_eq_getElem?_getD, List.getElem?_reverse (by rw [down_length]; omega), down_length]
      rw [show m + 1 - 1 - j = m - j by omega]
    rcases Nat.eq_zero_or_pos i with rfl | hpos
    · rw [List.getD_cons_zero, getD_app (by rw [down_length]; omega), hd0, h0]
      grind
    · obtain ⟨j, rfl⟩ : ∃ j, i = j + 1 := ⟨i - 1, by omega⟩
      rw [hrev j (by omega)]
      by_cases hj : j = m
      · subst hj
        rw [Nat.sub_self, hd0, getD_appr (by rw [down_length]; omega), down_length, Nat.sub_self, List.getD_cons_zero, ← hr]
        grind
      · rw [getD_app (by rw [down_length]; omega), down_getD (by omega), down_getD (by omega)]
        rw [show m + 1 - (m - j) = j + 1 by omega, show m + 1 - (j + 1) = m - j by omega]
        rw [Rat.div_def, Rat.div_def]
        have e := Rat.mul_inv_cancel _ hp0
        have e2 : (c.getD (j + 1) 0 - r * c.getD (m - j) 0) * (1 - r * r)⁻¹ + r * ((c.getD (m - j) 0 - r * c.getD (j + 1) 0) * (1 - r * r)⁻¹) = c.getD (j + 1) 0 * ((1 - r * r) * (1 - r * r)⁻¹) := by grind
        rw [e2, e]
        grind
theorem down_head {c : List Rat} {m : Nat} (h0 : c.getD 0 0 = 1) (h1 : -1 < c.getD (m + 1) 0) (h2 : c.getD (m + 1) 0 < 1) : (down c (c.getD (m + 1) 0) (m + 1)).getD 0 0 = 1 := by
  have hp := one_sub_sq h1 h2
  rw [down_getD (by omega), h0, Nat.sub_zero]
  exact div_self' (by grind)
theorem Inv.one : Inv [1] := ⟨1, by decide, fun u N => by
  rw [show ap [1] u = u from funext fun n => by simp only [ap, sh_zero]; grind]
  grind⟩
theorem refl_inv {m : Nat} {c : List Rat} (hc : c.length = m + 1) (h0 : c.getD 0 0 = 1) : (∃ k, refl m c = some k) ↔ Inv c := by
  induction m generalizing c with
  | zero =>
    have : c = [1] := getD_ext (by simp [hc]) (fun i hi => by
      obtain rfl : i = 0 := by omega
      rw [h0]; rfl)
    subst this
    exact ⟨fun _ => Inv.one, fun _ => ⟨_, rfl⟩⟩
  | succ m ih =>
    by_cases hr : -1 < c.getD (m + 1) 0 ∧ c.getD (m + 1) 0 < 1
    · have hud := up_down hc h0 hr.1 hr.2
      have ih' := ih (down_length c (c.getD (m + 1) 0) (m + 1)) (down_head h0 hr.1 hr.2)
      have e1 : (∃ k, refl (m + 1) c = some k) ↔ ∃ k, refl m (down c (c.getD (m + 1) 0) (m + 1)) = some k := by
        simp only [refl, if_pos hr]
        constructor
        · rintro ⟨k, hk⟩
          obtain ⟨k', h1, -⟩ := Option.map_eq_some_iff.1 hk
          exact ⟨k', h1⟩
        · rintro ⟨k, hk⟩
          exact ⟨_, by rw [hk]; rfl⟩
      rw [e1, ih']
      have hcon : ∀ d : List Rat, Inv d → Con d := fun d hd => by
        obtain ⟨a, l, rfl, ha⟩ := hd.head
        exact Inv.con ha hd
      constructor
      · intro h
        rw [← hud]
        exact h.up (hcon _ h) hr.1 hr.2
      · intro h
        rw [← hud] at h
        exact Inv.down h (hcon _ h) hr.1 hr.2
    · refine ⟨fun ⟨k, hk⟩ => ?_, fun h => ?_⟩
      · simp only [refl, if_neg hr] at hk
        cases hk
      · exfalso
        obtain ⟨x, b, rfl⟩ : ∃ x b, c = 1 :: x ++ [b] := by
          cases c with
          | nil => simp at hc
          | cons a l =>
            simp only [List.getD_cons_zero] at h0
            subst h0
            have hl : l ≠ [] := by intro h; subst h; simp at hc
            exact ⟨l.dropLast, l.getLast hl, by rw [List.cons_append, List.dropLast_concat_getLast]⟩
        have hb : (1 :: x ++ [b]).getD (m + 1) 0 = b := by
          have : x.length = m := by simp at hc; omega
          rw [getD_appr (by simp; omega)]
          simp [this]
        rw [hb] at hr
        have h1 := h.last
        apply hr
        constructor
        · rcases lt_or_le (-1) b with h2 | h2
          · exact h2
          · have := Rat.mul_nonneg (a := -1 - b) (b := 1 - b) (by grind) (by grind)
            grind
        · rcases lt_or_le b 1 with h2 | h2
          · exact h2
          · have := Rat.mul_nonneg (a := b - 1) (b := b + 1) (by grind) (by grind)
            grind
end Go.Stab
/- Steps up and steps down undo each other. Plain facts. -/
namespace Go.Stab
theorem rev_getD {c : List Rat} {m i : Nat} (hc : c.length = m + 1) (hi : i ≤ m + 1) : (0 :: c.reverse).getD i 0 = c.getD (m + 1 - i) 0 := by
  cases i with
  | zero => rw [List.getD_cons_zero, List.getD_eq_getElem?_getD, List.getElem?_eq_none (by omega)]; rfl
  | succ j =>
    rw [List.getD_cons_succ, List.getD_eq_getElem?_getD, List.getD_eq_getElem?_getD, List.getElem?_reverse (by omega), hc]
    congr 2
    omega
theorem snoc0_getD (c : List Rat) (i : Nat) : (c ++ [0]).getD i 0 = c.getD i 0 := by
  rcases Nat.lt_or_ge i c.length with h | h
  · exact getD_app h
  · rw [getD_appr h, List.getD_eq_getElem?_getD, List.getD_eq_getElem?_getD, List.getElem?_eq_none (l := c) h]
    cases h' : i - c.length <;> simp
theorem up_at {c : List Rat} {k : Rat} {m i : Nat} (hc : c.length = m + 1) (hi : i ≤ m + 1) : (up c k).getD i 0 = c.getD i 0 + k * c.getD (m + 1 - i) 0 := by
  rw [up_getD (by omega), snoc0_getD, rev_getD hc hi]
def ups (k : List Rat) : List Rat := k.foldl up [1]
theorem ups_nil : ups [] = [1] := rfl
theorem ups_snoc (k : List Rat) (r : Rat) : ups (k ++ [r]) = up (ups k) r := by simp [ups]
theorem snoc_ind {P : List Rat → Prop} (h0 : P []) (h1 : ∀ l r, P l → P (l ++ [r])) (l : List Rat) : P l := by
  have : ∀ l : List Rat, P l.reverse := by
    intro l
    induction l with
    | nil => exact h0
    | cons a l ih => rw [List.reverse_cons]; exact h1 _ _ ih
  have := this l.reverse
  rwa [List.reverse_reverse] at this
theorem ups_length (k : List Rat) : (ups k).length = k.length + 1 := by
  induction k using snoc_ind with
  | h0 => rfl
  | h1 l r ih => rw [ups_snoc, up_length, ih]; simp
theorem ups_head (k : List Rat) : (ups k).getD 0 0 = 1 := by
  induction k using snoc_ind with
  | h0 => rfl
  | h1 l r ih =>
    rw [ups_snoc, up_at (ups_length l) (by omega), ih, List.getD_eq_getElem?_getD, List.getElem?_eq_none (by rw [ups_length]; omega)]
    show 1 + r * 0 = 1
    grind
theorem up_last (l : List Rat) (r : Rat) : (up (ups l) r).getD (l.length + 1) 0 = r := by
  rw [up_at (ups_length l) (by omega), Nat.sub_self, ups_head, List.getD_eq_getElem?_getD, List.getElem?_eq_none (by rw [ups_length]; omega)]
  show 0 + r * 1 = r
  grind
theorem down_up {c : List Rat} {r : Rat} {m : Nat} (hc : c.length = m + 1) (h1 : -1 < r) (h2 : r < 1) : down (up c r) r (m + 1) = c := by
  have hp := one_sub_sq h1 h2
  have hp0 : 1 - r * r ≠ 0 := by grind
  apply getD_ext
  · rw [down_length, hc]
  · intro i hi
    rw [down_length] at hi
    rw [down_getD hi, up_at hc (by omega), up_at hc (by omega), show m + 1 - (m + 1 - i) = i by omega]
    have e : c.getD i 0 + r * c.getD (m + 1 - i) 0 - r * (c.getD (m + 1 - i) 0 + r * c.getD i 0) = c.getD i 0 * (1 - r * r) := by grind
    rw [e, Rat.div_def, Rat.mul_assoc, Rat.mul_inv_cancel _ hp0]
    grind
theorem refl_ups (k : List Rat) (h : ∀ r ∈ k, -1 < r ∧ r < 1) : refl k.length (ups k) = some k := by
  induction k using snoc_ind with
  | h0 => rfl
  | h1 l r ih =>
    have hr := h r (by simp)
    have ih' := ih (fun x hx => h x (by simp [hx]))
    rw [List.length_append, List.length_singleton, ups_snoc]
    simp only [refl]
    rw [up_last, if_pos hr, down_up (ups_length l) hr.1 hr.2, ih']
    rfl
theorem up_zero (c : List Rat) : up c 0 = c ++ [0] := by
  apply getD_ext
  · rw [up_length]; simp
  · intro i hi
    rw [up_length] at hi
    cases c with
    | nil =>
      obtain rfl : i = 0 := by simp at hi; omega
      rw [up_getD (by simp)]
      show (0 : Rat) + 0 * 0 = 0
      grind
    | cons a l =>
      rw [up_at (m := l.length) (by simp) (by simp at hi; omega), snoc0_getD]
      grind
end Go.Stab
/- small, wrong, mapped of package stability. -/
namespace Go.Proofs.YteafdebcihbjdaaGreat
open Go.RowKit Go.Front Go.Num
attribute [local go_sem] XW.cell XW.frozen
theorem Sz.abs {k : Nat} {q : Rat} (h : Sz k q) : Sz k q.abs := by
  unfold Rat.abs
  split
  · exact h
  · exact h.neg
theorem RawR.szk {w : World} {s : RH} {q : Rat} (h : RawR w s q) : Sz 134217728 q := by
  have h1 := h
  obtain ⟨_, _, _, _, _, h2, h3⟩ := h1
  exact h.sz (by decide) h2 h3
theorem cmp_abs (q : Rat) : cmpR q.abs 1 < 0 ↔ -1 < q ∧ q < 1 := by
  have h : cmpR q.abs 1 < 0 ↔ q.abs < 1 := by
    unfold cmpR
    split
    · simp_all
    · split <;> simp_all
  rw [h]
  unfold Rat.abs
  split <;> constructor <;> intros <;> grind
set_option maxRecDepth 4000 in
set_option maxHeartbeats 1000000 in
theorem stsmall_any (s : RH) (q : Rat) (w : World) (h : RawR w s q) : Does 38 [s.v] w (fun _ : Unit => .bool (decide (-1 < q ∧ q < 1))) (fun _ _ => True) := by
  obtain ⟨neg, ao, n, c, bo, m, d⟩ := s
  have HR := Lib.hid h
  have HS := Lib.hid h.szk
  have HC := Lib.hid (cmp_abs q)
  clear h
  unfold Does
  go_enter Tryz.func38, Tryz.ntmps38
  go_wp2_with fail
  refine Calls.mono (rabs_any ⟨neg, ao, n, c, bo, m, d⟩ q _ (HR.out.ext Ext.al1)) ?_
  rintro e w1 ⟨x1, rfl, hE, g1⟩
  have G1 := Lib.hid g1
  clear g1
  obtain ⟨hcw, hfw⟩ := bcellE hE
  have hsw := hE.size
  (try simp only [World.size_alloc] at hsw)
  have hs0 : w.heap.size < w1.heap.size := by omega
  have E1 := Lib.hid ((Ext.al1).trans hE)
  have X1 := Lib.hid hE
  clear hE
  go_wp2_with fail
  refine Calls.mono (rof_any 1 _ (by decide) (by decide)) ?_
  rintro e w2 ⟨x2, rfl, hE, g2⟩
  have G2 := Lib.hid g2
  clear g2
  obtain ⟨hcw, hfw⟩ := bcellE hE
  have hsw := hE.size
  (try simp only [World.size_alloc] at hsw)
  have hs0 : w.heap.size < w2.heap.size := by omega
  have E2 := Lib.hid ((E1.out).trans hE)
  have X2 := Lib.hid hE
  clear hE
  go_wp2_with fail
  refine Calls.mono (rcmp_any x1 x2 _ _ _ ((G1.out.ext X2.out).raw HS.out.abs (by decide)) (G2.out.raw (Sz.int (by decide)) (by decide))) ?_
  rintro e w3 ⟨x3, rfl, hE, g3⟩
  have G3 := Lib.hid g3
  clear g3
  obtain ⟨hcw, hfw⟩ := bcellE hE
  have hsw := hE.size
  (try simp only [World.size_alloc] at hsw)
  have hs0 : w.heap.size < w3.heap.size := by omega
  have E3 := Lib.hid ((E2.out).trans hE)
  have X3 := Lib.hid hE
  clear hE
  rw [show ((1 : Int) : Rat) = 1 from rfl]
  obtain ⟨cc, hc⟩ : ∃ cc, cc = cmpR q.abs 1 := ⟨_, rfl⟩
  rw [← hc] at HC ⊢
  clear hc
  go_wp2
  go_ret
  exact ⟨(), ret_bool (decide_eq_decide.2 HC.out), E3.out, trivial⟩
/-- The error of a polynomial. -/
def wrongE (qs : List Rat) : Int := if 49 < (tz qs).length then 12 else if qs.length = 0 ∨ qs.getD 0 0 = 0 then 3 else 0
set_option maxRecDepth 4000 in
set_option maxHeartbeats 1000000 in
theorem wrong_any (ao : Option Addr) (n cap : Nat) (qs : List Rat) (w : World) (h : RawL w ⟨ao, n, cap⟩ qs) (hn : n ≤ 1073741824) :
    Does 54 [.slice ao n cap] w (fun _ : Unit => .int .i64 (wrongE qs)) (fun _ _ => True) := by
  have H := Lib.hid h
  have hle := h.le
  have hmx := h.max
  have hlen := h.len
  simp only at hle hmx hlen
  clear h
  have htl := tz_len_le qs
  unfold Does
  change Calls Tryz.prog _ #[.slice ao n cap] w _
  go_enter Tryz.func54, Tryz.ntmps54
  go_wp2_with fail
  refine Calls.mono (pdegree_any _ _ _ _ _ H.out) ?_
  rintro e w1 ⟨x1, rfl, hE1, -⟩
  have HE := Lib.hid hE1
  clear hE1
  obtain ⟨m, hm⟩ : ∃ m, m = (tz qs).length := ⟨_, rfl⟩
  rw [← hm] at htl ⊢
  have HW : Hid (wrongE qs = if 49 < m then 12 else if qs.length = 0 ∨ qs.getD 0 0 = 0 then 3 else 0) := Lib.hid (by rw [hm]; rfl)
  clear hm
  by_cases h1 : 49 < m
  · go_wp2
    go_ret
    exact ⟨(), ret_int (by rw [HW.out, if_pos h1]), HE.out, trivial⟩
  · rw [if_neg h1] at HW
    by_cases h2 : n = 0
    · subst h2
      go_wp2
      go_ret
      exact ⟨(), ret_int (by rw [HW.out, if_pos (Or.inl hlen)]), HE.out, trivial⟩
    · obtain ⟨b, off, r, hao, ⟨hc1, hc2, hc3⟩, hP⟩ := (H.out.ext HE.out).at (k := 0) (by omega)
      subst hao
      obtain ⟨rneg, ra, rn, rc, rb, rm, rd⟩ := r
      simp only [Nat.zero_mul, Nat.add_zero] at hc1 hc2 hc3
      have HP := Lib.hid hP
      have HL := Lib.hid hlen
      clear hP hlen
      go_wp2_with fail
      refine Calls.mono (rsign_any ⟨rneg, ra, rn, rc, rb, rm, rd⟩ _ _ HP.out) ?_
      rintro e w2 ⟨x2, rfl, hE2, -⟩
      replace HE := Lib.hid (HE.out.trans hE2)
      have HZ := Lib.hid (cmpR_self0 (qs.getD 0 0))
      obtain ⟨c, hc⟩ : ∃ c, c = cmpR (qs.getD 0 0) 0 := ⟨_, rfl⟩
      rw [← hc] at HZ ⊢
      clear hc hE2 HP hc1 hc2 hc3
      by_cases hz : c = 0
      · subst hz
        have Hz := Lib.hid (HZ.out.1 rfl)
        clear HZ
        go_wp2
        go_ret
        exact ⟨(), ret_int (by rw [HW.out, if_pos (Or.inr Hz.out)]), HE.out, trivial⟩
      · have hzb : (c == 0) = false := by simpa using hz
        have HN : Hid (¬ (qs.length = 0 ∨ qs.getD 0 0 = 0)) := Lib.hid (by rintro (h | h); · rw [HL.out] at h; exact h2 h
                                                                           · exact hz (HZ.out.2 h))
        clear hz HZ
        go_wp2
        go_ret
        exact ⟨(), ret_int (by rw [HW.out, if_neg HN.out]), HE.out, trivial⟩
/-- A call of a function value, one operation after the other. -/
theorem wpList_callv {w : World} {ops : Array Oper} {rest : List Oper} {o : Oper} {a : Act} {Q : Exit → Act → World → Prop} (hgd : o.guard = none) (t : Operand) (xs : Array Operand) (ats : Array TypeId)
    (ho : o.op = .call { callee := .value t, args := xs, argTypes := ats }) (f : FuncId) (fn : Func) (cap : Array Value) (ht : a.eval t = .func (.func f) #[] cap)
    (hf : Tryz.prog.funcs[f]? = some fn) (hn : (fn.name == "runtime.NumGoroutine") = false) (hb : fn.body.isNone = false) (args : Array Value) (ha : xs.map a.eval ++ cap = args)
    (h : Calls Tryz.prog f args w (fun e w'' => ∃ v, e = .returned v ∧ wpList Tryz.prog ops Q rest (a.put o.dst v) w'')) : wpList Tryz.prog ops Q (o :: rest) a w := by
  refine wpList_plain hgd fun K hK => ?_
  obtain ⟨dst, op, type, pos, after, guard⟩ := o
  simp only at ho
  subst ho
  have ha' : #[] ++ xs.map a.eval ++ cap = args := by rw [Array.empty_append]; exact ha
  have : execOp a.eval { dst, op := .call { callee := .value t, args := xs, argTypes := ats }, type, pos, after, guard } = callFunc f (#[] ++ xs.map a.eval ++ cap) := by
    simp only [execOp, resolve, ht, Deferred.ofValue]
    rfl
  unfold Oper.wp
  rw [this, ha', run_callFunc hf hn hb]
  refine h.mono ?_
  rintro e w'' ⟨v, rfl, h⟩
  exact hK _ _ h
end Go.Proofs.YteafdebcihbjdaaGreat
/- mapped of package stability. -/
namespace Go.Proofs.YteafdebcihbjdaaGreat
open Go.RowKit Go.Front Go.Num
attribute [local go_sem] XW.cell XW.frozen
theorem FillB.loc {w w' : World} {L m B : Nat} {ts : List Rat} (h : FillB w L m ts) (hL : B ≤ L) (hb : ∀ b, B ≤ b → b < w.heap.size → w'.heap[b]? = w.heap[b]?) (he : Keep w w') : FillB w' L m ts := h.keep (hb L hL h.lt) he
theorem FillB.put' {w1 : World} {L m : Nat} {ts : List Rat} (h : FillB w1 L m ts) (hlt : ts.length < m) {r : RH} {q : Rat} (hr : CanR w1 r q) :
    ∃ w2, w2 = stRo w1 L (ts.length * 3) r ∧ Below L w1 w2 ∧ Keep w1 w2 ∧ FillB w2 L m (ts ++ [q]) := by
  obtain ⟨w2, rfl, T⟩ := h.put (w := { w1 with heap := #[] }) ⟨rfl, rfl, rfl, Nat.zero_le _, fun k hk => absurd hk (Nat.not_lt_zero _)⟩ (Nat.zero_le _) hlt hr
  have m1 : Mods (· = L) w1 (stRo w1 L (ts.length * 3) r) := ((Mods.setCell w1 ⟨L, ts.length * 3, none⟩ _).trans (Mods.setCell _ ⟨L, ts.length * 3 + 1, none⟩ _)).trans (Mods.setCell _ ⟨L, ts.length * 3 + 2, none⟩ _)
  exact ⟨_, rfl, m1.below (Nat.le_of_lt h.lt) (fun k hk => Nat.le_of_eq hk.symm), T.keep, T.fill⟩
theorem range_snoc (g : Nat → Rat) (j : Nat) : (List.range (j + 1)).map g = (List.range j).map g ++ [g j] := by rw [List.range_succ, List.map_append]; rfl
set_option maxRecDepth 4000 in
set_option maxHeartbeats 1000000 in
/-- mapped(l, f), where f does as hcall says: J is what holds between the rounds. -/
theorem mapped_any (f : FuncId) (fn : Func) (cap : Array Value) (hf : Tryz.prog.funcs[f]? = some fn) (hnm : (fn.name == "runtime.NumGoroutine") = false) (hbd : fn.body.isNone = false) (J : Nat → World → Prop) (g : Nat → Rat)
    (ao : Option Addr) (n c : Nat) (rs : List RH) (w : World) (hn : n ≤ 1073741824) (hnc : n ≤ c) (hJ0 : J 0 w) (hJs : ∀ i w1 w2, J i w1 → Below w.heap.size w1 w2 → Keep w1 w2 → J i w2) (hJr : ∀ i w1, J i w1 → w.heap.size ≤ w1.heap.size ∧ RS w1 ⟨ao, n, c⟩ rs)
    (hcall : ∀ i w1, i < n → J i w1 → Calls Tryz.prog f (#[.int .i64 (i : Nat), (rs.getD i default).v] ++ cap) w1 (fun e w2 => ∃ r : RH, e = .returned r.v ∧ CanR w2 r (g i) ∧ J (i + 1) w2 ∧ Keep w1 w2 ∧ ∀ b, w.heap.size ≤ b → b < w1.heap.size → w2.heap[b]? = w1.heap[b]?)) :
    Calls Tryz.prog 40 #[.slice ao n c, .func (.func f) #[] cap] w (fun e w' => ∃ s : SH, e = .returned s.v ∧ OwnQ w' (w.heap.size ≤ ·) s.v ((List.range n).map g) ∧ J n w') := by
  obtain ⟨i0, hi0, hz0, hz1, hz2⟩ := info_parts infoR
  have HJ0 := Lib.hid hJ0
  have HJs := Lib.hid hJs
  have HJr := Lib.hid hJr
  have HC := Lib.hid hcall
  clear hJ0 hJs hJr hcall
  go_enter Tryz.func40, Tryz.ntmps40
  go_wp2_with (refine wpList_make rfl (.tmp 9) (.tmp 9) 22 rfl 30 i0 (RH.v default) 3 Tryz.underlying22 hi0 hz0 hz1 _ _ n rfl rfl (by simp) (by simp) (by rw [hz2]; omega) (by omega) ?_; intro w2 hnew hE2)
  have HF := Lib.hid (FillB.start (RBk.make rfl hnew))
  have HJ := Lib.hid (HJs.out _ _ _ HJ0.out hE2 (keep_ext hE2))
  clear hnew hE2 HJ0
  have hL : w.heap.size ≤ w.heap.size := Nat.le_refl _
  obtain ⟨B, hB⟩ : ∃ B, B = w.heap.size := ⟨_, rfl⟩
  rw [← hB] at HF HJs HJr HC ⊢
  have HBe := Lib.hid hB
  clear hL hB
  go_wp2
  go_loopg [13] n (fun g' i wr => ∃ j : Nat, j + g' = n ∧ i = .int .i64 (j : Nat) ∧ J j wr ∧ FillB wr B n ((List.range j).map g))
  case atStart => exact ⟨0, by omega, rfl, HJ.out, HF.out⟩
  case round =>
    obtain ⟨j, hj, rfl, g1, g2⟩ := hrel
    clear HJ HF
    have HJ := Lib.hid g1
    have HF := Lib.hid g2
    clear g1 g2
    have hlf : ((List.range j).map g).length = j := by simp
    by_cases h0 : gk = 0
    · subst h0
      obtain rfl : j = n := by omega
      go_wp2
      go_ret
      exact ⟨⟨some ⟨B, 0, none⟩, j, j⟩, rfl, HF.out.own (Nat.le_of_eq HBe.out.symm) hlf (by omega), HJ.out⟩
    · obtain ⟨b, off, hao, hc1, hc2, hc3⟩ := (HJr.out _ _ HJ.out).2.at (k := j) (by omega)
      have hBw := (HJr.out _ _ HJ.out).1
      subst hao
      have Hr := Lib.hid (rfl : rs.getD j default = rs.getD j default)
      obtain ⟨r, hr⟩ : ∃ r, r = rs.getD j default := ⟨_, rfl⟩
      rw [← hr] at hc1 hc2 hc3
      have HR := Lib.hid hr
      obtain ⟨rneg, ra, rn, rc, rb, rm, rd⟩ := r
      simp only at hc1 hc2 hc3
      clear hr Hr
      go_wp2_with (refine wpList_callv rfl (.tmp 20) _ _ rfl f fn cap rfl hf hnm hbd _ rfl ?_)
      have HC1 := HC.out j _ (by omega) (HJs.out _ _ _ HJ.out (Below.mono (Ext.alloc wr (Obj.cells #[.bool rneg, .slice ra rn rc, .slice rb rm rd] 30)) hBw) (keep_ext (Ext.alloc _ _)))
      rw [← HR.out] at HC1
      refine HC1.mono ?_
      rintro e w5 ⟨r5, rfl, k1, k2, k3, k4⟩
      refine ⟨_, rfl, ?_⟩
      replace HF := Lib.hid ((HF.out.ext (Ext.alloc wr (Obj.cells #[.bool rneg, .slice ra rn rc, .slice rb rm rd] 30))).loc (Nat.le_refl B) k4 k3)
      have K1 := Lib.hid k1
      replace HJ := Lib.hid k2
      clear k1 k2 k3 k4 HC1 hc1 hc2 hc3 hBw
      obtain ⟨_, hw6, p1, p2, p3⟩ := HF.out.put' (by rw [hlf]; omega) K1.out
      rw [hlf] at hw6
      subst hw6
      rw [← range_snoc] at p3
      have P1 := Lib.hid p1
      have P2 := Lib.hid p2
      have P3 := Lib.hid p3
      clear p1 p2 p3
      obtain ⟨r0, c1, c2, c3⟩ := HF.out.cells (by rw [hlf]; omega)
      rw [hlf] at c1 c2 c3
      have hfr := HF.out.frozen
      have hLl := HF.out.lt
      obtain ⟨n5, a5, l5, q5, b5, m5, d5⟩ := r5
      go_wp2
      go_roundg (gk - 1)
      case measure => omega
      case rel => exact ⟨j + 1, by omega, by go_num, HJs.out _ _ _ HJ.out P1.out P2.out, P3.out⟩
end Go.Proofs.YteafdebcihbjdaaGreat
/- The closures of package stability. -/
namespace Go.Proofs.YteafdebcihbjdaaGreat
open Go.RowKit Go.Front Go.Num
attribute [local go_sem] XW.cell XW.frozen
theorem RAt.lt {w : World} {b o : Nat} {r : RH} (h : RAt w b o r) : b < w.heap.size := World.block_lt_of_cell? _ _ h.1
set_option maxRecDepth 4000 in
set_option maxHeartbeats 1000000 in
theorem refl1_any (i : Int) (s t : RH) (q r : Rat) (b : Nat) (w : World) (h : RawR w s q) (hb : RAt w b 0 t) (k : RawR w t r) (h0 : r ≠ 0) :
    Does 96 [.int .i64 i, s.v, ptr b] w RH.v (fun x w' => CanR w' x (q / r)) := by
  obtain ⟨neg, ao, n, c, bo, m, d⟩ := s
  obtain ⟨neg', ao', n', c', bo', m', d'⟩ := t
  have HR := Lib.hid h
  have KR := Lib.hid k
  have HX := Lib.hid (Ext.refl w)
  have hl := hb.lt
  obtain ⟨hb1, hb2, hb3⟩ := hb
  simp only at hb1 hb2 hb3
  clear h k
  unfold Does
  simp only [ptr]
  go_enter Tryz.func96, Tryz.ntmps96
  go_wp2_with fail
  refine nm_alloc2 (F := fun W => Calls _ _ _ W _) ?_
  intro w1 hE hB0 hB1 hz
  have hz_w1 := Nat.le_of_eq hz
  have hr_w1 := Nat.le_of_eq hz.symm
  clear hz
  replace HR := Lib.hid (HR.out.ext hE)
  replace KR := Lib.hid (KR.out.ext hE)
  replace HX := Lib.hid (HX.out.trans hE)
  have hs_w1 := hE.size
  clear hE
  have B4 := Lib.hid hB0
  clear hB0
  have c_B4 := blk_cell B4.out
  have f_B4 := blk_frozen B4.out
  have l_B4 := (Array.getElem?_eq_some_iff.1 B4.out).1
  have B5 := Lib.hid hB1
  clear hB1
  have c_B5 := blk_cell B5.out
  have f_B5 := blk_frozen B5.out
  have l_B5 := (Array.getElem?_eq_some_iff.1 B5.out).1
  change Calls _ _ _ _ _
  refine Calls.mono (rdiv_any ⟨neg, ao, n, c, bo, m, d⟩ ⟨neg', ao', n', c', bo', m', d'⟩ q r _ HR.out KR.out h0) ?_
  rintro e w2 ⟨x2, rfl, hE, g2⟩
  have G2 := Lib.hid g2
  clear g2
  replace HR := Lib.hid (HR.out.ext hE)
  replace KR := Lib.hid (KR.out.ext hE)
  replace HX := Lib.hid (HX.out.trans hE)
  replace B4 := Lib.hid (hE.block B4.out)
  replace B5 := Lib.hid (hE.block B5.out)
  have hs_w2 := hE.size
  clear hE
  (try clear c_B4 f_B4 l_B4)
  have c_B4 := blk_cell B4.out
  have f_B4 := blk_frozen B4.out
  have l_B4 := (Array.getElem?_eq_some_iff.1 B4.out).1
  (try clear c_B5 f_B5 l_B5)
  have c_B5 := blk_cell B5.out
  have f_B5 := blk_frozen B5.out
  have l_B5 := (Array.getElem?_eq_some_iff.1 B5.out).1
  go_upto_region 2 with fail
  refine nm_alloc ?_
  intro w3 hE hB0 hz
  have hz_w3 := Nat.le_of_eq hz
  have hr_w3 := Nat.le_of_eq hz.symm
  clear hz
  replace HR := Lib.hid (HR.out.ext hE)
  replace KR := Lib.hid (KR.out.ext hE)
  replace HX := Lib.hid (HX.out.trans hE)
  replace B4 := Lib.hid (hE.block B4.out)
  replace B5 := Lib.hid (hE.block B5.out)
  replace G2 := Lib.hid (G2.out.ext hE)
  have hs_w3 := hE.size
  clear hE
  (try clear c_B4 f_B4 l_B4)
  have c_B4 := blk_cell B4.out
  have f_B4 := blk_frozen B4.out
  have l_B4 := (Array.getElem?_eq_some_iff.1 B4.out).1
  (try clear c_B5 f_B5 l_B5)
  have c_B5 := blk_cell B5.out
  have f_B5 := blk_frozen B5.out
  have l_B5 := (Array.getElem?_eq_some_iff.1 B5.out).1
  have B6 := Lib.hid hB0
  clear hB0
  have c_B6 := blk_cell B6.out
  have f_B6 := blk_frozen B6.out
  have l_B6 := (Array.getElem?_eq_some_iff.1 B6.out).1
  go_wp2
  have hF := ((((Fin.start (L := w.heap.size + 1) HX.out (noU_block B5.out rfl)).set (by omega) (i := 0) (v := .bool x2.neg) rfl).set (by omega) (i := 1) (v := .slice x2.a x2.n x2.c) rfl).set (by omega) (i := 2) (v := .slice x2.b x2.m x2.d) rfl)
  exact bodyPost_ret (v := x2.v) (by simp [results, Tryz.results96, go_sem, blk_cell B5.out]) rfl ⟨x2, rfl, hF.ext, G2.out.keep hF.keep⟩
theorem RawL.cells {w : World} {ao : Option Addr} {n c : Nat} {qs : List Rat} (h : RawL w ⟨ao, n, c⟩ qs) {k : Nat} (hk : k < n) : ∃ b off r, ao = some ⟨b, off, none⟩ ∧ b < w.heap.size ∧ RAt w b (off + k * 3) r ∧ RawR w r (qs.getD k 0) :=
  let ⟨b, off, r, h1, h2, h3⟩ := h.at hk; ⟨b, off, r, h1, h2.lt, h2, h3⟩
set_option maxRecDepth 4000 in
set_option maxHeartbeats 1000000 in
theorem refl2_any (i m : Nat) (s t u : RH) (q r e : Rat) (b10 b7 b9 b11 : Nat) (ao : Option Addr) (n cp : Nat) (qs : List Rat) (w : World) (h : RawR w s q) (h10 : RAt w b10 0 t) (ht : RawR w t r)
    (h7 : w.cell? ⟨b7, 0, none⟩ = some (.slice ao n cp)) (hl : RawL w ⟨ao, n, cp⟩ qs) (h9 : w.cell? ⟨b9, 0, none⟩ = some (.int .i64 (m : Nat))) (him : i ≤ m) (hmn : m - i < n) (hn : n ≤ 1073741824) (h11 : RAt w b11 0 u) (hu : RawR w u e) (he : e ≠ 0)
    (z1 : Sz 8388608 q) (z2 : Sz 8388608 r) (z3 : Sz 8388608 (qs.getD (m - i) 0)) :
    Does 98 [.int .i64 (i : Nat), s.v, ptr b10, ptr b7, ptr b9, ptr b11] w RH.v (fun x w' => CanR w' x ((q - r * qs.getD (m - i) 0) / e)) := by
  obtain ⟨b, off, y, rfl, hbl, hc, hy⟩ := hl.cells hmn
  have hcp := hl.le
  have hcm := hl.max
  simp only at hcp hcm
  clear hl
  obtain ⟨neg, ao, sn, sc, bo, sm, sd⟩ := s
  obtain ⟨neg', ao', n', c', bo', m', d'⟩ := t
  obtain ⟨neg2, ao2, n2, c2, bo2, m2, d2⟩ := u
  obtain ⟨neg3, ao3, n3, c3, bo3, m3, d3⟩ := y
  obtain ⟨j, hj⟩ : ∃ j, j = m - i := ⟨_, rfl⟩
  rw [← hj] at hc hy z3 hmn ⊢
  have hji : (m : Int) - i = j := by omega
  have HR := Lib.hid h
  have TR := Lib.hid ht
  have UR := Lib.hid hu
  have YR := Lib.hid hy
  have Z1 := Lib.hid z1
  have Z2 := Lib.hid z2
  have Z3 := Lib.hid z3
  have HX := Lib.hid (Ext.refl w)
  have hl10 := h10.lt
  have hl11 := h11.lt
  have hl7 := World.block_lt_of_cell? _ _ h7
  have hl9 := World.block_lt_of_cell? _ _ h9
  obtain ⟨p1, p2, p3⟩ := h10
  obtain ⟨p4, p5, p6⟩ := h11
  obtain ⟨p7, p8, p9⟩ := hc
  simp only [Nat.zero_add] at p1 p2 p3 p4 p5 p6 p7 p8 p9 hl7 hl9
  clear h ht hu hy z1 z2 z3 hj
  unfold Does
  simp only [ptr]
  go_enter Tryz.func98, Tryz.ntmps98
  go_upto_region 1 with fail
  refine nm_alloc2 ?_
  intro w1 hE hB0 hB1 hz
  have hz_w1 := Nat.le_of_eq hz
  have hr_w1 := Nat.le_of_eq hz.symm
  clear hz
  replace HR := Lib.hid (HR.out.ext hE)
  replace TR := Lib.hid (TR.out.ext hE)
  replace UR := Lib.hid (UR.out.ext hE)
  replace YR := Lib.hid (YR.out.ext hE)
  replace HX := Lib.hid (HX.out.trans hE)
  replace p1 := hE.cell p1
  replace p2 := hE.cell p2
  replace p3 := hE.cell p3
  replace p4 := hE.cell p4
  replace p5 := hE.cell p5
  replace p6 := hE.cell p6
  replace p7 := hE.cell p7
  replace p8 := hE.cell p8
  replace p9 := hE.cell p9
  replace h7 := hE.cell h7
  replace h9 := hE.cell h9
  have hs_w1 := hE.size
  clear hE
  have B7 := Lib.hid hB0
  clear hB0
  have c_B7 := blk_cell B7.out
  have f_B7 := blk_frozen B7.out
  have l_B7 := (Array.getElem?_eq_some_iff.1 B7.out).1
  have B8 := Lib.hid hB1
  clear hB1
  have c_B8 := blk_cell B8.out
  have f_B8 := blk_frozen B8.out
  have l_B8 := (Array.getElem?_eq_some_iff.1 B8.out).1
  have hb1 : b < w1.heap.size := by omega
  have hb2 : b10 < w1.heap.size := by omega
  have hb3 : b11 < w1.heap.size := by omega
  have hb4 : b9 < w1.heap.size := by omega
  have hb5 : b7 < w1.heap.size := by omega
  refine wp_region_edges [(16, 14)] _ (by simp only [addEs, addE, List.push_toArray, List.cons_append, List.nil_append]; exact rfl) (by intro c a d v w h; cases d <;> exact h) 16 (fun opIx => match opIx with
    | 8 => .spec RH default RH.v (fun s w' => CanR w' s (r * qs.getD j 0))
    | 9 => .spec RH default RH.v (fun s w' => CanR w' s (q - r * qs.getD j 0))
    | 11 => .spec (RH) (default) (fun s => .tuple #[s.v, .int .i64 0]) (fun x w' => CanR w' x ((q - r * qs.getD j 0) / e))
    | 15 => .alloc 30 #[.bool false, .slice none 0 0, .slice none 0 0]
    | _ => .quiet) (fun | 9 => [8] | 11 => [9] | _ => []) (by kernel_rfl) (by kernel_rfl) (by kernel_rfl) (fun w0 he0 hz0 hc0 hf0 => ?_)
  replace he0 := Lib.hid he0
  simp only [List.take_succ_cons, List.take_zero]
  repeat (refine wpF_quiet rfl rfl rfl (fun K hK => ?_); go_big_quiet_op; refine hK _ ?_; clear hK K)
  refine wpF_spec rfl rfl (fun w1 hw1 hG => ?_) (fun x8 => ?_)
  · have hW := he0.out.trans hw1
    refine spec_call [RH.v ⟨neg', ao', n', c', bo', m', d'⟩, RH.v ⟨neg3, ao3, n3, c3, bo3, m3, d3⟩] rfl rfl Tryz.func43 (by kernel_rfl) (by kernel_rfl) ?_
    exact rmul_any _ _ _ _ _ (TR.out.ext hW) (YR.out.ext hW)
  simp only [Act.put, List.setIfInBounds_toArray, List.set_cons_succ, List.set_cons_zero]
  repeat (refine wpF_quiet rfl rfl rfl (fun K hK => ?_); go_big_quiet_op; refine hK _ ?_; clear hK K)
  refine wpF_spec rfl rfl (fun w1 hw1 hG => ?_) (fun x9 => ?_)
  · have hW := he0.out.trans hw1
    obtain ⟨wa8, hwa8, g8⟩ : Since _ _ := hG 8 (by decide)
    replace g8 := g8.ext hwa8
    refine spec_call [RH.v ⟨neg, ao, sn, sc, bo, sm, sd⟩, x8.v] rfl rfl Tryz.func97 (by kernel_rfl) (by kernel_rfl) ?_
    exact rsub_any _ x8 _ _ _ (HR.out.ext hW) (g8.raw (Z2.out.mul Z3.out) (by decide))
  simp only [Act.put, List.setIfInBounds_toArray, List.set_cons_succ, List.set_cons_zero]
  repeat (refine wpF_quiet rfl rfl rfl (fun K hK => ?_); go_big_quiet_op; refine hK _ ?_; clear hK K)
  refine wpF_spec rfl rfl (fun w1 hw1 hG => ?_) (fun x11 => ?_)
  · have hW := he0.out.trans hw1
    obtain ⟨wa9, hwa9, g9⟩ : Since _ _ := hG 9 (by decide)
    replace g9 := g9.ext hwa9
    refine spec_call [x9.v, RH.v ⟨neg2, ao2, n2, c2, bo2, m2, d2⟩] rfl rfl Tryz.func50 (by kernel_rfl) (by kernel_rfl) ?_
    exact rdiv_any x9 _ _ _ _ (g9.raw (Z1.out.sub (Z2.out.mul Z3.out)) (by decide)) (UR.out.ext hW) he
  simp only [Act.put, List.setIfInBounds_toArray, List.set_cons_succ, List.set_cons_zero]
  repeat (refine wpF_quiet rfl rfl rfl (fun K hK => ?_); go_big_quiet_op; refine hK _ ?_; clear hK K)
  refine wpF_alloc rfl rfl (fun w => by simp [execOp, go_sem, ptr]) (fun b15 hb15 hl15 => ?_)
  simp only [Act.put, List.setIfInBounds_toArray, List.set_cons_succ, List.set_cons_zero]
  repeat (refine wpF_quiet rfl rfl rfl (fun K hK => ?_); go_big_quiet_op; refine hK _ ?_; clear hK K)
  refine wpF_nil ?_
  intro w3 hI
  have hE := he0.out.trans hI.ext
  obtain ⟨wa8, hwa8, g8⟩ : Since _ _ := hI.facts 8
  have G8 := Lib.hid (g8.ext hwa8)
  clear g8 hwa8
  obtain ⟨wa9, hwa9, g9⟩ : Since _ _ := hI.facts 9
  have G9 := Lib.hid (g9.ext hwa9)
  clear g9 hwa9
  obtain ⟨wa11, hwa11, g11⟩ : Since _ _ := hI.facts 11
  have G11 := Lib.hid (g11.ext hwa11)
  clear g11 hwa11
  have A15 : Hid (w3.heap[b15]? = some (.cells #[.bool false, .slice none 0 0, .slice none 0 0] 30 (0, 0))) := hI.facts 15
  rw [hz0] at hl15
  clear hI he0 hz0 hc0 hf0
  replace HR := Lib.hid (HR.out.ext hE)
  replace TR := Lib.hid (TR.out.ext hE)
  replace UR := Lib.hid (UR.out.ext hE)
  replace YR := Lib.hid (YR.out.ext hE)
  replace HX := Lib.hid (HX.out.trans hE)
  replace p1 := hE.cell p1
  replace p2 := hE.cell p2
  replace p3 := hE.cell p3
  replace p4 := hE.cell p4
  replace p5 := hE.cell p5
  replace p6 := hE.cell p6
  replace p7 := hE.cell p7
  replace p8 := hE.cell p8
  replace p9 := hE.cell p9
  replace h7 := hE.cell h7
  replace h9 := hE.cell h9
  replace B7 := Lib.hid (hE.block B7.out)
  replace B8 := Lib.hid (hE.block B8.out)
  have hs_w3 := hE.size
  clear hE
  (try clear c_B7 f_B7 l_B7)
  have c_B7 := blk_cell B7.out
  have f_B7 := blk_frozen B7.out
  have l_B7 := (Array.getElem?_eq_some_iff.1 B7.out).1
  (try clear c_B8 f_B8 l_B8)
  have c_B8 := blk_cell B8.out
  have f_B8 := blk_frozen B8.out
  have l_B8 := (Array.getElem?_eq_some_iff.1 B8.out).1
  have c_A15 := blk_cell A15.out
  have f_A15 := blk_frozen A15.out
  have l_A15 := (Array.getElem?_eq_some_iff.1 A15.out).1
  simp only [List.drop_succ_cons, List.drop_zero, ptr]
  go_upto_region 2 with fail
  refine nm_set3 A15.out rfl ?_
  intro w4 T
  replace HR := Lib.hid (HR.out.keep T.keep)
  replace TR := Lib.hid (TR.out.keep T.keep)
  replace UR := Lib.hid (UR.out.keep T.keep)
  replace YR := Lib.hid (YR.out.keep T.keep)
  replace HX := Lib.hid (T.ext HX.out (by omega))
  replace p1 := T.cell (by dsimp only; omega) p1
  replace p2 := T.cell (by dsimp only; omega) p2
  replace p3 := T.cell (by dsimp only; omega) p3
  replace p4 := T.cell (by dsimp only; omega) p4
  replace p5 := T.cell (by dsimp only; omega) p5
  replace p6 := T.cell (by dsimp only; omega) p6
  replace p7 := T.cell (by dsimp only; omega) p7
  replace p8 := T.cell (by dsimp only; omega) p8
  replace p9 := T.cell (by dsimp only; omega) p9
  replace h7 := T.cell (by dsimp only; omega) h7
  replace h9 := T.cell (by dsimp only; omega) h9
  replace B7 := Lib.hid (T.rest _ _ (by omega) B7.out)
  replace B8 := Lib.hid (T.rest _ _ (by omega) B8.out)
  replace G8 := Lib.hid (G8.out.keep T.keep)
  replace G9 := Lib.hid (G9.out.keep T.keep)
  replace A15 := Lib.hid (T.bx)
  replace G11 := Lib.hid (G11.out.keep T.keep)
  have hs_w4 := Nat.le_of_eq T.size
  have hr_w4 := Nat.le_of_eq T.size.symm
  clear T
  (try clear c_B7 f_B7 l_B7)
  have c_B7 := blk_cell B7.out
  have f_B7 := blk_frozen B7.out
  have l_B7 := (Array.getElem?_eq_some_iff.1 B7.out).1
  (try clear c_B8 f_B8 l_B8)
  have c_B8 := blk_cell B8.out
  have f_B8 := blk_frozen B8.out
  have l_B8 := (Array.getElem?_eq_some_iff.1 B8.out).1
  (try clear c_A15 f_A15 l_A15)
  have c_A15 := blk_cell A15.out
  have f_A15 := blk_frozen A15.out
  have l_A15 := (Array.getElem?_eq_some_iff.1 A15.out).1
  go_wp2
  have hF := ((((Fin.start (L := w.heap.size + 1) HX.out (noU_block B8.out rfl)).set (by omega) (i := 0) (v := .bool x11.neg) rfl).set (by omega) (i := 1) (v := .slice x11.a x11.n x11.c) rfl).set (by omega) (i := 2) (v := .slice x11.b x11.m x11.d) rfl)
  exact bodyPost_ret (v := x11.v) (by simp [results, Tryz.results98, go_sem, blk_cell B8.out]) rfl ⟨x11, rfl, hF.ext, G11.out.keep hF.keep⟩
set_option maxRecDepth 4000 in
set_option maxHeartbeats 1000000 in
theorem step1_any (i m : Nat) (s t : RH) (q r : Rat) (b8 b6 b7 : Nat) (ao : Option Addr) (n cp : Nat) (qs : List Rat) (w : World) (h : RawR w s q) (h8 : RAt w b8 0 t) (ht : RawR w t r)
    (h6 : w.cell? ⟨b6, 0, none⟩ = some (.slice ao n cp)) (hl : RawL w ⟨ao, n, cp⟩ qs) (h7 : w.cell? ⟨b7, 0, none⟩ = some (.int .i64 (m : Nat))) (him : i ≤ m + 1) (hmn : m + 1 - i < n) (hn : n ≤ 1073741824) (hm : m ≤ 1073741824)
    (z2 : Sz 8388608 r) (z3 : Sz 8388608 (qs.getD (m + 1 - i) 0)) :
    Does 41 [.int .i64 (i : Nat), s.v, ptr b8, ptr b6, ptr b7] w RH.v (fun x w' => CanR w' x (q + r * qs.getD (m + 1 - i) 0)) := by
  obtain ⟨b, off, y, rfl, hbl, hc, hy⟩ := hl.cells hmn
  have hcp := hl.le
  have hcm := hl.max
  simp only at hcp hcm
  clear hl
  obtain ⟨neg, ao, sn, sc, bo, sm, sd⟩ := s
  obtain ⟨neg', ao', n', c', bo', m', d'⟩ := t
  obtain ⟨neg3, ao3, n3, c3, bo3, m3, d3⟩ := y
  obtain ⟨j, hj⟩ : ∃ j, j = m + 1 - i := ⟨_, rfl⟩
  rw [← hj] at hc hy z3 hmn ⊢
  have hji : (m : Int) + 1 - i = j := by omega
  have HR := Lib.hid h
  have TR := Lib.hid ht
  have YR := Lib.hid hy
  have Z2 := Lib.hid z2
  have Z3 := Lib.hid z3
  have HX := Lib.hid (Ext.refl w)
  have hl8 := h8.lt
  have hl6 := World.block_lt_of_cell? _ _ h6
  have hl7 := World.block_lt_of_cell? _ _ h7
  obtain ⟨p1, p2, p3⟩ := h8
  obtain ⟨p7, p8, p9⟩ := hc
  simp only [Nat.zero_add] at p1 p2 p3 p7 p8 p9 hl7 hl6
  clear h ht hy z2 z3 hj
  unfold Does
  simp only [ptr]
  go_enter Tryz.func41, Tryz.ntmps41
  go_upto_region 1 with fail
  refine nm_alloc2 ?_
  intro w1 hE hB0 hB1 hz
  have hz_w1 := Nat.le_of_eq hz
  have hr_w1 := Nat.le_of_eq hz.symm
  clear hz
  replace HR := Lib.hid (HR.out.ext hE)
  replace TR := Lib.hid (TR.out.ext hE)
  replace YR := Lib.hid (YR.out.ext hE)
  replace HX := Lib.hid (HX.out.trans hE)
  replace p1 := hE.cell p1
  replace p2 := hE.cell p2
  replace p3 := hE.cell p3
  replace p7 := hE.cell p7
  replace p8 := hE.cell p8
  replace p9 := hE.cell p9
  replace h6 := hE.cell h6
  replace h7 := hE.cell h7
  have hs_w1 := hE.size
  clear hE
  have B6 := Lib.hid hB0
  clear hB0
  have c_B6 := blk_cell B6.out
  have f_B6 := blk_frozen B6.out
  have l_B6 := (Array.getElem?_eq_some_iff.1 B6.out).1
  have B7 := Lib.hid hB1
  clear hB1
  have c_B7 := blk_cell B7.out
  have f_B7 := blk_frozen B7.out
  have l_B7 := (Array.getElem?_eq_some_iff.1 B7.out).1
  have hb1 : b < w1.heap.size := by omega
  have hb2 : b8 < w1.heap.size := by omega
  have hb3 : b6 < w1.heap.size := by omega
  have hb4 : b7 < w1.heap.size := by omega
  refine wp_region_front 11 (fun opIx => match opIx with
    | 9 => .spec RH default RH.v (fun s w' => CanR w' s (r * qs.getD j 0))
    | 10 => .spec RH default RH.v (fun s w' => CanR w' s (q + r * qs.getD j 0))
    | _ => .quiet) (fun | 10 => [9] | _ => []) (by kernel_rfl) (by kernel_rfl) (fun w0 he0 hz0 hc0 hf0 => ?_)
  replace he0 := Lib.hid he0
  simp only [List.take_succ_cons, List.take_zero]
  repeat (refine wpF_quiet rfl rfl rfl (fun K hK => ?_); go_big_quiet_op; refine hK _ ?_; clear hK K)
  refine wpF_spec rfl rfl (fun w1 hw1 hG => ?_) (fun x9 => ?_)
  · have hW := he0.out.trans hw1
    refine spec_call [RH.v ⟨neg', ao', n', c', bo', m', d'⟩, RH.v ⟨neg3, ao3, n3, c3, bo3, m3, d3⟩] rfl rfl Tryz.func43 (by kernel_rfl) (by kernel_rfl) ?_
    exact rmul_any _ _ _ _ _ (TR.out.ext hW) (YR.out.ext hW)
  simp only [Act.put, List.setIfInBounds_toArray, List.set_cons_succ, List.set_cons_zero]
  repeat (refine wpF_quiet rfl rfl rfl (fun K hK => ?_); go_big_quiet_op; refine hK _ ?_; clear hK K)
  refine wpF_spec rfl rfl (fun w1 hw1 hG => ?_) (fun x10 => ?_)
  · have hW := he0.out.trans hw1
    obtain ⟨wa9, hwa9, g9⟩ : Since _ _ := hG 9 (by decide)
    replace g9 := g9.ext hwa9
    refine spec_call [RH.v ⟨neg, ao, sn, sc, bo, sm, sd⟩, x9.v] rfl rfl Tryz.func42 (by kernel_rfl) (by kernel_rfl) ?_
    exact radd_any _ x9 _ _ _ (HR.out.ext hW) (g9.raw (Z2.out.mul Z3.out) (by decide))
  simp only [Act.put, List.setIfInBounds_toArray, List.set_cons_succ, List.set_cons_zero]
  repeat (refine wpF_quiet rfl rfl rfl (fun K hK => ?_); go_big_quiet_op; refine hK _ ?_; clear hK K)
  refine wpF_nil ?_
  intro w3 hI
  have hE := he0.out.trans hI.ext
  obtain ⟨wa9, hwa9, g9⟩ : Since _ _ := hI.facts 9
  have G9 := Lib.hid (g9.ext hwa9)
  clear g9 hwa9
  obtain ⟨wa10, hwa10, g10⟩ : Since _ _ := hI.facts 10
  have G10 := Lib.hid (g10.ext hwa10)
  clear g10 hwa10
  clear hI he0 hz0 hc0 hf0
  replace HR := Lib.hid (HR.out.ext hE)
  replace TR := Lib.hid (TR.out.ext hE)
  replace YR := Lib.hid (YR.out.ext hE)
  replace HX := Lib.hid (HX.out.trans hE)
  replace p1 := hE.cell p1
  replace p2 := hE.cell p2
  replace p3 := hE.cell p3
  replace p7 := hE.cell p7
  replace p8 := hE.cell p8
  replace p9 := hE.cell p9
  replace h6 := hE.cell h6
  replace h7 := hE.cell h7
  replace B6 := Lib.hid (hE.block B6.out)
  replace B7 := Lib.hid (hE.block B7.out)
  have hs_w3 := hE.size
  clear hE
  (try clear c_B6 f_B6 l_B6)
  have c_B6 := blk_cell B6.out
  have f_B6 := blk_frozen B6.out
  have l_B6 := (Array.getElem?_eq_some_iff.1 B6.out).1
  (try clear c_B7 f_B7 l_B7)
  have c_B7 := blk_cell B7.out
  have f_B7 := blk_frozen B7.out
  have l_B7 := (Array.getElem?_eq_some_iff.1 B7.out).1
  simp only [List.drop_succ_cons, List.drop_zero]
  go_wp2
  have hF := ((((Fin.start (L := w.heap.size + 1) HX.out (noU_block B7.out rfl)).set (by omega) (i := 0) (v := .bool x10.neg) rfl).set (by omega) (i := 1) (v := .slice x10.a x10.n x10.c) rfl).set (by omega) (i := 2) (v := .slice x10.b x10.m x10.d) rfl)
  exact bodyPost_ret (v := x10.v) (by simp [results, Tryz.results41, go_sem, blk_cell B7.out]) rfl ⟨x10, rfl, hF.ext, G10.out.keep hF.keep⟩
def rarr (r : RH) : Array Value := #[.bool r.neg, .slice r.a r.n r.c, .slice r.b r.m r.d]
set_option maxRecDepth 4000 in
set_option maxHeartbeats 1000000 in
theorem inside1_any (i : Int) (s f t : RH) (q u v : Rat) (b9 b7 : Nat) (w : World) (h : RawR w s q) (h9 : w.heap[b9]? = some (.cells (rarr f) 30 (0, 0))) (hf : RawR w f u) (h7 : RAt w b7 0 t) (ht : RawR w t v) (hne : b7 ≠ b9) :
    Calls Tryz.prog 55 #[.int .i64 i, s.v, ptr b9, ptr b7] w (fun e w2 => ∃ x y : RH, e = .returned x.v ∧ CanR w2 x (q * u) ∧ w2.heap[b9]? = some (.cells (rarr y) 30 (0, 0)) ∧ CanR w2 y (u * v) ∧ Keep w w2 ∧ Mods (· = b9) w w2) := by
  obtain ⟨neg, ao, sn, sc, bo, sm, sd⟩ := s
  obtain ⟨neg', ao', n', c', bo', m', d'⟩ := f
  obtain ⟨neg3, ao3, n3, c3, bo3, m3, d3⟩ := t
  simp only [rarr] at h9
  have HR := Lib.hid h
  have FR := Lib.hid hf
  have TR := Lib.hid ht
  have B9 := Lib.hid h9
  have HM := Lib.hid (Mods.refl (· = b9) w)
  have HK := Lib.hid (Keep.refl w)
  have hl7 := h7.lt
  obtain ⟨p1, p2, p3⟩ := h7
  simp only [Nat.zero_add] at p1 p2 p3
  clear h hf ht h9
  simp only [ptr]
  go_enter Tryz.func55, Tryz.ntmps55
  (try clear c_B9 f_B9 l_B9)
  have c_B9 := blk_cell B9.out
  have f_B9 := blk_frozen B9.out
  have l_B9 := (Array.getElem?_eq_some_iff.1 B9.out).1
  have hb9w := l_B9
  go_wp2_with fail
  refine nm_alloc2 (F := fun W => Calls _ _ _ W _) ?_
  intro w1 hE hB0 hB1 hz
  have hz_w1 := Nat.le_of_eq hz
  have hr_w1 := Nat.le_of_eq hz.symm
  clear hz
  replace HR := Lib.hid (HR.out.ext hE)
  replace FR := Lib.hid (FR.out.ext hE)
  replace TR := Lib.hid (TR.out.ext hE)
  replace HM := Lib.hid (HM.out.trans (Mods.of_ext hE))
  replace HK := Lib.hid (Keep.trans HK.out (keep_ext hE))
  replace p1 := hE.cell p1
  replace p2 := hE.cell p2
  replace p3 := hE.cell p3
  replace B9 := Lib.hid (hE.block B9.out)
  have hs_w1 := hE.size
  clear hE
  (try clear c_B9 f_B9 l_B9)
  have c_B9 := blk_cell B9.out
  have f_B9 := blk_frozen B9.out
  have l_B9 := (Array.getElem?_eq_some_iff.1 B9.out).1
  have B5 := Lib.hid hB0
  clear hB0
  have c_B5 := blk_cell B5.out
  have f_B5 := blk_frozen B5.out
  have l_B5 := (Array.getElem?_eq_some_iff.1 B5.out).1
  have B6 := Lib.hid hB1
  clear hB1
  have c_B6 := blk_cell B6.out
  have f_B6 := blk_frozen B6.out
  have l_B6 := (Array.getElem?_eq_some_iff.1 B6.out).1
  change Calls _ _ _ _ _
  have hb7 : b7 < w1.heap.size := by omega
  refine Calls.mono (rmul_any ⟨neg, ao, sn, sc, bo, sm, sd⟩ ⟨neg', ao', n', c', bo', m', d'⟩ q u _ HR.out FR.out) ?_
  rintro e w2 ⟨x2, rfl, hE, g2⟩
  have G2 := Lib.hid g2
  clear g2
  replace HR := Lib.hid (HR.out.ext hE)
  replace FR := Lib.hid (FR.out.ext hE)
  replace TR := Lib.hid (TR.out.ext hE)
  replace HM := Lib.hid (HM.out.trans (Mods.of_ext hE))
  replace HK := Lib.hid (Keep.trans HK.out (keep_ext hE))
  replace p1 := hE.cell p1
  replace p2 := hE.cell p2
  replace p3 := hE.cell p3
  replace B9 := Lib.hid (hE.block B9.out)
  replace B5 := Lib.hid (hE.block B5.out)
  replace B6 := Lib.hid (hE.block B6.out)
  have hs_w2 := hE.size
  clear hE
  (try clear c_B9 f_B9 l_B9)
  have c_B9 := blk_cell B9.out
  have f_B9 := blk_frozen B9.out
  have l_B9 := (Array.getElem?_eq_some_iff.1 B9.out).1
  (try clear c_B5 f_B5 l_B5)
  have c_B5 := blk_cell B5.out
  have f_B5 := blk_frozen B5.out
  have l_B5 := (Array.getElem?_eq_some_iff.1 B5.out).1
  (try clear c_B6 f_B6 l_B6)
  have c_B6 := blk_cell B6.out
  have f_B6 := blk_frozen B6.out
  have l_B6 := (Array.getElem?_eq_some_iff.1 B6.out).1
  go_upto_region 2 with fail
  refine nm_alloc ?_
  intro w3 hE hB0 hz
  have hz_w3 := Nat.le_of_eq hz
  have hr_w3 := Nat.le_of_eq hz.symm
  clear hz
  replace HR := Lib.hid (HR.out.ext hE)
  replace FR := Lib.hid (FR.out.ext hE)
  replace TR := Lib.hid (TR.out.ext hE)
  replace HM := Lib.hid (HM.out.trans (Mods.of_ext hE))
  replace HK := Lib.hid (Keep.trans HK.out (keep_ext hE))
  replace p1 := hE.cell p1
  replace p2 := hE.cell p2
  replace p3 := hE.cell p3
  replace B9 := Lib.hid (hE.block B9.out)
  replace B5 := Lib.hid (hE.block B5.out)
  replace B6 := Lib.hid (hE.block B6.out)
  replace G2 := Lib.hid (G2.out.ext hE)
  have hs_w3 := hE.size
  clear hE
  (try clear c_B9 f_B9 l_B9)
  have c_B9 := blk_cell B9.out
  have f_B9 := blk_frozen B9.out
  have l_B9 := (Array.getElem?_eq_some_iff.1 B9.out).1
  (try clear c_B5 f_B5 l_B5)
  have c_B5 := blk_cell B5.out
  have f_B5 := blk_frozen B5.out
  have l_B5 := (Array.getElem?_eq_some_iff.1 B5.out).1
  (try clear c_B6 f_B6 l_B6)
  have c_B6 := blk_cell B6.out
  have f_B6 := blk_frozen B6.out
  have l_B6 := (Array.getElem?_eq_some_iff.1 B6.out).1
  have B7 := Lib.hid hB0
  clear hB0
  have c_B7 := blk_cell B7.out
  have f_B7 := blk_frozen B7.out
  have l_B7 := (Array.getElem?_eq_some_iff.1 B7.out).1
  have hb7' : b7 < w3.heap.size := by omega
  go_wp2_with fail
  refine Calls.mono (rmul_any ⟨neg', ao', n', c', bo', m', d'⟩ ⟨neg3, ao3, n3, c3, bo3, m3, d3⟩ u v _ FR.out TR.out) ?_
  rintro e w4 ⟨x4, rfl, hE, g4⟩
  have G4 := Lib.hid g4
  clear g4
  replace HR := Lib.hid (HR.out.ext hE)
  replace FR := Lib.hid (FR.out.ext hE)
  replace TR := Lib.hid (TR.out.ext hE)
  replace HM := Lib.hid (HM.out.trans (Mods.of_ext hE))
  replace HK := Lib.hid (Keep.trans HK.out (keep_ext hE))
  replace p1 := hE.cell p1
  replace p2 := hE.cell p2
  replace p3 := hE.cell p3
  replace B9 := Lib.hid (hE.block B9.out)
  replace B5 := Lib.hid (hE.block B5.out)
  replace B6 := Lib.hid (hE.block B6.out)
  replace G2 := Lib.hid (G2.out.ext hE)
  replace B7 := Lib.hid (hE.block B7.out)
  have hs_w4 := hE.size
  clear hE
  (try clear c_B9 f_B9 l_B9)
  have c_B9 := blk_cell B9.out
  have f_B9 := blk_frozen B9.out
  have l_B9 := (Array.getElem?_eq_some_iff.1 B9.out).1
  (try clear c_B5 f_B5 l_B5)
  have c_B5 := blk_cell B5.out
  have f_B5 := blk_frozen B5.out
  have l_B5 := (Array.getElem?_eq_some_iff.1 B5.out).1
  (try clear c_B6 f_B6 l_B6)
  have c_B6 := blk_cell B6.out
  have f_B6 := blk_frozen B6.out
  have l_B6 := (Array.getElem?_eq_some_iff.1 B6.out).1
  (try clear c_B7 f_B7 l_B7)
  have c_B7 := blk_cell B7.out
  have f_B7 := blk_frozen B7.out
  have l_B7 := (Array.getElem?_eq_some_iff.1 B7.out).1
  go_upto_region 3 with fail
  refine nm_set3 B9.out rfl ?_
  intro w5 T
  replace HR := Lib.hid (HR.out.keep T.keep)
  replace FR := Lib.hid (FR.out.keep T.keep)
  replace TR := Lib.hid (TR.out.keep T.keep)
  replace HM := Lib.hid (Mods.put HM.out T (by first | exact Or.inl rfl | exact Or.inl (Or.inl rfl) | exact Or.inl (Or.inr (Or.inl rfl)) | exact Or.inl (Or.inr (Or.inr rfl)) | exact Or.inr (by omega)))
  replace HK := Lib.hid (Keep.trans HK.out T.keep)
  replace p1 := T.cell (by dsimp only; omega) p1
  replace p2 := T.cell (by dsimp only; omega) p2
  replace p3 := T.cell (by dsimp only; omega) p3
  replace B9 := Lib.hid (T.bx)
  replace B5 := Lib.hid (T.rest _ _ (by omega) B5.out)
  replace B6 := Lib.hid (T.rest _ _ (by omega) B6.out)
  replace G2 := Lib.hid (G2.out.keep T.keep)
  replace B7 := Lib.hid (T.rest _ _ (by omega) B7.out)
  replace G4 := Lib.hid (G4.out.keep T.keep)
  have hs_w5 := Nat.le_of_eq T.size
  have hr_w5 := Nat.le_of_eq T.size.symm
  clear T
  (try clear c_B9 f_B9 l_B9)
  have c_B9 := blk_cell B9.out
  have f_B9 := blk_frozen B9.out
  have l_B9 := (Array.getElem?_eq_some_iff.1 B9.out).1
  (try clear c_B5 f_B5 l_B5)
  have c_B5 := blk_cell B5.out
  have f_B5 := blk_frozen B5.out
  have l_B5 := (Array.getElem?_eq_some_iff.1 B5.out).1
  (try clear c_B6 f_B6 l_B6)
  have c_B6 := blk_cell B6.out
  have f_B6 := blk_frozen B6.out
  have l_B6 := (Array.getElem?_eq_some_iff.1 B6.out).1
  (try clear c_B7 f_B7 l_B7)
  have c_B7 := blk_cell B7.out
  have f_B7 := blk_frozen B7.out
  have l_B7 := (Array.getElem?_eq_some_iff.1 B7.out).1
  go_wp2
  refine nm_set3 (F := fun W => bodyPost _ _ _ _ _ W) B6.out rfl ?_
  intro w6 T
  replace HR := Lib.hid (HR.out.keep T.keep)
  replace FR := Lib.hid (FR.out.keep T.keep)
  replace TR := Lib.hid (TR.out.keep T.keep)
  replace HM := Lib.hid (Mods.put HM.out T (by first | exact Or.inl rfl | exact Or.inl (Or.inl rfl) | exact Or.inl (Or.inr (Or.inl rfl)) | exact Or.inl (Or.inr (Or.inr rfl)) | exact Or.inr (by omega)))
  replace HK := Lib.hid (Keep.trans HK.out T.keep)
  replace p1 := T.cell (by dsimp only; omega) p1
  replace p2 := T.cell (by dsimp only; omega) p2
  replace p3 := T.cell (by dsimp only; omega) p3
  replace B9 := Lib.hid (T.rest _ _ (by omega) B9.out)
  replace B5 := Lib.hid (T.rest _ _ (by omega) B5.out)
  replace B6 := Lib.hid (T.bx)
  replace G2 := Lib.hid (G2.out.keep T.keep)
  replace B7 := Lib.hid (T.rest _ _ (by omega) B7.out)
  replace G4 := Lib.hid (G4.out.keep T.keep)
  have hs_w6 := Nat.le_of_eq T.size
  have hr_w6 := Nat.le_of_eq T.size.symm
  clear T
  (try clear c_B9 f_B9 l_B9)
  have c_B9 := blk_cell B9.out
  have f_B9 := blk_frozen B9.out
  have l_B9 := (Array.getElem?_eq_some_iff.1 B9.out).1
  (try clear c_B5 f_B5 l_B5)
  have c_B5 := blk_cell B5.out
  have f_B5 := blk_frozen B5.out
  have l_B5 := (Array.getElem?_eq_some_iff.1 B5.out).1
  (try clear c_B6 f_B6 l_B6)
  have c_B6 := blk_cell B6.out
  have f_B6 := blk_frozen B6.out
  have l_B6 := (Array.getElem?_eq_some_iff.1 B6.out).1
  (try clear c_B7 f_B7 l_B7)
  have c_B7 := blk_cell B7.out
  have f_B7 := blk_frozen B7.out
  have l_B7 := (Array.getElem?_eq_some_iff.1 B7.out).1
  exact bodyPost_ret (v := x2.v) (by simp [results, Tryz.results55, go_sem, c_B6]) rfl ⟨x2, x4, rfl, G2.out, B9.out, G4.out, HK.out, HM.out⟩
end Go.Proofs.YteafdebcihbjdaaGreat
