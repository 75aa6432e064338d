/- The power series of 1 / A for small A: plain facts. -/
import Derived.Test.YteafdebcihbjdaaGreatM10
import Derived.Test.YteafdebcihbjdaaGreatM11
import Derived.Test.YteafdebcihbjdaaGreatM12
import Derived.Test.YteafdebcihbjdaaGreatSbc
set_option linter.unusedVariables false
namespace Go.Proofs.YteafdebcihbjdaaGreat.Sbd
open Go.RowKit Go.Front Go.Num Stab Go.Proofs.YteafdebcihbjdaaGreat
/-! ## The recursion -/
def tr (p1 p2 p3 : Int) : Nat → Int × Int × Int
  | 0 => (1, 0, 0)
  | j + 1 => (nx p1 p2 p3 (tr p1 p2 p3 j).1 (tr p1 p2 p3 j).2.1 (tr p1 p2 p3 j).2.2, (tr p1 p2 p3 j).1, (tr p1 p2 p3 j).2.1)
def Gz (p1 p2 p3 : Int) (j : Nat) : Int := (tr p1 p2 p3 j).1
theorem okB_sound (d : Nat) (p1 p2 p3 : Int) : ∀ (g j : Nat), okB d p1 p2 p3 g j (tr p1 p2 p3 j).1 (tr p1 p2 p3 j).2.1 (tr p1 p2 p3 j).2.2 (20 ^ j) (9728 ^ j) = true → ∀ i, j ≤ i → i < j + g → (Gz p1 p2 p3 i).natAbs * 20 ^ i ≤ bn d i * 9728 ^ i := by
  intro g
  induction g with
  | zero => intro j _ i h1 h2; omega
  | succ g ih =>
    intro j h i h1 h2
    rw [okB, Bool.and_eq_true] at h
    by_cases he : i = j
    · subst he; exact Nat.le_of_ble_eq_true h.1
    · have h3 := h.2
      rw [← Nat.pow_succ, ← Nat.pow_succ] at h3
      exact ih (j + 1) h3 i (by omega) (by omega)
theorem sm_cut {f : Nat → Rat} {m n : Nat} (h : m ≤ n) (hf : ∀ q, m ≤ q → q < n → f q = 0) : sm n f = sm m f := by
  obtain ⟨k, rfl⟩ : ∃ k, n = m + k := ⟨n - m, by omega⟩
  rw [sm_split, sm_congr (f := fun i => f (m + i)) (g := fun _ => 0) (fun i _ => hf _ (by omega) (by omega)), sm_zero, Rat.add_zero]
/-- The next element of the power series of 1 / a. -/
def hN (a h : List Rat) : Rat := ((if h.length = 0 then 1 else 0) - sm (min h.length (a.length - 1)) (fun q => a.getD (q + 1) 0 * h.getD (h.length - 1 - q) 0)) / a.getD 0 0
def hL (a : List Rat) : Nat → List Rat
  | 0 => []
  | n + 1 => hL a n ++ [hN a (hL a n)]
theorem hL_len (a : List Rat) (n : Nat) : (hL a n).length = n := by
  induction n with
  | zero => rfl
  | succ n ih => rw [hL, List.length_append, ih]; rfl
theorem hL_get (a : List Rat) {k n : Nat} (h : k < n) : (hL a n).getD k 0 = hN a (hL a k) := by
  induction n with
  | zero => omega
  | succ n ih =>
    rw [hL, List.getD_eq_getElem?_getD]
    by_cases hk : k < n
    · rw [List.getElem?_append_left (by rw [hL_len]; exact hk), ← List.getD_eq_getElem?_getD]; exact ih hk
    · obtain rfl : k = n := by omega
      rw [List.getElem?_append_right (by rw [hL_len]; exact Nat.le_refl _), hL_len]; simp
/-- The coefficients are s times 1, p1 / 512, p2 / 512, p3 / 512. -/
structure Cf (a : List Rat) (s : Rat) (p1 p2 p3 : Int) : Prop where
  pos : 0 < s
  len : a.length ≤ 4
  c0 : a.getD 0 0 = s
  c1 : a.getD 1 0 = s * ((p1 : Rat) / 512)
  c2 : a.getD 2 0 = s * ((p2 : Rat) / 512)
  c3 : a.getD 3 0 = s * ((p3 : Rat) / 512)
theorem over0 {a : List Rat} {k : Nat} (h : a.length ≤ k) : a.getD k 0 = 0 := by rw [List.getD_eq_getElem?_getD, List.getElem?_eq_none h]; rfl
theorem hN_three {a : List Rat} (h : List Rat) (hl : a.length ≤ 4) : hN a h = ((if h.length = 0 then 1 else 0) - sm (min h.length 3) (fun q => a.getD (q + 1) 0 * h.getD (h.length - 1 - q) 0)) / a.getD 0 0 := by
  unfold hN
  rw [sm_cut (m := min h.length (a.length - 1)) (n := min h.length 3) (by omega) (fun q hq hq2 => ?_)]
  rw [over0 (by omega), Rat.zero_mul]
theorem div_of {a b c : Rat} (hb : b ≠ 0) (h : a = c * b) : a / b = c := by
  rw [h, Rat.div_def, Rat.mul_assoc, Rat.mul_inv_cancel _ hb, Rat.mul_one]
theorem pow512 (n : Nat) : (512 : Rat) ^ n ≠ 0 := by
  induction n with
  | zero => decide
  | succ n ih => rw [Rat.pow_succ]; exact fun e => by rcases Rat.mul_eq_zero.1 e with e | e; exact ih e; exact absurd e (by decide)
/-- The elements of the power series. -/
theorem c512 (p : Int) : ((p : Rat) / 512) * 512 = p := Rat.div_mul_cancel (by decide)
theorem gz_next (p1 p2 p3 : Int) (m : Nat) : (Gz p1 p2 p3 (m + 3) : Rat) = -((p1 : Rat) * Gz p1 p2 p3 (m + 2) + p2 * Gz p1 p2 p3 (m + 1) + p3 * Gz p1 p2 p3 m) := by
  rw [show Gz p1 p2 p3 (m + 3) = -(p1 * Gz p1 p2 p3 (m + 2) + p2 * Gz p1 p2 p3 (m + 1) + p3 * Gz p1 p2 p3 m) from rfl]
  simp only [Rat.intCast_neg, Rat.intCast_add, Rat.intCast_mul]
theorem gz_one (p1 p2 p3 : Int) : (Gz p1 p2 p3 1 : Rat) = -(p1 : Rat) := by
  rw [show Gz p1 p2 p3 1 = -(p1 * 1 + p2 * 0 + p3 * 0) from rfl, show -(p1 * 1 + p2 * 0 + p3 * 0) = -p1 by omega, Rat.intCast_neg]
theorem gz_two (p1 p2 p3 : Int) : (Gz p1 p2 p3 2 : Rat) = -((p1 : Rat) * Gz p1 p2 p3 1 + p2) := by
  rw [show Gz p1 p2 p3 2 = -(p1 * Gz p1 p2 p3 1 + p2 * 1 + p3 * 0) from rfl, show -(p1 * Gz p1 p2 p3 1 + p2 * 1 + p3 * 0) = -(p1 * Gz p1 p2 p3 1 + p2) by omega]
  simp only [Rat.intCast_neg, Rat.intCast_add, Rat.intCast_mul]
theorem h_eq {a : List Rat} {s : Rat} {p1 p2 p3 : Int} (h : Cf a s p1 p2 p3) (n : Nat) : ∀ j, j < n → (hL a n).getD j 0 = (Gz p1 (p2 * 512) (p3 * 262144) j : Rat) / ((512 : Rat) ^ j * s) := by
  have hs : s ≠ 0 := fun e => by have := h.pos; rw [e] at this; exact absurd this (Rat.lt_irrefl)
  suffices ∀ j, ∀ k, k ≤ j → hN a (hL a k) * s * 512 ^ k = (Gz p1 (p2 * 512) (p3 * 262144) k : Rat) by
    intro j hj
    rw [hL_get a hj]
    refine (div_of ?_ ?_).symm
    · exact fun e => by rcases Rat.mul_eq_zero.1 e with e | e; exact pow512 _ e; exact hs e
    · rw [← this j j (Nat.le_refl _)]; grind
  intro j
  induction j with
  | zero =>
    intro k hk
    obtain rfl : k = 0 := by omega
    rw [hN_three _ h.len, h.c0]
    show ((if (hL a 0).length = 0 then (1 : Rat) else 0) - 0) / s * s * 512 ^ 0 = ((1 : Int) : Rat)
    rw [hL_len, if_pos rfl, Rat.pow_zero, Rat.mul_one, Rat.div_mul_cancel hs, show (1 : Rat) - 0 = 1 by grind]
    rfl
  | succ j ih =>
    intro k hk
    by_cases he : k ≤ j
    · exact ih k he
    · obtain rfl : k = j + 1 := by omega
      rw [hN_three _ h.len, h.c0, hL_len, if_neg (Nat.succ_ne_zero j)]
      have e1 := c512 p1
      have e2 := c512 p2
      have e3 := c512 p3
      have k1 := h.c1
      have k2 := h.c2
      have k3 := h.c3
      generalize (p1 : Rat) / 512 = c1 at e1 k1
      generalize (p2 : Rat) / 512 = c2 at e2 k2
      generalize (p3 : Rat) / 512 = c3 at e3 k3
      rcases j with _ | _ | m
      · have i0 := ih 0 (Nat.le_refl _)
        rw [gz_one, show min (0 + 1) 3 = 1 from rfl]
        show (0 - (0 + a.getD 1 0 * (hL a 1).getD 0 0)) / s * s * 512 ^ 1 = _
        rw [Rat.div_mul_cancel hs, hL_get a (by decide), k1]
        rw [Rat.pow_zero, Rat.mul_one] at i0
        rw [show (Gz p1 (p2 * 512) (p3 * 262144) 0 : Rat) = 1 from rfl] at i0
        grind
      · have i0 := ih 0 (by omega)
        have i1 := ih 1 (by omega)
        rw [gz_two, show min (0 + 1 + 1) 3 = 2 from rfl, Rat.intCast_mul]
        show (0 - (0 + a.getD 1 0 * (hL a 2).getD 1 0 + a.getD 2 0 * (hL a 2).getD 0 0)) / s * s * 512 ^ 2 = _
        rw [Rat.div_mul_cancel hs, hL_get a (by decide), hL_get a (by decide), k1, k2]
        rw [Rat.pow_zero, Rat.mul_one] at i0
        rw [show (Gz p1 (p2 * 512) (p3 * 262144) 0 : Rat) = 1 from rfl] at i0
        rw [show ((512 : Rat) ^ 1) = 512 from by grind] at i1
        rw [show ((512 : Rat) ^ 2) = 512 * 512 from by grind, show ((512 : Int) : Rat) = 512 from rfl]
        generalize (Gz p1 (p2 * 512) (p3 * 262144) 1 : Rat) = g1 at i1 ⊢
        generalize hN a (hL a 0) = X0 at i0 ⊢
        generalize hN a (hL a 1) = X1 at i1 ⊢
        rw [← e1, ← e2, ← i1]
        have : s * c2 * X0 = c2 := by rw [show s * c2 * X0 = c2 * (X0 * s) by grind, i0, Rat.mul_one]
        grind
      · have i0 := ih m (by omega)
        have i1 := ih (m + 1) (by omega)
        have i2 := ih (m + 2) (by omega)
        rw [show m + 1 + 1 + 1 = m + 3 from rfl, gz_next, show min (m + 3) 3 = 3 by omega, Rat.intCast_mul, Rat.intCast_mul]
        show (0 - (0 + a.getD 1 0 * (hL a (m + 3)).getD (m + 3 - 1 - 0) 0 + a.getD 2 0 * (hL a (m + 3)).getD (m + 3 - 1 - 1) 0 + a.getD 3 0 * (hL a (m + 3)).getD (m + 3 - 1 - 2) 0)) / s * s * 512 ^ (m + 3) = _
        rw [Rat.div_mul_cancel hs, show m + 3 - 1 - 0 = m + 2 by omega, show m + 3 - 1 - 1 = m + 1 by omega, show m + 3 - 1 - 2 = m by omega, hL_get a (by omega), hL_get a (by omega), hL_get a (by omega), k1, k2, k3]
        rw [Rat.pow_succ, Rat.pow_succ] at i2
        rw [Rat.pow_succ] at i1
        rw [Rat.pow_succ, Rat.pow_succ, Rat.pow_succ, show ((512 : Int) : Rat) = 512 from rfl, show ((262144 : Int) : Rat) = 512 * 512 from by rw [show ((262144 : Int) : Rat) = 262144 from rfl]; grind]
        generalize (512 : Rat) ^ m = t at i0 i1 i2 ⊢
        generalize (Gz p1 (p2 * 512) (p3 * 262144) m : Rat) = g0 at i0 ⊢
        generalize (Gz p1 (p2 * 512) (p3 * 262144) (m + 1) : Rat) = g1 at i1 ⊢
        generalize (Gz p1 (p2 * 512) (p3 * 262144) (m + 2) : Rat) = g2 at i2 ⊢
        generalize hN a (hL a m) = X0 at i0 ⊢
        generalize hN a (hL a (m + 1)) = X1 at i1 ⊢
        generalize hN a (hL a (m + 2)) = X2 at i2 ⊢
        rw [← e1, ← e2, ← e3, ← i0, ← i1, ← i2]
        grind
/-! ## Inside the circle -/
theorem lt_cast {a b : Int} (h : 0 < (b : Rat) - a) : a < b := Rat.intCast_lt_intCast.1 (by grind)
theorem sq3 {u K : Rat} (h1 : -1 < u) (h2 : u < 1) (hK : 0 < K) : 0 < (1 - u) * K ∧ 0 < (1 + u) * K := ⟨Rat.mul_pos (by grind) hK, Rat.mul_pos (by grind) hK⟩
theorem ins_of {b1 b2 b3 u v : Rat} {p1 p2 p3 : Int} (e1 : b1 * 3511808 = p1 * 7220) (e2 : b2 * 3511808 = p2 * 7600) (e3 : b3 * 3511808 = p3 * 8000) (h1 : -1 < b3) (h2 : b3 < 1) (hu : u * (1 - b3 * b3) = b2 - b3 * b1) (hv : v * (1 - b3 * b3) = b1 - b3 * b2) (h3 : -1 < u) (h4 : u < 1) (h5 : -(1 + u) < v) (h6 : v < 1 + u) : ins p1 p2 p3 = true := by
  have hD := Stab.one_sub_sq h1 h2
  have hN : (0 : Rat) < 3511808 := by decide +kernel
  have hK : 0 < (1 - b3 * b3) * (3511808 * 3511808) := Rat.mul_pos hD (Rat.mul_pos hN hN)
  have k0 := sq3 h1 h2 hN
  have k1 := sq3 h3 h4 hK
  have k2 : 0 < (1 + u - v) * ((1 - b3 * b3) * (3511808 * 3511808)) := Rat.mul_pos (by grind) hK
  have k3 : 0 < (1 + u + v) * ((1 - b3 * b3) * (3511808 * 3511808)) := Rat.mul_pos (by grind) hK
  have c0 : ((3511808 * 3511808 - p3 * 8000 * (p3 * 8000) : Int) : Rat) = (1 - b3 * b3) * (3511808 * 3511808) := by
    rw [Rat.intCast_sub, Rat.intCast_mul, Rat.intCast_mul, Rat.intCast_mul, show ((8000 : Int) : Rat) = 8000 from rfl, ← e3, show ((3511808 : Int) : Rat) = 3511808 from rfl]; grind
  have c1 : ((p1 * 7220 * 3511808 - p3 * 8000 * (p2 * 7600) : Int) : Rat) = v * ((1 - b3 * b3) * (3511808 * 3511808)) := by
    rw [Rat.intCast_sub, Rat.intCast_mul, Rat.intCast_mul, Rat.intCast_mul, Rat.intCast_mul, Rat.intCast_mul, show ((8000 : Int) : Rat) = 8000 from rfl, show ((7600 : Int) : Rat) = 7600 from rfl, show ((7220 : Int) : Rat) = 7220 from rfl, ← e1, ← e2, ← e3, show ((3511808 : Int) : Rat) = 3511808 from rfl, show v * ((1 - b3 * b3) * (3511808 * 3511808)) = v * (1 - b3 * b3) * (3511808 * 3511808) by grind, hv]; grind
  have c2 : ((p2 * 7600 * 3511808 - p3 * 8000 * (p1 * 7220) : Int) : Rat) = u * ((1 - b3 * b3) * (3511808 * 3511808)) := by
    rw [Rat.intCast_sub, Rat.intCast_mul, Rat.intCast_mul, Rat.intCast_mul, Rat.intCast_mul, Rat.intCast_mul, show ((8000 : Int) : Rat) = 8000 from rfl, show ((7600 : Int) : Rat) = 7600 from rfl, show ((7220 : Int) : Rat) = 7220 from rfl, ← e1, ← e2, ← e3, show ((3511808 : Int) : Rat) = 3511808 from rfl, show u * ((1 - b3 * b3) * (3511808 * 3511808)) = u * (1 - b3 * b3) * (3511808 * 3511808) by grind, hu]; grind
  have b3' : ((p3 * 8000 : Int) : Rat) = b3 * 3511808 := by rw [Rat.intCast_mul, e3]; rfl
  have i1 : p3 * 8000 < 3511808 := lt_cast (by rw [b3', show ((3511808 : Int) : Rat) = 3511808 from rfl]; grind)
  have i2 : -3511808 < p3 * 8000 := lt_cast (by rw [b3', show ((-3511808 : Int) : Rat) = -3511808 from rfl]; grind)
  unfold ins
  simp only
  generalize hC0 : (3511808 * 3511808 - p3 * 8000 * (p3 * 8000) : Int) = C0 at c0
  generalize hC1 : (p1 * 7220 * 3511808 - p3 * 8000 * (p2 * 7600) : Int) = C1 at c1
  generalize hC2 : (p2 * 7600 * 3511808 - p3 * 8000 * (p1 * 7220) : Int) = C2 at c2
  generalize (1 - b3 * b3) * (3511808 * 3511808) = K at *
  have i3 : C2 < C0 := lt_cast (by rw [c0, c2]; grind)
  have i4 : -C0 < C2 := lt_cast (by rw [Rat.intCast_neg, c0, c2]; grind)
  have i5 : C1 < C0 + C2 := lt_cast (by rw [Rat.intCast_add, c0, c1, c2]; grind)
  have i6 : -(C0 + C2) < C1 := lt_cast (by rw [Rat.intCast_neg, Rat.intCast_add, c0, c1, c2]; grind)
  rw [Bool.and_eq_true, Bool.and_eq_true, decide_eq_true_eq, decide_eq_true_eq, decide_eq_true_eq]
  refine ⟨⟨?_, ?_⟩, ?_⟩ <;> omega
theorem refl_some {m : Nat} {c k : List Rat} (h : refl (m + 1) c = some k) : (-1 < c.getD (m + 1) 0 ∧ c.getD (m + 1) 0 < 1) ∧ ∃ k', refl m (down c (c.getD (m + 1) 0) (m + 1)) = some k' := by
  rw [refl] at h
  split at h
  · rename_i hc
    cases hr : refl m (down c (c.getD (m + 1) 0) (m + 1)) with
    | none => rw [hr] at h; cases h
    | some k' => exact ⟨hc, k', rfl⟩
  · cases h
theorem ins_refl {b1 b2 b3 : Rat} {p1 p2 p3 : Int} {k : List Rat} (e1 : b1 * 3511808 = p1 * 7220) (e2 : b2 * 3511808 = p2 * 7600) (e3 : b3 * 3511808 = p3 * 8000) (h : refl 3 [1, b1, b2, b3] = some k) : ins p1 p2 p3 = true := by
  obtain ⟨⟨h1, h2⟩, k1, h⟩ := refl_some h
  simp only [show ([1, b1, b2, b3] : List Rat).getD (2 + 1) 0 = b3 from rfl] at h1 h2 h
  obtain ⟨⟨h3, h4⟩, k2, h⟩ := refl_some h
  rw [down_getD (by decide)] at h3 h4 h
  obtain ⟨⟨h5, h6⟩, -⟩ := refl_some h
  rw [down_getD (by decide), down_getD (by decide)] at h5 h6
  simp only [show ([1, b1, b2, b3] : List Rat).getD (1 + 1) 0 = b2 from rfl, show ([1, b1, b2, b3] : List Rat).getD (2 + 1 - (1 + 1)) 0 = b1 from rfl] at h3 h4 h5 h6
  have hD := Stab.one_sub_sq h1 h2
  have hD0 : 1 - b3 * b3 ≠ 0 := fun e => by rw [e] at hD; exact absurd hD Rat.lt_irrefl
  obtain ⟨u, hu⟩ : ∃ u, u = (b2 - b3 * b1) / (1 - b3 * b3) := ⟨_, rfl⟩
  obtain ⟨v, hv⟩ : ∃ v, v = (b1 - b3 * b2) / (1 - b3 * b3) := ⟨_, rfl⟩
  rw [← hu] at h3 h4 h5 h6
  rw [← hv] at h5 h6
  have hE := Stab.one_sub_sq h3 h4
  have hE0 : 1 - u * u ≠ 0 := fun e => by rw [e] at hE; exact absurd hE Rat.lt_irrefl
  have hu2 : u * (1 - b3 * b3) = b2 - b3 * b1 := by rw [hu]; exact Rat.div_mul_cancel hD0
  have hv2 : v * (1 - b3 * b3) = b1 - b3 * b2 := by rw [hv]; exact Rat.div_mul_cancel hD0
  obtain ⟨y, hy⟩ : ∃ y, y = (v - u * v) / (1 - u * u) := ⟨_, rfl⟩
  rw [← hy] at h5 h6
  have hy2 : y * (1 - u * u) = v - u * v := by rw [hy]; exact Rat.div_mul_cancel hE0
  have hu1 : 0 < 1 - u := by grind
  have hv3 : v = y * (1 + u) := by
    have : (v - y * (1 + u)) * (1 - u) = 0 := by grind
    rcases Rat.mul_eq_zero.1 this with e | e
    · grind
    · rw [e] at hu1; exact absurd hu1 Rat.lt_irrefl
  have m1 := sq3 h5 h6 (show 0 < 1 + u by grind)
  exact ins_of e1 e2 e3 h1 h2 hu2 hv2 h3 h4 (by grind) (by grind)
theorem moved_all (a : List Rat) (r : Rat) (i : Nat) : (moved a r).getD i 0 = a.getD i 0 * (1 / r) ^ i := by
  by_cases h : i < (tz a).length
  · rw [moved_getD h, tz_getD']
  · rw [over0 (by rw [moved_len]; omega), ← tz_getD', over0 (by omega), Rat.zero_mul]
/-- What Inside says of these polynomials. -/
theorem ins_in {a : List Rat} {s : Rat} {p1 p2 p3 : Int} (h : Cf a s p1 p2 p3) (hi : insV a (((19 : Int) : Rat) / ((20 : Int) : Rat)) = (true, 0)) : ins p1 p2 p3 = true := by
  have hs : s ≠ 0 := fun e => by have := h.pos; rw [e] at this; exact absurd this (Rat.lt_irrefl)
  have hr : (0 : Rat) < ((19 : Int) : Rat) / ((20 : Int) : Rat) := by decide +kernel
  have hr2 : 1 / (((19 : Int) : Rat) / ((20 : Int) : Rat)) = 20 / 19 := by decide +kernel
  have hw : wrongE a = 0 := by
    rcases wrong_cases (qs := a) (Nat.le_trans (tz_len_le a) (by have := h.len; omega)) with ⟨-, e⟩ | ⟨e, -⟩
    · rw [h.c0] at e; exact absurd e hs
    · exact e
  rw [insV_ok hr hw] at hi
  have h1 : (reflV (moved a (((19 : Int) : Rat) / ((20 : Int) : Rat)))).1 = 0 := of_decide_eq_true (congrArg Prod.fst hi)
  rw [reflV_inv (moved_wrong hw)] at h1
  have e1 := c512 p1
  have e2 := c512 p2
  have e3 := c512 p3
  have k1 := h.c1
  have k2 := h.c2
  have k3 := h.c3
  generalize (p1 : Rat) / 512 = c1 at e1 k1
  generalize (p2 : Rat) / 512 = c2 at e2 k2
  generalize (p3 : Rat) / 512 = c3 at e3 k3
  have ht : tz (moved a (((19 : Int) : Rat) / ((20 : Int) : Rat))) = tz (Stab.lmul s [1, c1 * (20 / 19), c2 * (20 / 19) ^ 2, c3 * (20 / 19) ^ 3]) := by
    refine tz_ext fun i => ?_
    rw [moved_all, hr2]
    rcases i with _ | _ | _ | _ | i
    · rw [h.c0, Rat.pow_zero]; show s * 1 = s * 1; rfl
    · rw [k1]; show s * c1 * (20 / 19) ^ 1 = s * (c1 * (20 / 19)); grind
    · rw [k2]; show s * c2 * (20 / 19) ^ 2 = s * (c2 * (20 / 19) ^ 2); grind
    · rw [k3]; show s * c3 * (20 / 19) ^ 3 = s * (c3 * (20 / 19) ^ 3); grind
    · rw [over0 (a := a) (by have := h.len; omega), Rat.zero_mul]; rfl
  rw [ht, Inv_tz, Stab.Inv.lmul_iff hs] at h1
  obtain ⟨k, hk⟩ := (Stab.refl_inv (m := 3) rfl rfl).2 h1
  refine ins_refl ?_ ?_ ?_ hk
  · rw [← e1]; grind
  · rw [← e2]; grind
  · rw [← e3]; grind
theorem pow_eq (a b : Rat) (i : Nat) : (a * b) ^ i = a ^ i * b ^ i := (pow_mul' a b i).symm
theorem nat_pow (a i : Nat) : ((a ^ i : Nat) : Rat) = (a : Rat) ^ i := by
  induction i with
  | zero => rw [Rat.pow_zero]; rfl
  | succ i ih => rw [Nat.pow_succ, Rat.natCast_mul, ih, Rat.pow_succ]
theorem powP {a : Rat} (h : 0 < a) (i : Nat) : 0 < a ^ i := by
  induction i with
  | zero => rw [Rat.pow_zero]; decide
  | succ i ih => rw [Rat.pow_succ]; exact Rat.mul_pos ih h
theorem bound_nat {n i B : Nat} {s : Rat} (hs : 0 < s) (h : n * 20 ^ i ≤ B * 9728 ^ i) : (n : Rat) / ((512 : Rat) ^ i * s) ≤ 1 / s * B * (((19 : Int) : Rat) / ((20 : Int) : Rat)) ^ i := by
  have ht : (0 : Rat) < 512 ^ i := powP (by decide) i
  have hu : (0 : Rat) < 20 ^ i := powP (by decide) i
  have hts : (0 : Rat) < 512 ^ i * s := Rat.mul_pos ht hs
  have k1 : 1 / s * s = 1 := Rat.div_mul_cancel (fun e => by rw [e] at hs; exact absurd hs Rat.lt_irrefl)
  have k2 : (n : Rat) / ((512 : Rat) ^ i * s) * (512 ^ i * s) = n := Rat.div_mul_cancel (fun e => by rw [e] at hts; exact absurd hts Rat.lt_irrefl)
  have k3 : (((19 : Int) : Rat) / ((20 : Int) : Rat)) ^ i * 20 ^ i = 19 ^ i := by rw [← pow_eq]; congr 1; decide +kernel
  have k4 : (9728 : Rat) ^ i = 512 ^ i * 19 ^ i := by rw [← pow_eq]; congr 1; decide +kernel
  have h2 : (n : Rat) * 20 ^ i ≤ B * 9728 ^ i := by
    have := Rat.natCast_le_natCast.2 h
    rw [Rat.natCast_mul, Rat.natCast_mul, nat_pow, nat_pow] at this
    exact this
  rw [k4] at h2
  generalize (n : Rat) / ((512 : Rat) ^ i * s) = e at *
  generalize (((19 : Int) : Rat) / ((20 : Int) : Rat)) ^ i = q at *
  generalize (512 : Rat) ^ i = t at *
  generalize (20 : Rat) ^ i = u at *
  generalize (19 : Rat) ^ i = v at *
  generalize 1 / s = d at *
  rcases Rat.le_total (a := e) (b := d * B * q) with h3 | h3
  · exact h3
  · rcases Rat.le_iff_lt_or_eq.1 h3 with h4 | h4
    · exfalso
      have h5 := Rat.mul_pos (show 0 < e - d * B * q by grind) (Rat.mul_pos hts hu)
      have h6 : (e - d * B * q) * (t * s * u) = e * (t * s) * u - (d * s) * B * t * (q * u) := by grind
      rw [h6, k2, k1, k3] at h5
      grind
    · rw [h4]; exact Rat.le_refl
/-- The bound: an element times 20^i and 512^i against 9728^i. -/
theorem bound_of {G : Int} {i B : Nat} {s : Rat} (hs : 0 < s) (h : G.natAbs * 20 ^ i ≤ B * 9728 ^ i) : ((G : Rat) / ((512 : Rat) ^ i * s)).abs ≤ 1 / s * B * (((19 : Int) : Rat) / ((20 : Int) : Rat)) ^ i := by
  have h1 := bound_nat hs h
  have hts : (0 : Rat) < 512 ^ i * s := Rat.mul_pos (powP (by decide) i) hs
  have hi := Rat.inv_pos.2 hts
  rcases Int.natAbs_eq G with e | e
  · have e2 : (G : Rat) = ((G.natAbs : Nat) : Rat) := by
      conv => lhs; rw [e]
      rfl
    rw [e2, Rat.abs_of_nonneg]
    · exact h1
    · rw [Rat.div_def]; exact Rat.mul_nonneg (Rat.natCast_nonneg) (Rat.le_of_lt hi)
  · have e2 : (G : Rat) = -((G.natAbs : Nat) : Rat) := by
      conv => lhs; rw [e]
      rw [Rat.intCast_neg]; rfl
    have h0 : 0 ≤ (G.natAbs : Rat) / ((512 : Rat) ^ i * s) := by rw [Rat.div_def]; exact Rat.mul_nonneg (Rat.natCast_nonneg) (Rat.le_of_lt hi)
    rw [e2, Rat.div_def, Rat.neg_mul, ← Rat.div_def, Rat.abs_of_nonpos (by grind), Rat.neg_neg]
    exact h1
theorem bound_plain {a : List Rat} {s : Rat} {x y z : Int} (h : Cf a s (q1 x y z) (q2 x y z) (q3 z)) (hx1 : -7 ≤ x) (hx2 : x ≤ 7) (hy1 : -7 ≤ y) (hy2 : y ≤ 7) (hz1 : -7 ≤ z) (hz2 : z ≤ 7) (hi : insV a (((19 : Int) : Rat) / ((20 : Int) : Rat)) = (true, 0)) {i : Nat} (h20 : i < 20) :
    ((hL a (i + 1)).getD i 0).abs ≤ 1 / s * (bn (deg x y z) i : Nat) * (((19 : Int) : Rat) / ((20 : Int) : Rat)) ^ i := by
  have h1 := all_ok hx1 hx2 hy1 hy2 hz1 hz2
  have h2 := ins_in h hi
  unfold one at h1
  simp only at h1
  rw [show ins (64 * x + 8 * x * y + 8 * y * z) (64 * y + 8 * x * z + x * y * z) (64 * z) = true from h2, Bool.not_true, Bool.false_or] at h1
  rw [h_eq h (i + 1) i (Nat.lt_succ_self i)]
  exact bound_of h.pos (okB_sound (deg x y z) (q1 x y z) (q2 x y z * 512) (q3 z * 262144) 20 0 h1 i (Nat.zero_le _) (by omega))
/-! ## The polynomials that are made -/
def c8 (x : Int) : Rat := (x : Rat) / ((8 : Int) : Rat)
theorem c8_mul (x : Int) : c8 x * 8 = x := Rat.div_mul_cancel (by decide)
theorem ups1 (x : Rat) : ups [x] = [1 + x * 0, 0 + x * 1] := rfl
theorem ups2 (x y : Rat) : ups [x, y] = [1 + x * 0 + y * 0, 0 + x * 1 + y * (0 + x * 1), 0 + y * (1 + x * 0)] := rfl
theorem ups3 (x y z : Rat) : ups [x, y, z] = [1 + x * 0 + y * 0 + z * 0, 0 + x * 1 + y * (0 + x * 1) + z * (0 + y * (1 + x * 0)), 0 + y * (1 + x * 0) + z * (0 + x * 1 + y * (0 + x * 1)), 0 + z * (1 + x * 0 + y * 0)] := rfl
/-- What must be known of the list that StepUp makes. -/
structure Up3 (u : List Rat) (x y z : Int) : Prop where
  len : u.length ≤ 4
  u0 : u.getD 0 0 = 1
  u1 : u.getD 1 0 * 512 = (q1 x y z : Rat)
  u2 : u.getD 2 0 * 512 = (q2 x y z : Rat)
  u3 : u.getD 3 0 * 512 = (q3 z : Rat)
theorem up3_0 : Up3 (ups []) 0 0 0 := ⟨by decide, rfl, by decide +kernel, by decide +kernel, by decide +kernel⟩
theorem up3_1 (x : Int) : Up3 (ups [c8 x]) x 0 0 := by
  have e := c8_mul x
  rw [ups1]
  refine ⟨by simp, ?_, ?_, ?_, ?_⟩
  · show 1 + c8 x * 0 = 1; grind
  · show (0 + c8 x * 1) * 512 = _
    rw [show q1 x 0 0 = 64 * x by unfold q1; omega, Rat.intCast_mul, show ((64 : Int) : Rat) = 64 from rfl]; grind
  · show (0 : Rat) * 512 = _
    rw [show q2 x 0 0 = 0 by unfold q2; simp]; grind
  · show (0 : Rat) * 512 = _
    rw [show q3 0 = 0 from rfl]; grind
theorem up3_2 (x y : Int) : Up3 (ups [c8 x, c8 y]) x y 0 := by
  have e := c8_mul x
  have f := c8_mul y
  rw [ups2]
  refine ⟨by simp, ?_, ?_, ?_, ?_⟩
  · show 1 + c8 x * 0 + c8 y * 0 = 1; grind
  · show (0 + c8 x * 1 + c8 y * (0 + c8 x * 1)) * 512 = _
    rw [show q1 x y 0 = 64 * x + 8 * x * y by unfold q1; simp, Rat.intCast_add, Rat.intCast_mul, Rat.intCast_mul, Rat.intCast_mul, ← e, ← f, show ((64 : Int) : Rat) = 64 from rfl, show ((8 : Int) : Rat) = 8 from rfl]; grind
  · show (0 + c8 y * (1 + c8 x * 0)) * 512 = _
    rw [show q2 x y 0 = 64 * y by unfold q2; simp, Rat.intCast_mul, ← f, show ((64 : Int) : Rat) = 64 from rfl]; grind
  · show (0 : Rat) * 512 = _
    rw [show q3 0 = 0 from rfl]; grind
theorem up3_3 (x y z : Int) : Up3 (ups [c8 x, c8 y, c8 z]) x y z := by
  have e := c8_mul x
  have f := c8_mul y
  have g := c8_mul z
  rw [ups3]
  refine ⟨by simp, ?_, ?_, ?_, ?_⟩
  · show 1 + c8 x * 0 + c8 y * 0 + c8 z * 0 = 1; grind
  · show (0 + c8 x * 1 + c8 y * (0 + c8 x * 1) + c8 z * (0 + c8 y * (1 + c8 x * 0))) * 512 = _
    unfold q1
    simp only [Rat.intCast_add, Rat.intCast_mul]
    rw [← e, ← f, ← g, show ((64 : Int) : Rat) = 64 from rfl, show ((8 : Int) : Rat) = 8 from rfl]; grind
  · show (0 + c8 y * (1 + c8 x * 0) + c8 z * (0 + c8 x * 1 + c8 y * (0 + c8 x * 1))) * 512 = _
    unfold q2
    simp only [Rat.intCast_add, Rat.intCast_mul]
    rw [← e, ← f, ← g, show ((64 : Int) : Rat) = 64 from rfl, show ((8 : Int) : Rat) = 8 from rfl]; grind
  · show (0 + c8 z * (1 + c8 x * 0 + c8 y * 0)) * 512 = _
    unfold q3
    rw [Rat.intCast_mul, ← g, show ((64 : Int) : Rat) = 64 from rfl]; grind
theorem up3_of {cs : List Int} (hl : cs.length ≤ 3) (hr : ∀ c ∈ cs, -7 ≤ c ∧ c ≤ 7) : ∃ x y z, (-7 ≤ x ∧ x ≤ 7) ∧ (-7 ≤ y ∧ y ≤ 7) ∧ (-7 ≤ z ∧ z ≤ 7) ∧ Up3 (ups (cs.map c8)) x y z := by
  match cs, hl with
  | [], _ => exact ⟨0, 0, 0, by decide, by decide, by decide, up3_0⟩
  | [x], _ => exact ⟨x, 0, 0, hr x (by simp), by decide, by decide, up3_1 x⟩
  | [x, y], _ => exact ⟨x, y, 0, hr x (by simp), hr y (by simp), by decide, up3_2 x y⟩
  | [x, y, z], _ => exact ⟨x, y, z, hr x (by simp), hr y (by simp), hr z (by simp), up3_3 x y z⟩
  | x :: y :: z :: v :: t, h => simp at h
theorem map_getD0 (l : List Rat) (s : Rat) (i : Nat) : (l.map (· * s)).getD i 0 = l.getD i 0 * s := by
  rw [List.getD_eq_getElem?_getD, List.getD_eq_getElem?_getD, List.getElem?_map]
  cases l[i]? with
  | none => show (0 : Rat) = 0 * s; rw [Rat.zero_mul]
  | some v => rfl
theorem Up3.cf {u : List Rat} {x y z : Int} (h : Up3 u x y z) {s : Rat} (hs : 0 < s) : Cf (tz ((tz u).map (· * s))) s (q1 x y z) (q2 x y z) (q3 z) := by
  have g : ∀ i, (tz ((tz u).map (· * s))).getD i 0 = u.getD i 0 * s := fun i => by rw [tz_getD', map_getD0, tz_getD']
  refine ⟨hs, ?_, ?_, ?_, ?_, ?_⟩
  · have h1 := tz_len_le ((tz u).map (· * s))
    have h2 := tz_len_le u
    have h3 := h.len
    rw [List.length_map] at h1
    omega
  · rw [g, h.u0]; grind
  · rw [g, ← h.u1, Rat.div_def, Rat.mul_assoc, Rat.mul_inv_cancel _ (by decide)]; grind
  · rw [g, ← h.u2, Rat.div_def, Rat.mul_assoc, Rat.mul_inv_cancel _ (by decide)]; grind
  · rw [g, ← h.u3, Rat.div_def, Rat.mul_assoc, Rat.mul_inv_cancel _ (by decide)]; grind
theorem Cf.deg {a : List Rat} {s : Rat} {x y z : Int} (h : Cf a s (q1 x y z) (q2 x y z) (q3 z)) : (tz a).length = deg x y z + 1 := by
  have hs : s ≠ 0 := fun e => by have := h.pos; rw [e] at this; exact absurd this Rat.lt_irrefl
  have big : ∀ i, 3 < i → a.getD i 0 = 0 := fun i hi => over0 (by have := h.len; omega)
  have nz : ∀ q : Int, q ≠ 0 → s * ((q : Rat) / 512) ≠ 0 := fun q hq e => by
    rcases Rat.mul_eq_zero.1 e with e | e
    · exact hs e
    · have := c512 q
      rw [e, Rat.zero_mul] at this
      exact hq (Rat.intCast_eq_zero_iff.1 this.symm)
  have zz : s * (((0 : Int) : Rat) / 512) = 0 := by rw [show (((0 : Int) : Rat) / 512) = 0 by decide +kernel, Rat.mul_zero]
  unfold Sbd.deg
  by_cases hz : z = 0
  · subst hz
    have z3 : a.getD 3 0 = 0 := by rw [h.c3, show q3 0 = 0 from rfl, zz]
    rw [if_neg (by simp)]
    by_cases hy : y = 0
    · subst hy
      have z2 : a.getD 2 0 = 0 := by rw [h.c2, show q2 x 0 0 = 0 by unfold q2; simp, zz]
      rw [if_neg (by simp)]
      by_cases hx : x = 0
      · subst hx
        have z1 : a.getD 1 0 = 0 := by rw [h.c1, show q1 0 0 0 = 0 from rfl, zz]
        rw [if_neg (by simp)]
        refine tz_len_of (by rw [h.c0]; exact hs) fun i hi => ?_
        rcases Nat.lt_or_ge 3 i with h4 | h4
        · exact big i h4
        · obtain rfl | rfl | rfl : i = 1 ∨ i = 2 ∨ i = 3 := by omega
          · exact z1
          · exact z2
          · exact z3
      · rw [if_pos hx]
        refine tz_len_of (by rw [h.c1]; exact nz _ (by rw [show q1 x 0 0 = 64 * x by unfold q1; omega]; omega)) fun i hi => ?_
        rcases Nat.lt_or_ge 3 i with h4 | h4
        · exact big i h4
        · obtain rfl | rfl : i = 2 ∨ i = 3 := by omega
          · exact z2
          · exact z3
    · rw [if_pos hy]
      refine tz_len_of (by rw [h.c2]; exact nz _ (by rw [show q2 x y 0 = 64 * y by unfold q2; simp]; omega)) fun i hi => ?_
      rcases Nat.lt_or_ge 3 i with h4 | h4
      · exact big i h4
      · obtain rfl : i = 3 := by omega
        exact z3
  · rw [if_pos hz]
    exact tz_len_of (by rw [h.c3]; exact nz _ (by unfold q3; omega)) big
end Go.Proofs.YteafdebcihbjdaaGreat.Sbd
