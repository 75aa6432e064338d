/- StabilityBounds: what its law needs, plain. -/
import Derived.Test.YteafdebcihbjdaaGreatSbd
import Derived.Test.YteafdebcihbjdaaGreatBnd2
import Derived.Test.YteafdebcihbjdaaGreatM10
import Derived.Test.YteafdebcihbjdaaGreatLaw3
set_option linter.unusedVariables false
namespace Go.Proofs.YteafdebcihbjdaaGreat.Sbd
open Go.RowKit Go.Front Go.Num Stab Go.Proofs.YteafdebcihbjdaaGreat
theorem bnd_deg {d i : Nat} (hd : d ≤ 3) (h : ¬ (d + 1 = 1 ∧ 0 < i)) : bnd i (d + 1 - 2) = ((bn d i : Nat) : Rat) := by
  have h1 : d = 0 ∨ d = 1 ∨ d = 2 ∨ d = 3 := by omega
  rcases h1 with rfl | rfl | rfl | rfl
  · obtain rfl : i = 0 := by omega
    rfl
  · rfl
  · show (1 : Rat) * (((i + (0 + 1) : Nat) : Int) : Rat) / (((0 + 1 : Nat) : Int) : Rat) = ((i + 1 : Nat) : Rat)
    rw [show (((0 + 1 : Nat) : Int) : Rat) = 1 from rfl, Rat.one_mul, show (0 + 1) = 1 from rfl, Rat.div_def, show ((1 : Rat)⁻¹) = 1 by decide +kernel, Rat.mul_one]
    rfl
  · obtain ⟨k, hk⟩ : ∃ k, (i + 1) * (i + 2) = 2 * k := by
      rcases Nat.mod_two_eq_zero_or_one i with h2 | h2
      · exact ⟨(i + 1) * (i / 2 + 1), by rw [show i + 2 = 2 * (i / 2 + 1) by omega, Nat.mul_left_comm]⟩
      · exact ⟨((i + 1) / 2) * (i + 2), by rw [← Nat.mul_assoc, show 2 * ((i + 1) / 2) = i + 1 by omega]⟩
    have h3 : bn 3 i = k := by show (i + 1) * (i + 2) / 2 = k; omega
    rw [h3]
    show (1 : Rat) * (((i + (0 + 1) : Nat) : Int) : Rat) / (((0 + 1 : Nat) : Int) : Rat) * (((i + (1 + 1) : Nat) : Int) : Rat) / (((1 + 1 : Nat) : Int) : Rat) = ((k : Nat) : Rat)
    rw [show (((0 + 1 : Nat) : Int) : Rat) = 1 from rfl, show (((1 + 1 : Nat) : Int) : Rat) = 2 from rfl, Rat.one_mul]
    have h4 : ((i + 1 : Nat) : Rat) * ((i + 2 : Nat) : Rat) = 2 * (k : Rat) := by
      rw [← Rat.natCast_mul, hk, Rat.natCast_mul]; rfl
    rw [show (((i + (0 + 1) : Nat) : Int) : Rat) = ((i + 1 : Nat) : Rat) from rfl, show (((i + (1 + 1) : Nat) : Int) : Rat) = ((i + 2 : Nat) : Rat) from rfl, Rat.div_def, Rat.div_def, show ((1 : Rat)⁻¹) = 1 by decide +kernel, Rat.mul_one, h4, Rat.mul_comm 2 (k : Rat), Rat.mul_assoc, Rat.mul_inv_cancel _ (by decide), Rat.mul_one]
theorem deg_le (x y z : Int) : deg x y z ≤ 3 := by unfold Sbd.deg; split <;> (try split) <;> (try split) <;> omega
theorem bn_le {d i : Nat} (hd : d ≤ 3) (hi : i < 20) : bn d i ≤ 210 := by
  have h1 : d = 0 ∨ d = 1 ∨ d = 2 ∨ d = 3 := by omega
  rcases h1 with rfl | rfl | rfl | rfl
  · show (if i = 0 then 1 else 0) ≤ 210; split <;> omega
  · show 1 ≤ 210; decide
  · show i + 1 ≤ 210; omega
  · show (i + 1) * (i + 2) / 2 ≤ 210
    have : (i + 1) * (i + 2) ≤ 20 * 21 := Nat.mul_le_mul (by omega) (by omega)
    omega
def R0 : Rat := ((19 : Int) : Rat) / ((20 : Int) : Rat)
theorem law_bound {a : List Rat} {s : Rat} {x y z : Int} (h : Cf a s (q1 x y z) (q2 x y z) (q3 z)) (hx1 : -7 ≤ x) (hx2 : x ≤ 7) (hy1 : -7 ≤ y) (hy2 : y ≤ 7) (hz1 : -7 ≤ z) (hz2 : z ≤ 7) (hi : insV a R0 = (true, 0)) {i : Nat} (h20 : i < 20) :
    ((hL a (i + 1)).getD i 0).abs ≤ boundQ a R0 i := by
  have h1 := bound_plain h hx1 hx2 hy1 hy2 hz1 hz2 hi h20
  have hs0 : s.abs = s := Rat.abs_of_nonneg (Rat.le_of_lt h.pos)
  unfold boundQ
  rw [h.deg, h.c0, hs0]
  by_cases hc : deg x y z + 1 = 1 ∧ 0 < i
  · rw [if_pos hc]
    have h2 : bn (deg x y z) i = 0 := by rw [show deg x y z = 0 by omega]; exact if_neg (by omega)
    rw [h2] at h1
    have h3 : 1 / s * ((0 : Nat) : Rat) * (((19 : Int) : Rat) / ((20 : Int) : Rat)) ^ i = 0 := by rw [show ((0 : Nat) : Rat) = 0 from rfl, Rat.mul_zero, Rat.zero_mul]
    rw [h3] at h1
    exact h1
  · rw [if_neg hc, bnd_deg (deg_le x y z) hc]
    exact h1
theorem h_sz {a : List Rat} {x y z : Int} {g : Nat} (h : Cf a (((g : Nat) : Rat) / 2) (q1 x y z) (q2 x y z) (q3 z)) (hg : g ≤ 5) (hx1 : -7 ≤ x) (hx2 : x ≤ 7) (hy1 : -7 ≤ y) (hy2 : y ≤ 7) (hz1 : -7 ≤ z) (hz2 : z ≤ 7) (hi : insV a R0 = (true, 0)) {n : Nat} (h20 : n ≤ 20) : SzL 10 (hL a n) := by
  have h1 := all_ok hx1 hx2 hy1 hy2 hz1 hz2
  have h2 := ins_in h hi
  unfold one at h1
  simp only at h1
  rw [show ins (64 * x + 8 * x * y + 8 * y * z) (64 * y + 8 * x * z + x * y * z) (64 * z) = true from h2, Bool.not_true, Bool.false_or] at h1
  have hb := okB_sound (deg x y z) (q1 x y z) (q2 x y z * 512) (q3 z * 262144) 20 0 h1
  have hg0 : 0 < g := by
    have := h.pos
    rcases Nat.eq_zero_or_pos g with e | e
    · subst e; exact absurd this (by decide +kernel)
    · exact e
  intro q hq
  obtain ⟨j, hj, rfl⟩ := List.getElem_of_mem hq
  rw [hL_len] at hj
  have e1 : (hL a n)[j] = (hL a n).getD j 0 := by simp [hL_len, hj]
  rw [e1, h_eq h n j hj]
  have h3 := hb j (Nat.zero_le _) (by omega)
  have h4 : (Gz (q1 x y z) (q2 x y z * 512) (q3 z * 262144) j).natAbs ≤ 210 * 9728 ^ 19 := by
    refine Nat.le_trans (Nat.le_mul_of_pos_right _ (Nat.pow_pos (n := j) (show 0 < 20 by decide))) (Nat.le_trans h3 (Nat.mul_le_mul (bn_le (deg_le x y z) (by omega)) (Nat.pow_le_pow_right (by decide) (by omega))))
  generalize Gz (q1 x y z) (q2 x y z * 512) (q3 z * 262144) j = G at h4 ⊢
  have h5 : (G : Rat) / ((512 : Rat) ^ j * (((g : Nat) : Rat) / 2)) = mkRat (G * 2) (512 ^ j * g) := by
    rw [Rat.mkRat_eq_div, Rat.natCast_mul, nat_pow, Rat.intCast_mul]
    rw [show ((512 : Nat) : Rat) = 512 from rfl, show ((2 : Int) : Rat) = 2 from rfl]
    have hg1 : ((g : Nat) : Rat) ≠ 0 := fun e => by have := Rat.natCast_eq_zero_iff.1 e; omega
    have hp := pow512 j
    generalize (512 : Rat) ^ j = t at *
    generalize ((g : Nat) : Rat) = v at *
    refine div_of (fun e => ?_) ?_
    · rcases Rat.mul_eq_zero.1 e with e | e
      · exact hp e
      · rw [Rat.div_def] at e
        rcases Rat.mul_eq_zero.1 e with e | e
        · exact hg1 e
        · exact absurd e (by decide +kernel)
    · have k1 : v / 2 * 2 = v := Rat.div_mul_cancel (by decide)
      have k2 : (G : Rat) * 2 / (t * v) * (t * v) = (G : Rat) * 2 := Rat.div_mul_cancel (fun e => by rcases Rat.mul_eq_zero.1 e with e | e; exact hp e; exact hg1 e)
      generalize (G : Rat) * 2 / (t * v) = X at *
      generalize v / 2 = w at *
      rw [← k1] at k2
      grind
  rw [h5]
  refine Sz.mk (by decide) ?_ ?_
  · refine Nat.lt_of_le_of_lt (show (G * 2).natAbs ≤ 210 * 9728 ^ 19 * 2 by rw [Int.natAbs_mul]; exact Nat.mul_le_mul_right _ h4) (by decide +kernel)
  · exact Nat.lt_of_le_of_lt (Nat.mul_le_mul (Nat.pow_le_pow_right (by decide) (show j ≤ 19 by omega)) hg) (by decide +kernel)
theorem up_szl {u : List Rat} {x y z : Int} (h : Up3 u x y z) (hx1 : -7 ≤ x) (hx2 : x ≤ 7) (hy1 : -7 ≤ y) (hy2 : y ≤ 7) (hz1 : -7 ≤ z) (hz2 : z ≤ 7) : SzL 1 u := by
  have key : ∀ (v : Rat) (q : Int), v * 512 = (q : Rat) → q.natAbs < 4294967296 → Sz 1 v := fun v q e hq => by
    have e2 : v = mkRat q 512 := by rw [Rat.mkRat_eq_div]; exact (div_of (by decide) (by rw [← e]; rfl)).symm
    rw [e2]
    exact Sz.mk (by decide) (by rw [Nat.pow_one]; exact hq) (by decide)
  have a1 : (x * y).natAbs ≤ 49 := by rw [Int.natAbs_mul]; exact Nat.le_trans (Nat.mul_le_mul (show x.natAbs ≤ 7 by omega) (show y.natAbs ≤ 7 by omega)) (by decide)
  have a2 : (y * z).natAbs ≤ 49 := by rw [Int.natAbs_mul]; exact Nat.le_trans (Nat.mul_le_mul (show y.natAbs ≤ 7 by omega) (show z.natAbs ≤ 7 by omega)) (by decide)
  have a3 : (x * z).natAbs ≤ 49 := by rw [Int.natAbs_mul]; exact Nat.le_trans (Nat.mul_le_mul (show x.natAbs ≤ 7 by omega) (show z.natAbs ≤ 7 by omega)) (by decide)
  have a4 : (x * y * z).natAbs ≤ 343 := by rw [Int.natAbs_mul]; exact Nat.le_trans (Nat.mul_le_mul a1 (show z.natAbs ≤ 7 by omega)) (by decide)
  have b1 : (q1 x y z).natAbs < 4294967296 := by
    unfold q1
    rw [show 8 * x * y = 8 * (x * y) by rw [Int.mul_assoc], show 8 * y * z = 8 * (y * z) by rw [Int.mul_assoc]]
    omega
  have b2 : (q2 x y z).natAbs < 4294967296 := by
    unfold q2
    rw [show 8 * x * z = 8 * (x * z) by rw [Int.mul_assoc]]
    omega
  have b3 : (q3 z).natAbs < 4294967296 := by unfold q3; omega
  intro v hv
  obtain ⟨j, hj, rfl⟩ := List.getElem_of_mem hv
  have e1 : u[j] = u.getD j 0 := by simp [hj]
  rw [e1]
  have hl := h.len
  have : j = 0 ∨ j = 1 ∨ j = 2 ∨ j = 3 := by omega
  rcases this with rfl | rfl | rfl | rfl
  · rw [h.u0]; exact Sz.one
  · exact key _ _ h.u1 b1
  · exact key _ _ h.u2 b2
  · exact key _ _ h.u3 b3
theorem Cf.wrong {a : List Rat} {s : Rat} {p1 p2 p3 : Int} (h : Cf a s p1 p2 p3) : wrongE a = 0 := by
  have hs : s ≠ 0 := fun e => by have := h.pos; rw [e] at this; exact absurd this Rat.lt_irrefl
  rcases wrong_cases (qs := a) (Nat.le_trans (tz_len_le a) (by have := h.len; omega)) with ⟨-, e⟩ | ⟨e, -⟩
  · rw [h.c0] at e; exact absurd e hs
  · exact e
/-- All that the law needs of its polynomial. -/
structure Lw (a : List Rat) : Prop where
  z : SzL 2 a
  len : a.length ≤ 4
  pos : 0 < a.length
  ins : (insV a R0).2 = 0
  bd : insV a R0 = (true, 0) → ∀ i, i < 20 → ((hL a (i + 1)).getD i 0).abs ≤ boundQ a R0 i
  hz : insV a R0 = (true, 0) → ∀ n, n ≤ 20 → SzL 10 (hL a n)
theorem law_ok (xs : List Int) {n2 : Nat} (hn : n2 < 5) : Lw (scale5V (tz (ups ((xs.take 3).map keptQ))) (((1 + (n2 : Int) : Int) : Rat) / ((2 : Int) : Rat))) := by
  have e0 : (xs.take 3).map keptQ = ((xs.take 3).map (fun n => n % 15 - 7)).map c8 := by rw [List.map_map]; rfl
  obtain ⟨x, y, z, ⟨hx1, hx2⟩, ⟨hy1, hy2⟩, ⟨hz1, hz2⟩, hU⟩ := up3_of (cs := (xs.take 3).map (fun n => n % 15 - 7)) (by rw [List.length_map, List.length_take]; omega) (fun c hc => by
    obtain ⟨n, -, rfl⟩ := List.mem_map.1 hc
    omega)
  rw [← e0] at hU
  have es : ((1 + (n2 : Int) : Int) : Rat) / ((2 : Int) : Rat) = (((n2 + 1 : Nat) : Nat) : Rat) / 2 := by
    rw [show (1 + (n2 : Int) : Int) = ((n2 + 1 : Nat) : Int) by omega]; rfl
  have hs : 0 < (((n2 + 1 : Nat) : Nat) : Rat) / 2 := by
    rw [Rat.div_def]
    exact Rat.mul_pos (Rat.natCast_pos.2 (Nat.succ_pos _)) (by decide +kernel)
  have hs1 : Sz 1 (((1 + (n2 : Int) : Int) : Rat) / ((2 : Int) : Rat)) := by
    rw [show ((1 + (n2 : Int) : Int) : Rat) / ((2 : Int) : Rat) = mkRat (1 + (n2 : Int)) 2 from by rw [Rat.mkRat_eq_div]; rfl]
    exact Sz.mk (by decide) (by rw [Nat.pow_one]; unfold W32; omega) (by decide)
  have hcf : Cf (scale5V (tz (ups ((xs.take 3).map keptQ))) (((1 + (n2 : Int) : Int) : Rat) / ((2 : Int) : Rat))) ((((n2 + 1 : Nat) : Nat) : Rat) / 2) (q1 x y z) (q2 x y z) (q3 z) := by
    rw [es]; exact hU.cf hs
  have hr : (0 : Rat) < R0 := by decide +kernel
  have hi : (insV (scale5V (tz (ups ((xs.take 3).map keptQ))) (((1 + (n2 : Int) : Int) : Rat) / ((2 : Int) : Rat))) R0).2 = 0 := by rw [insV_ok hr hcf.wrong]
  have hz := scale5_sz (up_szl hU hx1 hx2 hy1 hy2 hz1 hz2).tz hs1
  generalize scale5V (tz (ups ((xs.take 3).map keptQ))) (((1 + (n2 : Int) : Int) : Rat) / ((2 : Int) : Rat)) = a at *
  refine ⟨hz, hcf.len, ?_, hi, fun h i h20 => law_bound hcf hx1 hx2 hy1 hy2 hz1 hz2 h h20, fun h n h20 => h_sz hcf (by omega) hx1 hx2 hy1 hy2 hz1 hz2 h h20⟩
  have h1 := hcf.deg
  have h2 := tz_len_le a
  omega
theorem abs_sz {k : Nat} {q : Rat} (h : Sz k q) : Sz k q.abs := by
  unfold Rat.abs
  split
  · exact h
  · exact h.neg
theorem boundQ_sz {a : List Rat} (h : SzL 2 a) (hl : a.length ≤ 4) {n : Nat} (hn : n < 20) : Sz 1000 (boundQ a R0 n) := by
  have hr : Sz 1 R0 := by
    rw [show R0 = mkRat 19 20 from by rw [Rat.mkRat_eq_div]; rfl]
    exact Sz.mk (by decide) (by decide) (by decide)
  have h1 := tz_len_le a
  unfold boundQ
  split
  · exact Sz.zero (by decide)
  · exact ((((Sz.int (z := 1) (by decide)).div (abs_sz (h.getD (by decide) 0))).mul (bnd_sz (m := n) (by omega) ((tz a).length - 2) (by omega))).mul (hr.pow n)).mono (by omega)
end Go.Proofs.YteafdebcihbjdaaGreat.Sbd
