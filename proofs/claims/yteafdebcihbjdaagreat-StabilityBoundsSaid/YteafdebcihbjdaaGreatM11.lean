/- Rf6, Rf7, Rf8, StbR, StbS -/
import Derived.Test.YteafdebcihbjdaaGreatM8
import Derived.Test.YteafdebcihbjdaaGreatM9
import Derived.Test.YteafdebcihbjdaaGreatM10
set_option linter.unusedVariables false
/- At, Add, Mul of the reference 05; Poly of make. -/
namespace Go.Proofs.YteafdebcihbjdaaGreat
open Go.RowKit Go.Front Go.Num
attribute [local go_sem] XW.cell XW.frozen
theorem getD_over' {qs : List Rat} {i : Nat} (h : qs.length ≤ i) : qs.getD i 0 = 0 := by
  rw [List.getD_eq_getElem?_getD, List.getElem?_eq_none h]; rfl
def polyQ (xs : List Int) (d : Nat) : List Rat := tz ((xs.take (d + 1)).map ratQ)
theorem rat_all : ∀ a : Nat, a < 25 → ∀ b : Nat, b < 8 → ((((a : Int) - 12 : Int) : Rat) / ((1 + (b : Int) : Int) : Rat)).num.natAbs < W32 ∧ ((((a : Int) - 12 : Int) : Rat) / ((1 + (b : Int) : Int) : Rat)).den < W32 := by decide +kernel
theorem ratQ_sz (n : Int) : Sz 1 (ratQ n) := by
  have h1 := Int.emod_nonneg n (show (25 : Int) ≠ 0 by decide)
  have h2 := Int.emod_lt_of_pos n (show (0 : Int) < 25 by decide)
  have h3 := Int.emod_nonneg (n.tdiv 25) (show (8 : Int) ≠ 0 by decide)
  have h4 := Int.emod_lt_of_pos (n.tdiv 25) (show (0 : Int) < 8 by decide)
  have h := rat_all (n % 25).toNat (by omega) (n.tdiv 25 % 8).toNat (by omega)
  rw [show (((n % 25).toNat : Nat) : Int) = n % 25 by omega, show (((n.tdiv 25 % 8).toNat : Nat) : Int) = n.tdiv 25 % 8 by omega] at h
  exact ⟨by rw [Nat.pow_one]; exact h.1, by rw [Nat.pow_one]; exact h.2⟩
theorem rats_sz (xs : List Int) : SzL 1 (xs.map ratQ) := by
  intro q hq
  obtain ⟨n, -, rfl⟩ := List.mem_map.1 hq
  exact ratQ_sz n
end Go.Proofs.YteafdebcihbjdaaGreat
/- Add, Mul of the reference 05. -/
namespace Go.Proofs.YteafdebcihbjdaaGreat
open Go.RowKit Go.Front Go.Num
attribute [local go_sem] XW.cell XW.frozen
theorem range_snoc' (g : Nat → Rat) (j : Nat) : (List.range (j + 1)).map g = (List.range j).map g ++ [g j] := by rw [List.range_succ, List.map_append]; rfl
def add5V (ps qs : List Rat) : List Rat := tz ((List.range (max ps.length qs.length)).map (fun i => ps.getD i 0 + qs.getD i 0))
/-- The product so far: i rows whole, and k of the row i. -/
def pmS (p q : List Rat) (i k n : Nat) : Rat := Stab.sm i (fun i' => p.getD i' 0 * Stab.shn i' (Stab.seq q) n) + if i ≤ n ∧ n < i + k then p.getD i 0 * q.getD (n - i) 0 else 0
theorem pmS_zero (p q : List Rat) (n : Nat) : pmS p q 0 0 n = 0 := by
  unfold pmS
  rw [if_neg (by omega)]
  show (0 : Rat) + 0 = 0
  grind
theorem pmS_here (p q : List Rat) (i k : Nat) : pmS p q i (k + 1) (i + k) = pmS p q i k (i + k) + p.getD i 0 * q.getD k 0 := by
  unfold pmS
  rw [if_pos (by omega), if_neg (by omega), show i + k - i = k by omega]
  grind
theorem pmS_else {p q : List Rat} {i k n : Nat} (h : n ≠ i + k) : pmS p q i (k + 1) n = pmS p q i k n := by
  unfold pmS
  by_cases h1 : i ≤ n ∧ n < i + k
  · rw [if_pos h1, if_pos (by omega)]
  · rw [if_neg h1, if_neg (by omega)]
theorem pmS_next {p q : List Rat} {i k : Nat} (hk : q.length = k) (n : Nat) : pmS p q (i + 1) 0 n = pmS p q i k n := by
  unfold pmS
  rw [if_neg (by omega)]
  simp only [Stab.sm]
  have e : Stab.shn i (Stab.seq q) n = if i ≤ n ∧ n < i + k then q.getD (n - i) 0 else 0 := by
    unfold Stab.shn Stab.seq
    by_cases h1 : i ≤ n
    · rw [if_pos h1]
      by_cases h2 : n < i + k
      · rw [if_pos ⟨h1, h2⟩]
      · rw [if_neg (by omega), getD_over' (by omega)]
    · rw [if_neg h1, if_neg (by omega)]
  rw [e]
  split <;> grind
theorem pmS_end (p q : List Rat) (n : Nat) : pmS p q p.length 0 n = Stab.ap p (Stab.seq q) n := by
  unfold pmS
  rw [if_neg (by omega), Stab.ap_sum]
  grind
/-- A block of numbers in any form. -/
def OutB (w : World) (L : Nat) (os : List Rat) (b : Nat) : Prop := ∃ rs, RBk w L rs #[] ∧ Vals RawR w rs os ∧ SzL b os
theorem OutB.ext {w w' : World} {L b : Nat} {os : List Rat} (h : OutB w L os b) (he : Ext w w') : OutB w' L os b := let ⟨rs, h1, h2, h3⟩ := h; ⟨rs, h1.ext he, h2.raw_ext he, h3⟩
theorem OutB.lt {w : World} {L b : Nat} {os : List Rat} (h : OutB w L os b) : L < w.heap.size := let ⟨_, h1, _⟩ := h; h1.lt
theorem rawR_default (w : World) : RawR w default 0 := ⟨[], [], u32_none _, u32_none _, by decide +kernel, by decide, by decide⟩
theorem OutB.start {w : World} {L M : Nat} (h : RBk w L (List.replicate M default) #[]) : OutB w L (List.replicate M 0) 1 := by
  refine ⟨_, h, ⟨by simp, fun k hk => ?_⟩, fun q hq => ?_⟩
  · simp only [List.length_replicate] at hk
    rw [show (List.replicate M (default : RH)).getD k default = default by simp [hk], show (List.replicate M (0 : Rat)).getD k 0 = 0 by simp [hk]]
    exact rawR_default w
  · rw [List.eq_of_mem_replicate hq]; exact Sz.zero (by decide)
theorem OutB.cells {w : World} {L b : Nat} {os : List Rat} (h : OutB w L os b) {k : Nat} (hk : k < os.length) : ∃ r, RAt w L (k * 3) r ∧ RawR w r (os.getD k 0) := by
  obtain ⟨rs, h1, h2, h3⟩ := h
  exact ⟨_, h1.at (by rw [h2.1]; exact hk), h2.2 k hk⟩
theorem Vals.rawkeep {w w' : World} {rs : List RH} {qs : List Rat} (h : Vals RawR w rs qs) (he : Keep w w') : Vals RawR w' rs qs := ⟨h.1, fun k hk => (h.2 k hk).keep he⟩
theorem Vals.set {P : World → RH → Rat → Prop} {w : World} {rs : List RH} {qs : List Rat} (h : Vals P w rs qs) {r : RH} {q : Rat} (hr : P w r q) (k : Nat) : Vals P w (rs.set k r) (qs.set k q) := by
  refine ⟨by simp [h.1], fun j hj => ?_⟩
  simp only [List.length_set] at hj
  by_cases hjk : k = j
  · subst hjk
    rw [show (rs.set k r).getD k default = r by simp [show k < rs.length by rw [h.1]; exact hj], show (qs.set k q).getD k 0 = q by simp [hj]]
    exact hr
  · rw [show (rs.set k r).getD j default = rs.getD j default by rw [List.getD_eq_getElem?_getD, List.getD_eq_getElem?_getD, List.getElem?_set_ne hjk], show (qs.set k q).getD j 0 = qs.getD j 0 by rw [List.getD_eq_getElem?_getD, List.getD_eq_getElem?_getD, List.getElem?_set_ne hjk]]
    exact h.2 j hj
theorem nm_out {w1 : World} {L b b' k : Nat} {os : List Rat} {q : Rat} {F : World → Prop} {x : RH} (h : OutB w1 L os b) (hk : k < os.length) (hx : RawR w1 x q) (hz : Sz b' q) (hb : b ≤ b')
    (H : ∀ w2, (∃ cs, PutB w1 L 30 cs w2) → OutB w2 L (os.set k q) b' → F w2) :
    F (((w1.setCell ⟨L, k * 3, none⟩ (.bool x.neg)).setCell ⟨L, k * 3 + 1, none⟩ (.slice x.a x.n x.c)).setCell ⟨L, k * 3 + 2, none⟩ (.slice x.b x.m x.d)) := by
  obtain ⟨rs, h1, h2, h3⟩ := h
  refine nm_rat h1 rfl (by rw [h2.1]; exact hk) fun w2 T => H w2 ⟨_, T⟩ ⟨rs.set k x, T.bx, (h2.rawkeep T.keep).set (hx.keep T.keep) k, fun y hy => ?_⟩
  rcases List.mem_or_eq_of_mem_set hy with h4 | h4
  · exact (h3 y h4).mono hb
  · rw [h4]; exact hz
end Go.Proofs.YteafdebcihbjdaaGreat
/- Mul of the reference 05. -/
namespace Go.Proofs.YteafdebcihbjdaaGreat
open Go.RowKit Go.Front Go.Num
attribute [local go_sem] XW.cell XW.frozen
def mul5V (ps qs : List Rat) : List Rat := tz ((List.range ((tz ps).length + (tz qs).length - 1)).map (Stab.ap (tz ps) (Stab.seq (tz qs))))
theorem tz_zeros {l : List Rat} (h : ∀ x ∈ l, x = 0) : tz l = [] := by
  induction l using Stab.snoc_ind with
  | h0 => rfl
  | h1 l r ih =>
    obtain rfl : r = 0 := h r (by simp)
    rw [tz_snoc0]
    exact ih (fun x hx => h x (by simp [hx]))
theorem ap_nil (n : Nat) (p : List Rat) : Stab.ap p (Stab.seq []) n = 0 := by
  rw [Stab.ap_sum, Stab.sm_congr (g := fun _ => 0) (fun i _ => ?_), Stab.sm_zero]
  have : Stab.shn i (Stab.seq []) n = 0 := by unfold Stab.shn Stab.seq; split <;> rfl
  rw [this]
  grind
theorem mul5_nil {ps qs : List Rat} (h : tz ps = [] ∨ tz qs = []) : mul5V ps qs = [] := by
  unfold mul5V
  apply tz_zeros
  intro x hx
  obtain ⟨n, -, rfl⟩ := List.mem_map.1 hx
  rcases h with h | h
  · rw [h]; rfl
  · rw [h]; exact ap_nil n _
theorem os_eq {os : List Rat} {M : Nat} {f : Nat → Rat} (hl : os.length = M) (h : ∀ n, n < M → os.getD n 0 = f n) : os = (List.range M).map f := by
  apply Stab.getD_ext
  · simp [hl]
  · intro i hi
    rw [hl] at hi
    rw [h i hi]
    simp [hi]
theorem OutB.raw {w : World} {L b M : Nat} {os : List Rat} (h : OutB w L os b) (hl : os.length = M) (hM : M ≤ 9223372036854775807) : RawL w ⟨some ⟨L, 0, none⟩, M, M⟩ os := by
  obtain ⟨rs, h1, h2, h3⟩ := h
  exact ⟨rs, h1.rs (by rw [h2.1, hl]) (Nat.le_refl _) hM, h2⟩
theorem set_vals {p q os : List Rat} {M i k : Nat} (hl : os.length = M) (h : ∀ n, n < M → os.getD n 0 = pmS p q i k n) (hj : i + k < M) : ∀ n, n < M → (os.set (i + k) (os.getD (i + k) 0 + p.getD i 0 * q.getD k 0)).getD n 0 = pmS p q i (k + 1) n := by
  intro n hn
  by_cases he : n = i + k
  · subst he
    rw [show (os.set (i + k) (os.getD (i + k) 0 + p.getD i 0 * q.getD k 0)).getD (i + k) 0 = os.getD (i + k) 0 + p.getD i 0 * q.getD k 0 by simp [hl, hj], h _ hn, pmS_here]
  · rw [show (os.set (i + k) (os.getD (i + k) 0 + p.getD i 0 * q.getD k 0)).getD n 0 = os.getD n 0 by rw [List.getD_eq_getElem?_getD, List.getElem?_set_ne (Ne.symm he), ← List.getD_eq_getElem?_getD], h _ hn, pmS_else he]
end Go.Proofs.YteafdebcihbjdaaGreat
/- Products and stability. Plain facts. -/
namespace Go.Proofs.YteafdebcihbjdaaGreat
open Go.RowKit Go.Front Go.Num
theorem norm_lmul (p : List Rat) : norm p = Stab.lmul (p.getD 0 0)⁻¹ p := by
  unfold norm Stab.lmul
  congr 1
  funext x
  rw [Rat.div_def, Rat.mul_comm]
theorem norm_head {p : List Rat} (h : p.getD 0 0 ≠ 0) : (norm p).getD 0 0 = 1 := by
  have hl : 0 < p.length := by
    rcases Nat.eq_zero_or_pos p.length with h0 | h0
    · exact absurd (getD_over' (by omega)) h
    · exact h0
  rw [norm_range]
  simp only [List.getD_eq_getElem?_getD, List.getElem?_map, List.getElem?_range hl, Option.map_some, Option.getD_some]
  exact Stab.div_self' (by simpa [List.getD_eq_getElem?_getD] using h)
theorem reflV_ok {qs : List Rat} (h : wrongE qs = 0) : (reflV qs).1 = 0 ∨ (reflV qs).1 = 14 := by
  unfold reflV
  rw [if_neg (fun hn => hn h)]
  split
  · exact Or.inl rfl
  · exact Or.inr rfl
theorem reflV_inv {qs : List Rat} (h : wrongE qs = 0) : (reflV qs).1 = 0 ↔ Stab.Inv (tz qs) := by
  obtain ⟨h1, h2, h3⟩ := wrong_ok h
  have hl : (norm (tz qs)).length = ((tz qs).length - 1) + 1 := by rw [norm_length]; omega
  have hi := Stab.refl_inv hl (norm_head h3)
  rw [norm_lmul, Stab.Inv.lmul_iff (by intro e; exact h3 (by rw [← Rat.inv_inv ((tz qs).getD 0 0), e, Rat.inv_zero]))] at hi
  rw [← hi]
  unfold reflV
  rw [if_neg (fun hn => hn h), ← norm_lmul]
  constructor
  · intro h4
    split at h4
    · rename_i k hk; exact ⟨k, hk⟩
    · cases h4
  · rintro ⟨k, hk⟩
    rw [hk]
theorem stabV_ok {qs : List Rat} (h : wrongE qs = 0) : stabV qs = (decide ((reflV qs).1 = 0), 0) := by
  unfold stabV
  rcases reflV_ok h with h1 | h1
  · rw [h1]; rfl
  · rw [h1]; rfl
theorem stabV_bad {qs : List Rat} (h : wrongE qs = 3) : stabV qs = (false, 3) := by
  have : reflV qs = (3, []) := by unfold reflV; rw [if_pos (by rw [h]; decide), h]
  unfold stabV
  rw [this]
  rfl
theorem wrong_cases {qs : List Rat} (h : (tz qs).length ≤ 49) : (wrongE qs = 3 ∧ qs.getD 0 0 = 0) ∨ (wrongE qs = 0 ∧ qs.getD 0 0 ≠ 0) := by
  unfold wrongE
  rw [if_neg (by omega)]
  by_cases h1 : qs.length = 0 ∨ qs.getD 0 0 = 0
  · rw [if_pos h1]
    left
    refine ⟨rfl, ?_⟩
    rcases h1 with h1 | h1
    · exact getD_over' (by omega)
    · exact h1
  · rw [if_neg h1]
    exact Or.inr ⟨rfl, fun e => h1 (Or.inr e)⟩
theorem ap_over {p q : List Rat} {n : Nat} (h : p.length + q.length ≤ n + 1) : Stab.ap p (Stab.seq q) n = 0 := by
  rw [Stab.ap_sum, Stab.sm_congr (g := fun _ => 0) (fun i hi => ?_), Stab.sm_zero]
  have : Stab.shn i (Stab.seq q) n = 0 := by
    unfold Stab.shn Stab.seq
    split
    · exact getD_over' (by omega)
    · rfl
  rw [this]
  grind
theorem mul5_seq (ps qs : List Rat) : Stab.seq (mul5V ps qs) = Stab.ap (tz ps) (Stab.seq (tz qs)) := by
  funext n
  unfold Stab.seq mul5V
  rw [tz_getD']
  rcases Nat.lt_or_ge n ((tz ps).length + (tz qs).length - 1) with h | h
  · rw [List.getD_eq_getElem?_getD, List.getElem?_map, List.getElem?_range h]
    rfl
  · rw [getD_over' (by simpa using h)]
    exact (ap_over (by omega)).symm
theorem mul5_head (ps qs : List Rat) : (mul5V ps qs).getD 0 0 = ps.getD 0 0 * qs.getD 0 0 := by
  have h := congrFun (mul5_seq ps qs) 0
  unfold Stab.seq at h
  rw [h, ← tz_getD' ps, ← tz_getD' qs]
  cases tz ps with
  | nil => show (0 : Rat) = 0 * _; grind
  | cons a l => show a * _ + 0 = _; simp; grind
theorem mul5_tz (ps qs : List Rat) : tz (mul5V ps qs) = mul5V ps qs := by unfold mul5V; exact tz_idem _
theorem mul5_len (ps qs : List Rat) : (mul5V ps qs).length ≤ ps.length + qs.length := by
  unfold mul5V
  refine Nat.le_trans (tz_len_le _) ?_
  have h1 := tz_len_le ps
  have h2 := tz_len_le qs
  simp
  omega
theorem mul5_inv (ps qs : List Rat) : Stab.Inv (tz (mul5V ps qs)) ↔ Stab.Inv (tz ps) ∧ Stab.Inv (tz qs) := by
  rw [mul5_tz]
  exact Stab.Inv.prod (mul5_seq ps qs)
theorem sm_sz {n t : Nat} {f : Nat → Rat} (h : ∀ i, i < n → Sz t (f i)) : Sz (1 + n * (t + 1)) (Stab.sm n f) := by
  induction n with
  | zero => exact Sz.zero (by omega)
  | succ n ih =>
    simp only [Stab.sm]
    exact ((ih (fun i hi => h i (by omega))).add (h n (by omega))).mono (by rw [Nat.succ_mul]; omega)
theorem shn_sz {s : Nat} {q : List Rat} (hs : 1 ≤ s) (h : SzL s q) (i n : Nat) : Sz s (Stab.shn i (Stab.seq q) n) := by
  unfold Stab.shn Stab.seq
  split
  · exact h.getD hs _
  · exact Sz.zero hs
theorem mul5_sz {s : Nat} {ps qs : List Rat} (hs : 1 ≤ s) (h1 : SzL s ps) (h2 : SzL s qs) : SzL (1 + ps.length * (2 * s + 1)) (mul5V ps qs) := by
  unfold mul5V
  refine SzL.tz ?_
  intro q hq
  obtain ⟨n, -, rfl⟩ := List.mem_map.1 hq
  rw [Stab.ap_sum]
  refine (sm_sz (t := 2 * s) (fun i hi => ((h1.tz.getD hs i).mul (shn_sz hs h2.tz i n)).mono (by omega))).mono ?_
  exact Nat.add_le_add_left (Nat.mul_le_mul_right _ (tz_len_le ps)) 1
/-- The three ways of the law. -/
theorem prod_plain (a b : List Rat) (la : a.length ≤ 4) (lb : b.length ≤ 3) :
    (stabV a = (false, 3) ∧ stabV (mul5V a b) = (false, 3)) ∨ (∃ x, stabV a = (x, 0) ∧ stabV b = (false, 3) ∧ stabV (mul5V a b) = (false, 3)) ∨
      ∃ x y, stabV a = (x, 0) ∧ stabV b = (y, 0) ∧ stabV (mul5V a b) = (x && y, 0) := by
  have hl := mul5_len a b
  have hr := wrong_cases (qs := mul5V a b) (by rw [mul5_tz]; omega)
  have hh := mul5_head a b
  rcases wrong_cases (qs := a) (Nat.le_trans (tz_len_le a) (by omega)) with ⟨h1, h2⟩ | ⟨h1, h2⟩
  · left
    refine ⟨stabV_bad h1, stabV_bad ?_⟩
    rcases hr with h | h
    · exact h.1
    · exfalso
      apply h.2
      rw [hh, h2]
      grind
  · right
    rcases wrong_cases (qs := b) (Nat.le_trans (tz_len_le b) (by omega)) with ⟨k1, k2⟩ | ⟨k1, k2⟩
    · left
      refine ⟨_, stabV_ok h1, stabV_bad k1, stabV_bad ?_⟩
      rcases hr with h | h
      · exact h.1
      · exfalso
        apply h.2
        rw [hh, k2]
        grind
    · right
      have hw : wrongE (mul5V a b) = 0 := by
        rcases hr with h | h
        · exfalso
          have := h.2
          rw [hh] at this
          rcases Rat.mul_eq_zero.1 this with e | e
          · exact h2 e
          · exact k2 e
        · exact h.1
      refine ⟨_, _, stabV_ok h1, stabV_ok k1, ?_⟩
      rw [stabV_ok hw]
      congr 1
      rw [← Bool.decide_and]
      exact decide_eq_decide.2 (by rw [reflV_inv hw, reflV_inv h1, reflV_inv k1]; exact mul5_inv a b)
end Go.Proofs.YteafdebcihbjdaaGreat
/- The radius. Plain facts. -/
namespace Go.Proofs.YteafdebcihbjdaaGreat
open Go.RowKit Go.Front Go.Num
theorem Inv_tz (l : List Rat) : Stab.Inv (tz l) ↔ Stab.Inv l := by
  induction l using Stab.snoc_ind with
  | h0 => exact Iff.rfl
  | h1 l r ih =>
    by_cases h : r = 0
    · subst h; rw [tz_snoc0, ih, Stab.Inv.snoc]
    · rw [tz_snoc l h]
theorem scl_getD (r : Rat) (c : List Rat) (i : Nat) : (Stab.scl r c).getD i 0 = r ^ i * c.getD i 0 := by
  induction c generalizing i with
  | nil => show (0 : Rat) = r ^ i * 0; grind
  | cons a l ih =>
    cases i with
    | zero => show a = r ^ 0 * a; rw [Rat.pow_zero]; grind
    | succ i =>
      simp only [Stab.scl, List.getD_cons_succ]
      have e : (Stab.lmul r (Stab.scl r l)).getD i 0 = r * (Stab.scl r l).getD i 0 := by
        unfold Stab.lmul
        rw [List.getD_eq_getElem?_getD, List.getElem?_map, List.getD_eq_getElem?_getD]
        cases (Stab.scl r l)[i]? with
        | none => show (0 : Rat) = r * 0; grind
        | some x => rfl
      rw [e, ih, Rat.pow_succ]
      grind
theorem moved_len (qs : List Rat) (r : Rat) : (moved qs r).length = (tz qs).length := by simp [moved]
theorem moved_getD {qs : List Rat} {r : Rat} {i : Nat} (h : i < (tz qs).length) : (moved qs r).getD i 0 = (tz qs).getD i 0 * (1 / r) ^ i := by
  simp [moved, h]
theorem moved_one {qs : List Rat} (h : tz qs = qs) : moved qs 1 = qs := by
  apply Stab.getD_ext
  · rw [moved_len, h]
  · intro i hi
    rw [moved_len] at hi
    rw [moved_getD hi, h]
    have e : (1 / 1 : Rat) = 1 := by decide +kernel
    rw [e]
    have : ∀ i : Nat, (1 : Rat) ^ i = 1 := by
      intro i
      induction i with
      | zero => rw [Rat.pow_zero]
      | succ i ih => rw [Rat.pow_succ, ih]; grind
    rw [this]
    grind
theorem pow_mul' (a b : Rat) (i : Nat) : a ^ i * b ^ i = (a * b) ^ i := by
  induction i with
  | zero => rw [Rat.pow_zero, Rat.pow_zero, Rat.pow_zero]; grind
  | succ i ih => rw [Rat.pow_succ, Rat.pow_succ, Rat.pow_succ, ← ih]; grind
theorem moved_scl {qs : List Rat} {r s : Rat} (hr : r ≠ 0) : moved qs s = Stab.scl (r / s) (moved qs r) := by
  have hl : (Stab.scl (r / s) (moved qs r)).length = (moved qs r).length := by
    generalize moved qs r = l
    induction l with
    | nil => rfl
    | cons a l ih => simp [Stab.scl, ih, Stab.lmul]
  apply Stab.getD_ext
  · rw [hl, moved_len, moved_len]
  · intro i hi
    rw [moved_len] at hi
    rw [scl_getD, moved_getD hi, moved_getD hi]
    have e : (r / s) ^ i * ((tz qs).getD i 0 * (1 / r) ^ i) = (tz qs).getD i 0 * ((r / s) ^ i * (1 / r) ^ i) := by grind
    rw [e, pow_mul']
    congr 2
    rw [Rat.div_def, Rat.div_def, Rat.div_def]
    have : r * s⁻¹ * (1 * r⁻¹) = 1 * s⁻¹ * (r * r⁻¹) := by grind
    rw [this, Rat.mul_inv_cancel _ hr]
    grind
theorem div_le_one {r s : Rat} (hr : 0 < r) (h : r ≤ s) : 0 < r / s ∧ r / s ≤ 1 := by
  have hs : 0 < s := by grind
  have hi := Rat.inv_pos.2 hs
  rw [Rat.div_def]
  refine ⟨Rat.mul_pos hr hi, ?_⟩
  have := Rat.mul_le_mul_of_nonneg_right h (Rat.le_of_lt hi)
  rwa [Rat.mul_inv_cancel _ (by grind)] at this
theorem moved_wrong {qs : List Rat} {r : Rat} (h : wrongE qs = 0) : wrongE (moved qs r) = 0 := by
  obtain ⟨h1, h2, h3⟩ := wrong_ok h
  have hl := tz_len_le (moved qs r)
  rw [moved_len] at hl
  rcases wrong_cases (qs := moved qs r) (by omega) with ⟨_, h4⟩ | ⟨h4, _⟩
  · exfalso
    rw [moved_getD h2, Rat.pow_zero] at h4
    exact h3 (by grind)
  · exact h4
theorem insV_ok {qs : List Rat} {r : Rat} (hr : 0 < r) (h : wrongE qs = 0) : insV qs r = (decide ((reflV (moved qs r)).1 = 0), 0) := by
  unfold insV
  rw [if_neg (by grind), if_neg (fun hn => hn h), stabV_ok (moved_wrong h)]
theorem radius_plain {a : List Rat} {r s : Rat} (hr : 0 < r) (hrs : r ≤ s) (h : wrongE a = 0) (ht : tz a = a) :
    ∃ u v x, insV a r = (u, 0) ∧ insV a s = (v, 0) ∧ insV a 1 = (x, 0) ∧ stabV a = (x, 0) ∧ (!u || v) = true := by
  refine ⟨_, _, _, insV_ok hr h, insV_ok (by grind) h, insV_ok (by decide) h, ?_, ?_⟩
  · rw [moved_one ht]
    exact stabV_ok h
  · by_cases hu : (reflV (moved a r)).1 = 0
    · rw [decide_eq_true hu, decide_eq_true]
      · rfl
      · rw [reflV_inv (moved_wrong h), Inv_tz] at hu ⊢
        rw [moved_scl (r := r) (by grind)]
        obtain ⟨d1, d2⟩ := div_le_one hr hrs
        exact Stab.Inv.scl d1 d2 hu
    · rw [decide_eq_false hu]; rfl
end Go.Proofs.YteafdebcihbjdaaGreat
