/- Walks of the small functions of the word formats. -/
import Derived.Test.YtjgbckcepoahkaaRows
import Derived.WalkKit
import Derived.WalkSpells
import Derived.WalkLawsBesides
import Derived.Lib.Hide
import Derived.Deep.QuietTactic
import Derived.BigQuiet
import Derived.Test.YtjgbckcepoahkaaFront
namespace Go.Proofs.Ytjgbckcepoahkaa
open Go.RowKit

def inB (v lo hi : Int) : Bool := decide (lo ≤ v ∧ v ≤ hi)
theorem inB_t {v lo hi : Int} : inB v lo hi = true ↔ lo ≤ v ∧ v ≤ hi := by simp [inB]
theorem inB_f {v lo hi : Int} : inB v lo hi = false ↔ v < lo ∨ hi < v := by simp [inB]; omega
theorem bcell {W w1 : World} (hb : Below W.heap.size W w1) : (∀ b o, b < W.heap.size → w1.cell? ⟨b, o, none⟩ = W.cell? ⟨b, o, none⟩) ∧ (∀ b o, b < W.heap.size → w1.frozen? ⟨b, o, none⟩ = W.frozen? ⟨b, o, none⟩) :=
  ⟨fun b o h => hb.cell (p := ⟨b, o, none⟩) h, fun b o h => hb.frozen (p := ⟨b, o, none⟩) h⟩
theorem ret_bool {a b : Bool} (h : a = b) : Ending.returned (.bool a) = .returned (.bool b) := by rw [h]
theorem ret_int {k : IntKind} {a b : Int} (h : a = b) : Ending.returned (.int k a) = .returned (.int k b) := by rw [h]

set_option maxHeartbeats 400000 in
theorem in_any (v lo hi : Int) (w : World) :
    Calls Try.prog 22 #[.int .i64 v, .int .i64 lo, .int .i64 hi] w fun e w' => e = .returned (.bool (inB v lo hi)) ∧ w = w' := by
  go_enter Try.func22, Try.ntmps22
  go_wp2
  all_goals go_ret
  all_goals exact ⟨ret_bool (by simp [inB]; omega), rfl⟩

set_option maxHeartbeats 400000 in
theorem mode_any (v : Int) (w : World) :
    Calls Try.prog 23 #[.int .i64 v] w fun e w' => e = .returned (.bool (inB v 1 3)) ∧ w = w' := by
  go_enter Try.func23, Try.ntmps23
  go_wp2
  all_goals go_ret
  all_goals exact ⟨ret_bool (by simp [inB]; omega), rfl⟩

structure Wd where
  b : Int
  f : Int
  r : Int
  o : Int
abbrev Wd.v (x : Wd) : Value := .agg #[.int .i64 x.b, .int .i64 x.f, .int .i64 x.r, .int .i64 x.o]
def Wd.valid (x : Wd) : Bool := inB x.b 4 24 && inB x.f 0 (x.b - 1) && inB x.r 1 3 && inB x.o 1 2
theorem Wd.valid_t {x : Wd} : x.valid = true ↔ (4 ≤ x.b ∧ x.b ≤ 24) ∧ (0 ≤ x.f ∧ x.f ≤ x.b - 1) ∧ (1 ≤ x.r ∧ x.r ≤ 3) ∧ (1 ≤ x.o ∧ x.o ≤ 2) := by
  simp [Wd.valid, inB]; omega

set_option maxHeartbeats 400000 in
theorem refValid_any (x : Wd) (w : World) :
    Calls Try.prog 16 #[x.v] w fun e w' => e = .returned (.bool x.valid) ∧ Below w.heap.size w w' := by
  go_enter Try.func16, Try.ntmps16
  go_wp2_with (go_at_call 22; refine (in_any _ _ _ _).mono ?_; rintro e w' ⟨rfl, rfl⟩)
  all_goals go_ret
  all_goals refine ⟨ret_bool ?_, (Below.refl _ _).alloc (Nat.le_refl _) _⟩
  all_goals (simp only [inB, wrap64] at *; simp [Wd.valid, inB] at *; try omega)

set_option maxHeartbeats 400000 in
theorem valid_any (x : Wd) (w : World) :
    Calls Try.prog 13 #[x.v] w fun e w' => e = .returned (.bool x.valid) ∧ Below w.heap.size w w' := by
  go_enter Try.func13, Try.ntmps13
  go_wp2_with (go_at_call 23; refine (mode_any _ _).mono ?_; rintro e w' ⟨rfl, rfl⟩)
  all_goals go_ret
  all_goals refine ⟨ret_bool ?_, (Below.refl _ _).alloc (Nat.le_refl _) _⟩
  all_goals (first | (rw [Wd.valid]; simp [inB] at *; omega) | (rw [Wd.valid, Bool.eq_iff_iff]; simp [inB] at *; omega))

def Wd.low (x : Wd) : Int := if x.valid then -(2 ^ (x.b.toNat - 1)) else 0
def Wd.high (x : Wd) : Int := if x.valid then 2 ^ (x.b.toNat - 1) - 1 else 0
def Wd.fits (x : Wd) (v : Int) : Bool := x.valid && inB v x.low x.high
theorem pow_bd (b : Int) (h1 : 4 ≤ b) (h2 : b ≤ 24) : (0 : Int) < 2 ^ (b.toNat - 1) ∧ (2 : Int) ^ (b.toNat - 1) ≤ 8388608 := by
  have h : b.toNat - 1 ≤ 23 := by omega
  refine ⟨Int.pow_pos (by decide), ?_⟩
  have := Nat.pow_le_pow_right (n := 2) (by decide) h
  have e : ((2 : Int) ^ (b.toNat - 1)) = ((2 ^ (b.toNat - 1) : Nat) : Int) := by push_cast; rfl
  rw [e]; have e2 : (2 : Nat) ^ 23 = 8388608 := by decide
  omega

set_option maxHeartbeats 400000 in
theorem refLow_any (x : Wd) (w : World) :
    Calls Try.prog 19 #[x.v] w fun e w' => e = .returned (.int .i64 x.low) ∧ Below w.heap.size w w' := by
  by_cases hv : x.valid = true
  · have hv' := Wd.valid_t.1 hv
    obtain ⟨⟨h1, h2⟩, -⟩ := hv'
    go_enter Try.func19, Try.ntmps19
    go_wp2_with (go_at_call 16; refine (refValid_any _ _).mono ?_; rintro e w' ⟨rfl, hb⟩; obtain ⟨hc, hf⟩ := bcell hb)
    go_ret
    refine ⟨ret_int ?_, ((Below.refl _ _).alloc (Nat.le_refl _) _).trans (hb.mono (by simp))⟩
    have hp := pow_bd x.b h1 h2
    rw [Wd.low, if_pos hv, IntWalk.wrap64_in (2 ^ (x.b.toNat - 1)) (by omega), IntWalk.wrap64_in _ (by omega)]
  · go_enter Try.func19, Try.ntmps19
    go_wp2_with (go_at_call 16; refine (refValid_any _ _).mono ?_; rintro e w' ⟨rfl, hb⟩; obtain ⟨hc, hf⟩ := bcell hb)
    go_ret
    refine ⟨ret_int ?_, ((Below.refl _ _).alloc (Nat.le_refl _) _).trans (hb.mono (by simp))⟩
    rw [Wd.low, if_neg hv]

set_option maxHeartbeats 400000 in
theorem refHigh_any (x : Wd) (w : World) :
    Calls Try.prog 21 #[x.v] w fun e w' => e = .returned (.int .i64 x.high) ∧ Below w.heap.size w w' := by
  by_cases hv : x.valid = true
  · have hv' := Wd.valid_t.1 hv
    obtain ⟨⟨h1, h2⟩, -⟩ := hv'
    go_enter Try.func21, Try.ntmps21
    go_wp2_with (go_at_call 16; refine (refValid_any _ _).mono ?_; rintro e w' ⟨rfl, hb⟩; obtain ⟨hc, hf⟩ := bcell hb)
    go_ret
    refine ⟨ret_int ?_, ((Below.refl _ _).alloc (Nat.le_refl _) _).trans (hb.mono (by simp))⟩
    have hp := pow_bd x.b h1 h2
    rw [Wd.high, if_pos hv, IntWalk.wrap64_in (2 ^ (x.b.toNat - 1)) (by omega), IntWalk.wrap64_in _ (by omega)]
  · go_enter Try.func21, Try.ntmps21
    go_wp2_with (go_at_call 16; refine (refValid_any _ _).mono ?_; rintro e w' ⟨rfl, hb⟩; obtain ⟨hc, hf⟩ := bcell hb)
    go_ret
    refine ⟨ret_int ?_, ((Below.refl _ _).alloc (Nat.le_refl _) _).trans (hb.mono (by simp))⟩
    rw [Wd.high, if_neg hv]

set_option maxHeartbeats 400000 in
theorem low_any (x : Wd) (w : World) :
    Calls Try.prog 30 #[x.v] w fun e w' => e = .returned (.int .i64 x.low) ∧ Below w.heap.size w w' := by
  by_cases hv : x.valid = true
  · have hv' := Wd.valid_t.1 hv
    obtain ⟨⟨h1, h2⟩, -⟩ := hv'
    go_enter Try.func30, Try.ntmps30
    go_wp2_with (go_at_call 13; refine (valid_any _ _).mono ?_; rintro e w' ⟨rfl, hb⟩; obtain ⟨hc, hf⟩ := bcell hb)
    go_ret
    refine ⟨ret_int ?_, ((Below.refl _ _).alloc (Nat.le_refl _) _).trans (hb.mono (by simp))⟩
    have hp := pow_bd x.b h1 h2
    rw [Wd.low, if_pos hv, IntWalk.wrap64_in (2 ^ (x.b.toNat - 1)) (by omega), IntWalk.wrap64_in _ (by omega)]
  · go_enter Try.func30, Try.ntmps30
    go_wp2_with (go_at_call 13; refine (valid_any _ _).mono ?_; rintro e w' ⟨rfl, hb⟩; obtain ⟨hc, hf⟩ := bcell hb)
    go_ret
    refine ⟨ret_int ?_, ((Below.refl _ _).alloc (Nat.le_refl _) _).trans (hb.mono (by simp))⟩
    rw [Wd.low, if_neg hv]

set_option maxHeartbeats 400000 in
theorem high_any (x : Wd) (w : World) :
    Calls Try.prog 31 #[x.v] w fun e w' => e = .returned (.int .i64 x.high) ∧ Below w.heap.size w w' := by
  by_cases hv : x.valid = true
  · have hv' := Wd.valid_t.1 hv
    obtain ⟨⟨h1, h2⟩, -⟩ := hv'
    go_enter Try.func31, Try.ntmps31
    go_wp2_with (go_at_call 13; refine (valid_any _ _).mono ?_; rintro e w' ⟨rfl, hb⟩; obtain ⟨hc, hf⟩ := bcell hb)
    go_ret
    refine ⟨ret_int ?_, ((Below.refl _ _).alloc (Nat.le_refl _) _).trans (hb.mono (by simp))⟩
    have hp := pow_bd x.b h1 h2
    rw [Wd.high, if_pos hv, IntWalk.wrap64_in (2 ^ (x.b.toNat - 1)) (by omega), IntWalk.wrap64_in _ (by omega)]
  · go_enter Try.func31, Try.ntmps31
    go_wp2_with (go_at_call 13; refine (valid_any _ _).mono ?_; rintro e w' ⟨rfl, hb⟩; obtain ⟨hc, hf⟩ := bcell hb)
    go_ret
    refine ⟨ret_int ?_, ((Below.refl _ _).alloc (Nat.le_refl _) _).trans (hb.mono (by simp))⟩
    rw [Wd.high, if_neg hv]


set_option maxHeartbeats 400000 in
theorem fits_any (x : Wd) (v : Int) (w : World) :
    Calls Try.prog 28 #[x.v, .int .i64 v] w fun e w' => e = .returned (.bool (x.fits v)) ∧ Below w.heap.size w w' := by
  go_enter Try.func28, Try.ntmps28
  go_wp2_with (first
    | (go_at_call 13; refine (valid_any _ _).mono ?_; rintro e w1 ⟨rfl, hb1⟩; obtain ⟨hc1, hf1⟩ := bcell hb1; have hz1 : w.heap.size < w1.heap.size := by (have := hb1.size; simp at this; omega))
    | (go_at_call 30; refine (low_any _ _).mono ?_; rintro e w2 ⟨rfl, hb2⟩; obtain ⟨hc2, hf2⟩ := bcell hb2; have hz2 : w.heap.size < w2.heap.size := by (have := hb2.size; omega))
    | (go_at_call 31; refine (high_any _ _).mono ?_; rintro e w3 ⟨rfl, hb3⟩))
  all_goals go_ret
  · refine ⟨ret_bool ?_, ((((Below.refl _ _).alloc (Nat.le_refl _) _).trans (hb1.mono (by simp))).trans (hb2.mono (by omega))).trans (hb3.mono (by omega))⟩
    simp_all [Wd.fits, inB]
  · refine ⟨ret_bool ?_, ((((Below.refl _ _).alloc (Nat.le_refl _) _).trans (hb1.mono (by simp))).trans (hb2.mono (by omega)))⟩
    simp_all [Wd.fits, inB]; omega
  · refine ⟨ret_bool ?_, ((((Below.refl _ _).alloc (Nat.le_refl _) _).trans (hb1.mono (by simp))))⟩
    simp_all [Wd.fits, inB]

end Go.Proofs.Ytjgbckcepoahkaa
