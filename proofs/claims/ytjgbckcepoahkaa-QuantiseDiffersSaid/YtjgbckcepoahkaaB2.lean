/- QuantiseCandidates: the walk -/
import Derived.Test.YtjgbckcepoahkaaB1
namespace Go.Proofs.Ytjgbckcepoahkaa
open Go.RowKit Go.Front
attribute [local go_sem] XW.cell XW.frozen
theorem candSpec_len {x : Wd} {base c : List Int} {k : Int} {N : Nat} (h : candSpec x base k = some c) (hN : base.length ≤ N) : c.length ≤ N := by
  unfold candSpec at h
  split at h
  · have := srch_len _ _ _ (cands_mem base) h; omega
  · cases h
set_option maxHeartbeats 1000000 in
theorem qc_any (x : Wd) (k : Int) (bcap : Nat) (bo : Option Addr) (base : List Int) (w : World) (hl : IntsAt w bo base) (hmax : base.length ≤ 9223372036854775807) :
    Calls Try.prog 3 #[.slice bo base.length bcap, x.v, .int .i64 k] w (BoolPost true w) := by
  have HL := Lib.hid hl
  clear hl
  by_cases h1 : 12 < base.length ∧ base.length ≤ 49 ∨ 60 < base.length
  · by_cases h2 : 60 < base.length
    all_goals
      have h3 : (12 : Int) < base.length := by omega
      go_enter Try.func3, Try.ntmps3
      go_wp2_with (go_at_call 5; refine (known_any _).mono ?_; rintro e w1 ⟨rfl, hb1⟩)
      all_goals first
        | (exfalso; omega)
        | (go_ret; exact ⟨rfl, Ext.trans (Ext.alloc _ _) hb1⟩)
  · have hlen : base.length ≤ 20000000000000 := by omega
    have go : ∀ (w : World) (HL : Hid (IntsAt w bo base)), Calls Try.prog 3 #[.slice bo base.length bcap, x.v, .int .i64 k] w (BoolPost true w) := by
      clear HL w
      intro w HL
      by_cases h3 : (12 : Int) < base.length
      all_goals
        go_enter Try.func3, Try.ntmps3
        go_wp2_with fail
        refine (cand_any x k bcap bo base _ (HL.out.ext (Ext.alloc _ _)) hlen).mono ?_
        rintro e w1 ⟨hE1, hP1⟩
        obtain ⟨hc1, hf1⟩ := bcellE hE1
        have hz1 : w.heap.size < w1.heap.size := by have := hE1.size; simp at this; omega
        have HE1 := Lib.hid (Ext.trans (Ext.alloc _ _) hE1)
        clear hE1
        cases hs : candSpec x base k with
        | none =>
          have Hs := Lib.hid hs
          rw [hs] at hP1
          subst hP1
          clear hs
          go_wp2_with fail
          refine (refCand_any x k bcap bo base _ (HL.out.ext HE1.out) hlen).mono ?_
          rintro e w2 ⟨hE2, hP2⟩
          rw [Hs.out] at hP2
          subst hP2
          have HE2 := Lib.hid (HE1.out.trans hE2)
          clear hE2 hc1 hf1
          go_wp2_with fail
          refine (known_any _).mono ?_
          rintro e w3 ⟨rfl, hE3⟩
          have HE3 := Lib.hid (HE2.out.trans hE3)
          clear hE3
          go_wp2_with fail
          refine (sameInts_n _ _ _ _ _ _ [] [] _ rfl rfl (Or.inl rfl) (Or.inl rfl) (by decide) (by decide)).mono ?_
          rintro e w4 ⟨rfl, hE4⟩
          have HE4 := Lib.hid (HE3.out.trans hE4)
          clear hE4
          go_wp2
          go_ret
          exact ⟨ret_bool (by decide), HE4.out⟩
        | some c =>
          have Hs := Lib.hid hs
          rw [hs] at hP1
          obtain ⟨ao1, cap1, rfl, hI1⟩ := hP1
          have HI1 := Lib.hid hI1
          clear hs hI1
          have hcl := candSpec_len Hs.out hlen
          go_wp2_with fail
          refine (refCand_any x k bcap bo base _ (HL.out.ext HE1.out) hlen).mono ?_
          rintro e w2 ⟨hE2, hP2⟩
          rw [Hs.out] at hP2
          obtain ⟨ao2, cap2, rfl, hI2⟩ := hP2
          have HI2 := Lib.hid hI2
          have HI1 := Lib.hid (HI1.out.ext hE2)
          have HE2 := Lib.hid (HE1.out.trans hE2)
          clear hE2 hc1 hf1 hI2
          go_wp2_with fail
          refine (known_any _).mono ?_
          rintro e w3 ⟨rfl, hE3⟩
          have HI2 := Lib.hid (HI2.out.ext hE3)
          have HI1 := Lib.hid (HI1.out.ext hE3)
          have HE3 := Lib.hid (HE2.out.trans hE3)
          clear hE3
          go_wp2_with fail
          refine (sameInts_any _ _ _ _ c c _ HI1.out HI2.out hcl hcl).mono ?_
          rintro e w4 ⟨rfl, hE4⟩
          have HE4 := Lib.hid (HE3.out.trans hE4)
          clear hE4
          go_wp2
          go_ret
          exact ⟨ret_bool (by simp), HE4.out⟩
    exact go w HL
end Go.Proofs.Ytjgbckcepoahkaa
