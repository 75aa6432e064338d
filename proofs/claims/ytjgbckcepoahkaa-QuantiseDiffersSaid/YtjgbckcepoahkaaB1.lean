/- The reference's Candidate; known -/
import Derived.Test.YtjgbckcepoahkaaA9
namespace Go.Proofs.Ytjgbckcepoahkaa
open Go.RowKit Go.Front
attribute [local go_sem] XW.cell XW.frozen
theorem srch_filter (x : Wd) (k : Int) : ∀ (R : List (List Int)) (t : Int), (srch x k R t).2 = if t ≤ k then (R.filter (fitsAll x))[(k - t).toNat]? else none
  | [], t => by simp [srch]
  | c :: R, t => by
    rw [srch]
    cases hf : fitsAll x c with
    | false => simp only [Bool.false_eq_true, if_false]; rw [srch_filter x k R t, List.filter_cons_of_neg (by simp [hf])]
    | true =>
      simp only [if_true]
      rw [List.filter_cons_of_pos hf]
      by_cases he : t = k
      · subst he
        simp
      · rw [if_neg (by simpa using he), srch_filter x k R (t + 1)]
        by_cases hl : t ≤ k
        · rw [if_pos (by omega), if_pos hl, show (k - t).toNat = (k - (t + 1)).toNat + 1 by omega, List.getElem?_cons_succ]
        · rw [if_neg (by omega), if_neg hl]
theorem candSpec_eq {x : Wd} {base : List Int} {k : Int} (h : candOk x base k = true) : candSpec x base k = ((cands base).filter (fitsAll x))[k.toNat]? := by
  have hk : 0 ≤ k := by simp [candOk] at h; exact h.2
  rw [candSpec, if_pos h, srch_filter, if_pos hk]
  simp
theorem pref (x : Wd) (L : List (List Int)) (ii : Nat) : L.filter (fitsAll x) = (L.take ii).filter (fitsAll x) ++ (L.drop ii).filter (fitsAll x) := by
  rw [← List.filter_append, List.take_append_drop]
theorem ref_no {x : Wd} {base : List Int} {k : Int} {rows : List (List Int)} (hok : candOk x base k = true) (h : ∃ ii, rows = ((cands base).take ii).filter (fitsAll x) ∧ ((cands base).length ≤ ii ∨ rows.length = (min k 100000 + 1).toNat))
    (hlen : rows.length ≤ 10000) (hk : (rows.length : Int) ≤ k) : candSpec x base k = none := by
  obtain ⟨ii, h1, h2⟩ := h
  rw [candSpec_eq hok]
  rcases h2 with h2 | h2
  · rw [List.take_of_length_le h2] at h1
    rw [← h1]
    simp; omega
  · omega
theorem ref_yes {x : Wd} {base : List Int} {k : Int} {rows : List (List Int)} (hok : candOk x base k = true) (h : ∃ ii, rows = ((cands base).take ii).filter (fitsAll x) ∧ ((cands base).length ≤ ii ∨ rows.length = (min k 100000 + 1).toNat))
    (hk0 : 0 ≤ k) (hk : k < rows.length) : candSpec x base k = some (rows.getD k.toNat []) := by
  obtain ⟨ii, h1, h2⟩ := h
  have hk' : k.toNat < rows.length := by omega
  rw [candSpec_eq hok, pref x _ ii, ← h1, List.getElem?_append_left hk']
  simp [hk']
theorem candidates_i (x : Wd) (bo : Option Addr) (bcap : Nat) (base : List Int) (m : Int) (w : World) (hl : IntsAt w bo base) (hlen : base.length ≤ 49) (hm : 0 ≤ m) :
    Calls Try.prog 17 #[.slice bo base.length bcap, x.v, .int .i64 m] w (CsPost x base m.toNat w) := by
  obtain ⟨n, rfl⟩ := Int.eq_ofNat_of_zero_le hm
  exact candidates_any x bo bcap base n w hl hlen
/-- The cell of a list of lists. -/
theorem RowsAt.at {w : World} {v : Value} {rows : List (List Int)} (h : RowsAt w v rows) {k : Nat} (hk : k < rows.length) : ∃ g cap L c re, v = .slice (some ⟨g, 0, none⟩) rows.length cap ∧ w.cell? ⟨g, k, none⟩ = some (.slice (some ⟨L, 0, none⟩) (rows.getD k []).length c) ∧ LB w L (rows.getD k []) re := by
  obtain ⟨cells, ao, cap, rfl, hC, hR⟩ := h
  rcases hR with rfl | ⟨g, rfl, hc⟩
  · simp at hk
  · obtain ⟨L, c, re, h1, h2⟩ := hC.2 k hk
    exact ⟨g, cap, L, c, re, rfl, by rw [hc k hk, h1], h2⟩
theorem refc_yes {x : Wd} {base c : List Int} {k : Int} {w w' : World} {ao : Option Addr} {cap : Nat} (hr : candSpec x base k = some c) (he : Ext w w') (hI : IntsAt w' ao c) :
    CandPost x base k w (.returned (.tuple #[.slice ao c.length cap, .bool true])) w' := by
  refine ⟨he, ?_⟩
  rw [hr]
  exact ⟨ao, cap, rfl, hI⟩
theorem refc_no {x : Wd} {base : List Int} {k : Int} {w w' : World} (hr : candSpec x base k = none) (he : Ext w w') :
    CandPost x base k w (.returned (.tuple #[.slice none 0 0, .bool false])) w' := by
  refine ⟨he, ?_⟩
  rw [hr]
set_option maxHeartbeats 1000000 in
theorem refCand_any (x : Wd) (k : Int) (bcap : Nat) (bo : Option Addr) (base : List Int) (w : World) (hl : IntsAt w bo base) (hlen : base.length ≤ 20000000000000) :
    Calls Try.prog 7 #[.slice bo base.length bcap, x.v, .int .i64 k] w (CandPost x base k w) := by
  have HL := Lib.hid hl
  clear hl
  by_cases hok : candOk x base k = true
  · have hok' := hok
    simp only [candOk, Bool.and_eq_true, decide_eq_true_eq] at hok'
    obtain ⟨⟨hv, h49⟩, hk⟩ := hok'
    have Hok := Lib.hid hok
    clear hok
    have hmn : (0 : Int) ≤ min k 100000 ∧ min k 100000 ≤ 100000 := by omega
    go_enter Try.func7, Try.ntmps7
    go_wp2_with (go_at_call 16; refine (refValid_any _ _).mono ?_; rintro e w1 ⟨rfl, hb1⟩; rw [hv]; obtain ⟨hc1, hf1⟩ := bcell hb1; have hz1 : w.heap.size < w1.heap.size := by (have := hb1.size; simp at this; omega))
    all_goals
      have hE1 : Ext w w1 := Ext.trans (Ext.alloc _ _) hb1
      refine (candidates_i x bo bcap base _ w1 (HL.out.ext hE1) h49 (by omega)).mono ?_
      rintro e w2 ⟨v, rows, rfl, hR, hE2, hii, hrl⟩
      have hii' : ∃ ii, rows = ((cands base).take ii).filter (fitsAll x) ∧ ((cands base).length ≤ ii ∨ rows.length = (min k 100000 + 1).toNat) := by
        obtain ⟨ii, h1, h2⟩ := hii
        exact ⟨ii, h1, h2.imp id (fun h => by rw [h]; omega)⟩
      have HE := Lib.hid (hE1.trans hE2)
      clear hii hE1 hE2 hc1 hf1 hb1
      by_cases hkl : k < rows.length
      · have hyes := Lib.hid (ref_yes Hok.out hii' hk hkl)
        obtain ⟨g, cap, L, c, re, rfl, hc, hlb⟩ := hR.at (k := k.toNat) (by omega)
        obtain ⟨r, hr⟩ : ∃ r, r = rows.getD k.toNat [] := ⟨_, rfl⟩
        rw [← hr] at hyes hc hlb
        have Hlb := Lib.hid hlb
        have hkz : (0 : Int) ≤ k := hk
        clear hr hlb hii' hR hmn
        go_wp2
        all_goals (go_ret2; exact refc_yes hyes.out HE.out Hlb.out.ints)
      · have hno := Lib.hid (ref_no Hok.out hii' hrl (by omega))
        obtain ⟨cells, ao, cap, rfl, _, _⟩ := hR
        clear hii' hmn
        go_wp2
        go_ret2
        exact refc_no hno.out HE.out
  · have hno : candOk x base k = false := by simpa using hok
    have Hno := Lib.hid hno
    clear hok
    simp only [candOk, Bool.and_eq_false_iff, decide_eq_false_iff_not] at hno
    go_enter Try.func7, Try.ntmps7
    go_wp2_with (go_at_call 16; refine (refValid_any _ _).mono ?_; rintro e w1 ⟨rfl, hb1⟩; obtain ⟨hc1, hf1⟩ := bcell hb1; have hz1 : w.heap.size < w1.heap.size := by (have := hb1.size; simp at this; omega))
    all_goals first
      | (go_ret2; exact cand_close_no Hno.out (Ext.trans (Ext.alloc _ _) hb1))
      | (exfalso; simp_all; omega)

theorem cand5 : candSpec ⟨8, 4, 1, 1⟩ [0, 0] 5 = some [1, 1] := by decide +kernel
theorem cand9 : candSpec ⟨8, 4, 1, 1⟩ [0, 0] 9 = none := by decide +kernel
theorem ints_two (w : World) (a b : Int) (N : Nat) (hN : N = w.heap.size) : IntsAt (w.alloc (.cells #[.int .i64 a, .int .i64 b] 3)) (some ⟨N, 0, none⟩) [a, b] := by
  subst hN
  refine Or.inr ⟨w.heap.size, 0, rfl, fun k hk => ?_⟩
  rw [Nat.zero_add, cell_new1]
  simp only [List.length_cons, List.length_nil] at hk
  match k, hk with
  | 0, _ => rfl
  | 1, _ => rfl
theorem cand_n (b f r o k : Int) (n bcap : Nat) (bo : Option Addr) (base : List Int) (w : World) (hn : base.length = n) (hl : IntsAt w bo base) (hlen : base.length ≤ 20000000000000) :
    Calls Try.prog 6 #[.slice bo n bcap, .agg #[.int .i64 b, .int .i64 f, .int .i64 r, .int .i64 o], .int .i64 k] w (CandPost ⟨b, f, r, o⟩ base k w) := by
  subst hn
  exact cand_any ⟨b, f, r, o⟩ k bcap bo base w hl hlen
theorem sameInts_n (ao bo : Option Addr) (n m ac bc : Nat) (xs ys : List Int) (w : World) (hn : xs.length = n) (hm : ys.length = m) (h1 : IntsAt w ao xs) (h2 : IntsAt w bo ys) (hl1 : xs.length ≤ 20000000000000) (hl2 : ys.length ≤ 20000000000000) :
    Calls Try.prog 8 #[.slice ao n ac, .slice bo m bc] w (BoolPost (decide (xs = ys)) w) := by
  subst hn hm
  exact sameInts_any ao bo ac bc xs ys w h1 h2 hl1 hl2
set_option maxHeartbeats 400000 in
theorem known_any (w : World) : Calls Try.prog 5 #[] w (BoolPost true w) := by
  go_enter Try.func5, Try.ntmps5
  go_wp2_with fail
  refine (cand_n 8 4 1 1 5 _ _ _ [0, 0] _ rfl (by exact ints_two _ 0 0 _ (by first | rfl | simp)) (by decide)).mono ?_
  rintro e w1 ⟨hE1, hP⟩
  rw [cand5] at hP
  obtain ⟨ao, cap, rfl, hI⟩ := hP
  simp only [List.length_cons, List.length_nil, Nat.zero_add, Nat.reduceAdd]
  obtain ⟨hc1, hf1⟩ := bcellE hE1
  have hz1 : w.heap.size + 1 < w1.heap.size := by have := hE1.size; simp at this; omega
  have hz0 : w.heap.size < w1.heap.size := by omega
  have HE1 := Lib.hid hE1
  have HI := Lib.hid hI
  clear hE1 hI
  go_wp2_with fail
  refine (cand_n 8 4 1 1 9 _ _ _ [0, 0] _ rfl (ints_two w1 0 0 w1.heap.size rfl) (by decide)).mono ?_
  rintro e w2 ⟨hE2, hP⟩
  rw [cand9] at hP
  subst hP
  have HE2 := Lib.hid hE2
  clear hE2 hc1 hf1
  go_wp2_with fail
  refine (sameInts_n _ _ _ _ _ _ [1, 1] [1, 1] _ rfl rfl (((HI.out.ext (Ext.alloc _ _)).ext HE2.out).ext (Ext.alloc _ _)) (ints_two w2 1 1 w2.heap.size rfl) (by decide) (by decide)).mono ?_
  rintro e w3 ⟨rfl, hE3⟩
  have HE3 := Lib.hid hE3
  clear hE3
  go_wp2
  go_ret
  refine ⟨ret_bool (by decide), ?_⟩
  exact Ext.trans (Ext.alloc _ _) (Ext.trans (Ext.alloc _ _) (HE1.out.trans (Ext.trans (Ext.alloc _ _) (HE2.out.trans (Ext.trans (Ext.alloc _ _) HE3.out)))))
end Go.Proofs.Ytjgbckcepoahkaa
