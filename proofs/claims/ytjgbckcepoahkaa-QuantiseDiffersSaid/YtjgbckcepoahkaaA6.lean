/- Candidate -/
import Derived.Test.YtjgbckcepoahkaaA5
import Derived.Laws.EntriesVeiled
namespace Go.Proofs.Ytjgbckcepoahkaa
open Go.RowKit Go.Front
attribute [local go_sem] XW.cell XW.frozen
def candOk (x : Wd) (base : List Int) (k : Int) : Bool := x.valid && decide (base.length ≤ 49) && decide (0 ≤ k)
def candSpec (x : Wd) (base : List Int) (k : Int) : Option (List Int) := if candOk x base k then (srch x k (cands base) 0).2 else none
def CandPost (x : Wd) (base : List Int) (k : Int) (w : World) (e : Ending) (w' : World) : Prop :=
  Ext w w' ∧ match candSpec x base k with
    | none => e = .returned (.tuple #[.slice none 0 0, .bool false])
    | some c => ∃ ao cap, e = .returned (.tuple #[.slice ao c.length cap, .bool true]) ∧ IntsAt w' ao c
theorem cand_close_yes {x : Wd} {base c : List Int} {k : Int} {w w' : World} {ao : Option Addr} {cap : Nat} (hok : candOk x base k = true) (hr : (srch x k (cands base) 0).2 = some c) (hcl : c.length = base.length) (he : Ext w w') (hI : IntsAt w' ao c) :
    CandPost x base k w (.returned (.tuple #[.slice ao base.length cap, .bool true])) w' := by
  refine ⟨he, ?_⟩
  have : candSpec x base k = some c := by simp [candSpec, hok, hr]
  rw [this]
  exact ⟨ao, cap, by rw [hcl], hI⟩
theorem cand_close_none {x : Wd} {base : List Int} {k : Int} {w w' : World} (hok : candOk x base k = true) (hr : (srch x k (cands base) 0).2 = none) (he : Ext w w') :
    CandPost x base k w (.returned (.tuple #[.slice none 0 0, .bool false])) w' := by
  refine ⟨he, ?_⟩
  have : candSpec x base k = none := by simp [candSpec, hok, hr]
  rw [this]
theorem cand_close_no {x : Wd} {base : List Int} {k : Int} {w w' : World} (h : candOk x base k = false) (he : Ext w w') : CandPost x base k w (.returned (.tuple #[.slice none 0 0, .bool false])) w' := by
  refine ⟨he, ?_⟩
  have : candSpec x base k = none := by simp [candSpec, h]
  rw [this]
set_option maxHeartbeats 1000000 in
theorem cand_any (x : Wd) (k : Int) (bcap : Nat) (bo : Option Addr) (base : List Int) (w : World) (hl : IntsAt w bo base) (hlen : base.length ≤ 20000000000000) :
    Calls Try.prog 6 #[.slice bo base.length bcap, x.v, .int .i64 k] w (CandPost x base k w) := by
  have HL := Lib.hid hl
  clear hl
  by_cases hok : candOk x base k = true
  · have hok' := hok
    simp only [candOk, Bool.and_eq_true, decide_eq_true_eq] at hok'
    obtain ⟨⟨hv, h49⟩, hk⟩ := hok'
    have Hok := Lib.hid hok
    clear hok
    go_enter Try.func6, Try.ntmps6
    go_wp2_with (go_at_call 13; refine (valid_any _ _).mono ?_; rintro e w1 ⟨rfl, hb1⟩; rw [hv]; obtain ⟨hc1, hf1⟩ := bcell hb1; have hz1 : w.heap.size + 1 < w1.heap.size := by (have := hb1.size; simp at this; omega))
    have hE : Ext w w1 := Ext.trans (Ext.trans (Ext.alloc _ _) (Ext.alloc _ _)) hb1
    have hkc : w1.cell? ⟨w.heap.size + 1, 0, none⟩ = some (.int .i64 k) := by
      rw [hc1 _ _ (by simp)]
      exact cell_new2 _ _ _ _ _
    refine (run_any x _ k w1.heap.size (w.heap.size + 1) bcap bo base _ (heap_alloc_new w1 _) (by omega) ((Ext.alloc w1 _).cell hkc) ((HL.out.ext hE).ext (Ext.alloc _ _)) ?_ h49 (by decide)).mono ?_
    · intro hne p hp
      have h1 := IntsAt.lt HL.out hne p hp
      have h2 := hE.size
      exact ⟨by omega, by simp; omega⟩
    rintro e w2 ⟨hbel, hR⟩
    have hE2 := Lib.hid (Ext.of_below (Ext.trans hE (Ext.alloc w1 _)) hbel hE.size)
    clear hbel hkc hE hc1 hf1 hb1
    cases hr : (srch x k (cands base) 0).2 with
    | none =>
      simp only [hr] at hR
      subst hR
      have Hr := Lib.hid hr
      clear hr
      go_wp2
      go_ret2
      exact cand_close_none Hok.out Hr.out hE2.out
    | some c =>
      simp only [hr] at hR
      obtain ⟨L, lcap, m, rfl, hI, hcl⟩ := hR
      have Hr := Lib.hid hr
      have HI := Lib.hid hI
      have Hcl := Lib.hid hcl
      clear hr hI hcl
      go_wp2
      go_ret2
      exact cand_close_yes Hok.out Hr.out Hcl.out hE2.out HI.out
  · have hno : candOk x base k = false := by simpa using hok
    have Hno := Lib.hid hno
    clear hok
    simp only [candOk, Bool.and_eq_false_iff, decide_eq_false_iff_not] at hno
    go_enter Try.func6, Try.ntmps6
    go_wp2_with (go_at_call 13; refine (valid_any _ _).mono ?_; rintro e w1 ⟨rfl, hb1⟩; obtain ⟨hc1, hf1⟩ := bcell hb1; have hz1 : w.heap.size + 1 < w1.heap.size := by (have := hb1.size; simp at this; omega))
    all_goals first
      | (go_ret2; exact cand_close_no Hno.out (Ext.trans (Ext.trans (Ext.alloc _ _) (Ext.alloc _ _)) hb1))
      | (exfalso; simp_all; omega)
end Go.Proofs.Ytjgbckcepoahkaa
