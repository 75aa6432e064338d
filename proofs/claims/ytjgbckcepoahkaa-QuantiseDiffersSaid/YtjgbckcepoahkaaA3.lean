/- try -/
import Derived.Test.YtjgbckcepoahkaaA2
namespace Go.Proofs.Ytjgbckcepoahkaa
open Go.RowKit Go.Front
attribute [local go_sem] XW.cell XW.frozen
def fitsAll (x : Wd) (xs : List Int) : Bool := xs.all x.fits
theorem fitsAll_t {x : Wd} {xs : List Int} (h : ∀ m, m < xs.length → x.fits (xs.getD m 0) = true) : fitsAll x xs = true := by
  simp only [fitsAll, List.all_eq_true]
  intro v hv
  obtain ⟨m, hm, rfl⟩ := List.getElem_of_mem hv
  have := h m hm
  simpa [hm] using this
theorem fitsAll_f {x : Wd} {xs : List Int} {m : Nat} (hm : m < xs.length) (h : (!x.fits xs[m]) = true) : fitsAll x xs = false := by
  simp only [fitsAll, List.all_eq_false]
  exact ⟨xs[m], List.getElem_mem hm, by simpa using h⟩
theorem bcellE {W w1 : World} (hb : Ext W w1) : (∀ b o, b < W.heap.size → w1.cell? ⟨b, o, none⟩ = W.cell? ⟨b, o, none⟩) ∧ (∀ b o, b < W.heap.size → w1.frozen? ⟨b, o, none⟩ = W.frozen? ⟨b, o, none⟩) := bcell hb
abbrev scells (x : Wd) (most : Int) (fv : Value) (t : Int) (fd : Bool) : Array Value := #[.int .i64 x.b, .int .i64 x.f, .int .i64 x.r, .int .i64 x.o, .int .i64 most, fv, .int .i64 t, .bool fd]
abbrev cfun (Kb : Nat) : Value := .func (.func 14) #[] #[.pointer (some ⟨Kb, 0, none⟩)]
def SB (w : World) (B Kb : Nat) (x : Wd) (most t : Int) (fd : Bool) : Prop := w.heap[B]? = some (.cells (scells x most (cfun Kb) t fd) 38 (0, 0))
def TryPost (x : Wd) (most k t : Int) (fd : Bool) (B Kb : Nat) (xs : List Int) (w : World) (e : Ending) (w' : World) : Prop :=
  e = .returned (.bool (fitsAll x xs && t == k)) ∧ Mods (· = B) w w' ∧ SB w' B Kb x most (if fitsAll x xs then t + 1 else t) (if fitsAll x xs then t == k else fd)
theorem close_f {x : Wd} {most k t : Int} {fd : Bool} {B Kb : Nat} {xs : List Int} {w w' : World} (h : fitsAll x xs = false) (hB : SB w B Kb x most t fd) (he : Ext w w') :
    TryPost x most k t fd B Kb xs w (.returned (.bool false)) w' := by
  refine ⟨by rw [h]; rfl, Mods.of_ext he, ?_⟩
  rw [h]; exact he.block hB
theorem close_t {x : Wd} {most k t : Int} {fd : Bool} {B Kb : Nat} {xs : List Int} {w w' : World} (h : fitsAll x xs = true) (hB : SB w B Kb x most t fd) (he : Ext w w') :
    TryPost x most k t fd B Kb xs w (.returned (.bool (t == k))) ((w'.setCell ⟨B, 7, none⟩ (.bool (t == k))).setCell ⟨B, 6, none⟩ (.int .i64 (t + 1))) := by
  refine ⟨by rw [h]; rfl, ((Mods.of_ext he).trans (Mods.setCell _ ⟨B, 7, none⟩ _)).trans (Mods.setCell _ ⟨B, 6, none⟩ _), ?_⟩
  rw [h]
  exact blk_set (blk_set (he.block hB) 7 _) 6 _
set_option maxHeartbeats 400000 in
theorem acc_any (v : Value) (n k : Int) (Kb : Nat) (w : World) (hK : w.cell? ⟨Kb, 0, none⟩ = some (.int .i64 k)) :
    Calls Try.prog 14 #[v, .int .i64 n, .pointer (some ⟨Kb, 0, none⟩)] w fun e w' => e = .returned (.bool (n == k)) ∧ w = w' := by
  go_enter Try.func14, Try.ntmps14
  go_wp2
  all_goals go_ret
  all_goals exact ⟨rfl, rfl⟩
set_option maxHeartbeats 1000000 in
theorem try_any (x : Wd) (most k t : Int) (fd : Bool) (B Kb : Nat) (ao : Option Addr) (cap : Nat) (xs : List Int) (w : World)
    (hB : SB w B Kb x most t fd)
    (hK : w.cell? ⟨Kb, 0, none⟩ = some (.int .i64 k)) (hl : IntsAt w ao xs) (hlen : xs.length ≤ 100) (ht : 0 ≤ t) (ht2 : t < 1000000) (hm : t < most) :
    Calls Try.prog 24 #[.pointer (some ⟨B, 0, none⟩), .slice ao xs.length cap] w (TryPost x most k t fd B Kb xs w) := by
  have c0 := blk_cell hB 0
  have c1 := blk_cell hB 1
  have c2 := blk_cell hB 2
  have c3 := blk_cell hB 3
  have c4 := blk_cell hB 4
  have c5 := blk_cell hB 5
  have c6 := blk_cell hB 6
  have c7 := blk_cell hB 7
  have z6 := blk_frozen hB 6
  have z7 := blk_frozen hB 7
  simp only [scells, List.getElem?_toArray, List.getElem?_cons_zero, List.getElem?_cons_succ] at c0 c1 c2 c3 c4 c5 c6 c7
  have hBs : B < w.heap.size := (Array.getElem?_eq_some_iff.1 hB).1
  have HB := Lib.hid hB
  clear hB
  have HK := Lib.hid hK
  clear hK
  have HL := Lib.hid hl
  clear hl
  go_enter Try.func24, Try.ntmps24
  go_wp2
  go_loopw [9] (fun i wr => ∃ j : Nat, j ≤ xs.length ∧ i = .int .i64 j ∧ Ext w wr ∧ ∀ m, m < j → x.fits (xs.getD m 0) = true) (fun i _ => xs.length - (intOf i).toNat)
  case atStart => exact ⟨0, Nat.zero_le _, rfl, Ext.refl _, fun m hm => by omega⟩
  case round =>
    obtain ⟨j, hj, rfl, hext, hfit⟩ := hrel
    obtain ⟨hcE, hfE⟩ := bcellE hext
    have Hfit := Lib.hid hfit
    clear hfit
    by_cases hlt : j < xs.length
    · obtain ⟨b, off, hao, hc⟩ := HL.out.at hlt
      subst hao
      have hcj := hext.cell hc
      clear hc
      go_wp2_with (go_at_call 28; refine (fits_any _ _ _).mono ?_; rintro e w1 ⟨rfl, hb1⟩)
      · go_ret
        exact close_f (fitsAll_f hlt (by assumption)) HB.out (hext.trans hb1)
      · go_roundw
        case rel =>
          refine ⟨j + 1, by omega, by go_num, hext.trans hb1, fun m hm => ?_⟩
          rcases Nat.lt_or_ge m j with h | h
          · exact Hfit.out m h
          · obtain rfl : m = j := by omega
            have : (!x.fits xs[m]) = false := by assumption
            simpa [hlt] using this
        case measure => simp [intOf]; omega
    · have hfa : fitsAll x xs = true := fitsAll_t (fun m hm => Hfit.out m (by omega))
      have Hfa := Lib.hid hfa
      clear hfa
      have hne : ((t : Int) == most) = false := by simp; omega
      have hBr : B < wr.heap.size := by have := hext.size; omega
      have HKr := Lib.hid (hext.cell HK.out)
      go_wp2
      go_quiet (fail)
      go_wp2
      refine wp_region_front 11 (fun i => match i with
        | 10 => .spec Unit () (fun _ => .bool (t == k)) (fun _ _ => True)
        | _ => .quiet) (fun _ => []) (by kernel_rfl) (by kernel_rfl) (fun w0 he0 hz0 hc0 hf0 => ?_)
      simp only [List.take_succ_cons, List.take_zero]
      repeat (first
        | (refine wpF_nilCheck rfl rfl rfl rfl ?_; simp only [Act.put, List.setIfInBounds_toArray, List.set_cons_succ, List.set_cons_zero])
        | (refine wpF_quiet rfl rfl rfl (fun K hK => ?_); go_big_quiet_op; refine hK _ ?_; clear hK K))
      refine wpF_spec rfl rfl (fun w1 hw1 _ => ?_) (fun _ => ?_)
      · refine spec_callv #[.pointer (some ⟨Kb, 0, none⟩)] [_, .int .i64 t, .pointer (some ⟨Kb, 0, none⟩)] rfl rfl rfl Try.func14 (by kernel_rfl) (by kernel_rfl) ?_
        refine (acc_any _ t k Kb _ ?_).mono ?_
        · exact hw1.cell (he0.cell (by simpa using HKr.out))
        rintro e w' ⟨rfl, rfl⟩
        exact ⟨(), rfl, Ext.refl _, trivial⟩
      simp only [Act.put, List.setIfInBounds_toArray, List.set_cons_succ, List.set_cons_zero]
      refine wpF_nil ?_
      intro w' hI
      have hall : Ext w w' := ((hext.trans (Ext.drewN _ _)).trans he0).trans hI.ext
      clear hI
      have hB' := hall.block HB.out
      have d6 := blk_cell hB' 6
      have d7 := blk_cell hB' 7
      have y6 := blk_frozen hB' 6
      have y7 := blk_frozen hB' 7
      simp only [scells, List.getElem?_toArray, List.getElem?_cons_zero, List.getElem?_cons_succ] at d6 d7
      have Hall := Lib.hid hall
      clear hB' hc0 hf0 hz0 he0 hcE hfE hext hall
      simp only [List.drop_succ_cons, List.drop_zero]
      go_wp2
      go_ret
      exact close_t Hfa.out HB.out Hall.out
end Go.Proofs.Ytjgbckcepoahkaa
