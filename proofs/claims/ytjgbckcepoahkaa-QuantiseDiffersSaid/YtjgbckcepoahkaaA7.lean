/- The reference: changed, Words, SameInts -/
import Derived.Test.YtjgbckcepoahkaaA6
namespace Go.Proofs.Ytjgbckcepoahkaa
open Go.RowKit Go.Front
attribute [local go_sem] XW.cell XW.frozen
def chd (base : List Int) (i xx j y : Int) : List Int :=
  let b1 := if 0 ≤ i then base.set i.toNat (wrap64 (base.getD i.toNat 0 + xx)) else base
  if 0 ≤ j then b1.set j.toNat (wrap64 (b1.getD j.toNat 0 + y)) else b1
theorem chd_len (base : List Int) (i xx j y : Int) : (chd base i xx j y).length = base.length := by
  unfold chd; dsimp only; split <;> split <;> simp
def ChPost (r : List Int) (w : World) (e : Ending) (w' : World) : Prop := Ext w w' ∧ ∃ L lcap re, e = .returned (.slice (some ⟨L, 0, none⟩) r.length lcap) ∧ LB w' L r re
theorem Ext.own {w w1 w' : World} (h1 : Ext w w1) {L : Nat} (hL : w.heap.size ≤ L) (h : Mods (· = L) w1 w') : Ext w w' :=
  ⟨h.os.trans h1.os, h.tape.trans h1.tape, h.output.trans h1.output, Nat.le_trans h1.size h.size, fun k hk => (h.block k (Nat.lt_of_lt_of_le hk h1.size) (by intro e; subst e; omega)).trans (Below.block h1 k hk)⟩
theorem Mods.set2o (w : World) (L i j : Nat) (u v : Value) : Mods (· = L) w ((w.setCell ⟨L, i, none⟩ u).setCell ⟨L, j, none⟩ v) :=
  (Mods.setCell w ⟨L, i, none⟩ u).trans (Mods.setCell _ ⟨L, j, none⟩ v)
theorem ch_close {base r : List Int} {w w1 w2 : World} {L lcap : Nat} {re : Array Value} (hL : w.heap.size ≤ L) (h3 : Below w.heap.size (w.alloc (.cells #[] 3)) w1) (hm : Mods (· = L) w1 w2) (hlb : LB w2 L r re) (hr : r.length = base.length) :
    ChPost r w (.returned (.slice (some ⟨L, 0, none⟩) base.length lcap)) w2 :=
  ⟨Ext.own (Ext.of_below (Ext.alloc _ _) h3 (Nat.le_refl _)) hL hm, L, lcap, re, by rw [hr], hlb⟩
set_option maxHeartbeats 1000000 in
theorem changed_any (bo : Option Addr) (bcap : Nat) (base : List Int) (i xx j y : Int) (w : World) (hl : IntsAt w bo base) (hlen : base.length ≤ 10000) (hi : i < base.length) (hj : j < base.length) (hij : 0 ≤ i → i ≠ j) :
    Calls Try.prog 29 #[.slice bo base.length bcap, .int .i64 i, .int .i64 xx, .int .i64 j, .int .i64 y] w (ChPost (chd base i xx j y) w) := by
  obtain ⟨i0, hi0, hz0, hz1, hz2⟩ := info_parts Try.info3
  have HL := Lib.hid hl
  have Hlen := Lib.hid (chd_len base i xx j y)
  clear hl
  by_cases h1 : 0 ≤ i
  · have hij' := hij h1
    have hti : i.toNat < base.length := by omega
    clear hij
    by_cases h2 : 0 ≤ j
    · have htj : j.toNat < base.length := by omega
      have hne : i.toNat ≠ j.toNat := by omega
      have Hsp : Hid (chd base i xx j y = (base.set i.toNat (wrap64 (base[i.toNat] + xx))).set j.toNat (wrap64 (base[j.toNat] + y))) := by
        show chd base i xx j y = _
        unfold chd
        simp [h1, h2, hti, htj, hne]
      go_enter Try.func29, Try.ntmps29
      go_wp2_with (first
        | (at_builtin; refine wpList_append_base rfl (.tmp 12) (.tmp 13) 22 rfl i0 Try.underlying22 hi0 hz0 hz1 hz2 w.heap.size base bo base.length bcap rfl (heap_alloc_new w _) w.heap.size (Nat.le_refl _) rfl rfl (HL.out.ext (Ext.alloc _ _)) (by omega) ?_; intro L lcap re w1 hL1 hL2 hL3; have ci := hL2.cell hti; have cj := hL2.cell htj; have fi := blk_frozen hL2 i.toNat; have fj := blk_frozen hL2 j.toNat; have hlb := Lib.hid hL2; clear hL2)
        | fail)
      go_ret
      rw [Hsp.out]
      exact ch_close hL1 hL3 (Mods.set2o _ _ _ _ _ _) ((hlb.out.set hti _).set (by simpa using htj) _) (by simp)
    · have Hsp : Hid (chd base i xx j y = base.set i.toNat (wrap64 (base[i.toNat] + xx))) := by
        show chd base i xx j y = _
        unfold chd
        simp [h1, h2, hti]
      go_enter Try.func29, Try.ntmps29
      go_wp2_with (first
        | (at_builtin; refine wpList_append_base rfl (.tmp 12) (.tmp 13) 22 rfl i0 Try.underlying22 hi0 hz0 hz1 hz2 w.heap.size base bo base.length bcap rfl (heap_alloc_new w _) w.heap.size (Nat.le_refl _) rfl rfl (HL.out.ext (Ext.alloc _ _)) (by omega) ?_; intro L lcap re w1 hL1 hL2 hL3; have ci := hL2.cell hti; have fi := blk_frozen hL2 i.toNat; have hlb := Lib.hid hL2; clear hL2)
        | fail)
      go_ret
      rw [Hsp.out]
      exact ch_close hL1 hL3 (Mods.setCell _ ⟨L, _, none⟩ _) (hlb.out.set hti _) (by simp)
  · by_cases h2 : 0 ≤ j
    · have htj : j.toNat < base.length := by omega
      have Hsp : Hid (chd base i xx j y = base.set j.toNat (wrap64 (base[j.toNat] + y))) := by
        show chd base i xx j y = _
        unfold chd
        simp [h1, h2, htj]
      go_enter Try.func29, Try.ntmps29
      go_wp2_with (first
        | (at_builtin; refine wpList_append_base rfl (.tmp 12) (.tmp 13) 22 rfl i0 Try.underlying22 hi0 hz0 hz1 hz2 w.heap.size base bo base.length bcap rfl (heap_alloc_new w _) w.heap.size (Nat.le_refl _) rfl rfl (HL.out.ext (Ext.alloc _ _)) (by omega) ?_; intro L lcap re w1 hL1 hL2 hL3; have cj := hL2.cell htj; have fj := blk_frozen hL2 j.toNat; have hlb := Lib.hid hL2; clear hL2)
        | fail)
      go_ret
      rw [Hsp.out]
      exact ch_close hL1 hL3 (Mods.setCell _ ⟨L, _, none⟩ _) (hlb.out.set htj _) (by simp)
    · have Hsp : Hid (chd base i xx j y = base) := by
        show chd base i xx j y = _
        unfold chd
        simp [h1, h2]
      go_enter Try.func29, Try.ntmps29
      go_wp2_with (first
        | (at_builtin; refine wpList_append_base rfl (.tmp 12) (.tmp 13) 22 rfl i0 Try.underlying22 hi0 hz0 hz1 hz2 w.heap.size base bo base.length bcap rfl (heap_alloc_new w _) w.heap.size (Nat.le_refl _) rfl rfl (HL.out.ext (Ext.alloc _ _)) (by omega) ?_; intro L lcap re w1 hL1 hL2 hL3; have hlb := Lib.hid hL2; clear hL2)
        | fail)
      go_ret
      rw [Hsp.out]
      exact ch_close hL1 hL3 (Mods.refl _ _) hlb.out rfl

def BoolPost (b : Bool) (w : World) (e : Ending) (w' : World) : Prop := e = .returned (.bool b) ∧ Ext w w'
set_option maxHeartbeats 1000000 in
theorem words_any (x : Wd) (ao : Option Addr) (cap : Nat) (xs : List Int) (w : World) (hl : IntsAt w ao xs) (hlen : xs.length ≤ 10000) :
    Calls Try.prog 27 #[x.v, .slice ao xs.length cap] w (BoolPost (fitsAll x xs) w) := by
  have HL := Lib.hid hl
  clear hl
  go_enter Try.func27, Try.ntmps27
  go_wp2
  go_loopg [5] xs.length (fun g i wr => ∃ j : Nat, j + g = xs.length ∧ i = .int .i64 j ∧ Ext (w.alloc (.cells #[.int .i64 x.b, .int .i64 x.f, .int .i64 x.r, .int .i64 x.o] 24)) wr ∧ ∀ m, m < j → x.fits (xs.getD m 0) = true)
  case atStart => exact ⟨0, by omega, rfl, Ext.refl _, fun m hm => by omega⟩
  case round =>
    obtain ⟨j, hj, rfl, hext, hfit⟩ := hrel
    obtain ⟨hcE, hfE⟩ := bcellE hext
    have hz : w.heap.size < wr.heap.size := by have := hext.size; simp at this; omega
    have Hfit := Lib.hid hfit
    have Hj := Lib.hid hj
    clear hfit
    by_cases hlt : j < xs.length
    · obtain ⟨g1, rfl⟩ : ∃ g1, gk = g1 + 1 := ⟨gk - 1, by omega⟩
      clear hj
      obtain ⟨b, off, hao, hc⟩ := HL.out.at hlt
      subst hao
      have hcj := hext.cell ((Ext.alloc _ _).cell hc)
      have hbl : b < wr.heap.size := World.block_lt_of_cell? _ _ hcj
      have hltI : (j : Int) < xs.length := by omega
      clear hc
      cases hb : x.fits xs[j] with
      | false =>
        have Hb := Lib.hid hb
        clear hb
        go_wp2
        refine wp_region_front 7 (fun i => match i with
          | 5 => .spec Unit () (fun _ => .bool false) (fun _ _ => True)
          | _ => .quiet) (fun _ => []) (by kernel_rfl) (by kernel_rfl) (fun w0 he0 hz0 hc0 hf0 => ?_)
        simp only [List.take_succ_cons, List.take_zero]
        repeat (refine wpF_quiet rfl rfl rfl (fun K hK => ?_); go_big_quiet_op; refine hK _ ?_; clear hK K)
        refine wpF_spec rfl rfl (fun w1 hw1 hG => ?_) (fun _ => ?_)
        · refine spec_call [x.v, .int .i64 xs[j]] rfl rfl Try.func12 (by kernel_rfl) (by kernel_rfl) ?_
          refine (refFits_any x _ _).mono ?_
          rintro e w' ⟨rfl, hb⟩
          exact ⟨(), by rw [Hb.out], hb, trivial⟩
        simp only [Act.put, List.setIfInBounds_toArray, List.set_cons_succ, List.set_cons_zero]
        repeat (refine wpF_quiet rfl rfl rfl (fun K hK => ?_); go_big_quiet_op; refine hK _ ?_; clear hK K)
        refine wpF_nil ?_
        intro w' hI
        have hx := Lib.hid (hext.trans (he0.trans hI.ext))
        clear hI he0 hz0 hc0 hf0 hcE hfE hext
        simp only [List.drop_succ_cons, List.drop_nil]
        go_wp2
        go_ret
        exact ⟨ret_bool (fitsAll_f hlt (by rw [Hb.out]; rfl)).symm, Ext.trans (Ext.alloc _ _) hx.out⟩
      | true =>
        have Hb := Lib.hid hb
        clear hb
        go_wp2
        refine wp_region_front 7 (fun i => match i with
          | 5 => .spec Unit () (fun _ => .bool true) (fun _ _ => True)
          | _ => .quiet) (fun _ => []) (by kernel_rfl) (by kernel_rfl) (fun w0 he0 hz0 hc0 hf0 => ?_)
        simp only [List.take_succ_cons, List.take_zero]
        repeat (refine wpF_quiet rfl rfl rfl (fun K hK => ?_); go_big_quiet_op; refine hK _ ?_; clear hK K)
        refine wpF_spec rfl rfl (fun w1 hw1 hG => ?_) (fun _ => ?_)
        · refine spec_call [x.v, .int .i64 xs[j]] rfl rfl Try.func12 (by kernel_rfl) (by kernel_rfl) ?_
          refine (refFits_any x _ _).mono ?_
          rintro e w' ⟨rfl, hb⟩
          exact ⟨(), by rw [Hb.out], hb, trivial⟩
        simp only [Act.put, List.setIfInBounds_toArray, List.set_cons_succ, List.set_cons_zero]
        repeat (refine wpF_quiet rfl rfl rfl (fun K hK => ?_); go_big_quiet_op; refine hK _ ?_; clear hK K)
        refine wpF_nil ?_
        intro w' hI
        have hx := Lib.hid (hext.trans (he0.trans hI.ext))
        clear hI he0 hz0 hc0 hf0 hcE hfE hext
        simp only [List.drop_succ_cons, List.drop_nil]
        go_wp2
        go_roundg g1
        case measure => omega
        case rel =>
          refine ⟨j + 1, by have := Hj.out; omega, by go_num, hx.out, fun m hm => ?_⟩
          rcases Nat.lt_or_ge m j with h | h
          · exact Hfit.out m h
          · obtain rfl : m = j := by omega
            simpa [hlt] using Hb.out
    · have hfa := Lib.hid (fitsAll_t (fun m hm => Hfit.out m (by omega)))
      go_wp2
      go_ret
      exact ⟨ret_bool hfa.out.symm, Ext.trans (Ext.alloc _ _) hext⟩

set_option maxHeartbeats 1000000 in
theorem sameInts_any (ao bo : Option Addr) (ac bc : Nat) (xs ys : List Int) (w : World) (h1 : IntsAt w ao xs) (h2 : IntsAt w bo ys) (hl1 : xs.length ≤ 20000000000000) (hl2 : ys.length ≤ 20000000000000) :
    Calls Try.prog 8 #[.slice ao xs.length ac, .slice bo ys.length bc] w (BoolPost (decide (xs = ys)) w) := by
  have H1 := Lib.hid h1
  have H2 := Lib.hid h2
  clear h1 h2
  by_cases hle : xs.length = ys.length
  · have hne : (((xs.length : Int)) != (ys.length : Int)) = false := by simp; omega
    have Hle := Lib.hid hle
    clear hle
    go_enter Try.func8, Try.ntmps8
    go_wp2
    go_loopg [5] xs.length (fun g i wr => ∃ j : Nat, j + g = xs.length ∧ i = .int .i64 j ∧ Ext w wr ∧ ∀ m, m < j → xs.getD m 0 = ys.getD m 0)
    case atStart => exact ⟨0, by omega, rfl, Ext.refl _, fun m hm => by omega⟩
    case round =>
      obtain ⟨j, hj, rfl, hext, hsame⟩ := hrel
      have Hs := Lib.hid hsame
      have Hj := Lib.hid hj
      clear hsame
      by_cases hlt : j < xs.length
      · obtain ⟨g1, rfl⟩ : ∃ g1, gk = g1 + 1 := ⟨gk - 1, by omega⟩
        clear hj
        have hlt2 : j < ys.length := by have := Hle.out; omega
        obtain ⟨a, aoff, hao, hca⟩ := H1.out.at hlt
        obtain ⟨b, boff, hbo, hcb⟩ := H2.out.at hlt2
        subst hao hbo
        have ca := hext.cell hca
        have cb := hext.cell hcb
        have hltI : (j : Int) < xs.length := by omega
        have hltJ : (j : Int) < ys.length := by omega
        clear hca hcb
        by_cases he : xs[j] = ys[j]
        · have he' : (xs[j] != ys[j]) = false := by simp [he]
          have He := Lib.hid he
          clear he
          go_wp2
          go_quiet (fail)
          go_wp2
          go_roundg g1
          case measure => omega
          case rel =>
            refine ⟨j + 1, by have := Hj.out; omega, by go_num, hext.trans (Ext.drewN _ _), fun m hm => ?_⟩
            rcases Nat.lt_or_ge m j with h | h
            · exact Hs.out m h
            · obtain rfl : m = j := by omega
              simpa [hlt, hlt2] using He.out
        · have he' : (xs[j] != ys[j]) = true := by simp [he]
          have He := Lib.hid he
          clear he
          go_wp2
          go_quiet (fail)
          go_wp2
          go_ret
          refine ⟨ret_bool ?_, hext.trans (Ext.drewN _ _)⟩
          have : xs ≠ ys := fun h => He.out (by subst h; rfl)
          simp [this]
      · have hfa : xs = ys := by
          apply List.ext_getElem? 
          intro m
          by_cases hm : m < xs.length
          · have := Hs.out m (by omega)
            have hm2 : m < ys.length := by have := Hle.out; omega
            simp [hm, hm2] at this
            simp [hm, hm2, this]
          · have hm2 : ¬ m < ys.length := by have := Hle.out; omega
            simp [Nat.le_of_not_lt hm, Nat.le_of_not_lt hm2]
        have Hfa := Lib.hid hfa
        clear hfa
        go_wp2
        go_ret
        exact ⟨ret_bool (by simp [Hfa.out]), hext⟩
  · have hne : (((xs.length : Int)) != (ys.length : Int)) = true := by simp; omega
    have Hle := Lib.hid hle
    clear hle
    go_enter Try.func8, Try.ntmps8
    go_wp2
    go_ret
    refine ⟨ret_bool ?_, Ext.refl _⟩
    have : xs ≠ ys := fun h => Hle.out (by rw [h])
    simp [this]
end Go.Proofs.Ytjgbckcepoahkaa
