/- The reference: Candidates, Candidate -/
import Derived.Test.YtjgbckcepoahkaaA8
namespace Go.Proofs.Ytjgbckcepoahkaa
open Go.RowKit Go.Front
attribute [local go_sem] XW.cell XW.frozen
/-- A list of lists that can be read. -/
def RowsAt (w : World) (v : Value) (rows : List (List Int)) : Prop := ∃ cells ao cap, v = .slice ao rows.length cap ∧ RowsC w cells rows ∧ (rows = [] ∨ ∃ g, ao = some ⟨g, 0, none⟩ ∧ ∀ k, k < rows.length → w.cell? ⟨g, k, none⟩ = cells[k]?)
theorem OwnR.rows {W w : World} {v : Value} {rows : List (List Int)} (h : OwnR W w v rows) : RowsAt w v rows := by
  obtain ⟨cells, h1, h2, h3⟩ := h
  have h1' := h1
  rcases h1.2 with ⟨rfl, hnil⟩ | ⟨g, cap, cur, rfl, _⟩
  · have hr : rows = [] := List.length_eq_zero_iff.1 hnil
    subst hr
    exact ⟨[], none, 0, rfl, ⟨rfl, fun k hk => by simp at hk⟩, Or.inl rfl⟩
  · exact ⟨cells, some ⟨g, 0, none⟩, cap, rfl, h2, Or.inr ⟨g, rfl, fun k hk => h1'.cellAt k (by omega)⟩⟩
def CsPost (x : Wd) (base : List Int) (most : Nat) (w : World) (e : Ending) (w' : World) : Prop := ∃ v rows, e = .returned v ∧ RowsAt w' v rows ∧ Ext w w' ∧ (∃ ii, rows = ((cands base).take ii).filter (fitsAll x) ∧ ((cands base).length ≤ ii ∨ rows.length = most)) ∧ rows.length ≤ 10000
theorem take_filter_yes {x : Wd} {L : List (List Int)} {i : Nat} (hi : i < L.length) (h : fitsAll x (L.getD i []) = true) : (L.take (i + 1)).filter (fitsAll x) = (L.take i).filter (fitsAll x) ++ [L.getD i []] := by
  rw [List.take_succ_eq_append_getElem hi, List.filter_append]
  simp [hi] at h
  simp [h, hi]
theorem take_filter_no {x : Wd} {L : List (List Int)} {i : Nat} (hi : i < L.length) (h : fitsAll x (L.getD i []) = false) : (L.take (i + 1)).filter (fitsAll x) = (L.take i).filter (fitsAll x) := by
  rw [List.take_succ_eq_append_getElem hi, List.filter_append]
  simp [hi] at h
  simp [h]
set_option maxHeartbeats 2000000 in
theorem candidates_any (x : Wd) (bo : Option Addr) (bcap : Nat) (base : List Int) (most : Nat) (w : World) (hl : IntsAt w bo base) (hlen : base.length ≤ 49) :
    Calls Try.prog 17 #[.slice bo base.length bcap, x.v, .int .i64 most] w (CsPost x base most w) := by
  have HL := Lib.hid hl
  clear hl
  have hcnt : (cands base).length ≤ 10000 := by
    have := pairs_bd hlen
    simp only [cands, List.length_cons, List.length_append, singles_len]; omega
  go_enter Try.func17, Try.ntmps17
  go_wp2_with fail
  refine (all_any bo bcap base _ (HL.out.ext (Ext.alloc _ _)) hlen).mono ?_
  rintro e w1 ⟨vl, rfl, hO⟩
  have hE1 : Ext (w.alloc (.cells #[.int .i64 x.b, .int .i64 x.f, .int .i64 x.r, .int .i64 x.o] 24)) w1 := by obtain ⟨_, _, _, h⟩ := hO; exact h
  obtain ⟨cells, ao, cap, rfl, hC, hR⟩ := hO.rows
  have hmem := cands_mem base
  obtain ⟨L, hL⟩ : ∃ L, L = cands base := ⟨_, rfl⟩
  rw [← hL] at hC hR hcnt hmem hO ⊢
  have hLpos : L ≠ [] := by rw [hL]; simp [cands]
  have HLe := Lib.hid hL
  clear hL
  obtain ⟨g, hao, hcell⟩ := hR.resolve_left hLpos
  subst hao
  have HC := Lib.hid hC
  have Hcell := Lib.hid hcell
  have Hmem := Lib.hid hmem
  obtain ⟨hcE, hfE⟩ := bcellE hE1
  have hz : w.heap.size < w1.heap.size := by have := hE1.size; simp at this; omega
  have HE1 := Lib.hid hE1
  have hgb : g < w1.heap.size := by
    have := hcell 0 (List.length_pos_iff.2 hLpos)
    obtain ⟨L0, c0, re0, h1, _⟩ := hC.2 0 (List.length_pos_iff.2 hLpos)
    rw [h1] at this
    exact World.block_lt_of_cell? _ _ this
  clear hC hcell hmem hO hE1 hLpos
  have cb0 : w1.cell? ⟨w.heap.size, 0, none⟩ = some (.int .i64 x.b) := by rw [hcE _ _ (by simp)]; exact cell_new1 _ _ _ _
  have cb1 : w1.cell? ⟨w.heap.size, 1, none⟩ = some (.int .i64 x.f) := by rw [hcE _ _ (by simp)]; exact cell_new1 _ _ _ _
  have cb2 : w1.cell? ⟨w.heap.size, 2, none⟩ = some (.int .i64 x.r) := by rw [hcE _ _ (by simp)]; exact cell_new1 _ _ _ _
  have cb3 : w1.cell? ⟨w.heap.size, 3, none⟩ = some (.int .i64 x.o) := by rw [hcE _ _ (by simp)]; exact cell_new1 _ _ _ _
  clear hcE hfE
  go_wp2
  go_loopg [7, 9] L.length (fun gg v i wr => ∃ (ii : Nat) (rows : List (List Int)) (vo : Option Addr) (vc : Nat), ii + gg = L.length ∧ i = .int .i64 ii ∧ v = .slice vo rows.length vc ∧ OwnR w1 wr v rows ∧ rows = (L.take ii).filter (fitsAll x) ∧ rows.length ≤ most)
  case atStart => exact ⟨0, [], none, 0, by omega, rfl, rfl, ⟨[], World.ownsRow_nil _ _ _ _, ⟨rfl, fun k hk => by simp at hk⟩, Ext.refl _⟩, rfl, Nat.zero_le _⟩
  case round =>
    obtain ⟨i, rows, vo, vc, hig, rfl, rfl, hO, hrows, hle⟩ := hrel
    have hrl : rows.length ≤ 10000 := by
      rw [hrows]
      refine Nat.le_trans (List.length_filter_le _ _) ?_
      simp
      omega
    have HO := Lib.hid hO
    have Hrows := Lib.hid hrows
    have Hig := Lib.hid hig
    have hext : Ext w1 wr := by obtain ⟨_, _, _, h⟩ := hO; exact h
    obtain ⟨hcE, hfE⟩ := bcellE hext
    have hz2 : w.heap.size < wr.heap.size := by have := hext.size; omega
    have hz3 : g < wr.heap.size := by have := hext.size; omega
    clear hO hrows
    by_cases hi : i < L.length
    · obtain ⟨g1, rfl⟩ : ∃ g1, gk = g1 + 1 := ⟨gk - 1, by omega⟩
      clear hig
      by_cases hlt : rows.length < most
      · obtain ⟨Lk, ck, rek, hck, hlb⟩ := HC.out.2 i hi
        have hcg : w1.cell? ⟨g, i, none⟩ = some (.slice (some ⟨Lk, 0, none⟩) (L.getD i []).length ck) := by
          rw [Hcell.out i hi, hck]
        have hlk0 : (L.getD i []).length ≤ 10000 := by
          have := Hmem.out (L.getD i []) (by simp [hi])
          omega
        obtain ⟨r, hr⟩ : ∃ r, r = L.getD i [] := ⟨_, rfl⟩
        rw [← hr] at hcg hlk0 hlb
        have Hr := Lib.hid hr
        have hlbk := Lib.hid hlb
        have hlk := Lib.hid hlk0
        clear hr hlk0
        have hIi : (i : Int) < L.length := by omega
        have hIr : (rows.length : Int) < most := by omega
        clear hck hlb
        cases hb : fitsAll x r with
        | true =>
          have Hb := Lib.hid hb
          clear hb
          go_wp2
          refine wp_region_front 6 (fun i => match i with
            | 5 => .spec Unit () (fun _ => .bool true) (fun _ _ => True)
            | _ => .quiet) (fun _ => []) (by kernel_rfl) (by kernel_rfl) (fun w0 he0 hz0 hc0 hf0 => ?_)
          simp only [List.take_succ_cons, List.take_zero]
          repeat (refine wpF_quiet rfl rfl rfl (fun K hK => ?_); go_big_quiet_op; refine hK _ ?_; clear hK K)
          refine wpF_spec rfl rfl (fun w1 hw1 hG => ?_) (fun _ => ?_)
          · refine spec_call [x.v, .slice (some ⟨Lk, 0, none⟩) r.length ck] rfl rfl Try.func27 (by kernel_rfl) (by kernel_rfl) ?_
            refine (words_any x _ _ r _ (((hlbk.out.ext hext).ints.ext he0).ext hw1) hlk.out).mono ?_
            rintro e w' ⟨rfl, hb⟩
            exact ⟨(), by rw [Hb.out], hb, trivial⟩
          simp only [Act.put, List.setIfInBounds_toArray, List.set_cons_succ, List.set_cons_zero]
          repeat (refine wpF_quiet rfl rfl rfl (fun K hK => ?_); go_big_quiet_op; refine hK _ ?_; clear hK K)
          refine wpF_nil ?_
          intro w' hI
          have hx := Lib.hid (he0.trans hI.ext)
          clear hI he0 hz0 hc0 hf0
          simp only [List.drop_succ_cons, List.drop_nil]
          have hcg2 := hx.out.cell (hext.cell hcg)
          have Hext := Lib.hid hext
          clear hext hcE hfE
          go_wp2_with (at_builtin; refine wpList_append_rows rfl (.tmp 30) (.tmp 35) rfl w1 _ rows rfl ((HO.out.ext hx.out).ext (Ext.alloc _ _)) w'.heap.size 1 1 _ [r] rfl rfl (heap_alloc_new w' _) (RowsC.one (((hlbk.out.ext Hext.out).ext hx.out).ext (Ext.alloc _ _))) (by omega) ?_; intro v' w4 hO5)
          obtain ⟨cl5, a5, c5, hv5, _, _⟩ := hO5.rows
          subst hv5
          have HO5 := Lib.hid hO5
          clear hO5
          go_roundg g1
          case measure => omega
          case rel =>
            refine ⟨i + 1, rows ++ [r], a5, c5, by have := Hig.out; omega, by go_num, rfl, HO5.out, ?_, by simp; omega⟩
            rw [take_filter_yes hi (Hr.out ▸ Hb.out), ← Hrows.out, Hr.out]
        | false =>
          have Hb := Lib.hid hb
          clear hb
          go_wp2
          refine wp_region_front 6 (fun i => match i with
            | 5 => .spec Unit () (fun _ => .bool false) (fun _ _ => True)
            | _ => .quiet) (fun _ => []) (by kernel_rfl) (by kernel_rfl) (fun w0 he0 hz0 hc0 hf0 => ?_)
          simp only [List.take_succ_cons, List.take_zero]
          repeat (refine wpF_quiet rfl rfl rfl (fun K hK => ?_); go_big_quiet_op; refine hK _ ?_; clear hK K)
          refine wpF_spec rfl rfl (fun w1 hw1 hG => ?_) (fun _ => ?_)
          · refine spec_call [x.v, .slice (some ⟨Lk, 0, none⟩) r.length ck] rfl rfl Try.func27 (by kernel_rfl) (by kernel_rfl) ?_
            refine (words_any x _ _ r _ (((hlbk.out.ext hext).ints.ext he0).ext hw1) hlk.out).mono ?_
            rintro e w' ⟨rfl, hb⟩
            exact ⟨(), by rw [Hb.out], hb, trivial⟩
          simp only [Act.put, List.setIfInBounds_toArray, List.set_cons_succ, List.set_cons_zero]
          repeat (refine wpF_quiet rfl rfl rfl (fun K hK => ?_); go_big_quiet_op; refine hK _ ?_; clear hK K)
          refine wpF_nil ?_
          intro w' hI
          have hx := Lib.hid (he0.trans hI.ext)
          clear hI he0 hz0 hc0 hf0
          simp only [List.drop_succ_cons, List.drop_nil]
          go_wp2
          go_roundg g1
          case measure => omega
          case rel =>
            refine ⟨i + 1, rows, vo, vc, by have := Hig.out; omega, by go_num, rfl, HO.out.ext hx.out, ?_, hle⟩
            rw [take_filter_no hi (Hr.out ▸ Hb.out), ← Hrows.out]
      · have hIr : ¬ (rows.length : Int) < most := by omega
        go_wp2
        go_ret
        refine ⟨_, rows, rfl, HO.out.rows, Ext.trans (Ext.alloc _ _) (HE1.out.trans hext), ⟨i, ?_, Or.inr (by omega)⟩, hrl⟩
        rw [← HLe.out]; exact Hrows.out
    · go_wp2
      go_ret
      refine ⟨_, rows, rfl, HO.out.rows, Ext.trans (Ext.alloc _ _) (HE1.out.trans hext), ⟨i, ?_, Or.inl ?_⟩, hrl⟩
      · rw [← HLe.out]; exact Hrows.out
      · rw [← HLe.out]; omega
end Go.Proofs.Ytjgbckcepoahkaa
