/- The reference: all, Candidates, Candidate -/
import Derived.Test.YtjgbckcepoahkaaA7
namespace Go.Proofs.Ytjgbckcepoahkaa
open Go.RowKit Go.Front
attribute [local go_sem] XW.cell XW.frozen
theorem Try.info22 : (Try.prog.info? 22).map (fun i => (i.zero, i.size, i.bytes)) = some (some (.slice none 0 0), 1, 24) := by kernel_rfl
theorem LB.ext {w w' : World} {L : Nat} {r : List Int} {re : Array Value} (h : LB w L r re) (he : Ext w w') : LB w' L r re := he.block h
theorem Ext.grownBy {w w' : World} (h : Ext w w') (row : Option Nat) : w.grownBy w' row := ⟨h.os, h.tape, h.output, Below.size h, fun k hk _ => Below.block h k hk⟩
/-- The cells of a list of lists. -/
def RowsC (w : World) (cells : List Value) (rows : List (List Int)) : Prop :=
  cells.length = rows.length ∧ ∀ k, k < rows.length → ∃ L c re, cells[k]? = some (.slice (some ⟨L, 0, none⟩) (rows.getD k []).length c) ∧ LB w L (rows.getD k []) re
theorem RowsC.ext {w w' : World} {cells : List Value} {rows : List (List Int)} (h : RowsC w cells rows) (he : Ext w w') : RowsC w' cells rows :=
  ⟨h.1, fun k hk => let ⟨L, c, re, h1, h2⟩ := h.2 k hk; ⟨L, c, re, h1, h2.ext he⟩⟩
theorem RowsC.app {w : World} {c1 c2 : List Value} {r1 r2 : List (List Int)} (h1 : RowsC w c1 r1) (h2 : RowsC w c2 r2) : RowsC w (c1 ++ c2) (r1 ++ r2) := by
  refine ⟨by simp [h1.1, h2.1], fun k hk => ?_⟩
  simp only [List.length_append] at hk
  rcases Nat.lt_or_ge k r1.length with h | h
  · obtain ⟨L, c, re, g1, g2⟩ := h1.2 k h
    refine ⟨L, c, re, ?_, ?_⟩
    · rw [List.getElem?_append_left (by rw [h1.1]; exact h), g1]; simp [List.getElem?_append_left h]
    · simpa [List.getElem?_append_left h] using g2
  · obtain ⟨L, c, re, g1, g2⟩ := h2.2 (k - r1.length) (by omega)
    refine ⟨L, c, re, ?_, ?_⟩
    · rw [List.getElem?_append_right (by rw [h1.1]; exact h), h1.1, g1]; simp [List.getElem?_append_right h]
    · simpa [List.getElem?_append_right h] using g2
theorem RowsC.one {w : World} {L c : Nat} {re : Array Value} {r : List Int} (h : LB w L r re) : RowsC w [.slice (some ⟨L, 0, none⟩) r.length c] [r] := by
  refine ⟨rfl, fun k hk => ?_⟩
  obtain rfl : k = 0 := by simpa using hk
  exact ⟨L, c, re, rfl, h⟩
theorem RowsC.grown {w w' : World} {cells : List Value} {rows : List (List Int)} {g : Option Nat} (h : RowsC w cells rows) (hg : w.grownBy w' g) (hty : ∀ b, g = some b → ∃ cs fz, w.heap[b]? = some (.cells cs 22 fz)) : RowsC w' cells rows := by
  refine ⟨h.1, fun k hk => ?_⟩
  obtain ⟨L, c, re, h1, h2⟩ := h.2 k hk
  refine ⟨L, c, re, h1, ?_⟩
  unfold LB at *
  rw [hg.block L (Array.getElem?_eq_some_iff.1 h2).1 ?_]
  · exact h2
  · intro e
    obtain ⟨cs, fz, h3⟩ := hty L e.symm
    rw [h2] at h3
    simp at h3
theorem own_type {w : World} {base : Nat} {v : Value} {n : Nat} {xs : List Value} (h : w.ownsRow base 22 1 v n xs) : ∀ b, v.ownBlock = some b → ∃ cs fz, w.heap[b]? = some (.cells cs 22 fz) := by
  intro b hb
  rcases h.2 with ⟨rfl, _⟩ | ⟨g, cap, cur, rfl, _, hg, _⟩
  · simp [Value.ownBlock] at hb
  · simp [Value.ownBlock] at hb; subst hb; exact ⟨_, _, hg⟩
/-- out owns the lists rows. -/
def OwnR (w wr : World) (v : Value) (rows : List (List Int)) : Prop := ∃ cells, wr.ownsRow w.heap.size 22 1 v rows.length cells ∧ RowsC wr cells rows ∧ Ext w wr
theorem OwnR.ext {w wr w' : World} {v : Value} {rows : List (List Int)} (h : OwnR w wr v rows) (he : Ext wr w') : OwnR w w' v rows := by
  obtain ⟨cells, h1, h2, h3⟩ := h
  exact ⟨cells, h1.kept (Ext.grownBy he none) (by cases v.ownBlock <;> simp), h2.ext he, h3.trans he⟩
/-- append of new lists, which lie in a new block N. -/
theorem wpList_append_rows {w : World} {ops : Array Oper} {rest : List Oper} {o : Oper} {a : Act} {Q : Exit → Act → World → Prop} (hgd : o.guard = none) (s x : Operand)
    (ho : o.op = .call { callee := .builtin .append, args := #[s, x], argTypes := #[41, 41] })
    (W : World) (v : Value) (rows : List (List Int)) (hs : a.eval s = v) (hown : OwnR W w v rows)
    (N m c : Nat) (cs : List Value) (new : List (List Int)) (hx : a.eval x = .slice (some ⟨N, 0, none⟩) m c) (hm : new.length = m) (hN : w.heap[N]? = some (.cells cs.toArray 22 (0, 0))) (hnew : RowsC w cs new) (hlen : rows.length + m ≤ 1000000)
    (h : ∀ v' w', OwnR W w' v' (rows ++ new) → wpList Try.prog ops Q rest (a.put o.dst v') w') : wpList Try.prog ops Q (o :: rest) a w := by
  obtain ⟨i0, hi0, hz0, hz1, hz2⟩ := info_parts Try.info22
  obtain ⟨cells, h1, h2, h3⟩ := hown
  subst hm
  refine wpList_append_own w hgd s x 41 ho W.heap.size 22 i0 (.slice none 0 0) 1 24 Try.underlying41 hi0 hz0 hz1 hz2 rfl (by decide) v rows.length cells hs h1 ⟨N, 0, none⟩ new.length c cs hx (by rw [hnew.1]; simp) ?_ ?_ (by simp [maxLen]; omega) (by omega) h3.size ?_
  · intro j u hj
    have : (⟨N, 0, none⟩ : Addr).add j = ⟨N, j, none⟩ := by unfold Addr.add; split <;> simp_all
    rw [this, blk_cell hN]
    simpa using hj
  · intro u hu
    obtain ⟨k, hk, rfl⟩ := List.getElem_of_mem hu
    obtain ⟨L, c', re, g1, _⟩ := hnew.2 k (by rw [← hnew.1]; exact hk)
    rw [List.getElem?_eq_getElem hk] at g1
    rw [Option.some.inj g1]
    rfl
  · intro v' w' hown' hgrow _
    refine h v' w' ⟨cells ++ cs, by simpa using hown', (h2.grown hgrow (own_type h1)).app (hnew.grown hgrow (own_type h1)), ?_⟩
    exact Ext.of_below h3 (Below.refl _ _ |>.grown hgrow h3.size (fun k hk => (h1.lt k hk).1)) (Nat.le_refl _)

theorem chd_0 (base : List Int) : chd base (-1) 0 (-1) 0 = base := by simp [chd]
theorem chd_1 (base : List Int) (i : Nat) (d : Int) : chd base i d (-1) 0 = chg base i d := by simp [chd, chg]
theorem wrap_sub (b : Int) : wrap64 (wrap64 (b + 1) - 2) = wrap64 (b + -1) := by
  unfold wrap64
  omega
theorem wrap_wrap (b : Int) : wrap64 (wrap64 b) = wrap64 b := by unfold wrap64; omega
theorem chd_2 (base : List Int) (i j : Nat) (hij : i ≠ j) : [chd base i 1 j 1, chd base i 1 j (-1), chd base i (-1) j 1, chd base i (-1) j (-1)] = quad base i j 4 0 := by
  simp only [quad, chg2, chd]
  simp [hij, wrap_wrap, wrap_sub]
def AllPost (base : List Int) (w : World) (e : Ending) (w' : World) : Prop := ∃ v, e = .returned v ∧ OwnR w w' v (cands base)
set_option maxHeartbeats 2000000 in
theorem all_any (bo : Option Addr) (bcap : Nat) (base : List Int) (w : World) (hl : IntsAt w bo base) (hlen : base.length ≤ 49) :
    Calls Try.prog 26 #[.slice bo base.length bcap] w (AllPost base w) := by
  have HL := Lib.hid hl
  clear hl
  have hcnt : (cands base).length ≤ 10000 := by
    have := pairs_bd hlen
    simp only [cands, List.length_cons, List.length_append, singles_len]; omega
  go_enter Try.func26, Try.ntmps26
  go_wp2_with fail
  refine (changed_any bo bcap base (-1) 0 (-1) 0 w HL.out (by omega) (by omega) (by omega) (by omega)).mono ?_
  rintro e w1 ⟨hE1, L, lcap, re, rfl, hlb⟩
  rw [chd_0] at *
  have hO : OwnR w (w1.alloc (.cells #[.slice (some ⟨L, 0, none⟩) base.length lcap] 22)) (.slice (some ⟨w1.heap.size, 0, none⟩) 1 1) [base] :=
    ⟨[.slice (some ⟨L, 0, none⟩) base.length lcap], World.ownsRow_lit w1 #[.slice (some ⟨L, 0, none⟩) base.length lcap] 1 hE1.size (by simp [maxLen]) rfl, RowsC.one (hlb.ext (Ext.alloc _ _)), hE1.trans (Ext.alloc _ _)⟩
  have HO := Lib.hid hO
  clear hO hlb hE1
  go_wp2
  go_loopg [3, 4] base.length (fun g v i wr => ∃ (ii : Nat) (D : List (List Int)), ii + g = base.length ∧ i = .int .i64 ii ∧ OwnR w wr v D ∧ D ++ (singles base g ii ++ pairsI base base.length 0) = cands base)
  case atStart => exact ⟨0, [base], by omega, rfl, HO.out, rfl⟩
  case round =>
    obtain ⟨i, D, hig, rfl, hO, hD⟩ := hrel
    have HO2 := Lib.hid hO
    have HD := Lib.hid hD
    have Hig := Lib.hid hig
    have hlD : D.length ≤ 10000 := by
      have := congrArg List.length hD
      simp only [List.length_append] at this
      omega
    clear hO hD
    by_cases hi : i < base.length
    · obtain ⟨g1, rfl⟩ : ∃ g1, gk = g1 + 1 := ⟨gk - 1, by omega⟩
      clear hig
      go_wp2_with fail
      obtain ⟨cells, g1', g2', g3'⟩ := HO2.out
      refine (changed_any bo bcap base i 1 (-1) 0 _ (HL.out.ext g3') (by omega) (by omega) (by omega) (by omega)).mono ?_
      rintro e w2 ⟨hE2, L2, lc2, re2, rfl, hlb2⟩
      rw [chd_1] at *
      have HO3 := Lib.hid (HO2.out.ext hE2)
      go_wp2_with fail
      refine (changed_any bo bcap base i (-1) (-1) 0 _ (HL.out.ext (g3'.trans hE2)) (by omega) (by omega) (by omega) (by omega)).mono ?_
      rintro e w3 ⟨hE3, L3, lc3, re3, rfl, hlb3⟩
      rw [chd_1] at *
      have HO4 := Lib.hid ((HO3.out.ext hE3).ext (Ext.alloc w3 (.cells #[.slice (some ⟨L2, 0, none⟩) (chg base i 1).length lc2, .slice (some ⟨L3, 0, none⟩) (chg base i (-1)).length lc3] 22)))
      have hR := Lib.hid ((RowsC.one (c := lc2) (hlb2.ext hE3)).app (RowsC.one (c := lc3) hlb3))
      clear hlb2 hlb3 hE2 hE3 g1' g2' g3'
      go_wp2_with (at_builtin; refine wpList_append_rows rfl (.tmp 16) (.tmp 23) rfl w _ D rfl HO4.out w3.heap.size 2 2 _ _ rfl rfl (heap_alloc_new w3 _) (hR.out.ext (Ext.alloc _ _)) (by omega) ?_; intro v' w4 hO5)
      have HO5 := Lib.hid hO5
      clear hO5
      go_roundg g1
      case measure => omega
      case rel =>
        refine ⟨i + 1, _, by have := Hig.out; omega, by go_num, HO5.out, ?_⟩
        rw [← HD.out]
        simp [singles]
    · obtain rfl : gk = 0 := by omega
      go_wp2
      go_loopg [3, 5] base.length (fun g v i wr => ∃ (ii : Nat) (D : List (List Int)), ii + g = base.length ∧ i = .int .i64 ii ∧ OwnR w wr v D ∧ D ++ pairsI base g ii = cands base)
      case atStart => exact ⟨0, D, by omega, rfl, HO2.out, HD.out⟩
      case round =>
        obtain ⟨i, D, hig, rfl, hO, hD⟩ := hrel
        have HO2 := Lib.hid hO
        have HD := Lib.hid hD
        have Hig := Lib.hid hig
        clear hO hD
        by_cases hi : i < base.length
        · obtain ⟨g1, rfl⟩ : ∃ g1, gk = g1 + 1 := ⟨gk - 1, by omega⟩
          clear hig
          go_wp2
          go_loopg [3, 6] (base.length - (i + 1)) (fun g v j wr => ∃ (jj : Nat) (D : List (List Int)), jj + g = base.length ∧ i < jj ∧ j = .int .i64 jj ∧ OwnR w wr v D ∧ D ++ (pairsJ base i g jj ++ pairsI base g1 (i + 1)) = cands base)
          case atStart => exact ⟨i + 1, D, by omega, by omega, by go_num, HO2.out, HD.out⟩
          case round =>
            obtain ⟨j, D, hjg, hij, rfl, hO, hD⟩ := hrel
            have HO2 := Lib.hid hO
            have HD := Lib.hid hD
            have Hjg := Lib.hid hjg
            have hlD : D.length ≤ 10000 := by
              have := congrArg List.length hD
              simp only [List.length_append] at this
              omega
            clear hO hD
            by_cases hj : j < base.length
            · obtain ⟨g2, rfl⟩ : ∃ g2, gk = g2 + 1 := ⟨gk - 1, by omega⟩
              clear hjg
              obtain ⟨cells, g1', g2', g3'⟩ := HO2.out
              have HX := Lib.hid g3'
              clear g1' g2' g3'
              go_wp2_with fail
              refine (changed_any bo bcap base i 1 j 1 _ (HL.out.ext HX.out) (by omega) (by omega) (by omega) (by omega)).mono ?_
              rintro e w2 ⟨hE, L2, lc2, re2, rfl, hlb⟩
              have HE2 := Lib.hid hE
              have Hlb2 := Lib.hid hlb
              clear hE hlb
              go_wp2_with fail
              refine (changed_any bo bcap base i 1 j (-1) _ (HL.out.ext (HX.out.trans HE2.out)) (by omega) (by omega) (by omega) (by omega)).mono ?_
              rintro e w3 ⟨hE, L3, lc3, re3, rfl, hlb⟩
              have HE3 := Lib.hid (HE2.out.trans hE)
              have Hlb3 := Lib.hid hlb
              have Hlb2 := Lib.hid (Hlb2.out.ext hE)
              clear hE hlb
              go_wp2_with fail
              refine (changed_any bo bcap base i (-1) j 1 _ (HL.out.ext (HX.out.trans HE3.out)) (by omega) (by omega) (by omega) (by omega)).mono ?_
              rintro e w4 ⟨hE, L4, lc4, re4, rfl, hlb⟩
              have HE4 := Lib.hid (HE3.out.trans hE)
              have Hlb4 := Lib.hid hlb
              have Hlb2 := Lib.hid (Hlb2.out.ext hE)
              have Hlb3 := Lib.hid (Hlb3.out.ext hE)
              clear hE hlb
              go_wp2_with fail
              refine (changed_any bo bcap base i (-1) j (-1) _ (HL.out.ext (HX.out.trans HE4.out)) (by omega) (by omega) (by omega) (by omega)).mono ?_
              rintro e w5 ⟨hE, L5, lc5, re5, rfl, hlb⟩
              have HE5 := Lib.hid (HE4.out.trans hE)
              have Hlb5 := Lib.hid hlb
              have Hlb2 := Lib.hid (Hlb2.out.ext hE)
              have Hlb3 := Lib.hid (Hlb3.out.ext hE)
              have Hlb4 := Lib.hid (Hlb4.out.ext hE)
              clear hE hlb
              have hR := Lib.hid (((RowsC.one (c := lc2) Hlb2.out).app (RowsC.one (c := lc3) Hlb3.out)).app ((RowsC.one (c := lc4) Hlb4.out).app (RowsC.one (c := lc5) Hlb5.out)))
              have HO4 := Lib.hid ((HO2.out.ext HE5.out).ext (Ext.alloc w5 (.cells #[.slice (some ⟨L2, 0, none⟩) (chd base i 1 j 1).length lc2, .slice (some ⟨L3, 0, none⟩) (chd base i 1 j (-1)).length lc3, .slice (some ⟨L4, 0, none⟩) (chd base i (-1) j 1).length lc4, .slice (some ⟨L5, 0, none⟩) (chd base i (-1) j (-1)).length lc5] 22)))
              go_wp2_with (at_builtin; refine wpList_append_rows rfl (.tmp 39) (.tmp 56) rfl w _ D rfl HO4.out w5.heap.size 4 4 _ _ rfl rfl (heap_alloc_new w5 _) (hR.out.ext (Ext.alloc _ _)) (by omega) ?_; intro v' w6 hO5)
              have HO5 := Lib.hid hO5
              clear hO5
              go_roundg g2
              case measure => omega
              case rel =>
                refine ⟨j + 1, _, by have := Hjg.out; omega, by omega, by go_num, HO5.out, ?_⟩
                rw [← HD.out]
                have := chd_2 base i j (by omega)
                simp only [List.append_assoc, List.cons_append, List.nil_append, pairsJ, ← this]
            · obtain rfl : gk = 0 := by omega
              go_wp2
              go_roundg g1
              case measure => omega
              case rel => exact ⟨i + 1, D, by have := Hig.out; omega, by go_num, HO2.out, HD.out⟩
        · obtain rfl : gk = 0 := by omega
          go_wp2
          go_ret
          refine ⟨_, rfl, ?_⟩
          have := HD.out
          simp only [pairsI, List.append_nil] at this
          rw [← this]
          exact HO2.out
end Go.Proofs.Ytjgbckcepoahkaa
