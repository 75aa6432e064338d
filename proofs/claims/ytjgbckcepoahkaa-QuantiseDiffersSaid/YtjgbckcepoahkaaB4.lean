/- Within, At, Word, Coef -/
import Derived.Test.YtjgbckcepoahkaaB2
namespace Go.Proofs.Ytjgbckcepoahkaa
open Go.RowKit Go.Front
attribute [local go_sem] XW.cell XW.frozen
theorem tmod_bd (v m : Int) (hm : 1 ≤ m) : -m < v.tmod m ∧ v.tmod m < m ∧ (0 ≤ v.tmod m → v % m = v.tmod m) ∧ (v.tmod m < 0 → v % m = v.tmod m + m) := by
  have h := Int.tmod_eq_emod (a := v) (b := m)
  have h1 := Int.emod_nonneg v (show m ≠ 0 by omega)
  have h2 := Int.emod_lt_of_pos v (show 0 < m by omega)
  have h3 : (m.natAbs : Int) = m := by omega
  split at h <;> rw [h] <;> (try rw [h3]) <;> refine ⟨by omega, by omega, by omega, by omega⟩
set_option maxHeartbeats 400000 in
theorem within_any (v m : Int) (w : World) (hm : 1 ≤ m) (hm2 : m ≤ 4611686018427387904) :
    Calls Try.prog 11 #[.int .i64 v, .int .i64 m] w fun e w' => e = .returned (.int .i64 (v % m)) ∧ w = w' := by
  obtain ⟨h1, h2, h3, h4⟩ := tmod_bd v m hm
  have H3 := Lib.hid h3
  have H4 := Lib.hid h4
  clear h3 h4
  have hmz : (m == 0) = false := by simp; omega
  by_cases hn : v.tmod m < 0
  · go_enter Try.func11, Try.ntmps11
    go_wp2
    go_ret
    exact ⟨ret_int (H4.out hn).symm, rfl⟩
  · go_enter Try.func11, Try.ntmps11
    go_wp2
    go_ret
    exact ⟨ret_int (H3.out (by omega)).symm, rfl⟩
def IntPost (P : Int → Prop) (w : World) (e : Ending) (w' : World) : Prop := ∃ n, P n ∧ e = .returned (.int .i64 n) ∧ Ext w w'
def atI (l : List Int) (i : Int) : Int := if 0 ≤ i then l.getD i.toNat 0 else 0
set_option maxHeartbeats 400000 in
theorem at_any (ao : Option Addr) (cap : Nat) (l : List Int) (i : Int) (w : World) (hl : IntsAt w ao l) :
    Calls Try.prog 20 #[.slice ao l.length cap, .int .i64 i] w fun e w' => e = .returned (.int .i64 (atI l i)) ∧ w = w' := by
  by_cases h0 : 0 ≤ i
  · by_cases h1 : i < l.length
    · obtain ⟨b, off, rfl, hc⟩ := hl.at (k := i.toNat) (by omega)
      have Hs : Hid (atI l i = l.getD i.toNat 0) := by show atI l i = _; simp [atI, h0]
      clear hl
      go_enter Try.func20, Try.ntmps20
      go_wp2
      go_ret
      refine ⟨ret_int ?_, rfl⟩
      rw [Hs.out]
      simp [show i.toNat < l.length by omega]
    · have Hs : Hid (atI l i = 0) := by show atI l i = _; simp [atI, h0]; rw [List.getElem?_eq_none (by omega)]; rfl
      clear hl
      go_enter Try.func20, Try.ntmps20
      go_wp2
      go_ret
      exact ⟨ret_int Hs.out.symm, rfl⟩
  · have Hs : Hid (atI l i = 0) := by show atI l i = _; simp [atI, h0]
    clear hl
    go_enter Try.func20, Try.ntmps20
    go_wp2
    go_ret
    exact ⟨ret_int Hs.out.symm, rfl⟩
def WordPost (w : World) (e : Ending) (w' : World) : Prop := ∃ x : Wd, e = .returned x.v ∧ x.valid = true ∧ x.b ≤ 9 ∧ Ext w w'
set_option maxHeartbeats 1000000 in
theorem word_any (k : Int) (w : World) : Calls Try.prog 18 #[.int .i64 k, .int .i64 6, .int .i64 9, .int .i64 1] w (WordPost w) := by
  have hb1 := Int.emod_nonneg k (show (1099511627776 : Int) ≠ 0 by decide)
  have hb2 := Int.emod_lt_of_pos k (show (0 : Int) < 1099511627776 by decide)
  obtain ⟨q, hq⟩ : ∃ q, q = k % 1099511627776 := ⟨_, rfl⟩
  rw [← hq] at hb1 hb2
  have Hq := Lib.hid hq
  clear hq
  go_enter Try.func18, Try.ntmps18
  go_wp2_with fail
  refine (within_any _ _ _ (by decide) (by decide)).mono ?_
  rintro e w1 ⟨rfl, rfl⟩
  rw [← Hq.out]
  go_wp2
  refine bodyPost_ret (v := (⟨6 + q % 4, 6 + q % 4 - 1 - 1 - q / 4 % 2, 1 + q / 4 / 2 % 3, 1 + q / 4 / 2 / 3 % 2⟩ : Wd).v) (by simp [results, Try.results18, go_sem]) rfl ⟨_, rfl, ?_, ?_, Ext.trans (Ext.alloc _ _) (Ext.alloc _ _)⟩
  · rw [Wd.valid_t]; refine ⟨⟨?_, ?_⟩, ⟨?_, ?_⟩, ⟨?_, ?_⟩, ?_, ?_⟩ <;> dsimp only <;> omega
  · dsimp only; omega
set_option maxHeartbeats 400000 in
theorem coef_any (k : Int) (w : World) : Calls Try.prog 9 #[.int .i64 k] w (WordPost w) := by
  go_enter Try.func9, Try.ntmps9
  go_wp2_with fail
  refine (word_any k _).mono ?_
  rintro e w1 ⟨x, rfl, h1, h2, hE⟩
  obtain ⟨hc, hf⟩ := bcellE hE
  have hz : w.heap.size < w1.heap.size := by have := hE.size; simp at this; omega
  have HE := Lib.hid hE
  clear hE
  go_wp2
  refine bodyPost_ret (v := x.v) (by simp [results, Try.results9, go_sem, hc]) rfl ⟨x, rfl, h1, h2, ?_⟩
  exact Ext.own (Ext.trans (Ext.alloc _ _) HE.out) (L := w.heap.size) (Nat.le_refl _) (by
    refine Mods.trans (Mods.setCell _ ⟨w.heap.size, _, none⟩ _) (Mods.trans (Mods.setCell _ ⟨w.heap.size, _, none⟩ _) (Mods.trans (Mods.setCell _ ⟨w.heap.size, _, none⟩ _) (Mods.setCell _ ⟨w.heap.size, _, none⟩ _))))
theorem low_bd {x : Wd} (h : x.valid = true) : -8388608 ≤ x.low ∧ x.low < 0 ∧ 0 < x.high ∧ x.high ≤ 8388607 ∧ x.low = -(x.high + 1) := by
  obtain ⟨⟨h1, h2⟩, -⟩ := Wd.valid_t.1 h
  have hp := pow_bd x.b h1 h2
  have h8 : (2 : Int) ^ (x.b.toNat - 1) ≥ 8 := by
    have h : 3 ≤ x.b.toNat - 1 := by omega
    have := Nat.pow_le_pow_right (n := 2) (by decide) h
    have e : ((2 : Int) ^ (x.b.toNat - 1)) = ((2 ^ (x.b.toNat - 1) : Nat) : Int) := by push_cast; rfl
    rw [e]; omega
  unfold Wd.low Wd.high
  rw [if_pos h, if_pos h]
  omega
def WordsPost (x : Wd) (n : Nat) (w : World) (e : Ending) (w' : World) : Prop := ∃ xs ao cap, e = .returned (.slice ao n cap) ∧ xs.length = n ∧ (∀ v ∈ xs, x.low ≤ v ∧ v ≤ x.high) ∧ IntsAt w' ao xs ∧ Ext w w'
theorem own_ints {w : World} {B0 : Nat} {v : Value} {xs : List Int} (h : w.ownsRow B0 3 1 v xs.length (xs.map (Value.int .i64))) : ∃ ao cap, v = .slice ao xs.length cap ∧ IntsAt w ao xs := by
  have h' := h
  rcases h.2 with ⟨rfl, hn⟩ | ⟨g, cap, cur, rfl, _⟩
  · exact ⟨none, 0, by rw [hn], Or.inl (List.length_eq_zero_iff.1 hn)⟩
  · refine ⟨_, cap, rfl, Or.inr ⟨g, 0, rfl, fun k hk => ?_⟩⟩
    rw [Nat.zero_add, h'.cellAt k (by omega)]
    simp [hk]
theorem wpList_append_int {w : World} {ops : Array Oper} {rest : List Oper} {o : Oper} {a : Act} {Q : Exit → Act → World → Prop} (hgd : o.guard = none) (s x : Operand)
    (ho : o.op = .call { callee := .builtin .append, args := #[s, x], argTypes := #[22, 22] })
    (B0 : Nat) (v : Value) (n : Nat) (cells : List Value) (hs : a.eval s = v) (hown : w.ownsRow B0 3 1 v n cells)
    (N c : Nat) (u : Int) (hx : a.eval x = .slice (some ⟨N, 0, none⟩) 1 c) (hN : w.heap[N]? = some (.cells #[.int .i64 u] 3 (0, 0))) (hlen : n ≤ 1000000) (hB : B0 ≤ w.heap.size)
    (h : ∀ v' w', w'.ownsRow B0 3 1 v' (n + 1) (cells ++ [.int .i64 u]) → w.grownBy w' v.ownBlock → wpList Try.prog ops Q rest (a.put o.dst v') w') : wpList Try.prog ops Q (o :: rest) a w := by
  obtain ⟨i0, hi0, hz0, hz1, hz2⟩ := info_parts Try.info3
  refine wpList_append_own w hgd s x 22 ho B0 3 i0 (.int .i64 0) 1 8 Try.underlying22 hi0 hz0 hz1 hz2 rfl (by decide) v n cells hs hown ⟨N, 0, none⟩ 1 c [.int .i64 u] hx rfl ?_ ?_ (by simp [maxLen]; omega) (by omega) hB ?_
  · intro j u' hj
    have : (⟨N, 0, none⟩ : Addr).add j = ⟨N, j, none⟩ := by unfold Addr.add; split <;> simp_all
    rw [this, blk_cell hN]
    simpa using hj
  · intro u' hu
    obtain rfl : u' = _ := by simpa using hu
    rfl
  · intro v' w' h1 h2 _
    exact h v' w' h1 h2
set_option maxHeartbeats 2000000 in
theorem mkWords_any (x : Wd) (hv : x.valid = true) (lo : Option Addr) (lcap : Nat) (l : List Int) (n : Nat) (w : World) (hl : IntsAt w lo l) (hn : n ≤ 1000) :
    Calls Try.prog 10 #[x.v, .slice lo l.length lcap, .int .i64 n] w (WordsPost x n w) := by
  obtain ⟨i0, hi0, hz0, hz1, hz2⟩ := info_parts Try.info3
  obtain ⟨b1, b2, b3, b4, b5⟩ := low_bd hv
  have HB5 := Lib.hid b5
  clear b5
  have HL := Lib.hid hl
  have hv' := Lib.hid hv
  clear hl hv
  go_enter Try.func10, Try.ntmps10
  go_wp2
  go_loopg [7, 8] n (fun g v i wr => ∃ (ii : Nat) (xs : List Int) (vo : Option Addr) (vc : Nat), ii + g = n ∧ i = .int .i64 ii ∧ v = .slice vo ii vc ∧ xs.length = ii ∧ wr.ownsRow (w.heap.size + 1) 3 1 v ii (xs.map (Value.int .i64)) ∧ (∀ v ∈ xs, x.low ≤ v ∧ v ≤ x.high) ∧ Ext (w.alloc (.cells #[.int .i64 x.b, .int .i64 x.f, .int .i64 x.r, .int .i64 x.o] 24)) wr)
  case atStart => exact ⟨0, [], none, 0, by omega, rfl, rfl, rfl, World.ownsRow_nil _ _ _ _, by simp, Ext.refl _⟩
  case round =>
    obtain ⟨i, xs, vo, vc, hig, rfl, rfl, hxl, hown, hbd, hE⟩ := hrel
    have Hig := Lib.hid hig
    have Hxl := Lib.hid hxl
    have Hown := Lib.hid hown
    have Hbd := Lib.hid hbd
    obtain ⟨hcE, hfE⟩ := bcellE hE
    have hz : w.heap.size < wr.heap.size := by have := hE.size; simp at this; omega
    clear hxl hown hbd
    by_cases hi : i < n
    · obtain ⟨g1, rfl⟩ : ∃ g1, gk = g1 + 1 := ⟨gk - 1, by omega⟩
      clear hig
      have hm1 := Int.emod_nonneg (wrap64 (atI l i - x.low)) (show x.high - x.low + 1 ≠ 0 by omega)
      have hm2 := Int.emod_lt_of_pos (wrap64 (atI l i - x.low)) (show 0 < x.high - x.low + 1 by omega)
      go_wp2
      refine wp_region_front 18 (fun opIx => match opIx with
        | 2 => .spec Unit () (fun _ => .int .i64 x.low) (fun _ _ => True)
        | 5 => .spec Unit () (fun _ => .int .i64 (atI l i)) (fun _ _ => True)
        | 7 => .spec Unit () (fun _ => .int .i64 x.low) (fun _ _ => True)
        | 10 => .spec Unit () (fun _ => .int .i64 x.high) (fun _ _ => True)
        | 12 => .spec Unit () (fun _ => .int .i64 x.low) (fun _ _ => True)
        | 15 => .spec Unit () (fun _ => .int .i64 (wrap64 (atI l i - x.low) % (x.high - x.low + 1))) (fun _ _ => True)
        | 17 => .spec Nat 0 (fun b => .slice (some ⟨b, 0, none⟩) 1 1) (fun b w => w.heap[b]? = some (.cells #[.int .i64 (x.low + wrap64 (atI l i - x.low) % (x.high - x.low + 1))] 3 (0, 0)))
        | _ => .quiet) (fun _ => []) (by kernel_rfl) (by kernel_rfl) (fun w0 he0 hz0 hc0 hf0 => ?_)
      simp only [List.take_succ_cons, List.take_zero]
      repeat (refine wpF_quiet rfl rfl rfl (fun K hK => ?_); go_big_quiet_op; refine hK _ ?_; clear hK K)
      refine wpF_spec rfl rfl (fun w1 hw1 hG => ?_) (fun _ => ?_)
      · refine spec_call [x.v] rfl rfl Try.func19 (by kernel_rfl) (by kernel_rfl) ?_
        refine (refLow_any x _).mono ?_
        rintro e w' ⟨rfl, hb⟩
        exact ⟨(), rfl, hb, trivial⟩
      simp only [Act.put, List.setIfInBounds_toArray, List.set_cons_succ, List.set_cons_zero]
      repeat (refine wpF_quiet rfl rfl rfl (fun K hK => ?_); go_big_quiet_op; refine hK _ ?_; clear hK K)
      refine wpF_spec rfl rfl (fun w1 hw1 hG => ?_) (fun _ => ?_)
      · refine spec_call [.slice lo l.length lcap, .int .i64 i] rfl rfl Try.func20 (by kernel_rfl) (by kernel_rfl) ?_
        refine (at_any _ _ l _ _ (((HL.out.ext (Ext.trans (Ext.alloc _ _) hE)).ext he0).ext hw1)).mono ?_
        rintro e w' ⟨rfl, rfl⟩
        exact ⟨(), rfl, Ext.refl _, trivial⟩
      simp only [Act.put, List.setIfInBounds_toArray, List.set_cons_succ, List.set_cons_zero]
      repeat (refine wpF_quiet rfl rfl rfl (fun K hK => ?_); go_big_quiet_op; refine hK _ ?_; clear hK K)
      refine wpF_spec rfl rfl (fun w1 hw1 hG => ?_) (fun _ => ?_)
      · refine spec_call [x.v] rfl rfl Try.func19 (by kernel_rfl) (by kernel_rfl) ?_
        refine (refLow_any x _).mono ?_
        rintro e w' ⟨rfl, hb⟩
        exact ⟨(), rfl, hb, trivial⟩
      simp only [Act.put, List.setIfInBounds_toArray, List.set_cons_succ, List.set_cons_zero]
      repeat (refine wpF_quiet rfl rfl rfl (fun K hK => ?_); go_big_quiet_op; refine hK _ ?_; clear hK K)
      refine wpF_spec rfl rfl (fun w1 hw1 hG => ?_) (fun _ => ?_)
      · refine spec_call [x.v] rfl rfl Try.func21 (by kernel_rfl) (by kernel_rfl) ?_
        refine (refHigh_any x _).mono ?_
        rintro e w' ⟨rfl, hb⟩
        exact ⟨(), rfl, hb, trivial⟩
      simp only [Act.put, List.setIfInBounds_toArray, List.set_cons_succ, List.set_cons_zero]
      repeat (refine wpF_quiet rfl rfl rfl (fun K hK => ?_); go_big_quiet_op; refine hK _ ?_; clear hK K)
      refine wpF_spec rfl rfl (fun w1 hw1 hG => ?_) (fun _ => ?_)
      · refine spec_call [x.v] rfl rfl Try.func19 (by kernel_rfl) (by kernel_rfl) ?_
        refine (refLow_any x _).mono ?_
        rintro e w' ⟨rfl, hb⟩
        exact ⟨(), rfl, hb, trivial⟩
      simp only [Act.put, List.setIfInBounds_toArray, List.set_cons_succ, List.set_cons_zero]
      repeat (refine wpF_quiet rfl rfl rfl (fun K hK => ?_); go_big_quiet_op; refine hK _ ?_; clear hK K)
      refine wpF_spec rfl rfl (fun w1 hw1 hG => ?_) (fun _ => ?_)
      · refine spec_call [.int .i64 (wrap64 (atI l i - x.low)), .int .i64 (x.high - x.low + 1)] rfl rfl Try.func11 (by kernel_rfl) (by kernel_rfl) ?_
        refine (within_any _ _ _ (by omega) (by omega)).mono ?_
        rintro e w' ⟨rfl, rfl⟩
        exact ⟨(), rfl, Ext.refl _, trivial⟩
      simp only [Act.put, List.setIfInBounds_toArray, List.set_cons_succ, List.set_cons_zero]
      repeat (refine wpF_quiet rfl rfl rfl (fun K hK => ?_); go_big_quiet_op; refine hK _ ?_; clear hK K)
      refine wpF_spec rfl rfl (fun w1 hw1 hG => ?_) (fun nb => ?_)
      · refine spec_new ?_
        go_simp
      simp only [Act.put, List.setIfInBounds_toArray, List.set_cons_succ, List.set_cons_zero]
      refine wpF_nil ?_
      intro w' hI
      have h17 := hI.facts 17
      simp only [upd_same] at h17
      obtain ⟨wa, hwa, hnb⟩ := h17
      have Hnb := Lib.hid (hwa.block hnb)
      have hx := he0.trans hI.ext
      have Hx := Lib.hid hx
      have Hown2 := Lib.hid (Hown.out.kept (Ext.grownBy hx none) (by cases (Value.slice vo i vc).ownBlock <;> simp))
      have HE2 := Lib.hid (hE.trans hx)
      clear hI hwa hnb hx he0 hz0 hc0 hf0 hcE hfE
      simp only [List.drop_succ_cons, List.drop_zero]
      go_wp2_with (at_builtin; refine wpList_append_int rfl (.tmp 14) (.tmp 31) rfl (w.heap.size + 1) _ i _ rfl Hown2.out nb 1 _ rfl Hnb.out (by omega) (by have := HE2.out.size; simp at this; omega) ?_; intro v' w4 hown4 hgrow4)
      obtain ⟨vo4, vc4, hv4, hI4⟩ := own_ints (xs := xs ++ [x.low + wrap64 (atI l i - x.low) % (x.high - x.low + 1)]) (by simpa [Hxl.out] using hown4)
      have hv4' : v' = .slice vo4 (i + 1) vc4 := by rw [hv4]; simp [Hxl.out]
      subst hv4'
      have H4 := Lib.hid hown4
      have HG := Lib.hid hgrow4
      clear hown4 hgrow4 hv4 hI4
      go_roundg g1
      case measure => omega
      case rel =>
        refine ⟨i + 1, xs ++ [x.low + wrap64 (atI l i - x.low) % (x.high - x.low + 1)], vo4, vc4, by have := Hig.out; omega, by go_num, rfl, by simp [Hxl.out], by simpa using H4.out, ?_, ?_⟩
        · intro v hv
          rcases List.mem_append.1 hv with hv | hv
          · exact Hbd.out v hv
          · obtain rfl : v = _ := by simpa using hv
            omega
        · exact Ext.of_below HE2.out ((Below.refl _ _).grown (B := w.heap.size + 1) HG.out (by have := HE2.out.size; simp at this; omega) (fun k hk => (Hown2.out.lt k hk).1)) (by simp)
    · go_wp2
      go_ret
      obtain rfl : i = n := by omega
      have hx := Hxl.out
      obtain ⟨ao, cap, hv, hI⟩ := own_ints (by rw [hx]; exact Hown.out)
      rw [hx] at hv
      rw [hv]
      exact ⟨xs, ao, cap, rfl, hx, Hbd.out, hI, Ext.trans (Ext.alloc _ _) hE⟩
end Go.Proofs.Ytjgbckcepoahkaa
