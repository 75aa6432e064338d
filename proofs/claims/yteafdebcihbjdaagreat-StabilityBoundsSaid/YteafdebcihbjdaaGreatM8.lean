/- Make, Mk2, Poly1, Same, Rf5 -/
import Derived.Test.YteafdebcihbjdaaGreatM7
set_option linter.unusedVariables false
/- Package make: Mod, Rat, Rats, Kept. -/
namespace Go.Proofs.YteafdebcihbjdaaGreat
open Go.RowKit Go.Front Go.Num
attribute [local go_sem] XW.cell XW.frozen
theorem tmod_emod (n m : Int) (hm : 0 < m) : (if n.tmod m < 0 then n.tmod m + m else n.tmod m) = n % m := by
  rw [Int.tmod_eq_emod]
  have h1 := Int.emod_nonneg n (show m ≠ 0 by omega)
  have h2 := Int.emod_lt_of_pos n hm
  have h3 : ((m.natAbs : Nat) : Int) = m := by omega
  split
  · split <;> omega
  · rw [h3]
    split <;> omega
theorem tmod_bd (n m : Int) (hm : 0 < m) : -m < n.tmod m ∧ n.tmod m < m := by
  rw [Int.tmod_eq_emod]
  have h1 := Int.emod_nonneg n (show m ≠ 0 by omega)
  have h2 := Int.emod_lt_of_pos n hm
  have h3 : ((m.natAbs : Nat) : Int) = m := by omega
  split
  · omega
  · rw [h3]; omega
set_option maxHeartbeats 1000000 in
theorem mod_any (n m : Int) (w : World) (hn : -9223372036854775808 ≤ n) (hn2 : n ≤ 9223372036854775807) (hm : 0 < m) (hm2 : m ≤ 9223372036854775807) :
    Does 37 [.int .i64 n, .int .i64 m] w (fun _ : Unit => .int .i64 (n % m)) (fun _ _ => True) := by
  have He := Lib.hid (tmod_emod n m hm)
  obtain ⟨hb1, hb2⟩ := tmod_bd n m hm
  have hm0 : m ≠ 0 := by omega
  unfold Does
  go_enter Tryz.func37, Tryz.ntmps37
  obtain ⟨r, hr⟩ : ∃ r, r = n.tmod m := ⟨_, rfl⟩
  rw [← hr] at He hb1 hb2
  by_cases h0 : r < 0
  · rw [if_pos h0] at He
    go_wp2
    go_ret
    exact ⟨(), ret_int (by rw [← hr]; exact He.out), Ext.refl _, trivial⟩
  · rw [if_neg h0] at He
    go_wp2
    go_ret
    exact ⟨(), ret_int (by rw [← hr]; exact He.out), Ext.refl _, trivial⟩
end Go.Proofs.YteafdebcihbjdaaGreat
/- Package make: Rat, Rats, Kept. -/
namespace Go.Proofs.YteafdebcihbjdaaGreat
open Go.RowKit Go.Front Go.Num
attribute [local go_sem] XW.cell XW.frozen
def ratQ (n : Int) : Rat := ((n % 25 - 12 : Int) : Rat) / ((1 + n.tdiv 25 % 8 : Int) : Rat)
theorem IntsAt.take {w : World} {ao : Option Addr} {xs : List Int} (h : IntsAt w ao xs) (m : Nat) : IntsAt w ao (xs.take m) := by
  rcases h with h | ⟨b, off, h1, h2⟩
  · left; rw [h]; simp
  · right
    refine ⟨b, off, h1, fun k hk => ?_⟩
    simp only [List.length_take] at hk
    rw [h2 k (by omega)]
    simp [show k < m by omega]
def InR (xs : List Int) : Prop := ∀ x ∈ xs, -9223372036854775808 ≤ x ∧ x ≤ 9223372036854775807
theorem InR.take {xs : List Int} (h : InR xs) (m : Nat) : InR (xs.take m) := fun x hx => h x (List.mem_of_mem_take hx)
theorem getD_memI {xs : List Int} {k : Nat} (h : k < xs.length) : xs.getD k 0 ∈ xs := by
  rw [show xs.getD k 0 = xs[k] by simp [h]]; exact List.getElem_mem h
theorem map_snoc {xs : List Int} {j : Nat} (f : Int → Rat) (h : j < xs.length) : (xs.take j).map f ++ [f (xs.getD j 0)] = (xs.take (j + 1)).map f := by
  rw [List.take_succ_eq_append_getElem h, List.map_append]
  simp [h]
end Go.Proofs.YteafdebcihbjdaaGreat
/- cut, Trim, Degree of package poly; small, wrong of stability; SameList. -/
namespace Go.Proofs.YteafdebcihbjdaaGreat
open Go.RowKit Go.Front Go.Num
attribute [local go_sem] XW.cell XW.frozen
theorem cmpR_self0 (q : Rat) : cmpR q 0 = 0 ↔ q = 0 := by
  unfold cmpR
  constructor
  · intro h
    split at h
    · cases h
    · split at h
      · assumption
      · cases h
  · rintro rfl
    rw [if_neg Rat.lt_irrefl, if_pos rfl]
set_option maxRecDepth 4000 in
set_option maxHeartbeats 1000000 in
theorem pcut_any (ao : Option Addr) (n cap : Nat) (qs : List Rat) (w : World) (h : RawL w ⟨ao, n, cap⟩ qs) :
    Does 86 [.slice ao n cap] w (fun _ : Unit => .slice ao (tz qs).length cap) (fun _ _ => tz qs = qs.take (tz qs).length ∧ (tz qs).length ≤ n) := by
  have H := Lib.hid h
  have hle := h.le
  have hmx := h.max
  have Hlen := Lib.hid h.len
  simp only at hle hmx Hlen
  clear h
  unfold Does
  change Calls Tryz.prog _ #[.slice ao n cap] w _
  go_enter Tryz.func86, Tryz.ntmps86
  go_wp2
  go_loopg [3] n (fun g nv wr => nv = .int .i64 (g : Nat) ∧ g ≤ n ∧ tz qs = tz (qs.take g) ∧ Ext w wr)
  case atStart => exact ⟨rfl, Nat.le_refl _, by rw [List.take_of_length_le (by rw [Hlen.out]; exact Nat.le_refl _)], Ext.refl _⟩
  case round =>
    obtain ⟨rfl, hg, hs, hE⟩ := hrel
    have Hs := Lib.hid hs
    have HE := Lib.hid hE
    clear hs hE
    by_cases h0 : gk = 0
    · subst h0
      go_wp2
      go_ret
      have e : tz qs = [] := by rw [Hs.out]; rfl
      refine ⟨(), ?_, HE.out, ?_, ?_⟩
      · rw [e]; simp
      · rw [e]; simp
      · rw [e]; simp
    · obtain ⟨k, rfl⟩ : ∃ m, gk = m + 1 := ⟨gk - 1, by omega⟩
      obtain ⟨b, off, r, hao, ⟨hc1, hc2, hc3⟩, hP⟩ := (H.out.ext HE.out).at (k := k) (by omega)
      subst hao
      have hbl : b < wr.heap.size := World.block_lt_of_cell? _ _ hc1
      obtain ⟨rneg, ra, rn, rc, rb, rm, rd⟩ := r
      simp only at hc1 hc2 hc3
      have HP := Lib.hid hP
      clear hP h0
      go_wp2_with fail
      refine Calls.mono (rsign_any ⟨rneg, ra, rn, rc, rb, rm, rd⟩ _ _ HP.out) ?_
      rintro e w1 ⟨x1, rfl, hE1, -⟩
      replace HE := Lib.hid (HE.out.trans hE1)
      have HZ := Lib.hid (cmpR_self0 (qs.getD k 0))
      obtain ⟨c, hc⟩ : ∃ c, c = cmpR (qs.getD k 0) 0 := ⟨_, rfl⟩
      rw [← hc] at HZ ⊢
      clear hc hE1 HP hc1 hc2 hc3 hbl
      by_cases hz : c = 0
      · subst hz
        have Hz0 := Lib.hid (HZ.out.1 rfl)
        clear HZ
        go_wp2
        go_roundg k
        case measure => omega
        case rel => exact ⟨by go_num, by omega, by rw [Hs.out, tz_zero (by rw [Hlen.out]; omega) Hz0.out], HE.out⟩
      · have hzb : (c == 0) = false := by simpa using hz
        have HF : Hid (tz qs = qs.take (k + 1)) := Lib.hid (by rw [Hs.out, tz_stop (by rw [Hlen.out]; omega) (fun h => hz (HZ.out.2 h))])
        clear HZ hz
        go_wp2
        go_ret
        have e : (tz qs).length = k + 1 := by rw [HF.out, List.length_take, Hlen.out]; omega
        refine ⟨(), ?_, HE.out, ?_, ?_⟩
        · rw [e]; rfl
        · rw [e]; exact HF.out
        · omega
set_option maxRecDepth 4000 in
set_option maxHeartbeats 1000000 in
theorem pdegree_any (ao : Option Addr) (n cap : Nat) (qs : List Rat) (w : World) (h : RawL w ⟨ao, n, cap⟩ qs) :
    Does 49 [.slice ao n cap] w (fun _ : Unit => .int .i64 (((tz qs).length : Int) - 1)) (fun _ _ => True) := by
  have H := Lib.hid h
  have hle := h.le
  have hmx := h.max
  simp only at hle hmx
  clear h
  unfold Does
  change Calls Tryz.prog _ #[.slice ao n cap] w _
  go_enter Tryz.func49, Tryz.ntmps49
  go_wp2_with fail
  refine Calls.mono (pcut_any _ _ _ _ _ H.out) ?_
  rintro e w1 ⟨x1, rfl, hE1, -, h2⟩
  have HE := Lib.hid hE1
  clear hE1
  go_wp2
  go_ret
  exact ⟨(), rfl, HE.out, trivial⟩
theorem take_snoc {l : List Rat} {j : Nat} (h : j < l.length) : l.take j ++ [l.getD j 0] = l.take (j + 1) := by
  rw [List.take_succ_eq_append_getElem h]
  simp [h]
theorem tz_len_le (qs : List Rat) : (tz qs).length ≤ qs.length := by
  unfold tz
  rw [List.length_reverse]
  have := (List.dropWhile_sublist (l := qs.reverse) (· == 0)).length_le
  rw [List.length_reverse] at this
  exact this
set_option maxRecDepth 4000 in
set_option maxHeartbeats 1000000 in
theorem ptrim_any (ao : Option Addr) (n cap : Nat) (qs : List Rat) (w : World) (h : RawL w ⟨ao, n, cap⟩ qs) (hn : n ≤ 1073741824) :
    Does 44 [.slice ao n cap] w SH.v (fun s w' => NewL w.heap.size w' s (tz qs)) := by
  obtain ⟨i0, hi0, hz0, hz1, hz2⟩ := info_parts infoR
  have H := Lib.hid h
  have hle := h.le
  have hmx := h.max
  have Hlen := Lib.hid h.len
  simp only at hle hmx Hlen
  clear h
  unfold Does
  change Calls Tryz.prog _ #[.slice ao n cap] w _
  go_enter Tryz.func44, Tryz.ntmps44
  go_wp2_with fail
  refine Calls.mono (pcut_any _ _ _ _ _ H.out) ?_
  rintro e w1 ⟨x1, rfl, hE1, h1, h2⟩
  have HE := Lib.hid hE1
  have HT := Lib.hid h1
  clear hE1 h1
  obtain ⟨m, hm⟩ : ∃ m, m = (tz qs).length := ⟨_, rfl⟩
  rw [← hm] at h2 HT ⊢
  have Hm := Lib.hid hm
  clear hm
  go_wp2_with (refine wpList_make rfl (.tmp 7) (.tmp 7) 42 rfl 30 i0 (RH.v default) 3 Tryz.underlying42 hi0 hz0 hz1 _ _ m rfl rfl (by simp) (by simp) (by rw [hz2]; omega) (by omega) ?_; intro w2 hnew hE2)
  have hL : w.heap.size ≤ w1.heap.size := HE.out.size
  have HF := Lib.hid (FillB.start (RBk.make rfl hnew))
  replace HE := Lib.hid (HE.out.trans hE2)
  clear hnew hE2
  obtain ⟨L, hLe⟩ : ∃ L, L = w1.heap.size := ⟨_, rfl⟩
  rw [← hLe] at hL HF ⊢
  clear hLe
  go_wp2
  go_loopg [11] m (fun g i wr => ∃ j : Nat, j + g = m ∧ i = .int .i64 (j : Nat) ∧ Ext w wr ∧ FillB wr L m ((tz qs).take j))
  case atStart => exact ⟨0, by omega, rfl, HE.out, HF.out⟩
  case round =>
    obtain ⟨j, hj, rfl, g1, g2⟩ := hrel
    clear HE HF
    have HE := Lib.hid g1
    have HF := Lib.hid g2
    clear g1 g2
    have hlf : ((tz qs).take j).length = j := by rw [List.length_take, ← Hm.out]; omega
    by_cases h0 : gk = 0
    · subst h0
      obtain rfl : j = m := by omega
      go_wp2
      go_ret
      refine ⟨⟨some ⟨L, 0, none⟩, j, j⟩, rfl, HE.out, ?_⟩
      have := HF.out.new hL hlf (by omega)
      rwa [List.take_of_length_le (by rw [← Hm.out]; exact Nat.le_refl _)] at this
    · obtain ⟨b, off, r, hao, ⟨hc1, hc2, hc3⟩, hP⟩ := (H.out.ext HE.out).at (k := j) (by omega)
      subst hao
      obtain ⟨rneg, ra, rn, rc, rb, rm, rd⟩ := r
      simp only at hc1 hc2 hc3
      have HP := Lib.hid hP
      clear hP
      go_wp2_with fail
      refine Calls.mono (rtrim_any ⟨rneg, ra, rn, rc, rb, rm, rd⟩ _ _ HP.out) ?_
      rintro e w3 ⟨x3, rfl, hE3, g3⟩
      replace HE := Lib.hid (HE.out.trans hE3)
      replace HF := Lib.hid (HF.out.ext hE3)
      clear HP hc1 hc2 hc3 hE3
      have G3 := Lib.hid g3
      clear g3
      obtain ⟨r0, k1, k2, k3⟩ := HF.out.cells (by rw [hlf]; omega)
      rw [hlf] at k1 k2 k3
      have hfr := HF.out.frozen
      have hLl := HF.out.lt
      go_wp2
      obtain ⟨_, rfl, T4⟩ := HF.out.put HE.out hL (by rw [hlf]; omega) G3.out
      rw [hlf] at T4
      have e4 : (tz qs).take j ++ [qs.getD j 0] = (tz qs).take (j + 1) := by
        rw [← take_snoc (l := tz qs) (by rw [← Hm.out]; omega), HT.out]
        simp [show j < m by omega]
      rw [e4] at T4
      go_roundg (gk - 1)
      case measure => omega
      case rel => exact ⟨j + 1, by omega, by go_num, T4.ext, T4.fill⟩
end Go.Proofs.YteafdebcihbjdaaGreat
/- SameList of the reference 03, Equal of the reference 05, Mod of make. -/
namespace Go.Proofs.YteafdebcihbjdaaGreat
open Go.RowKit Go.Front Go.Num
attribute [local go_sem] XW.cell XW.frozen
theorem take_all_eq {a b : List Rat} (hl : a.length = b.length) (h : a.take a.length = b.take a.length) : a = b := by
  rw [List.take_of_length_le (Nat.le_refl _), List.take_of_length_le (by omega)] at h
  exact h
theorem take_next {a b : List Rat} {j : Nat} (h : a.take j = b.take j) (ha : j < a.length) (hb : j < b.length) (e : a.getD j 0 = b.getD j 0) : a.take (j + 1) = b.take (j + 1) := by
  rw [List.take_succ_eq_append_getElem ha, List.take_succ_eq_append_getElem hb, h]
  have e1 : a[j] = b[j] := by simpa [ha, hb] using e
  rw [e1]
set_option maxRecDepth 4000 in
set_option maxHeartbeats 1000000 in
theorem samelist_any (s t : SH) (ps qs : List Rat) (w : World) (h : CanL w s ps) (k : CanL w t qs) : Does 58 [s.v, t.v] w (fun _ : Unit => .bool (decide (ps = qs))) (fun _ _ => True) := by
  obtain ⟨ao, n, c⟩ := s
  obtain ⟨bo, m, d⟩ := t
  have H := Lib.hid h
  have K := Lib.hid k
  have h1 := h.len
  have h2 := h.le
  have h3 := h.max
  have k1 := k.len
  have k2 := k.le
  have k3 := k.max
  simp only at h1 h2 h3 k1 k2 k3
  clear h k
  have Hn := Lib.hid h1
  have Km := Lib.hid k1
  clear h1 k1
  unfold Does
  change Calls Tryz.prog _ #[.slice ao n c, .slice bo m d] w _
  go_enter Tryz.func58, Tryz.ntmps58
  by_cases hnm : n = m
  · subst hnm
    go_wp2
    go_loopg [5] n (fun g i wr => ∃ j : Nat, j + g = n ∧ i = .int .i64 (j : Nat) ∧ Ext w wr ∧ ps.take j = qs.take j)
    case atStart => exact ⟨0, by omega, rfl, Ext.refl _, rfl⟩
    case round =>
      obtain ⟨j, hj, rfl, g1, g2⟩ := hrel
      have HE := Lib.hid g1
      have HT := Lib.hid g2
      clear g1 g2
      by_cases h0 : gk = 0
      · subst h0
        obtain rfl : j = n := by omega
        go_wp2
        go_ret
        refine ⟨(), ret_bool ?_, HE.out, trivial⟩
        rw [decide_eq_true (take_all_eq (by rw [Hn.out, Km.out]) (by rw [Hn.out]; exact HT.out))]
      · obtain ⟨b, off, r, hao, ⟨hc1, hc2, hc3⟩, hP⟩ := (H.out.ext HE.out).at (k := j) (by omega)
        obtain ⟨b', off', r', hbo, ⟨hd1, hd2, hd3⟩, hQ⟩ := (K.out.ext HE.out).at (k := j) (by omega)
        subst hao hbo
        obtain ⟨rneg, ra, rn, rc, rb, rm, rd⟩ := r
        obtain ⟨sneg, sa, sn, sc, sb, sm, sd⟩ := r'
        simp only at hc1 hc2 hc3 hd1 hd2 hd3
        have hbl : b < wr.heap.size := World.block_lt_of_cell? _ _ hc1
        have hbl' : b' < wr.heap.size := World.block_lt_of_cell? _ _ hd1
        have HP := Lib.hid hP
        have HQ := Lib.hid hQ
        clear hP hQ
        have hjn : (j : Int) < n := by omega
        obtain ⟨u, hu⟩ : ∃ u, u = ps.getD j 0 := ⟨_, rfl⟩
        obtain ⟨v, hv⟩ : ∃ v, v = qs.getD j 0 := ⟨_, rfl⟩
        rw [← hu] at HP
        rw [← hv] at HQ
        have Hu := Lib.hid hu
        have Hv := Lib.hid hv
        clear hu hv
        obtain ⟨B, hB⟩ : ∃ B, B = decide (u = v) := ⟨_, rfl⟩
        have HB := Lib.hid hB
        clear hB
        go_upto_region 6 with fail
        refine wp_region_front 10 (fun opIx => match opIx with
          | 8 => .spec Unit () (fun _ => .bool B) (fun _ _ => True)
          | _ => .quiet) (fun _ => []) (by kernel_rfl) (by kernel_rfl) (fun w0 he0 hz0 hc0 hf0 => ?_)
        replace he0 := Lib.hid he0
        simp only [List.take_succ_cons, List.take_zero]
        repeat (refine wpF_quiet rfl rfl rfl (fun K hK => ?_); go_big_quiet_op; refine hK _ ?_; clear hK K)
        refine wpF_spec rfl rfl (fun w1 hw1 hG => ?_) (fun x8 => ?_)
        · have hW := he0.out.trans hw1
          refine spec_call [RH.v ⟨rneg, ra, rn, rc, rb, rm, rd⟩, RH.v ⟨sneg, sa, sn, sc, sb, sm, sd⟩] rfl rfl Tryz.func99 (by kernel_rfl) (by kernel_rfl) ?_
          exact HB.out ▸ rsame3_any ⟨rneg, ra, rn, rc, rb, rm, rd⟩ ⟨sneg, sa, sn, sc, sb, sm, sd⟩ _ _ _ (HP.out.ext hW) (HQ.out.ext hW)
        simp only [Act.put, List.setIfInBounds_toArray, List.set_cons_succ, List.set_cons_zero]
        repeat (refine wpF_quiet rfl rfl rfl (fun K hK => ?_); go_big_quiet_op; refine hK _ ?_; clear hK K)
        refine wpF_nil ?_
        intro w2 hI
        have hE := he0.out.trans hI.ext
        clear hI he0 hz0 hc0 hf0
        replace HE := Lib.hid (HE.out.trans hE)
        have hs_w2 := hE.size
        clear hE
        simp only [List.drop_succ_cons, List.drop_zero]
        cases B
        · have hne : ¬ ps = qs := fun e => by
            have := HB.out
            rw [Hu.out, Hv.out, e] at this
            simp at this
          go_wp2
          go_ret
          exact ⟨(), ret_bool (decide_eq_false hne).symm, HE.out, trivial⟩
        · have hpq : ps.getD j 0 = qs.getD j 0 := by
            rw [← Hu.out, ← Hv.out]
            exact of_decide_eq_true HB.out.symm
          have Hpq := Lib.hid hpq
          clear hpq
          go_wp2
          go_roundg (gk - 1)
          case measure => omega
          case rel => exact ⟨j + 1, by omega, by go_num, HE.out, take_next HT.out (by rw [Hn.out]; omega) (by rw [Km.out]; omega) Hpq.out⟩
  · go_wp2
    go_ret
    refine ⟨(), ret_bool ?_, Ext.refl _, trivial⟩
    have : ¬ ps = qs := by rintro rfl; exact hnm (Hn.out.symm.trans Km.out)
    rw [decide_eq_false this]
set_option maxRecDepth 4000 in
theorem equal_any (s t : SH) (ps qs : List Rat) (w : World) (h : CanL w s ps) (k : CanL w t qs) : Does 59 [s.v, t.v] w (fun _ : Unit => .bool (decide (ps = qs))) (fun _ _ => True) := by
  obtain ⟨ao, n, c⟩ := s
  obtain ⟨bo, m, d⟩ := t
  have H := Lib.hid h
  have K := Lib.hid k
  clear h k
  unfold Does
  change Calls Tryz.prog _ #[.slice ao n c, .slice bo m d] w _
  go_enter Tryz.func59, Tryz.ntmps59
  go_wp2_with fail
  refine Calls.mono (samelist_any ⟨ao, n, c⟩ ⟨bo, m, d⟩ ps qs _ H.out K.out) ?_
  rintro e w1 ⟨x1, rfl, hE1, -⟩
  have HE := Lib.hid hE1
  clear hE1
  go_wp2
  go_ret
  exact ⟨(), rfl, HE.out, trivial⟩
end Go.Proofs.YteafdebcihbjdaaGreat
/- Trim, At of the reference 05; Poly of make. -/
namespace Go.Proofs.YteafdebcihbjdaaGreat
open Go.RowKit Go.Front Go.Num
attribute [local go_sem] XW.cell XW.frozen
theorem RawL.cells' {w : World} {ao : Option Addr} {n c : Nat} {qs : List Rat} (h : RawL w ⟨ao, n, c⟩ qs) {k : Nat} (hk : k < n) : ∃ b off r, ao = some ⟨b, off, none⟩ ∧ b < w.heap.size ∧ RAt w b (off + k * 3) r ∧ RawR w r (qs.getD k 0) :=
  let ⟨b, off, r, h1, h2, h3⟩ := h.at hk; ⟨b, off, r, h1, World.block_lt_of_cell? _ _ h2.1, h2, h3⟩
set_option maxRecDepth 4000 in
set_option maxHeartbeats 2000000 in
theorem trim5_any (ao : Option Addr) (n cap : Nat) (qs : List Rat) (w : World) (h : RawL w ⟨ao, n, cap⟩ qs) (hn : n ≤ 1073741824) :
    Does 45 [.slice ao n cap] w SH.v (fun s w' => NewL w.heap.size w' s (tz qs)) := by
  have H := Lib.hid h
  have HX := Lib.hid (Ext.refl w)
  have hle := h.le
  have hmx := h.max
  have Hlen := Lib.hid h.len
  simp only at hle hmx Hlen
  clear h
  unfold Does
  go_enter Tryz.func45, Tryz.ntmps45
  go_wp2
  go_loopg [3] n (fun g nv wr => nv = .int .i64 (g : Nat) ∧ g ≤ n ∧ tz qs = tz (qs.take g) ∧ Ext w wr)
  case atStart => exact ⟨rfl, Nat.le_refl _, by rw [List.take_of_length_le (by rw [Hlen.out]; exact Nat.le_refl _)], Ext.refl _⟩
  case round =>
    obtain ⟨rfl, hg, hs, hE⟩ := hrel
    clear HX
    have Hs := Lib.hid hs
    have HX := Lib.hid hE
    have hsz := hE.size
    clear hs hE
    by_cases h0 : gk = 0
    · subst h0
      have HT : Hid (tz qs = qs.take 0) := Lib.hid (by rw [Hs.out]; rfl)
      have HTl : Hid ((tz qs).length = 0) := Lib.hid (by rw [HT.out]; rfl)
      go_wp2
      go_loopg [4, 26] 0 (fun g v i wr => ∃ j : Nat, j + g = 0 ∧ i = .int .i64 (j : Nat) ∧ Ext w wr ∧ OwnQ wr (w.heap.size ≤ ·) v ((tz qs).take j))
      case atStart => exact ⟨0, by omega, rfl, HX.out, OwnQ.nil _ _⟩
      case round =>
        obtain ⟨j, hj, rfl, g1, g2⟩ := hrel
        obtain ⟨s, rfl⟩ := g2.sh
        clear HX
        have HX := Lib.hid g1
        have HO := Lib.hid g2
        have hsz := g1.size
        clear g1 g2
        by_cases h0 : gk = 0
        · subst h0
          obtain rfl : j = 0 := by omega
          go_wp2
          go_ret
          refine ⟨s, rfl, HX.out, ?_⟩
          have := HO.out.lin
          rwa [List.take_of_length_le (by rw [HTl.out]; exact Nat.le_refl _)] at this
        · omega
    · obtain ⟨k, rfl⟩ : ∃ m, gk = m + 1 := ⟨gk - 1, by omega⟩
      obtain ⟨b, off, r, hao, hbl, ⟨hc1, hc2, hc3⟩, hP⟩ := (H.out.ext HX.out).cells' (k := k) (by omega)
      obtain ⟨rneg, ra, rn, rc, rb, rm, rd⟩ := r
      simp only at hc1 hc2 hc3
      have HP := Lib.hid hP
      clear hP h0
      have Hao := Lib.hid hao
      subst hao
      go_wp2_with fail
      refine Calls.mono (rsign3_any ⟨rneg, ra, rn, rc, rb, rm, rd⟩ _ _ HP.out) ?_
      rintro e w1 ⟨x1, rfl, hE, -⟩
      replace HX := Lib.hid (HX.out.trans hE)
      have hs_w1 := hE.size
      clear hE
      have HZ := Lib.hid (cmpR_self0 (qs.getD k 0))
      obtain ⟨c, hc⟩ : ∃ c, c = cmpR (qs.getD k 0) 0 := ⟨_, rfl⟩
      rw [← hc] at HZ ⊢
      clear hc HP hc1 hc2 hc3 hbl
      by_cases hz : c = 0
      · subst hz
        have Hz0 := Lib.hid (HZ.out.1 rfl)
        clear HZ
        go_wp2
        go_roundg k
        case measure => omega
        case rel => exact ⟨by go_num, by omega, by rw [Hs.out, tz_zero (by rw [Hlen.out]; omega) Hz0.out], HX.out⟩
      · have hzb : (c == 0) = false := by simpa using hz
        have HT : Hid (tz qs = qs.take (k + 1)) := Lib.hid (by rw [Hs.out, tz_stop (by rw [Hlen.out]; omega) (fun h => hz (HZ.out.2 h))])
        have HTl : Hid ((tz qs).length = k + 1) := Lib.hid (by rw [HT.out, List.length_take, Hlen.out]; omega)
        clear HZ hz
        go_wp2
        go_loopg [4, 26] (k + 1) (fun g v i wr => ∃ j : Nat, j + g = (k + 1) ∧ i = .int .i64 (j : Nat) ∧ Ext w wr ∧ OwnQ wr (w.heap.size ≤ ·) v ((tz qs).take j))
        case atStart => exact ⟨0, by omega, rfl, HX.out, OwnQ.nil _ _⟩
        case round =>
          obtain ⟨j, hj, rfl, g1, g2⟩ := hrel
          obtain ⟨s, rfl⟩ := g2.sh
          clear HX
          have HX := Lib.hid g1
          have HO := Lib.hid g2
          have hsz := g1.size
          clear g1 g2
          by_cases h0 : gk = 0
          · subst h0
            obtain rfl : j = (k + 1) := by omega
            go_wp2
            go_ret
            refine ⟨s, rfl, HX.out, ?_⟩
            have := HO.out.lin
            rwa [List.take_of_length_le (by rw [HTl.out]; exact Nat.le_refl _)] at this
          · obtain ⟨b', off', r, hao, hbl, ⟨hc1, hc2, hc3⟩, hP⟩ := (H.out.ext HX.out).cells' (k := j) (by omega)
            obtain ⟨rfl, rfl⟩ : b = b' ∧ off = off' := by simpa using hao
            obtain ⟨rneg, ra, rn, rc, rb, rm, rd⟩ := r
            simp only at hc1 hc2 hc3
            have HP := Lib.hid hP
            clear hP
            have hjn : (j : Int) < (k + 1) := by omega
            go_upto_region 8 with fail
            refine nm_alloc ?_
            intro w1 hE hB0 hz
            have hz_w1 := Nat.le_of_eq hz
            have hr_w1 := Nat.le_of_eq hz.symm
            clear hz
            replace HX := Lib.hid (HX.out.trans hE)
            replace HO := Lib.hid (HO.out.ext hE)
            replace HP := Lib.hid (HP.out.ext hE)
            have hs_w1 := hE.size
            clear hE
            have B6 := Lib.hid hB0
            clear hB0
            have c_B6 := blk_cell B6.out
            have f_B6 := blk_frozen B6.out
            have l_B6 := (Array.getElem?_eq_some_iff.1 B6.out).1
            go_wp2_with fail
            refine Calls.mono (rtrim3_any ⟨rneg, ra, rn, rc, rb, rm, rd⟩ (qs.getD j 0) _ HP.out) ?_
            rintro e w2 ⟨x2, rfl, hE, g2⟩
            have G2 := Lib.hid g2
            clear g2
            replace HX := Lib.hid (HX.out.trans hE)
            replace HO := Lib.hid (HO.out.ext hE)
            replace HP := Lib.hid (HP.out.ext hE)
            replace B6 := Lib.hid (hE.block B6.out)
            have hs_w2 := hE.size
            clear hE
            (try clear c_B6 f_B6 l_B6)
            have c_B6 := blk_cell B6.out
            have f_B6 := blk_frozen B6.out
            have l_B6 := (Array.getElem?_eq_some_iff.1 B6.out).1
            go_wp2_with (at_builtin; refine wpList_append_n rfl (.tmp 30) (.tmp 33) 42 Tryz.underlying42 rfl (w.heap.size ≤ ·) _ _ x2 _ rfl HO.out rfl G2.out (by simp; omega) (fun k hk => by omega) ?_; intro s' y3 q1 q2 q3)
            have HX3 := Lib.hid (Ext.mods HX.out q2 (fun k h => h))
            have HO3 : Hid (OwnQ y3 (w.heap.size ≤ ·) s'.v ((tz qs).take (j + 1))) := Lib.hid (by
              rw [← take_snoc (l := tz qs) (by rw [HTl.out]; omega)]
              have e : (tz qs).getD j 0 = qs.getD j 0 := by
                rw [HT.out]
                simp [show j < (k + 1) by omega]
              rw [e]
              exact q1)
            clear q1 q2 q3
            go_wp2
            go_roundg (gk - 1)
            case measure => omega
            case rel => exact ⟨j + 1, by omega, by go_num, HX3.out, HO3.out⟩
end Go.Proofs.YteafdebcihbjdaaGreat
