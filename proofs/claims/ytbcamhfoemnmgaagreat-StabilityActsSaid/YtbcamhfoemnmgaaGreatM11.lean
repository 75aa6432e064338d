/- Rf6, Rf7, Rf8, StbR, StbS -/
import Derived.Test.YtbcamhfoemnmgaaGreatM8
import Derived.Test.YtbcamhfoemnmgaaGreatM9
import Derived.Test.YtbcamhfoemnmgaaGreatM10
set_option linter.unusedVariables false
/- At, Add, Mul of the reference 05; Poly of make. -/
namespace Go.Proofs.YtbcamhfoemnmgaaGreat
open Go.RowKit Go.Front Go.Num
attribute [local go_sem] XW.cell XW.frozen
theorem getD_over' {qs : List Rat} {i : Nat} (h : qs.length ≤ i) : qs.getD i 0 = 0 := by
  rw [List.getD_eq_getElem?_getD, List.getElem?_eq_none h]; rfl
set_option maxRecDepth 4000 in
set_option maxHeartbeats 1000000 in
theorem at5_any (ao : Option Addr) (n cap : Nat) (qs : List Rat) (i : Nat) (w : World) (h : RawL w ⟨ao, n, cap⟩ qs) (hi : i ≤ 1073741824) :
    Does 69 [.slice ao n cap, .int .i64 (i : Nat)] w RH.v (fun x w' => CanR w' x (qs.getD i 0)) := by
  have HX := Lib.hid (Ext.refl w)
  have hle := h.le
  have hmx := h.max
  have hlen := h.len
  simp only at hle hmx hlen
  unfold Does
  by_cases hin : i < n
  · obtain ⟨b, off, r, hao, hbl, ⟨hc1, hc2, hc3⟩, hP⟩ := h.cells' (k := i) hin
    subst hao
    obtain ⟨rneg, ra, rn, rc, rb, rm, rd⟩ := r
    simp only at hc1 hc2 hc3
    have HP := Lib.hid hP
    clear hP h hlen
    go_enter Tryz.func69, Tryz.ntmps69
    go_wp2_with fail
    refine nm_alloc (F := fun W => Calls _ _ _ W _) ?_
    intro w1 hE hB0 hz
    have hz_w1 := Nat.le_of_eq hz
    have hr_w1 := Nat.le_of_eq hz.symm
    clear hz
    replace HX := Lib.hid (HX.out.trans hE)
    replace HP := Lib.hid (HP.out.ext hE)
    have hs_w1 := hE.size
    clear hE
    have B4 := Lib.hid hB0
    clear hB0
    have c_B4 := blk_cell B4.out
    have f_B4 := blk_frozen B4.out
    have l_B4 := (Array.getElem?_eq_some_iff.1 B4.out).1
    change Calls _ _ _ _ _
    refine Calls.mono (rtrim3_any ⟨rneg, ra, rn, rc, rb, rm, rd⟩ (qs.getD i 0) _ HP.out) ?_
    rintro e w2 ⟨x2, rfl, hE, g2⟩
    have G2 := Lib.hid g2
    clear g2
    replace HX := Lib.hid (HX.out.trans hE)
    replace HP := Lib.hid (HP.out.ext hE)
    replace B4 := Lib.hid (hE.block B4.out)
    have hs_w2 := hE.size
    clear hE
    (try clear c_B4 f_B4 l_B4)
    have c_B4 := blk_cell B4.out
    have f_B4 := blk_frozen B4.out
    have l_B4 := (Array.getElem?_eq_some_iff.1 B4.out).1
    go_wp2
    have hF := ((((Fin.start (L := w.heap.size) HX.out (noU_block B4.out rfl)).set (by omega) (i := 0) (v := .bool x2.neg) rfl).set (by omega) (i := 1) (v := .slice x2.a x2.n x2.c) rfl).set (by omega) (i := 2) (v := .slice x2.b x2.m x2.d) rfl)
    exact bodyPost_ret (v := x2.v) (by simp [results, Tryz.results69, go_sem, blk_cell B4.out]) rfl ⟨x2, rfl, hF.ext, G2.out.keep hF.keep⟩
  · have HZ : Hid (qs.getD i 0 = ((0 : Int) : Rat)) := Lib.hid (getD_over' (by omega))
    clear h hlen
    go_enter Tryz.func69, Tryz.ntmps69
    go_wp2_with fail
    refine nm_alloc (F := fun W => Calls _ _ _ W _) ?_
    intro w1 hE hB0 hz
    have hz_w1 := Nat.le_of_eq hz
    have hr_w1 := Nat.le_of_eq hz.symm
    clear hz
    replace HX := Lib.hid (HX.out.trans hE)
    have hs_w1 := hE.size
    clear hE
    have B4 := Lib.hid hB0
    clear hB0
    have c_B4 := blk_cell B4.out
    have f_B4 := blk_frozen B4.out
    have l_B4 := (Array.getElem?_eq_some_iff.1 B4.out).1
    change Calls _ _ _ _ _
    refine Calls.mono (rof3_any 0 _ (by decide) (by decide)) ?_
    rintro e w2 ⟨x2, rfl, hE, g2⟩
    have G2 := Lib.hid g2
    clear g2
    replace HX := Lib.hid (HX.out.trans hE)
    replace B4 := Lib.hid (hE.block B4.out)
    have hs_w2 := hE.size
    clear hE
    (try clear c_B4 f_B4 l_B4)
    have c_B4 := blk_cell B4.out
    have f_B4 := blk_frozen B4.out
    have l_B4 := (Array.getElem?_eq_some_iff.1 B4.out).1
    go_wp2
    have hF := ((((Fin.start (L := w.heap.size) HX.out (noU_block B4.out rfl)).set (by omega) (i := 0) (v := .bool x2.neg) rfl).set (by omega) (i := 1) (v := .slice x2.a x2.n x2.c) rfl).set (by omega) (i := 2) (v := .slice x2.b x2.m x2.d) rfl)
    exact bodyPost_ret (v := x2.v) (by simp [results, Tryz.results69, go_sem, blk_cell B4.out]) rfl ⟨x2, rfl, hF.ext, (by rw [HZ.out]; exact G2.out.keep hF.keep)⟩
def polyQ (xs : List Int) (d : Nat) : List Rat := tz ((xs.take (d + 1)).map ratQ)
theorem rat_all : ∀ a : Nat, a < 25 → ∀ b : Nat, b < 8 → ((((a : Int) - 12 : Int) : Rat) / ((1 + (b : Int) : Int) : Rat)).num.natAbs < W32 ∧ ((((a : Int) - 12 : Int) : Rat) / ((1 + (b : Int) : Int) : Rat)).den < W32 := by decide +kernel
theorem ratQ_sz (n : Int) : Sz 1 (ratQ n) := by
  have h1 := Int.emod_nonneg n (show (25 : Int) ≠ 0 by decide)
  have h2 := Int.emod_lt_of_pos n (show (0 : Int) < 25 by decide)
  have h3 := Int.emod_nonneg (n.tdiv 25) (show (8 : Int) ≠ 0 by decide)
  have h4 := Int.emod_lt_of_pos (n.tdiv 25) (show (0 : Int) < 8 by decide)
  have h := rat_all (n % 25).toNat (by omega) (n.tdiv 25 % 8).toNat (by omega)
  rw [show (((n % 25).toNat : Nat) : Int) = n % 25 by omega, show (((n.tdiv 25 % 8).toNat : Nat) : Int) = n.tdiv 25 % 8 by omega] at h
  exact ⟨by rw [Nat.pow_one]; exact h.1, by rw [Nat.pow_one]; exact h.2⟩
theorem rats_sz (xs : List Int) : SzL 1 (xs.map ratQ) := by
  intro q hq
  obtain ⟨n, -, rfl⟩ := List.mem_map.1 hq
  exact ratQ_sz n
set_option maxRecDepth 4000 in
set_option maxHeartbeats 1000000 in
theorem poly_any (ao : Option Addr) (cap d : Nat) (xs : List Int) (w : World) (h : IntsAt w ao xs) (hr : InR xs) (hl : xs.length ≤ 9223372036854775807) (hd : d ≤ 1000) (hc : xs.length ≤ cap) (hcm : cap ≤ 9223372036854775807) :
    Does 47 [.slice ao xs.length cap, .int .i64 (d : Nat)] w SH.v (fun s w' => NewL w.heap.size w' s (polyQ xs d)) := by
  have HX := Lib.hid (Ext.refl w)
  unfold Does
  by_cases hgt : d + 1 < xs.length
  · have hz : (xs.take (d + 1)).length = d + 1 := by rw [List.length_take]; omega
    have hcl := rats_any ao cap (xs.take (d + 1)) w (IntsAt.take h _) (hr.take _) (by omega) (by omega) hcm
    rw [hz] at hcl
    have HC := Lib.hid hcl
    have Hz := Lib.hid hz
    obtain ⟨n, hn⟩ : ∃ n, n = xs.length := ⟨_, rfl⟩
    rw [← hn] at hl hc hgt ⊢
    clear h hr hn hcl hz
    go_enter Tryz.func47, Tryz.ntmps47
    go_wp2_with fail
    refine Calls.mono (HC.out) ?_
    rintro e w1 ⟨x1, rfl, hE, g1⟩
    have G1 := Lib.hid g1
    clear g1
    replace HX := Lib.hid (HX.out.trans hE)
    have hs_w1 := hE.size
    clear hE
    obtain ⟨ra, rn, rc⟩ := x1
    simp only [SH.v]
    have hrn : d + 1 = rn := by have := G1.out.len; rw [List.length_map, Hz.out] at this; exact this
    subst hrn
    go_wp2_with fail
    refine Calls.mono (trim5_any ra (d + 1) rc _ _ (G1.out.can.raw (rats_sz _) (by decide)) (by omega)) ?_
    rintro e w2 ⟨x2, rfl, hE, g2⟩
    have G2 := Lib.hid g2
    clear g2
    replace HX := Lib.hid (HX.out.trans hE)
    have hs_w2 := hE.size
    clear hE
    go_wp2
    go_ret
    exact ⟨x2, rfl, HX.out, G2.out.mono hs_w1⟩
  · have hcl := rats_any ao cap xs w h hr (by omega) hc hcm
    have HC := Lib.hid hcl
    have HT : Hid (xs.take (d + 1) = xs) := Lib.hid (List.take_of_length_le (by omega))
    obtain ⟨n, hn⟩ : ∃ n, n = xs.length := ⟨_, rfl⟩
    have Hn := Lib.hid hn
    rw [← hn] at hl hc hgt HC ⊢
    clear h hr hn hcl
    go_enter Tryz.func47, Tryz.ntmps47
    go_wp2_with fail
    refine Calls.mono (HC.out) ?_
    rintro e w1 ⟨x1, rfl, hE, g1⟩
    have G1 := Lib.hid g1
    clear g1
    replace HX := Lib.hid (HX.out.trans hE)
    have hs_w1 := hE.size
    clear hE
    obtain ⟨ra, rn, rc⟩ := x1
    simp only [SH.v]
    have hrn : n = rn := by have := G1.out.len; rw [List.length_map, ← Hn.out] at this; exact this
    subst hrn
    go_wp2_with fail
    refine Calls.mono (trim5_any ra n rc _ _ (G1.out.can.raw (rats_sz _) (by decide)) (by omega)) ?_
    rintro e w2 ⟨x2, rfl, hE, g2⟩
    have G2 := Lib.hid g2
    clear g2
    replace HX := Lib.hid (HX.out.trans hE)
    have hs_w2 := hE.size
    clear hE
    go_wp2
    go_ret
    exact ⟨x2, rfl, HX.out, by unfold polyQ; rw [HT.out]; exact G2.out.mono hs_w1⟩
end Go.Proofs.YtbcamhfoemnmgaaGreat
/- Add, Mul of the reference 05. -/
namespace Go.Proofs.YtbcamhfoemnmgaaGreat
open Go.RowKit Go.Front Go.Num
attribute [local go_sem] XW.cell XW.frozen
theorem range_snoc' (g : Nat → Rat) (j : Nat) : (List.range (j + 1)).map g = (List.range j).map g ++ [g j] := by rw [List.range_succ, List.map_append]; rfl
def add5V (ps qs : List Rat) : List Rat := tz ((List.range (max ps.length qs.length)).map (fun i => ps.getD i 0 + qs.getD i 0))
set_option maxRecDepth 4000 in
set_option maxHeartbeats 1000000 in
theorem add5_any (ao bo : Option Addr) (n c m d : Nat) (ps qs : List Rat) (w : World) (h : RawL w ⟨ao, n, c⟩ ps) (k : RawL w ⟨bo, m, d⟩ qs) (hn : n ≤ 1073741823) (hm : m ≤ 1073741823) (hz : SzL 8388608 ps) (kz : SzL 8388608 qs) :
    Does 118 [.slice ao n c, .slice bo m d] w SH.v (fun s w' => NewL w.heap.size w' s (add5V ps qs)) := by
  have H := Lib.hid h
  have K := Lib.hid k
  have HX := Lib.hid (Ext.refl w)
  have h1 := h.le
  have h2 := h.max
  have k1 := k.le
  have k2 := k.max
  have Hn := Lib.hid h.len
  have Hm := Lib.hid k.len
  simp only at h1 h2 k1 k2 Hn Hm
  have HZ := Lib.hid hz
  have KZ := Lib.hid kz
  clear h k hz kz
  obtain ⟨M, hM⟩ : ∃ M, M = max n m := ⟨_, rfl⟩
  have HM := Lib.hid hM
  have hM1 : n ≤ M := by omega
  have hM2 : m ≤ M := by omega
  have hM3 : M ≤ 1073741823 := by omega
  have hM4 : M = n ∨ M = m := by omega
  clear hM
  unfold Does
  go_enter Tryz.func118, Tryz.ntmps118
  go_wp2
  go_loopg [5, 6] M (fun g v i wr => ∃ (j : Nat) (s : SH), v = s.v ∧ j + g = M ∧ i = .int .i64 (j : Nat) ∧ Ext w wr ∧ OwnQ wr (w.heap.size ≤ ·) s.v ((List.range j).map (fun i => ps.getD i 0 + qs.getD i 0)))
  case atStart => exact ⟨0, ⟨none, 0, 0⟩, rfl, by omega, rfl, HX.out, OwnQ.nil _ _⟩
  case round =>
    obtain ⟨j, s, rfl, hj, rfl, g1, g2⟩ := hrel
    clear HX
    have HX := Lib.hid g1
    have HO := Lib.hid g2
    have hsz := g1.size
    clear g1 g2
    by_cases hP : j < n
    · have hPi : (j : Int) < n := by omega
      have hc1 := Lib.hid (Ext.refl wr)
      go_wp2_with fail
      refine Calls.mono (at5_any ao n c ps j _ (H.out.ext HX.out) (by omega)) ?_
      rintro e w1 ⟨x1, rfl, hE, g1⟩
      have G1 := Lib.hid g1
      clear g1
      replace HX := Lib.hid (HX.out.trans hE)
      replace HO := Lib.hid (HO.out.ext hE)
      have hs_w1 := hE.size
      clear hE
      go_wp2_with fail
      refine Calls.mono (at5_any bo m d qs j _ (K.out.ext HX.out) (by omega)) ?_
      rintro e w2 ⟨x2, rfl, hE, g2⟩
      have G2 := Lib.hid g2
      clear g2
      replace HX := Lib.hid (HX.out.trans hE)
      replace HO := Lib.hid (HO.out.ext hE)
      replace G1 := Lib.hid (G1.out.ext hE)
      have hs_w2 := hE.size
      clear hE
      go_wp2_with fail
      refine Calls.mono (radd3_any x1 x2 _ _ _ (G1.out.raw (HZ.out.getD (by decide) j) (by decide)) (G2.out.raw (KZ.out.getD (by decide) j) (by decide))) ?_
      rintro e w3 ⟨x3, rfl, hE, g3⟩
      have G3 := Lib.hid g3
      clear g3
      replace HX := Lib.hid (HX.out.trans hE)
      replace HO := Lib.hid (HO.out.ext hE)
      replace G1 := Lib.hid (G1.out.ext hE)
      replace G2 := Lib.hid (G2.out.ext hE)
      have hs_w3 := hE.size
      clear hE
      go_wp2_with (at_builtin; refine wpList_append_n rfl (.tmp 19) (.tmp 27) 33 Tryz.underlying33 rfl (w.heap.size ≤ ·) _ _ x3 _ rfl HO.out rfl G3.out (by simp; omega) (fun k hk => by omega) ?_; intro s' y3 q1 q2 q3)
      have HX3 := Lib.hid (Ext.mods HX.out q2 (fun k h => h))
      have HO3 : Hid (OwnQ y3 (w.heap.size ≤ ·) s'.v ((List.range (j + 1)).map (fun i => ps.getD i 0 + qs.getD i 0))) := Lib.hid (by rw [range_snoc' (fun i => ps.getD i 0 + qs.getD i 0)]; exact q1)
      clear q1 q2 q3
      go_wp2
      go_roundg (gk - 1)
      case measure => omega
      case rel => exact ⟨j + 1, s', rfl, by omega, by go_num, HX3.out, HO3.out⟩
    · have hPi : ¬ (j : Int) < n := by omega
      by_cases hQ : j < m
      · have hQi : (j : Int) < m := by omega
        have hc1 := Lib.hid (Ext.refl wr)
        go_wp2_with fail
        refine Calls.mono (at5_any ao n c ps j _ (H.out.ext HX.out) (by omega)) ?_
        rintro e w1 ⟨x1, rfl, hE, g1⟩
        have G1 := Lib.hid g1
        clear g1
        replace HX := Lib.hid (HX.out.trans hE)
        replace HO := Lib.hid (HO.out.ext hE)
        have hs_w1 := hE.size
        clear hE
        go_wp2_with fail
        refine Calls.mono (at5_any bo m d qs j _ (K.out.ext HX.out) (by omega)) ?_
        rintro e w2 ⟨x2, rfl, hE, g2⟩
        have G2 := Lib.hid g2
        clear g2
        replace HX := Lib.hid (HX.out.trans hE)
        replace HO := Lib.hid (HO.out.ext hE)
        replace G1 := Lib.hid (G1.out.ext hE)
        have hs_w2 := hE.size
        clear hE
        go_wp2_with fail
        refine Calls.mono (radd3_any x1 x2 _ _ _ (G1.out.raw (HZ.out.getD (by decide) j) (by decide)) (G2.out.raw (KZ.out.getD (by decide) j) (by decide))) ?_
        rintro e w3 ⟨x3, rfl, hE, g3⟩
        have G3 := Lib.hid g3
        clear g3
        replace HX := Lib.hid (HX.out.trans hE)
        replace HO := Lib.hid (HO.out.ext hE)
        replace G1 := Lib.hid (G1.out.ext hE)
        replace G2 := Lib.hid (G2.out.ext hE)
        have hs_w3 := hE.size
        clear hE
        go_wp2_with (at_builtin; refine wpList_append_n rfl (.tmp 19) (.tmp 27) 33 Tryz.underlying33 rfl (w.heap.size ≤ ·) _ _ x3 _ rfl HO.out rfl G3.out (by simp; omega) (fun k hk => by omega) ?_; intro s' y3 q1 q2 q3)
        have HX3 := Lib.hid (Ext.mods HX.out q2 (fun k h => h))
        have HO3 : Hid (OwnQ y3 (w.heap.size ≤ ·) s'.v ((List.range (j + 1)).map (fun i => ps.getD i 0 + qs.getD i 0))) := Lib.hid (by rw [range_snoc' (fun i => ps.getD i 0 + qs.getD i 0)]; exact q1)
        clear q1 q2 q3
        go_wp2
        go_roundg (gk - 1)
        case measure => omega
        case rel => exact ⟨j + 1, s', rfl, by omega, by go_num, HX3.out, HO3.out⟩
      · have hQi : ¬ (j : Int) < m := by omega
        obtain rfl : j = M := by omega
        have hsn := OwnQ.len HO.out
        rw [List.length_map, List.length_range] at hsn
        obtain ⟨sa, sn, sc⟩ := s
        simp only at hsn
        subst hsn
        have HSz : Hid (SzL 16777217 ((List.range j).map (fun i => ps.getD i 0 + qs.getD i 0))) := Lib.hid (by
          intro q hq
          obtain ⟨i, -, rfl⟩ := List.mem_map.1 hq
          exact ((HZ.out.getD (by decide) i).add (KZ.out.getD (by decide) i)).mono (by decide))
        go_wp2_with fail
        refine Calls.mono (trim5_any sa j sc _ _ ((OwnQ.can (s := ⟨sa, j, sc⟩) HO.out).raw HSz.out (by decide)) (by omega)) ?_
        rintro e w1 ⟨x1, rfl, hE, g1⟩
        have G1 := Lib.hid g1
        clear g1
        replace HX := Lib.hid (HX.out.trans hE)
        replace HO := Lib.hid (HO.out.ext hE)
        have hs_w1 := hE.size
        clear hE
        go_wp2
        go_ret
        refine ⟨x1, rfl, HX.out, ?_⟩
        unfold add5V
        rw [Hn.out, Hm.out, ← HM.out]
        exact G1.out.mono hsz
/-- The product so far: i rows whole, and k of the row i. -/
def pmS (p q : List Rat) (i k n : Nat) : Rat := Stab.sm i (fun i' => p.getD i' 0 * Stab.shn i' (Stab.seq q) n) + if i ≤ n ∧ n < i + k then p.getD i 0 * q.getD (n - i) 0 else 0
theorem pmS_zero (p q : List Rat) (n : Nat) : pmS p q 0 0 n = 0 := by
  unfold pmS
  rw [if_neg (by omega)]
  show (0 : Rat) + 0 = 0
  grind
theorem pmS_here (p q : List Rat) (i k : Nat) : pmS p q i (k + 1) (i + k) = pmS p q i k (i + k) + p.getD i 0 * q.getD k 0 := by
  unfold pmS
  rw [if_pos (by omega), if_neg (by omega), show i + k - i = k by omega]
  grind
theorem pmS_else {p q : List Rat} {i k n : Nat} (h : n ≠ i + k) : pmS p q i (k + 1) n = pmS p q i k n := by
  unfold pmS
  by_cases h1 : i ≤ n ∧ n < i + k
  · rw [if_pos h1, if_pos (by omega)]
  · rw [if_neg h1, if_neg (by omega)]
theorem pmS_next {p q : List Rat} {i k : Nat} (hk : q.length = k) (n : Nat) : pmS p q (i + 1) 0 n = pmS p q i k n := by
  unfold pmS
  rw [if_neg (by omega)]
  simp only [Stab.sm]
  have e : Stab.shn i (Stab.seq q) n = if i ≤ n ∧ n < i + k then q.getD (n - i) 0 else 0 := by
    unfold Stab.shn Stab.seq
    by_cases h1 : i ≤ n
    · rw [if_pos h1]
      by_cases h2 : n < i + k
      · rw [if_pos ⟨h1, h2⟩]
      · rw [if_neg (by omega), getD_over' (by omega)]
    · rw [if_neg h1, if_neg (by omega)]
  rw [e]
  split <;> grind
theorem pmS_end (p q : List Rat) (n : Nat) : pmS p q p.length 0 n = Stab.ap p (Stab.seq q) n := by
  unfold pmS
  rw [if_neg (by omega), Stab.ap_sum]
  grind
/-- A block of numbers in any form. -/
def OutB (w : World) (L : Nat) (os : List Rat) (b : Nat) : Prop := ∃ rs, RBk w L rs #[] ∧ Vals RawR w rs os ∧ SzL b os
theorem OutB.ext {w w' : World} {L b : Nat} {os : List Rat} (h : OutB w L os b) (he : Ext w w') : OutB w' L os b := let ⟨rs, h1, h2, h3⟩ := h; ⟨rs, h1.ext he, h2.raw_ext he, h3⟩
theorem OutB.lt {w : World} {L b : Nat} {os : List Rat} (h : OutB w L os b) : L < w.heap.size := let ⟨_, h1, _⟩ := h; h1.lt
theorem rawR_default (w : World) : RawR w default 0 := ⟨[], [], u32_none _, u32_none _, by decide +kernel, by decide, by decide⟩
theorem OutB.start {w : World} {L M : Nat} (h : RBk w L (List.replicate M default) #[]) : OutB w L (List.replicate M 0) 1 := by
  refine ⟨_, h, ⟨by simp, fun k hk => ?_⟩, fun q hq => ?_⟩
  · simp only [List.length_replicate] at hk
    rw [show (List.replicate M (default : RH)).getD k default = default by simp [hk], show (List.replicate M (0 : Rat)).getD k 0 = 0 by simp [hk]]
    exact rawR_default w
  · rw [List.eq_of_mem_replicate hq]; exact Sz.zero (by decide)
theorem OutB.cells {w : World} {L b : Nat} {os : List Rat} (h : OutB w L os b) {k : Nat} (hk : k < os.length) : ∃ r, RAt w L (k * 3) r ∧ RawR w r (os.getD k 0) := by
  obtain ⟨rs, h1, h2, h3⟩ := h
  exact ⟨_, h1.at (by rw [h2.1]; exact hk), h2.2 k hk⟩
theorem Vals.rawkeep {w w' : World} {rs : List RH} {qs : List Rat} (h : Vals RawR w rs qs) (he : Keep w w') : Vals RawR w' rs qs := ⟨h.1, fun k hk => (h.2 k hk).keep he⟩
theorem Vals.set {P : World → RH → Rat → Prop} {w : World} {rs : List RH} {qs : List Rat} (h : Vals P w rs qs) {r : RH} {q : Rat} (hr : P w r q) (k : Nat) : Vals P w (rs.set k r) (qs.set k q) := by
  refine ⟨by simp [h.1], fun j hj => ?_⟩
  simp only [List.length_set] at hj
  by_cases hjk : k = j
  · subst hjk
    rw [show (rs.set k r).getD k default = r by simp [show k < rs.length by rw [h.1]; exact hj], show (qs.set k q).getD k 0 = q by simp [hj]]
    exact hr
  · rw [show (rs.set k r).getD j default = rs.getD j default by rw [List.getD_eq_getElem?_getD, List.getD_eq_getElem?_getD, List.getElem?_set_ne hjk], show (qs.set k q).getD j 0 = qs.getD j 0 by rw [List.getD_eq_getElem?_getD, List.getD_eq_getElem?_getD, List.getElem?_set_ne hjk]]
    exact h.2 j hj
theorem nm_out {w1 : World} {L b b' k : Nat} {os : List Rat} {q : Rat} {F : World → Prop} {x : RH} (h : OutB w1 L os b) (hk : k < os.length) (hx : RawR w1 x q) (hz : Sz b' q) (hb : b ≤ b')
    (H : ∀ w2, (∃ cs, PutB w1 L 30 cs w2) → OutB w2 L (os.set k q) b' → F w2) :
    F (((w1.setCell ⟨L, k * 3, none⟩ (.bool x.neg)).setCell ⟨L, k * 3 + 1, none⟩ (.slice x.a x.n x.c)).setCell ⟨L, k * 3 + 2, none⟩ (.slice x.b x.m x.d)) := by
  obtain ⟨rs, h1, h2, h3⟩ := h
  refine nm_rat h1 rfl (by rw [h2.1]; exact hk) fun w2 T => H w2 ⟨_, T⟩ ⟨rs.set k x, T.bx, (h2.rawkeep T.keep).set (hx.keep T.keep) k, fun y hy => ?_⟩
  rcases List.mem_or_eq_of_mem_set hy with h4 | h4
  · exact (h3 y h4).mono hb
  · rw [h4]; exact hz
end Go.Proofs.YtbcamhfoemnmgaaGreat
/- Mul of the reference 05. -/
namespace Go.Proofs.YtbcamhfoemnmgaaGreat
open Go.RowKit Go.Front Go.Num
attribute [local go_sem] XW.cell XW.frozen
def mul5V (ps qs : List Rat) : List Rat := tz ((List.range ((tz ps).length + (tz qs).length - 1)).map (Stab.ap (tz ps) (Stab.seq (tz qs))))
theorem tz_zeros {l : List Rat} (h : ∀ x ∈ l, x = 0) : tz l = [] := by
  induction l using Stab.snoc_ind with
  | h0 => rfl
  | h1 l r ih =>
    obtain rfl : r = 0 := h r (by simp)
    rw [tz_snoc0]
    exact ih (fun x hx => h x (by simp [hx]))
theorem ap_nil (n : Nat) (p : List Rat) : Stab.ap p (Stab.seq []) n = 0 := by
  rw [Stab.ap_sum, Stab.sm_congr (g := fun _ => 0) (fun i _ => ?_), Stab.sm_zero]
  have : Stab.shn i (Stab.seq []) n = 0 := by unfold Stab.shn Stab.seq; split <;> rfl
  rw [this]
  grind
theorem mul5_nil {ps qs : List Rat} (h : tz ps = [] ∨ tz qs = []) : mul5V ps qs = [] := by
  unfold mul5V
  apply tz_zeros
  intro x hx
  obtain ⟨n, -, rfl⟩ := List.mem_map.1 hx
  rcases h with h | h
  · rw [h]; rfl
  · rw [h]; exact ap_nil n _
theorem os_eq {os : List Rat} {M : Nat} {f : Nat → Rat} (hl : os.length = M) (h : ∀ n, n < M → os.getD n 0 = f n) : os = (List.range M).map f := by
  apply Stab.getD_ext
  · simp [hl]
  · intro i hi
    rw [hl] at hi
    rw [h i hi]
    simp [hi]
theorem OutB.raw {w : World} {L b M : Nat} {os : List Rat} (h : OutB w L os b) (hl : os.length = M) (hM : M ≤ 9223372036854775807) : RawL w ⟨some ⟨L, 0, none⟩, M, M⟩ os := by
  obtain ⟨rs, h1, h2, h3⟩ := h
  exact ⟨rs, h1.rs (by rw [h2.1, hl]) (Nat.le_refl _) hM, h2⟩
theorem set_vals {p q os : List Rat} {M i k : Nat} (hl : os.length = M) (h : ∀ n, n < M → os.getD n 0 = pmS p q i k n) (hj : i + k < M) : ∀ n, n < M → (os.set (i + k) (os.getD (i + k) 0 + p.getD i 0 * q.getD k 0)).getD n 0 = pmS p q i (k + 1) n := by
  intro n hn
  by_cases he : n = i + k
  · subst he
    rw [show (os.set (i + k) (os.getD (i + k) 0 + p.getD i 0 * q.getD k 0)).getD (i + k) 0 = os.getD (i + k) 0 + p.getD i 0 * q.getD k 0 by simp [hl, hj], h _ hn, pmS_here]
  · rw [show (os.set (i + k) (os.getD (i + k) 0 + p.getD i 0 * q.getD k 0)).getD n 0 = os.getD n 0 by rw [List.getD_eq_getElem?_getD, List.getElem?_set_ne (Ne.symm he), ← List.getD_eq_getElem?_getD], h _ hn, pmS_else he]
set_option maxRecDepth 8000 in
set_option maxHeartbeats 4000000 in
theorem mul5_any (ao bo : Option Addr) (n c m d : Nat) (ps qs : List Rat) (s : Nat) (w : World) (h : RawL w ⟨ao, n, c⟩ ps) (k : RawL w ⟨bo, m, d⟩ qs) (hn : n ≤ 100) (hm : m ≤ 100) (hz : SzL s ps) (kz : SzL s qs) (hs : s ≤ 400) :
    Does 12 [.slice ao n c, .slice bo m d] w SH.v (fun s w' => NewL w.heap.size w' s (mul5V ps qs)) := by
  obtain ⟨i0, hi0, hz0, hz1, hz2⟩ := info_parts infoR
  have H := Lib.hid h
  have K := Lib.hid k
  have HX := Lib.hid (Ext.refl w)
  have Hn := Lib.hid h.len
  have Hm := Lib.hid k.len
  simp only at Hn Hm
  have HZ := Lib.hid hz
  have KZ := Lib.hid kz
  clear h k hz kz
  unfold Does
  go_enter Tryz.func12, Tryz.ntmps12
  go_wp2_with fail
  refine Calls.mono (trim5_any ao n c ps _ H.out (by omega)) ?_
  rintro e w1 ⟨x1, rfl, hE, g1⟩
  have G1 := Lib.hid g1
  clear g1
  replace HX := Lib.hid (HX.out.trans hE)
  have hs_w1 := hE.size
  clear hE
  go_wp2_with fail
  refine Calls.mono (trim5_any bo m d qs _ (K.out.ext HX.out) (by omega)) ?_
  rintro e w2 ⟨x2, rfl, hE, g2⟩
  have G2 := Lib.hid g2
  clear g2
  replace HX := Lib.hid (HX.out.trans hE)
  replace G1 := Lib.hid (G1.out.ext hE)
  have hs_w2 := hE.size
  clear hE
  obtain ⟨pa, P, pc⟩ := x1
  obtain ⟨qa, Q, qc⟩ := x2
  simp only [SH.v]
  have hP := G1.out.len
  have hQ := G2.out.len
  have hp1 := LIn.can G1.out |>.le
  have hp2 := LIn.can G1.out |>.max
  have hq1 := LIn.can G2.out |>.le
  have hq2 := LIn.can G2.out |>.max
  have hPn := tz_len_le ps
  have hQn := tz_len_le qs
  rw [Hn.out] at hPn
  rw [Hm.out] at hQn
  simp only at hP hQ hp1 hp2 hq1 hq2
  rw [hP] at hPn
  rw [hQ] at hQn
  have HPl := Lib.hid hP
  have HQl := Lib.hid hQ
  have HPz := Lib.hid HZ.out.tz
  have HQz := Lib.hid KZ.out.tz
  have HV : Hid (mul5V ps qs = tz ((List.range (P + Q - 1)).map (Stab.ap (tz ps) (Stab.seq (tz qs))))) := Lib.hid (by unfold mul5V; rw [hP, hQ])
  clear hP hQ
  by_cases hP0 : P = 0
  · subst hP0
    have hv : mul5V ps qs = [] := mul5_nil (Or.inl (List.length_eq_zero_iff.1 HPl.out))
    go_wp2
    go_ret
    exact ⟨⟨none, 0, 0⟩, rfl, HX.out, by rw [hv]; exact NewL.nil _ _⟩
  have hPb : ((P : Int) == 0) = false := by rw [beq_eq_false_iff_ne]; omega
  by_cases hQ0 : Q = 0
  · subst hQ0
    have hv : mul5V ps qs = [] := mul5_nil (Or.inr (List.length_eq_zero_iff.1 HQl.out))
    go_wp2
    go_ret
    exact ⟨⟨none, 0, 0⟩, rfl, HX.out, by rw [hv]; exact NewL.nil _ _⟩
  have hQb : ((Q : Int) == 0) = false := by rw [beq_eq_false_iff_ne]; omega
  obtain ⟨p, hp⟩ : ∃ p, p = tz ps := ⟨_, rfl⟩
  obtain ⟨q, hq⟩ : ∃ q, q = tz qs := ⟨_, rfl⟩
  rw [← hp] at HPl HPz HV G1
  rw [← hq] at HQl HQz HV G2
  clear hp hq
  obtain ⟨M, hM⟩ : ∃ M, P + Q = M + 1 := ⟨P + Q - 1, by omega⟩
  rw [show P + Q - 1 = M by omega] at HV
  have hMi : (P : Int) + Q - 1 = M := by omega
  have hwL : w.heap.size ≤ w2.heap.size := by omega
  have HPL := Lib.hid (LIn.can G1.out)
  have HQL := Lib.hid (LIn.can G2.out)
  go_upto_region 5 with (refine wpList_make rfl (.tmp 25) (.tmp 25) 33 rfl 30 i0 (RH.v default) 3 Tryz.underlying33 hi0 hz0 hz1 _ _ M rfl rfl (by omega) (by omega) (by rw [hz2]; omega) (by omega) ?_; intro w3 hnew hE)
  have HOB := Lib.hid (OutB.start (RBk.make rfl hnew))
  have HX2 := Lib.hid hE
  clear hnew hE
  obtain ⟨L, hL⟩ : ∃ L, L = w2.heap.size := ⟨_, rfl⟩
  have hL2 : w2.heap.size ≤ L := by omega
  rw [← hL] at HOB ⊢
  clear hL
  obtain ⟨t, ht⟩ : ∃ t, t = 2 * s + 1 := ⟨_, rfl⟩
  go_wp2
  go_loopg [29] P (fun g v wr => ∃ (i : Nat) (os : List Rat), i + g = P ∧ v = .int .i64 (i : Nat) ∧ Ext w2 wr ∧ OutB wr L os (1 + i * Q * t) ∧ os.length = M ∧ ∀ n, n < M → os.getD n 0 = pmS p q i 0 n)
  case atStart => exact ⟨0, _, by omega, rfl, HX2.out, by rw [Nat.zero_mul, Nat.zero_mul]; exact HOB.out, by simp, fun n hn => by rw [pmS_zero]; simp [hn]⟩
  case round =>
    obtain ⟨i, os, hi, rfl, g1, g2, g3, g4⟩ := hrel
    clear HX2 HOB
    have HX2 := Lib.hid g1
    have HOB := Lib.hid g2
    have HOl := Lib.hid g3
    have HOv := Lib.hid g4
    clear g1 g2 g3 g4
    by_cases h0 : gk = 0
    · subst h0
      obtain rfl : i = P := by omega
      have HXw := Lib.hid (HX.out.trans HX2.out)
      have hwr := HX2.out.size
      go_wp2_with fail
      refine Calls.mono (trim5_any (some ⟨L, 0, none⟩) M M os _ (HOB.out.raw HOl.out (by omega)) (by omega)) ?_
      rintro e w3 ⟨x3, rfl, hE, g3⟩
      have G3 := Lib.hid g3
      clear g3
      replace HXw := Lib.hid (HXw.out.trans hE)
      have hs_w3 := hE.size
      clear hE
      have HOe : Hid (os = (List.range M).map (Stab.ap p (Stab.seq q))) := Lib.hid (os_eq HOl.out (fun n hn => by rw [HOv.out n hn, ← HPl.out, pmS_end]))
      go_wp2
      go_ret
      refine ⟨x3, rfl, HXw.out, ?_⟩
      rw [HV.out, ← HOe.out]
      exact G3.out.mono (by omega)
    · obtain ⟨g0, rfl⟩ : ∃ g0, gk = g0 + 1 := ⟨gk - 1, by omega⟩
      go_wp2
      go_loopg [34] Q (fun g v wr => ∃ (k : Nat) (os : List Rat), k + g = Q ∧ v = .int .i64 (k : Nat) ∧ Ext w2 wr ∧ OutB wr L os (1 + (i * Q + k) * t) ∧ os.length = M ∧ ∀ n, n < M → os.getD n 0 = pmS p q i k n)
      case atStart => exact ⟨0, os, by omega, rfl, HX2.out, HOB.out, HOl.out, HOv.out⟩
      case round =>
        obtain ⟨k, os, hk, rfl, g1, g2, g3, g4⟩ := hrel
        clear HX2 HOB HOl HOv
        have HX2 := Lib.hid g1
        have HOB := Lib.hid g2
        have HOl := Lib.hid g3
        have HOv := Lib.hid g4
        have hszr := g1.size
        clear g1 g2 g3 g4
        by_cases h1 : gk = 0
        · subst h1
          obtain rfl : k = Q := by omega
          have HOB' : Hid (OutB wr L os (1 + (i + 1) * k * t)) := Lib.hid (by rw [Nat.succ_mul]; exact HOB.out)
          go_wp2
          go_roundg g0
          case measure => omega
          case rel => exact ⟨i + 1, os, by omega, by go_num, HX2.out, HOB'.out, HOl.out, fun n hn => by rw [pmS_next HQl.out]; exact HOv.out n hn⟩
        · have hjM : i + k < M := by omega
          have hiQ : i * Q ≤ 99 * 100 := Nat.mul_le_mul (by omega) (by omega)
          have hNt : (i * Q + k + 1) * t ≤ 10000 * 801 := Nat.mul_le_mul (by omega) (by omega)
          have hst : (i * Q + k + 1) * t = (i * Q + k) * t + t := Nat.succ_mul _ _
          have Hst := Lib.hid hst
          have HNt := Lib.hid hNt
          obtain ⟨ro, hro, hrr⟩ := HOB.out.cells (k := i + k) (by rw [HOl.out]; exact hjM)
          have hzo := (let ⟨_, _, _, h3⟩ := HOB.out; h3 : SzL _ os).at (i := i + k) (by rw [HOl.out]; exact hjM)
          obtain ⟨b, off, rp, hpa, hp3, hp4⟩ := (HPL.out.ext HX2.out).at (k := i) (by omega)
          obtain ⟨b', off', rq, hqa, hq3, hq4⟩ := (HQL.out.ext HX2.out).at (k := k) (by omega)
          have hbl := RAt.lt hp3
          have hbl' := RAt.lt hq3
          have hLl := HOB.out.lt
          have hfr : ∀ x, wr.frozen? ⟨L, x, none⟩ = false := let ⟨_, h1, _⟩ := HOB.out; h1.frozen
          subst hpa hqa
          obtain ⟨on, oa, ol, oc, ob, om, od⟩ := ro
          obtain ⟨pn, pa, pl, pc', pb, pm, pd⟩ := rp
          obtain ⟨qn, qa, ql, qc', qb, qm, qd⟩ := rq
          obtain ⟨a1, a2, a3⟩ := hro
          obtain ⟨a4, a5, a6⟩ := hp3
          obtain ⟨a7, a8, a9⟩ := hq3
          simp only at a1 a2 a3 a4 a5 a6 a7 a8 a9
          obtain ⟨j, hj⟩ : ∃ j, j = i + k := ⟨_, rfl⟩
          obtain ⟨v, hv⟩ : ∃ v, v = os.getD (i + k) 0 := ⟨_, rfl⟩
          rw [← hv] at hrr hzo
          have hji : (i : Int) + k = j := by omega
          rw [← hj] at a1 a2 a3 hjM
          have Hj := Lib.hid hj
          have Hv := Lib.hid hv
          have RO := Lib.hid hrr
          have RP := Lib.hid (hp4.raw (HPz.out.at (by rw [HPl.out]; omega)) (by omega))
          have RQ := Lib.hid (hq4.raw (HQz.out.at (by rw [HQl.out]; omega)) (by omega))
          have ZP := Lib.hid (HPz.out.at (i := i) (by rw [HPl.out]; omega))
          have ZQ := Lib.hid (HQz.out.at (i := k) (by rw [HQl.out]; omega))
          have ZO := Lib.hid hzo
          clear hrr hp4 hq4 hzo hj hv hst hNt hiQ
          have hiP : (i : Int) < P := by omega
          have hkQ : (k : Int) < Q := by omega
          go_upto_region 11 with fail
          refine wp_region_front 21 (fun opIx => match opIx with
            | 18 => .spec RH default RH.v (fun s w' => CanR w' s (p.getD i 0 * q.getD k 0))
            | 19 => .spec RH default RH.v (fun s w' => CanR w' s (v + p.getD i 0 * q.getD k 0))
            | _ => .quiet) (fun | 19 => [18] | _ => []) (by kernel_rfl) (by kernel_rfl) (fun w0 he0 hz0 hc0 hf0 => ?_)
          replace he0 := Lib.hid he0
          simp only [List.take_succ_cons, List.take_zero]
          repeat (refine wpF_quiet rfl rfl rfl (fun K hK => ?_); go_big_quiet_op; refine hK _ ?_; clear hK K)
          refine wpF_spec rfl rfl (fun w1 hw1 hG => ?_) (fun x18 => ?_)
          · have hW := he0.out.trans hw1
            refine spec_call [RH.v ⟨pn, pa, pl, pc', pb, pm, pd⟩, RH.v ⟨qn, qa, ql, qc', qb, qm, qd⟩] rfl rfl Tryz.func11 (by kernel_rfl) (by kernel_rfl) ?_
            exact rmul3_any _ _ _ _ _ (RP.out.ext hW) (RQ.out.ext hW)
          simp only [Act.put, List.setIfInBounds_toArray, List.set_cons_succ, List.set_cons_zero]
          repeat (refine wpF_quiet rfl rfl rfl (fun K hK => ?_); go_big_quiet_op; refine hK _ ?_; clear hK K)
          refine wpF_spec rfl rfl (fun w1 hw1 hG => ?_) (fun x19 => ?_)
          · have hW := he0.out.trans hw1
            obtain ⟨wa18, hwa18, g18⟩ : Since _ _ := hG 18 (by decide)
            replace g18 := g18.ext hwa18
            refine spec_call [RH.v ⟨on, oa, ol, oc, ob, om, od⟩, x18.v] rfl rfl Tryz.func53 (by kernel_rfl) (by kernel_rfl) ?_
            exact radd3_any _ x18 _ _ _ (RO.out.ext hW) (g18.raw (ZP.out.mul ZQ.out) (by omega))
          simp only [Act.put, List.setIfInBounds_toArray, List.set_cons_succ, List.set_cons_zero]
          repeat (refine wpF_quiet rfl rfl rfl (fun K hK => ?_); go_big_quiet_op; refine hK _ ?_; clear hK K)
          refine wpF_nil ?_
          intro w5 hI
          have hE := he0.out.trans hI.ext
          obtain ⟨wa18, hwa18, g18⟩ : Since _ _ := hI.facts 18
          have G18 := Lib.hid (g18.ext hwa18)
          clear g18 hwa18
          obtain ⟨wa19, hwa19, g19⟩ : Since _ _ := hI.facts 19
          have G19 := Lib.hid (g19.ext hwa19)
          clear g19 hwa19
          clear hI he0 hz0 hc0 hf0
          replace HX2 := Lib.hid (HX2.out.trans hE)
          replace HOB := Lib.hid (HOB.out.ext hE)
          have hs_w5 := hE.size
          clear hE
          simp only [List.drop_succ_cons, List.drop_zero]
          have hfr5 : ∀ x, w5.frozen? ⟨L, x, none⟩ = false := let ⟨_, h1, _⟩ := HOB.out; h1.frozen
          have hLl5 := HOB.out.lt
          obtain ⟨ro5, ⟨e1, e2, e3⟩, -⟩ := HOB.out.cells (k := j) (by rw [HOl.out]; exact hjM)
          have ZS : Hid (Sz (1 + (i * Q + (k + 1)) * t) (v + p.getD i 0 * q.getD k 0)) := Lib.hid ((ZO.out.add (ZP.out.mul ZQ.out)).mono (by have := Hst.out; rw [show i * Q + (k + 1) = i * Q + k + 1 by omega]; omega))
          have RS5 := Lib.hid (G19.out.raw ZS.out (by have := HNt.out; rw [show i * Q + (k + 1) = i * Q + k + 1 by omega]; omega))
          go_upto_region 12 with fail
          refine nm_out (k := j) (x := x19) HOB.out (by rw [HOl.out]; exact hjM) RS5.out ZS.out (by have := Hst.out; rw [show i * Q + (k + 1) = i * Q + k + 1 by omega]; omega) ?_
          intro w6 hT hOB6
          obtain ⟨cs, T⟩ := hT
          have HOB6 := Lib.hid hOB6
          have HX6 := Lib.hid (T.ext HX2.out (by omega))
          have HOv6 := Lib.hid (set_vals HOl.out HOv.out (by rw [← Hj.out]; exact hjM))
          rw [← Hv.out, ← Hj.out] at HOv6
          clear T hOB6
          go_wp2
          go_roundg (gk - 1)
          case measure => omega
          case rel => exact ⟨k + 1, _, by omega, by go_num, HX6.out, HOB6.out, by rw [List.length_set]; exact HOl.out, HOv6.out⟩
end Go.Proofs.YtbcamhfoemnmgaaGreat
/- Products and stability. Plain facts. -/
namespace Go.Proofs.YtbcamhfoemnmgaaGreat
open Go.RowKit Go.Front Go.Num
theorem norm_lmul (p : List Rat) : norm p = Stab.lmul (p.getD 0 0)⁻¹ p := by
  unfold norm Stab.lmul
  congr 1
  funext x
  rw [Rat.div_def, Rat.mul_comm]
theorem norm_head {p : List Rat} (h : p.getD 0 0 ≠ 0) : (norm p).getD 0 0 = 1 := by
  have hl : 0 < p.length := by
    rcases Nat.eq_zero_or_pos p.length with h0 | h0
    · exact absurd (getD_over' (by omega)) h
    · exact h0
  rw [norm_range]
  simp only [List.getD_eq_getElem?_getD, List.getElem?_map, List.getElem?_range hl, Option.map_some, Option.getD_some]
  exact Stab.div_self' (by simpa [List.getD_eq_getElem?_getD] using h)
theorem reflV_ok {qs : List Rat} (h : wrongE qs = 0) : (reflV qs).1 = 0 ∨ (reflV qs).1 = 14 := by
  unfold reflV
  rw [if_neg (fun hn => hn h)]
  split
  · exact Or.inl rfl
  · exact Or.inr rfl
theorem reflV_inv {qs : List Rat} (h : wrongE qs = 0) : (reflV qs).1 = 0 ↔ Stab.Inv (tz qs) := by
  obtain ⟨h1, h2, h3⟩ := wrong_ok h
  have hl : (norm (tz qs)).length = ((tz qs).length - 1) + 1 := by rw [norm_length]; omega
  have hi := Stab.refl_inv hl (norm_head h3)
  rw [norm_lmul, Stab.Inv.lmul_iff (by intro e; exact h3 (by rw [← Rat.inv_inv ((tz qs).getD 0 0), e, Rat.inv_zero]))] at hi
  rw [← hi]
  unfold reflV
  rw [if_neg (fun hn => hn h), ← norm_lmul]
  constructor
  · intro h4
    split at h4
    · rename_i k hk; exact ⟨k, hk⟩
    · cases h4
  · rintro ⟨k, hk⟩
    rw [hk]
theorem stabV_ok {qs : List Rat} (h : wrongE qs = 0) : stabV qs = (decide ((reflV qs).1 = 0), 0) := by
  unfold stabV
  rcases reflV_ok h with h1 | h1
  · rw [h1]; rfl
  · rw [h1]; rfl
theorem stabV_bad {qs : List Rat} (h : wrongE qs = 3) : stabV qs = (false, 3) := by
  have : reflV qs = (3, []) := by unfold reflV; rw [if_pos (by rw [h]; decide), h]
  unfold stabV
  rw [this]
  rfl
theorem wrong_cases {qs : List Rat} (h : (tz qs).length ≤ 49) : (wrongE qs = 3 ∧ qs.getD 0 0 = 0) ∨ (wrongE qs = 0 ∧ qs.getD 0 0 ≠ 0) := by
  unfold wrongE
  rw [if_neg (by omega)]
  by_cases h1 : qs.length = 0 ∨ qs.getD 0 0 = 0
  · rw [if_pos h1]
    left
    refine ⟨rfl, ?_⟩
    rcases h1 with h1 | h1
    · exact getD_over' (by omega)
    · exact h1
  · rw [if_neg h1]
    exact Or.inr ⟨rfl, fun e => h1 (Or.inr e)⟩
theorem ap_over {p q : List Rat} {n : Nat} (h : p.length + q.length ≤ n + 1) : Stab.ap p (Stab.seq q) n = 0 := by
  rw [Stab.ap_sum, Stab.sm_congr (g := fun _ => 0) (fun i hi => ?_), Stab.sm_zero]
  have : Stab.shn i (Stab.seq q) n = 0 := by
    unfold Stab.shn Stab.seq
    split
    · exact getD_over' (by omega)
    · rfl
  rw [this]
  grind
theorem mul5_seq (ps qs : List Rat) : Stab.seq (mul5V ps qs) = Stab.ap (tz ps) (Stab.seq (tz qs)) := by
  funext n
  unfold Stab.seq mul5V
  rw [tz_getD']
  rcases Nat.lt_or_ge n ((tz ps).length + (tz qs).length - 1) with h | h
  · rw [List.getD_eq_getElem?_getD, List.getElem?_map, List.getElem?_range h]
    rfl
  · rw [getD_over' (by simpa using h)]
    exact (ap_over (by omega)).symm
theorem mul5_head (ps qs : List Rat) : (mul5V ps qs).getD 0 0 = ps.getD 0 0 * qs.getD 0 0 := by
  have h := congrFun (mul5_seq ps qs) 0
  unfold Stab.seq at h
  rw [h, ← tz_getD' ps, ← tz_getD' qs]
  cases tz ps with
  | nil => show (0 : Rat) = 0 * _; grind
  | cons a l => show a * _ + 0 = _; simp; grind
theorem mul5_tz (ps qs : List Rat) : tz (mul5V ps qs) = mul5V ps qs := by unfold mul5V; exact tz_idem _
theorem mul5_len (ps qs : List Rat) : (mul5V ps qs).length ≤ ps.length + qs.length := by
  unfold mul5V
  refine Nat.le_trans (tz_len_le _) ?_
  have h1 := tz_len_le ps
  have h2 := tz_len_le qs
  simp
  omega
theorem mul5_inv (ps qs : List Rat) : Stab.Inv (tz (mul5V ps qs)) ↔ Stab.Inv (tz ps) ∧ Stab.Inv (tz qs) := by
  rw [mul5_tz]
  exact Stab.Inv.prod (mul5_seq ps qs)
theorem sm_sz {n t : Nat} {f : Nat → Rat} (h : ∀ i, i < n → Sz t (f i)) : Sz (1 + n * (t + 1)) (Stab.sm n f) := by
  induction n with
  | zero => exact Sz.zero (by omega)
  | succ n ih =>
    simp only [Stab.sm]
    exact ((ih (fun i hi => h i (by omega))).add (h n (by omega))).mono (by rw [Nat.succ_mul]; omega)
theorem shn_sz {s : Nat} {q : List Rat} (hs : 1 ≤ s) (h : SzL s q) (i n : Nat) : Sz s (Stab.shn i (Stab.seq q) n) := by
  unfold Stab.shn Stab.seq
  split
  · exact h.getD hs _
  · exact Sz.zero hs
theorem mul5_sz {s : Nat} {ps qs : List Rat} (hs : 1 ≤ s) (h1 : SzL s ps) (h2 : SzL s qs) : SzL (1 + ps.length * (2 * s + 1)) (mul5V ps qs) := by
  unfold mul5V
  refine SzL.tz ?_
  intro q hq
  obtain ⟨n, -, rfl⟩ := List.mem_map.1 hq
  rw [Stab.ap_sum]
  refine (sm_sz (t := 2 * s) (fun i hi => ((h1.tz.getD hs i).mul (shn_sz hs h2.tz i n)).mono (by omega))).mono ?_
  exact Nat.add_le_add_left (Nat.mul_le_mul_right _ (tz_len_le ps)) 1
/-- The three ways of the law. -/
theorem prod_plain (a b : List Rat) (la : a.length ≤ 4) (lb : b.length ≤ 3) :
    (stabV a = (false, 3) ∧ stabV (mul5V a b) = (false, 3)) ∨ (∃ x, stabV a = (x, 0) ∧ stabV b = (false, 3) ∧ stabV (mul5V a b) = (false, 3)) ∨
      ∃ x y, stabV a = (x, 0) ∧ stabV b = (y, 0) ∧ stabV (mul5V a b) = (x && y, 0) := by
  have hl := mul5_len a b
  have hr := wrong_cases (qs := mul5V a b) (by rw [mul5_tz]; omega)
  have hh := mul5_head a b
  rcases wrong_cases (qs := a) (Nat.le_trans (tz_len_le a) (by omega)) with ⟨h1, h2⟩ | ⟨h1, h2⟩
  · left
    refine ⟨stabV_bad h1, stabV_bad ?_⟩
    rcases hr with h | h
    · exact h.1
    · exfalso
      apply h.2
      rw [hh, h2]
      grind
  · right
    rcases wrong_cases (qs := b) (Nat.le_trans (tz_len_le b) (by omega)) with ⟨k1, k2⟩ | ⟨k1, k2⟩
    · left
      refine ⟨_, stabV_ok h1, stabV_bad k1, stabV_bad ?_⟩
      rcases hr with h | h
      · exact h.1
      · exfalso
        apply h.2
        rw [hh, k2]
        grind
    · right
      have hw : wrongE (mul5V a b) = 0 := by
        rcases hr with h | h
        · exfalso
          have := h.2
          rw [hh] at this
          rcases Rat.mul_eq_zero.1 this with e | e
          · exact h2 e
          · exact k2 e
        · exact h.1
      refine ⟨_, _, stabV_ok h1, stabV_ok k1, ?_⟩
      rw [stabV_ok hw]
      congr 1
      rw [← Bool.decide_and]
      exact decide_eq_decide.2 (by rw [reflV_inv hw, reflV_inv h1, reflV_inv k1]; exact mul5_inv a b)
end Go.Proofs.YtbcamhfoemnmgaaGreat
/- The radius. Plain facts. -/
namespace Go.Proofs.YtbcamhfoemnmgaaGreat
open Go.RowKit Go.Front Go.Num
theorem Inv_tz (l : List Rat) : Stab.Inv (tz l) ↔ Stab.Inv l := by
  induction l using Stab.snoc_ind with
  | h0 => exact Iff.rfl
  | h1 l r ih =>
    by_cases h : r = 0
    · subst h; rw [tz_snoc0, ih, Stab.Inv.snoc]
    · rw [tz_snoc l h]
theorem scl_getD (r : Rat) (c : List Rat) (i : Nat) : (Stab.scl r c).getD i 0 = r ^ i * c.getD i 0 := by
  induction c generalizing i with
  | nil => show (0 : Rat) = r ^ i * 0; grind
  | cons a l ih =>
    cases i with
    | zero => show a = r ^ 0 * a; rw [Rat.pow_zero]; grind
    | succ i =>
      simp only [Stab.scl, List.getD_cons_succ]
      have e : (Stab.lmul r (Stab.scl r l)).getD i 0 = r * (Stab.scl r l).getD i 0 := by
        unfold Stab.lmul
        rw [List.getD_eq_getElem?_getD, List.getElem?_map, List.getD_eq_getElem?_getD]
        cases (Stab.scl r l)[i]? with
        | none => show (0 : Rat) = r * 0; grind
        | some x => rfl
      rw [e, ih, Rat.pow_succ]
      grind
theorem moved_len (qs : List Rat) (r : Rat) : (moved qs r).length = (tz qs).length := by simp [moved]
theorem moved_getD {qs : List Rat} {r : Rat} {i : Nat} (h : i < (tz qs).length) : (moved qs r).getD i 0 = (tz qs).getD i 0 * (1 / r) ^ i := by
  simp [moved, h]
theorem moved_one {qs : List Rat} (h : tz qs = qs) : moved qs 1 = qs := by
  apply Stab.getD_ext
  · rw [moved_len, h]
  · intro i hi
    rw [moved_len] at hi
    rw [moved_getD hi, h]
    have e : (1 / 1 : Rat) = 1 := by decide +kernel
    rw [e]
    have : ∀ i : Nat, (1 : Rat) ^ i = 1 := by
      intro i
      induction i with
      | zero => rw [Rat.pow_zero]
      | succ i ih => rw [Rat.pow_succ, ih]; grind
    rw [this]
    grind
theorem pow_mul' (a b : Rat) (i : Nat) : a ^ i * b ^ i = (a * b) ^ i := by
  induction i with
  | zero => rw [Rat.pow_zero, Rat.pow_zero, Rat.pow_zero]; grind
  | succ i ih => rw [Rat.pow_succ, Rat.pow_succ, Rat.pow_succ, ← ih]; grind
theorem moved_scl {qs : List Rat} {r s : Rat} (hr : r ≠ 0) : moved qs s = Stab.scl (r / s) (moved qs r) := by
  have hl : (Stab.scl (r / s) (moved qs r)).length = (moved qs r).length := by
    generalize moved qs r = l
    induction l with
    | nil => rfl
    | cons a l ih => simp [Stab.scl, ih, Stab.lmul]
  apply Stab.getD_ext
  · rw [hl, moved_len, moved_len]
  · intro i hi
    rw [moved_len] at hi
    rw [scl_getD, moved_getD hi, moved_getD hi]
    have e : (r / s) ^ i * ((tz qs).getD i 0 * (1 / r) ^ i) = (tz qs).getD i 0 * ((r / s) ^ i * (1 / r) ^ i) := by grind
    rw [e, pow_mul']
    congr 2
    rw [Rat.div_def, Rat.div_def, Rat.div_def]
    have : r * s⁻¹ * (1 * r⁻¹) = 1 * s⁻¹ * (r * r⁻¹) := by grind
    rw [this, Rat.mul_inv_cancel _ hr]
    grind
theorem div_le_one {r s : Rat} (hr : 0 < r) (h : r ≤ s) : 0 < r / s ∧ r / s ≤ 1 := by
  have hs : 0 < s := by grind
  have hi := Rat.inv_pos.2 hs
  rw [Rat.div_def]
  refine ⟨Rat.mul_pos hr hi, ?_⟩
  have := Rat.mul_le_mul_of_nonneg_right h (Rat.le_of_lt hi)
  rwa [Rat.mul_inv_cancel _ (by grind)] at this
theorem moved_wrong {qs : List Rat} {r : Rat} (h : wrongE qs = 0) : wrongE (moved qs r) = 0 := by
  obtain ⟨h1, h2, h3⟩ := wrong_ok h
  have hl := tz_len_le (moved qs r)
  rw [moved_len] at hl
  rcases wrong_cases (qs := moved qs r) (by omega) with ⟨_, h4⟩ | ⟨h4, _⟩
  · exfalso
    rw [moved_getD h2, Rat.pow_zero] at h4
    exact h3 (by grind)
  · exact h4
theorem insV_ok {qs : List Rat} {r : Rat} (hr : 0 < r) (h : wrongE qs = 0) : insV qs r = (decide ((reflV (moved qs r)).1 = 0), 0) := by
  unfold insV
  rw [if_neg (by grind), if_neg (fun hn => hn h), stabV_ok (moved_wrong h)]
theorem radius_plain {a : List Rat} {r s : Rat} (hr : 0 < r) (hrs : r ≤ s) (h : wrongE a = 0) (ht : tz a = a) :
    ∃ u v x, insV a r = (u, 0) ∧ insV a s = (v, 0) ∧ insV a 1 = (x, 0) ∧ stabV a = (x, 0) ∧ (!u || v) = true := by
  refine ⟨_, _, _, insV_ok hr h, insV_ok (by grind) h, insV_ok (by decide) h, ?_, ?_⟩
  · rw [moved_one ht]
    exact stabV_ok h
  · by_cases hu : (reflV (moved a r)).1 = 0
    · rw [decide_eq_true hu, decide_eq_true]
      · rfl
      · rw [reflV_inv (moved_wrong h), Inv_tz] at hu ⊢
        rw [moved_scl (r := r) (by grind)]
        obtain ⟨d1, d2⟩ := div_le_one hr hrs
        exact Stab.Inv.scl d1 d2 hu
    · rw [decide_eq_false hu]; rfl
end Go.Proofs.YtbcamhfoemnmgaaGreat
