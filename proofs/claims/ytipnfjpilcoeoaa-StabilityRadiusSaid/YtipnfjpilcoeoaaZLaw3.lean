/- StabilityRadius returns true. -/
import Derived.Test.YtipnfjpilcoeoaaM11
import Derived.Test.YtipnfjpilcoeoaaM10
import Derived.Test.YtipnfjpilcoeoaaZLaw2
set_option linter.unusedVariables false
namespace Go.Proofs.Ytipnfjpilcoeoaa
open Go.RowKit Go.Front Go.Num
attribute [local go_sem] XW.cell XW.frozen
theorem rat_gt : ∀ a : Nat, a < 25 → ∀ b : Nat, b < 8 → -30 < (((a : Int) - 12 : Int) : Rat) / ((1 + (b : Int) : Int) : Rat) := by decide +kernel
theorem ratQ_gt (n : Int) : -30 < ratQ n := by
  have h1 := Int.emod_nonneg n (show (25 : Int) ≠ 0 by decide)
  have h2 := Int.emod_lt_of_pos n (show (0 : Int) < 25 by decide)
  have h3 := Int.emod_nonneg (n.tdiv 25) (show (8 : Int) ≠ 0 by decide)
  have h4 := Int.emod_lt_of_pos (n.tdiv 25) (show (0 : Int) < 8 by decide)
  have h := rat_gt (n % 25).toNat (by omega) (n.tdiv 25 % 8).toNat (by omega)
  rw [show (((n % 25).toNat : Nat) : Int) = n % 25 by omega, show (((n.tdiv 25 % 8).toNat : Nat) : Int) = n.tdiv 25 % 8 by omega] at h
  exact h
theorem polyQ_gt (xs : List Int) (d : Nat) : -30 < (polyQ xs d).getD 0 0 := by
  unfold polyQ
  rw [tz_getD']
  rcases Nat.eq_zero_or_pos ((xs.take (d + 1)).map ratQ).length with h | h
  · rw [getD_over' (by omega)]; decide
  · have hm := getD_mem' h
    obtain ⟨n, -, e⟩ := List.mem_map.1 hm
    rw [← e]
    exact ratQ_gt n
theorem add5_tz (ps qs : List Rat) : tz (add5V ps qs) = add5V ps qs := by unfold add5V; exact tz_idem _
theorem add5_getD (ps qs : List Rat) (i : Nat) : (add5V ps qs).getD i 0 = ps.getD i 0 + qs.getD i 0 := by
  unfold add5V
  rw [tz_getD']
  rcases Nat.lt_or_ge i (max ps.length qs.length) with h | h
  · rw [List.getD_eq_getElem?_getD, List.getElem?_map, List.getElem?_range h]
    rfl
  · rw [getD_over' (by simpa using h), getD_over' (by omega), getD_over' (by omega)]
    grind
theorem add5_len (ps qs : List Rat) : (add5V ps qs).length ≤ max ps.length qs.length := by
  unfold add5V
  refine Nat.le_trans (tz_len_le _) ?_
  simp
theorem add5_sz {s : Nat} {ps qs : List Rat} (hs : 1 ≤ s) (h1 : SzL s ps) (h2 : SzL s qs) : SzL (2 * s + 1) (add5V ps qs) := by
  unfold add5V
  refine SzL.tz ?_
  intro q hq
  obtain ⟨n, -, rfl⟩ := List.mem_map.1 hq
  exact ((h1.getD hs n).add (h2.getD hs n)).mono (by omega)
theorem tenth_all : ∀ a : Nat, a < 40 → (0 < fr (1 + (a : Int)) 10 ∧ (fr (1 + (a : Int)) 10).num.natAbs < W32 ∧ (fr (1 + (a : Int)) 10).den < W32) := by decide +kernel
theorem tenth_le : ∀ a : Nat, a < 20 → ∀ b : Nat, b < 10 → fr (1 + (a : Int)) 10 ≤ fr (1 + (a : Int) + (b : Int)) 10 := by decide +kernel
theorem moved_szk {qs : List Rat} {r : Rat} (h : SzL 3 qs) (hr : Sz 1 r) (hl : (tz qs).length ≤ 5) : SzL 12 (moved qs r) := by
  intro q hq
  obtain ⟨i, hi, rfl⟩ := List.mem_map.1 hq
  have hi' := List.mem_range.1 hi
  exact ((h.tz.at hi').mul ((Sz.one.div hr).pow i)).mono (by omega)
set_option maxRecDepth 8000 in
set_option maxHeartbeats 4000000 in
theorem radius_any (ao : Option Addr) (cap : Nat) (xs : List Int) (z1 z2 : Int) (w : World) (h : IntsAt w ao xs) (hr : InR xs) (hl : xs.length ≤ 9223372036854775807) (hc : xs.length ≤ cap) (hcm : cap ≤ 9223372036854775807)
    (k1 : 0 ≤ z1 ∧ z1 ≤ 255) (k2 : 0 ≤ z2 ∧ z2 ≤ 255) :
    Does 5 [.slice ao xs.length cap, .int .u8 z1, .int .u8 z2] w (fun _ : Unit => .bool true) (fun _ _ => True) := by
  have HX := Lib.hid (Ext.refl w)
  obtain ⟨p, hp⟩ : ∃ p, p = polyQ xs 4 := ⟨_, rfl⟩
  obtain ⟨a, ha⟩ : ∃ a, a = add5V p [((30 : Int) : Rat)] := ⟨_, rfl⟩
  have Ha := Lib.hid ha
  have HLp : Hid (p.length ≤ 5) := Lib.hid (by rw [hp]; exact polyQ_len _ _)
  have HZp : Hid (SzL 1 p) := Lib.hid (by rw [hp]; exact polyQ_sz _ _)
  have HZ30 : Hid (SzL 1 [((30 : Int) : Rat)]) := Lib.hid (szB (by decide +kernel))
  have HLa : Hid (a.length ≤ 5) := Lib.hid (by rw [ha]; have h1 := add5_len p [((30 : Int) : Rat)]; have h2 := HLp.out; simp only [List.length_singleton] at h1; omega)
  have HZa : Hid (SzL 3 a) := Lib.hid (by rw [ha]; exact (add5_sz (by decide) HZp.out HZ30.out).mono (by decide))
  have hta : tz a = a := by rw [ha]; exact add5_tz _ _
  have hwa : wrongE a = 0 := by
    rcases wrong_cases (qs := a) (Nat.le_trans (tz_len_le a) (Nat.le_trans HLa.out (by decide))) with ⟨_, h4⟩ | ⟨h4, _⟩
    · exfalso
      rw [ha, add5_getD] at h4
      have h5 := polyQ_gt xs 4
      rw [← hp] at h5
      have h6 : ([((30 : Int) : Rat)] : List Rat).getD 0 0 = 30 := rfl
      rw [h6] at h4
      grind
    · exact h4
  obtain ⟨n1, e1⟩ : ∃ n1 : Nat, z1.tmod 20 = (n1 : Int) := ⟨(z1.tmod 20).toNat, by have := Int.tmod_nonneg 20 k1.1; omega⟩
  obtain ⟨n2, e2⟩ : ∃ n2 : Nat, z2.tmod 10 = (n2 : Int) := ⟨(z2.tmod 10).toNat, by have := Int.tmod_nonneg 10 k2.1; omega⟩
  have hn1 : n1 < 20 := by have := (tmod_bd z1 20 (by decide)).2; omega
  have hn2 : n2 < 10 := by have := (tmod_bd z2 10 (by decide)).2; omega
  have t1 := tenth_all n1 (by omega)
  have t2 := tenth_all (n1 + n2) (by omega)
  have t3 := tenth_le n1 hn1 n2 hn2
  rw [show (1 + ((n1 + n2 : Nat) : Int)) = 1 + (n1 : Int) + (n2 : Int) by omega] at t2
  obtain ⟨r, hr'⟩ : ∃ r, r = fr (1 + (n1 : Int)) 10 := ⟨_, rfl⟩
  obtain ⟨s, hs'⟩ : ∃ s, s = fr (1 + (n1 : Int) + (n2 : Int)) 10 := ⟨_, rfl⟩
  rw [← hr'] at t1 t3
  rw [← hs'] at t2 t3
  have HZr : Hid (Sz 1 r) := Lib.hid ⟨by rw [Nat.pow_one]; exact t1.2.1, by rw [Nat.pow_one]; exact t1.2.2⟩
  have HZs : Hid (Sz 1 s) := Lib.hid ⟨by rw [Nat.pow_one]; exact t2.2.1, by rw [Nat.pow_one]; exact t2.2.2⟩
  have HZ1 : Hid (Sz 1 (((1 : Int) : Rat))) := Lib.hid (Sz.int (by decide))
  have Hr := Lib.hid hr'
  have Hs := Lib.hid hs'
  obtain ⟨u, v, x, v1, v2, v3, v4, v5⟩ := radius_plain t1.1 t3 hwa hta
  have V1 := Lib.hid v1
  have V2 := Lib.hid v2
  have V3 : Hid (insV a ((1 : Int) : Rat) = (x, 0)) := Lib.hid v3
  have V4 := Lib.hid v4
  have hmk : ∀ y : Rat, Sz 1 y → RefOk ((tz (moved a y)).length - 1) (norm (tz (moved a y))) := fun y hy =>
    reflOk (m := 4) (by decide) (moved_szk HZa.out hy (tz_le HLa.out)) (Nat.le_trans (tz_len_le _) (by rw [moved_len]; exact tz_le HLa.out)) (by decide)
  have HMk := Lib.hid hmk
  have HOa := Lib.hid (reflOk (m := 4) (by decide) HZa.out (tz_le HLa.out) (by decide))
  have HC1 := Lib.hid (poly_any ao cap 4 xs w h hr hl (by decide) hc hcm)
  rw [← hp] at HC1
  obtain ⟨n, hn⟩ : ∃ n, n = xs.length := ⟨_, rfl⟩
  rw [← hn] at HC1 hl hc ⊢
  clear hn h hr ha hp hta hwa t1 t2 t3 hr' hs' v1 v2 v3 v4 hmk
  unfold Does
  go_enter Try.func5, Try.ntmps5
  go_wp2_with fail
  refine Calls.mono (HC1.out) ?_
  rintro e w1 ⟨x1, rfl, hE, g1⟩
  have G1 := Lib.hid g1
  clear g1
  replace HX := Lib.hid (HX.out.trans hE)
  have hs_w1 := hE.size
  clear hE
  obtain ⟨a1, m1, c1⟩ := x1
  simp only [SH.v]
  have L1 := Lib.hid G1.out.can
  have hm1 : m1 ≤ 5 := by have h1 := L1.out.len; have h2 := HLp.out; simp only at h1; omega
  clear G1
  go_wp2_with fail
  refine Calls.mono (rof3_any 30 _ (by decide) (by decide)) ?_
  rintro e w2 ⟨x2, rfl, hE, g2⟩
  have G2 := Lib.hid g2
  clear g2
  replace HX := Lib.hid (HX.out.trans hE)
  replace L1 := Lib.hid (L1.out.ext hE)
  have hs_w2 := hE.size
  clear hE
  go_wp2_with fail
  refine nm_alloc (F := fun W => Calls _ _ _ W _) ?_
  intro y3 hE hB0 hz
  have hz_y3 := Nat.le_of_eq hz
  have hr_y3 := Nat.le_of_eq hz.symm
  clear hz
  replace HX := Lib.hid (HX.out.trans hE)
  replace L1 := Lib.hid (L1.out.ext hE)
  replace G2 := Lib.hid (G2.out.ext hE)
  have hs_y3 := hE.size
  clear hE
  have B3 := Lib.hid hB0
  clear hB0
  have c_B3 := blk_cell B3.out
  have f_B3 := blk_frozen B3.out
  have l_B3 := (Array.getElem?_eq_some_iff.1 B3.out).1
  change Calls _ _ _ _ _
  have L3 := Lib.hid (canL_1 B3.out G2.out)
  (try clear c_B3 f_B3 l_B3); clear B3
  clear G2
  refine Calls.mono (add5_any a1 _ m1 c1 1 1 p [((30 : Int) : Rat)] _ (L1.out.raw HZp.out (by decide)) (L3.out.raw HZ30.out (by decide)) (by omega) (by decide) (HZp.out.mono (by decide)) (HZ30.out.mono (by decide))) ?_
  rintro e w4 ⟨x4, rfl, hE, g4⟩
  have G4 := Lib.hid g4
  clear g4
  replace HX := Lib.hid (HX.out.trans hE)
  replace L1 := Lib.hid (L1.out.ext hE)
  replace L3 := Lib.hid (L3.out.ext hE)
  have hs_w4 := hE.size
  clear hE
  rw [← Ha.out] at G4
  obtain ⟨a4, m4, c4⟩ := x4
  simp only [SH.v]
  have L4 := Lib.hid G4.out.can
  have hm4 : m4 ≤ 5 := by have h1 := L4.out.len; have h2 := HLa.out; simp only at h1; omega
  clear G4
  clear L1
  clear L3
  go_wp2_with fail
  refine Calls.mono (rfrac3_any (1 + (n1 : Int)) 10 _ (by omega) (by omega) (by decide) (by decide)) ?_
  rintro e w5 ⟨x5, rfl, hE, g5⟩
  have G5 := Lib.hid g5
  clear g5
  replace HX := Lib.hid (HX.out.trans hE)
  replace L4 := Lib.hid (L4.out.ext hE)
  have hs_w5 := hE.size
  clear hE
  go_wp2_with fail
  refine Calls.mono (rfrac3_any (1 + (n1 : Int) + (n2 : Int)) 10 _ (by omega) (by omega) (by decide) (by decide)) ?_
  rintro e w6 ⟨x6, rfl, hE, g6⟩
  have G6 := Lib.hid g6
  clear g6
  replace HX := Lib.hid (HX.out.trans hE)
  replace L4 := Lib.hid (L4.out.ext hE)
  replace G5 := Lib.hid (G5.out.ext hE)
  have hs_w6 := hE.size
  clear hE
  go_upto_region 3 with fail
  refine nm_alloc2 ?_
  intro y7 hE hB0 hB1 hz
  have hz_y7 := Nat.le_of_eq hz
  have hr_y7 := Nat.le_of_eq hz.symm
  clear hz
  replace HX := Lib.hid (HX.out.trans hE)
  replace L4 := Lib.hid (L4.out.ext hE)
  replace G5 := Lib.hid (G5.out.ext hE)
  replace G6 := Lib.hid (G6.out.ext hE)
  have hs_y7 := hE.size
  clear hE
  have B8 := Lib.hid hB0
  clear hB0
  have c_B8 := blk_cell B8.out
  have f_B8 := blk_frozen B8.out
  have l_B8 := (Array.getElem?_eq_some_iff.1 B8.out).1
  have B9 := Lib.hid hB1
  clear hB1
  have c_B9 := blk_cell B9.out
  have f_B9 := blk_frozen B9.out
  have l_B9 := (Array.getElem?_eq_some_iff.1 B9.out).1
  have R5 : Hid (CanR y7 x5 r) := Lib.hid (by rw [Hr.out]; exact G5.out)
  have R6 : Hid (CanR y7 x6 s) := Lib.hid (by rw [Hs.out]; exact G6.out)
  clear G5
  clear G6
  go_wp2_with fail
  refine Calls.mono (inside_any a4 m4 c4 a x5 r _ (L4.out.raw HZa.out (by decide)) (R5.out.raw HZr.out (by decide)) (by omega) (HZa.out.mono (by decide)) (HZr.out.mono (by decide)) (fun _ _ _ => HMk.out r HZr.out)) ?_
  rintro e w8 ⟨x8, rfl, hE, -⟩
  replace HX := Lib.hid (HX.out.trans hE)
  replace L4 := Lib.hid (L4.out.ext hE)
  replace B8 := Lib.hid (hE.block B8.out)
  replace B9 := Lib.hid (hE.block B9.out)
  replace R5 := Lib.hid (R5.out.ext hE)
  replace R6 := Lib.hid (R6.out.ext hE)
  have hs_w8 := hE.size
  clear hE
  (try clear c_B8 f_B8 l_B8)
  have c_B8 := blk_cell B8.out
  have f_B8 := blk_frozen B8.out
  have l_B8 := (Array.getElem?_eq_some_iff.1 B8.out).1
  (try clear c_B9 f_B9 l_B9)
  have c_B9 := blk_cell B9.out
  have f_B9 := blk_frozen B9.out
  have l_B9 := (Array.getElem?_eq_some_iff.1 B9.out).1
  rw [V1.out]
  simp only [BF]
  go_wp2_with fail
  refine Calls.mono (inside_any a4 m4 c4 a x6 s _ (L4.out.raw HZa.out (by decide)) (R6.out.raw HZs.out (by decide)) (by omega) (HZa.out.mono (by decide)) (HZs.out.mono (by decide)) (fun _ _ _ => HMk.out s HZs.out)) ?_
  rintro e w9 ⟨x9, rfl, hE, -⟩
  replace HX := Lib.hid (HX.out.trans hE)
  replace L4 := Lib.hid (L4.out.ext hE)
  replace B8 := Lib.hid (hE.block B8.out)
  replace B9 := Lib.hid (hE.block B9.out)
  replace R5 := Lib.hid (R5.out.ext hE)
  replace R6 := Lib.hid (R6.out.ext hE)
  have hs_w9 := hE.size
  clear hE
  (try clear c_B8 f_B8 l_B8)
  have c_B8 := blk_cell B8.out
  have f_B8 := blk_frozen B8.out
  have l_B8 := (Array.getElem?_eq_some_iff.1 B8.out).1
  (try clear c_B9 f_B9 l_B9)
  have c_B9 := blk_cell B9.out
  have f_B9 := blk_frozen B9.out
  have l_B9 := (Array.getElem?_eq_some_iff.1 B9.out).1
  rw [V2.out]
  simp only [BF]
  clear R5
  clear R6
  go_wp2_with fail
  refine Calls.mono (rof3_any 1 _ (by decide) (by decide)) ?_
  rintro e w10 ⟨x10, rfl, hE, g10⟩
  have G10 := Lib.hid g10
  clear g10
  replace HX := Lib.hid (HX.out.trans hE)
  replace L4 := Lib.hid (L4.out.ext hE)
  replace B8 := Lib.hid (hE.block B8.out)
  replace B9 := Lib.hid (hE.block B9.out)
  have hs_w10 := hE.size
  clear hE
  (try clear c_B8 f_B8 l_B8)
  have c_B8 := blk_cell B8.out
  have f_B8 := blk_frozen B8.out
  have l_B8 := (Array.getElem?_eq_some_iff.1 B8.out).1
  (try clear c_B9 f_B9 l_B9)
  have c_B9 := blk_cell B9.out
  have f_B9 := blk_frozen B9.out
  have l_B9 := (Array.getElem?_eq_some_iff.1 B9.out).1
  go_wp2_with fail
  refine Calls.mono (inside_any a4 m4 c4 a x10 ((1 : Int) : Rat) _ (L4.out.raw HZa.out (by decide)) (G10.out.raw HZ1.out (by decide)) (by omega) (HZa.out.mono (by decide)) (HZ1.out.mono (by decide)) (fun _ _ _ => HMk.out _ HZ1.out)) ?_
  rintro e w11 ⟨x11, rfl, hE, -⟩
  replace HX := Lib.hid (HX.out.trans hE)
  replace L4 := Lib.hid (L4.out.ext hE)
  replace B8 := Lib.hid (hE.block B8.out)
  replace B9 := Lib.hid (hE.block B9.out)
  replace G10 := Lib.hid (G10.out.ext hE)
  have hs_w11 := hE.size
  clear hE
  (try clear c_B8 f_B8 l_B8)
  have c_B8 := blk_cell B8.out
  have f_B8 := blk_frozen B8.out
  have l_B8 := (Array.getElem?_eq_some_iff.1 B8.out).1
  (try clear c_B9 f_B9 l_B9)
  have c_B9 := blk_cell B9.out
  have f_B9 := blk_frozen B9.out
  have l_B9 := (Array.getElem?_eq_some_iff.1 B9.out).1
  rw [V3.out]
  simp only [BF]
  clear G10
  go_wp2_with fail
  refine Calls.mono (stable_any a4 m4 c4 a _ (L4.out.raw HZa.out (by decide)) (by omega) (HZa.out.mono (by decide)) (fun _ => HOa.out)) ?_
  rintro e w12 ⟨x12, rfl, hE, -⟩
  replace HX := Lib.hid (HX.out.trans hE)
  replace L4 := Lib.hid (L4.out.ext hE)
  replace B8 := Lib.hid (hE.block B8.out)
  replace B9 := Lib.hid (hE.block B9.out)
  have hs_w12 := hE.size
  clear hE
  (try clear c_B8 f_B8 l_B8)
  have c_B8 := blk_cell B8.out
  have f_B8 := blk_frozen B8.out
  have l_B8 := (Array.getElem?_eq_some_iff.1 B8.out).1
  (try clear c_B9 f_B9 l_B9)
  have c_B9 := blk_cell B9.out
  have f_B9 := blk_frozen B9.out
  have l_B9 := (Array.getElem?_eq_some_iff.1 B9.out).1
  rw [V4.out]
  simp only [BF]
  go_wp2_with fail
  refine Calls.mono (awake18_any _) ?_
  rintro e w13 ⟨x13, rfl, hE, -⟩
  replace HX := Lib.hid (HX.out.trans hE)
  replace L4 := Lib.hid (L4.out.ext hE)
  replace B8 := Lib.hid (hE.block B8.out)
  replace B9 := Lib.hid (hE.block B9.out)
  have hs_w13 := hE.size
  clear hE
  (try clear c_B8 f_B8 l_B8)
  have c_B8 := blk_cell B8.out
  have f_B8 := blk_frozen B8.out
  have l_B8 := (Array.getElem?_eq_some_iff.1 B8.out).1
  (try clear c_B9 f_B9 l_B9)
  have c_B9 := blk_cell B9.out
  have f_B9 := blk_frozen B9.out
  have l_B9 := (Array.getElem?_eq_some_iff.1 B9.out).1
  clear V1 V2 V3 V4
  cases u <;> cases v <;> cases x
  all_goals first
    | (exact absurd v5 (by decide))
    | (go_wp2
       go_ret
       exact ⟨(), rfl, HX.out, trivial⟩)
end Go.Proofs.Ytipnfjpilcoeoaa
