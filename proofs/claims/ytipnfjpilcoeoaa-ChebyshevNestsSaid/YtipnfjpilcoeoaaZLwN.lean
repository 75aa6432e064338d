/- ChebyshevNests returns true. -/
import Derived.Test.YtipnfjpilcoeoaaM13
import Derived.Test.YtipnfjpilcoeoaaM15
set_option linter.unusedVariables false
namespace Go.Proofs.Ytipnfjpilcoeoaa
open Go.RowKit Go.Front Go.Num
attribute [local go_sem] XW.cell XW.frozen
theorem tV_ok {n : Nat} (hn : n ≤ 48) : tV n = (0, (chP n).1) := by
  unfold tV
  rw [if_neg (by omega), Int.toNat_natCast, chA_tz]
theorem tmod6 (z : Int) (k1 : 0 ≤ z ∧ z ≤ 255) : ∃ n : Nat, z.tmod 6 = (n : Int) ∧ n < 6 := by
  have h1 := Int.tmod_nonneg 6 k1.1
  have h2 := Int.tmod_lt_of_pos z (show (0 : Int) < 6 by decide)
  exact ⟨(z.tmod 6).toNat, by omega, by omega⟩
theorem nest_comp {a1 a2 : Option Addr} {n1 c1 n2 c2 m n : Nat} {w : World} (hm : m < 6) (hn : n < 6) (h : CanL w ⟨a1, n1, c1⟩ (chP m).1) (k : CanL w ⟨a2, n2, c2⟩ (chP n).1) :
    Does 23 [.slice a1 n1 c1, .slice a2 n2 c2] w RF (fun x w' => x.2 = 0 ∧ CanL w' x.1 (chP (m * n)).1) := by
  have Z1 := (chP_sz (n := m) (by omega)).1
  have Z2 := (chP_sz (n := n) (by omega)).1
  have T1 := chA_tz m
  have T2 := chA_tz n
  obtain ⟨HO, HW⟩ := nest_ok hm hn
  have l1 := h.len
  have l2 := k.len
  rw [chA_len] at l1 l2
  simp only at l1 l2
  generalize (chP m).1 = p at *
  generalize (chP n).1 = q at *
  have hc := compose5_any a1 a2 n1 c1 n2 c2 p q w (h.raw Z1 (by decide)) (k.raw Z2 (by decide)) (by omega) (by omega) (Z1.mono (by decide)) (Z2.mono (by decide)) (by rw [T1, T2]; exact HO)
  rw [T1, T2, HW] at hc
  exact hc
set_option maxRecDepth 8000 in
set_option maxHeartbeats 4000000 in
theorem nests_any (z1 z2 : Int) (w : World) (k1 : 0 ≤ z1 ∧ z1 ≤ 255) (k2 : 0 ≤ z2 ∧ z2 ≤ 255) :
    Does 6 [.int .u8 z1, .int .u8 z2] w (fun _ : Unit => .bool true) (fun _ _ => True) := by
  have HX := Lib.hid (Ext.refl w)
  obtain ⟨m, e1, hm⟩ := tmod6 z1 k1
  obtain ⟨n, e2, hn⟩ := tmod6 z2 k2
  have hmn : m * n ≤ 25 := Nat.mul_le_mul (show m ≤ 5 by omega) (show n ≤ 5 by omega)
  obtain ⟨k, hk⟩ : ∃ k, k = m * n := ⟨_, rfl⟩
  have hmni : (m : Int) * n = k := by rw [hk, Int.natCast_mul]
  have V1 := Lib.hid (tV_ok (n := m) (by omega))
  have V2 := Lib.hid (tV_ok (n := n) (by omega))
  have V3 := Lib.hid (tV_ok (n := k) (by omega))
  have Hk := Lib.hid hk
  rw [← hk] at hmn
  clear hk
  unfold Does
  go_enter Try.func6, Try.ntmps6
  go_wp2_with fail
  refine Calls.mono (t_any (m : Nat) _) ?_
  rintro e w1 ⟨x1, rfl, hE, g1⟩
  have G1 := Lib.hid g1
  clear g1
  replace HX := Lib.hid (HX.out.trans hE)
  have hs_w1 := hE.size
  clear hE
  obtain ⟨⟨a1, n1, c1⟩, e1'⟩ := x1
  obtain ⟨he, hl⟩ := G1.out
  rw [V1.out] at he hl
  simp only at he hl
  subst he
  have L1 := Lib.hid hl
  clear hl G1
  simp only [RF, SH.v]
  go_wp2_with fail
  refine Calls.mono (t_any (n : Nat) _) ?_
  rintro e w2 ⟨x2, rfl, hE, g2⟩
  have G2 := Lib.hid g2
  clear g2
  replace HX := Lib.hid (HX.out.trans hE)
  replace L1 := Lib.hid (L1.out.ext hE)
  have hs_w2 := hE.size
  clear hE
  obtain ⟨⟨a2, n2, c2⟩, e2'⟩ := x2
  obtain ⟨he, hl⟩ := G2.out
  rw [V2.out] at he hl
  simp only at he hl
  subst he
  have L2 := Lib.hid hl
  clear hl G2
  simp only [RF, SH.v]
  go_wp2_with fail
  refine Calls.mono (t_any (k : Nat) _) ?_
  rintro e w3 ⟨x3, rfl, hE, g3⟩
  have G3 := Lib.hid g3
  clear g3
  replace HX := Lib.hid (HX.out.trans hE)
  replace L1 := Lib.hid (L1.out.ext hE)
  replace L2 := Lib.hid (L2.out.ext hE)
  have hs_w3 := hE.size
  clear hE
  obtain ⟨⟨a3, n3, c3⟩, e3'⟩ := x3
  obtain ⟨he, hl⟩ := G3.out
  rw [V3.out] at he hl
  simp only at he hl
  subst he
  have L3 := Lib.hid hl
  clear hl G3
  simp only [RF, SH.v]
  have HC := Lib.hid (nest_comp hm hn L1.out L2.out)
  rw [← Hk.out] at HC
  go_wp2_with fail
  refine Calls.mono (HC.out) ?_
  rintro e w4 ⟨x4, rfl, hE, g4⟩
  have G4 := Lib.hid g4
  clear g4
  replace HX := Lib.hid (HX.out.trans hE)
  replace L1 := Lib.hid (L1.out.ext hE)
  replace L2 := Lib.hid (L2.out.ext hE)
  replace L3 := Lib.hid (L3.out.ext hE)
  have hs_w4 := hE.size
  clear hE
  obtain ⟨⟨a4, n4, c4⟩, e4'⟩ := x4
  obtain ⟨he, hl⟩ := G4.out
  simp only at he hl
  subst he
  have L4 := Lib.hid hl
  clear hl G4
  simp only [RF, SH.v]
  go_wp2_with fail
  refine Calls.mono (awake8_any _) ?_
  rintro e w5 ⟨x5, rfl, hE, -⟩
  replace HX := Lib.hid (HX.out.trans hE)
  replace L1 := Lib.hid (L1.out.ext hE)
  replace L2 := Lib.hid (L2.out.ext hE)
  replace L3 := Lib.hid (L3.out.ext hE)
  replace L4 := Lib.hid (L4.out.ext hE)
  have hs_w5 := hE.size
  clear hE
  go_wp2_with fail
  refine Calls.mono (equal_any ⟨a4, n4, c4⟩ ⟨a3, n3, c3⟩ (chP k).1 (chP k).1 _ L4.out L3.out) ?_
  rintro e w6 ⟨x6, rfl, hE, -⟩
  replace HX := Lib.hid (HX.out.trans hE)
  replace L1 := Lib.hid (L1.out.ext hE)
  replace L2 := Lib.hid (L2.out.ext hE)
  replace L3 := Lib.hid (L3.out.ext hE)
  replace L4 := Lib.hid (L4.out.ext hE)
  have hs_w6 := hE.size
  clear hE
  rw [decide_eq_true rfl]
  go_wp2
  go_ret
  exact ⟨(), rfl, HX.out, trivial⟩
end Go.Proofs.Ytipnfjpilcoeoaa
