/- ChebyshevBasis returns true. -/
import Derived.Test.YtipnfjpilcoeoaaM13
import Derived.Test.YtipnfjpilcoeoaaM14
import Derived.Test.YtipnfjpilcoeoaaM11
set_option linter.unusedVariables false
namespace Go.Proofs.Ytipnfjpilcoeoaa
open Go.RowKit Go.Front Go.Num
attribute [local go_sem] XW.cell XW.frozen
theorem pq_len (xs : List Int) (d : Nat) : (polyQ xs d).length ≤ d + 1 := by
  unfold polyQ
  refine Nat.le_trans (tz_len_le _) ?_
  rw [List.length_map, List.length_take]
  omega
theorem pq_sz (xs : List Int) (d : Nat) : SzL 1 (polyQ xs d) := SzL.tz (rats_sz _)
theorem tbV_sz {n t : Nat} {r : List Rat} (h : SzL t r) (ht : 1 ≤ t) (hn : n ≤ 60) : SzL ((t + 9) * 2 ^ n) (tbV n r) := by
  induction n generalizing t r with
  | zero => intro q hq; simp [tbV] at hq
  | succ n ih =>
    intro q hq
    rcases List.mem_append.1 hq with h1 | h1
    · refine (ih (t := 2 * t + 9) (tbStep_sz h ht (by omega)) (by omega) (by omega) q h1).mono ?_
      rw [Nat.pow_succ, show 2 * t + 9 + 9 = (t + 9) * 2 by omega, Nat.mul_assoc, Nat.mul_comm 2]
      exact Nat.le_refl _
    · obtain rfl : q = r.getD n 0 / Tf n n := by simpa using h1
      refine ((h.getD ht n).div (Tf_sz (by omega))).mono ?_
      have := Nat.mul_le_mul_left (t + 9) (Nat.pow_pos (n := n + 1) (show 0 < 2 by decide) : 1 ≤ 2 ^ (n + 1))
      omega
theorem fbV_sz {s : Nat} {c : List Rat} (h : SzL s c) (hs : 1 ≤ s) (hl : c.length ≤ 60) : SzL (1 + c.length * (s + 4 + 1)) (fbV c) := by
  unfold fbV
  refine SzL.tz ?_
  intro q hq
  obtain ⟨i, -, rfl⟩ := List.mem_map.1 hq
  unfold fbS
  exact sm_sz (t := s + 4) (fun k hk => (h.getD hs k).mul (Tf_sz (by omega)))
set_option maxRecDepth 8000 in
set_option maxHeartbeats 4000000 in
theorem basis_any (ao bo : Option Addr) (cap dap : Nat) (xs ys : List Int) (w : World) (h : IntsAt w ao xs) (hr : InR xs) (hl : xs.length ≤ 9223372036854775807) (hc : xs.length ≤ cap) (hcm : cap ≤ 9223372036854775807)
    (k : IntsAt w bo ys) (kr : InR ys) (kl : ys.length ≤ 9223372036854775807) (kc : ys.length ≤ dap) (kcm : dap ≤ 9223372036854775807) :
    Does 7 [.slice ao xs.length cap, .slice bo ys.length dap] w (fun _ : Unit => .bool true) (fun _ _ => True) := by
  have HX := Lib.hid (Ext.refl w)
  have HC1 := Lib.hid (poly_any ao cap 7 xs w h hr hl (by decide) hc hcm)
  have HC2 : Hid (∀ w1, Ext w w1 → Does 16 [.slice bo ys.length dap, .int .i64 ((7 : Nat) : Int)] w1 SH.v (fun s w' => NewL w1.heap.size w' s (polyQ ys 7))) := Lib.hid (fun w1 hE => poly_any bo dap 7 ys w1 (k.ext hE) kr kl (by decide) kc kcm)
  have ZP := Lib.hid (pq_sz xs 7)
  have ZC := Lib.hid (pq_sz ys 7)
  have LP := Lib.hid (pq_len xs 7)
  have LC := Lib.hid (pq_len ys 7)
  have TP : Hid (tz (polyQ xs 7) = polyQ xs 7) := Lib.hid (tz_idem _)
  have TC : Hid (tz (polyQ ys 7) = polyQ ys 7) := Lib.hid (tz_idem _)
  obtain ⟨n, hn⟩ : ∃ n, n = xs.length := ⟨_, rfl⟩
  obtain ⟨m, hm⟩ : ∃ m, m = ys.length := ⟨_, rfl⟩
  obtain ⟨p, hp⟩ : ∃ p, p = polyQ xs 7 := ⟨_, rfl⟩
  obtain ⟨c, hc'⟩ : ∃ c, c = polyQ ys 7 := ⟨_, rfl⟩
  rw [← hn] at HC1 hl hc ⊢
  rw [← hm] at HC2 kl kc ⊢
  rw [← hp] at HC1 ZP LP TP
  rw [← hc'] at HC2 ZC LC TC
  clear hn hm hp hc' h hr k kr
  unfold Does
  go_enter Try.func7, Try.ntmps7
  go_wp2_with fail
  refine Calls.mono (HC1.out) ?_
  rintro e w1 ⟨x1, rfl, hE, g1⟩
  have G1 := Lib.hid g1
  clear g1
  replace HX := Lib.hid (HX.out.trans hE)
  have hs_w1 := hE.size
  clear hE
  go_wp2_with fail
  refine Calls.mono (HC2.out _ HX.out) ?_
  rintro e w2 ⟨x2, rfl, hE, g2⟩
  have G2 := Lib.hid g2
  clear g2
  replace HX := Lib.hid (HX.out.trans hE)
  replace G1 := Lib.hid (G1.out.ext hE)
  have hs_w2 := hE.size
  clear hE
  obtain ⟨a1, n1, c1⟩ := x1
  obtain ⟨a2, n2, c2⟩ := x2
  simp only [SH.v]
  have hn1 := G1.out.len
  have hn2 := G2.out.len
  simp only at hn1 hn2
  have hl1 := LP.out
  have hl2 := LC.out
  rw [hn1] at hl1
  rw [hn2] at hl2
  have Hn1 := Lib.hid hn1
  have Hn2 := Lib.hid hn2
  clear hn1 hn2
  go_wp2_with fail
  refine Calls.mono (tobasis_any a1 n1 c1 1 p _ (G1.out.can.raw ZP.out (by decide)) (by omega) ZP.out (by decide) (by decide)) ?_
  rintro e w3 ⟨x3, rfl, hE, g3⟩
  have G3 := Lib.hid g3
  clear g3
  replace HX := Lib.hid (HX.out.trans hE)
  replace G1 := Lib.hid (G1.out.ext hE)
  replace G2 := Lib.hid (G2.out.ext hE)
  have hs_w3 := hE.size
  clear hE
  rw [TP.out] at G3
  have Z3 : Hid (SzL 2560 (tbV p.length p)) := Lib.hid ((tbV_sz ZP.out (by decide) (by have := LP.out; omega)).mono (by
    have := Nat.pow_le_pow_right (show 0 < 2 by decide) LP.out
    omega))
  obtain ⟨a3, n3, c3⟩ := x3
  have hn3 := G3.out.len
  rw [tbV_len, Hn1.out] at hn3
  simp only at hn3
  subst hn3
  simp only [SH.v]
  go_wp2_with fail
  refine Calls.mono (frombasis_any a3 n1 c3 (tbV p.length p) 2560 _ (G3.out.raw Z3.out (by decide)) (by omega) Z3.out (by decide) (by decide) (by unfold cg; have := Nat.mul_le_mul_right 2560 hl1; omega)) ?_
  rintro e w4 ⟨x4, rfl, hE, g4⟩
  have G4 := Lib.hid g4
  clear g4
  replace HX := Lib.hid (HX.out.trans hE)
  replace G1 := Lib.hid (G1.out.ext hE)
  replace G2 := Lib.hid (G2.out.ext hE)
  replace G3 := Lib.hid (G3.out.ext hE)
  have hs_w4 := hE.size
  clear hE
  obtain ⟨⟨a4, n4, c4⟩, e4⟩ := x4
  obtain ⟨he, hl4⟩ := G4.out
  rw [fbV_tbV TP.out] at hl4
  simp only at he hl4
  subst he
  have L4 := Lib.hid hl4
  clear hl4 G4
  simp only [RF, SH.v]
  go_wp2_with fail
  refine Calls.mono (frombasis_any a2 n2 c2 c 1 _ (G2.out.can.raw ZC.out (by decide)) (by omega) ZC.out (by decide) (by decide) (by unfold cg; omega)) ?_
  rintro e w5 ⟨x5, rfl, hE, g5⟩
  have G5 := Lib.hid g5
  clear g5
  replace HX := Lib.hid (HX.out.trans hE)
  replace G1 := Lib.hid (G1.out.ext hE)
  replace G2 := Lib.hid (G2.out.ext hE)
  replace G3 := Lib.hid (G3.out.ext hE)
  replace L4 := Lib.hid (L4.out.ext hE)
  have hs_w5 := hE.size
  clear hE
  obtain ⟨⟨a5, n5, c5⟩, e5⟩ := x5
  obtain ⟨he, hl5⟩ := G5.out
  simp only at he hl5
  subst he
  have L5 := Lib.hid hl5
  clear hl5 G5
  simp only [RF, SH.v]
  have hn5 : n5 ≤ 8 := by
    have h1 := L5.out.len
    rw [fbV_len TC.out, Hn2.out] at h1
    simp only at h1
    omega
  have Z5 : Hid (SzL 49 (fbV c)) := Lib.hid ((fbV_sz ZC.out (by decide) (by have := LC.out; omega)).mono (by have := LC.out; omega))
  go_wp2_with fail
  refine Calls.mono (awake8_any _) ?_
  rintro e w6 ⟨x6, rfl, hE, -⟩
  replace HX := Lib.hid (HX.out.trans hE)
  replace G1 := Lib.hid (G1.out.ext hE)
  replace G2 := Lib.hid (G2.out.ext hE)
  replace G3 := Lib.hid (G3.out.ext hE)
  replace L4 := Lib.hid (L4.out.ext hE)
  replace L5 := Lib.hid (L5.out.ext hE)
  have hs_w6 := hE.size
  clear hE
  go_wp2_with fail
  refine Calls.mono (equal_any ⟨a4, n4, c4⟩ ⟨a1, n1, c1⟩ p p _ L4.out G1.out.can) ?_
  rintro e w7 ⟨x7, rfl, hE, -⟩
  replace HX := Lib.hid (HX.out.trans hE)
  replace G1 := Lib.hid (G1.out.ext hE)
  replace G2 := Lib.hid (G2.out.ext hE)
  replace G3 := Lib.hid (G3.out.ext hE)
  replace L4 := Lib.hid (L4.out.ext hE)
  replace L5 := Lib.hid (L5.out.ext hE)
  have hs_w7 := hE.size
  clear hE
  rw [decide_eq_true rfl]
  go_wp2_with fail
  refine Calls.mono (tobasis_any a5 n5 c5 49 (fbV c) _ (L5.out.raw Z5.out (by decide)) (by omega) Z5.out (by decide) (by decide)) ?_
  rintro e w8 ⟨x8, rfl, hE, g8⟩
  have G8 := Lib.hid g8
  clear g8
  replace HX := Lib.hid (HX.out.trans hE)
  replace G1 := Lib.hid (G1.out.ext hE)
  replace G2 := Lib.hid (G2.out.ext hE)
  replace G3 := Lib.hid (G3.out.ext hE)
  replace L4 := Lib.hid (L4.out.ext hE)
  replace L5 := Lib.hid (L5.out.ext hE)
  have hs_w8 := hE.size
  clear hE
  rw [fbV_tz, tbV_fbV TC.out] at G8
  obtain ⟨a8, n8, c8⟩ := x8
  go_wp2_with fail
  refine Calls.mono (samelist_any ⟨a8, n8, c8⟩ ⟨a2, n2, c2⟩ c c _ G8.out G2.out.can) ?_
  rintro e w9 ⟨x9, rfl, hE, -⟩
  replace HX := Lib.hid (HX.out.trans hE)
  replace G1 := Lib.hid (G1.out.ext hE)
  replace G2 := Lib.hid (G2.out.ext hE)
  replace G3 := Lib.hid (G3.out.ext hE)
  replace L4 := Lib.hid (L4.out.ext hE)
  replace L5 := Lib.hid (L5.out.ext hE)
  replace G8 := Lib.hid (G8.out.ext hE)
  have hs_w9 := hE.size
  clear hE
  rw [decide_eq_true rfl]
  go_wp2
  go_ret
  exact ⟨(), rfl, HX.out, trivial⟩
end Go.Proofs.Ytipnfjpilcoeoaa
