/- Frac -/
import Derived.Test.YteafdebcihbjdaaGreatM3
set_option linter.unusedVariables false
/- Frac of package rational. -/
namespace Go.Proofs.YteafdebcihbjdaaGreat
open Go.RowKit Go.Front Go.Num
attribute [local go_sem] XW.cell XW.frozen
theorem frac_eq (a b : Int) : (a : Rat) / (b : Rat) = mkRat (sg (decide (a < 0) != decide (b < 0)) a.natAbs) b.natAbs := by
  by_cases h : b < 0
  · have h1 : sg (decide (a < 0) != decide (b < 0)) a.natAbs = -a := by
      rw [decide_eq_true h]
      unfold sg
      by_cases ha : a < 0
      · rw [decide_eq_true ha]; simp; omega
      · rw [decide_eq_false ha]; simp; omega
    have h2 : ((b.natAbs : Nat) : Int) = -b := by omega
    rw [h1, Rat.mkRat_eq_div]
    rw [show ((b.natAbs : Nat) : Rat) = (((b.natAbs : Nat) : Int) : Rat) from rfl, h2, Rat.intCast_neg, Rat.intCast_neg, Rat.div_def, Rat.div_def]
    have hb : (b : Rat) ≠ 0 := by intro h0; have := Rat.intCast_eq_zero_iff.1 h0; omega
    have hb2 : -(b : Rat) ≠ 0 := by intro h0; apply hb; grind
    have p1 := Rat.mul_inv_cancel _ hb
    have p2 := Rat.mul_inv_cancel _ hb2
    grind
  · have h1 : sg (decide (a < 0) != decide (b < 0)) a.natAbs = a := by
      rw [decide_eq_false h]
      unfold sg
      by_cases ha : a < 0
      · rw [decide_eq_true ha]; simp; omega
      · rw [decide_eq_false ha]; simp; omega
    have h2 : ((b.natAbs : Nat) : Int) = b := by omega
    rw [h1, Rat.mkRat_eq_div]
    rw [show ((b.natAbs : Nat) : Rat) = (((b.natAbs : Nat) : Int) : Rat) from rfl, h2]
set_option maxRecDepth 4000 in
set_option maxHeartbeats 1000000 in
theorem rfrac_any (n d : Int) (w : World) (h1 : -9223372036854775808 ≤ n) (h2 : n ≤ 9223372036854775807) (k1 : -9223372036854775808 ≤ d) (k2 : d ≤ 9223372036854775807) (hd : d ≠ 0) : Does 52 [.int .i64 n, .int .i64 d] w RH.v (fun r w' => CanR w' r ((n : Rat) / (d : Rat))) := by
  have hdb : (d == 0) = false := by simpa using hd
  have HQ := Lib.hid (frac_eq n d)
  have HD : Hid (d.natAbs ≠ 0) := Lib.hid (by omega)
  have HN1 : Hid (n.natAbs < W32 ^ 2) := Lib.hid (by unfold W32; omega)
  have HD1 : Hid (d.natAbs < W32 ^ 2) := Lib.hid (by unfold W32; omega)
  unfold Does
  go_enter Tryz.func52, Tryz.ntmps52
  go_wp2_with fail
  refine Calls.mono (iof_any n _ h1 h2) ?_
  rintro e w1 ⟨x1, rfl, hE, g1⟩
  have G1 := Lib.hid g1
  clear g1
  obtain ⟨hcw, hfw⟩ := bcellE hE
  have hsw := hE.size
  (try simp only [World.size_alloc] at hsw)
  have hs0 : w.heap.size < w1.heap.size := by omega
  have hB := hE.block (heap_alloc_new _ _)
  have HB : Hid (w1.heap[w.heap.size]? = some _) := Lib.hid hB
  clear hB
  have E1 := Lib.hid ((Ext.al1).trans hE)
  have X1 := Lib.hid hE
  clear hE
  go_wp2_with fail
  refine Calls.mono (iof_any d _ k1 k2) ?_
  rintro e w2 ⟨x2, rfl, hE, g2⟩
  have G2 := Lib.hid g2
  clear g2
  obtain ⟨hcw, hfw⟩ := bcellE hE
  have hsw := hE.size
  (try simp only [World.size_alloc] at hsw)
  have hs0 : w.heap.size < w2.heap.size := by omega
  replace HB := Lib.hid (hE.block HB.out)
  have cR := blk_cell HB.out
  have fR := blk_frozen HB.out
  have E2 := Lib.hid ((E1.out).trans hE)
  have X2 := Lib.hid hE
  clear hE
  go_wp2_with fail
  refine Calls.mono (quotient_any x1 x2 _) ?_
  rintro e w3 ⟨x3, rfl, hE, g3⟩
  have G3 := Lib.hid g3
  clear g3
  obtain ⟨hcw, hfw⟩ := bcellE hE
  have hsw := hE.size
  (try simp only [World.size_alloc] at hsw)
  have hs0 : w.heap.size < w3.heap.size := by omega
  replace HB := Lib.hid (hE.block HB.out)
  have cR := blk_cell HB.out
  have fR := blk_frozen HB.out
  have E3 := Lib.hid ((E2.out).trans hE)
  have X3 := Lib.hid hE
  clear hE
  have RP : Hid (RawP w3 ⟨x1.neg != x2.neg, x1.a, x1.n, x1.c, x2.a, x2.n, x2.c⟩ ((n : Rat) / (d : Rat))) := Lib.hid (by
    have a1 := (G1.out.ext X2.out).ext X3.out
    have a2 := G2.out.ext X3.out
    refine ⟨_, _, a1.2, a2.2, ?_, ?_, ?_, ?_⟩
    · rw [val_digs, val_digs, a1.1, a2.1]; exact HQ.out
    · rw [val_digs]; exact HD.out
    · exact U32.nle a1.2 HN1.out (by decide)
    · exact U32.nle a2.2 HD1.out (by decide))
  go_wp2_with fail
  refine Calls.mono (lowest_any ⟨x1.neg != x2.neg, x1.a, x1.n, x1.c, x2.a, x2.n, x2.c⟩ _ _ RP.out) ?_
  rintro e w4 ⟨x4, rfl, hE, g4⟩
  have G4 := Lib.hid g4
  clear g4
  obtain ⟨hcw, hfw⟩ := bcellE hE
  have hsw := hE.size
  (try simp only [World.size_alloc] at hsw)
  have hs0 : w.heap.size < w4.heap.size := by omega
  replace HB := Lib.hid (hE.block HB.out)
  have cR := blk_cell HB.out
  have fR := blk_frozen HB.out
  have E4 := Lib.hid ((E3.out).trans hE)
  have X4 := Lib.hid hE
  clear hE
  have HX := E4
  go_wp2
  have hF := ((((Fin.start (L := w.heap.size) HX.out (noU_block HB.out rfl)).set (by omega) (i := 0) (v := .bool x4.neg) rfl).set (by omega) (i := 1) (v := .slice x4.a x4.n x4.c) rfl).set (by omega) (i := 2) (v := .slice x4.b x4.m x4.d) rfl)
  exact bodyPost_ret (v := x4.v) (by simp [results, Tryz.results52, go_sem, blk_cell HB.out]) rfl ⟨x4, rfl, hF.ext, G4.out.keep hF.keep⟩
end Go.Proofs.YteafdebcihbjdaaGreat
