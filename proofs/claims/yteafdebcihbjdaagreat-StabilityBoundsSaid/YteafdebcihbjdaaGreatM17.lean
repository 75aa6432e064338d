/- Rfc, Rfd -/
import Derived.Test.YteafdebcihbjdaaGreatM1
import Derived.Test.YteafdebcihbjdaaGreatM7
import Derived.Test.YteafdebcihbjdaaGreatM8
set_option linter.unusedVariables false
/- Neg, Abs, Sub, Compare, Less, Div, Over of the reference 03; Sub, Compare, Abs of the reference 02. -/
namespace Go.Proofs.YteafdebcihbjdaaGreat
open Go.RowKit Go.Front Go.Num
attribute [local go_sem] XW.cell XW.frozen
theorem nm_set2 {w1 : World} {b : Nat} {T : TypeId} {c0 c1 c2 v0 v1 : Value} {F : World → Prop} (hb : w1.heap[b]? = some (.cells #[c0, c1, c2] T (0, 0))) (hn : #[c0, c1, c2].toList.all nonU = true) (h : ∀ w2, PutB w1 b T #[v0, v1, c2] w2 → F w2) :
    F ((w1.setCell ⟨b, 0, none⟩ v0).setCell ⟨b, 1, none⟩ v1) :=
  h _ (PutB.of (Array.getElem?_eq_some_iff.1 hb).1 (noU_block hb hn) ((Mods.setCell w1 ⟨b, 0, none⟩ v0).trans (Mods.setCell _ ⟨b, 1, none⟩ v1)) (by simp [World.setCell]) (blk_set (blk_set hb 0 v0) 1 v1))
theorem CanI.rawn {w : World} {s : IH} {z : Int} (h : CanI w s z) {w' : World} {t : IH} {y : Int} (k : RawI w' t y) (hz : z.natAbs ≤ y.natAbs) : RawI w s z := by
  obtain ⟨ds, h1, h2, h3⟩ := k
  have h4 := sg_lt h1 t.neg
  rw [← h2] at h4
  exact h.rawk (k := t.n) (Nat.lt_of_le_of_lt hz h4) h3
set_option maxRecDepth 4000 in
set_option maxHeartbeats 1000000 in
theorem isub2_any (s t : IH) (z y : Int) (w : World) (h : RawI w s z) (k : RawI w t y) : Does 130 [s.v, t.v] w IH.v (fun s w' => CanI w' s (z - y)) := by
  obtain ⟨neg, ao, n, c⟩ := s
  obtain ⟨neg', bo, m, d⟩ := t
  have HR := Lib.hid h
  have KR := Lib.hid k
  have HX := Lib.hid (Ext.refl w)
  have HV : Hid (z - y = z + -y) := Lib.hid (by omega)
  clear h k
  unfold Does
  go_enter Tryz.func130, Tryz.ntmps130
  go_upto_region 1 with fail
  refine nm_alloc3 ?_
  intro w1 hE hB0 hB1 hB2 hz
  have hz_w1 := Nat.le_of_eq hz
  have hr_w1 := Nat.le_of_eq hz.symm
  clear hz
  replace HX := Lib.hid (HX.out.trans hE)
  replace HR := Lib.hid (HR.out.ext hE)
  replace KR := Lib.hid (KR.out.ext hE)
  have hs_w1 := hE.size
  clear hE
  have B2 := Lib.hid hB0
  clear hB0
  have c_B2 := blk_cell B2.out
  have f_B2 := blk_frozen B2.out
  have l_B2 := (Array.getElem?_eq_some_iff.1 B2.out).1
  have B3 := Lib.hid hB1
  clear hB1
  have c_B3 := blk_cell B3.out
  have f_B3 := blk_frozen B3.out
  have l_B3 := (Array.getElem?_eq_some_iff.1 B3.out).1
  have B4 := Lib.hid hB2
  clear hB2
  have c_B4 := blk_cell B4.out
  have f_B4 := blk_frozen B4.out
  have l_B4 := (Array.getElem?_eq_some_iff.1 B4.out).1
  refine wp_region_front 4 (fun opIx => match opIx with
    | 2 => .spec IH default IH.v (fun s w' => CanI w' s (-y))
    | 3 => .spec IH default IH.v (fun s w' => CanI w' s (z + -y))
    | _ => .quiet) (fun | 3 => [2] | _ => []) (by kernel_rfl) (by kernel_rfl) (fun w0 he0 hz0 hc0 hf0 => ?_)
  replace he0 := Lib.hid he0
  simp only [List.take_succ_cons, List.take_zero]
  repeat (refine wpF_quiet rfl rfl rfl (fun K hK => ?_); go_big_quiet_op; refine hK _ ?_; clear hK K)
  refine wpF_spec rfl rfl (fun w1 hw1 hG => ?_) (fun x2 => ?_)
  · have hW := he0.out.trans hw1
    refine spec_call [IH.v ⟨neg', bo, m, d⟩] rfl rfl Tryz.func91 (by kernel_rfl) (by kernel_rfl) ?_
    exact ineg2_any ⟨neg', bo, m, d⟩ y _ (KR.out.ext hW)
  simp only [Act.put, List.setIfInBounds_toArray, List.set_cons_succ, List.set_cons_zero]
  repeat (refine wpF_quiet rfl rfl rfl (fun K hK => ?_); go_big_quiet_op; refine hK _ ?_; clear hK K)
  refine wpF_spec rfl rfl (fun w1 hw1 hG => ?_) (fun x3 => ?_)
  · have hW := he0.out.trans hw1
    obtain ⟨wa2, hwa2, g2⟩ : Since _ _ := hG 2 (by decide)
    replace g2 := g2.ext hwa2
    refine spec_call [IH.v ⟨neg, ao, n, c⟩, x2.v] rfl rfl Tryz.func100 (by kernel_rfl) (by kernel_rfl) ?_
    exact iadd2_any ⟨neg, ao, n, c⟩ x2 z (-y) _ (HR.out.ext hW) (g2.rawn KR.out (by omega))
  simp only [Act.put, List.setIfInBounds_toArray, List.set_cons_succ, List.set_cons_zero]
  repeat (refine wpF_quiet rfl rfl rfl (fun K hK => ?_); go_big_quiet_op; refine hK _ ?_; clear hK K)
  refine wpF_nil ?_
  intro w2 hI
  have hE := he0.out.trans hI.ext
  obtain ⟨wa2, hwa2, g2⟩ : Since _ _ := hI.facts 2
  have G2 := Lib.hid (g2.ext hwa2)
  clear g2 hwa2
  obtain ⟨wa3, hwa3, g3⟩ : Since _ _ := hI.facts 3
  have G3 := Lib.hid (g3.ext hwa3)
  clear g3 hwa3
  clear hI he0 hz0 hc0 hf0
  replace HX := Lib.hid (HX.out.trans hE)
  replace HR := Lib.hid (HR.out.ext hE)
  replace KR := Lib.hid (KR.out.ext hE)
  replace B2 := Lib.hid (hE.block B2.out)
  replace B3 := Lib.hid (hE.block B3.out)
  replace B4 := Lib.hid (hE.block B4.out)
  have hs_w2 := hE.size
  clear hE
  (try clear c_B2 f_B2 l_B2)
  have c_B2 := blk_cell B2.out
  have f_B2 := blk_frozen B2.out
  have l_B2 := (Array.getElem?_eq_some_iff.1 B2.out).1
  (try clear c_B3 f_B3 l_B3)
  have c_B3 := blk_cell B3.out
  have f_B3 := blk_frozen B3.out
  have l_B3 := (Array.getElem?_eq_some_iff.1 B3.out).1
  (try clear c_B4 f_B4 l_B4)
  have c_B4 := blk_cell B4.out
  have f_B4 := blk_frozen B4.out
  have l_B4 := (Array.getElem?_eq_some_iff.1 B4.out).1
  simp only [List.drop_succ_cons, List.drop_zero]
  rw [← HV.out] at G3
  go_wp2
  have hF := ((Fin.start (L := w.heap.size + 2) HX.out (noU_block B4.out rfl)).set (by omega) (i := 0) (v := .bool x3.neg) rfl).set (by omega) (i := 1) (v := .slice x3.a x3.n x3.c) rfl
  exact bodyPost_ret (v := x3.v) (by simp [results, Tryz.results130, go_sem, blk_cell B4.out]) rfl ⟨x3, rfl, hF.ext, G3.out.keep hF.keep⟩
theorem cmpI_sub (z y : Int) : cmpI (z - y) 0 = cmpI z y := by
  unfold cmpI
  split
  · rw [if_pos (by omega)]
  · split
    · rw [if_neg (by omega), if_pos (by omega)]
    · rw [if_neg (by omega), if_neg (by omega)]
set_option maxRecDepth 4000 in
set_option maxHeartbeats 1000000 in
theorem icmp2_any (s t : IH) (z y : Int) (k : Nat) (w : World) (h : RawI w s z) (g : RawI w t y) (hz : z.natAbs < W32 ^ k) (hy : y.natAbs < W32 ^ k) (hk : k ≤ 1073741823) (hk1 : 1 ≤ k) : Does 103 [s.v, t.v] w (fun _ : Unit => .int .i64 (cmpI z y)) (fun _ _ => True) := by
  obtain ⟨neg, ao, n, c⟩ := s
  obtain ⟨neg', bo, m, d⟩ := t
  have HR := Lib.hid h
  have KR := Lib.hid g
  have HX := Lib.hid (Ext.refl w)
  have HV := Lib.hid (cmpI_sub z y)
  have HL : Hid ((z - y).natAbs < W32 ^ (k + 1)) := Lib.hid (by
    have h5 : W32 ^ k * 2 ≤ W32 ^ (k + 1) := by rw [Nat.pow_succ]; exact Nat.mul_le_mul_left _ (by decide)
    omega)
  clear h g hz hy
  unfold Does
  go_enter Tryz.func103, Tryz.ntmps103
  go_wp2_with fail
  refine nm_alloc2 (F := fun W => Calls _ _ _ W _) ?_
  intro w1 hE hB0 hB1 hz
  have hz_w1 := Nat.le_of_eq hz
  have hr_w1 := Nat.le_of_eq hz.symm
  clear hz
  replace HX := Lib.hid (HX.out.trans hE)
  replace HR := Lib.hid (HR.out.ext hE)
  replace KR := Lib.hid (KR.out.ext hE)
  have hs_w1 := hE.size
  clear hE
  have B2 := Lib.hid hB0
  clear hB0
  have c_B2 := blk_cell B2.out
  have f_B2 := blk_frozen B2.out
  have l_B2 := (Array.getElem?_eq_some_iff.1 B2.out).1
  have B3 := Lib.hid hB1
  clear hB1
  have c_B3 := blk_cell B3.out
  have f_B3 := blk_frozen B3.out
  have l_B3 := (Array.getElem?_eq_some_iff.1 B3.out).1
  change Calls _ _ _ _ _
  refine Calls.mono (isub2_any ⟨neg, ao, n, c⟩ ⟨neg', bo, m, d⟩ z y _ HR.out KR.out) ?_
  rintro e w2 ⟨x2, rfl, hE, g2⟩
  have G2 := Lib.hid g2
  clear g2
  replace HX := Lib.hid (HX.out.trans hE)
  replace HR := Lib.hid (HR.out.ext hE)
  replace KR := Lib.hid (KR.out.ext hE)
  replace B2 := Lib.hid (hE.block B2.out)
  replace B3 := Lib.hid (hE.block B3.out)
  have hs_w2 := hE.size
  clear hE
  (try clear c_B2 f_B2 l_B2)
  have c_B2 := blk_cell B2.out
  have f_B2 := blk_frozen B2.out
  have l_B2 := (Array.getElem?_eq_some_iff.1 B2.out).1
  (try clear c_B3 f_B3 l_B3)
  have c_B3 := blk_cell B3.out
  have f_B3 := blk_frozen B3.out
  have l_B3 := (Array.getElem?_eq_some_iff.1 B3.out).1
  go_wp2_with fail
  refine Calls.mono (isign2_any x2 (z - y) _ (G2.out.rawk HL.out (by omega))) ?_
  rintro e w3 ⟨x3, rfl, hE, -⟩
  replace HX := Lib.hid (HX.out.trans hE)
  replace HR := Lib.hid (HR.out.ext hE)
  replace KR := Lib.hid (KR.out.ext hE)
  replace B2 := Lib.hid (hE.block B2.out)
  replace B3 := Lib.hid (hE.block B3.out)
  replace G2 := Lib.hid (G2.out.ext hE)
  have hs_w3 := hE.size
  clear hE
  (try clear c_B2 f_B2 l_B2)
  have c_B2 := blk_cell B2.out
  have f_B2 := blk_frozen B2.out
  have l_B2 := (Array.getElem?_eq_some_iff.1 B2.out).1
  (try clear c_B3 f_B3 l_B3)
  have c_B3 := blk_cell B3.out
  have f_B3 := blk_frozen B3.out
  have l_B3 := (Array.getElem?_eq_some_iff.1 B3.out).1
  rw [HV.out]
  go_wp2
  go_ret
  exact ⟨(), rfl, HX.out, trivial⟩
theorem cmp_parts {z e z' e' : Int} {q r : Rat} (h0 : 0 < e) (k0 : 0 < e') (h : (z : Rat) / (e : Rat) = q) (k : (z' : Rat) / (e' : Rat) = r) : cmpI (z * e') (z' * e) = cmpR q r := by
  have f : ∀ (a b : Int), 0 < b → (a : Rat) / (b : Rat) = mkRat a b.natAbs := fun a b hb => by
    rw [Rat.mkRat_eq_div]
    congr 1
    rw [← Rat.intCast_natCast, Int.natAbs_of_nonneg (by omega)]
  rw [← h, ← k, f z e h0, f z' e' k0, cmpR_mk (by omega) (by omega)]
  rw [Int.natAbs_of_nonneg (by omega), Int.natAbs_of_nonneg (by omega)]
theorem big_mul {a b : Int} (h : Big a) (k : Big b) : (a * b).natAbs < W32 ^ (BigK + BigK) := by
  rw [Int.natAbs_mul]
  exact mul_lt h k
theorem big2_le : BigK + BigK ≤ 1073741823 ∧ BigK + BigK ≤ 1073741824 ∧ 1 ≤ BigK + BigK := by unfold BigK; omega
set_option maxRecDepth 8000 in
set_option maxHeartbeats 4000000 in
theorem rcmp3_any (s t : RH) (q r : Rat) (w : World) (h : RawR w s q) (k : RawR w t r) : Does 64 [s.v, t.v] w (fun _ : Unit => .int .i64 (cmpR q r)) (fun _ _ => True) := by
  obtain ⟨neg, ao, n, c, bo, m, d⟩ := s
  obtain ⟨neg', ao', n', c', bo', m', d'⟩ := t
  have HR := Lib.hid h
  have KR := Lib.hid k
  have HX := Lib.hid (Ext.refl w)
  clear h k
  unfold Does
  go_enter Tryz.func64, Tryz.ntmps64
  go_wp2_with fail
  refine nm_alloc2 (F := fun W => Calls _ _ _ W _) ?_
  intro w1 hE hB0 hB1 hz
  have hz_w1 := Nat.le_of_eq hz
  have hr_w1 := Nat.le_of_eq hz.symm
  clear hz
  replace HX := Lib.hid (HX.out.trans hE)
  replace HR := Lib.hid (HR.out.ext hE)
  replace KR := Lib.hid (KR.out.ext hE)
  have hs_w1 := hE.size
  clear hE
  have B2 := Lib.hid hB0
  clear hB0
  have c_B2 := blk_cell B2.out
  have f_B2 := blk_frozen B2.out
  have l_B2 := (Array.getElem?_eq_some_iff.1 B2.out).1
  have B3 := Lib.hid hB1
  clear hB1
  have c_B3 := blk_cell B3.out
  have f_B3 := blk_frozen B3.out
  have l_B3 := (Array.getElem?_eq_some_iff.1 B3.out).1
  change Calls _ _ _ _ _
  refine Calls.mono (parts_any ⟨neg, ao, n, c, bo, m, d⟩ q _ HR.out) ?_
  rintro e w2 ⟨x2, rfl, hE, g2⟩
  have G2 := Lib.hid g2
  clear g2
  replace HX := Lib.hid (HX.out.trans hE)
  replace HR := Lib.hid (HR.out.ext hE)
  replace KR := Lib.hid (KR.out.ext hE)
  replace B2 := Lib.hid (hE.block B2.out)
  replace B3 := Lib.hid (hE.block B3.out)
  have hs_w2 := hE.size
  clear hE
  (try clear c_B2 f_B2 l_B2)
  have c_B2 := blk_cell B2.out
  have f_B2 := blk_frozen B2.out
  have l_B2 := (Array.getElem?_eq_some_iff.1 B2.out).1
  (try clear c_B3 f_B3 l_B3)
  have c_B3 := blk_cell B3.out
  have f_B3 := blk_frozen B3.out
  have l_B3 := (Array.getElem?_eq_some_iff.1 B3.out).1
  obtain ⟨⟨an, aa, al, ac⟩, ⟨bn, ba, bl, bc⟩⟩ := x2
  obtain ⟨z, e, g1, g2, p3, g4, p5, p6⟩ := G2.out.div
  have J1 := Lib.hid g1
  have J2 := Lib.hid g2
  have J4 := Lib.hid g4
  have P3 := Lib.hid p3
  have P5 := Lib.hid p5
  have P6 := Lib.hid p6
  clear g1 g2 g4 p3 p5 p6 G2
  simp only [PP]
  go_upto_region 2 with fail
  refine nm_alloc2 ?_
  intro y3 hE hB0 hB1 hz
  have hz_y3 := Nat.le_of_eq hz
  have hr_y3 := Nat.le_of_eq hz.symm
  clear hz
  replace HX := Lib.hid (HX.out.trans hE)
  replace HR := Lib.hid (HR.out.ext hE)
  replace KR := Lib.hid (KR.out.ext hE)
  replace B2 := Lib.hid (hE.block B2.out)
  replace B3 := Lib.hid (hE.block B3.out)
  replace J1 := Lib.hid (J1.out.ext hE)
  replace J2 := Lib.hid (J2.out.ext hE)
  have hs_y3 := hE.size
  clear hE
  (try clear c_B2 f_B2 l_B2)
  have c_B2 := blk_cell B2.out
  have f_B2 := blk_frozen B2.out
  have l_B2 := (Array.getElem?_eq_some_iff.1 B2.out).1
  (try clear c_B3 f_B3 l_B3)
  have c_B3 := blk_cell B3.out
  have f_B3 := blk_frozen B3.out
  have l_B3 := (Array.getElem?_eq_some_iff.1 B3.out).1
  have B5 := Lib.hid hB0
  clear hB0
  have c_B5 := blk_cell B5.out
  have f_B5 := blk_frozen B5.out
  have l_B5 := (Array.getElem?_eq_some_iff.1 B5.out).1
  have B6 := Lib.hid hB1
  clear hB1
  have c_B6 := blk_cell B6.out
  have f_B6 := blk_frozen B6.out
  have l_B6 := (Array.getElem?_eq_some_iff.1 B6.out).1
  go_wp2_with fail
  refine Calls.mono (parts_any ⟨neg', ao', n', c', bo', m', d'⟩ r _ KR.out) ?_
  rintro e w4 ⟨x4, rfl, hE, g4⟩
  have G4 := Lib.hid g4
  clear g4
  replace HX := Lib.hid (HX.out.trans hE)
  replace HR := Lib.hid (HR.out.ext hE)
  replace KR := Lib.hid (KR.out.ext hE)
  replace B2 := Lib.hid (hE.block B2.out)
  replace B3 := Lib.hid (hE.block B3.out)
  replace J1 := Lib.hid (J1.out.ext hE)
  replace J2 := Lib.hid (J2.out.ext hE)
  replace B5 := Lib.hid (hE.block B5.out)
  replace B6 := Lib.hid (hE.block B6.out)
  have hs_w4 := hE.size
  clear hE
  (try clear c_B2 f_B2 l_B2)
  have c_B2 := blk_cell B2.out
  have f_B2 := blk_frozen B2.out
  have l_B2 := (Array.getElem?_eq_some_iff.1 B2.out).1
  (try clear c_B3 f_B3 l_B3)
  have c_B3 := blk_cell B3.out
  have f_B3 := blk_frozen B3.out
  have l_B3 := (Array.getElem?_eq_some_iff.1 B3.out).1
  (try clear c_B5 f_B5 l_B5)
  have c_B5 := blk_cell B5.out
  have f_B5 := blk_frozen B5.out
  have l_B5 := (Array.getElem?_eq_some_iff.1 B5.out).1
  (try clear c_B6 f_B6 l_B6)
  have c_B6 := blk_cell B6.out
  have f_B6 := blk_frozen B6.out
  have l_B6 := (Array.getElem?_eq_some_iff.1 B6.out).1
  obtain ⟨⟨an', aa', al', ac'⟩, ⟨bn', ba', bl', bc'⟩⟩ := x4
  obtain ⟨z', e', g1, g2, p3, g4, p5, p6⟩ := G4.out.div
  have K1 := Lib.hid g1
  have K2 := Lib.hid g2
  have K4 := Lib.hid g4
  have Q3 := Lib.hid p3
  have Q5 := Lib.hid p5
  have Q6 := Lib.hid p6
  clear g1 g2 g4 p3 p5 p6 G4
  simp only [PP]
  go_upto_region 3 with fail
  refine nm_alloc2 ?_
  intro y5 hE hB0 hB1 hz
  have hz_y5 := Nat.le_of_eq hz
  have hr_y5 := Nat.le_of_eq hz.symm
  clear hz
  replace HX := Lib.hid (HX.out.trans hE)
  replace HR := Lib.hid (HR.out.ext hE)
  replace KR := Lib.hid (KR.out.ext hE)
  replace B2 := Lib.hid (hE.block B2.out)
  replace B3 := Lib.hid (hE.block B3.out)
  replace J1 := Lib.hid (J1.out.ext hE)
  replace J2 := Lib.hid (J2.out.ext hE)
  replace B5 := Lib.hid (hE.block B5.out)
  replace B6 := Lib.hid (hE.block B6.out)
  replace K1 := Lib.hid (K1.out.ext hE)
  replace K2 := Lib.hid (K2.out.ext hE)
  have hs_y5 := hE.size
  clear hE
  (try clear c_B2 f_B2 l_B2)
  have c_B2 := blk_cell B2.out
  have f_B2 := blk_frozen B2.out
  have l_B2 := (Array.getElem?_eq_some_iff.1 B2.out).1
  (try clear c_B3 f_B3 l_B3)
  have c_B3 := blk_cell B3.out
  have f_B3 := blk_frozen B3.out
  have l_B3 := (Array.getElem?_eq_some_iff.1 B3.out).1
  (try clear c_B5 f_B5 l_B5)
  have c_B5 := blk_cell B5.out
  have f_B5 := blk_frozen B5.out
  have l_B5 := (Array.getElem?_eq_some_iff.1 B5.out).1
  (try clear c_B6 f_B6 l_B6)
  have c_B6 := blk_cell B6.out
  have f_B6 := blk_frozen B6.out
  have l_B6 := (Array.getElem?_eq_some_iff.1 B6.out).1
  have B7 := Lib.hid hB0
  clear hB0
  have c_B7 := blk_cell B7.out
  have f_B7 := blk_frozen B7.out
  have l_B7 := (Array.getElem?_eq_some_iff.1 B7.out).1
  have B8 := Lib.hid hB1
  clear hB1
  have c_B8 := blk_cell B8.out
  have f_B8 := blk_frozen B8.out
  have l_B8 := (Array.getElem?_eq_some_iff.1 B8.out).1
  have HV := Lib.hid (cmp_parts P3.out Q3.out J4.out K4.out)
  have M1 := Lib.hid (big_mul P5.out Q6.out)
  have M2 := Lib.hid (big_mul Q5.out P6.out)
  clear J4 K4
  refine wp_region_front 7 (fun opIx => match opIx with
    | 2 => .spec IH default IH.v (fun s w' => CanI w' s (z * e'))
    | 5 => .spec IH default IH.v (fun s w' => CanI w' s (z' * e))
    | 6 => .spec Unit () (fun _ => .int .i64 (cmpR q r)) (fun _ _ => True)
    | _ => .quiet) (fun | 6 => [2, 5] | _ => []) (by kernel_rfl) (by kernel_rfl) (fun w0 he0 hz0 hc0 hf0 => ?_)
  replace he0 := Lib.hid he0
  simp only [List.take_succ_cons, List.take_zero]
  repeat (refine wpF_quiet rfl rfl rfl (fun K hK => ?_); go_big_quiet_op; refine hK _ ?_; clear hK K)
  refine wpF_spec rfl rfl (fun w1 hw1 hG => ?_) (fun x2 => ?_)
  · have hW := he0.out.trans hw1
    refine spec_call [IH.v ⟨an, aa, al, ac⟩, IH.v ⟨bn', ba', bl', bc'⟩] rfl rfl Tryz.func63 (by kernel_rfl) (by kernel_rfl) ?_
    exact imul2_any _ _ _ _ _ (J1.out.ext hW) (K2.out.ext hW)
  simp only [Act.put, List.setIfInBounds_toArray, List.set_cons_succ, List.set_cons_zero]
  repeat (refine wpF_quiet rfl rfl rfl (fun K hK => ?_); go_big_quiet_op; refine hK _ ?_; clear hK K)
  refine wpF_spec rfl rfl (fun w1 hw1 hG => ?_) (fun x5 => ?_)
  · have hW := he0.out.trans hw1
    refine spec_call [IH.v ⟨an', aa', al', ac'⟩, IH.v ⟨bn, ba, bl, bc⟩] rfl rfl Tryz.func63 (by kernel_rfl) (by kernel_rfl) ?_
    exact imul2_any _ _ _ _ _ (K1.out.ext hW) (J2.out.ext hW)
  simp only [Act.put, List.setIfInBounds_toArray, List.set_cons_succ, List.set_cons_zero]
  repeat (refine wpF_quiet rfl rfl rfl (fun K hK => ?_); go_big_quiet_op; refine hK _ ?_; clear hK K)
  refine wpF_spec rfl rfl (fun w1 hw1 hG => ?_) (fun x6 => ?_)
  · have hW := he0.out.trans hw1
    obtain ⟨wa2, hwa2, g2⟩ : Since _ _ := hG 2 (by decide)
    replace g2 := g2.ext hwa2
    obtain ⟨wa5, hwa5, g5⟩ : Since _ _ := hG 5 (by decide)
    replace g5 := g5.ext hwa5
    refine spec_call [x2.v, x5.v] rfl rfl Tryz.func103 (by kernel_rfl) (by kernel_rfl) ?_
    exact HV.out ▸ icmp2_any x2 x5 _ _ (BigK + BigK) _ (g2.rawk M1.out big2_le.2.1) (g5.rawk M2.out big2_le.2.1) M1.out M2.out big2_le.1 big2_le.2.2
  simp only [Act.put, List.setIfInBounds_toArray, List.set_cons_succ, List.set_cons_zero]
  repeat (refine wpF_quiet rfl rfl rfl (fun K hK => ?_); go_big_quiet_op; refine hK _ ?_; clear hK K)
  refine wpF_nil ?_
  intro w6 hI
  have hE := he0.out.trans hI.ext
  obtain ⟨wa2, hwa2, g2⟩ : Since _ _ := hI.facts 2
  have G2 := Lib.hid (g2.ext hwa2)
  clear g2 hwa2
  obtain ⟨wa5, hwa5, g5⟩ : Since _ _ := hI.facts 5
  have G5 := Lib.hid (g5.ext hwa5)
  clear g5 hwa5
  clear hI he0 hz0 hc0 hf0
  replace HX := Lib.hid (HX.out.trans hE)
  replace HR := Lib.hid (HR.out.ext hE)
  replace KR := Lib.hid (KR.out.ext hE)
  replace B2 := Lib.hid (hE.block B2.out)
  replace B3 := Lib.hid (hE.block B3.out)
  replace J1 := Lib.hid (J1.out.ext hE)
  replace J2 := Lib.hid (J2.out.ext hE)
  replace B5 := Lib.hid (hE.block B5.out)
  replace B6 := Lib.hid (hE.block B6.out)
  replace K1 := Lib.hid (K1.out.ext hE)
  replace K2 := Lib.hid (K2.out.ext hE)
  replace B7 := Lib.hid (hE.block B7.out)
  replace B8 := Lib.hid (hE.block B8.out)
  have hs_w6 := hE.size
  clear hE
  (try clear c_B2 f_B2 l_B2)
  have c_B2 := blk_cell B2.out
  have f_B2 := blk_frozen B2.out
  have l_B2 := (Array.getElem?_eq_some_iff.1 B2.out).1
  (try clear c_B3 f_B3 l_B3)
  have c_B3 := blk_cell B3.out
  have f_B3 := blk_frozen B3.out
  have l_B3 := (Array.getElem?_eq_some_iff.1 B3.out).1
  (try clear c_B5 f_B5 l_B5)
  have c_B5 := blk_cell B5.out
  have f_B5 := blk_frozen B5.out
  have l_B5 := (Array.getElem?_eq_some_iff.1 B5.out).1
  (try clear c_B6 f_B6 l_B6)
  have c_B6 := blk_cell B6.out
  have f_B6 := blk_frozen B6.out
  have l_B6 := (Array.getElem?_eq_some_iff.1 B6.out).1
  (try clear c_B7 f_B7 l_B7)
  have c_B7 := blk_cell B7.out
  have f_B7 := blk_frozen B7.out
  have l_B7 := (Array.getElem?_eq_some_iff.1 B7.out).1
  (try clear c_B8 f_B8 l_B8)
  have c_B8 := blk_cell B8.out
  have f_B8 := blk_frozen B8.out
  have l_B8 := (Array.getElem?_eq_some_iff.1 B8.out).1
  simp only [List.drop_succ_cons, List.drop_zero]
  go_wp2
  go_ret
  exact ⟨(), rfl, HX.out, trivial⟩
set_option maxRecDepth 4000 in
set_option maxHeartbeats 1000000 in
theorem rless3_any (s t : RH) (q r : Rat) (w : World) (h : RawR w s q) (k : RawR w t r) : Does 24 [s.v, t.v] w (fun _ : Unit => .bool (decide (q < r))) (fun _ _ => True) := by
  obtain ⟨neg, ao, n, c, bo, m, d⟩ := s
  obtain ⟨neg', ao', n', c', bo', m', d'⟩ := t
  have HR := Lib.hid h
  have KR := Lib.hid k
  have HX := Lib.hid (Ext.refl w)
  have HV : Hid (decide (cmpR q r < 0) = decide (q < r)) := Lib.hid (by
    unfold cmpR
    by_cases h : q < r
    · rw [if_pos h, decide_eq_true h]; rfl
    · rw [if_neg h, decide_eq_false h]
      split <;> rfl)
  clear h k
  unfold Does
  go_enter Tryz.func24, Tryz.ntmps24
  go_wp2_with fail
  refine nm_alloc2 (F := fun W => Calls _ _ _ W _) ?_
  intro w1 hE hB0 hB1 hz
  have hz_w1 := Nat.le_of_eq hz
  have hr_w1 := Nat.le_of_eq hz.symm
  clear hz
  replace HX := Lib.hid (HX.out.trans hE)
  replace HR := Lib.hid (HR.out.ext hE)
  replace KR := Lib.hid (KR.out.ext hE)
  have hs_w1 := hE.size
  clear hE
  have B2 := Lib.hid hB0
  clear hB0
  have c_B2 := blk_cell B2.out
  have f_B2 := blk_frozen B2.out
  have l_B2 := (Array.getElem?_eq_some_iff.1 B2.out).1
  have B3 := Lib.hid hB1
  clear hB1
  have c_B3 := blk_cell B3.out
  have f_B3 := blk_frozen B3.out
  have l_B3 := (Array.getElem?_eq_some_iff.1 B3.out).1
  change Calls _ _ _ _ _
  refine Calls.mono (rcmp3_any ⟨neg, ao, n, c, bo, m, d⟩ ⟨neg', ao', n', c', bo', m', d'⟩ q r _ HR.out KR.out) ?_
  rintro e w2 ⟨x2, rfl, hE, -⟩
  replace HX := Lib.hid (HX.out.trans hE)
  replace HR := Lib.hid (HR.out.ext hE)
  replace KR := Lib.hid (KR.out.ext hE)
  replace B2 := Lib.hid (hE.block B2.out)
  replace B3 := Lib.hid (hE.block B3.out)
  have hs_w2 := hE.size
  clear hE
  (try clear c_B2 f_B2 l_B2)
  have c_B2 := blk_cell B2.out
  have f_B2 := blk_frozen B2.out
  have l_B2 := (Array.getElem?_eq_some_iff.1 B2.out).1
  (try clear c_B3 f_B3 l_B3)
  have c_B3 := blk_cell B3.out
  have f_B3 := blk_frozen B3.out
  have l_B3 := (Array.getElem?_eq_some_iff.1 B3.out).1
  obtain ⟨v, hv⟩ : ∃ v, v = cmpR q r := ⟨_, rfl⟩
  rw [← hv] at HV ⊢
  clear hv
  go_wp2
  go_ret
  exact ⟨(), by rw [← HV.out]; rfl, HX.out, trivial⟩
set_option maxRecDepth 4000 in
set_option maxHeartbeats 1000000 in
theorem iabs2_any (s : IH) (z : Int) (w : World) (h : RawI w s z) : Does 66 [s.v] w IH.v (fun s w' => CanI w' s (z.natAbs : Int)) := by
  obtain ⟨neg, ao, n, c⟩ := s
  obtain ⟨ds, hU, hz, hn⟩ := h
  simp only at hU hz hn
  have HU := Lib.hid hU
  have HZ : Hid (((z.natAbs : Nat) : Int).natAbs = val ds) := Lib.hid (by rw [hz, sg_natAbs]; simp)
  have HX := Lib.hid (Ext.refl w)
  clear hU hz
  unfold Does
  go_enter Tryz.func66, Tryz.ntmps66
  go_wp2_with fail
  refine nm_alloc2 (F := fun W => Calls _ _ _ W _) ?_
  intro w1 hE hB0 hB1 hz
  have hz_w1 := Nat.le_of_eq hz
  have hr_w1 := Nat.le_of_eq hz.symm
  clear hz
  replace HX := Lib.hid (HX.out.trans hE)
  replace HU := Lib.hid (HU.out.ext hE)
  have hs_w1 := hE.size
  clear hE
  have B1 := Lib.hid hB0
  clear hB0
  have c_B1 := blk_cell B1.out
  have f_B1 := blk_frozen B1.out
  have l_B1 := (Array.getElem?_eq_some_iff.1 B1.out).1
  have B2 := Lib.hid hB1
  clear hB1
  have c_B2 := blk_cell B2.out
  have f_B2 := blk_frozen B2.out
  have l_B2 := (Array.getElem?_eq_some_iff.1 B2.out).1
  change Calls _ _ _ _ _
  refine Calls.mono (trim1_does ⟨ao, n, c⟩ ds _ HU.out (by omega)) ?_
  rintro e w2 ⟨x2, rfl, hE, g2⟩
  have G2 := Lib.hid g2
  clear g2
  replace HX := Lib.hid (HX.out.trans hE)
  replace HU := Lib.hid (HU.out.ext hE)
  replace B1 := Lib.hid (hE.block B1.out)
  replace B2 := Lib.hid (hE.block B2.out)
  have hs_w2 := hE.size
  clear hE
  (try clear c_B1 f_B1 l_B1)
  have c_B1 := blk_cell B1.out
  have f_B1 := blk_frozen B1.out
  have l_B1 := (Array.getElem?_eq_some_iff.1 B1.out).1
  (try clear c_B2 f_B2 l_B2)
  have c_B2 := blk_cell B2.out
  have f_B2 := blk_frozen B2.out
  have l_B2 := (Array.getElem?_eq_some_iff.1 B2.out).1
  go_wp2
  have hF := ((Fin.start (L := w.heap.size + 1) HX.out (noU_block B2.out rfl)).set (by omega) (i := 0) (v := .bool false) rfl).set (by omega) (i := 1) (v := .slice x2.a x2.n x2.c) rfl
  exact bodyPost_ret (v := IH.v ⟨false, x2.a, x2.n, x2.c⟩) (by simp [results, Tryz.results66, go_sem, blk_cell B2.out]) rfl ⟨⟨false, x2.a, x2.n, x2.c⟩, rfl, hF.ext, by simp, by rw [HZ.out]; exact hF.keep _ _ _ _ G2.out⟩
theorem RawR.bsz {w : World} {s : RH} {q : Rat} (h : RawR w s q) : Sz 134217728 q := by
  obtain ⟨ds, es, h1, h2, h3, h4, h5⟩ := h
  exact RawR.sz (s := s) ⟨ds, es, h1, h2, h3, h4, h5⟩ (by decide) h4 h5
theorem CanR.numI {w : World} {neg : Bool} {a b : Option Addr} {n c m d : Nat} {q : Rat} (h : CanR w ⟨neg, a, n, c, b, m, d⟩ q) : CanI w ⟨neg, a, n, c⟩ q.num := ⟨h.1, h.2.1⟩
set_option maxRecDepth 4000 in
set_option maxHeartbeats 1000000 in
theorem rneg3_any (s : RH) (q : Rat) (w : World) (h : RawR w s q) : Does 61 [s.v] w RH.v (fun x w' => CanR w' x (-q)) := by
  have ZQ := Lib.hid h.bsz
  obtain ⟨neg, ao, n, c, bo, m, d⟩ := s
  have HR := Lib.hid h
  have HX := Lib.hid (Ext.refl w)
  clear h
  unfold Does
  go_enter Tryz.func61, Tryz.ntmps61
  go_wp2_with fail
  refine nm_alloc2 (F := fun W => Calls _ _ _ W _) ?_
  intro w1 hE hB0 hB1 hz
  have hz_w1 := Nat.le_of_eq hz
  have hr_w1 := Nat.le_of_eq hz.symm
  clear hz
  replace HX := Lib.hid (HX.out.trans hE)
  replace HR := Lib.hid (HR.out.ext hE)
  have hs_w1 := hE.size
  clear hE
  have B1 := Lib.hid hB0
  clear hB0
  have c_B1 := blk_cell B1.out
  have f_B1 := blk_frozen B1.out
  have l_B1 := (Array.getElem?_eq_some_iff.1 B1.out).1
  have B2 := Lib.hid hB1
  clear hB1
  have c_B2 := blk_cell B2.out
  have f_B2 := blk_frozen B2.out
  have l_B2 := (Array.getElem?_eq_some_iff.1 B2.out).1
  change Calls _ _ _ _ _
  refine Calls.mono (rtrim3_any ⟨neg, ao, n, c, bo, m, d⟩ q _ HR.out) ?_
  rintro e w2 ⟨x2, rfl, hE, g2⟩
  have G2 := Lib.hid g2
  clear g2
  replace HX := Lib.hid (HX.out.trans hE)
  replace HR := Lib.hid (HR.out.ext hE)
  replace B1 := Lib.hid (hE.block B1.out)
  replace B2 := Lib.hid (hE.block B2.out)
  have hs_w2 := hE.size
  clear hE
  (try clear c_B1 f_B1 l_B1)
  have c_B1 := blk_cell B1.out
  have f_B1 := blk_frozen B1.out
  have l_B1 := (Array.getElem?_eq_some_iff.1 B1.out).1
  (try clear c_B2 f_B2 l_B2)
  have c_B2 := blk_cell B2.out
  have f_B2 := blk_frozen B2.out
  have l_B2 := (Array.getElem?_eq_some_iff.1 B2.out).1
  go_upto_region 2 with fail
  refine nm_set3 B1.out rfl ?_
  intro y3 T
  replace HX := Lib.hid (T.ext HX.out (by omega))
  replace HR := Lib.hid (HR.out.keep T.keep)
  replace B1 := Lib.hid (T.bx)
  replace B2 := Lib.hid (T.rest _ _ (by omega) B2.out)
  replace G2 := Lib.hid (G2.out.keep T.keep)
  have hs_y3 := Nat.le_of_eq T.size
  have hr_y3 := Nat.le_of_eq T.size.symm
  clear T
  (try clear c_B1 f_B1 l_B1)
  have c_B1 := blk_cell B1.out
  have f_B1 := blk_frozen B1.out
  have l_B1 := (Array.getElem?_eq_some_iff.1 B1.out).1
  (try clear c_B2 f_B2 l_B2)
  have c_B2 := blk_cell B2.out
  have f_B2 := blk_frozen B2.out
  have l_B2 := (Array.getElem?_eq_some_iff.1 B2.out).1
  obtain ⟨xn, xa, xl, xc, xb, xm, xd⟩ := x2
  go_wp2_with fail
  refine Calls.mono (ineg2_any ⟨xn, xa, xl, xc⟩ q.num _ (G2.out.numI.rawk ZQ.out.1 (by decide))) ?_
  rintro e w4 ⟨x4, rfl, hE, g4⟩
  have G4 := Lib.hid g4
  clear g4
  replace HX := Lib.hid (HX.out.trans hE)
  replace HR := Lib.hid (HR.out.ext hE)
  replace B1 := Lib.hid (hE.block B1.out)
  replace B2 := Lib.hid (hE.block B2.out)
  replace G2 := Lib.hid (G2.out.ext hE)
  have hs_w4 := hE.size
  clear hE
  (try clear c_B1 f_B1 l_B1)
  have c_B1 := blk_cell B1.out
  have f_B1 := blk_frozen B1.out
  have l_B1 := (Array.getElem?_eq_some_iff.1 B1.out).1
  (try clear c_B2 f_B2 l_B2)
  have c_B2 := blk_cell B2.out
  have f_B2 := blk_frozen B2.out
  have l_B2 := (Array.getElem?_eq_some_iff.1 B2.out).1
  obtain ⟨yn, ya, yl, yc⟩ := x4
  go_upto_region 3 with fail
  refine nm_set2 B1.out rfl ?_
  intro y5 T
  replace HX := Lib.hid (T.ext HX.out (by omega))
  replace HR := Lib.hid (HR.out.keep T.keep)
  replace B1 := Lib.hid (T.bx)
  replace B2 := Lib.hid (T.rest _ _ (by omega) B2.out)
  replace G2 := Lib.hid (G2.out.keep T.keep)
  replace G4 := Lib.hid (G4.out.keep T.keep)
  have hs_y5 := Nat.le_of_eq T.size
  have hr_y5 := Nat.le_of_eq T.size.symm
  clear T
  (try clear c_B1 f_B1 l_B1)
  have c_B1 := blk_cell B1.out
  have f_B1 := blk_frozen B1.out
  have l_B1 := (Array.getElem?_eq_some_iff.1 B1.out).1
  (try clear c_B2 f_B2 l_B2)
  have c_B2 := blk_cell B2.out
  have f_B2 := blk_frozen B2.out
  have l_B2 := (Array.getElem?_eq_some_iff.1 B2.out).1
  go_wp2
  have hF := ((((Fin.start (L := w.heap.size + 1) HX.out (noU_block B2.out rfl)).set (by omega) (i := 0) (v := .bool (⟨yn, ya, yl, yc, xb, xm, xd⟩ : RH).neg) rfl).set (by omega) (i := 1) (v := .slice (⟨yn, ya, yl, yc, xb, xm, xd⟩ : RH).a (⟨yn, ya, yl, yc, xb, xm, xd⟩ : RH).n (⟨yn, ya, yl, yc, xb, xm, xd⟩ : RH).c) rfl).set (by omega) (i := 2) (v := .slice (⟨yn, ya, yl, yc, xb, xm, xd⟩ : RH).b (⟨yn, ya, yl, yc, xb, xm, xd⟩ : RH).m (⟨yn, ya, yl, yc, xb, xm, xd⟩ : RH).d) rfl)
  exact bodyPost_ret (v := (⟨yn, ya, yl, yc, xb, xm, xd⟩ : RH).v) (by simp [results, Tryz.results61, go_sem, blk_cell B2.out]) rfl ⟨(⟨yn, ya, yl, yc, xb, xm, xd⟩ : RH), rfl, hF.ext, (CanR.keep (s := ⟨yn, ya, yl, yc, xb, xm, xd⟩) ⟨by rw [Rat.neg_num]; exact G4.out.1, by rw [Rat.neg_num]; exact G4.out.2, by rw [Rat.neg_den]; exact G2.out.2.2⟩ hF.keep)⟩
theorem abs_parts (q : Rat) : q.abs.num = (q.num.natAbs : Int) ∧ q.abs.den = q.den := by
  rcases Rat.le_total (a := 0) (b := q) with h | h
  · rw [Rat.abs_of_nonneg h]
    exact ⟨by have := Rat.num_nonneg.2 h; omega, rfl⟩
  · rw [Rat.abs_of_nonpos h, Rat.neg_num, Rat.neg_den]
    refine ⟨?_, rfl⟩
    have : 0 ≤ (-q).num := Rat.num_nonneg.2 (by grind)
    rw [Rat.neg_num] at this
    omega
set_option maxRecDepth 4000 in
set_option maxHeartbeats 1000000 in
theorem rabs3_any (s : RH) (q : Rat) (w : World) (h : RawR w s q) : Does 25 [s.v] w RH.v (fun x w' => CanR w' x q.abs) := by
  have ZQ := Lib.hid h.bsz
  obtain ⟨neg, ao, n, c, bo, m, d⟩ := s
  have HR := Lib.hid h
  have HX := Lib.hid (Ext.refl w)
  have HA := Lib.hid (abs_parts q)
  clear h
  unfold Does
  go_enter Tryz.func25, Tryz.ntmps25
  go_wp2_with fail
  refine nm_alloc2 (F := fun W => Calls _ _ _ W _) ?_
  intro w1 hE hB0 hB1 hz
  have hz_w1 := Nat.le_of_eq hz
  have hr_w1 := Nat.le_of_eq hz.symm
  clear hz
  replace HX := Lib.hid (HX.out.trans hE)
  replace HR := Lib.hid (HR.out.ext hE)
  have hs_w1 := hE.size
  clear hE
  have B1 := Lib.hid hB0
  clear hB0
  have c_B1 := blk_cell B1.out
  have f_B1 := blk_frozen B1.out
  have l_B1 := (Array.getElem?_eq_some_iff.1 B1.out).1
  have B2 := Lib.hid hB1
  clear hB1
  have c_B2 := blk_cell B2.out
  have f_B2 := blk_frozen B2.out
  have l_B2 := (Array.getElem?_eq_some_iff.1 B2.out).1
  change Calls _ _ _ _ _
  refine Calls.mono (rtrim3_any ⟨neg, ao, n, c, bo, m, d⟩ q _ HR.out) ?_
  rintro e w2 ⟨x2, rfl, hE, g2⟩
  have G2 := Lib.hid g2
  clear g2
  replace HX := Lib.hid (HX.out.trans hE)
  replace HR := Lib.hid (HR.out.ext hE)
  replace B1 := Lib.hid (hE.block B1.out)
  replace B2 := Lib.hid (hE.block B2.out)
  have hs_w2 := hE.size
  clear hE
  (try clear c_B1 f_B1 l_B1)
  have c_B1 := blk_cell B1.out
  have f_B1 := blk_frozen B1.out
  have l_B1 := (Array.getElem?_eq_some_iff.1 B1.out).1
  (try clear c_B2 f_B2 l_B2)
  have c_B2 := blk_cell B2.out
  have f_B2 := blk_frozen B2.out
  have l_B2 := (Array.getElem?_eq_some_iff.1 B2.out).1
  go_upto_region 2 with fail
  refine nm_set3 B1.out rfl ?_
  intro y3 T
  replace HX := Lib.hid (T.ext HX.out (by omega))
  replace HR := Lib.hid (HR.out.keep T.keep)
  replace B1 := Lib.hid (T.bx)
  replace B2 := Lib.hid (T.rest _ _ (by omega) B2.out)
  replace G2 := Lib.hid (G2.out.keep T.keep)
  have hs_y3 := Nat.le_of_eq T.size
  have hr_y3 := Nat.le_of_eq T.size.symm
  clear T
  (try clear c_B1 f_B1 l_B1)
  have c_B1 := blk_cell B1.out
  have f_B1 := blk_frozen B1.out
  have l_B1 := (Array.getElem?_eq_some_iff.1 B1.out).1
  (try clear c_B2 f_B2 l_B2)
  have c_B2 := blk_cell B2.out
  have f_B2 := blk_frozen B2.out
  have l_B2 := (Array.getElem?_eq_some_iff.1 B2.out).1
  obtain ⟨xn, xa, xl, xc, xb, xm, xd⟩ := x2
  go_wp2_with fail
  refine Calls.mono (iabs2_any ⟨xn, xa, xl, xc⟩ q.num _ (G2.out.numI.rawk ZQ.out.1 (by decide))) ?_
  rintro e w4 ⟨x4, rfl, hE, g4⟩
  have G4 := Lib.hid g4
  clear g4
  replace HX := Lib.hid (HX.out.trans hE)
  replace HR := Lib.hid (HR.out.ext hE)
  replace B1 := Lib.hid (hE.block B1.out)
  replace B2 := Lib.hid (hE.block B2.out)
  replace G2 := Lib.hid (G2.out.ext hE)
  have hs_w4 := hE.size
  clear hE
  (try clear c_B1 f_B1 l_B1)
  have c_B1 := blk_cell B1.out
  have f_B1 := blk_frozen B1.out
  have l_B1 := (Array.getElem?_eq_some_iff.1 B1.out).1
  (try clear c_B2 f_B2 l_B2)
  have c_B2 := blk_cell B2.out
  have f_B2 := blk_frozen B2.out
  have l_B2 := (Array.getElem?_eq_some_iff.1 B2.out).1
  obtain ⟨yn, ya, yl, yc⟩ := x4
  go_upto_region 3 with fail
  refine nm_set2 B1.out rfl ?_
  intro y5 T
  replace HX := Lib.hid (T.ext HX.out (by omega))
  replace HR := Lib.hid (HR.out.keep T.keep)
  replace B1 := Lib.hid (T.bx)
  replace B2 := Lib.hid (T.rest _ _ (by omega) B2.out)
  replace G2 := Lib.hid (G2.out.keep T.keep)
  replace G4 := Lib.hid (G4.out.keep T.keep)
  have hs_y5 := Nat.le_of_eq T.size
  have hr_y5 := Nat.le_of_eq T.size.symm
  clear T
  (try clear c_B1 f_B1 l_B1)
  have c_B1 := blk_cell B1.out
  have f_B1 := blk_frozen B1.out
  have l_B1 := (Array.getElem?_eq_some_iff.1 B1.out).1
  (try clear c_B2 f_B2 l_B2)
  have c_B2 := blk_cell B2.out
  have f_B2 := blk_frozen B2.out
  have l_B2 := (Array.getElem?_eq_some_iff.1 B2.out).1
  go_wp2
  have hF := ((((Fin.start (L := w.heap.size + 1) HX.out (noU_block B2.out rfl)).set (by omega) (i := 0) (v := .bool (⟨yn, ya, yl, yc, xb, xm, xd⟩ : RH).neg) rfl).set (by omega) (i := 1) (v := .slice (⟨yn, ya, yl, yc, xb, xm, xd⟩ : RH).a (⟨yn, ya, yl, yc, xb, xm, xd⟩ : RH).n (⟨yn, ya, yl, yc, xb, xm, xd⟩ : RH).c) rfl).set (by omega) (i := 2) (v := .slice (⟨yn, ya, yl, yc, xb, xm, xd⟩ : RH).b (⟨yn, ya, yl, yc, xb, xm, xd⟩ : RH).m (⟨yn, ya, yl, yc, xb, xm, xd⟩ : RH).d) rfl)
  exact bodyPost_ret (v := (⟨yn, ya, yl, yc, xb, xm, xd⟩ : RH).v) (by simp [results, Tryz.results25, go_sem, blk_cell B2.out]) rfl ⟨(⟨yn, ya, yl, yc, xb, xm, xd⟩ : RH), rfl, hF.ext, (CanR.keep (s := ⟨yn, ya, yl, yc, xb, xm, xd⟩) ⟨by rw [HA.out.1]; exact G4.out.1, by rw [HA.out.1]; exact G4.out.2, by rw [HA.out.2]; exact G2.out.2.2⟩ hF.keep)⟩
end Go.Proofs.YteafdebcihbjdaaGreat
/- Sub, Div, Over of the reference 03. -/
namespace Go.Proofs.YteafdebcihbjdaaGreat
open Go.RowKit Go.Front Go.Num
attribute [local go_sem] XW.cell XW.frozen
set_option maxRecDepth 4000 in
set_option maxHeartbeats 1000000 in
theorem rsub3_any (s t : RH) (q r : Rat) (w : World) (h : RawR w s q) (k : RawR w t r) : Does 21 [s.v, t.v] w RH.v (fun s w' => CanR w' s (q - r)) := by
  have ZR := Lib.hid k.bsz
  obtain ⟨neg, ao, n, c, bo, m, d⟩ := s
  obtain ⟨neg', ao', n', c', bo', m', d'⟩ := t
  have HR := Lib.hid h
  have KR := Lib.hid k
  have HX := Lib.hid (Ext.refl w)
  have HV : Hid (q - r = q + -r) := Lib.hid (Rat.sub_eq_add_neg _ _)
  clear h k
  unfold Does
  go_enter Tryz.func21, Tryz.ntmps21
  go_upto_region 1 with fail
  refine nm_alloc3 ?_
  intro w1 hE hB0 hB1 hB2 hz
  have hz_w1 := Nat.le_of_eq hz
  have hr_w1 := Nat.le_of_eq hz.symm
  clear hz
  replace HX := Lib.hid (HX.out.trans hE)
  replace HR := Lib.hid (HR.out.ext hE)
  replace KR := Lib.hid (KR.out.ext hE)
  have hs_w1 := hE.size
  clear hE
  have B2 := Lib.hid hB0
  clear hB0
  have c_B2 := blk_cell B2.out
  have f_B2 := blk_frozen B2.out
  have l_B2 := (Array.getElem?_eq_some_iff.1 B2.out).1
  have B3 := Lib.hid hB1
  clear hB1
  have c_B3 := blk_cell B3.out
  have f_B3 := blk_frozen B3.out
  have l_B3 := (Array.getElem?_eq_some_iff.1 B3.out).1
  have B4 := Lib.hid hB2
  clear hB2
  have c_B4 := blk_cell B4.out
  have f_B4 := blk_frozen B4.out
  have l_B4 := (Array.getElem?_eq_some_iff.1 B4.out).1
  refine wp_region_front 4 (fun opIx => match opIx with
    | 2 => .spec RH default RH.v (fun s w' => CanR w' s (-r))
    | 3 => .spec RH default RH.v (fun s w' => CanR w' s (q + -r))
    | _ => .quiet) (fun | 3 => [2] | _ => []) (by kernel_rfl) (by kernel_rfl) (fun w0 he0 hz0 hc0 hf0 => ?_)
  replace he0 := Lib.hid he0
  simp only [List.take_succ_cons, List.take_zero]
  repeat (refine wpF_quiet rfl rfl rfl (fun K hK => ?_); go_big_quiet_op; refine hK _ ?_; clear hK K)
  refine wpF_spec rfl rfl (fun w1 hw1 hG => ?_) (fun x2 => ?_)
  · have hW := he0.out.trans hw1
    refine spec_call [RH.v ⟨neg', ao', n', c', bo', m', d'⟩] rfl rfl Tryz.func61 (by kernel_rfl) (by kernel_rfl) ?_
    exact rneg3_any ⟨neg', ao', n', c', bo', m', d'⟩ r _ (KR.out.ext hW)
  simp only [Act.put, List.setIfInBounds_toArray, List.set_cons_succ, List.set_cons_zero]
  repeat (refine wpF_quiet rfl rfl rfl (fun K hK => ?_); go_big_quiet_op; refine hK _ ?_; clear hK K)
  refine wpF_spec rfl rfl (fun w1 hw1 hG => ?_) (fun x3 => ?_)
  · have hW := he0.out.trans hw1
    obtain ⟨wa2, hwa2, g2⟩ : Since _ _ := hG 2 (by decide)
    replace g2 := g2.ext hwa2
    refine spec_call [RH.v ⟨neg, ao, n, c, bo, m, d⟩, x2.v] rfl rfl Tryz.func60 (by kernel_rfl) (by kernel_rfl) ?_
    exact radd3_any ⟨neg, ao, n, c, bo, m, d⟩ x2 q (-r) _ (HR.out.ext hW) (g2.raw ZR.out.neg (by decide))
  simp only [Act.put, List.setIfInBounds_toArray, List.set_cons_succ, List.set_cons_zero]
  repeat (refine wpF_quiet rfl rfl rfl (fun K hK => ?_); go_big_quiet_op; refine hK _ ?_; clear hK K)
  refine wpF_nil ?_
  intro w2 hI
  have hE := he0.out.trans hI.ext
  obtain ⟨wa2, hwa2, g2⟩ : Since _ _ := hI.facts 2
  have G2 := Lib.hid (g2.ext hwa2)
  clear g2 hwa2
  obtain ⟨wa3, hwa3, g3⟩ : Since _ _ := hI.facts 3
  have G3 := Lib.hid (g3.ext hwa3)
  clear g3 hwa3
  clear hI he0 hz0 hc0 hf0
  replace HX := Lib.hid (HX.out.trans hE)
  replace HR := Lib.hid (HR.out.ext hE)
  replace KR := Lib.hid (KR.out.ext hE)
  replace B2 := Lib.hid (hE.block B2.out)
  replace B3 := Lib.hid (hE.block B3.out)
  replace B4 := Lib.hid (hE.block B4.out)
  have hs_w2 := hE.size
  clear hE
  (try clear c_B2 f_B2 l_B2)
  have c_B2 := blk_cell B2.out
  have f_B2 := blk_frozen B2.out
  have l_B2 := (Array.getElem?_eq_some_iff.1 B2.out).1
  (try clear c_B3 f_B3 l_B3)
  have c_B3 := blk_cell B3.out
  have f_B3 := blk_frozen B3.out
  have l_B3 := (Array.getElem?_eq_some_iff.1 B3.out).1
  (try clear c_B4 f_B4 l_B4)
  have c_B4 := blk_cell B4.out
  have f_B4 := blk_frozen B4.out
  have l_B4 := (Array.getElem?_eq_some_iff.1 B4.out).1
  simp only [List.drop_succ_cons, List.drop_zero]
  rw [← HV.out] at G3
  go_wp2
  have hF := ((((Fin.start (L := w.heap.size + 2) HX.out (noU_block B4.out rfl)).set (by omega) (i := 0) (v := .bool x3.neg) rfl).set (by omega) (i := 1) (v := .slice x3.a x3.n x3.c) rfl).set (by omega) (i := 2) (v := .slice x3.b x3.m x3.d) rfl)
  exact bodyPost_ret (v := x3.v) (by simp [results, Tryz.results21, go_sem, blk_cell B4.out]) rfl ⟨x3, rfl, hF.ext, G3.out.keep hF.keep⟩
theorem div_parts {z e z' e' : Int} {q r : Rat} (h : (z : Rat) / (e : Rat) = q) (k : (z' : Rat) / (e' : Rat) = r) : ((z * e' : Int) : Rat) / ((e * z' : Int) : Rat) = q / r := by
  subst h k
  rw [Rat.intCast_mul, Rat.intCast_mul, Rat.div_def, Rat.div_def, Rat.div_def, Rat.div_def, inv_mul', inv_mul', Rat.inv_inv]
  grind
theorem num_zero {z e : Int} {q : Rat} (he : 0 < e) (h : (z : Rat) / (e : Rat) = q) : z = 0 ↔ q = 0 := by
  subst h
  constructor
  · rintro rfl
    rw [Rat.div_def]
    show (0 : Rat) * _ = 0
    grind
  · intro h
    rw [Rat.div_def] at h
    rcases Rat.mul_eq_zero.1 h with h1 | h1
    · exact Rat.intCast_eq_zero_iff.1 h1
    · have a1 : (e : Rat) ≠ 0 := by intro h0; have := Rat.intCast_eq_zero_iff.1 h0; omega
      have := Rat.mul_inv_cancel _ a1
      rw [h1] at this
      grind
def divE (r : Rat) : Int := if r = 0 then 3 else 0
theorem divE_zero {r : Rat} (h : r = 0) : divE r = 3 := if_pos h
theorem divE_ne {r : Rat} (h : r ≠ 0) : divE r = 0 := if_neg h
def DivP (q r : Rat) (x : RH) (w' : World) : Prop := r ≠ 0 → CanR w' x (q / r)
abbrev DV (s : RH) (e : Int) : Value := .tuple #[s.v, .int .i64 e]
set_option maxRecDepth 8000 in
set_option maxHeartbeats 4000000 in
theorem rdiv3_any (s t : RH) (q r : Rat) (w : World) (h : RawR w s q) (k : RawR w t r) : Does 35 [s.v, t.v] w (fun x : RH => DV x (divE r)) (DivP q r) := by
  obtain ⟨neg, ao, n, c, bo, m, d⟩ := s
  obtain ⟨neg', ao', n', c', bo', m', d'⟩ := t
  have HR := Lib.hid h
  have KR := Lib.hid k
  have HX := Lib.hid (Ext.refl w)
  clear h k
  unfold Does
  go_enter Tryz.func35, Tryz.ntmps35
  go_wp2_with fail
  refine nm_alloc3 (F := fun W => Calls _ _ _ W _) ?_
  intro w1 hE hB0 hB1 hB2 hz
  have hz_w1 := Nat.le_of_eq hz
  have hr_w1 := Nat.le_of_eq hz.symm
  clear hz
  replace HX := Lib.hid (HX.out.trans hE)
  replace HR := Lib.hid (HR.out.ext hE)
  replace KR := Lib.hid (KR.out.ext hE)
  have hs_w1 := hE.size
  clear hE
  have B2 := Lib.hid hB0
  clear hB0
  have c_B2 := blk_cell B2.out
  have f_B2 := blk_frozen B2.out
  have l_B2 := (Array.getElem?_eq_some_iff.1 B2.out).1
  have B3 := Lib.hid hB1
  clear hB1
  have c_B3 := blk_cell B3.out
  have f_B3 := blk_frozen B3.out
  have l_B3 := (Array.getElem?_eq_some_iff.1 B3.out).1
  have B4 := Lib.hid hB2
  clear hB2
  have c_B4 := blk_cell B4.out
  have f_B4 := blk_frozen B4.out
  have l_B4 := (Array.getElem?_eq_some_iff.1 B4.out).1
  change Calls _ _ _ _ _
  refine Calls.mono (parts_any ⟨neg, ao, n, c, bo, m, d⟩ q _ HR.out) ?_
  rintro e w2 ⟨x2, rfl, hE, g2⟩
  have G2 := Lib.hid g2
  clear g2
  replace HX := Lib.hid (HX.out.trans hE)
  replace HR := Lib.hid (HR.out.ext hE)
  replace KR := Lib.hid (KR.out.ext hE)
  replace B2 := Lib.hid (hE.block B2.out)
  replace B3 := Lib.hid (hE.block B3.out)
  replace B4 := Lib.hid (hE.block B4.out)
  have hs_w2 := hE.size
  clear hE
  (try clear c_B2 f_B2 l_B2)
  have c_B2 := blk_cell B2.out
  have f_B2 := blk_frozen B2.out
  have l_B2 := (Array.getElem?_eq_some_iff.1 B2.out).1
  (try clear c_B3 f_B3 l_B3)
  have c_B3 := blk_cell B3.out
  have f_B3 := blk_frozen B3.out
  have l_B3 := (Array.getElem?_eq_some_iff.1 B3.out).1
  (try clear c_B4 f_B4 l_B4)
  have c_B4 := blk_cell B4.out
  have f_B4 := blk_frozen B4.out
  have l_B4 := (Array.getElem?_eq_some_iff.1 B4.out).1
  obtain ⟨⟨an, aa, al, ac⟩, ⟨bn, ba, bl, bc⟩⟩ := x2
  obtain ⟨z, e, g1, g2, p3, g4, p5, p6⟩ := G2.out.div
  have J1 := Lib.hid g1
  have J2 := Lib.hid g2
  have J4 := Lib.hid g4
  have P5 := Lib.hid p5
  have P6 := Lib.hid p6
  clear g1 g2 g4 p3 p5 p6 G2
  simp only [PP]
  go_upto_region 2 with fail
  refine nm_alloc2 ?_
  intro y3 hE hB0 hB1 hz
  have hz_y3 := Nat.le_of_eq hz
  have hr_y3 := Nat.le_of_eq hz.symm
  clear hz
  replace HX := Lib.hid (HX.out.trans hE)
  replace HR := Lib.hid (HR.out.ext hE)
  replace KR := Lib.hid (KR.out.ext hE)
  replace B2 := Lib.hid (hE.block B2.out)
  replace B3 := Lib.hid (hE.block B3.out)
  replace B4 := Lib.hid (hE.block B4.out)
  replace J1 := Lib.hid (J1.out.ext hE)
  replace J2 := Lib.hid (J2.out.ext hE)
  have hs_y3 := hE.size
  clear hE
  (try clear c_B2 f_B2 l_B2)
  have c_B2 := blk_cell B2.out
  have f_B2 := blk_frozen B2.out
  have l_B2 := (Array.getElem?_eq_some_iff.1 B2.out).1
  (try clear c_B3 f_B3 l_B3)
  have c_B3 := blk_cell B3.out
  have f_B3 := blk_frozen B3.out
  have l_B3 := (Array.getElem?_eq_some_iff.1 B3.out).1
  (try clear c_B4 f_B4 l_B4)
  have c_B4 := blk_cell B4.out
  have f_B4 := blk_frozen B4.out
  have l_B4 := (Array.getElem?_eq_some_iff.1 B4.out).1
  have B6 := Lib.hid hB0
  clear hB0
  have c_B6 := blk_cell B6.out
  have f_B6 := blk_frozen B6.out
  have l_B6 := (Array.getElem?_eq_some_iff.1 B6.out).1
  have B7 := Lib.hid hB1
  clear hB1
  have c_B7 := blk_cell B7.out
  have f_B7 := blk_frozen B7.out
  have l_B7 := (Array.getElem?_eq_some_iff.1 B7.out).1
  go_wp2_with fail
  refine Calls.mono (parts_any ⟨neg', ao', n', c', bo', m', d'⟩ r _ KR.out) ?_
  rintro e w4 ⟨x4, rfl, hE, g4⟩
  have G4 := Lib.hid g4
  clear g4
  replace HX := Lib.hid (HX.out.trans hE)
  replace HR := Lib.hid (HR.out.ext hE)
  replace KR := Lib.hid (KR.out.ext hE)
  replace B2 := Lib.hid (hE.block B2.out)
  replace B3 := Lib.hid (hE.block B3.out)
  replace B4 := Lib.hid (hE.block B4.out)
  replace J1 := Lib.hid (J1.out.ext hE)
  replace J2 := Lib.hid (J2.out.ext hE)
  replace B6 := Lib.hid (hE.block B6.out)
  replace B7 := Lib.hid (hE.block B7.out)
  have hs_w4 := hE.size
  clear hE
  (try clear c_B2 f_B2 l_B2)
  have c_B2 := blk_cell B2.out
  have f_B2 := blk_frozen B2.out
  have l_B2 := (Array.getElem?_eq_some_iff.1 B2.out).1
  (try clear c_B3 f_B3 l_B3)
  have c_B3 := blk_cell B3.out
  have f_B3 := blk_frozen B3.out
  have l_B3 := (Array.getElem?_eq_some_iff.1 B3.out).1
  (try clear c_B4 f_B4 l_B4)
  have c_B4 := blk_cell B4.out
  have f_B4 := blk_frozen B4.out
  have l_B4 := (Array.getElem?_eq_some_iff.1 B4.out).1
  (try clear c_B6 f_B6 l_B6)
  have c_B6 := blk_cell B6.out
  have f_B6 := blk_frozen B6.out
  have l_B6 := (Array.getElem?_eq_some_iff.1 B6.out).1
  (try clear c_B7 f_B7 l_B7)
  have c_B7 := blk_cell B7.out
  have f_B7 := blk_frozen B7.out
  have l_B7 := (Array.getElem?_eq_some_iff.1 B7.out).1
  obtain ⟨⟨an', aa', al', ac'⟩, ⟨bn', ba', bl', bc'⟩⟩ := x4
  obtain ⟨z', e', g1, g2, p3, g4, p5, p6⟩ := G4.out.div
  have K1 := Lib.hid g1
  have K2 := Lib.hid g2
  have K4 := Lib.hid g4
  have KN := Lib.hid (num_zero p3 g4)
  have Q5 := Lib.hid p5
  have Q6 := Lib.hid p6
  clear g1 g2 g4 p3 p5 p6 G4
  simp only [PP]
  go_upto_region 3 with fail
  refine nm_alloc2 ?_
  intro y5 hE hB0 hB1 hz
  have hz_y5 := Nat.le_of_eq hz
  have hr_y5 := Nat.le_of_eq hz.symm
  clear hz
  replace HX := Lib.hid (HX.out.trans hE)
  replace HR := Lib.hid (HR.out.ext hE)
  replace KR := Lib.hid (KR.out.ext hE)
  replace B2 := Lib.hid (hE.block B2.out)
  replace B3 := Lib.hid (hE.block B3.out)
  replace B4 := Lib.hid (hE.block B4.out)
  replace J1 := Lib.hid (J1.out.ext hE)
  replace J2 := Lib.hid (J2.out.ext hE)
  replace B6 := Lib.hid (hE.block B6.out)
  replace B7 := Lib.hid (hE.block B7.out)
  replace K1 := Lib.hid (K1.out.ext hE)
  replace K2 := Lib.hid (K2.out.ext hE)
  have hs_y5 := hE.size
  clear hE
  (try clear c_B2 f_B2 l_B2)
  have c_B2 := blk_cell B2.out
  have f_B2 := blk_frozen B2.out
  have l_B2 := (Array.getElem?_eq_some_iff.1 B2.out).1
  (try clear c_B3 f_B3 l_B3)
  have c_B3 := blk_cell B3.out
  have f_B3 := blk_frozen B3.out
  have l_B3 := (Array.getElem?_eq_some_iff.1 B3.out).1
  (try clear c_B4 f_B4 l_B4)
  have c_B4 := blk_cell B4.out
  have f_B4 := blk_frozen B4.out
  have l_B4 := (Array.getElem?_eq_some_iff.1 B4.out).1
  (try clear c_B6 f_B6 l_B6)
  have c_B6 := blk_cell B6.out
  have f_B6 := blk_frozen B6.out
  have l_B6 := (Array.getElem?_eq_some_iff.1 B6.out).1
  (try clear c_B7 f_B7 l_B7)
  have c_B7 := blk_cell B7.out
  have f_B7 := blk_frozen B7.out
  have l_B7 := (Array.getElem?_eq_some_iff.1 B7.out).1
  have B8 := Lib.hid hB0
  clear hB0
  have c_B8 := blk_cell B8.out
  have f_B8 := blk_frozen B8.out
  have l_B8 := (Array.getElem?_eq_some_iff.1 B8.out).1
  have B9 := Lib.hid hB1
  clear hB1
  have c_B9 := blk_cell B9.out
  have f_B9 := blk_frozen B9.out
  have l_B9 := (Array.getElem?_eq_some_iff.1 B9.out).1
  have HV := Lib.hid (div_parts J4.out K4.out)
  have M1 := Lib.hid (big_mul P5.out Q6.out)
  have M2 := Lib.hid (big_mul P6.out Q5.out)
  clear J4 K4
  go_wp2_with fail
  refine Calls.mono (isign2_any ⟨an', aa', al', ac'⟩ z' _ K1.out) ?_
  rintro e w6 ⟨x6, rfl, hE, -⟩
  replace HX := Lib.hid (HX.out.trans hE)
  replace HR := Lib.hid (HR.out.ext hE)
  replace KR := Lib.hid (KR.out.ext hE)
  replace B2 := Lib.hid (hE.block B2.out)
  replace B3 := Lib.hid (hE.block B3.out)
  replace B4 := Lib.hid (hE.block B4.out)
  replace J1 := Lib.hid (J1.out.ext hE)
  replace J2 := Lib.hid (J2.out.ext hE)
  replace B6 := Lib.hid (hE.block B6.out)
  replace B7 := Lib.hid (hE.block B7.out)
  replace K1 := Lib.hid (K1.out.ext hE)
  replace K2 := Lib.hid (K2.out.ext hE)
  replace B8 := Lib.hid (hE.block B8.out)
  replace B9 := Lib.hid (hE.block B9.out)
  have hs_w6 := hE.size
  clear hE
  (try clear c_B2 f_B2 l_B2)
  have c_B2 := blk_cell B2.out
  have f_B2 := blk_frozen B2.out
  have l_B2 := (Array.getElem?_eq_some_iff.1 B2.out).1
  (try clear c_B3 f_B3 l_B3)
  have c_B3 := blk_cell B3.out
  have f_B3 := blk_frozen B3.out
  have l_B3 := (Array.getElem?_eq_some_iff.1 B3.out).1
  (try clear c_B4 f_B4 l_B4)
  have c_B4 := blk_cell B4.out
  have f_B4 := blk_frozen B4.out
  have l_B4 := (Array.getElem?_eq_some_iff.1 B4.out).1
  (try clear c_B6 f_B6 l_B6)
  have c_B6 := blk_cell B6.out
  have f_B6 := blk_frozen B6.out
  have l_B6 := (Array.getElem?_eq_some_iff.1 B6.out).1
  (try clear c_B7 f_B7 l_B7)
  have c_B7 := blk_cell B7.out
  have f_B7 := blk_frozen B7.out
  have l_B7 := (Array.getElem?_eq_some_iff.1 B7.out).1
  (try clear c_B8 f_B8 l_B8)
  have c_B8 := blk_cell B8.out
  have f_B8 := blk_frozen B8.out
  have l_B8 := (Array.getElem?_eq_some_iff.1 B8.out).1
  (try clear c_B9 f_B9 l_B9)
  have c_B9 := blk_cell B9.out
  have f_B9 := blk_frozen B9.out
  have l_B9 := (Array.getElem?_eq_some_iff.1 B9.out).1
  by_cases hz : z' = 0
  case pos =>
    have hr : r = 0 := KN.out.1 hz
    subst hz
    have HRz := Lib.hid hr
    rw [cmpI_eq rfl]
    have HZe : Hid (Ending.returned (DV ⟨false, none, 0, 0, none, 0, 0⟩ 3) = Ending.returned (DV ⟨false, none, 0, 0, none, 0, 0⟩ (divE r))) := Lib.hid (by rw [divE_zero HRz.out])
    clear hr M1 M2 HV P5 P6 Q5 Q6 KN
    go_wp2
    have hF := (((Fin.start (L := w.heap.size + 2) HX.out (noU_block B4.out rfl)).set (by omega) (i := 0) (v := .bool false) rfl).set (by omega) (i := 1) (v := .slice none 0 0) rfl).set (by omega) (i := 2) (v := .slice none 0 0) rfl
    exact bodyPost_ret (v := DV ⟨false, none, 0, 0, none, 0, 0⟩ 3) (by simp [results, Tryz.results35, go_sem, blk_cell B4.out, DV]) rfl ⟨⟨false, none, 0, 0, none, 0, 0⟩, HZe.out, hF.ext, fun h => (h HRz.out).elim⟩
  have HRz : Hid (r ≠ 0) := Lib.hid (fun h => hz (KN.out.2 h))
  have hcz : cmpI z' 0 = -1 ∨ cmpI z' 0 = 1 := by
    rcases Int.lt_or_gt_of_ne hz with h | h
    · exact Or.inl (cmpI_lt h)
    · exact Or.inr (cmpI_gt h)
  obtain ⟨v, hv⟩ : ∃ v, v = cmpI z' 0 := ⟨_, rfl⟩
  rw [← hv] at hcz ⊢
  have hvb : (v == 0) = false := by rw [beq_eq_false_iff_ne]; omega
  clear hv hcz hz KN
  have HZe : ∀ x : RH, Ending.returned (DV x 0) = Ending.returned (DV x (divE r)) := fun x => by rw [divE_ne HRz.out]
  go_upto_region 5 with fail
  refine wp_region_front 7 (fun opIx => match opIx with
    | 2 => .spec IH default IH.v (fun s w' => CanI w' s (z * e'))
    | 5 => .spec IH default IH.v (fun s w' => CanI w' s (e * z'))
    | 6 => .spec RH default RH.v (fun s w' => CanR w' s (q / r))
    | _ => .quiet) (fun | 6 => [2, 5] | _ => []) (by kernel_rfl) (by kernel_rfl) (fun w0 he0 hz0 hc0 hf0 => ?_)
  replace he0 := Lib.hid he0
  simp only [List.take_succ_cons, List.take_zero]
  repeat (refine wpF_quiet rfl rfl rfl (fun K hK => ?_); go_big_quiet_op; refine hK _ ?_; clear hK K)
  refine wpF_spec rfl rfl (fun w1 hw1 hG => ?_) (fun x2 => ?_)
  · have hW := he0.out.trans hw1
    refine spec_call [IH.v ⟨an, aa, al, ac⟩, IH.v ⟨bn', ba', bl', bc'⟩] rfl rfl Tryz.func63 (by kernel_rfl) (by kernel_rfl) ?_
    exact imul2_any _ _ _ _ _ (J1.out.ext hW) (K2.out.ext hW)
  simp only [Act.put, List.setIfInBounds_toArray, List.set_cons_succ, List.set_cons_zero]
  repeat (refine wpF_quiet rfl rfl rfl (fun K hK => ?_); go_big_quiet_op; refine hK _ ?_; clear hK K)
  refine wpF_spec rfl rfl (fun w1 hw1 hG => ?_) (fun x5 => ?_)
  · have hW := he0.out.trans hw1
    refine spec_call [IH.v ⟨bn, ba, bl, bc⟩, IH.v ⟨an', aa', al', ac'⟩] rfl rfl Tryz.func63 (by kernel_rfl) (by kernel_rfl) ?_
    exact imul2_any _ _ _ _ _ (J2.out.ext hW) (K1.out.ext hW)
  simp only [Act.put, List.setIfInBounds_toArray, List.set_cons_succ, List.set_cons_zero]
  repeat (refine wpF_quiet rfl rfl rfl (fun K hK => ?_); go_big_quiet_op; refine hK _ ?_; clear hK K)
  refine wpF_spec rfl rfl (fun w1 hw1 hG => ?_) (fun x6 => ?_)
  · have hW := he0.out.trans hw1
    obtain ⟨wa2, hwa2, g2⟩ : Since _ _ := hG 2 (by decide)
    replace g2 := g2.ext hwa2
    obtain ⟨wa5, hwa5, g5⟩ : Since _ _ := hG 5 (by decide)
    replace g5 := g5.ext hwa5
    refine spec_call [x2.v, x5.v] rfl rfl Tryz.func46 (by kernel_rfl) (by kernel_rfl) ?_
    exact HV.out ▸ reduce_any x2 x5 _ _ _ (g2.rawk M1.out big2_le.2.1) (g5.rawk M2.out big2_le.2.1)
  simp only [Act.put, List.setIfInBounds_toArray, List.set_cons_succ, List.set_cons_zero]
  repeat (refine wpF_quiet rfl rfl rfl (fun K hK => ?_); go_big_quiet_op; refine hK _ ?_; clear hK K)
  refine wpF_nil ?_
  intro w7 hI
  have hE := he0.out.trans hI.ext
  obtain ⟨wa2, hwa2, g2⟩ : Since _ _ := hI.facts 2
  have G2 := Lib.hid (g2.ext hwa2)
  clear g2 hwa2
  obtain ⟨wa5, hwa5, g5⟩ : Since _ _ := hI.facts 5
  have G5 := Lib.hid (g5.ext hwa5)
  clear g5 hwa5
  obtain ⟨wa6, hwa6, g6⟩ : Since _ _ := hI.facts 6
  have G6 := Lib.hid (g6.ext hwa6)
  clear g6 hwa6
  clear hI he0 hz0 hc0 hf0
  replace HX := Lib.hid (HX.out.trans hE)
  replace HR := Lib.hid (HR.out.ext hE)
  replace KR := Lib.hid (KR.out.ext hE)
  replace B2 := Lib.hid (hE.block B2.out)
  replace B3 := Lib.hid (hE.block B3.out)
  replace B4 := Lib.hid (hE.block B4.out)
  replace J1 := Lib.hid (J1.out.ext hE)
  replace J2 := Lib.hid (J2.out.ext hE)
  replace B6 := Lib.hid (hE.block B6.out)
  replace B7 := Lib.hid (hE.block B7.out)
  replace K1 := Lib.hid (K1.out.ext hE)
  replace K2 := Lib.hid (K2.out.ext hE)
  replace B8 := Lib.hid (hE.block B8.out)
  replace B9 := Lib.hid (hE.block B9.out)
  have hs_w7 := hE.size
  clear hE
  (try clear c_B2 f_B2 l_B2)
  have c_B2 := blk_cell B2.out
  have f_B2 := blk_frozen B2.out
  have l_B2 := (Array.getElem?_eq_some_iff.1 B2.out).1
  (try clear c_B3 f_B3 l_B3)
  have c_B3 := blk_cell B3.out
  have f_B3 := blk_frozen B3.out
  have l_B3 := (Array.getElem?_eq_some_iff.1 B3.out).1
  (try clear c_B4 f_B4 l_B4)
  have c_B4 := blk_cell B4.out
  have f_B4 := blk_frozen B4.out
  have l_B4 := (Array.getElem?_eq_some_iff.1 B4.out).1
  (try clear c_B6 f_B6 l_B6)
  have c_B6 := blk_cell B6.out
  have f_B6 := blk_frozen B6.out
  have l_B6 := (Array.getElem?_eq_some_iff.1 B6.out).1
  (try clear c_B7 f_B7 l_B7)
  have c_B7 := blk_cell B7.out
  have f_B7 := blk_frozen B7.out
  have l_B7 := (Array.getElem?_eq_some_iff.1 B7.out).1
  (try clear c_B8 f_B8 l_B8)
  have c_B8 := blk_cell B8.out
  have f_B8 := blk_frozen B8.out
  have l_B8 := (Array.getElem?_eq_some_iff.1 B8.out).1
  (try clear c_B9 f_B9 l_B9)
  have c_B9 := blk_cell B9.out
  have f_B9 := blk_frozen B9.out
  have l_B9 := (Array.getElem?_eq_some_iff.1 B9.out).1
  simp only [List.drop_succ_cons, List.drop_zero]
  go_wp2
  have hF := (((Fin.start (L := w.heap.size + 2) HX.out (noU_block B4.out rfl)).set (by omega) (i := 0) (v := .bool x6.neg) rfl).set (by omega) (i := 1) (v := .slice x6.a x6.n x6.c) rfl).set (by omega) (i := 2) (v := .slice x6.b x6.m x6.d) rfl
  exact bodyPost_ret (v := DV x6 0) (by simp [results, Tryz.results35, go_sem, blk_cell B4.out, DV]) rfl ⟨x6, HZe x6, hF.ext, fun _ => G6.out.keep hF.keep⟩
set_option maxRecDepth 8000 in
set_option maxHeartbeats 4000000 in
theorem rover3_any (s t : RH) (q r : Rat) (w : World) (h : RawR w s q) (k : RawR w t r) : Does 23 [s.v, t.v] w RH.v (fun x w' => CanR w' x (q / r)) := by
  obtain ⟨neg, ao, n, c, bo, m, d⟩ := s
  obtain ⟨neg', ao', n', c', bo', m', d'⟩ := t
  have HR := Lib.hid h
  have KR := Lib.hid k
  have HX := Lib.hid (Ext.refl w)
  clear h k
  unfold Does
  go_enter Tryz.func23, Tryz.ntmps23
  go_wp2_with fail
  refine nm_alloc3 (F := fun W => Calls _ _ _ W _) ?_
  intro w1 hE hB0 hB1 hB2 hz
  have hz_w1 := Nat.le_of_eq hz
  have hr_w1 := Nat.le_of_eq hz.symm
  clear hz
  replace HX := Lib.hid (HX.out.trans hE)
  replace HR := Lib.hid (HR.out.ext hE)
  replace KR := Lib.hid (KR.out.ext hE)
  have hs_w1 := hE.size
  clear hE
  have B2 := Lib.hid hB0
  clear hB0
  have c_B2 := blk_cell B2.out
  have f_B2 := blk_frozen B2.out
  have l_B2 := (Array.getElem?_eq_some_iff.1 B2.out).1
  have B3 := Lib.hid hB1
  clear hB1
  have c_B3 := blk_cell B3.out
  have f_B3 := blk_frozen B3.out
  have l_B3 := (Array.getElem?_eq_some_iff.1 B3.out).1
  have B4 := Lib.hid hB2
  clear hB2
  have c_B4 := blk_cell B4.out
  have f_B4 := blk_frozen B4.out
  have l_B4 := (Array.getElem?_eq_some_iff.1 B4.out).1
  change Calls _ _ _ _ _
  refine Calls.mono (rdiv3_any ⟨neg, ao, n, c, bo, m, d⟩ ⟨neg', ao', n', c', bo', m', d'⟩ q r _ HR.out KR.out) ?_
  rintro e w2 ⟨x2, rfl, hE, g2⟩
  have G2 := Lib.hid g2
  clear g2
  replace HX := Lib.hid (HX.out.trans hE)
  replace HR := Lib.hid (HR.out.ext hE)
  replace KR := Lib.hid (KR.out.ext hE)
  replace B2 := Lib.hid (hE.block B2.out)
  replace B3 := Lib.hid (hE.block B3.out)
  replace B4 := Lib.hid (hE.block B4.out)
  have hs_w2 := hE.size
  clear hE
  (try clear c_B2 f_B2 l_B2)
  have c_B2 := blk_cell B2.out
  have f_B2 := blk_frozen B2.out
  have l_B2 := (Array.getElem?_eq_some_iff.1 B2.out).1
  (try clear c_B3 f_B3 l_B3)
  have c_B3 := blk_cell B3.out
  have f_B3 := blk_frozen B3.out
  have l_B3 := (Array.getElem?_eq_some_iff.1 B3.out).1
  (try clear c_B4 f_B4 l_B4)
  have c_B4 := blk_cell B4.out
  have f_B4 := blk_frozen B4.out
  have l_B4 := (Array.getElem?_eq_some_iff.1 B4.out).1
  simp only [DV]
  by_cases hr : r = 0
  case pos =>
    have HV : Hid (q / r = ((0 : Int) : Rat)) := Lib.hid (by rw [hr, Rat.div_def, Rat.inv_zero]; show q * 0 = 0; grind)
    rw [divE_zero hr]
    clear hr G2
    go_upto_region 2 with fail
    refine nm_alloc ?_
    intro y3 hE hB0 hz
    have hz_y3 := Nat.le_of_eq hz
    have hr_y3 := Nat.le_of_eq hz.symm
    clear hz
    replace HX := Lib.hid (HX.out.trans hE)
    replace HR := Lib.hid (HR.out.ext hE)
    replace KR := Lib.hid (KR.out.ext hE)
    replace B2 := Lib.hid (hE.block B2.out)
    replace B3 := Lib.hid (hE.block B3.out)
    replace B4 := Lib.hid (hE.block B4.out)
    have hs_y3 := hE.size
    clear hE
    (try clear c_B2 f_B2 l_B2)
    have c_B2 := blk_cell B2.out
    have f_B2 := blk_frozen B2.out
    have l_B2 := (Array.getElem?_eq_some_iff.1 B2.out).1
    (try clear c_B3 f_B3 l_B3)
    have c_B3 := blk_cell B3.out
    have f_B3 := blk_frozen B3.out
    have l_B3 := (Array.getElem?_eq_some_iff.1 B3.out).1
    (try clear c_B4 f_B4 l_B4)
    have c_B4 := blk_cell B4.out
    have f_B4 := blk_frozen B4.out
    have l_B4 := (Array.getElem?_eq_some_iff.1 B4.out).1
    have B5 := Lib.hid hB0
    clear hB0
    have c_B5 := blk_cell B5.out
    have f_B5 := blk_frozen B5.out
    have l_B5 := (Array.getElem?_eq_some_iff.1 B5.out).1
    go_wp2_with fail
    refine Calls.mono (rof3_any 0 _ (by decide) (by decide)) ?_
    rintro e w4 ⟨x4, rfl, hE, g4⟩
    have G4 := Lib.hid g4
    clear g4
    replace HX := Lib.hid (HX.out.trans hE)
    replace HR := Lib.hid (HR.out.ext hE)
    replace KR := Lib.hid (KR.out.ext hE)
    replace B2 := Lib.hid (hE.block B2.out)
    replace B3 := Lib.hid (hE.block B3.out)
    replace B4 := Lib.hid (hE.block B4.out)
    replace B5 := Lib.hid (hE.block B5.out)
    have hs_w4 := hE.size
    clear hE
    (try clear c_B2 f_B2 l_B2)
    have c_B2 := blk_cell B2.out
    have f_B2 := blk_frozen B2.out
    have l_B2 := (Array.getElem?_eq_some_iff.1 B2.out).1
    (try clear c_B3 f_B3 l_B3)
    have c_B3 := blk_cell B3.out
    have f_B3 := blk_frozen B3.out
    have l_B3 := (Array.getElem?_eq_some_iff.1 B3.out).1
    (try clear c_B4 f_B4 l_B4)
    have c_B4 := blk_cell B4.out
    have f_B4 := blk_frozen B4.out
    have l_B4 := (Array.getElem?_eq_some_iff.1 B4.out).1
    (try clear c_B5 f_B5 l_B5)
    have c_B5 := blk_cell B5.out
    have f_B5 := blk_frozen B5.out
    have l_B5 := (Array.getElem?_eq_some_iff.1 B5.out).1
    go_wp2
    have hF := ((((Fin.start (L := w.heap.size + 2) HX.out (noU_block B4.out rfl)).set (by omega) (i := 0) (v := .bool x4.neg) rfl).set (by omega) (i := 1) (v := .slice x4.a x4.n x4.c) rfl).set (by omega) (i := 2) (v := .slice x4.b x4.m x4.d) rfl)
    exact bodyPost_ret (v := x4.v) (by simp [results, Tryz.results23, go_sem, blk_cell B4.out]) rfl ⟨x4, rfl, hF.ext, (by rw [HV.out]; exact G4.out.keep hF.keep)⟩
  rw [divE_ne hr]
  have GC := Lib.hid (G2.out hr)
  clear hr G2
  obtain ⟨xn, xa, xl, xc, xb, xm, xd⟩ := x2
  go_upto_region 2 with fail
  refine nm_alloc ?_
  intro y3 hE hB0 hz
  have hz_y3 := Nat.le_of_eq hz
  have hr_y3 := Nat.le_of_eq hz.symm
  clear hz
  replace HX := Lib.hid (HX.out.trans hE)
  replace HR := Lib.hid (HR.out.ext hE)
  replace KR := Lib.hid (KR.out.ext hE)
  replace B2 := Lib.hid (hE.block B2.out)
  replace B3 := Lib.hid (hE.block B3.out)
  replace B4 := Lib.hid (hE.block B4.out)
  replace GC := Lib.hid (GC.out.ext hE)
  have hs_y3 := hE.size
  clear hE
  (try clear c_B2 f_B2 l_B2)
  have c_B2 := blk_cell B2.out
  have f_B2 := blk_frozen B2.out
  have l_B2 := (Array.getElem?_eq_some_iff.1 B2.out).1
  (try clear c_B3 f_B3 l_B3)
  have c_B3 := blk_cell B3.out
  have f_B3 := blk_frozen B3.out
  have l_B3 := (Array.getElem?_eq_some_iff.1 B3.out).1
  (try clear c_B4 f_B4 l_B4)
  have c_B4 := blk_cell B4.out
  have f_B4 := blk_frozen B4.out
  have l_B4 := (Array.getElem?_eq_some_iff.1 B4.out).1
  have B5 := Lib.hid hB0
  clear hB0
  have c_B5 := blk_cell B5.out
  have f_B5 := blk_frozen B5.out
  have l_B5 := (Array.getElem?_eq_some_iff.1 B5.out).1
  go_wp2
  have hF := ((((Fin.start (L := w.heap.size + 2) HX.out (noU_block B4.out rfl)).set (by omega) (i := 0) (v := .bool (⟨xn, xa, xl, xc, xb, xm, xd⟩ : RH).neg) rfl).set (by omega) (i := 1) (v := .slice (⟨xn, xa, xl, xc, xb, xm, xd⟩ : RH).a (⟨xn, xa, xl, xc, xb, xm, xd⟩ : RH).n (⟨xn, xa, xl, xc, xb, xm, xd⟩ : RH).c) rfl).set (by omega) (i := 2) (v := .slice (⟨xn, xa, xl, xc, xb, xm, xd⟩ : RH).b (⟨xn, xa, xl, xc, xb, xm, xd⟩ : RH).m (⟨xn, xa, xl, xc, xb, xm, xd⟩ : RH).d) rfl)
  exact bodyPost_ret (v := (⟨xn, xa, xl, xc, xb, xm, xd⟩ : RH).v) (by simp [results, Tryz.results23, go_sem, blk_cell B4.out]) rfl ⟨(⟨xn, xa, xl, xc, xb, xm, xd⟩ : RH), rfl, hF.ext, (CanR.keep (s := ⟨xn, xa, xl, xc, xb, xm, xd⟩) GC.out hF.keep)⟩
end Go.Proofs.YteafdebcihbjdaaGreat
