/- Bound of package stability and of the reference 18. -/
import Derived.Test.YteafdebcihbjdaaGreatBnd
import Derived.Test.YteafdebcihbjdaaGreatR18c
set_option linter.unusedVariables false
namespace Go.Proofs.YteafdebcihbjdaaGreat
open Go.RowKit Go.Front Go.Num
attribute [local go_sem] XW.cell XW.frozen
def boundE (qs : List Rat) (r : Rat) (n : Int) : Int := if r ≤ 0 ∨ n < 0 ∨ 64 < n then 1 else if (insV qs r).2 ≠ 0 then (insV qs r).2 else if (insV qs r).1 = true then 0 else 14
def boundQ (qs : List Rat) (r : Rat) (n : Nat) : Rat := if (tz qs).length = 1 ∧ 0 < n then 0 else ((1 : Int) : Rat) / (qs.getD 0 0).abs * bnd n ((tz qs).length - 2) * r ^ n
/-- What Bound leaves. -/
def BndP (qs : List Rat) (r : Rat) (n : Int) (x : RH) (w' : World) : Prop := (boundE qs r n ≠ 0 → x = ⟨false, none, 0, 0, none, 0, 0⟩) ∧ (boundE qs r n = 0 → CanR w' x (boundQ qs r n.toNat))
theorem BndP.err {qs : List Rat} {r : Rat} {n e : Int} {w' : World} (h : boundE qs r n = e) (he : e ≠ 0) : BndP qs r n ⟨false, none, 0, 0, none, 0, 0⟩ w' := ⟨fun _ => rfl, fun h2 => absurd (h.symm.trans h2) he⟩
theorem BndP.ok {qs : List Rat} {r : Rat} {n : Int} {w' : World} {x : RH} (h : boundE qs r n = 0) (hx : CanR w' x (boundQ qs r n.toNat)) : BndP qs r n x w' := ⟨fun h2 => absurd h h2, fun _ => hx⟩
theorem insV_wrong {qs : List Rat} {r : Rat} (h0 : ¬ r ≤ 0) (h : (insV qs r).2 = 0) : wrongE qs = 0 := by
  unfold insV at h
  rw [if_neg h0] at h
  by_cases h1 : wrongE qs = 0
  · exact h1
  · rw [if_pos h1] at h
    exact absurd h h1
theorem abs_ne {q : Rat} (h : q ≠ 0) : q.abs ≠ 0 := by
  unfold Rat.abs
  split
  · exact h
  · intro h1
    exact h (by rw [← Rat.neg_neg (a := q), h1]; rfl)
theorem abs_inv (q : Rat) : (((1 : Int) : Rat) / q).abs = ((1 : Int) : Rat) / q.abs := by
  rw [Rat.div_def, Rat.div_def, show ((1 : Int) : Rat) = 1 from rfl, Rat.one_mul, Rat.one_mul]
  by_cases h0 : q = 0
  · subst h0; decide +kernel
  · rcases Rat.le_total (a := 0) (b := q) with h | h
    · have h1 : 0 < q := Rat.lt_of_le_of_ne h (Ne.symm h0)
      rw [Rat.abs_of_nonneg h, Rat.abs_of_nonneg (Rat.le_of_lt (Rat.inv_pos.2 h1))]
    · have h1 : 0 < -q := by
        have := Rat.lt_of_le_of_ne h h0
        grind
      have h2 : (-q)⁻¹ = -q⁻¹ := by
        apply Rat.inv_eq_of_mul_eq_one
        have := Rat.mul_inv_cancel q h0
        grind
      have h3 := Rat.inv_pos.2 h1
      rw [h2] at h3
      rw [Rat.abs_of_nonpos h, h2]
      exact Rat.abs_of_nonpos (by grind)
-- WALKS
set_option maxRecDepth 8000 in
set_option maxHeartbeats 4000000 in
theorem bound_any (ao : Option Addr) (m cap : Nat) (qs : List Rat) (t : RH) (r : Rat) (n : Int) (w : World) (h : RawL w ⟨ao, m, cap⟩ qs) (hr : RawR w t r) (hm : m ≤ 49) (hz : SzL 65536 qs) (hzr : Sz 32768 r)
    (hok : 0 < r → wrongE qs = 0 → wrongE (moved qs r) = 0 → RefOk ((tz (moved qs r)).length - 1) (norm (tz (moved qs r)))) :
    Does 17 [.slice ao m cap, t.v, .int .i64 n] w (fun x : RH => DV x (boundE qs r n)) (BndP qs r n) := by
  obtain ⟨tneg, ta, tn, tc, tb, tm, td⟩ := t
  have H := Lib.hid h
  have HR := Lib.hid hr
  have HX := Lib.hid (Ext.refl w)
  have Hlen := Lib.hid h.len
  have hle := h.le
  have hmx := h.max
  simp only at hle hmx Hlen
  have HZ := Lib.hid hz
  have ZR := Lib.hid hzr
  have HO := Lib.hid hok
  have HLe := Lib.hid (cmpR_le0 r)
  obtain ⟨cc, hcc⟩ : ∃ cc, cc = cmpR r 0 := ⟨_, rfl⟩
  rw [← hcc] at HLe
  have Hcc := Lib.hid hcc
  clear h hr hz hzr hok hcc
  unfold Does
  go_enter Tryz.func17, Tryz.ntmps17
  go_upto_region 1 with fail
  refine nm_alloc2 ?_
  intro w1 hE hB0 hB1 hz
  have hz_w1 := Nat.le_of_eq hz
  have hr_w1 := Nat.le_of_eq hz.symm
  clear hz
  replace HX := Lib.hid (HX.out.trans hE)
  have hs_w1 := hE.size
  clear hE
  have B4 := Lib.hid hB0
  clear hB0
  have c_B4 := blk_cell B4.out
  have f_B4 := blk_frozen B4.out
  have l_B4 := (Array.getElem?_eq_some_iff.1 B4.out).1
  have B6 := Lib.hid hB1
  clear hB1
  have c_B6 := blk_cell B6.out
  have f_B6 := blk_frozen B6.out
  have l_B6 := (Array.getElem?_eq_some_iff.1 B6.out).1
  go_wp2_with fail
  refine Calls.mono (rsign_any ⟨tneg, ta, tn, tc, tb, tm, td⟩ r _ (HR.out.ext HX.out)) ?_
  rintro e w2 ⟨x2, rfl, hE, -⟩
  replace HX := Lib.hid (HX.out.trans hE)
  replace B4 := Lib.hid (hE.block B4.out)
  replace B6 := Lib.hid (hE.block B6.out)
  have hs_w2 := hE.size
  clear hE
  (try clear c_B4 f_B4 l_B4)
  have c_B4 := blk_cell B4.out
  have f_B4 := blk_frozen B4.out
  have l_B4 := (Array.getElem?_eq_some_iff.1 B4.out).1
  (try clear c_B6 f_B6 l_B6)
  have c_B6 := blk_cell B6.out
  have f_B6 := blk_frozen B6.out
  have l_B6 := (Array.getElem?_eq_some_iff.1 B6.out).1
  rw [← Hcc.out]
  by_cases h1 : cc ≤ 0
  case pos =>
    have HE : Hid (boundE qs r n = 1) := Lib.hid (by unfold boundE; rw [if_pos (Or.inl (HLe.out.1 h1))])
    go_wp2
    have hF := (((Fin.start (L := w.heap.size + 1) HX.out (noU_block B6.out rfl)).set (by omega) (i := 0) (v := .bool false) rfl).set (by omega) (i := 1) (v := .slice none 0 0) rfl).set (by omega) (i := 2) (v := .slice none 0 0) rfl
    exact bodyPost_ret (v := DV ⟨false, none, 0, 0, none, 0, 0⟩ 1) (by simp [results, Tryz.results17, go_sem, blk_cell B6.out, DV]) rfl ⟨⟨false, none, 0, 0, none, 0, 0⟩, by rw [HE.out], hF.ext, BndP.err HE.out (by decide)⟩
  by_cases h2 : n < 0
  case pos =>
    have HE : Hid (boundE qs r n = 1) := Lib.hid (by unfold boundE; rw [if_pos (Or.inr (Or.inl h2))])
    go_wp2
    have hF := (((Fin.start (L := w.heap.size + 1) HX.out (noU_block B6.out rfl)).set (by omega) (i := 0) (v := .bool false) rfl).set (by omega) (i := 1) (v := .slice none 0 0) rfl).set (by omega) (i := 2) (v := .slice none 0 0) rfl
    exact bodyPost_ret (v := DV ⟨false, none, 0, 0, none, 0, 0⟩ 1) (by simp [results, Tryz.results17, go_sem, blk_cell B6.out, DV]) rfl ⟨⟨false, none, 0, 0, none, 0, 0⟩, by rw [HE.out], hF.ext, BndP.err HE.out (by decide)⟩
  by_cases h3 : 64 < n
  case pos =>
    have HE : Hid (boundE qs r n = 1) := Lib.hid (by unfold boundE; rw [if_pos (Or.inr (Or.inr h3))])
    go_wp2
    have hF := (((Fin.start (L := w.heap.size + 1) HX.out (noU_block B6.out rfl)).set (by omega) (i := 0) (v := .bool false) rfl).set (by omega) (i := 1) (v := .slice none 0 0) rfl).set (by omega) (i := 2) (v := .slice none 0 0) rfl
    exact bodyPost_ret (v := DV ⟨false, none, 0, 0, none, 0, 0⟩ 1) (by simp [results, Tryz.results17, go_sem, blk_cell B6.out, DV]) rfl ⟨⟨false, none, 0, 0, none, 0, 0⟩, by rw [HE.out], hF.ext, BndP.err HE.out (by decide)⟩
  have hr0 : ¬ r ≤ 0 := fun h => h1 (HLe.out.2 h)
  have HE0 : Hid (boundE qs r n = if (insV qs r).2 ≠ 0 then (insV qs r).2 else if (insV qs r).1 = true then 0 else 14) := Lib.hid (by unfold boundE; rw [if_neg (fun h => h.elim hr0 (fun h => h.elim h2 h3))])
  have HWr := Lib.hid (insV_wrong (qs := qs) hr0)
  clear hr0
  go_wp2_with fail
  refine Calls.mono (inside_any ao m cap qs ⟨tneg, ta, tn, tc, tb, tm, td⟩ r _ (H.out.ext HX.out) (HR.out.ext HX.out) (by omega) HZ.out (ZR.out.mono (by decide)) HO.out) ?_
  rintro e w3 ⟨x3, rfl, hE, -⟩
  replace HX := Lib.hid (HX.out.trans hE)
  replace B4 := Lib.hid (hE.block B4.out)
  replace B6 := Lib.hid (hE.block B6.out)
  have hs_w3 := hE.size
  clear hE
  (try clear c_B4 f_B4 l_B4)
  have c_B4 := blk_cell B4.out
  have f_B4 := blk_frozen B4.out
  have l_B4 := (Array.getElem?_eq_some_iff.1 B4.out).1
  (try clear c_B6 f_B6 l_B6)
  have c_B6 := blk_cell B6.out
  have f_B6 := blk_frozen B6.out
  have l_B6 := (Array.getElem?_eq_some_iff.1 B6.out).1
  obtain ⟨iv, hiv⟩ : ∃ iv, iv = insV qs r := ⟨_, rfl⟩
  rw [← hiv]
  rw [← hiv] at HE0 HWr
  clear hiv
  obtain ⟨ib, ie⟩ := iv
  simp only at HE0 HWr
  simp only [BF]
  by_cases h4 : ie = 0
  case neg =>
    have hb : (ie == 0) = false := by simpa using h4
    have HE : Hid (boundE qs r n = ie) := Lib.hid (by rw [HE0.out, if_pos h4])
    go_wp2
    have hF := (((Fin.start (L := w.heap.size + 1) HX.out (noU_block B6.out rfl)).set (by omega) (i := 0) (v := .bool false) rfl).set (by omega) (i := 1) (v := .slice none 0 0) rfl).set (by omega) (i := 2) (v := .slice none 0 0) rfl
    exact bodyPost_ret (v := DV ⟨false, none, 0, 0, none, 0, 0⟩ ie) (by simp [results, Tryz.results17, go_sem, blk_cell B6.out, DV]) rfl ⟨⟨false, none, 0, 0, none, 0, 0⟩, by rw [HE.out], hF.ext, BndP.err HE.out (h4)⟩
  subst h4
  cases ib
  case false =>
    have HE : Hid (boundE qs r n = 14) := Lib.hid (by rw [HE0.out]; rfl)
    go_wp2
    have hF := (((Fin.start (L := w.heap.size + 1) HX.out (noU_block B6.out rfl)).set (by omega) (i := 0) (v := .bool false) rfl).set (by omega) (i := 1) (v := .slice none 0 0) rfl).set (by omega) (i := 2) (v := .slice none 0 0) rfl
    exact bodyPost_ret (v := DV ⟨false, none, 0, 0, none, 0, 0⟩ 14) (by simp [results, Tryz.results17, go_sem, blk_cell B6.out, DV]) rfl ⟨⟨false, none, 0, 0, none, 0, 0⟩, by rw [HE.out], hF.ext, BndP.err HE.out (by decide)⟩
  have HE : Hid (boundE qs r n = 0) := Lib.hid (by rw [HE0.out]; rfl)
  obtain ⟨hw1, hw2, hw3⟩ := wrong_ok (HWr.out rfl)
  rw [tz_getD'] at hw3
  have HA0 : Hid (qs.getD 0 0 ≠ 0) := Lib.hid hw3
  clear hw3 HE0 HWr
  obtain ⟨N, rfl⟩ : ∃ N : Nat, n = (N : Nat) := ⟨n.toNat, by omega⟩
  have hN : N ≤ 64 := by omega
  obtain ⟨P, hP⟩ : ∃ P, (tz qs).length = P + 1 := ⟨(tz qs).length - 1, by omega⟩
  have hm0 : 0 < m := by have := tz_len_le qs; rw [Hlen.out] at this; omega
  have hP48 : P ≤ 48 := by omega
  have HQ : Hid (boundQ qs r (N : Int).toNat = if P = 0 ∧ 0 < N then 0 else ((1 : Int) : Rat) / (qs.getD 0 0).abs * bnd N (P - 1) * r ^ N) := Lib.hid (by
    unfold boundQ
    rw [hP, Int.toNat_natCast, show P + 1 - 2 = P - 1 by omega]
    by_cases h : P = 0 ∧ 0 < N
    · rw [if_pos h, if_pos ⟨by omega, h.2⟩]
    · rw [if_neg h, if_neg (fun h' => h ⟨by omega, h'.2⟩)])
  have HD : Hid (∀ w1, Ext w w1 → Does 49 [.slice ao m cap] w1 (fun _ : Unit => .int .i64 (P : Nat)) (fun _ _ => True)) := Lib.hid (fun w1 he => by
    have h5 := pdegree_any ao m cap qs w1 (H.out.ext he)
    rw [hP, show ((P + 1 : Nat) : Int) - 1 = (P : Nat) by omega] at h5
    exact h5)
  clear hw1 hw2 hP h1 h2 h3
  go_wp2_with fail
  refine Calls.mono (HD.out _ HX.out) ?_
  rintro e w4 ⟨x4, rfl, hE, -⟩
  replace HX := Lib.hid (HX.out.trans hE)
  replace B4 := Lib.hid (hE.block B4.out)
  replace B6 := Lib.hid (hE.block B6.out)
  have hs_w4 := hE.size
  clear hE
  (try clear c_B4 f_B4 l_B4)
  have c_B4 := blk_cell B4.out
  have f_B4 := blk_frozen B4.out
  have l_B4 := (Array.getElem?_eq_some_iff.1 B4.out).1
  (try clear c_B6 f_B6 l_B6)
  have c_B6 := blk_cell B6.out
  have f_B6 := blk_frozen B6.out
  have l_B6 := (Array.getElem?_eq_some_iff.1 B6.out).1
  clear HD
  have ZA0 := Lib.hid (HZ.out.getD (by decide) 0)
  have Z1 : Hid (Sz 1 ((1 : Int) : Rat)) := Lib.hid (Sz.int (by decide))
  by_cases hz : P = 0 ∧ 0 < N
  case pos =>
    have HQ2 : Hid (boundQ qs r (N : Int).toNat = 0) := Lib.hid (by rw [HQ.out, if_pos hz])
    obtain ⟨hz1, hz2⟩ := hz
    subst hz1
    have hz2i : (0 : Int) < N := by omega
    go_wp2_with fail
    refine Calls.mono (rof_any 0 _ (by decide) (by decide)) ?_
    rintro e w5 ⟨x5, rfl, hE, g5⟩
    have G5 := Lib.hid g5
    clear g5
    replace HX := Lib.hid (HX.out.trans hE)
    replace B4 := Lib.hid (hE.block B4.out)
    replace B6 := Lib.hid (hE.block B6.out)
    have hs_w5 := hE.size
    clear hE
    (try clear c_B4 f_B4 l_B4)
    have c_B4 := blk_cell B4.out
    have f_B4 := blk_frozen B4.out
    have l_B4 := (Array.getElem?_eq_some_iff.1 B4.out).1
    (try clear c_B6 f_B6 l_B6)
    have c_B6 := blk_cell B6.out
    have f_B6 := blk_frozen B6.out
    have l_B6 := (Array.getElem?_eq_some_iff.1 B6.out).1
    have HC : Hid (CanR w5 x5 (boundQ qs r (N : Int).toNat)) := Lib.hid (by rw [HQ2.out]; exact G5.out)
    go_wp2
    have hF := (((Fin.start (L := w.heap.size + 1) HX.out (noU_block B6.out rfl)).set (by omega) (i := 0) (v := .bool x5.neg) rfl).set (by omega) (i := 1) (v := .slice x5.a x5.n x5.c) rfl).set (by omega) (i := 2) (v := .slice x5.b x5.m x5.d) rfl
    exact bodyPost_ret (v := DV x5 0) (by simp [results, Tryz.results17, go_sem, blk_cell B6.out, DV]) rfl ⟨x5, by rw [HE.out], hF.ext, BndP.ok HE.out (HC.out.keep hF.keep)⟩
  rw [if_neg hz] at HQ
  obtain ⟨B0, hB0⟩ : ∃ B0, B0 = ((1 : Int) : Rat) / (qs.getD 0 0).abs := ⟨_, rfl⟩
  have HB0 := Lib.hid hB0
  rw [← hB0] at HQ
  have ZB0 : Hid (Sz 65537 B0) := Lib.hid (by rw [hB0]; exact (Z1.out.div ZA0.out.abs).mono (by decide))
  clear hB0
  obtain ⟨b, off, q, hao, hbl, ⟨hc1, hc2, hc3⟩, hPq⟩ := (H.out.ext HX.out).cells' (k := 0) hm0
  obtain ⟨rneg, ra, rn, rc, rb, rm, rd⟩ := q
  simp only [Nat.zero_mul, Nat.add_zero] at hc1 hc2 hc3
  have RP := Lib.hid hPq
  clear hPq
  have Hao := Lib.hid hao
  subst hao
  rcases Nat.eq_zero_or_pos P with hP0 | hP0
  · have hgo : ¬ (0 : Int) < N := fun h' => hz ⟨hP0, by omega⟩
    subst hP0
    clear hz
    go_upto_region 11 with fail
    refine wp_region_edges [(10, 8)] _ (by simp only [addEs, addE, List.push_toArray, List.cons_append, List.nil_append]; exact rfl) (by intro c a d v w h; cases d <;> exact h) 10 (fun opIx => match opIx with
      | 0 => .spec RH default RH.v (fun s w' => CanR w' s (((1 : Int) : Rat)))
      | 4 => .spec RH default RH.v (fun s w' => CanR w' s ((qs.getD 0 0).abs))
      | 5 => .spec (RH) (default) ((fun x : RH => DV x 0)) (fun x w' => CanR w' x B0)
      | 9 => .alloc 30 #[.bool false, .slice none 0 0, .slice none 0 0]
      | _ => .quiet) (fun | 5 => [0, 4] | _ => []) (by kernel_rfl) (by kernel_rfl) (by kernel_rfl) (fun w0 he0 hz0 hc0 hf0 => ?_)
    replace he0 := Lib.hid he0
    simp only [List.take_succ_cons, List.take_zero]
    repeat (refine wpF_quiet rfl rfl rfl (fun K hK => ?_); go_big_quiet_op; refine hK _ ?_; clear hK K)
    refine wpF_spec rfl rfl (fun w1 hw1 hG => ?_) (fun x20 => ?_)
    · have hW := he0.out.trans hw1
      refine spec_call [.int .i64 1] rfl rfl Tryz.func39 (by kernel_rfl) (by kernel_rfl) ?_
      exact rof_any 1 _ (by decide) (by decide)
    simp only [Act.put, List.setIfInBounds_toArray, List.set_cons_succ, List.set_cons_zero]
    repeat (refine wpF_quiet rfl rfl rfl (fun K hK => ?_); go_big_quiet_op; refine hK _ ?_; clear hK K)
    refine wpF_spec rfl rfl (fun w1 hw1 hG => ?_) (fun x21 => ?_)
    · have hW := he0.out.trans hw1
      refine spec_call [RH.v ⟨rneg, ra, rn, rc, rb, rm, rd⟩] rfl rfl Tryz.func51 (by kernel_rfl) (by kernel_rfl) ?_
      exact rabs_any _ _ _ (RP.out.ext hW)
    simp only [Act.put, List.setIfInBounds_toArray, List.set_cons_succ, List.set_cons_zero]
    repeat (refine wpF_quiet rfl rfl rfl (fun K hK => ?_); go_big_quiet_op; refine hK _ ?_; clear hK K)
    refine wpF_spec rfl rfl (fun w1 hw1 hG => ?_) (fun x22 => ?_)
    · have hW := he0.out.trans hw1
      obtain ⟨wa20, hwa20, g20⟩ : Since _ _ := hG 0 (by decide)
      replace g20 := g20.ext hwa20
      obtain ⟨wa21, hwa21, g21⟩ : Since _ _ := hG 4 (by decide)
      replace g21 := g21.ext hwa21
      refine spec_call [x20.v, x21.v] rfl rfl Tryz.func50 (by kernel_rfl) (by kernel_rfl) ?_
      exact (by rw [HB0.out]; exact rdiv_any x20 x21 _ _ _ (g20.raw Z1.out (by decide)) (g21.raw ZA0.out.abs (by decide)) (abs_ne HA0.out))
    simp only [Act.put, List.setIfInBounds_toArray, List.set_cons_succ, List.set_cons_zero]
    repeat (refine wpF_quiet rfl rfl rfl (fun K hK => ?_); go_big_quiet_op; refine hK _ ?_; clear hK K)
    refine wpF_alloc rfl rfl (fun w => by simp [execOp, go_sem, ptr]) (fun b11 hb11 hl11 => ?_)
    simp only [Act.put, List.setIfInBounds_toArray, List.set_cons_succ, List.set_cons_zero]
    repeat (refine wpF_quiet rfl rfl rfl (fun K hK => ?_); go_big_quiet_op; refine hK _ ?_; clear hK K)
    refine wpF_nil ?_
    intro w11 hI
    have hE := he0.out.trans hI.ext
    obtain ⟨wa20, hwa20, g20⟩ : Since _ _ := hI.facts 0
    have G20 := Lib.hid (g20.ext hwa20)
    clear g20 hwa20
    obtain ⟨wa21, hwa21, g21⟩ : Since _ _ := hI.facts 4
    have G21 := Lib.hid (g21.ext hwa21)
    clear g21 hwa21
    obtain ⟨wa22, hwa22, g22⟩ : Since _ _ := hI.facts 5
    have G22 := Lib.hid (g22.ext hwa22)
    clear g22 hwa22
    have A11 : Hid (w11.heap[b11]? = some (.cells #[.bool false, .slice none 0 0, .slice none 0 0] 30 (0, 0))) := hI.facts 9
    rw [hz0] at hl11
    clear hI he0 hz0 hc0 hf0
    replace HX := Lib.hid (HX.out.trans hE)
    replace B4 := Lib.hid (hE.block B4.out)
    replace B6 := Lib.hid (hE.block B6.out)
    replace RP := Lib.hid (RP.out.ext hE)
    have hs_w11 := hE.size
    clear hE
    (try clear c_B4 f_B4 l_B4)
    have c_B4 := blk_cell B4.out
    have f_B4 := blk_frozen B4.out
    have l_B4 := (Array.getElem?_eq_some_iff.1 B4.out).1
    (try clear c_B6 f_B6 l_B6)
    have c_B6 := blk_cell B6.out
    have f_B6 := blk_frozen B6.out
    have l_B6 := (Array.getElem?_eq_some_iff.1 B6.out).1
    have c_A11 := blk_cell A11.out
    have f_A11 := blk_frozen A11.out
    have l_A11 := (Array.getElem?_eq_some_iff.1 A11.out).1
    simp only [List.drop_succ_cons, List.drop_zero, ptr]
    clear RP
    clear G20
    clear G21
    clear hc1 hc2 hc3 hbl
    go_upto_region 12 with fail
    refine nm_set3 A11.out rfl ?_
    intro y12 T
    replace HX := Lib.hid (T.ext HX.out (by omega))
    replace B4 := Lib.hid (T.rest _ _ (by omega) B4.out)
    replace B6 := Lib.hid (T.rest _ _ (by omega) B6.out)
    replace A11 := Lib.hid (T.bx)
    replace G22 := Lib.hid (G22.out.keep T.keep)
    have hs_y12 := Nat.le_of_eq T.size
    have hr_y12 := Nat.le_of_eq T.size.symm
    clear T
    (try clear c_B4 f_B4 l_B4)
    have c_B4 := blk_cell B4.out
    have f_B4 := blk_frozen B4.out
    have l_B4 := (Array.getElem?_eq_some_iff.1 B4.out).1
    (try clear c_B6 f_B6 l_B6)
    have c_B6 := blk_cell B6.out
    have f_B6 := blk_frozen B6.out
    have l_B6 := (Array.getElem?_eq_some_iff.1 B6.out).1
    (try clear c_A11 f_A11 l_A11)
    have c_A11 := blk_cell A11.out
    have f_A11 := blk_frozen A11.out
    have l_A11 := (Array.getElem?_eq_some_iff.1 A11.out).1
    have G0 : Hid (CanR y12 x22 (B0 * bnd N 0)) := Lib.hid (by show CanR y12 x22 (B0 * 1); rw [Rat.mul_one]; exact G22.out)
    clear G22
    have hb11w : w.heap.size + 2 ≤ b11 := by omega
    clear c_A11 f_A11 l_A11 c_B4 f_B4 l_B4 c_B6 f_B6 l_B6
    go_wp2
    go_loopg [13] (0) (fun g v wr => ∃ (j : Nat) (f : RH), j + g = 0 ∧ v = .int .i64 ((j : Int) + 1) ∧ Ext w wr ∧ wr.heap[w.heap.size]? = some (.cells #[.bool tneg, .slice ta tn tc, .slice tb tm td] 30 (0, 0)) ∧ wr.heap[w.heap.size + 1]? = some (.cells #[.bool false, .slice none 0 0, .slice none 0 0] 30 (0, 0)) ∧ wr.heap[b11]? = some (.cells #[.bool f.neg, .slice f.a f.n f.c, .slice f.b f.m f.d] 30 (0, 0)) ∧ CanR wr f (B0 * bnd N j))
    case atStart => exact ⟨0, x22, by omega, rfl, HX.out, B4.out, B6.out, A11.out, G0.out⟩
    case round =>
      obtain ⟨j, f, hj, rfl, g1, g2, g3, g4, g5⟩ := hrel
      clear HX B4 B6 A11 G0
      have HX := Lib.hid g1
      have B4 := Lib.hid g2
      have B6 := Lib.hid g3
      have B11 := Lib.hid g4
      have GF := Lib.hid g5
      clear g1 g2 g3 g4 g5
      (try clear c_B4 f_B4 l_B4)
      have c_B4 := blk_cell B4.out
      have f_B4 := blk_frozen B4.out
      have l_B4 := (Array.getElem?_eq_some_iff.1 B4.out).1
      (try clear c_B6 f_B6 l_B6)
      have c_B6 := blk_cell B6.out
      have f_B6 := blk_frozen B6.out
      have l_B6 := (Array.getElem?_eq_some_iff.1 B6.out).1
      (try clear c_B11 f_B11 l_B11)
      have c_B11 := blk_cell B11.out
      have f_B11 := blk_frozen B11.out
      have l_B11 := (Array.getElem?_eq_some_iff.1 B11.out).1
      have ZF : Hid (Sz 65736 (B0 * bnd N j)) := Lib.hid ((ZB0.out.mul (bnd_sz hN j (by omega))).mono (by omega))
      by_cases h0 : gk = 0
      case pos =>
        subst h0
        obtain rfl : j = 0 := by omega
        have hjn : ¬ (((0 : Nat) : Int) + 1 < 0) := by omega
        go_wp2_with fail
        refine Calls.mono (rpow_any ⟨tneg, ta, tn, tc, tb, tm, td⟩ r 32768 N _ (HR.out.ext HX.out) ZR.out (by decide) (by decide) hN) ?_
        rintro e w30 ⟨x30, rfl, hE, g30⟩
        have G30 := Lib.hid g30
        clear g30
        replace HX := Lib.hid (HX.out.trans hE)
        replace B4 := Lib.hid (hE.block B4.out)
        replace B6 := Lib.hid (hE.block B6.out)
        replace B11 := Lib.hid (hE.block B11.out)
        replace GF := Lib.hid (GF.out.ext hE)
        have hs_w30 := hE.size
        clear hE
        (try clear c_B4 f_B4 l_B4)
        have c_B4 := blk_cell B4.out
        have f_B4 := blk_frozen B4.out
        have l_B4 := (Array.getElem?_eq_some_iff.1 B4.out).1
        (try clear c_B6 f_B6 l_B6)
        have c_B6 := blk_cell B6.out
        have f_B6 := blk_frozen B6.out
        have l_B6 := (Array.getElem?_eq_some_iff.1 B6.out).1
        (try clear c_B11 f_B11 l_B11)
        have c_B11 := blk_cell B11.out
        have f_B11 := blk_frozen B11.out
        have l_B11 := (Array.getElem?_eq_some_iff.1 B11.out).1
        have ZP : Hid (Sz 2097153 (r ^ N)) := Lib.hid ((ZR.out.pow N).mono (by have := Nat.mul_le_mul_left 32768 hN; omega))
        go_upto_region 17 with fail
        refine nm_alloc ?_
        intro y31 hE hB0 hz
        have hz_y31 := Nat.le_of_eq hz
        have hr_y31 := Nat.le_of_eq hz.symm
        clear hz
        replace HX := Lib.hid (HX.out.trans hE)
        replace B4 := Lib.hid (hE.block B4.out)
        replace B6 := Lib.hid (hE.block B6.out)
        replace B11 := Lib.hid (hE.block B11.out)
        replace GF := Lib.hid (GF.out.ext hE)
        replace G30 := Lib.hid (G30.out.ext hE)
        have hs_y31 := hE.size
        clear hE
        (try clear c_B4 f_B4 l_B4)
        have c_B4 := blk_cell B4.out
        have f_B4 := blk_frozen B4.out
        have l_B4 := (Array.getElem?_eq_some_iff.1 B4.out).1
        (try clear c_B6 f_B6 l_B6)
        have c_B6 := blk_cell B6.out
        have f_B6 := blk_frozen B6.out
        have l_B6 := (Array.getElem?_eq_some_iff.1 B6.out).1
        (try clear c_B11 f_B11 l_B11)
        have c_B11 := blk_cell B11.out
        have f_B11 := blk_frozen B11.out
        have l_B11 := (Array.getElem?_eq_some_iff.1 B11.out).1
        have B14 := Lib.hid hB0
        clear hB0
        have c_B14 := blk_cell B14.out
        have f_B14 := blk_frozen B14.out
        have l_B14 := (Array.getElem?_eq_some_iff.1 B14.out).1
        go_wp2_with fail
        refine Calls.mono (rmul_any f x30 _ _ _ (GF.out.raw ZF.out (by decide)) (G30.out.raw ZP.out (by decide))) ?_
        rintro e w32 ⟨x32, rfl, hE, g32⟩
        have G32 := Lib.hid g32
        clear g32
        replace HX := Lib.hid (HX.out.trans hE)
        replace B4 := Lib.hid (hE.block B4.out)
        replace B6 := Lib.hid (hE.block B6.out)
        replace B11 := Lib.hid (hE.block B11.out)
        replace GF := Lib.hid (GF.out.ext hE)
        replace G30 := Lib.hid (G30.out.ext hE)
        replace B14 := Lib.hid (hE.block B14.out)
        have hs_w32 := hE.size
        clear hE
        (try clear c_B4 f_B4 l_B4)
        have c_B4 := blk_cell B4.out
        have f_B4 := blk_frozen B4.out
        have l_B4 := (Array.getElem?_eq_some_iff.1 B4.out).1
        (try clear c_B6 f_B6 l_B6)
        have c_B6 := blk_cell B6.out
        have f_B6 := blk_frozen B6.out
        have l_B6 := (Array.getElem?_eq_some_iff.1 B6.out).1
        (try clear c_B11 f_B11 l_B11)
        have c_B11 := blk_cell B11.out
        have f_B11 := blk_frozen B11.out
        have l_B11 := (Array.getElem?_eq_some_iff.1 B11.out).1
        (try clear c_B14 f_B14 l_B14)
        have c_B14 := blk_cell B14.out
        have f_B14 := blk_frozen B14.out
        have l_B14 := (Array.getElem?_eq_some_iff.1 B14.out).1
        have HC : Hid (CanR w32 x32 (boundQ qs r (N : Int).toNat)) := Lib.hid (by rw [HQ.out]; exact G32.out)
        go_wp2
        have hF := (((Fin.start (L := w.heap.size + 1) HX.out (noU_block B6.out rfl)).set (by omega) (i := 0) (v := .bool x32.neg) rfl).set (by omega) (i := 1) (v := .slice x32.a x32.n x32.c) rfl).set (by omega) (i := 2) (v := .slice x32.b x32.m x32.d) rfl
        exact bodyPost_ret (v := DV x32 0) (by simp [results, Tryz.results17, go_sem, blk_cell B6.out, DV]) rfl ⟨x32, by rw [HE.out], hF.ext, BndP.ok HE.out (HC.out.keep hF.keep)⟩
      omega
  · have hpb : ((P : Int) == 0) = false := by rw [beq_eq_false_iff_ne]; omega
    clear hz
    go_upto_region 11 with fail
    refine wp_region_edges [(10, 8)] _ (by simp only [addEs, addE, List.push_toArray, List.cons_append, List.nil_append]; exact rfl) (by intro c a d v w h; cases d <;> exact h) 10 (fun opIx => match opIx with
      | 0 => .spec RH default RH.v (fun s w' => CanR w' s (((1 : Int) : Rat)))
      | 4 => .spec RH default RH.v (fun s w' => CanR w' s ((qs.getD 0 0).abs))
      | 5 => .spec (RH) (default) ((fun x : RH => DV x 0)) (fun x w' => CanR w' x B0)
      | 9 => .alloc 30 #[.bool false, .slice none 0 0, .slice none 0 0]
      | _ => .quiet) (fun | 5 => [0, 4] | _ => []) (by kernel_rfl) (by kernel_rfl) (by kernel_rfl) (fun w0 he0 hz0 hc0 hf0 => ?_)
    replace he0 := Lib.hid he0
    simp only [List.take_succ_cons, List.take_zero]
    repeat (refine wpF_quiet rfl rfl rfl (fun K hK => ?_); go_big_quiet_op; refine hK _ ?_; clear hK K)
    refine wpF_spec rfl rfl (fun w1 hw1 hG => ?_) (fun x20 => ?_)
    · have hW := he0.out.trans hw1
      refine spec_call [.int .i64 1] rfl rfl Tryz.func39 (by kernel_rfl) (by kernel_rfl) ?_
      exact rof_any 1 _ (by decide) (by decide)
    simp only [Act.put, List.setIfInBounds_toArray, List.set_cons_succ, List.set_cons_zero]
    repeat (refine wpF_quiet rfl rfl rfl (fun K hK => ?_); go_big_quiet_op; refine hK _ ?_; clear hK K)
    refine wpF_spec rfl rfl (fun w1 hw1 hG => ?_) (fun x21 => ?_)
    · have hW := he0.out.trans hw1
      refine spec_call [RH.v ⟨rneg, ra, rn, rc, rb, rm, rd⟩] rfl rfl Tryz.func51 (by kernel_rfl) (by kernel_rfl) ?_
      exact rabs_any _ _ _ (RP.out.ext hW)
    simp only [Act.put, List.setIfInBounds_toArray, List.set_cons_succ, List.set_cons_zero]
    repeat (refine wpF_quiet rfl rfl rfl (fun K hK => ?_); go_big_quiet_op; refine hK _ ?_; clear hK K)
    refine wpF_spec rfl rfl (fun w1 hw1 hG => ?_) (fun x22 => ?_)
    · have hW := he0.out.trans hw1
      obtain ⟨wa20, hwa20, g20⟩ : Since _ _ := hG 0 (by decide)
      replace g20 := g20.ext hwa20
      obtain ⟨wa21, hwa21, g21⟩ : Since _ _ := hG 4 (by decide)
      replace g21 := g21.ext hwa21
      refine spec_call [x20.v, x21.v] rfl rfl Tryz.func50 (by kernel_rfl) (by kernel_rfl) ?_
      exact (by rw [HB0.out]; exact rdiv_any x20 x21 _ _ _ (g20.raw Z1.out (by decide)) (g21.raw ZA0.out.abs (by decide)) (abs_ne HA0.out))
    simp only [Act.put, List.setIfInBounds_toArray, List.set_cons_succ, List.set_cons_zero]
    repeat (refine wpF_quiet rfl rfl rfl (fun K hK => ?_); go_big_quiet_op; refine hK _ ?_; clear hK K)
    refine wpF_alloc rfl rfl (fun w => by simp [execOp, go_sem, ptr]) (fun b11 hb11 hl11 => ?_)
    simp only [Act.put, List.setIfInBounds_toArray, List.set_cons_succ, List.set_cons_zero]
    repeat (refine wpF_quiet rfl rfl rfl (fun K hK => ?_); go_big_quiet_op; refine hK _ ?_; clear hK K)
    refine wpF_nil ?_
    intro w11 hI
    have hE := he0.out.trans hI.ext
    obtain ⟨wa20, hwa20, g20⟩ : Since _ _ := hI.facts 0
    have G20 := Lib.hid (g20.ext hwa20)
    clear g20 hwa20
    obtain ⟨wa21, hwa21, g21⟩ : Since _ _ := hI.facts 4
    have G21 := Lib.hid (g21.ext hwa21)
    clear g21 hwa21
    obtain ⟨wa22, hwa22, g22⟩ : Since _ _ := hI.facts 5
    have G22 := Lib.hid (g22.ext hwa22)
    clear g22 hwa22
    have A11 : Hid (w11.heap[b11]? = some (.cells #[.bool false, .slice none 0 0, .slice none 0 0] 30 (0, 0))) := hI.facts 9
    rw [hz0] at hl11
    clear hI he0 hz0 hc0 hf0
    replace HX := Lib.hid (HX.out.trans hE)
    replace B4 := Lib.hid (hE.block B4.out)
    replace B6 := Lib.hid (hE.block B6.out)
    replace RP := Lib.hid (RP.out.ext hE)
    have hs_w11 := hE.size
    clear hE
    (try clear c_B4 f_B4 l_B4)
    have c_B4 := blk_cell B4.out
    have f_B4 := blk_frozen B4.out
    have l_B4 := (Array.getElem?_eq_some_iff.1 B4.out).1
    (try clear c_B6 f_B6 l_B6)
    have c_B6 := blk_cell B6.out
    have f_B6 := blk_frozen B6.out
    have l_B6 := (Array.getElem?_eq_some_iff.1 B6.out).1
    have c_A11 := blk_cell A11.out
    have f_A11 := blk_frozen A11.out
    have l_A11 := (Array.getElem?_eq_some_iff.1 A11.out).1
    simp only [List.drop_succ_cons, List.drop_zero, ptr]
    clear RP
    clear G20
    clear G21
    clear hc1 hc2 hc3 hbl
    go_upto_region 12 with fail
    refine nm_set3 A11.out rfl ?_
    intro y12 T
    replace HX := Lib.hid (T.ext HX.out (by omega))
    replace B4 := Lib.hid (T.rest _ _ (by omega) B4.out)
    replace B6 := Lib.hid (T.rest _ _ (by omega) B6.out)
    replace A11 := Lib.hid (T.bx)
    replace G22 := Lib.hid (G22.out.keep T.keep)
    have hs_y12 := Nat.le_of_eq T.size
    have hr_y12 := Nat.le_of_eq T.size.symm
    clear T
    (try clear c_B4 f_B4 l_B4)
    have c_B4 := blk_cell B4.out
    have f_B4 := blk_frozen B4.out
    have l_B4 := (Array.getElem?_eq_some_iff.1 B4.out).1
    (try clear c_B6 f_B6 l_B6)
    have c_B6 := blk_cell B6.out
    have f_B6 := blk_frozen B6.out
    have l_B6 := (Array.getElem?_eq_some_iff.1 B6.out).1
    (try clear c_A11 f_A11 l_A11)
    have c_A11 := blk_cell A11.out
    have f_A11 := blk_frozen A11.out
    have l_A11 := (Array.getElem?_eq_some_iff.1 A11.out).1
    have G0 : Hid (CanR y12 x22 (B0 * bnd N 0)) := Lib.hid (by show CanR y12 x22 (B0 * 1); rw [Rat.mul_one]; exact G22.out)
    clear G22
    have hb11w : w.heap.size + 2 ≤ b11 := by omega
    clear c_A11 f_A11 l_A11 c_B4 f_B4 l_B4 c_B6 f_B6 l_B6
    go_wp2
    go_loopg [13] (P - 1) (fun g v wr => ∃ (j : Nat) (f : RH), j + g = P - 1 ∧ v = .int .i64 ((j : Int) + 1) ∧ Ext w wr ∧ wr.heap[w.heap.size]? = some (.cells #[.bool tneg, .slice ta tn tc, .slice tb tm td] 30 (0, 0)) ∧ wr.heap[w.heap.size + 1]? = some (.cells #[.bool false, .slice none 0 0, .slice none 0 0] 30 (0, 0)) ∧ wr.heap[b11]? = some (.cells #[.bool f.neg, .slice f.a f.n f.c, .slice f.b f.m f.d] 30 (0, 0)) ∧ CanR wr f (B0 * bnd N j))
    case atStart => exact ⟨0, x22, by omega, rfl, HX.out, B4.out, B6.out, A11.out, G0.out⟩
    case round =>
      obtain ⟨j, f, hj, rfl, g1, g2, g3, g4, g5⟩ := hrel
      clear HX B4 B6 A11 G0
      have HX := Lib.hid g1
      have B4 := Lib.hid g2
      have B6 := Lib.hid g3
      have B11 := Lib.hid g4
      have GF := Lib.hid g5
      clear g1 g2 g3 g4 g5
      (try clear c_B4 f_B4 l_B4)
      have c_B4 := blk_cell B4.out
      have f_B4 := blk_frozen B4.out
      have l_B4 := (Array.getElem?_eq_some_iff.1 B4.out).1
      (try clear c_B6 f_B6 l_B6)
      have c_B6 := blk_cell B6.out
      have f_B6 := blk_frozen B6.out
      have l_B6 := (Array.getElem?_eq_some_iff.1 B6.out).1
      (try clear c_B11 f_B11 l_B11)
      have c_B11 := blk_cell B11.out
      have f_B11 := blk_frozen B11.out
      have l_B11 := (Array.getElem?_eq_some_iff.1 B11.out).1
      have ZF : Hid (Sz 65736 (B0 * bnd N j)) := Lib.hid ((ZB0.out.mul (bnd_sz hN j (by omega))).mono (by omega))
      by_cases h0 : gk = 0
      case pos =>
        subst h0
        obtain rfl : j = P - 1 := by omega
        have hjn : ¬ (((P - 1 : Nat) : Int) + 1 < P) := by omega
        go_wp2_with fail
        refine Calls.mono (rpow_any ⟨tneg, ta, tn, tc, tb, tm, td⟩ r 32768 N _ (HR.out.ext HX.out) ZR.out (by decide) (by decide) hN) ?_
        rintro e w30 ⟨x30, rfl, hE, g30⟩
        have G30 := Lib.hid g30
        clear g30
        replace HX := Lib.hid (HX.out.trans hE)
        replace B4 := Lib.hid (hE.block B4.out)
        replace B6 := Lib.hid (hE.block B6.out)
        replace B11 := Lib.hid (hE.block B11.out)
        replace GF := Lib.hid (GF.out.ext hE)
        have hs_w30 := hE.size
        clear hE
        (try clear c_B4 f_B4 l_B4)
        have c_B4 := blk_cell B4.out
        have f_B4 := blk_frozen B4.out
        have l_B4 := (Array.getElem?_eq_some_iff.1 B4.out).1
        (try clear c_B6 f_B6 l_B6)
        have c_B6 := blk_cell B6.out
        have f_B6 := blk_frozen B6.out
        have l_B6 := (Array.getElem?_eq_some_iff.1 B6.out).1
        (try clear c_B11 f_B11 l_B11)
        have c_B11 := blk_cell B11.out
        have f_B11 := blk_frozen B11.out
        have l_B11 := (Array.getElem?_eq_some_iff.1 B11.out).1
        have ZP : Hid (Sz 2097153 (r ^ N)) := Lib.hid ((ZR.out.pow N).mono (by have := Nat.mul_le_mul_left 32768 hN; omega))
        go_upto_region 17 with fail
        refine nm_alloc ?_
        intro y31 hE hB0 hz
        have hz_y31 := Nat.le_of_eq hz
        have hr_y31 := Nat.le_of_eq hz.symm
        clear hz
        replace HX := Lib.hid (HX.out.trans hE)
        replace B4 := Lib.hid (hE.block B4.out)
        replace B6 := Lib.hid (hE.block B6.out)
        replace B11 := Lib.hid (hE.block B11.out)
        replace GF := Lib.hid (GF.out.ext hE)
        replace G30 := Lib.hid (G30.out.ext hE)
        have hs_y31 := hE.size
        clear hE
        (try clear c_B4 f_B4 l_B4)
        have c_B4 := blk_cell B4.out
        have f_B4 := blk_frozen B4.out
        have l_B4 := (Array.getElem?_eq_some_iff.1 B4.out).1
        (try clear c_B6 f_B6 l_B6)
        have c_B6 := blk_cell B6.out
        have f_B6 := blk_frozen B6.out
        have l_B6 := (Array.getElem?_eq_some_iff.1 B6.out).1
        (try clear c_B11 f_B11 l_B11)
        have c_B11 := blk_cell B11.out
        have f_B11 := blk_frozen B11.out
        have l_B11 := (Array.getElem?_eq_some_iff.1 B11.out).1
        have B14 := Lib.hid hB0
        clear hB0
        have c_B14 := blk_cell B14.out
        have f_B14 := blk_frozen B14.out
        have l_B14 := (Array.getElem?_eq_some_iff.1 B14.out).1
        go_wp2_with fail
        refine Calls.mono (rmul_any f x30 _ _ _ (GF.out.raw ZF.out (by decide)) (G30.out.raw ZP.out (by decide))) ?_
        rintro e w32 ⟨x32, rfl, hE, g32⟩
        have G32 := Lib.hid g32
        clear g32
        replace HX := Lib.hid (HX.out.trans hE)
        replace B4 := Lib.hid (hE.block B4.out)
        replace B6 := Lib.hid (hE.block B6.out)
        replace B11 := Lib.hid (hE.block B11.out)
        replace GF := Lib.hid (GF.out.ext hE)
        replace G30 := Lib.hid (G30.out.ext hE)
        replace B14 := Lib.hid (hE.block B14.out)
        have hs_w32 := hE.size
        clear hE
        (try clear c_B4 f_B4 l_B4)
        have c_B4 := blk_cell B4.out
        have f_B4 := blk_frozen B4.out
        have l_B4 := (Array.getElem?_eq_some_iff.1 B4.out).1
        (try clear c_B6 f_B6 l_B6)
        have c_B6 := blk_cell B6.out
        have f_B6 := blk_frozen B6.out
        have l_B6 := (Array.getElem?_eq_some_iff.1 B6.out).1
        (try clear c_B11 f_B11 l_B11)
        have c_B11 := blk_cell B11.out
        have f_B11 := blk_frozen B11.out
        have l_B11 := (Array.getElem?_eq_some_iff.1 B11.out).1
        (try clear c_B14 f_B14 l_B14)
        have c_B14 := blk_cell B14.out
        have f_B14 := blk_frozen B14.out
        have l_B14 := (Array.getElem?_eq_some_iff.1 B14.out).1
        have HC : Hid (CanR w32 x32 (boundQ qs r (N : Int).toNat)) := Lib.hid (by rw [HQ.out]; exact G32.out)
        go_wp2
        have hF := (((Fin.start (L := w.heap.size + 1) HX.out (noU_block B6.out rfl)).set (by omega) (i := 0) (v := .bool x32.neg) rfl).set (by omega) (i := 1) (v := .slice x32.a x32.n x32.c) rfl).set (by omega) (i := 2) (v := .slice x32.b x32.m x32.d) rfl
        exact bodyPost_ret (v := DV x32 0) (by simp [results, Tryz.results17, go_sem, blk_cell B6.out, DV]) rfl ⟨x32, by rw [HE.out], hF.ext, BndP.ok HE.out (HC.out.keep hF.keep)⟩
      have hjn : ((j : Int) + 1 < P) := by omega
      have HN : Hid (B0 * bnd N j * ((((N : Int) + ((j : Int) + 1) : Int) : Rat) / (((j : Int) + 1 : Int) : Rat)) = B0 * bnd N (j + 1)) := Lib.hid (by
        show _ = B0 * (bnd N j * (((N : Int) + ((j : Int) + 1) : Int) : Rat) / (((j : Int) + 1 : Int) : Rat))
        rw [Rat.div_def, Rat.div_def]
        grind)
      have ZQ1 : Hid (Sz 2 ((((N : Int) + ((j : Int) + 1) : Int) : Rat) / (((j : Int) + 1 : Int) : Rat))) := Lib.hid ((Sz.int (by unfold W32; omega) : Sz 1 (((N : Int) + ((j : Int) + 1) : Int) : Rat)).div (Sz.int (by unfold W32; omega) : Sz 1 (((j : Int) + 1 : Int) : Rat)))
      go_upto_region 15 with fail
      refine wp_region_front 7 (fun opIx => match opIx with
        | 5 => .spec RH default RH.v (fun s w' => CanR w' s ((((N : Int) + ((j : Int) + 1) : Int) : Rat) / (((j : Int) + 1 : Int) : Rat)))
        | 6 => .spec RH default RH.v (fun s w' => CanR w' s (B0 * bnd N (j + 1)))
        | _ => .quiet) (fun | 6 => [5] | _ => []) (by kernel_rfl) (by kernel_rfl) (fun w0 he0 hz0 hc0 hf0 => ?_)
      replace he0 := Lib.hid he0
      simp only [List.take_succ_cons, List.take_zero]
      repeat (refine wpF_quiet rfl rfl rfl (fun K hK => ?_); go_big_quiet_op; refine hK _ ?_; clear hK K)
      refine wpF_spec rfl rfl (fun w1 hw1 hG => ?_) (fun x40 => ?_)
      · have hW := he0.out.trans hw1
        refine spec_call [.int .i64 ((N : Int) + ((j : Int) + 1)), .int .i64 ((j : Int) + 1)] rfl rfl Tryz.func52 (by kernel_rfl) (by kernel_rfl) ?_
        exact rfrac_any ((N : Int) + ((j : Int) + 1)) ((j : Int) + 1) _ (by omega) (by omega) (by omega) (by omega) (by omega)
      simp only [Act.put, List.setIfInBounds_toArray, List.set_cons_succ, List.set_cons_zero]
      repeat (refine wpF_quiet rfl rfl rfl (fun K hK => ?_); go_big_quiet_op; refine hK _ ?_; clear hK K)
      refine wpF_spec rfl rfl (fun w1 hw1 hG => ?_) (fun x41 => ?_)
      · have hW := he0.out.trans hw1
        obtain ⟨wa40, hwa40, g40⟩ : Since _ _ := hG 5 (by decide)
        replace g40 := g40.ext hwa40
        refine spec_call [f.v, x40.v] rfl rfl Tryz.func43 (by kernel_rfl) (by kernel_rfl) ?_
        exact (by rw [← HN.out]; exact rmul_any f x40 _ _ _ ((GF.out.ext hW).raw ZF.out (by decide)) (g40.raw ZQ1.out (by decide)))
      simp only [Act.put, List.setIfInBounds_toArray, List.set_cons_succ, List.set_cons_zero]
      repeat (refine wpF_quiet rfl rfl rfl (fun K hK => ?_); go_big_quiet_op; refine hK _ ?_; clear hK K)
      refine wpF_nil ?_
      intro w40 hI
      have hE := he0.out.trans hI.ext
      obtain ⟨wa40, hwa40, g40⟩ : Since _ _ := hI.facts 5
      have G40 := Lib.hid (g40.ext hwa40)
      clear g40 hwa40
      obtain ⟨wa41, hwa41, g41⟩ : Since _ _ := hI.facts 6
      have G41 := Lib.hid (g41.ext hwa41)
      clear g41 hwa41
      clear hI he0 hz0 hc0 hf0
      replace HX := Lib.hid (HX.out.trans hE)
      replace B4 := Lib.hid (hE.block B4.out)
      replace B6 := Lib.hid (hE.block B6.out)
      replace B11 := Lib.hid (hE.block B11.out)
      replace GF := Lib.hid (GF.out.ext hE)
      have hs_w40 := hE.size
      clear hE
      (try clear c_B4 f_B4 l_B4)
      have c_B4 := blk_cell B4.out
      have f_B4 := blk_frozen B4.out
      have l_B4 := (Array.getElem?_eq_some_iff.1 B4.out).1
      (try clear c_B6 f_B6 l_B6)
      have c_B6 := blk_cell B6.out
      have f_B6 := blk_frozen B6.out
      have l_B6 := (Array.getElem?_eq_some_iff.1 B6.out).1
      (try clear c_B11 f_B11 l_B11)
      have c_B11 := blk_cell B11.out
      have f_B11 := blk_frozen B11.out
      have l_B11 := (Array.getElem?_eq_some_iff.1 B11.out).1
      simp only [List.drop_succ_cons, List.drop_zero]
      go_upto_region 14 with fail
      refine nm_set3 B11.out rfl ?_
      intro y42 T
      replace HX := Lib.hid (T.ext HX.out (by omega))
      replace B4 := Lib.hid (T.rest _ _ (by omega) B4.out)
      replace B6 := Lib.hid (T.rest _ _ (by omega) B6.out)
      replace B11 := Lib.hid (T.bx)
      replace GF := Lib.hid (GF.out.keep T.keep)
      replace G40 := Lib.hid (G40.out.keep T.keep)
      replace G41 := Lib.hid (G41.out.keep T.keep)
      have hs_y42 := Nat.le_of_eq T.size
      have hr_y42 := Nat.le_of_eq T.size.symm
      clear T
      (try clear c_B4 f_B4 l_B4)
      have c_B4 := blk_cell B4.out
      have f_B4 := blk_frozen B4.out
      have l_B4 := (Array.getElem?_eq_some_iff.1 B4.out).1
      (try clear c_B6 f_B6 l_B6)
      have c_B6 := blk_cell B6.out
      have f_B6 := blk_frozen B6.out
      have l_B6 := (Array.getElem?_eq_some_iff.1 B6.out).1
      (try clear c_B11 f_B11 l_B11)
      have c_B11 := blk_cell B11.out
      have f_B11 := blk_frozen B11.out
      have l_B11 := (Array.getElem?_eq_some_iff.1 B11.out).1
      go_wp2
      go_roundg (gk - 1)
      case measure => omega
      case rel => exact ⟨j + 1, x41, by omega, by go_num, HX.out, B4.out, B6.out, B11.out, G41.out⟩
end Go.Proofs.YteafdebcihbjdaaGreat
