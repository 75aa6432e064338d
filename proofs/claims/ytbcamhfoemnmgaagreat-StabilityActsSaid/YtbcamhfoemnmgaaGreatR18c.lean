/- Inside of the reference 18. -/
import Derived.Test.YtbcamhfoemnmgaaGreatR18b
set_option linter.unusedVariables false
namespace Go.Proofs.YtbcamhfoemnmgaaGreat
open Go.RowKit Go.Front Go.Num
attribute [local go_sem] XW.cell XW.frozen
theorem rgx_getD (n i : Nat) (f : Nat → Rat) : ((List.range n).map f).getD i 0 = if i < n then f i else 0 := by
  by_cases h : i < n
  · rw [if_pos h]; simp [h]
  · rw [if_neg h]; simp [show n ≤ i by omega]
theorem tzx_ext {a b : List Rat} (h : ∀ i, a.getD i 0 = b.getD i 0) : tz a = tz b := by
  have hl : ∀ a b : List Rat, (∀ i, a.getD i 0 = b.getD i 0) → (tz a).length ≤ (tz b).length := by
    intro a b h
    rcases Nat.lt_or_ge (tz b).length (tz a).length with h1 | h1
    · exfalso
      obtain ⟨n, hn⟩ : ∃ n, (tz a).length = n + 1 := ⟨(tz a).length - 1, by omega⟩
      have h2 : (tz a).getD n 0 = 0 := by
        rw [tz_getD (by omega), h n, tz_out (by omega)]
      have h3 := tz_idem a
      have h4 : tz ((tz a).take (n + 1)) = tz ((tz a).take n) := tz_zero (by omega) h2
      rw [← hn, List.take_length, h3] at h4
      have h5 := tz_len_le ((tz a).take n)
      rw [← h4, List.length_take] at h5
      omega
    · exact h1
  apply Stab.getD_ext
  · exact Nat.le_antisymm (hl a b h) (hl b a (fun i => (h i).symm))
  · intro i _
    rw [tz_getD', tz_getD', h]
theorem inv_pow' (r : Rat) (i : Nat) : (r ^ i)⁻¹ = (1 / r) ^ i := by
  induction i with
  | zero => rw [Rat.pow_zero, Rat.pow_zero]; decide +kernel
  | succ i ih => rw [Rat.pow_succ, Rat.pow_succ, inv_mul', ih, Rat.div_def, Rat.one_mul]
def mvE (qs : List Rat) (r : Rat) (i : Nat) : Rat := qs.getD i 0 / r ^ i
theorem moved_tz (qs : List Rat) (r : Rat) : tz ((List.range qs.length).map (mvE qs r)) = tz (moved qs r) := by
  apply tzx_ext
  intro i
  unfold moved
  rw [rgx_getD, rgx_getD]
  unfold mvE
  rw [tz_getD', Rat.div_def, inv_pow']
  by_cases h1 : i < (tz qs).length
  · rw [if_pos h1, if_pos (Nat.lt_of_lt_of_le h1 (tz_len_le qs))]
  · rw [if_neg h1, tz_out (by omega), Rat.zero_mul]
    split <;> rfl
theorem wrongE_tz {a b : List Rat} (h : tz a = tz b) : wrongE a = wrongE b := by
  rw [wrongE_alt, wrongE_alt, ← tz_getD' a, ← tz_getD' b, h]
theorem reflV_tz {a b : List Rat} (h : tz a = tz b) : reflV a = reflV b := by
  unfold reflV
  rw [wrongE_tz h, h]
theorem stabV_tz {a b : List Rat} (h : tz a = tz b) : stabV a = stabV b := by
  unfold stabV
  rw [reflV_tz h]
theorem mv_sz {qs : List Rat} {r : Rat} {s t n : Nat} (h : SzL s qs) (hs : 1 ≤ s) (hr : Sz t r) (hn : n ≤ 49) : SzL (s + (t * 49 + 1)) ((List.range n).map (mvE qs r)) := by
  intro q hq
  obtain ⟨i, hi, rfl⟩ := List.mem_map.1 hq
  have hi' := List.mem_range.1 hi
  unfold mvE
  refine ((h.getD hs i).div (hr.pow i)).mono ?_
  have := Nat.mul_le_mul_left t (show i ≤ 49 by omega)
  omega
set_option maxRecDepth 8000 in
set_option maxHeartbeats 4000000 in
theorem inside18_any (ao : Option Addr) (n cap : Nat) (qs : List Rat) (t : RH) (r : Rat) (w : World) (h : RawL w ⟨ao, n, cap⟩ qs) (hr : RawR w t r) (hn : n ≤ 49) (hz : SzL 65536 qs) (hzr : Sz 32768 r)
    (hok : 0 < r → wrongE qs = 0 → wrongE (moved qs r) = 0 → RefOk ((tz (moved qs r)).length - 1) (norm (tz (moved qs r)))) :
    Does 39 [.slice ao n cap, t.v] w (fun _ : Unit => BF (insV qs r)) (fun _ _ => True) := by
  obtain ⟨tneg, ta, tn, tc, tb, tm, td⟩ := t
  have H := Lib.hid h
  have HR := Lib.hid hr
  have HX := Lib.hid (Ext.refl w)
  have Hlen := Lib.hid h.len
  have hle := h.le
  have hmx := h.max
  simp only at hle hmx Hlen
  have HZ := Lib.hid hz
  have ZR := Lib.hid hzr
  have HO := Lib.hid hok
  have HLe := Lib.hid (cmpR_le0 r)
  obtain ⟨cc, hcc⟩ : ∃ cc, cc = cmpR r 0 := ⟨_, rfl⟩
  rw [← hcc] at HLe
  have Hcc := Lib.hid hcc
  clear h hr hz hzr hok hcc
  unfold Does
  go_enter Tryz.func39, Tryz.ntmps39
  go_upto_region 1 with fail
  refine nm_alloc ?_
  intro w1 hE hB0 hz
  have hz_w1 := Nat.le_of_eq hz
  have hr_w1 := Nat.le_of_eq hz.symm
  clear hz
  replace HX := Lib.hid (HX.out.trans hE)
  have hs_w1 := hE.size
  clear hE
  have B3 := Lib.hid hB0
  clear hB0
  have c_B3 := blk_cell B3.out
  have f_B3 := blk_frozen B3.out
  have l_B3 := (Array.getElem?_eq_some_iff.1 B3.out).1
  obtain ⟨b3, hb3⟩ : ∃ b3, b3 = w.heap.size := ⟨_, rfl⟩
  have hb3w : w.heap.size ≤ b3 := by omega
  have hb3l := l_B3
  rw [← hb3] at B3 hb3l ⊢
  clear hb3 c_B3 f_B3 l_B3
  (try clear c_B3 f_B3 l_B3)
  have c_B3 := blk_cell B3.out
  have f_B3 := blk_frozen B3.out
  have l_B3 := (Array.getElem?_eq_some_iff.1 B3.out).1
  go_wp2_with fail
  refine Calls.mono (rsign3_any ⟨tneg, ta, tn, tc, tb, tm, td⟩ r _ (HR.out.ext HX.out)) ?_
  rintro e w2 ⟨x2, rfl, hE, -⟩
  replace HX := Lib.hid (HX.out.trans hE)
  replace B3 := Lib.hid (hE.block B3.out)
  have hs_w2 := hE.size
  clear hE
  (try clear c_B3 f_B3 l_B3)
  have c_B3 := blk_cell B3.out
  have f_B3 := blk_frozen B3.out
  have l_B3 := (Array.getElem?_eq_some_iff.1 B3.out).1
  rw [← Hcc.out]
  by_cases h1 : cc ≤ 0
  case pos =>
    have HV : Hid (insV qs r = (false, 1)) := Lib.hid (by unfold insV; rw [if_pos (HLe.out.1 h1)])
    go_wp2
    exact bodyPost_ret (v := BF (false, 1)) (by simp [results, Tryz.results39, go_sem, BF]) rfl ⟨(), by rw [HV.out], HX.out, trivial⟩
  have hr0 : ¬ r ≤ 0 := fun h => h1 (HLe.out.2 h)
  have Hr0 : Hid (0 < r) := Lib.hid (Rat.not_le.1 hr0)
  have HV0 : Hid (insV qs r = if wrongE qs ≠ 0 then (false, wrongE qs) else stabV (moved qs r)) := Lib.hid (by unfold insV; rw [if_neg hr0])
  clear hr0
  go_wp2_with fail
  refine Calls.mono (check18_any ao n cap qs _ (H.out.ext HX.out) (by omega) (HZ.out.mono (by decide))) ?_
  rintro e w3 ⟨x3, rfl, hE, -⟩
  replace HX := Lib.hid (HX.out.trans hE)
  replace B3 := Lib.hid (hE.block B3.out)
  have hs_w3 := hE.size
  clear hE
  (try clear c_B3 f_B3 l_B3)
  have c_B3 := blk_cell B3.out
  have f_B3 := blk_frozen B3.out
  have l_B3 := (Array.getElem?_eq_some_iff.1 B3.out).1
  obtain ⟨e, he⟩ : ∃ e, e = wrongE qs := ⟨_, rfl⟩
  rw [← he]
  rw [← he] at HV0
  have He := Lib.hid he
  clear he
  by_cases h0 : e = 0
  case neg =>
    have hb : (e == 0) = false := by simpa using h0
    rw [if_pos h0] at HV0
    go_wp2
    exact bodyPost_ret (v := BF (false, e)) (by simp [results, Tryz.results39, go_sem, BF]) rfl ⟨(), by rw [HV0.out], HX.out, trivial⟩
  subst h0
  obtain ⟨bq, hbq⟩ : ∃ bq, bq = (List.range n).map (mvE qs r) := ⟨_, rfl⟩
  have HT : Hid (tz bq = tz (moved qs r)) := Lib.hid (by rw [hbq, ← Hlen.out]; exact moved_tz qs r)
  have HV : Hid (insV qs r = stabV bq) := Lib.hid (by rw [HV0.out, if_neg (by simp)]; exact (stabV_tz HT.out).symm)
  have ZB : Hid (SzL 2097152 bq) := Lib.hid (by rw [hbq]; exact (mv_sz HZ.out (by decide) ZR.out hn).mono (by decide))
  have HOb : Hid (wrongE bq = 0 → RefOk ((tz bq).length - 1) (norm (tz bq))) := Lib.hid (fun h => by rw [HT.out]; exact HO.out Hr0.out He.out.symm (by rw [← wrongE_tz HT.out]; exact h))
  have Hbl : Hid (bq.length = n) := Lib.hid (by rw [hbq]; simp)
  have Hbq := Lib.hid hbq
  clear hbq HV0 HT HO He
  go_wp2_with fail
  refine Calls.mono (rof3_any 1 _ (by decide) (by decide)) ?_
  rintro e w4 ⟨x4, rfl, hE, g4⟩
  have G4 := Lib.hid g4
  clear g4
  replace HX := Lib.hid (HX.out.trans hE)
  replace B3 := Lib.hid (hE.block B3.out)
  have hs_w4 := hE.size
  clear hE
  (try clear c_B3 f_B3 l_B3)
  have c_B3 := blk_cell B3.out
  have f_B3 := blk_frozen B3.out
  have l_B3 := (Array.getElem?_eq_some_iff.1 B3.out).1
  go_upto_region 8 with fail
  refine nm_alloc ?_
  intro y5 hE hB0 hz
  have hz_y5 := Nat.le_of_eq hz
  have hr_y5 := Nat.le_of_eq hz.symm
  clear hz
  replace HX := Lib.hid (HX.out.trans hE)
  replace B3 := Lib.hid (hE.block B3.out)
  replace G4 := Lib.hid (G4.out.ext hE)
  have hs_y5 := hE.size
  clear hE
  (try clear c_B3 f_B3 l_B3)
  have c_B3 := blk_cell B3.out
  have f_B3 := blk_frozen B3.out
  have l_B3 := (Array.getElem?_eq_some_iff.1 B3.out).1
  have B8 := Lib.hid hB0
  clear hB0
  have c_B8 := blk_cell B8.out
  have f_B8 := blk_frozen B8.out
  have l_B8 := (Array.getElem?_eq_some_iff.1 B8.out).1
  obtain ⟨b8, hb8⟩ : ∃ b8, b8 = w4.heap.size := ⟨_, rfl⟩
  have hb8w : w.heap.size ≤ b8 := by omega
  have hb8l := l_B8
  rw [← hb8] at B8 hb8l ⊢
  have hb38 : b3 < b8 := by omega
  clear hb8 c_B8 f_B8 l_B8
  have HWy := HX.out.size
  have hb3y : b3 < y5.heap.size := by omega
  have G0 : Hid (CanR y5 x4 (r ^ 0)) := Lib.hid (by rw [Rat.pow_zero]; exact G4.out)
  go_wp2
  go_loopg [7, 22] n (fun g u z wr => ∃ (i : Nat) (x : SH) (f : RH), u = x.v ∧ i + g = n ∧ z = .int .i64 (i : Nat) ∧ Ext w wr ∧ y5.heap.size ≤ wr.heap.size ∧ wr.heap[b3]? = some (.cells #[.bool tneg, .slice ta tn tc, .slice tb tm td] 30 (0, 0)) ∧ wr.heap[b8]? = some (.cells #[.bool f.neg, .slice f.a f.n f.c, .slice f.b f.m f.d] 30 (0, 0)) ∧ CanR wr f (r ^ i) ∧ OwnQ wr (y5.heap.size ≤ ·) x.v ((List.range i).map (mvE qs r)))
  case atStart => exact ⟨0, ⟨none, 0, 0⟩, x4, rfl, by omega, rfl, HX.out, Nat.le_refl _, B3.out, B8.out, G0.out, OwnQ.nil _ _⟩
  case round =>
    obtain ⟨i, ⟨xa, xn, xc⟩, f, rfl, hi, rfl, g1, hyr, g2, g3, g4, g5⟩ := hrel
    clear HX B3 B8 G4 G0
    have HX := Lib.hid g1
    have B3 := Lib.hid g2
    have B8 := Lib.hid g3
    have GF := Lib.hid g4
    have HOw := Lib.hid g5
    clear g1 g2 g3 g4 g5
    simp only [SH.v]
    (try clear c_B3 f_B3 l_B3)
    have c_B3 := blk_cell B3.out
    have f_B3 := blk_frozen B3.out
    have l_B3 := (Array.getElem?_eq_some_iff.1 B3.out).1
    (try clear c_B8 f_B8 l_B8)
    have c_B8 := blk_cell B8.out
    have f_B8 := blk_frozen B8.out
    have l_B8 := (Array.getElem?_eq_some_iff.1 B8.out).1
    by_cases h2 : gk = 0
    case pos =>
      subst h2
      obtain rfl : i = n := by omega
      have hin : ¬ (i : Int) < i := by omega
      have LB : Hid (CanL wr ⟨xa, xn, xc⟩ bq) := Lib.hid (by rw [Hbq.out]; exact OwnQ.can (s := ⟨xa, xn, xc⟩) HOw.out)
      have hxn := LB.out.len
      rw [Hbl.out] at hxn
      simp only at hxn
      subst hxn
      go_wp2_with fail
      refine Calls.mono (stable18_any xa i xc bq _ (LB.out.raw ZB.out (by decide)) (by omega) ZB.out HOb.out) ?_
      rintro e w20 ⟨x20, rfl, hE, -⟩
      replace HX := Lib.hid (HX.out.trans hE)
      replace B3 := Lib.hid (hE.block B3.out)
      replace B8 := Lib.hid (hE.block B8.out)
      replace GF := Lib.hid (GF.out.ext hE)
      replace HOw := Lib.hid (HOw.out.ext hE)
      have hs_w20 := hE.size
      clear hE
      (try clear c_B3 f_B3 l_B3)
      have c_B3 := blk_cell B3.out
      have f_B3 := blk_frozen B3.out
      have l_B3 := (Array.getElem?_eq_some_iff.1 B3.out).1
      (try clear c_B8 f_B8 l_B8)
      have c_B8 := blk_cell B8.out
      have f_B8 := blk_frozen B8.out
      have l_B8 := (Array.getElem?_eq_some_iff.1 B8.out).1
      rw [← HV.out]
      obtain ⟨bb, hbb⟩ : ∃ bb, bb = insV qs r := ⟨_, rfl⟩
      have Hbb := Lib.hid hbb
      rw [← hbb]
      clear hbb
      obtain ⟨bb1, bb2⟩ := bb
      simp only [BF]
      go_wp2
      exact bodyPost_ret (v := BF (bb1, bb2)) (by simp [results, Tryz.results39, go_sem, BF]) rfl ⟨(), by rw [← Hbb.out], HX.out, trivial⟩
    have hin : (i : Int) < n := by omega
    have ZI := Lib.hid (HZ.out.getD (by decide) i)
    have ZF : Hid (Sz 1605633 (r ^ i)) := Lib.hid ((ZR.out.pow i).mono (by have := Nat.mul_le_mul_left 32768 (show i ≤ 49 by omega); omega))
    have HNx : Hid ((List.range (i + 1)).map (mvE qs r) = (List.range i).map (mvE qs r) ++ [qs.getD i 0 / r ^ i]) := Lib.hid (by rw [range_snoc']; rfl)
    have HLn : Hid (((List.range i).map (mvE qs r)).length ≤ 1073741824) := Lib.hid (by rw [List.length_map, List.length_range]; omega)
    obtain ⟨b, off, q, hao, hbl, ⟨hc1, hc2, hc3⟩, hP⟩ := (H.out.ext HX.out).cells' (k := i) (by omega)
    obtain ⟨rneg, ra, rn, rc, rb, rm, rd⟩ := q
    simp only at hc1 hc2 hc3
    have RP := Lib.hid hP
    clear hP
    subst hao
    go_upto_region 11 with fail
    refine nm_alloc ?_
    intro y6 hE hB0 hz
    have hz_y6 := Nat.le_of_eq hz
    have hr_y6 := Nat.le_of_eq hz.symm
    clear hz
    replace HX := Lib.hid (HX.out.trans hE)
    replace B3 := Lib.hid (hE.block B3.out)
    replace B8 := Lib.hid (hE.block B8.out)
    replace GF := Lib.hid (GF.out.ext hE)
    replace HOw := Lib.hid (HOw.out.ext hE)
    replace RP := Lib.hid (RP.out.ext hE)
    have hs_y6 := hE.size
    clear hE
    (try clear c_B3 f_B3 l_B3)
    have c_B3 := blk_cell B3.out
    have f_B3 := blk_frozen B3.out
    have l_B3 := (Array.getElem?_eq_some_iff.1 B3.out).1
    (try clear c_B8 f_B8 l_B8)
    have c_B8 := blk_cell B8.out
    have f_B8 := blk_frozen B8.out
    have l_B8 := (Array.getElem?_eq_some_iff.1 B8.out).1
    have B10 := Lib.hid hB0
    clear hB0
    have c_B10 := blk_cell B10.out
    have f_B10 := blk_frozen B10.out
    have l_B10 := (Array.getElem?_eq_some_iff.1 B10.out).1
    clear hc1 hc2 hc3 hbl
    go_wp2_with fail
    refine Calls.mono (rover3_any ⟨rneg, ra, rn, rc, rb, rm, rd⟩ f _ _ _ RP.out (GF.out.raw ZF.out (by decide))) ?_
    rintro e w7 ⟨x7, rfl, hE, g7⟩
    have G7 := Lib.hid g7
    clear g7
    replace HX := Lib.hid (HX.out.trans hE)
    replace B3 := Lib.hid (hE.block B3.out)
    replace B8 := Lib.hid (hE.block B8.out)
    replace GF := Lib.hid (GF.out.ext hE)
    replace HOw := Lib.hid (HOw.out.ext hE)
    replace RP := Lib.hid (RP.out.ext hE)
    replace B10 := Lib.hid (hE.block B10.out)
    have hs_w7 := hE.size
    clear hE
    (try clear c_B3 f_B3 l_B3)
    have c_B3 := blk_cell B3.out
    have f_B3 := blk_frozen B3.out
    have l_B3 := (Array.getElem?_eq_some_iff.1 B3.out).1
    (try clear c_B8 f_B8 l_B8)
    have c_B8 := blk_cell B8.out
    have f_B8 := blk_frozen B8.out
    have l_B8 := (Array.getElem?_eq_some_iff.1 B8.out).1
    (try clear c_B10 f_B10 l_B10)
    have c_B10 := blk_cell B10.out
    have f_B10 := blk_frozen B10.out
    have l_B10 := (Array.getElem?_eq_some_iff.1 B10.out).1
    go_upto_region 12 with (at_builtin; refine wpList_append_n rfl (.tmp 26) (.tmp 30) 33 Tryz.underlying33 rfl (y5.heap.size ≤ ·) _ _ x7 _ rfl HOw.out rfl G7.out HLn.out (fun k hk => by omega) ?_; intro s' y8 q1 q2 q3)
    have HX3 := Lib.hid (Ext.mods HX.out q2 (fun k h => Nat.le_trans HWy h))
    have C3 := Lib.hid (q2.blk (Nat.not_le.2 hb3y) B3.out)
    have C8 := Lib.hid (q2.blk (Nat.not_le.2 hb8l) B8.out)
    have GF3 := Lib.hid (GF.out.keep q3)
    have HO3 : Hid (OwnQ y8 (y5.heap.size ≤ ·) s'.v ((List.range (i + 1)).map (mvE qs r))) := Lib.hid (by rw [HNx.out]; exact q1)
    have hs8 := q2.size
    clear HX
    (try clear c_B3 f_B3 l_B3); clear B3
    (try clear c_B8 f_B8 l_B8); clear B8
    clear GF
    clear HOw
    clear RP
    (try clear c_B10 f_B10 l_B10); clear B10
    clear G7
    clear q1 q2 q3
    (try clear c_C3 f_C3 l_C3)
    have c_C3 := blk_cell C3.out
    have f_C3 := blk_frozen C3.out
    have l_C3 := (Array.getElem?_eq_some_iff.1 C3.out).1
    (try clear c_C8 f_C8 l_C8)
    have c_C8 := blk_cell C8.out
    have f_C8 := blk_frozen C8.out
    have l_C8 := (Array.getElem?_eq_some_iff.1 C8.out).1
    go_wp2_with fail
    refine Calls.mono (rmul3_any f ⟨tneg, ta, tn, tc, tb, tm, td⟩ _ _ _ (GF3.out.raw ZF.out (by decide)) (HR.out.ext HX3.out)) ?_
    rintro e w9 ⟨x9, rfl, hE, g9⟩
    have G9 := Lib.hid g9
    clear g9
    replace HX3 := Lib.hid (HX3.out.trans hE)
    replace C3 := Lib.hid (hE.block C3.out)
    replace C8 := Lib.hid (hE.block C8.out)
    replace GF3 := Lib.hid (GF3.out.ext hE)
    replace HO3 := Lib.hid (HO3.out.ext hE)
    have hs_w9 := hE.size
    clear hE
    (try clear c_C3 f_C3 l_C3)
    have c_C3 := blk_cell C3.out
    have f_C3 := blk_frozen C3.out
    have l_C3 := (Array.getElem?_eq_some_iff.1 C3.out).1
    (try clear c_C8 f_C8 l_C8)
    have c_C8 := blk_cell C8.out
    have f_C8 := blk_frozen C8.out
    have l_C8 := (Array.getElem?_eq_some_iff.1 C8.out).1
    go_upto_region 13 with fail
    refine nm_set3 C8.out rfl ?_
    intro y10 T
    replace HX3 := Lib.hid (T.ext HX3.out (by omega))
    replace C3 := Lib.hid (T.rest _ _ (by omega) C3.out)
    replace C8 := Lib.hid (T.bx)
    replace GF3 := Lib.hid (GF3.out.keep T.keep)
    replace HO3 := Lib.hid (HO3.out.put T (by intro h; (try dsimp only at h); omega))
    replace G9 := Lib.hid (G9.out.keep T.keep)
    have hs_y10 := Nat.le_of_eq T.size
    have hr_y10 := Nat.le_of_eq T.size.symm
    clear T
    (try clear c_C3 f_C3 l_C3)
    have c_C3 := blk_cell C3.out
    have f_C3 := blk_frozen C3.out
    have l_C3 := (Array.getElem?_eq_some_iff.1 C3.out).1
    (try clear c_C8 f_C8 l_C8)
    have c_C8 := blk_cell C8.out
    have f_C8 := blk_frozen C8.out
    have l_C8 := (Array.getElem?_eq_some_iff.1 C8.out).1
    have GN : Hid (CanR y10 x9 (r ^ (i + 1))) := Lib.hid (by rw [Rat.pow_succ]; exact G9.out)
    go_wp2
    go_roundg (gk - 1)
    case measure => omega
    case rel => exact ⟨i + 1, s', x9, rfl, by omega, by go_num, HX3.out, by omega, C3.out, C8.out, GN.out, HO3.out⟩
end Go.Proofs.YtbcamhfoemnmgaaGreat
