/- Degree, Scale, Sub of the reference 05. -/
import Derived.Test.YteafdebcihbjdaaGreatM11
import Derived.Test.YteafdebcihbjdaaGreatM7
set_option linter.unusedVariables false
namespace Go.Proofs.YteafdebcihbjdaaGreat
open Go.RowKit Go.Front Go.Num
attribute [local go_sem] XW.cell XW.frozen
def scale5V (ps : List Rat) (c : Rat) : List Rat := tz (ps.map (· * c))
theorem Mods.blk' {D : Nat → Prop} {w w' : World} (h : Mods D w w') {b : Nat} {o : Obj} (hb : ¬ D b) (hv : w.heap[b]? = some o) : w'.heap[b]? = some o := by
  have hl : b < w.heap.size := (Array.getElem?_eq_some_iff.1 hv).1
  rw [h.block b hl hb]
  exact hv
set_option maxRecDepth 4000 in
set_option maxHeartbeats 1000000 in
theorem scale5_any (ao : Option Addr) (n cap : Nat) (ps : List Rat) (t : RH) (c : Rat) (w : World) (h : RawL w ⟨ao, n, cap⟩ ps) (ht : RawR w t c) (hn : n ≤ 1073741823) (hz : SzL 8388608 ps) (hzc : Sz 8388608 c) :
    Does 15 [.slice ao n cap, t.v] w SH.v (fun s w' => NewL w.heap.size w' s (scale5V ps c)) := by
  obtain ⟨tn, ta, tl, tc, tb, tm, td⟩ := t
  have H := Lib.hid h
  have HR := Lib.hid ht
  have HX := Lib.hid (Ext.refl w)
  have hle := h.le
  have hmx := h.max
  have Hlen := Lib.hid h.len
  simp only at hle hmx Hlen
  have HZ := Lib.hid hz
  have HZc := Lib.hid hzc
  clear h ht hz hzc
  unfold Does
  go_enter Tryz.func15, Tryz.ntmps15
  go_upto_region 1 with fail
  refine nm_alloc ?_
  intro w1 hE hB0 hz
  have hz_w1 := Nat.le_of_eq hz
  have hr_w1 := Nat.le_of_eq hz.symm
  clear hz
  replace HX := Lib.hid (HX.out.trans hE)
  replace HR := Lib.hid (HR.out.ext hE)
  have hs_w1 := hE.size
  clear hE
  have B3 := Lib.hid hB0
  clear hB0
  have c_B3 := blk_cell B3.out
  have f_B3 := blk_frozen B3.out
  have l_B3 := (Array.getElem?_eq_some_iff.1 B3.out).1
  obtain ⟨b3, hb3⟩ : ∃ b3, b3 = w.heap.size := ⟨_, rfl⟩
  have hb3w : w.heap.size ≤ b3 := by omega
  have hb31 : b3 < w1.heap.size := by omega
  rw [← hb3] at B3 ⊢
  clear hb3 c_B3 f_B3 l_B3
  go_wp2
  go_loopg [5, 10] n (fun g v i wr => ∃ (j : Nat) (s : SH), v = s.v ∧ j + g = n ∧ i = .int .i64 (j : Nat) ∧ Ext w wr ∧ w1.heap.size ≤ wr.heap.size ∧ RawR wr ⟨tn, ta, tl, tc, tb, tm, td⟩ c ∧ wr.heap[b3]? = some (.cells #[.bool tn, .slice ta tl tc, .slice tb tm td] 30 (0, 0)) ∧ OwnQ wr (w1.heap.size ≤ ·) s.v ((ps.take j).map (· * c)))
  case atStart => exact ⟨0, ⟨none, 0, 0⟩, rfl, by omega, rfl, HX.out, Nat.le_refl _, HR.out, B3.out, OwnQ.nil _ _⟩
  case round =>
    obtain ⟨j, ⟨sa, sn, sc⟩, rfl, hj, rfl, g1, hsz1, g2, g3, g4⟩ := hrel
    clear HX HR B3
    have HX := Lib.hid g1
    have HR := Lib.hid g2
    have B3 := Lib.hid g3
    have HO := Lib.hid g4
    have hsz := g1.size
    clear g1 g2 g3 g4
    simp only [SH.v]
    (try clear c_B3 f_B3 l_B3)
    have c_B3 := blk_cell B3.out
    have f_B3 := blk_frozen B3.out
    have l_B3 := (Array.getElem?_eq_some_iff.1 B3.out).1
    have hb3r := l_B3
    by_cases h0 : gk = 0
    case pos =>
      subst h0
      obtain rfl : j = n := by omega
      have HE : Hid (ps.take j = ps) := Lib.hid (List.take_of_length_le (by rw [Hlen.out]; exact Nat.le_refl _))
      rw [HE.out] at HO
      have hsn := OwnQ.len (s := ⟨sa, sn, sc⟩) HO.out
      rw [List.length_map, Hlen.out] at hsn
      simp only at hsn
      subst hsn
      have HSz : Hid (SzL 16777216 (ps.map (· * c))) := Lib.hid (by
        intro q hq
        obtain ⟨y, hy, rfl⟩ := List.mem_map.1 hq
        exact ((HZ.out y hy).mul HZc.out).mono (by decide))
      go_wp2_with fail
      refine Calls.mono (trim5_any sa j sc _ _ ((OwnQ.can (s := ⟨sa, j, sc⟩) HO.out).raw HSz.out (by decide)) (by omega)) ?_
      rintro e w20 ⟨x20, rfl, hE, g20⟩
      have G20 := Lib.hid g20
      clear g20
      replace HX := Lib.hid (HX.out.trans hE)
      replace HR := Lib.hid (HR.out.ext hE)
      replace HO := Lib.hid (HO.out.ext hE)
      replace B3 := Lib.hid (hE.block B3.out)
      have hs_w20 := hE.size
      clear hE
      (try clear c_B3 f_B3 l_B3)
      have c_B3 := blk_cell B3.out
      have f_B3 := blk_frozen B3.out
      have l_B3 := (Array.getElem?_eq_some_iff.1 B3.out).1
      go_wp2
      go_ret
      exact ⟨x20, rfl, HX.out, G20.out.mono hsz⟩
    have hjn : (j : Int) < n := by omega
    obtain ⟨b, off, r, hao, hbl, ⟨hc1, hc2, hc3⟩, hP⟩ := (H.out.ext HX.out).cells' (k := j) (by omega)
    obtain ⟨rneg, ra, rn, rc, rb, rm, rd⟩ := r
    simp only at hc1 hc2 hc3
    subst hao
    have RP := Lib.hid hP
    clear hP
    have HNx : Hid ((ps.take (j + 1)).map (· * c) = (ps.take j).map (· * c) ++ [ps.getD j 0 * c]) := Lib.hid (by rw [← take_snoc (by rw [Hlen.out]; omega), List.map_append]; rfl)
    have HLn : Hid (((ps.take j).map (· * c)).length ≤ 1073741824) := Lib.hid (by rw [List.length_map, List.length_take]; omega)
    go_upto_region 5 with fail
    refine nm_alloc ?_
    intro y1 hE hB0 hz
    have hz_y1 := Nat.le_of_eq hz
    have hr_y1 := Nat.le_of_eq hz.symm
    clear hz
    replace HX := Lib.hid (HX.out.trans hE)
    replace HR := Lib.hid (HR.out.ext hE)
    replace HO := Lib.hid (HO.out.ext hE)
    replace B3 := Lib.hid (hE.block B3.out)
    replace RP := Lib.hid (RP.out.ext hE)
    have hs_y1 := hE.size
    clear hE
    (try clear c_B3 f_B3 l_B3)
    have c_B3 := blk_cell B3.out
    have f_B3 := blk_frozen B3.out
    have l_B3 := (Array.getElem?_eq_some_iff.1 B3.out).1
    have B7 := Lib.hid hB0
    clear hB0
    have c_B7 := blk_cell B7.out
    have f_B7 := blk_frozen B7.out
    have l_B7 := (Array.getElem?_eq_some_iff.1 B7.out).1
    go_wp2_with fail
    refine Calls.mono (rmul3_any ⟨rneg, ra, rn, rc, rb, rm, rd⟩ ⟨tn, ta, tl, tc, tb, tm, td⟩ _ c _ RP.out HR.out) ?_
    rintro e w2 ⟨x2, rfl, hE, g2⟩
    have G2 := Lib.hid g2
    clear g2
    replace HX := Lib.hid (HX.out.trans hE)
    replace HR := Lib.hid (HR.out.ext hE)
    replace HO := Lib.hid (HO.out.ext hE)
    replace B3 := Lib.hid (hE.block B3.out)
    replace RP := Lib.hid (RP.out.ext hE)
    replace B7 := Lib.hid (hE.block B7.out)
    have hs_w2 := hE.size
    clear hE
    (try clear c_B3 f_B3 l_B3)
    have c_B3 := blk_cell B3.out
    have f_B3 := blk_frozen B3.out
    have l_B3 := (Array.getElem?_eq_some_iff.1 B3.out).1
    (try clear c_B7 f_B7 l_B7)
    have c_B7 := blk_cell B7.out
    have f_B7 := blk_frozen B7.out
    have l_B7 := (Array.getElem?_eq_some_iff.1 B7.out).1
    go_wp2_with (at_builtin; refine wpList_append_n rfl (.tmp 14) (.tmp 18) 42 Tryz.underlying42 rfl (w1.heap.size ≤ ·) _ _ x2 _ rfl HO.out rfl G2.out HLn.out (fun k hk => by omega) ?_; intro s' y3 q1 q2 q3)
    have HX3 := Lib.hid (Ext.mods HX.out q2 (fun k h => by omega))
    have HO3 : Hid (OwnQ y3 (w1.heap.size ≤ ·) s'.v ((ps.take (j + 1)).map (· * c))) := Lib.hid (by rw [HNx.out]; exact q1)
    have HR3 := Lib.hid (HR.out.keep q3)
    have B33 := Lib.hid (Mods.blk' q2 (by omega) B3.out)
    have hsz3 := q2.size
    clear q1 q2 q3
    go_wp2
    go_roundg (gk - 1)
    case measure => omega
    case rel => exact ⟨j + 1, s', rfl, by omega, by go_num, HX3.out, by omega, HR3.out, B33.out, HO3.out⟩
def sub5V (ps qs : List Rat) : List Rat := add5V ps (scale5V qs ((-1 : Int) : Rat))
theorem scale5_sz {s t : Nat} {l : List Rat} {c : Rat} (h : SzL s l) (hc : Sz t c) : SzL (s + t) (scale5V l c) := by
  unfold scale5V
  refine SzL.tz ?_
  intro q hq
  obtain ⟨y, hy, rfl⟩ := List.mem_map.1 hq
  exact (h y hy).mul hc
theorem scale5_len (l : List Rat) (c : Rat) : (scale5V l c).length ≤ l.length := by
  unfold scale5V
  refine Nat.le_trans (tz_len_le _) ?_
  simp
theorem neg1_sz : Sz 1 ((-1 : Int) : Rat) := Sz.int (by decide)
end Go.Proofs.YteafdebcihbjdaaGreat
