/- Frac, Taps -/
import Derived.Test.YtbcamhfoemnmgaaGreatM3
import Derived.Test.YtbcamhfoemnmgaaGreatM14
set_option linter.unusedVariables false
/- Frac of package rational. -/
namespace Go.Proofs.YtbcamhfoemnmgaaGreat
open Go.RowKit Go.Front Go.Num
attribute [local go_sem] XW.cell XW.frozen
theorem frac_eq (a b : Int) : (a : Rat) / (b : Rat) = mkRat (sg (decide (a < 0) != decide (b < 0)) a.natAbs) b.natAbs := by
  by_cases h : b < 0
  · have h1 : sg (decide (a < 0) != decide (b < 0)) a.natAbs = -a := by
      rw [decide_eq_true h]
      unfold sg
      by_cases ha : a < 0
      · rw [decide_eq_true ha]; simp; omega
      · rw [decide_eq_false ha]; simp; omega
    have h2 : ((b.natAbs : Nat) : Int) = -b := by omega
    rw [h1, Rat.mkRat_eq_div]
    rw [show ((b.natAbs : Nat) : Rat) = (((b.natAbs : Nat) : Int) : Rat) from rfl, h2, Rat.intCast_neg, Rat.intCast_neg, Rat.div_def, Rat.div_def]
    have hb : (b : Rat) ≠ 0 := by intro h0; have := Rat.intCast_eq_zero_iff.1 h0; omega
    have hb2 : -(b : Rat) ≠ 0 := by intro h0; apply hb; grind
    have p1 := Rat.mul_inv_cancel _ hb
    have p2 := Rat.mul_inv_cancel _ hb2
    grind
  · have h1 : sg (decide (a < 0) != decide (b < 0)) a.natAbs = a := by
      rw [decide_eq_false h]
      unfold sg
      by_cases ha : a < 0
      · rw [decide_eq_true ha]; simp; omega
      · rw [decide_eq_false ha]; simp; omega
    have h2 : ((b.natAbs : Nat) : Int) = b := by omega
    rw [h1, Rat.mkRat_eq_div]
    rw [show ((b.natAbs : Nat) : Rat) = (((b.natAbs : Nat) : Int) : Rat) from rfl, h2]
set_option maxRecDepth 4000 in
set_option maxHeartbeats 1000000 in
theorem rfrac_any (n d : Int) (w : World) (h1 : -9223372036854775808 ≤ n) (h2 : n ≤ 9223372036854775807) (k1 : -9223372036854775808 ≤ d) (k2 : d ≤ 9223372036854775807) (hd : d ≠ 0) : Does 91 [.int .i64 n, .int .i64 d] w RH.v (fun r w' => CanR w' r ((n : Rat) / (d : Rat))) := by
  have hdb : (d == 0) = false := by simpa using hd
  have HQ := Lib.hid (frac_eq n d)
  have HD : Hid (d.natAbs ≠ 0) := Lib.hid (by omega)
  have HN1 : Hid (n.natAbs < W32 ^ 2) := Lib.hid (by unfold W32; omega)
  have HD1 : Hid (d.natAbs < W32 ^ 2) := Lib.hid (by unfold W32; omega)
  unfold Does
  go_enter Tryz.func91, Tryz.ntmps91
  go_wp2_with fail
  refine Calls.mono (iof_any n _ h1 h2) ?_
  rintro e w1 ⟨x1, rfl, hE, g1⟩
  have G1 := Lib.hid g1
  clear g1
  obtain ⟨hcw, hfw⟩ := bcellE hE
  have hsw := hE.size
  (try simp only [World.size_alloc] at hsw)
  have hs0 : w.heap.size < w1.heap.size := by omega
  have hB := hE.block (heap_alloc_new _ _)
  have HB : Hid (w1.heap[w.heap.size]? = some _) := Lib.hid hB
  clear hB
  have E1 := Lib.hid ((Ext.al1).trans hE)
  have X1 := Lib.hid hE
  clear hE
  go_wp2_with fail
  refine Calls.mono (iof_any d _ k1 k2) ?_
  rintro e w2 ⟨x2, rfl, hE, g2⟩
  have G2 := Lib.hid g2
  clear g2
  obtain ⟨hcw, hfw⟩ := bcellE hE
  have hsw := hE.size
  (try simp only [World.size_alloc] at hsw)
  have hs0 : w.heap.size < w2.heap.size := by omega
  replace HB := Lib.hid (hE.block HB.out)
  have cR := blk_cell HB.out
  have fR := blk_frozen HB.out
  have E2 := Lib.hid ((E1.out).trans hE)
  have X2 := Lib.hid hE
  clear hE
  go_wp2_with fail
  refine Calls.mono (quotient_any x1 x2 _) ?_
  rintro e w3 ⟨x3, rfl, hE, g3⟩
  have G3 := Lib.hid g3
  clear g3
  obtain ⟨hcw, hfw⟩ := bcellE hE
  have hsw := hE.size
  (try simp only [World.size_alloc] at hsw)
  have hs0 : w.heap.size < w3.heap.size := by omega
  replace HB := Lib.hid (hE.block HB.out)
  have cR := blk_cell HB.out
  have fR := blk_frozen HB.out
  have E3 := Lib.hid ((E2.out).trans hE)
  have X3 := Lib.hid hE
  clear hE
  have RP : Hid (RawP w3 ⟨x1.neg != x2.neg, x1.a, x1.n, x1.c, x2.a, x2.n, x2.c⟩ ((n : Rat) / (d : Rat))) := Lib.hid (by
    have a1 := (G1.out.ext X2.out).ext X3.out
    have a2 := G2.out.ext X3.out
    refine ⟨_, _, a1.2, a2.2, ?_, ?_, ?_, ?_⟩
    · rw [val_digs, val_digs, a1.1, a2.1]; exact HQ.out
    · rw [val_digs]; exact HD.out
    · exact U32.nle a1.2 HN1.out (by decide)
    · exact U32.nle a2.2 HD1.out (by decide))
  go_wp2_with fail
  refine Calls.mono (lowest_any ⟨x1.neg != x2.neg, x1.a, x1.n, x1.c, x2.a, x2.n, x2.c⟩ _ _ RP.out) ?_
  rintro e w4 ⟨x4, rfl, hE, g4⟩
  have G4 := Lib.hid g4
  clear g4
  obtain ⟨hcw, hfw⟩ := bcellE hE
  have hsw := hE.size
  (try simp only [World.size_alloc] at hsw)
  have hs0 : w.heap.size < w4.heap.size := by omega
  replace HB := Lib.hid (hE.block HB.out)
  have cR := blk_cell HB.out
  have fR := blk_frozen HB.out
  have E4 := Lib.hid ((E3.out).trans hE)
  have X4 := Lib.hid hE
  clear hE
  have HX := E4
  go_wp2
  have hF := ((((Fin.start (L := w.heap.size) HX.out (noU_block HB.out rfl)).set (by omega) (i := 0) (v := .bool x4.neg) rfl).set (by omega) (i := 1) (v := .slice x4.a x4.n x4.c) rfl).set (by omega) (i := 2) (v := .slice x4.b x4.m x4.d) rfl)
  exact bodyPost_ret (v := x4.v) (by simp [results, Tryz.results91, go_sem, blk_cell HB.out]) rfl ⟨x4, rfl, hF.ext, G4.out.keep hF.keep⟩
end Go.Proofs.YtbcamhfoemnmgaaGreat
/- Taps of package chebyshev. -/
namespace Go.Proofs.YtbcamhfoemnmgaaGreat
open Go.RowKit Go.Front Go.Num
attribute [local go_sem] XW.cell XW.frozen
/-- A block of canonical numbers. -/
def OutC (w : World) (L : Nat) (os : List Rat) : Prop := ∃ rs, RBk w L rs #[] ∧ Vals CanR w rs os
theorem OutC.ext {w w' : World} {L : Nat} {os : List Rat} (h : OutC w L os) (he : Ext w w') : OutC w' L os := let ⟨rs, h1, h2⟩ := h; ⟨rs, h1.ext he, h2.can_ext he⟩
theorem OutC.lt {w : World} {L : Nat} {os : List Rat} (h : OutC w L os) : L < w.heap.size := let ⟨_, h1, _⟩ := h; h1.lt
theorem OutC.frozen {w : World} {L : Nat} {os : List Rat} (h : OutC w L os) (i : Nat) : w.frozen? ⟨L, i, none⟩ = false := let ⟨_, h1, _⟩ := h; h1.frozen i
theorem OutC.cells {w : World} {L : Nat} {os : List Rat} (h : OutC w L os) {k : Nat} (hk : k < os.length) : ∃ r, RAt w L (k * 3) r ∧ CanR w r (os.getD k 0) := by
  obtain ⟨rs, h1, h2⟩ := h
  exact ⟨_, h1.at (by rw [h2.1]; exact hk), h2.2 k hk⟩
theorem OutC.can {w : World} {L M : Nat} {os : List Rat} (h : OutC w L os) (hl : os.length = M) (hM : M ≤ 9223372036854775807) : CanL w ⟨some ⟨L, 0, none⟩, M, M⟩ os := by
  obtain ⟨rs, h1, h2⟩ := h
  exact ⟨rs, h1.rs (by rw [h2.1, hl]) (Nat.le_refl _) hM, h2⟩
theorem OutC.put {w1 w2 : World} {L b : Nat} {os : List Rat} {T : TypeId} {cs : Array Value} (h : OutC w1 L os) (T2 : PutB w1 b T cs w2) (hb : b ≠ L) : OutC w2 L os := by
  obtain ⟨rs, h1, h2⟩ := h
  exact ⟨rs, T2.rest L _ (Ne.symm hb) h1, h2.keep T2.keep⟩
theorem nm_outc {w1 : World} {L k : Nat} {os : List Rat} {q : Rat} {F : World → Prop} {x : RH} (h : OutC w1 L os) (hk : k < os.length) (hx : CanR w1 x q)
    (H : ∀ w2, (∃ cs, PutB w1 L 30 cs w2) → OutC w2 L (os.set k q) → F w2) :
    F (((w1.setCell ⟨L, k * 3, none⟩ (.bool x.neg)).setCell ⟨L, k * 3 + 1, none⟩ (.slice x.a x.n x.c)).setCell ⟨L, k * 3 + 2, none⟩ (.slice x.b x.m x.d)) := by
  obtain ⟨rs, h1, h2⟩ := h
  refine nm_rat h1 rfl (by rw [h2.1]; exact hk) fun w2 T => H w2 ⟨_, T⟩ ⟨rs.set k x, T.bx, (h2.keep T.keep).set (hx.keep T.keep) k⟩
theorem PreC.outc {w : World} {L M : Nat} {rs : List RH} {ts : List Rat} (h : PreC w rs ts) (hb : RBk w L rs #[]) (hl : rs.length = M) (ht : ts.length = M) : OutC w L ts := ⟨rs, hb, by rw [hl, ht], h⟩
def half : Rat := ((1 : Int) : Rat) / ((2 : Int) : Rat)
/-- The distance of i from n. -/
def dst (n i : Nat) : Nat := if i < n then n - i else i - n
def tapE (c : List Rat) (n i : Nat) : Rat := if dst n i = 0 then c.getD 0 0 else c.getD (dst n i) 0 * half
def tapL (c : List Rat) (n : Nat) : List Rat := (List.range (2 * n + 1)).map (tapE c n)
def tapsV (ps : List Rat) (n : Int) : Int × List Rat := if n < 0 ∨ 48 < n then (1, []) else if n < ((tz ps).length : Int) - 1 then (12, []) else (0, tapL (tbV (tz ps).length (tz ps)) n.toNat)
/-- The list after j coefficients. -/
def tapO (c : List Rat) (n j i : Nat) : Rat := if dst n i < j then tapE c n i else 0
theorem tapO_set0 {c os : List Rat} {n : Nat} (hl : os.length = 2 * n + 1) (h : ∀ i, i < 2 * n + 1 → os.getD i 0 = tapO c n 0 i) : ∀ i, i < 2 * n + 1 → (os.set n (c.getD 0 0)).getD i 0 = tapO c n 1 i := by
  intro i hi
  rw [getD_set_q (by omega)]
  unfold tapO tapE
  split
  · rename_i he
    subst he
    rw [if_pos (by unfold dst; split <;> omega), if_pos (by unfold dst; split <;> omega)]
  · rw [h i hi, if_neg (by unfold dst; split <;> omega)]
    unfold tapO
    rw [if_neg (by omega)]
theorem tapO_set {c os : List Rat} {n j : Nat} (hl : os.length = 2 * n + 1) (hj : 0 < j) (hjn : j ≤ n) (h : ∀ i, i < 2 * n + 1 → os.getD i 0 = tapO c n j i) : ∀ i, i < 2 * n + 1 → ((os.set (n - j) (c.getD j 0 * half)).set (n + j) (c.getD j 0 * half)).getD i 0 = tapO c n (j + 1) i := by
  intro i hi
  rw [getD_set_q (by rw [List.length_set]; omega), getD_set_q (by omega)]
  unfold tapO tapE
  split
  · rename_i he
    subst he
    have e : dst n (n + j) = j := by unfold dst; split <;> omega
    rw [e, if_pos (by omega), if_neg (by omega)]
  · split
    · rename_i _ he
      subst he
      have e : dst n (n - j) = j := by unfold dst; split <;> omega
      rw [e, if_pos (by omega), if_neg (by omega)]
    · rename_i h1 h2
      have e : dst n i ≠ j := by unfold dst; split <;> omega
      rw [h i hi]
      unfold tapO tapE
      by_cases h3 : dst n i < j
      · rw [if_pos h3, if_pos (show dst n i < j + 1 by omega)]
      · rw [if_neg h3, if_neg (show ¬ dst n i < j + 1 by omega)]
theorem tapO_end {c os : List Rat} {n : Nat} (hl : os.length = 2 * n + 1) (hc : c.length ≤ n + 1) (h : ∀ i, i < 2 * n + 1 → os.getD i 0 = tapO c n c.length i) : os = tapL c n := by
  apply Stab.getD_ext
  · unfold tapL; simp [hl]
  · intro i hi
    rw [hl] at hi
    unfold tapL
    rw [range_getD, if_pos hi, h i hi]
    unfold tapO
    split
    · rfl
    · unfold tapE
      split
      · rename_i h1 h2
        rw [h2] at h1
        rw [getD_over' (by omega)]
      · rename_i h1 h2
        rw [getD_over' (by omega)]
        unfold half
        grind
theorem half_sz : Sz 1 half := by
  unfold half
  exact ⟨by decide +kernel, by decide +kernel⟩
theorem rhalf_any (w : World) : Does 91 [.int .i64 1, .int .i64 2] w RH.v (fun r w' => CanR w' r half) := rfrac_any 1 2 w (by decide) (by decide) (by decide) (by decide) (by decide)
set_option maxRecDepth 8000 in
set_option maxHeartbeats 4000000 in
theorem taps_any (ao : Option Addr) (m cap s : Nat) (ps : List Rat) (n : Int) (w : World) (h : RawL w ⟨ao, m, cap⟩ ps) (hm : m ≤ 12) (hz : SzL s ps) (hs1 : 1 ≤ s) (hs : s ≤ 76) (hcz : SzL 5000000 (tbV (tz ps).length (tz ps))) :
    Does 45 [.slice ao m cap, .int .i64 n] w RF (fun x w' => x.2 = (tapsV ps n).1 ∧ CanL w' x.1 (tapsV ps n).2) := by
  obtain ⟨i0, hi0, hz0, hz1, hz2⟩ := info_parts infoR
  have H := Lib.hid h
  have HX := Lib.hid (Ext.refl w)
  have hle := h.le
  have hmx := h.max
  have Hlen := Lib.hid h.len
  simp only at hle hmx Hlen
  have HZ := Lib.hid hz
  have HCz := Lib.hid hcz
  clear h hz hcz
  unfold Does
  by_cases h1 : n < 0
  · have hv : tapsV ps n = (1, []) := by unfold tapsV; rw [if_pos (Or.inl h1)]
    have Hv := Lib.hid hv
    clear hv
    go_enter Tryz.func45, Tryz.ntmps45
    go_wp2
    exact bodyPost_ret (v := RF (⟨none, 0, 0⟩, 1)) (by simp [results, Tryz.results45, go_sem, RF]) rfl ⟨(⟨none, 0, 0⟩, 1), rfl, HX.out, by rw [Hv.out], by rw [Hv.out]; exact (NewL.nil 0 _).can⟩
  by_cases h2 : 48 < n
  · have hv : tapsV ps n = (1, []) := by unfold tapsV; rw [if_pos (Or.inr h2)]
    have Hv := Lib.hid hv
    clear hv
    go_enter Tryz.func45, Tryz.ntmps45
    go_wp2
    exact bodyPost_ret (v := RF (⟨none, 0, 0⟩, 1)) (by simp [results, Tryz.results45, go_sem, RF]) rfl ⟨(⟨none, 0, 0⟩, 1), rfl, HX.out, by rw [Hv.out], by rw [Hv.out]; exact (NewL.nil 0 _).can⟩
  obtain ⟨N, rfl⟩ : ∃ N : Nat, n = (N : Nat) := ⟨n.toNat, by omega⟩
  have HV : Hid (tapsV ps N = if (N : Int) < ((tz ps).length : Int) - 1 then (12, []) else (0, tapL (tbV (tz ps).length (tz ps)) N)) := Lib.hid (by unfold tapsV; rw [if_neg (by omega)]; rfl)
  have hN : N ≤ 48 := by omega
  obtain ⟨P, hP⟩ : ∃ P, P = (tz ps).length := ⟨_, rfl⟩
  have HPl := Lib.hid hP
  have hPm : P ≤ 12 := by have := tz_len_le ps; rw [Hlen.out] at this; omega
  rw [← hP] at HV HCz
  have HD : Hid (∀ w1, Ext w w1 → Does 89 [.slice ao m cap] w1 (fun _ : Unit => .int .i64 ((P : Int) - 1)) (fun _ _ => True)) := Lib.hid (fun w1 he => by rw [hP]; exact pdegree_any ao m cap ps w1 (H.out.ext he))
  have HB : Hid (∀ w1, Ext w w1 → Does 30 [.slice ao m cap] w1 SH.v (fun x w' => NewL w1.heap.size w' x (tbV P (tz ps)))) := Lib.hid (fun w1 he => by rw [hP]; exact tobasis_new ao m cap s ps w1 (H.out.ext he) hm HZ.out hs1 hs)
  clear hP
  go_enter Tryz.func45, Tryz.ntmps45
  go_wp2_with fail
  refine Calls.mono (HD.out _ HX.out) ?_
  rintro e w1 ⟨x1, rfl, hE, -⟩
  replace HX := Lib.hid (HX.out.trans hE)
  have hs_w1 := hE.size
  clear hE
  by_cases h3 : (N : Int) < (P : Int) - 1
  case pos =>
    have hv : tapsV ps N = (12, []) := by rw [HV.out, if_pos h3]
    have Hv := Lib.hid hv
    clear hv
    go_wp2
    exact bodyPost_ret (v := RF (⟨none, 0, 0⟩, 12)) (by simp [results, Tryz.results45, go_sem, RF]) rfl ⟨(⟨none, 0, 0⟩, 12), rfl, HX.out, by rw [Hv.out], by rw [Hv.out]; exact (NewL.nil 0 _).can⟩
  have HV2 : Hid (tapsV ps N = (0, tapL (tbV P (tz ps)) N)) := Lib.hid (by rw [HV.out, if_neg h3])
  have hPN : P ≤ N + 1 := by omega
  obtain ⟨c, hc⟩ : ∃ c, c = tbV P (tz ps) := ⟨_, rfl⟩
  have HCl : Hid (c.length = P) := Lib.hid (by rw [hc]; exact tbV_len _ _)
  rw [← hc] at HV2 HCz HB
  clear hc h1 h2 h3
  obtain ⟨M, hM1, hM2⟩ : ∃ M, M ≤ 2 * N + 1 ∧ 2 * N + 1 ≤ M := ⟨2 * N + 1, Nat.le_refl _, Nat.le_refl _⟩
  have hMi : 2 * (N : Int) + 1 = M := by omega
  go_upto_region 6 with (refine wpList_make rfl (.tmp 22) (.tmp 22) 32 rfl 30 i0 (RH.v default) 3 Tryz.underlying32 hi0 hz0 hz1 _ _ M rfl rfl (by omega) (by omega) (by rw [hz2]; omega) (by omega) ?_; intro w3 hnew hE)
  have KB := Lib.hid (RBk.make rfl hnew)
  clear hnew
  replace HX := Lib.hid (HX.out.trans hE)
  have hs_w3 := hE.size
  clear hE
  obtain ⟨L, hL⟩ : ∃ L, L = w1.heap.size := ⟨_, rfl⟩
  have hLw : w.heap.size ≤ L := by omega
  rw [← hL] at KB ⊢
  clear hL
  go_wp2
  go_loopg [26] M (fun g v wr => ∃ (i : Nat) (rs : List RH), i + g = M ∧ v = .int .i64 (i : Nat) ∧ Ext w wr ∧ RBk wr L rs #[] ∧ rs.length = M ∧ PreC wr rs (List.replicate i 0))
  case atStart => exact ⟨0, _, by omega, rfl, HX.out, KB.out, by simp, fun j hj => by simp at hj⟩
  case round =>
    obtain ⟨i, rs, hi, rfl, g1, g4, g5, g6⟩ := hrel
    clear HX KB
    have HX := Lib.hid g1
    have KB := Lib.hid g4
    have HRl := Lib.hid g5
    have PC := Lib.hid g6
    clear g1 g4 g5 g6
    (try clear f_KB l_KB)
    have f_KB := blk_frozen KB.out
    have l_KB := (Array.getElem?_eq_some_iff.1 KB.out).1
    by_cases h0 : gk = 0
    case neg =>
      have hin : (i : Int) < M := by omega
      go_wp2_with fail
      refine Calls.mono (rof_any 0 _ (by decide) (by decide)) ?_
      rintro e w2 ⟨x2, rfl, hE, g2⟩
      have G2 := Lib.hid g2
      clear g2
      replace HX := Lib.hid (HX.out.trans hE)
      replace KB := Lib.hid (hE.block KB.out)
      replace PC := Lib.hid (PC.out.ext hE)
      have hs_w2 := hE.size
      clear hE
      (try clear f_KB l_KB)
      have f_KB := blk_frozen KB.out
      have l_KB := (Array.getElem?_eq_some_iff.1 KB.out).1
      obtain ⟨f1, f2, f3⟩ := RBk.at (re := #[]) KB.out (k := i) (by rw [HRl.out]; omega)
      go_upto_region 10 with fail
      refine nm_rat (k := i) KB.out rfl (by rw [HRl.out]; omega) ?_
      intro y6 T
      clear f1 f2 f3
      replace HX := Lib.hid (T.ext HX.out (by omega))
      replace KB := Lib.hid (T.bx)
      replace PC := Lib.hid (PC.out.keep T.keep)
      replace G2 := Lib.hid (G2.out.keep T.keep)
      have hs_y6 := Nat.le_of_eq T.size
      have hr_y6 := Nat.le_of_eq T.size.symm
      clear T
      (try clear f_KB l_KB)
      have f_KB := blk_frozen KB.out
      have l_KB := (Array.getElem?_eq_some_iff.1 KB.out).1
      replace PC := Lib.hid (PC.out.snoc (x := x2) (i := i) (by simp) (by rw [HRl.out]; omega) G2.out)
      have HRp : Hid (List.replicate i (0 : Rat) ++ [((0 : Int) : Rat)] = List.replicate (i + 1) 0) := Lib.hid (by rw [List.replicate_succ']; rfl)
      rw [HRp.out] at PC
      go_wp2
      go_roundg (gk - 1)
      case measure => omega
      case rel => exact ⟨i + 1, _, by omega, by go_num, HX.out, KB.out, by rw [List.length_set]; exact HRl.out, PC.out⟩
    subst h0
    obtain rfl : i = M := by omega
    obtain ⟨os, hos⟩ : ∃ os, os = List.replicate i (0 : Rat) := ⟨_, rfl⟩
    have HOB : Hid (OutC wr L os) := Lib.hid (by rw [hos]; exact PC.out.outc KB.out HRl.out (by simp))
    have HOl : Hid (os.length = i) := Lib.hid (by rw [hos]; simp)
    have HOv : Hid (∀ m, m < i → os.getD m 0 = 0) := Lib.hid (fun m hm => by rw [hos]; simp [hm])
    clear hos
    clear KB
    clear PC
    clear HRl
    have hLl := HOB.out.lt
    go_wp2_with fail
    refine Calls.mono (HB.out _ HX.out) ?_
    rintro e w3 ⟨x3, rfl, hE, g3⟩
    have G3 := Lib.hid g3
    clear g3
    replace HX := Lib.hid (HX.out.trans hE)
    replace HOB := Lib.hid (HOB.out.ext hE)
    have hs_w3 := hE.size
    clear hE
    have LC := Lib.hid (G3.out.mono (B' := L + 1) hLl)
    have hLC := LC.out.len
    rw [HCl.out] at hLC
    obtain ⟨ca, cn, cc⟩ := x3
    simp only at hLC
    subst hLC
    have hc1 := LC.out.can.le
    have hc2 := LC.out.can.max
    simp only at hc1 hc2
    clear G3 hLl
    simp only [SH.v]
    have HOv0 : Hid (∀ m, m < 2 * N + 1 → os.getD m 0 = tapO c N 0 m) := Lib.hid (fun m hm => by rw [HOv.out m (by omega)]; unfold tapO; rw [if_neg (by omega)])
    have HOl0 : Hid (os.length = 2 * N + 1) := Lib.hid (by rw [HOl.out]; omega)
    clear HOv HOl
    go_wp2
    go_loopg [37] P (fun g z wr => ∃ (j : Nat) (os : List Rat), j + g = P ∧ z = .int .i64 (j : Nat) ∧ Ext w wr ∧ OutC wr L os ∧ os.length = 2 * N + 1 ∧ (∀ m, m < 2 * N + 1 → os.getD m 0 = tapO c N j m) ∧ NewL (L + 1) wr ⟨ca, P, cc⟩ c)
    case atStart => exact ⟨0, os, by omega, rfl, HX.out, HOB.out, HOl0.out, HOv0.out, LC.out⟩
    case round =>
      obtain ⟨j, os, hj, rfl, g1, g4, g5, g6, g7⟩ := hrel
      clear HX HOB HOl0 HOv0 LC
      have HX := Lib.hid g1
      have HOB := Lib.hid g4
      have HOl := Lib.hid g5
      have HOv := Lib.hid g6
      have LC := Lib.hid g7
      clear g1 g4 g5 g6 g7
      by_cases h0 : gk = 0
      case pos =>
        subst h0
        obtain rfl : j = P := by omega
        have HE : Hid (os = tapL c N) := Lib.hid (tapO_end HOl.out (by rw [HCl.out]; omega) (by rw [HCl.out]; exact HOv.out))
        have RO := Lib.hid (HOB.out.can (M := i) (by rw [HOl.out]; omega) (by omega))
        rw [HE.out] at RO
        go_wp2
        exact bodyPost_ret (v := RF (⟨some ⟨L, 0, none⟩, i, i⟩, 0)) (by simp [results, Tryz.results45, go_sem, RF]) rfl ⟨(⟨some ⟨L, 0, none⟩, i, i⟩, 0), rfl, HX.out, by rw [HV2.out], by rw [HV2.out]; exact RO.out⟩
      have hjP : (j : Int) < P := by omega
      have hLl0 := HOB.out.lt
      have ZC := Lib.hid (HCz.out.getD (by decide) j)
      obtain ⟨b, off, r, hao, hat, hP⟩ := LC.out.can.at (k := j) (by omega)
      have hbl := RAt.lt hat
      obtain ⟨hc1', hc2', hc3'⟩ := hat
      obtain ⟨rneg, ra, rn, rc, rb, rm, rd⟩ := r
      simp only at hc1' hc2' hc3'
      subst hao
      have RP := Lib.hid (hP.raw ZC.out (by decide))
      have GP := Lib.hid hP
      clear hP
      go_upto_region 14 with fail
      refine nm_alloc ?_
      intro y1 hE hB0 hz
      have hz_y1 := Nat.le_of_eq hz
      have hr_y1 := Nat.le_of_eq hz.symm
      clear hz
      replace HX := Lib.hid (HX.out.trans hE)
      replace HOB := Lib.hid (HOB.out.ext hE)
      replace LC := Lib.hid (LC.out.ext hE)
      replace RP := Lib.hid (RP.out.ext hE)
      replace GP := Lib.hid (GP.out.ext hE)
      have hs_y1 := hE.size
      clear hE
      have B9 := Lib.hid hB0
      clear hB0
      have c_B9 := blk_cell B9.out
      have f_B9 := blk_frozen B9.out
      have l_B9 := (Array.getElem?_eq_some_iff.1 B9.out).1
      obtain ⟨b9, hb9⟩ : ∃ b9, b9 = wr.heap.size := ⟨_, rfl⟩
      have hb9L : L < b9 := by omega
      rw [← hb9] at B9 ⊢
      clear hb9 c_B9 f_B9 l_B9 hc1' hc2' hc3' hbl
      (try clear c_B9 f_B9 l_B9)
      have c_B9 := blk_cell B9.out
      have f_B9 := blk_frozen B9.out
      have l_B9 := (Array.getElem?_eq_some_iff.1 B9.out).1
      by_cases hj0 : j = 0
      case pos =>
        subst hj0
        have hfr : ∀ x, y1.frozen? ⟨L, x, none⟩ = false := HOB.out.frozen
        have hLl := HOB.out.lt
        have hNM : (N : Int) < i := by omega
        obtain ⟨ro, ⟨e1, e2, e3⟩, -⟩ := HOB.out.cells (k := N) (by rw [HOl.out]; omega)
        go_upto_region 18 with fail
        refine nm_outc (k := N) (x := ⟨rneg, ra, rn, rc, rb, rm, rd⟩) HOB.out (by rw [HOl.out]; omega) GP.out ?_
        intro w6 hT hOB
        obtain ⟨cs', T⟩ := hT
        have HOBn := Lib.hid hOB
        have HOv2 := Lib.hid (tapO_set0 HOl.out HOv.out)
        clear hOB e1 e2 e3 hfr hLl
        clear HOB
        replace HX := Lib.hid (T.ext HX.out (by omega))
        replace LC := Lib.hid (LC.out.put T (by omega))
        replace RP := Lib.hid (RP.out.keep T.keep)
        replace GP := Lib.hid (GP.out.keep T.keep)
        replace B9 := Lib.hid (T.rest _ _ (by omega) B9.out)
        have hs_w6 := Nat.le_of_eq T.size
        have hr_w6 := Nat.le_of_eq T.size.symm
        clear T
        (try clear c_B9 f_B9 l_B9)
        have c_B9 := blk_cell B9.out
        have f_B9 := blk_frozen B9.out
        have l_B9 := (Array.getElem?_eq_some_iff.1 B9.out).1
        go_wp2
        go_roundg (gk - 1)
        case measure => omega
        case rel => exact ⟨0 + 1, _, by omega, by go_num, HX.out, HOBn.out, by rw [List.length_set]; exact HOl.out, HOv2.out, LC.out⟩
      have hjb : ((j : Int) == 0) = false := by rw [beq_eq_false_iff_ne]; omega
      have hj0' : 0 < j := by omega
      clear hj0
      have ZH : Hid (Sz 5000001 (c.getD j 0 * half)) := Lib.hid ((ZC.out.mul half_sz).mono (by omega))
      obtain ⟨i1, hi1⟩ : ∃ i, i = N - j := ⟨_, rfl⟩
      obtain ⟨i2, hi2⟩ : ∃ i, i = N + j := ⟨_, rfl⟩
      have hI1 : (N : Int) - (j : Int) = i1 := by omega
      have hI2 : (N : Int) + (j : Int) = i2 := by omega
      have hb1 : (i1 : Int) < i := by omega
      have hb2 : (i2 : Int) < i := by omega
      have HOv2 := Lib.hid (tapO_set (j := j) HOl.out hj0' (by omega) HOv.out)
      rw [← hi1, ← hi2] at HOv2
      clear hi1 hi2
      go_upto_region 16 with fail
      refine wp_region_front 8 (fun opIx => match opIx with
        | 5 => .spec RH default RH.v (fun s w' => CanR w' s (half))
        | 6 => .spec RH default RH.v (fun s w' => CanR w' s (c.getD j 0 * half))
        | _ => .quiet) (fun | 6 => [5] | _ => []) (by kernel_rfl) (by kernel_rfl) (fun w0 he0 hz0 hc0 hf0 => ?_)
      replace he0 := Lib.hid he0
      simp only [List.take_succ_cons, List.take_zero]
      repeat (refine wpF_quiet rfl rfl rfl (fun K hK => ?_); go_big_quiet_op; refine hK _ ?_; clear hK K)
      refine wpF_spec rfl rfl (fun w1 hw1 hG => ?_) (fun x5 => ?_)
      · have hW := he0.out.trans hw1
        refine spec_call [.int .i64 1, .int .i64 2] rfl rfl Tryz.func91 (by kernel_rfl) (by kernel_rfl) ?_
        exact rhalf_any _
      simp only [Act.put, List.setIfInBounds_toArray, List.set_cons_succ, List.set_cons_zero]
      repeat (refine wpF_quiet rfl rfl rfl (fun K hK => ?_); go_big_quiet_op; refine hK _ ?_; clear hK K)
      refine wpF_spec rfl rfl (fun w1 hw1 hG => ?_) (fun x6 => ?_)
      · have hW := he0.out.trans hw1
        obtain ⟨wa5, hwa5, g5⟩ : Since _ _ := hG 5 (by decide)
        replace g5 := g5.ext hwa5
        refine spec_call [RH.v ⟨rneg, ra, rn, rc, rb, rm, rd⟩, x5.v] rfl rfl Tryz.func62 (by kernel_rfl) (by kernel_rfl) ?_
        exact rmul_any _ x5 _ _ _ (RP.out.ext hW) (g5.raw half_sz (by decide))
      simp only [Act.put, List.setIfInBounds_toArray, List.set_cons_succ, List.set_cons_zero]
      repeat (refine wpF_quiet rfl rfl rfl (fun K hK => ?_); go_big_quiet_op; refine hK _ ?_; clear hK K)
      refine wpF_nil ?_
      intro w16 hI
      have hE := he0.out.trans hI.ext
      obtain ⟨wa5, hwa5, g5⟩ : Since _ _ := hI.facts 5
      have G5 := Lib.hid (g5.ext hwa5)
      clear g5 hwa5
      obtain ⟨wa6, hwa6, g6⟩ : Since _ _ := hI.facts 6
      have G6 := Lib.hid (g6.ext hwa6)
      clear g6 hwa6
      clear hI he0 hz0 hc0 hf0
      replace HX := Lib.hid (HX.out.trans hE)
      replace HOB := Lib.hid (HOB.out.ext hE)
      replace LC := Lib.hid (LC.out.ext hE)
      replace RP := Lib.hid (RP.out.ext hE)
      replace GP := Lib.hid (GP.out.ext hE)
      replace B9 := Lib.hid (hE.block B9.out)
      have hs_w16 := hE.size
      clear hE
      (try clear c_B9 f_B9 l_B9)
      have c_B9 := blk_cell B9.out
      have f_B9 := blk_frozen B9.out
      have l_B9 := (Array.getElem?_eq_some_iff.1 B9.out).1
      simp only [List.drop_succ_cons, List.drop_zero]
      have hfr : ∀ x, w16.frozen? ⟨L, x, none⟩ = false := HOB.out.frozen
      have hLl := HOB.out.lt
      obtain ⟨ro, ⟨e1, e2, e3⟩, -⟩ := HOB.out.cells (k := i1) (by rw [HOl.out]; omega)
      go_upto_region 17 with fail
      refine nm_outc (k := i1) (x := x6) HOB.out (by rw [HOl.out]; omega) G6.out ?_
      intro w17 hT hOB
      obtain ⟨cs', T⟩ := hT
      have HOBn := Lib.hid hOB
      have HOl2 : Hid ((os.set i1 (c.getD j 0 * half)).length = 2 * N + 1) := Lib.hid (by rw [List.length_set]; exact HOl.out)
      clear hOB e1 e2 e3 hfr hLl
      clear HOB
      clear G5
      clear G6
      replace HX := Lib.hid (T.ext HX.out (by omega))
      replace LC := Lib.hid (LC.out.put T (by omega))
      replace RP := Lib.hid (RP.out.keep T.keep)
      replace GP := Lib.hid (GP.out.keep T.keep)
      replace B9 := Lib.hid (T.rest _ _ (by omega) B9.out)
      have hs_w17 := Nat.le_of_eq T.size
      have hr_w17 := Nat.le_of_eq T.size.symm
      clear T
      (try clear c_B9 f_B9 l_B9)
      have c_B9 := blk_cell B9.out
      have f_B9 := blk_frozen B9.out
      have l_B9 := (Array.getElem?_eq_some_iff.1 B9.out).1
      have HOB := Lib.hid HOBn.out
      clear HOBn
      refine wp_region_front 8 (fun opIx => match opIx with
        | 5 => .spec RH default RH.v (fun s w' => CanR w' s (half))
        | 6 => .spec RH default RH.v (fun s w' => CanR w' s (c.getD j 0 * half))
        | _ => .quiet) (fun | 6 => [5] | _ => []) (by kernel_rfl) (by kernel_rfl) (fun w0 he0 hz0 hc0 hf0 => ?_)
      replace he0 := Lib.hid he0
      simp only [List.take_succ_cons, List.take_zero]
      repeat (refine wpF_quiet rfl rfl rfl (fun K hK => ?_); go_big_quiet_op; refine hK _ ?_; clear hK K)
      refine wpF_spec rfl rfl (fun w1 hw1 hG => ?_) (fun x5 => ?_)
      · have hW := he0.out.trans hw1
        refine spec_call [.int .i64 1, .int .i64 2] rfl rfl Tryz.func91 (by kernel_rfl) (by kernel_rfl) ?_
        exact rhalf_any _
      simp only [Act.put, List.setIfInBounds_toArray, List.set_cons_succ, List.set_cons_zero]
      repeat (refine wpF_quiet rfl rfl rfl (fun K hK => ?_); go_big_quiet_op; refine hK _ ?_; clear hK K)
      refine wpF_spec rfl rfl (fun w1 hw1 hG => ?_) (fun x6 => ?_)
      · have hW := he0.out.trans hw1
        obtain ⟨wa5, hwa5, g5⟩ : Since _ _ := hG 5 (by decide)
        replace g5 := g5.ext hwa5
        refine spec_call [RH.v ⟨rneg, ra, rn, rc, rb, rm, rd⟩, x5.v] rfl rfl Tryz.func62 (by kernel_rfl) (by kernel_rfl) ?_
        exact rmul_any _ x5 _ _ _ (RP.out.ext hW) (g5.raw half_sz (by decide))
      simp only [Act.put, List.setIfInBounds_toArray, List.set_cons_succ, List.set_cons_zero]
      repeat (refine wpF_quiet rfl rfl rfl (fun K hK => ?_); go_big_quiet_op; refine hK _ ?_; clear hK K)
      refine wpF_nil ?_
      intro w18 hI
      have hE := he0.out.trans hI.ext
      obtain ⟨wa5, hwa5, g5⟩ : Since _ _ := hI.facts 5
      have G5 := Lib.hid (g5.ext hwa5)
      clear g5 hwa5
      obtain ⟨wa6, hwa6, g6⟩ : Since _ _ := hI.facts 6
      have G6 := Lib.hid (g6.ext hwa6)
      clear g6 hwa6
      clear hI he0 hz0 hc0 hf0
      replace HX := Lib.hid (HX.out.trans hE)
      replace LC := Lib.hid (LC.out.ext hE)
      replace RP := Lib.hid (RP.out.ext hE)
      replace GP := Lib.hid (GP.out.ext hE)
      replace B9 := Lib.hid (hE.block B9.out)
      replace HOB := Lib.hid (HOB.out.ext hE)
      have hs_w18 := hE.size
      clear hE
      (try clear c_B9 f_B9 l_B9)
      have c_B9 := blk_cell B9.out
      have f_B9 := blk_frozen B9.out
      have l_B9 := (Array.getElem?_eq_some_iff.1 B9.out).1
      simp only [List.drop_succ_cons, List.drop_zero]
      have hfr : ∀ x, w18.frozen? ⟨L, x, none⟩ = false := HOB.out.frozen
      have hLl := HOB.out.lt
      obtain ⟨ro2, ⟨e1, e2, e3⟩, -⟩ := HOB.out.cells (k := i2) (by rw [HOl2.out]; omega)
      go_upto_region 18 with fail
      refine nm_outc (k := i2) (x := x6) HOB.out (by rw [HOl2.out]; omega) G6.out ?_
      intro w19 hT hOB
      obtain ⟨cs', T⟩ := hT
      have HOBn := Lib.hid hOB
      clear hOB e1 e2 e3 hfr hLl
      clear HOB
      clear G5
      clear G6
      replace HX := Lib.hid (T.ext HX.out (by omega))
      replace LC := Lib.hid (LC.out.put T (by omega))
      replace RP := Lib.hid (RP.out.keep T.keep)
      replace GP := Lib.hid (GP.out.keep T.keep)
      replace B9 := Lib.hid (T.rest _ _ (by omega) B9.out)
      have hs_w19 := Nat.le_of_eq T.size
      have hr_w19 := Nat.le_of_eq T.size.symm
      clear T
      (try clear c_B9 f_B9 l_B9)
      have c_B9 := blk_cell B9.out
      have f_B9 := blk_frozen B9.out
      have l_B9 := (Array.getElem?_eq_some_iff.1 B9.out).1
      go_wp2
      go_roundg (gk - 1)
      case measure => omega
      case rel => exact ⟨j + 1, _, by omega, by go_num, HX.out, HOBn.out, by rw [List.length_set]; exact HOl2.out, HOv2.out, LC.out⟩
end Go.Proofs.YtbcamhfoemnmgaaGreat
