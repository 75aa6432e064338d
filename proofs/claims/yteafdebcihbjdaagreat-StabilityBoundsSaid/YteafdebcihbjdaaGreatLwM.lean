/- StabilityBounds returns true. -/
import Derived.Test.YteafdebcihbjdaaGreatM10
import Derived.Test.YteafdebcihbjdaaGreatR5b
import Derived.Test.YteafdebcihbjdaaGreatSbe
import Derived.Test.YteafdebcihbjdaaGreatLaw1
import Derived.Deep.DeepCutAuto
import Derived.Deep.CutBlock
set_option linter.unusedVariables false
namespace Go.Proofs.YteafdebcihbjdaaGreat
open Go.RowKit Go.Front Go.Num Stab Sbd
attribute [local go_sem] XW.cell XW.frozen
/-- A block of one rational with the number, which is carried along. -/
def BQ (N : Nat) (q : Rat) (p : Nat × RH) (w : World) : Prop := (N ≤ p.1 ∧ w.heap[p.1]? = some (.cells #[.bool p.2.neg, .slice p.2.a p.2.n p.2.c, .slice p.2.b p.2.m p.2.d] 30 (0, 0))) ∧ CanR w p.2 q
theorem BQ.ext {N : Nat} {q : Rat} {p : Nat × RH} {w w' : World} (h : BQ N q p w) (he : Ext w w') : BQ N q p w' := ⟨⟨h.1.1, he.block h.1.2⟩, h.2.ext he⟩
theorem spec_bq {P : Program} {o : Oper} {a : Act} {w : World} {N : Nat} {r : RH} {q : Rat} (hN : N ≤ w.heap.size) (hr : CanR w r q) (hrun : (execOp a.eval o).run P w = .ok (.value (.slice (some ⟨w.heap.size, 0, none⟩) 1 1)) (w.alloc (.cells #[.bool r.neg, .slice r.a r.n r.c, .slice r.b r.m r.d] 30 (0, 0)))) : specAt P o a w (fun p : Nat × RH => .slice (some ⟨p.1, 0, none⟩) 1 1) (fun p w' => BQ N q p w') := by
  unfold specAt
  rw [hrun]
  exact ⟨Ext.alloc _ _, (w.heap.size, r), rfl, ⟨hN, heap_alloc_new w _⟩, hr.ext (Ext.alloc _ _)⟩
/-- The part of the sum that the law has after k rounds. -/
def sF (a h : List Rat) (q : Nat) : Rat := a.getD (q + 1) 0 * h.getD (h.length - 1 - q) 0
def sV (a h : List Rat) (k : Nat) : Rat := (if h.length = 0 then 1 else 0) - sm k (sF a h)
theorem sV_next (a h : List Rat) (k : Nat) : sV a h (k + 1) = sV a h k - sF a h k := by
  unfold sV
  show _ - (sm k (sF a h) + sF a h k) = _
  grind
theorem sV_sz {a h : List Rat} (ha : SzL 2 a) (hh : SzL 10 h) (k : Nat) : Sz (1 + k * 13) (sV a h k) := by
  induction k with
  | zero => unfold sV; show Sz (1 + 0 * 13) (_ - 0); rw [show ∀ x : Rat, x - 0 = x from fun x => by grind]; split <;> exact Sz.int (z := _) (by decide)
  | succ k ih =>
    rw [sV_next]
    have h1 : Sz 12 (sF a h k) := (ha.getD (by decide) _).mul (hh.getD (by decide) _)
    exact (ih.sub h1).mono (by omega)
theorem sV_hN (a h : List Rat) : sV a h (min h.length (a.length - 1)) / a.getD 0 0 = hN a h := rfl
set_option maxRecDepth 8000 in
set_option maxHeartbeats 8000000 in
theorem sbound_any (ao : Option Addr) (cap : Nat) (xs : List Int) (z1 z2 : Int) (w : World) (h : IntsAt w ao xs) (hr : InR xs) (hl : xs.length ≤ 9223372036854775807) (hc : xs.length ≤ cap) (hcm : cap ≤ 9223372036854775807)
    (k1 : 0 ≤ z1 ∧ z1 ≤ 255) (k2 : 0 ≤ z2 ∧ z2 ≤ 255) :
    Does 4 [.slice ao xs.length cap, .int .u8 z1, .int .u8 z2] w (fun _ : Unit => .bool true) (fun _ _ => True) := by
  have HX := Lib.hid (Ext.refl w)
  obtain ⟨n1, e1⟩ : ∃ n1 : Nat, z1.tmod 20 = (n1 : Int) := ⟨(z1.tmod 20).toNat, by have := Int.tmod_nonneg 20 k1.1; omega⟩
  obtain ⟨n2, e2⟩ : ∃ n2 : Nat, z2.tmod 5 = (n2 : Int) := ⟨(z2.tmod 5).toNat, by have := Int.tmod_nonneg 5 k2.1; omega⟩
  have hn1 : n1 < 20 := by have := (tmod_bd z1 20 (by decide)).2; omega
  have hn2 : n2 < 5 := by have := (tmod_bd z2 5 (by decide)).2; omega
  have hlw := law_ok xs hn2
  obtain ⟨ks, hks⟩ : ∃ ks, ks = (xs.take 3).map keptQ := ⟨_, rfl⟩
  have hlk : ks.length ≤ 3 := by rw [hks, List.length_map, List.length_take]; omega
  have hsm : ∀ r ∈ ks, -1 < r ∧ r < 1 := by
    intro r hr
    rw [hks] at hr
    obtain ⟨n, -, rfl⟩ := List.mem_map.1 hr
    exact (kept_ok n).1
  have hsz : SzL 1 ks := by
    intro r hr
    rw [hks] at hr
    obtain ⟨n, -, rfl⟩ := List.mem_map.1 hr
    exact (kept_ok n).2
  rw [← hks] at hlw
  have V2 := Lib.hid (upV_ok hsm (by omega))
  have HLk := Lib.hid hlk
  have HZ := Lib.hid hsz
  have HZU : Hid (SzL 94 (tz (Stab.ups ks))) := Lib.hid ((SzL.tz (ups_sz ks hsz)).mono (Nat.le_trans (upg_mono (show ks.length ≤ 5 by omega)) (by decide)))
  have HLU : Hid ((tz (Stab.ups ks)).length ≤ 4) := Lib.hid (by
    have h1 := tz_len_le (Stab.ups ks)
    rw [Stab.ups_length] at h1
    omega)
  obtain ⟨u, hu⟩ : ∃ u, u = tz (Stab.ups ks) := ⟨_, rfl⟩
  obtain ⟨s, hs⟩ : ∃ s, s = ((1 + (n2 : Int) : Int) : Rat) / ((2 : Int) : Rat) := ⟨_, rfl⟩
  obtain ⟨a, ha⟩ : ∃ a, a = scale5V u s := ⟨_, rfl⟩
  have HS : Hid (Sz 2 s) := Lib.hid (by rw [hs]; exact (Sz.int (by unfold W32; omega)).div (Sz.int (by decide)))
  rw [← hu, ← hs, ← ha] at hlw
  rw [← hu] at V2 HZU HLU
  have EA := Lib.hid ha
  have ES := Lib.hid hs
  have HLW := Lib.hid hlw
  have HR0 : Hid (Sz 1 R0) := Lib.hid (by rw [show R0 = mkRat 19 20 from by rw [Rat.mkRat_eq_div]; rfl]; exact Sz.mk (by decide) (by decide) (by decide))
  have HMK : Hid (RefOk ((tz (moved a R0)).length - 1) (norm (tz (moved a R0)))) := Lib.hid (reflOk (m := 4) (by decide) (moved_szk (hlw.z.mono (by decide)) HR0.out (Nat.le_trans (tz_len_le a) (by have := hlw.len; omega))) (Nat.le_trans (tz_len_le _) (by rw [moved_len]; exact Nat.le_trans (tz_len_le a) (by have := hlw.len; omega))) (by decide))
  obtain ⟨ok, hok⟩ : ∃ ok, insV a R0 = (ok, 0) := ⟨(insV a R0).1, Prod.ext rfl hlw.ins⟩
  have HI := Lib.hid hok
  have HB : Hid (boundE a R0 (n1 : Int) = if ok = true then 0 else 14) := Lib.hid (by
    unfold boundE
    rw [if_neg (by
      rintro (h1 | h1 | h1)
      · exact absurd h1 (by decide +kernel)
      · omega
      · omega), hok, if_neg (fun h1 => h1 rfl)])
  have hcall := kept_any ao cap 3 xs w h hr hl (by decide) hc hcm
  rw [← hks] at hcall
  have HC := Lib.hid hcall
  obtain ⟨n, hn⟩ : ∃ n, n = xs.length := ⟨_, rfl⟩
  rw [← hn] at HC hl hc ⊢
  have hz2 : (0 : Int) ≤ z2.tmod 5 := by omega
  clear hn hks hlk hsm hsz hlw hu hs ha hok hcall h hr
  unfold Does
  go_enter Tryz.func4, Tryz.ntmps4
  go_wp2_with fail
  refine Calls.mono (HC.out) ?_
  rintro e w1 ⟨x1, rfl, hE, g1⟩
  have G1 := Lib.hid g1
  clear g1
  replace HX := Lib.hid (HX.out.trans hE)
  have hs_w1 := hE.size
  clear hE
  obtain ⟨ka, kn, kc⟩ := x1
  simp only [SH.v]
  have L1 := Lib.hid G1.out.can
  have hk5 : kn ≤ 3 := by have h1 := G1.out.can.len; have h2 := HLk.out; simp only at h1; omega
  clear G1
  go_wp2_with fail
  refine Calls.mono (stepup_any ka kn kc ks _ (L1.out.raw HZ.out (by decide)) (by omega) (upOk HZ.out (Nat.le_trans HLk.out (by decide)))) ?_
  rintro e w2 ⟨x2, rfl, hE, g2⟩
  have G2 := Lib.hid g2
  clear g2
  replace HX := Lib.hid (HX.out.trans hE)
  replace L1 := Lib.hid (L1.out.ext hE)
  have hs_w2 := hE.size
  clear hE
  obtain ⟨⟨a2, n2', c2⟩, e2'⟩ := x2
  obtain ⟨he, hl2⟩ := G2.out
  rw [V2.out] at he hl2
  simp only at he hl2
  subst he
  have L2 := Lib.hid hl2.can
  clear hl2 G2
  simp only [RF, SH.v]
  clear L1
  have hn2' : n2' ≤ 4 := by have h1 := L2.out.len; have h2 := HLU.out; simp only at h1; omega
  go_wp2_with fail
  refine Calls.mono (rfrac3_any (1 + (n2 : Int)) 2 _ (by omega) (by omega) (by decide) (by decide)) ?_
  rintro e w3 ⟨x3, rfl, hE, g3⟩
  have G3 := Lib.hid g3
  clear g3
  replace HX := Lib.hid (HX.out.trans hE)
  replace L2 := Lib.hid (L2.out.ext hE)
  have hs_w3 := hE.size
  clear hE
  have G3s : Hid (CanR w3 x3 s) := Lib.hid (by rw [ES.out]; exact G3.out)
  clear G3
  go_wp2_with fail
  refine Calls.mono (scale5_any a2 n2' c2 u x3 s _ (L2.out.raw HZU.out (by decide)) (G3s.out.raw HS.out (by decide)) (by omega) (HZU.out.mono (by decide)) (HS.out.mono (by decide))) ?_
  rintro e w4 ⟨x4, rfl, hE, g4⟩
  have G4 := Lib.hid g4
  clear g4
  replace HX := Lib.hid (HX.out.trans hE)
  replace L2 := Lib.hid (L2.out.ext hE)
  replace G3s := Lib.hid (G3s.out.ext hE)
  have hs_w4 := hE.size
  clear hE
  obtain ⟨aa, an, ac⟩ := x4
  have LA : Hid (CanL w4 ⟨aa, an, ac⟩ a) := Lib.hid (by rw [EA.out]; exact G4.out.can)
  have han := LA.out.len
  simp only at han
  have han4 : an ≤ 4 := by rw [← han]; exact HLW.out.len
  have han0 : 0 < an := by rw [← han]; exact HLW.out.pos
  have HAn := Lib.hid han
  clear G4 han
  clear L2
  clear G3s
  simp only [SH.v]
  go_wp2_with fail
  refine Calls.mono (rfrac3_any 19 20 _ (by decide) (by decide) (by decide) (by decide)) ?_
  rintro e w5 ⟨x5, rfl, hE, g5⟩
  have G5 := Lib.hid g5
  clear g5
  replace HX := Lib.hid (HX.out.trans hE)
  replace LA := Lib.hid (LA.out.ext hE)
  have hs_w5 := hE.size
  clear hE
  obtain ⟨rn, ra, rl, rc, rb, rm, rd⟩ := x5
  have GR : Hid (CanR w5 ⟨rn, ra, rl, rc, rb, rm, rd⟩ R0) := G5
  clear G5
  go_upto_region 5 with fail
  refine nm_alloc ?_
  intro w6 hE hB0 hz
  have hz_w6 := Nat.le_of_eq hz
  have hr_w6 := Nat.le_of_eq hz.symm
  clear hz
  replace HX := Lib.hid (HX.out.trans hE)
  replace LA := Lib.hid (LA.out.ext hE)
  replace GR := Lib.hid (GR.out.ext hE)
  have hs_w6 := hE.size
  clear hE
  have B10 := Lib.hid hB0
  clear hB0
  have c_B10 := blk_cell B10.out
  have f_B10 := blk_frozen B10.out
  have l_B10 := (Array.getElem?_eq_some_iff.1 B10.out).1
  have ZA := Lib.hid HLW.out.z
  go_wp2_with fail
  refine Calls.mono (bound_any aa an ac a ⟨rn, ra, rl, rc, rb, rm, rd⟩ R0 (n1 : Int) _ (LA.out.raw ZA.out (by decide)) (GR.out.raw HR0.out (by decide)) (by omega) (ZA.out.mono (by decide)) (HR0.out.mono (by decide)) (fun _ _ _ => HMK.out)) ?_
  rintro e w7 ⟨x7, rfl, hE, g7⟩
  have G7 := Lib.hid g7
  clear g7
  replace HX := Lib.hid (HX.out.trans hE)
  replace LA := Lib.hid (LA.out.ext hE)
  replace GR := Lib.hid (GR.out.ext hE)
  replace B10 := Lib.hid (hE.block B10.out)
  have hs_w7 := hE.size
  clear hE
  (try clear c_B10 f_B10 l_B10)
  have c_B10 := blk_cell B10.out
  have f_B10 := blk_frozen B10.out
  have l_B10 := (Array.getElem?_eq_some_iff.1 B10.out).1
  rw [HB.out]
  obtain ⟨xn, xa, xl, xc, xb, xm, xd⟩ := x7
  simp only [DV]
  cases ok with
  | false =>
    rw [if_neg (by decide)]
    clear G7
    go_upto_region 7 with fail
    refine nm_alloc ?_
    intro w8 hE hB0 hz
    have hz_w8 := Nat.le_of_eq hz
    have hr_w8 := Nat.le_of_eq hz.symm
    clear hz
    replace HX := Lib.hid (HX.out.trans hE)
    replace LA := Lib.hid (LA.out.ext hE)
    replace GR := Lib.hid (GR.out.ext hE)
    replace B10 := Lib.hid (hE.block B10.out)
    have hs_w8 := hE.size
    clear hE
    (try clear c_B10 f_B10 l_B10)
    have c_B10 := blk_cell B10.out
    have f_B10 := blk_frozen B10.out
    have l_B10 := (Array.getElem?_eq_some_iff.1 B10.out).1
    have B12 := Lib.hid hB0
    clear hB0
    have c_B12 := blk_cell B12.out
    have f_B12 := blk_frozen B12.out
    have l_B12 := (Array.getElem?_eq_some_iff.1 B12.out).1
    go_wp2_with fail
    refine Calls.mono (inside_any aa an ac a ⟨rn, ra, rl, rc, rb, rm, rd⟩ R0 _ (LA.out.raw ZA.out (by decide)) (GR.out.raw HR0.out (by decide)) (by omega) (ZA.out.mono (by decide)) (HR0.out.mono (by decide)) (fun _ _ _ => HMK.out)) ?_
    rintro e w9 ⟨x9, rfl, hE, -⟩
    replace HX := Lib.hid (HX.out.trans hE)
    replace LA := Lib.hid (LA.out.ext hE)
    replace GR := Lib.hid (GR.out.ext hE)
    replace B10 := Lib.hid (hE.block B10.out)
    replace B12 := Lib.hid (hE.block B12.out)
    have hs_w9 := hE.size
    clear hE
    (try clear c_B10 f_B10 l_B10)
    have c_B10 := blk_cell B10.out
    have f_B10 := blk_frozen B10.out
    have l_B10 := (Array.getElem?_eq_some_iff.1 B10.out).1
    (try clear c_B12 f_B12 l_B12)
    have c_B12 := blk_cell B12.out
    have f_B12 := blk_frozen B12.out
    have l_B12 := (Array.getElem?_eq_some_iff.1 B12.out).1
    rw [HI.out]
    simp only [BF]
    go_wp2_with fail
    refine Calls.mono (awake18_any _) ?_
    rintro e w10 ⟨x10, rfl, hE, -⟩
    replace HX := Lib.hid (HX.out.trans hE)
    replace LA := Lib.hid (LA.out.ext hE)
    replace GR := Lib.hid (GR.out.ext hE)
    replace B10 := Lib.hid (hE.block B10.out)
    replace B12 := Lib.hid (hE.block B12.out)
    have hs_w10 := hE.size
    clear hE
    (try clear c_B10 f_B10 l_B10)
    have c_B10 := blk_cell B10.out
    have f_B10 := blk_frozen B10.out
    have l_B10 := (Array.getElem?_eq_some_iff.1 B10.out).1
    (try clear c_B12 f_B12 l_B12)
    have c_B12 := blk_cell B12.out
    have f_B12 := blk_frozen B12.out
    have l_B12 := (Array.getElem?_eq_some_iff.1 B12.out).1
    go_wp2
    go_ret
    exact ⟨(), rfl, HX.out, trivial⟩
  | true =>
    rw [if_pos rfl] at HB ⊢
    have RX : Hid (CanR w7 ⟨xn, xa, xl, xc, xb, xm, xd⟩ (boundQ a R0 n1)) := Lib.hid (G7.out.2 HB.out)
    clear G7
    go_upto_region 7 with fail
    refine nm_alloc ?_
    intro w8 hE hB0 hz
    have hz_w8 := Nat.le_of_eq hz
    have hr_w8 := Nat.le_of_eq hz.symm
    clear hz
    replace HX := Lib.hid (HX.out.trans hE)
    replace LA := Lib.hid (LA.out.ext hE)
    replace GR := Lib.hid (GR.out.ext hE)
    replace B10 := Lib.hid (hE.block B10.out)
    replace RX := Lib.hid (RX.out.ext hE)
    have hs_w8 := hE.size
    clear hE
    (try clear c_B10 f_B10 l_B10)
    have c_B10 := blk_cell B10.out
    have f_B10 := blk_frozen B10.out
    have l_B10 := (Array.getElem?_eq_some_iff.1 B10.out).1
    have B12 := Lib.hid hB0
    clear hB0
    have c_B12 := blk_cell B12.out
    have f_B12 := blk_frozen B12.out
    have l_B12 := (Array.getElem?_eq_some_iff.1 B12.out).1
    go_wp2_with fail
    refine Calls.mono (inside_any aa an ac a ⟨rn, ra, rl, rc, rb, rm, rd⟩ R0 _ (LA.out.raw ZA.out (by decide)) (GR.out.raw HR0.out (by decide)) (by omega) (ZA.out.mono (by decide)) (HR0.out.mono (by decide)) (fun _ _ _ => HMK.out)) ?_
    rintro e w9 ⟨x9, rfl, hE, -⟩
    replace HX := Lib.hid (HX.out.trans hE)
    replace LA := Lib.hid (LA.out.ext hE)
    replace GR := Lib.hid (GR.out.ext hE)
    replace B10 := Lib.hid (hE.block B10.out)
    replace RX := Lib.hid (RX.out.ext hE)
    replace B12 := Lib.hid (hE.block B12.out)
    have hs_w9 := hE.size
    clear hE
    (try clear c_B10 f_B10 l_B10)
    have c_B10 := blk_cell B10.out
    have f_B10 := blk_frozen B10.out
    have l_B10 := (Array.getElem?_eq_some_iff.1 B10.out).1
    (try clear c_B12 f_B12 l_B12)
    have c_B12 := blk_cell B12.out
    have f_B12 := blk_frozen B12.out
    have l_B12 := (Array.getElem?_eq_some_iff.1 B12.out).1
    rw [HI.out]
    simp only [BF]
    obtain ⟨b12, hb12⟩ : ∃ b12, b12 = w7.heap.size := ⟨_, rfl⟩
    rw [← hb12] at B12 ⊢
    have hb12l : b12 < w9.heap.size := by omega
    have hw9 : w.heap.size ≤ w9.heap.size := by omega
    clear hb12 c_B12 f_B12 l_B12
    have B12s := B12
    have RXs := RX
    have LAs := LA
    have HX0 := HX
    have BD := Lib.hid (HLW.out.bd HI.out)
    have ZH := Lib.hid (HLW.out.hz HI.out)
    have HXb := Lib.hid (Ext.refl w9)
    (try clear c_B12 f_B12 l_B12); clear B12
    clear RX
    clear LA
    clear GR
    (try clear c_B10 f_B10 l_B10); clear B10
    clear HX
    go_upto_region 13 with fail
    go_wp2_with fail
    go_loopg [16, 17] (n1 + 1) (fun g hv jv wr => ∃ (j : Nat) (y : SH), j + g = n1 + 1 ∧ jv = .int .i64 (j : Nat) ∧ hv = y.v ∧ Ext w9 wr ∧ OwnQ wr (w9.heap.size ≤ ·) y.v (hL a j))
    case atStart => exact ⟨0, ⟨none, 0, 0⟩, by omega, rfl, rfl, Ext.refl _, OwnQ.nil _ _⟩
    case round =>
      obtain ⟨j, ⟨ya, yn, yd⟩, hj, rfl, rfl, g1, g2⟩ := hrel
      clear HXb
      have HXb := Lib.hid g1
      have HH := Lib.hid g2
      have hyn := g2.len
      rw [hL_len] at hyn
      simp only at hyn
      subst hyn
      have hszr := g1.size
      clear g1 g2
      simp only [SH.v]
      by_cases h0 : gk = 0
      case pos =>
        subst h0
        obtain rfl : j = n1 + 1 := by omega
        have hji : ¬ ((n1 + 1 : Nat) : Int) ≤ n1 := by omega
        have RH1 := Lib.hid (HH.out.can.raw (ZH.out (n1 + 1) (by omega)) (by decide))
        have B12 := Lib.hid (HXb.out.block B12s.out)
        have RX := Lib.hid ((RXs.out.ext HXb.out).raw (boundQ_sz ZA.out HLW.out.len hn1) (by decide))
        obtain ⟨b1, o1, r1, hya, hl1, ⟨a1, a2, a3⟩, hP1⟩ := RH1.out.cells' (k := n1) (by omega)
        obtain ⟨r1neg, r1a, r1n, r1c, r1b, r1m, r1d⟩ := r1
        simp only at a1 a2 a3
        have Q1 := Lib.hid hP1
        have hle : ¬ boundQ a R0 n1 < ((hL a (n1 + 1)).getD n1 0).abs := by have := BD.out n1 (by omega); exact Rat.not_lt.2 this
        have HLe := Lib.hid hle
        have Sh : Hid (Sz 10 ((hL a (n1 + 1)).getD n1 0).abs) := Lib.hid (abs_sz ((ZH.out (n1 + 1) (by omega)).getD (by decide) n1))
        clear hP1 hle
        subst hya
        (try clear c_B12 f_B12 l_B12)
        have c_B12 := blk_cell B12.out
        have f_B12 := blk_frozen B12.out
        have l_B12 := (Array.getElem?_eq_some_iff.1 B12.out).1
        go_upto_region 24 with fail
        refine wp_region_front 10 (fun opIx => match opIx with
          | 0 => .spec Unit () (fun _ => .bool true) (fun _ _ => True)
          | 7 => .spec RH default RH.v (fun s w' => CanR w' s (((hL a (n1 + 1)).getD n1 0).abs))
          | 8 => .spec Unit () (fun _ => .bool false) (fun _ _ => True)
          | _ => .quiet) (fun | 8 => [7] | _ => []) (by kernel_rfl) (by kernel_rfl) (fun w0 he0 hz0 hc0 hf0 => ?_)
        replace he0 := Lib.hid he0
        simp only [List.take_succ_cons, List.take_zero]
        repeat (refine wpF_quiet rfl rfl rfl (fun K hK => ?_); go_big_quiet_op; refine hK _ ?_; clear hK K)
        refine wpF_spec rfl rfl (fun w1 hw1 hG => ?_) (fun x40 => ?_)
        · have hW := he0.out.trans hw1
          refine spec_call [] rfl rfl Tryz.func19 (by kernel_rfl) (by kernel_rfl) ?_
          exact awake18_any _
        simp only [Act.put, List.setIfInBounds_toArray, List.set_cons_succ, List.set_cons_zero]
        repeat (refine wpF_quiet rfl rfl rfl (fun K hK => ?_); go_big_quiet_op; refine hK _ ?_; clear hK K)
        refine wpF_spec rfl rfl (fun w1 hw1 hG => ?_) (fun x41 => ?_)
        · have hW := he0.out.trans hw1
          refine spec_call [RH.v ⟨r1neg, r1a, r1n, r1c, r1b, r1m, r1d⟩] rfl rfl Tryz.func25 (by kernel_rfl) (by kernel_rfl) ?_
          exact rabs3_any _ _ _ (Q1.out.ext hW)
        simp only [Act.put, List.setIfInBounds_toArray, List.set_cons_succ, List.set_cons_zero]
        repeat (refine wpF_quiet rfl rfl rfl (fun K hK => ?_); go_big_quiet_op; refine hK _ ?_; clear hK K)
        refine wpF_spec rfl rfl (fun w1 hw1 hG => ?_) (fun x42 => ?_)
        · have hW := he0.out.trans hw1
          obtain ⟨wa41, hwa41, g41⟩ : Since _ _ := hG 7 (by decide)
          replace g41 := g41.ext hwa41
          refine spec_call [RH.v ⟨xn, xa, xl, xc, xb, xm, xd⟩, x41.v] rfl rfl Tryz.func24 (by kernel_rfl) (by kernel_rfl) ?_
          exact (by have h := rless3_any ⟨xn, xa, xl, xc, xb, xm, xd⟩ x41 _ _ _ (RX.out.ext hW) (g41.raw Sh.out (by decide)); rw [decide_eq_false HLe.out] at h; exact h)
        simp only [Act.put, List.setIfInBounds_toArray, List.set_cons_succ, List.set_cons_zero]
        repeat (refine wpF_quiet rfl rfl rfl (fun K hK => ?_); go_big_quiet_op; refine hK _ ?_; clear hK K)
        refine wpF_nil ?_
        intro w30 hI
        have hE := he0.out.trans hI.ext
        obtain ⟨wa41, hwa41, g41⟩ : Since _ _ := hI.facts 7
        have G41 := Lib.hid (g41.ext hwa41)
        clear g41 hwa41
        clear hI he0 hz0 hc0 hf0
        replace HXb := Lib.hid (HXb.out.trans hE)
        replace B12 := Lib.hid (hE.block B12.out)
        have hs_w30 := hE.size
        clear hE
        (try clear c_B12 f_B12 l_B12)
        have c_B12 := blk_cell B12.out
        have f_B12 := blk_frozen B12.out
        have l_B12 := (Array.getElem?_eq_some_iff.1 B12.out).1
        simp only [List.drop_succ_cons, List.drop_zero]
        go_wp2
        go_ret
        exact ⟨(), rfl, HX0.out.trans HXb.out, trivial⟩
      have hji : (j : Int) ≤ n1 := by omega
      obtain ⟨g0, hg0⟩ : ∃ g0, g0 = gk := ⟨_, rfl⟩
      have HG0 := Lib.hid hg0
      rw [← hg0] at hj h0
      clear hg0
      replace HH := Lib.hid (HH.out.mono (D' := fun k => w9.heap.size ≤ k ∧ k < wr.heap.size) (fun k hk h => ⟨h, hk⟩))
      go_wp2_with fail
      refine Calls.mono (rof3_any 0 _ (by decide) (by decide)) ?_
      rintro e w20 ⟨x20, rfl, hE, g20⟩
      have G20 := Lib.hid g20
      clear g20
      replace HXb := Lib.hid (HXb.out.trans hE)
      replace HH := Lib.hid (HH.out.ext hE)
      have hs_w20 := hE.size
      clear hE
      obtain ⟨sn, sa, sl, sc, sb, sm', sd⟩ := x20
      go_upto_region 17 with fail
      refine nm_alloc ?_
      intro w21 hE hB0 hz
      have hz_w21 := Nat.le_of_eq hz
      have hr_w21 := Nat.le_of_eq hz.symm
      clear hz
      replace HXb := Lib.hid (HXb.out.trans hE)
      replace HH := Lib.hid (HH.out.ext hE)
      replace G20 := Lib.hid (G20.out.ext hE)
      have hs_w21 := hE.size
      clear hE
      have B18 := Lib.hid hB0
      clear hB0
      have c_B18 := blk_cell B18.out
      have f_B18 := blk_frozen B18.out
      have l_B18 := (Array.getElem?_eq_some_iff.1 B18.out).1
      obtain ⟨b18, hb18⟩ : ∃ b18, b18 = w20.heap.size := ⟨_, rfl⟩
      rw [← hb18] at B18 ⊢
      have hb18w : w9.heap.size ≤ b18 := by omega
      have hb18r : wr.heap.size ≤ b18 := by omega
      clear hb18 c_B18 f_B18 l_B18
      (try clear c_B18 f_B18 l_B18)
      have c_B18 := blk_cell B18.out
      have f_B18 := blk_frozen B18.out
      have l_B18 := (Array.getElem?_eq_some_iff.1 B18.out).1
      go_upto_if 77 with fail
      go_cut [] (fun wc => ∃ t : RH, Ext w9 wc ∧ OwnQ wc (fun k => w9.heap.size ≤ k ∧ k < wr.heap.size) (SH.v ⟨ya, j, yd⟩) (hL a j) ∧ wc.heap[b18]? = some (.cells #[.bool t.neg, .slice t.a t.n t.c, .slice t.b t.m t.d] 30 (0, 0)) ∧ CanR wc t (sV a (hL a j) 0))
      case first =>
        by_cases hj0 : j = 0
        case pos =>
          have hj0b : ((j : Int) == 0) = true := by rw [hj0]; rfl
          have HJ0 := Lib.hid hj0
          clear hj0
          go_wp2_with fail
          refine Calls.mono (rof3_any 1 _ (by decide) (by decide)) ?_
          rintro e w22 ⟨x22, rfl, hE, g22⟩
          have G22 := Lib.hid g22
          clear g22
          replace HXb := Lib.hid (HXb.out.trans hE)
          replace HH := Lib.hid (HH.out.ext hE)
          replace G20 := Lib.hid (G20.out.ext hE)
          replace B18 := Lib.hid (hE.block B18.out)
          have hs_w22 := hE.size
          clear hE
          (try clear c_B18 f_B18 l_B18)
          have c_B18 := blk_cell B18.out
          have f_B18 := blk_frozen B18.out
          have l_B18 := (Array.getElem?_eq_some_iff.1 B18.out).1
          obtain ⟨pn, pa, pl, pc, pb, pm, pd⟩ := x22
          go_wp2_with fail
          refine nm_set3 B18.out rfl ?_
          intro w23 T
          replace HXb := Lib.hid (T.ext HXb.out (by omega))
          replace HH := Lib.hid (HH.out.put T (by intro h; (try dsimp only at h); omega))
          replace G20 := Lib.hid (G20.out.keep T.keep)
          replace B18 := Lib.hid (T.bx)
          replace G22 := Lib.hid (G22.out.keep T.keep)
          have hs_w23 := Nat.le_of_eq T.size
          have hr_w23 := Nat.le_of_eq T.size.symm
          clear T
          (try clear c_B18 f_B18 l_B18)
          have c_B18 := blk_cell B18.out
          have f_B18 := blk_frozen B18.out
          have l_B18 := (Array.getElem?_eq_some_iff.1 B18.out).1
          go_meet
          case rel => exact ⟨⟨pn, pa, pl, pc, pb, pm, pd⟩, HXb.out, HH.out, B18.out, by unfold sV; rw [hL_len, if_pos HJ0.out, show (1 : Rat) - sm 0 (sF a (hL a j)) = ((1 : Int) : Rat) from by show (1 : Rat) - 0 = 1; grind]; exact G22.out⟩
        have hj0b : ((j : Int) == 0) = false := by rw [beq_eq_false_iff_ne]; omega
        go_wp2
        go_meet
        case rel => exact ⟨⟨sn, sa, sl, sc, sb, sm', sd⟩, HXb.out, HH.out, B18.out, by unfold sV; rw [hL_len, if_neg hj0, show (0 : Rat) - sm 0 (sF a (hL a j)) = ((0 : Int) : Rat) from by show (0 : Rat) - 0 = 0; grind]; exact G20.out⟩
      case rest =>
        obtain ⟨⟨tn, ta, tl, tc, tb, tm, td⟩, g1, g2, g3, g4⟩ := hcut
        obtain ⟨M, hM⟩ : ∃ M, M = min j (an - 1) := ⟨_, rfl⟩
        have hMj : M ≤ j := by omega
        have hMa : M ≤ an - 1 := by omega
        have hMd : M = j ∨ M = an - 1 := by omega
        have HM := Lib.hid hM
        clear hM HXb HH B18
        go_upto_block 2 with fail
        go_cut [] (fun wd => ∃ t : RH, Ext w9 wd ∧ OwnQ wd (fun k => w9.heap.size ≤ k ∧ k < wr.heap.size) (SH.v ⟨ya, j, yd⟩) (hL a j) ∧ wd.heap[b18]? = some (.cells #[.bool t.neg, .slice t.a t.n t.c, .slice t.b t.m t.d] 30 (0, 0)) ∧ CanR wd t (sV a (hL a j) M))
        case first =>
          go_wp2_with fail
          go_loopg [19] M (fun g qv we => ∃ (k : Nat) (t : RH), k + g = M ∧ qv = .int .i64 ((k + 1 : Nat) : Int) ∧ Ext w9 we ∧ OwnQ we (fun k => w9.heap.size ≤ k ∧ k < wr.heap.size) (SH.v ⟨ya, j, yd⟩) (hL a j) ∧ we.heap[b18]? = some (.cells #[.bool t.neg, .slice t.a t.n t.c, .slice t.b t.m t.d] 30 (0, 0)) ∧ CanR we t (sV a (hL a j) k))
          case atStart => exact ⟨0, ⟨tn, ta, tl, tc, tb, tm, td⟩, by omega, rfl, g1, g2, g3, g4⟩
          case round =>
            obtain ⟨k, ⟨un, ua, ul, uc, ub, um, ud⟩, hk, rfl, i1, i2, i3, i4⟩ := hrel
            have HXe := Lib.hid i1
            have HHe := Lib.hid i2
            have B18e := Lib.hid i3
            have GU := Lib.hid i4
            clear i1 i2 i3 i4 g1 g2 g3 g4
            by_cases h1 : gk = 0
            case pos =>
              subst h1
              obtain rfl : k = M := by omega
              by_cases h2 : k + 1 ≤ j
              case pos =>
                have h2i : ((k + 1 : Nat) : Int) ≤ j := by omega
                have h3i : ¬ ((k + 1 : Nat) : Int) < an := by omega
                go_wp2
                go_meet
                case rel => exact ⟨⟨un, ua, ul, uc, ub, um, ud⟩, HXe.out, HHe.out, B18e.out, GU.out⟩
              have h2i : ¬ ((k + 1 : Nat) : Int) ≤ j := by omega
              go_wp2
              go_meet
              case rel => exact ⟨⟨un, ua, ul, uc, ub, um, ud⟩, HXe.out, HHe.out, B18e.out, GU.out⟩
            have h2i : ((k + 1 : Nat) : Int) ≤ j := by omega
            have h3i : ((k + 1 : Nat) : Int) < an := by omega
            have hsub : (j : Int) - ((k + 1 : Nat) : Int) = ((j - (k + 1) : Nat) : Int) := by omega
            obtain ⟨b1, o1, r1, haa, hl1, ⟨a1, a2, a3⟩, hP1⟩ := ((LAs.out.ext HXe.out).raw ZA.out (by decide)).cells' (k := k + 1) (by omega)
            obtain ⟨b2, o2, r2, hyy, hl2, ⟨a4, a5, a6⟩, hP2⟩ := (HHe.out.can.raw (ZH.out j (by omega)) (by decide)).cells' (k := j - (k + 1)) (by omega)
            obtain ⟨r1neg, r1a, r1n, r1c, r1b, r1m, r1d⟩ := r1
            obtain ⟨r2neg, r2a, r2n, r2c, r2b, r2m, r2d⟩ := r2
            simp only at a1 a2 a3 a4 a5 a6
            have Q1 := Lib.hid hP1
            have Q2 := Lib.hid hP2
            have EF : Hid (sF a (hL a j) k = a.getD (k + 1) 0 * (hL a j).getD (j - (k + 1)) 0) := Lib.hid (by unfold sF; rw [hL_len, show j - 1 - k = j - (k + 1) by omega])
            have S1 : Hid (Sz 12 (sF a (hL a j) k)) := Lib.hid ((ZA.out.getD (by decide) _).mul ((ZH.out j (by omega)).getD (by decide) _))
            have S2 := Lib.hid ((sV_sz ZA.out (ZH.out j (by omega)) k).mono (show 1 + k * 13 ≤ 1000 by omega))
            clear hP1 hP2
            subst haa hyy
            (try clear c_B18e f_B18e l_B18e)
            have c_B18e := blk_cell B18e.out
            have f_B18e := blk_frozen B18e.out
            have l_B18e := (Array.getElem?_eq_some_iff.1 B18e.out).1
            go_upto_region 22 with fail
            refine wp_region_front 13 (fun opIx => match opIx with
              | 11 => .spec RH default RH.v (fun s w' => CanR w' s (sF a (hL a j) k))
              | 12 => .spec RH default RH.v (fun s w' => CanR w' s (sV a (hL a j) (k + 1)))
              | _ => .quiet) (fun | 12 => [11] | _ => []) (by kernel_rfl) (by kernel_rfl) (fun w0 he0 hz0 hc0 hf0 => ?_)
            replace he0 := Lib.hid he0
            simp only [List.take_succ_cons, List.take_zero]
            repeat (refine wpF_quiet rfl rfl rfl (fun K hK => ?_); go_big_quiet_op; refine hK _ ?_; clear hK K)
            refine wpF_spec rfl rfl (fun w1 hw1 hG => ?_) (fun x51 => ?_)
            · have hW := he0.out.trans hw1
              refine spec_call [RH.v ⟨r1neg, r1a, r1n, r1c, r1b, r1m, r1d⟩, RH.v ⟨r2neg, r2a, r2n, r2c, r2b, r2m, r2d⟩] rfl rfl Tryz.func22 (by kernel_rfl) (by kernel_rfl) ?_
              exact (by rw [EF.out]; exact rmul3_any _ _ _ _ _ (Q1.out.ext hW) (Q2.out.ext hW))
            simp only [Act.put, List.setIfInBounds_toArray, List.set_cons_succ, List.set_cons_zero]
            repeat (refine wpF_quiet rfl rfl rfl (fun K hK => ?_); go_big_quiet_op; refine hK _ ?_; clear hK K)
            refine wpF_spec rfl rfl (fun w1 hw1 hG => ?_) (fun x52 => ?_)
            · have hW := he0.out.trans hw1
              obtain ⟨wa51, hwa51, g51⟩ : Since _ _ := hG 11 (by decide)
              replace g51 := g51.ext hwa51
              refine spec_call [RH.v ⟨un, ua, ul, uc, ub, um, ud⟩, x51.v] rfl rfl Tryz.func21 (by kernel_rfl) (by kernel_rfl) ?_
              exact (by rw [sV_next]; exact rsub3_any ⟨un, ua, ul, uc, ub, um, ud⟩ x51 _ _ _ ((GU.out.ext hW).raw S2.out (by decide)) (g51.raw S1.out (by decide)))
            simp only [Act.put, List.setIfInBounds_toArray, List.set_cons_succ, List.set_cons_zero]
            repeat (refine wpF_quiet rfl rfl rfl (fun K hK => ?_); go_big_quiet_op; refine hK _ ?_; clear hK K)
            refine wpF_nil ?_
            intro w32 hI
            have hE := he0.out.trans hI.ext
            obtain ⟨wa51, hwa51, g51⟩ : Since _ _ := hI.facts 11
            have G51 := Lib.hid (g51.ext hwa51)
            clear g51 hwa51
            obtain ⟨wa52, hwa52, g52⟩ : Since _ _ := hI.facts 12
            have G52 := Lib.hid (g52.ext hwa52)
            clear g52 hwa52
            clear hI he0 hz0 hc0 hf0
            replace HXe := Lib.hid (HXe.out.trans hE)
            replace HHe := Lib.hid (HHe.out.ext hE)
            replace B18e := Lib.hid (hE.block B18e.out)
            replace GU := Lib.hid (GU.out.ext hE)
            have hs_w32 := hE.size
            clear hE
            (try clear c_B18e f_B18e l_B18e)
            have c_B18e := blk_cell B18e.out
            have f_B18e := blk_frozen B18e.out
            have l_B18e := (Array.getElem?_eq_some_iff.1 B18e.out).1
            simp only [List.drop_succ_cons, List.drop_zero]
            clear G51
            obtain ⟨vn, va, vl, vc, vb, vm, vd⟩ := x52
            go_upto_region 21 with fail
            refine nm_set3 B18e.out rfl ?_
            intro w33 T
            replace HXe := Lib.hid (T.ext HXe.out (by omega))
            replace HHe := Lib.hid (HHe.out.put T (by intro h; (try dsimp only at h); omega))
            replace B18e := Lib.hid (T.bx)
            replace GU := Lib.hid (GU.out.keep T.keep)
            replace G52 := Lib.hid (G52.out.keep T.keep)
            have hs_w33 := Nat.le_of_eq T.size
            have hr_w33 := Nat.le_of_eq T.size.symm
            clear T
            (try clear c_B18e f_B18e l_B18e)
            have c_B18e := blk_cell B18e.out
            have f_B18e := blk_frozen B18e.out
            have l_B18e := (Array.getElem?_eq_some_iff.1 B18e.out).1
            go_wp2
            go_roundg (gk - 1)
            case measure => omega
            case rel => exact ⟨k + 1, ⟨vn, va, vl, vc, vb, vm, vd⟩, by omega, by go_num, HXe.out, HHe.out, B18e.out, G52.out⟩
        case rest =>
          obtain ⟨⟨un, ua, ul, uc, ub, um, ud⟩, i1, i2, i3, i4⟩ := hcut
          clear g1 g2 g3 g4
          have HXe := Lib.hid i1
          have HHe := Lib.hid (OwnQ.mono i2 (D' := (w9.heap.size ≤ ·)) (fun k _ h => h.1))
          have B18e := Lib.hid i3
          have GU := Lib.hid i4
          clear i1 i2 i3 i4
          obtain ⟨b1, o1, r1, haa, hl1, ⟨a1, a2, a3⟩, hP1⟩ := ((LAs.out.ext HXe.out).raw ZA.out (by decide)).cells' (k := 0) (by omega)
          obtain ⟨r1neg, r1a, r1n, r1c, r1b, r1m, r1d⟩ := r1
          simp only [Nat.zero_mul, Nat.add_zero] at a1 a2 a3
          have Q1 := Lib.hid hP1
          have EH : Hid (sV a (hL a j) M / a.getD 0 0 = hN a (hL a j)) := Lib.hid (by rw [HM.out, ← HAn.out]; have := sV_hN a (hL a j); rwa [hL_len] at this)
          have S2 := Lib.hid ((sV_sz ZA.out (ZH.out j (by omega)) M).mono (show 1 + M * 13 ≤ 1000 by omega))
          clear hP1
          subst haa
          (try clear c_B18e f_B18e l_B18e)
          have c_B18e := blk_cell B18e.out
          have f_B18e := blk_frozen B18e.out
          have l_B18e := (Array.getElem?_eq_some_iff.1 B18e.out).1
          go_upto_region 23 with fail
          refine wp_region_front 7 (fun opIx => match opIx with
            | 5 => .spec RH default RH.v (fun s w' => CanR w' s (hN a (hL a j)))
            | 6 => .spec (Nat × RH) ((0, default)) (fun p => .slice (some ⟨p.1, 0, none⟩) 1 1) (fun p w' => BQ wc.heap.size (hN a (hL a j)) p w')
            | _ => .quiet) (fun | 6 => [5] | _ => []) (by kernel_rfl) (by kernel_rfl) (fun w0 he0 hz0 hc0 hf0 => ?_)
          replace he0 := Lib.hid he0
          simp only [List.take_succ_cons, List.take_zero]
          repeat (refine wpF_quiet rfl rfl rfl (fun K hK => ?_); go_big_quiet_op; refine hK _ ?_; clear hK K)
          refine wpF_spec rfl rfl (fun w1 hw1 hG => ?_) (fun x61 => ?_)
          · have hW := he0.out.trans hw1
            refine spec_call [RH.v ⟨un, ua, ul, uc, ub, um, ud⟩, RH.v ⟨r1neg, r1a, r1n, r1c, r1b, r1m, r1d⟩] rfl rfl Tryz.func23 (by kernel_rfl) (by kernel_rfl) ?_
            exact (by rw [← EH.out]; exact rover3_any ⟨un, ua, ul, uc, ub, um, ud⟩ _ _ _ _ ((GU.out.ext hW).raw S2.out (by decide)) (Q1.out.ext hW))
          simp only [Act.put, List.setIfInBounds_toArray, List.set_cons_succ, List.set_cons_zero]
          repeat (refine wpF_quiet rfl rfl rfl (fun K hK => ?_); go_big_quiet_op; refine hK _ ?_; clear hK K)
          refine wpF_spec rfl rfl (fun w1 hw1 hG => ?_) (fun x62 => ?_)
          · have hW := he0.out.trans hw1
            obtain ⟨wa61, hwa61, g61⟩ : Since _ _ := hG 5 (by decide)
            replace g61 := g61.ext hwa61
            exact spec_bq (r := x61) hW.size g61 (by simp [execOp, go_sem])
          simp only [Act.put, List.setIfInBounds_toArray, List.set_cons_succ, List.set_cons_zero]
          repeat (refine wpF_quiet rfl rfl rfl (fun K hK => ?_); go_big_quiet_op; refine hK _ ?_; clear hK K)
          refine wpF_nil ?_
          intro w35 hI
          have hE := he0.out.trans hI.ext
          obtain ⟨wa61, hwa61, g61⟩ : Since _ _ := hI.facts 5
          have G61 := Lib.hid (g61.ext hwa61)
          clear g61 hwa61
          obtain ⟨wa62, hwa62, g62⟩ : Since _ _ := hI.facts 6
          have G62 := Lib.hid (g62.ext hwa62)
          clear g62 hwa62
          clear hI he0 hz0 hc0 hf0
          replace HXe := Lib.hid (HXe.out.trans hE)
          replace HHe := Lib.hid (HHe.out.ext hE)
          replace B18e := Lib.hid (hE.block B18e.out)
          replace GU := Lib.hid (GU.out.ext hE)
          have hs_w35 := hE.size
          clear hE
          (try clear c_B18e f_B18e l_B18e)
          have c_B18e := blk_cell B18e.out
          have f_B18e := blk_frozen B18e.out
          have l_B18e := (Array.getElem?_eq_some_iff.1 B18e.out).1
          simp only [List.drop_succ_cons, List.drop_zero]
          obtain ⟨N62, r62⟩ := x62
          clear G61
          (try clear c_B18e f_B18e l_B18e); clear B18e
          clear GU
          have hl35 := HXe.out.size
          go_wp2_with (at_builtin; refine wpList_append_q rfl (.tmp 103) (.tmp 109) 22 Tryz.underlying22 rfl (w9.heap.size ≤ ·) _ (hL a j) r62 (hN a (hL a j)) N62 rfl HHe.out rfl (rbk_one G62.out.1.2 rfl) G62.out.2 (by rw [hL_len]; omega) (fun k hk => by omega) ?_; intro s' y36 q1 q2 q3)
          have HX4 := Lib.hid (Ext.mods HXe.out q2 (fun k h => h))
          have HH4 : Hid (OwnQ y36 (w9.heap.size ≤ ·) s'.v (hL a (j + 1))) := Lib.hid q1
          clear q1 q2 q3 G62 hl35
          go_wp2
          go_roundg (g0 - 1)
          case measure => have := HG0.out; omega
          case rel => exact ⟨j + 1, s', by have := HG0.out; omega, by go_num, rfl, HX4.out, HH4.out⟩
end Go.Proofs.YteafdebcihbjdaaGreat
