/- Fb, Crs, Amp, Awk8 -/
import Derived.Test.YtbcamhfoemnmgaaGreatM12
set_option linter.unusedVariables false
/- FromBasis of package chebyshev. -/
namespace Go.Proofs.YtbcamhfoemnmgaaGreat
open Go.RowKit Go.Front Go.Num
attribute [local go_sem] XW.cell XW.frozen
theorem com_ne (l : List Rat) : comV l ≠ 0 := by
  induction l using Stab.snoc_ind with
  | h0 => exact (by decide : (1 : Rat) ≠ 0)
  | h1 l x ih =>
    rw [comV_snoc]
    unfold comS
    intro h
    rcases Rat.mul_eq_zero.1 h with h1 | h1
    · exact ih h1
    · have h2 : (comV l * x).den = 0 := by
        have : (((comV l * x).den : Int) : Rat) = ((0 : Int) : Rat) := h1
        have := Rat.intCast_inj.1 this
        omega
      exact absurd h2 (comV l * x).den_nz
theorem map_getD {l : List Rat} {f : Rat → Rat} {i : Nat} (h : i < l.length) : (l.map f).getD i 0 = f (l.getD i 0) := by simp [h]
theorem getD_set_q {os : List Rat} {i : Nat} (h : i < os.length) (m : Nat) (z : Rat) : (os.set i z).getD m 0 = if m = i then z else os.getD m 0 := by
  by_cases he : m = i
  · subst he
    rw [if_pos rfl]
    simp [h]
  · rw [if_neg he, List.getD_eq_getElem?_getD, List.getElem?_set_ne (Ne.symm he), ← List.getD_eq_getElem?_getD]
theorem pair0_any (w : World) : Does 57 [.int .i64 0] w PF (fun x w' => NewL w.heap.size w' x.1 (chP 0).1 ∧ NewL w.heap.size w' x.2 (chP 0).2) := pair_any 0 w (by decide)
theorem Tf_sz {k i : Nat} (hk : k ≤ 60) : Sz 4 (Tf k i) := (chP_sz hk).1.getD (by decide) i
theorem OutB.put {w1 w2 : World} {L B b : Nat} {os : List Rat} {T : TypeId} {cs : Array Value} (h : OutB w1 L os B) (T2 : PutB w1 b T cs w2) (hb : b ≠ L) : OutB w2 L os B := by
  obtain ⟨rs, h1, h2, h3⟩ := h
  exact ⟨rs, T2.rest L _ (Ne.symm hb) h1, h2.rawkeep T2.keep, h3⟩
/-- The sums so far: j numbers whole, and one more up to the place i. -/
def fbO (cs : List Rat) (S : Rat) (j i m : Nat) : Rat := Stab.sm (if m < i then j + 1 else j) (fun k => cs.getD k 0 * S * Tf k m)
theorem fbO_next {cs : List Rat} {S : Rat} {j m : Nat} : fbO cs S (j + 1) 0 m = fbO cs S j (j + 1) m := by
  unfold fbO
  rw [if_neg (by omega)]
  by_cases h : m < j + 1
  · rw [if_pos h]
  · rw [if_neg h]
    show Stab.sm j _ + cs.getD j 0 * S * Tf j m = _
    rw [(Tf_over j).1 m (by omega)]
    grind
theorem fbO_sz {cs : List Rat} {S : Rat} {s c j i m : Nat} (hz : SzL s cs) (hs : 1 ≤ s) (hS : Sz c S) (hj : j ≤ 12) (hsc : s + c ≤ 4259840) : Sz 60000000 (fbO cs S j i m) := by
  unfold fbO
  refine (sm_sz (t := s + c + 4) (fun k hk => ((hz.getD hs k).mul hS).mul (Tf_sz (by split at hk <;> omega)))).mono ?_
  have : (if m < i then j + 1 else j) * (s + c + 4 + 1) ≤ 13 * 4259845 := Nat.mul_le_mul (by split <;> omega) (by omega)
  omega
theorem fbO_set {cs os : List Rat} {S : Rat} {n j i : Nat} (hl : os.length = n) (h : ∀ m, m < n → os.getD m 0 = fbO cs S j i m) (hi : i < n) : ∀ m, m < n → (os.set i (os.getD i 0 + cs.getD j 0 * S * Tf j i)).getD m 0 = fbO cs S j (i + 1) m := by
  intro m hm
  by_cases he : m = i
  · subst he
    rw [show (os.set m (os.getD m 0 + cs.getD j 0 * S * Tf j m)).getD m 0 = os.getD m 0 + cs.getD j 0 * S * Tf j m by simp [hl, hm], h m hm]
    unfold fbO
    rw [if_neg (by omega), if_pos (by omega)]
    rfl
  · rw [show (os.set i (os.getD i 0 + cs.getD j 0 * S * Tf j i)).getD m 0 = os.getD m 0 by rw [List.getD_eq_getElem?_getD, List.getElem?_set_ne (Ne.symm he), ← List.getD_eq_getElem?_getD], h m hm]
    unfold fbO
    by_cases h1 : m < i
    · rw [if_pos h1, if_pos (by omega)]
    · rw [if_neg h1, if_neg (by omega)]
theorem fbO_here (cs : List Rat) (S : Rat) (j k : Nat) : fbO cs S j k k + cs.getD j 0 * S * Tf j k = fbO cs S j (k + 1) k := by
  unfold fbO
  rw [if_neg (by omega), if_pos (by omega)]
  rfl
theorem fbO_end {cs os : List Rat} {S : Rat} {n : Nat} (hn : cs.length = n) (hl : os.length = n) (hS : S ≠ 0) (h : ∀ m, m < n → os.getD m 0 = fbO cs S n 0 m) : tz (os.map (· / S)) = fbV cs := by
  unfold fbV
  apply tz_ext
  intro i
  rw [range_getD, hn]
  split
  · rename_i hi
    rw [map_getD (by omega), h i hi]
    unfold fbO fbS
    rw [if_neg (by omega), hn, Stab.sm_congr (g := fun k => S * (cs.getD k 0 * Tf k i)) (fun k _ => by grind), Stab.sm_mul, Rat.mul_comm, Rat.div_def, Rat.mul_assoc, Rat.mul_inv_cancel _ hS, Rat.mul_one]
  · rw [getD_over' (by simp; omega)]
set_option maxRecDepth 8000 in
set_option maxHeartbeats 4000000 in
theorem frombasis_any (ao : Option Addr) (n cap : Nat) (cs : List Rat) (s : Nat) (w : World) (h : RawL w ⟨ao, n, cap⟩ cs) (hn : n ≤ 12) (hz : SzL s cs) (hs1 : 1 ≤ s) (hs : s ≤ 65536) (hg : cg s n ≤ 4194304) :
    Does 23 [.slice ao n cap] w RF (fun x w' => x.2 = 0 ∧ CanL w' x.1 (fbV cs)) := by
  obtain ⟨i0, hi0, hz0, hz1, hz2⟩ := info_parts infoR
  have H := Lib.hid h
  have HX := Lib.hid (Ext.refl w)
  have hle := h.le
  have hmx := h.max
  have Hlen := Lib.hid h.len
  simp only at hle hmx Hlen
  have HZ := Lib.hid hz
  have ZS : Hid (Sz 4194304 (comV cs)) := Lib.hid (by
    have h0 := com_sz hz n (by rw [Hlen.out]; exact Nat.le_refl _)
    rw [List.take_of_length_le (by rw [Hlen.out]; exact Nat.le_refl _)] at h0
    exact h0.mono hg)
  have SN := Lib.hid (com_ne cs)
  have hcall := common_any ao n cap cs s w h (by omega) hz hg (by omega)
  obtain ⟨S, hS⟩ : ∃ S, S = comV cs := ⟨_, rfl⟩
  rw [← hS] at ZS SN hcall
  have HC := Lib.hid hcall
  have HOz : Hid (∀ j i m, j ≤ n → Sz 60000000 (fbO cs S j i m)) := Lib.hid (fun j i m hj => fbO_sz hz hs1 ZS.out (by omega) (by omega))
  clear h hz hS hcall
  unfold Does
  go_enter Tryz.func23, Tryz.ntmps23
  go_wp2_with fail
  refine Calls.mono (HC.out) ?_
  rintro e w1 ⟨x1, rfl, hE, g1⟩
  have G1 := Lib.hid g1
  clear g1
  replace HX := Lib.hid (HX.out.trans hE)
  have hs_w1 := hE.size
  clear hE
  go_upto_region 4 with fail
  refine nm_alloc ?_
  intro y2 hE hB0 hz
  have hz_y2 := Nat.le_of_eq hz
  have hr_y2 := Nat.le_of_eq hz.symm
  clear hz
  replace HX := Lib.hid (HX.out.trans hE)
  replace G1 := Lib.hid (G1.out.ext hE)
  have hs_y2 := hE.size
  clear hE
  have B4 := Lib.hid hB0
  clear hB0
  have c_B4 := blk_cell B4.out
  have f_B4 := blk_frozen B4.out
  have l_B4 := (Array.getElem?_eq_some_iff.1 B4.out).1
  go_upto_region 5 with (refine wpList_make rfl (.tmp 19) (.tmp 19) 33 rfl 30 i0 (RH.v default) 3 Tryz.underlying33 hi0 hz0 hz1 _ _ n rfl rfl (by omega) (by omega) (by rw [hz2]; omega) (by omega) ?_; intro w3 hnew hE)
  have HOB0 := Lib.hid (OutB.start (RBk.make rfl hnew))
  clear hnew
  replace HX := Lib.hid (HX.out.trans hE)
  replace G1 := Lib.hid (G1.out.ext hE)
  replace B4 := Lib.hid (hE.block B4.out)
  have hs_w3 := hE.size
  clear hE
  (try clear c_B4 f_B4 l_B4)
  have c_B4 := blk_cell B4.out
  have f_B4 := blk_frozen B4.out
  have l_B4 := (Array.getElem?_eq_some_iff.1 B4.out).1
  obtain ⟨sn, sa, sl, sc, sb, sm, sd⟩ := x1
  obtain ⟨b4, hb4⟩ : ∃ b4, b4 = w1.heap.size := ⟨_, rfl⟩
  obtain ⟨L, hL⟩ : ∃ L, L = y2.heap.size := ⟨_, rfl⟩
  have hLw : w.heap.size ≤ L := by omega
  have hbw : w.heap.size ≤ b4 := by omega
  have hne : b4 ≠ L := by omega
  rw [← hb4] at B4 ⊢
  rw [← hL] at HOB0 ⊢
  have RS0 := Lib.hid (G1.out.raw ZS.out (by decide))
  have HOB : Hid (OutB w3 L (List.replicate n 0) 60000000) := Lib.hid (let ⟨rs, h1, h2, h3⟩ := HOB0.out; ⟨rs, h1, h2, h3.mono (by decide)⟩)
  clear hb4 hL c_B4 f_B4 l_B4 HOB0 G1
  go_wp2
  go_loopg [23] n (fun g v wr => ∃ (i : Nat) (os : List Rat), i + g = n ∧ v = .int .i64 (i : Nat) ∧ Ext w wr ∧ RawR wr ⟨sn, sa, sl, sc, sb, sm, sd⟩ S ∧ wr.heap[b4]? = some (.cells #[.bool sn, .slice sa sl sc, .slice sb sm sd] 30 (0, 0)) ∧ OutB wr L os 60000000 ∧ os.length = n ∧ ∀ m, m < n → os.getD m 0 = 0)
  case atStart => exact ⟨0, _, by omega, rfl, HX.out, RS0.out, B4.out, HOB.out, by simp, fun m hm => by simp [hm]⟩
  case round =>
    obtain ⟨i, os, hi, rfl, g1, g2, g3, g4, g5, g6⟩ := hrel
    clear HX RS0 B4 HOB
    have HX := Lib.hid g1
    have RS0 := Lib.hid g2
    have B4 := Lib.hid g3
    have HOB := Lib.hid g4
    have HOl := Lib.hid g5
    have HOv := Lib.hid g6
    clear g1 g2 g3 g4 g5 g6
    (try clear c_B4 f_B4 l_B4)
    have c_B4 := blk_cell B4.out
    have f_B4 := blk_frozen B4.out
    have l_B4 := (Array.getElem?_eq_some_iff.1 B4.out).1
    by_cases h0 : gk = 0
    case neg =>
      have hin : (i : Int) < n := by omega
      go_wp2_with fail
      refine Calls.mono (rof_any 0 _ (by decide) (by decide)) ?_
      rintro e w2 ⟨x2, rfl, hE, g2⟩
      have G2 := Lib.hid g2
      clear g2
      replace HX := Lib.hid (HX.out.trans hE)
      replace RS0 := Lib.hid (RS0.out.ext hE)
      replace HOB := Lib.hid (HOB.out.ext hE)
      replace B4 := Lib.hid (hE.block B4.out)
      have hs_w2 := hE.size
      clear hE
      (try clear c_B4 f_B4 l_B4)
      have c_B4 := blk_cell B4.out
      have f_B4 := blk_frozen B4.out
      have l_B4 := (Array.getElem?_eq_some_iff.1 B4.out).1
      have hfr : ∀ x, w2.frozen? ⟨L, x, none⟩ = false := let ⟨_, h1, _⟩ := HOB.out; h1.frozen
      have hLl := HOB.out.lt
      obtain ⟨ro, ⟨e1, e2, e3⟩, -⟩ := HOB.out.cells (k := i) (by rw [HOl.out]; omega)
      go_upto_region 9 with fail
      refine nm_out (k := i) (x := x2) HOB.out (by rw [HOl.out]; omega) (G2.out.raw (Sz.zero (k := 1) (by decide)) (by decide)) ((Sz.zero (k := 1) (by decide)).mono (by decide)) (Nat.le_refl _) ?_
      intro w6 hT hOB6
      obtain ⟨cs', T⟩ := hT
      have HOB6 := Lib.hid hOB6
      have HX6 := Lib.hid (T.ext HX.out (by omega))
      have B46 := Lib.hid (T.rest _ _ (by omega) B4.out)
      have RS6 := Lib.hid (RS0.out.keep T.keep)
      clear T hOB6
      go_wp2
      go_roundg (gk - 1)
      case measure => omega
      case rel => exact ⟨i + 1, _, by omega, by go_num, HX6.out, RS6.out, B46.out, HOB6.out, by rw [List.length_set]; exact HOl.out, fun m hm => by
        rw [getD_set_q (by rw [HOl.out]; omega)]
        split
        · rfl
        · exact HOv.out m hm⟩
    subst h0
    obtain rfl : i = n := by omega
    have hLl := HOB.out.lt
    go_wp2_with fail
    refine Calls.mono (pair0_any _) ?_
    rintro e w3 ⟨x3, rfl, hE, g3⟩
    have G3 := Lib.hid g3
    clear g3
    replace HX := Lib.hid (HX.out.trans hE)
    replace RS0 := Lib.hid (RS0.out.ext hE)
    replace HOB := Lib.hid (HOB.out.ext hE)
    replace B4 := Lib.hid (hE.block B4.out)
    have hs_w3 := hE.size
    clear hE
    (try clear c_B4 f_B4 l_B4)
    have c_B4 := blk_cell B4.out
    have f_B4 := blk_frozen B4.out
    have l_B4 := (Array.getElem?_eq_some_iff.1 B4.out).1
    obtain ⟨⟨pa, pn, pc⟩, ⟨qa, qn, qc⟩⟩ := x3
    have LP := Lib.hid (G3.out.1.mono (B' := L + 1) hLl)
    have LQ := Lib.hid (G3.out.2.mono (B' := L + 1) hLl)
    clear G3 hLl
    simp only [PF, SH.v]
    have HOv0 : Hid (∀ m, m < i → os.getD m 0 = fbO cs S 0 0 m) := Lib.hid (fun m hm => by rw [HOv.out m hm]; unfold fbO; rw [if_neg (by omega)]; rfl)
    clear HOv
    go_wp2
    go_loopg [7, 8, 37] i (fun g u v z wr => ∃ (j : Nat) (x y : SH) (os : List Rat), u = x.v ∧ v = y.v ∧ j + g = i ∧ z = .int .i64 (j : Nat) ∧ Ext w wr ∧ RawR wr ⟨sn, sa, sl, sc, sb, sm, sd⟩ S ∧ wr.heap[b4]? = some (.cells #[.bool sn, .slice sa sl sc, .slice sb sm sd] 30 (0, 0)) ∧ OutB wr L os 60000000 ∧ os.length = i ∧ (∀ m, m < i → os.getD m 0 = fbO cs S j 0 m) ∧ NewL (L + 1) wr x (chP j).1 ∧ NewL (L + 1) wr y (chP j).2)
    case atStart => exact ⟨0, ⟨pa, pn, pc⟩, ⟨qa, qn, qc⟩, os, rfl, rfl, by omega, rfl, HX.out, RS0.out, B4.out, HOB.out, HOl.out, HOv0.out, LP.out, LQ.out⟩
    case round =>
      obtain ⟨j, ⟨pa, pn, pc⟩, ⟨qa, qn, qc⟩, os, rfl, rfl, hj, rfl, g1, g2, g3, g4, g5, g6, g7, g8⟩ := hrel
      clear HX RS0 B4 HOB HOl HOv0 LP LQ
      have HX := Lib.hid g1
      have RS0 := Lib.hid g2
      have B4 := Lib.hid g3
      have HOB := Lib.hid g4
      have HOl := Lib.hid g5
      have HOv := Lib.hid g6
      have LP := Lib.hid g7
      have LQ := Lib.hid g8
      clear g1 g2 g3 g4 g5 g6 g7 g8
      simp only [SH.v]
      have hpn := LP.out.len
      have hqn := LQ.out.len
      have hcl := (chP_len j).2
      rw [chA_len] at hpn
      simp only at hpn hqn
      subst hpn
      have hp1 := LP.out.can.le
      have hp2 := LP.out.can.max
      have hszw := HX.out.size
      simp only at hp1 hp2
      (try clear c_B4 f_B4 l_B4)
      have c_B4 := blk_cell B4.out
      have f_B4 := blk_frozen B4.out
      have l_B4 := (Array.getElem?_eq_some_iff.1 B4.out).1
      by_cases h0 : gk = 0
      case pos =>
        subst h0
        obtain rfl : j = i := by omega
        have HSz : Hid (SzL 60000000 os) := Lib.hid (let ⟨_, _, _, h3⟩ := HOB.out; h3)
        have RO := Lib.hid (HOB.out.raw HOl.out (by omega))
        go_wp2_with fail
        refine Calls.mono (divided_any (some ⟨L, 0, none⟩) j j os ⟨sn, sa, sl, sc, sb, sm, sd⟩ S _ RO.out RS0.out SN.out (by omega)) ?_
        rintro e w20 ⟨x20, rfl, hE, g20⟩
        have G20 := Lib.hid g20
        clear g20
        replace HX := Lib.hid (HX.out.trans hE)
        replace RS0 := Lib.hid (RS0.out.ext hE)
        replace HOB := Lib.hid (HOB.out.ext hE)
        replace LP := Lib.hid (LP.out.ext hE)
        replace LQ := Lib.hid (LQ.out.ext hE)
        replace B4 := Lib.hid (hE.block B4.out)
        have hs_w20 := hE.size
        clear hE
        (try clear c_B4 f_B4 l_B4)
        have c_B4 := blk_cell B4.out
        have f_B4 := blk_frozen B4.out
        have l_B4 := (Array.getElem?_eq_some_iff.1 B4.out).1
        obtain ⟨da, dn, dc⟩ := x20
        have hdn := G20.out.len
        rw [List.length_map, HOl.out] at hdn
        simp only at hdn
        subst hdn
        simp only [SH.v]
        go_wp2_with fail
        refine Calls.mono (ptrim_any da j dc (os.map (· / S)) _ (G20.out.can.raw (k := 64194304) (fun q hq => by obtain ⟨y, hy, rfl⟩ := List.mem_map.1 hq; exact ((HSz.out y hy).div ZS.out).mono (by decide)) (by decide)) (by omega)) ?_
        rintro e w21 ⟨x21, rfl, hE, g21⟩
        have G21 := Lib.hid g21
        clear g21
        replace HX := Lib.hid (HX.out.trans hE)
        replace RS0 := Lib.hid (RS0.out.ext hE)
        replace HOB := Lib.hid (HOB.out.ext hE)
        replace LP := Lib.hid (LP.out.ext hE)
        replace LQ := Lib.hid (LQ.out.ext hE)
        replace B4 := Lib.hid (hE.block B4.out)
        replace G20 := Lib.hid (G20.out.ext hE)
        have hs_w21 := hE.size
        clear hE
        (try clear c_B4 f_B4 l_B4)
        have c_B4 := blk_cell B4.out
        have f_B4 := blk_frozen B4.out
        have l_B4 := (Array.getElem?_eq_some_iff.1 B4.out).1
        have HV := Lib.hid (fbO_end Hlen.out HOl.out SN.out HOv.out)
        rw [HV.out] at G21
        go_wp2
        exact bodyPost_ret (v := RF (x21, 0)) (by simp [results, Tryz.results23, go_sem, RF]) rfl ⟨(x21, 0), rfl, HX.out, rfl, G21.out.can⟩
      obtain ⟨g0, rfl⟩ : ∃ g0, gk = g0 + 1 := ⟨gk - 1, by omega⟩
      obtain ⟨b, off, r, hao, hbl, ⟨hc1, hc2, hc3⟩, hP⟩ := (H.out.ext HX.out).cells' (k := j) (by omega)
      obtain ⟨rneg, ra, rn, rc, rb, rm, rd⟩ := r
      simp only at hc1 hc2 hc3
      subst hao
      have RP := Lib.hid hP
      have hjn : (j : Int) < i := by omega
      have hLl := HOB.out.lt
      have hb4r := l_B4
      clear hP
      replace LP : Hid (LIn wr ⟨pa, j + 1, pc⟩ (chP j).1 (L + 1) wr.heap.size) := Lib.hid LP.out
      replace LQ : Hid (LIn wr ⟨qa, qn, qc⟩ (chP j).2 (L + 1) wr.heap.size) := Lib.hid LQ.out
      go_upto_region 14 with fail
      refine nm_alloc ?_
      intro y1 hE hB0 hz
      have hz_y1 := Nat.le_of_eq hz
      have hr_y1 := Nat.le_of_eq hz.symm
      clear hz
      replace HX := Lib.hid (HX.out.trans hE)
      replace RS0 := Lib.hid (RS0.out.ext hE)
      replace HOB := Lib.hid (HOB.out.ext hE)
      replace LP := Lib.hid (LP.out.ext hE)
      replace LQ := Lib.hid (LQ.out.ext hE)
      replace B4 := Lib.hid (hE.block B4.out)
      replace RP := Lib.hid (RP.out.ext hE)
      have hs_y1 := hE.size
      clear hE
      (try clear c_B4 f_B4 l_B4)
      have c_B4 := blk_cell B4.out
      have f_B4 := blk_frozen B4.out
      have l_B4 := (Array.getElem?_eq_some_iff.1 B4.out).1
      have B10 := Lib.hid hB0
      clear hB0
      have c_B10 := blk_cell B10.out
      have f_B10 := blk_frozen B10.out
      have l_B10 := (Array.getElem?_eq_some_iff.1 B10.out).1
      obtain ⟨b10, hb10⟩ : ∃ b10, b10 = wr.heap.size := ⟨_, rfl⟩
      have hb10w : w.heap.size ≤ b10 := by omega
      have hbL : L < b10 := by omega
      have hb4L : b4 < b10 := by omega
      have hb10y : b10 < y1.heap.size := by omega
      rw [← hb10] at LP LQ B10 ⊢
      clear hb10 c_B10 f_B10 l_B10 hc1 hc2 hc3 hbl
      (try clear c_B4 f_B4 l_B4)
      have c_B4 := blk_cell B4.out
      have f_B4 := blk_frozen B4.out
      have l_B4 := (Array.getElem?_eq_some_iff.1 B4.out).1
      (try clear c_B10 f_B10 l_B10)
      have c_B10 := blk_cell B10.out
      have f_B10 := blk_frozen B10.out
      have l_B10 := (Array.getElem?_eq_some_iff.1 B10.out).1
      go_wp2_with fail
      refine Calls.mono (rmul_any ⟨rneg, ra, rn, rc, rb, rm, rd⟩ ⟨sn, sa, sl, sc, sb, sm, sd⟩ _ S _ RP.out RS0.out) ?_
      rintro e w2 ⟨x2, rfl, hE, g2⟩
      have G2 := Lib.hid g2
      clear g2
      replace HX := Lib.hid (HX.out.trans hE)
      replace RS0 := Lib.hid (RS0.out.ext hE)
      replace HOB := Lib.hid (HOB.out.ext hE)
      replace LP := Lib.hid (LP.out.ext hE)
      replace LQ := Lib.hid (LQ.out.ext hE)
      replace B4 := Lib.hid (hE.block B4.out)
      replace RP := Lib.hid (RP.out.ext hE)
      replace B10 := Lib.hid (hE.block B10.out)
      have hs_w2 := hE.size
      clear hE
      (try clear c_B4 f_B4 l_B4)
      have c_B4 := blk_cell B4.out
      have f_B4 := blk_frozen B4.out
      have l_B4 := (Array.getElem?_eq_some_iff.1 B4.out).1
      (try clear c_B10 f_B10 l_B10)
      have c_B10 := blk_cell B10.out
      have f_B10 := blk_frozen B10.out
      have l_B10 := (Array.getElem?_eq_some_iff.1 B10.out).1
      go_upto_region 15 with fail
      refine nm_set3 B10.out rfl ?_
      intro y3 T
      replace HX := Lib.hid (T.ext HX.out (by omega))
      replace RS0 := Lib.hid (RS0.out.keep T.keep)
      replace HOB := Lib.hid (HOB.out.put T (by omega))
      replace LP := Lib.hid (LP.out.put T (by omega))
      replace LQ := Lib.hid (LQ.out.put T (by omega))
      replace B4 := Lib.hid (T.rest _ _ (by omega) B4.out)
      replace RP := Lib.hid (RP.out.keep T.keep)
      replace B10 := Lib.hid (T.bx)
      replace G2 := Lib.hid (G2.out.keep T.keep)
      have hs_y3 := Nat.le_of_eq T.size
      have hr_y3 := Nat.le_of_eq T.size.symm
      clear T
      (try clear c_B4 f_B4 l_B4)
      have c_B4 := blk_cell B4.out
      have f_B4 := blk_frozen B4.out
      have l_B4 := (Array.getElem?_eq_some_iff.1 B4.out).1
      (try clear c_B10 f_B10 l_B10)
      have c_B10 := blk_cell B10.out
      have f_B10 := blk_frozen B10.out
      have l_B10 := (Array.getElem?_eq_some_iff.1 B10.out).1
      obtain ⟨v, hv⟩ : ∃ v, v = cs.getD j 0 * S := ⟨_, rfl⟩
      have ZV : Hid (Sz 4259840 v) := Lib.hid (by rw [hv]; exact ((HZ.out.getD hs1 j).mul ZS.out).mono (by omega))
      have Hv := Lib.hid hv
      rw [← hv] at G2
      have RV := Lib.hid (G2.out.raw ZV.out (by decide))
      obtain ⟨vn, va, vl, vc, vb, vm, vd⟩ := x2
      clear RP
      clear G2
      clear hv
      go_wp2
      go_loopg [46] (j + 1) (fun g z wr => ∃ (k : Nat) (os : List Rat), k + g = j + 1 ∧ z = .int .i64 (k : Nat) ∧ Ext w wr ∧ RawR wr ⟨sn, sa, sl, sc, sb, sm, sd⟩ S ∧ wr.heap[b4]? = some (.cells #[.bool sn, .slice sa sl sc, .slice sb sm sd] 30 (0, 0)) ∧ OutB wr L os 60000000 ∧ os.length = i ∧ (∀ m, m < i → os.getD m 0 = fbO cs S j k m) ∧ LIn wr ⟨pa, j + 1, pc⟩ (chP j).1 (L + 1) b10 ∧ LIn wr ⟨qa, qn, qc⟩ (chP j).2 (L + 1) b10 ∧ wr.heap[b10]? = some (.cells #[.bool vn, .slice va vl vc, .slice vb vm vd] 30 (0, 0)) ∧ RawR wr ⟨vn, va, vl, vc, vb, vm, vd⟩ v)
      case atStart => exact ⟨0, os, by omega, rfl, HX.out, RS0.out, B4.out, HOB.out, HOl.out, HOv.out, LP.out, LQ.out, B10.out, RV.out⟩
      case round =>
        obtain ⟨k, os, hk, rfl, g1, g2, g3, g4, g5, g6, g7, g8, g9, g10⟩ := hrel
        clear HX RS0 B4 HOB HOl HOv LP LQ B10 RV
        have HX := Lib.hid g1
        have RS0 := Lib.hid g2
        have B4 := Lib.hid g3
        have HOB := Lib.hid g4
        have HOl := Lib.hid g5
        have HOv := Lib.hid g6
        have LP := Lib.hid g7
        have LQ := Lib.hid g8
        have B10 := Lib.hid g9
        have RV := Lib.hid g10
        clear g1 g2 g3 g4 g5 g6 g7 g8 g9 g10
        have HZp := Lib.hid (chP_sz (n := j) (by omega))
        have hLr := HOB.out.lt
        (try clear c_B4 f_B4 l_B4)
        have c_B4 := blk_cell B4.out
        have f_B4 := blk_frozen B4.out
        have l_B4 := (Array.getElem?_eq_some_iff.1 B4.out).1
        (try clear c_B10 f_B10 l_B10)
        have c_B10 := blk_cell B10.out
        have f_B10 := blk_frozen B10.out
        have l_B10 := (Array.getElem?_eq_some_iff.1 B10.out).1
        by_cases h1 : gk = 0
        case pos =>
          subst h1
          obtain rfl : k = j + 1 := by omega
          go_wp2_with fail
          refine Calls.mono (neighbour_any pa qa (j + 1) pc qn qc _ _ _ (LP.out.can.raw HZp.out.1 (by decide)) (LQ.out.can.raw HZp.out.2 (by decide)) (by omega) (by omega) (HZp.out.1.mono (by decide)) (HZp.out.2.mono (by decide))) ?_
          rintro e w30 ⟨x30, rfl, hE, g30⟩
          have G30 := Lib.hid g30
          clear g30
          replace HX := Lib.hid (HX.out.trans hE)
          replace RS0 := Lib.hid (RS0.out.ext hE)
          replace RV := Lib.hid (RV.out.ext hE)
          replace HOB := Lib.hid (HOB.out.ext hE)
          replace LP := Lib.hid (LP.out.ext hE)
          replace LQ := Lib.hid (LQ.out.ext hE)
          replace B4 := Lib.hid (hE.block B4.out)
          replace B10 := Lib.hid (hE.block B10.out)
          have hs_w30 := hE.size
          clear hE
          (try clear c_B4 f_B4 l_B4)
          have c_B4 := blk_cell B4.out
          have f_B4 := blk_frozen B4.out
          have l_B4 := (Array.getElem?_eq_some_iff.1 B4.out).1
          (try clear c_B10 f_B10 l_B10)
          have c_B10 := blk_cell B10.out
          have f_B10 := blk_frozen B10.out
          have l_B10 := (Array.getElem?_eq_some_iff.1 B10.out).1
          have LN := Lib.hid (G30.out.mono (B' := L + 1) hLr)
          have LPn : Hid (NewL (L + 1) w30 ⟨pa, j + 1, pc⟩ (chP j).1) := Lib.hid (LIn.mono LP.out (Nat.le_refl _) (by omega))
          go_wp2
          go_roundg g0
          case measure => omega
          case rel => exact ⟨j + 1, x30, ⟨pa, j + 1, pc⟩, os, rfl, rfl, by omega, by go_num, HX.out, RS0.out, B4.out, HOB.out, HOl.out, fun m hm => by rw [fbO_next]; exact HOv.out m hm, LN.out, LPn.out⟩
        have hki : k < i := by omega
        have hkI : (k : Int) < i := by omega
        have hkj : (k : Int) < (j : Int) + 1 := by omega
        obtain ⟨b', off', r', hao', hat, hT⟩ := LP.out.can.at (k := k) (by omega)
        have hbl' := RAt.lt hat
        obtain ⟨hd1, hd2, hd3⟩ := hat
        obtain ⟨tneg, ta, tn, tc, tb, tm, td⟩ := r'
        simp only at hd1 hd2 hd3
        subst hao'
        have RT := Lib.hid (hT.raw (Tf_sz (k := j) (i := k) (by omega)) (by decide))
        have HRT : Hid (RawR wr ⟨tneg, ta, tn, tc, tb, tm, td⟩ (Tf j k)) := RT
        clear hT
        clear RT
        go_upto_region 18 with fail
        refine nm_alloc ?_
        intro y5 hE hB0 hz
        have hz_y5 := Nat.le_of_eq hz
        have hr_y5 := Nat.le_of_eq hz.symm
        clear hz
        replace HX := Lib.hid (HX.out.trans hE)
        replace RS0 := Lib.hid (RS0.out.ext hE)
        replace RV := Lib.hid (RV.out.ext hE)
        replace HOB := Lib.hid (HOB.out.ext hE)
        replace LP := Lib.hid (LP.out.ext hE)
        replace LQ := Lib.hid (LQ.out.ext hE)
        replace B4 := Lib.hid (hE.block B4.out)
        replace B10 := Lib.hid (hE.block B10.out)
        replace HRT := Lib.hid (HRT.out.ext hE)
        have hs_y5 := hE.size
        clear hE
        (try clear c_B4 f_B4 l_B4)
        have c_B4 := blk_cell B4.out
        have f_B4 := blk_frozen B4.out
        have l_B4 := (Array.getElem?_eq_some_iff.1 B4.out).1
        (try clear c_B10 f_B10 l_B10)
        have c_B10 := blk_cell B10.out
        have f_B10 := blk_frozen B10.out
        have l_B10 := (Array.getElem?_eq_some_iff.1 B10.out).1
        have B12 := Lib.hid hB0
        clear hB0
        have c_B12 := blk_cell B12.out
        have f_B12 := blk_frozen B12.out
        have l_B12 := (Array.getElem?_eq_some_iff.1 B12.out).1
        obtain ⟨ro, ⟨e1, e2, e3⟩, hro⟩ := HOB.out.cells (k := k) (by rw [HOl.out]; omega)
        obtain ⟨u, hu⟩ : ∃ u, u = os.getD k 0 := ⟨_, rfl⟩
        rw [← hu] at hro
        obtain ⟨on, oa, ol, oc, ob, om, od⟩ := ro
        simp only at e1 e2 e3
        have ZU : Hid (u = fbO cs S j k k) := Lib.hid (by rw [hu]; exact HOv.out k hki)
        have ZW : Hid (u + v * Tf j k = fbO cs S j (k + 1) k) := Lib.hid (by rw [ZU.out, Hv.out]; exact fbO_here cs S j k)
        have ZZ : Hid (Sz 60000000 (u + v * Tf j k)) := Lib.hid (by rw [ZW.out]; exact HOz.out j (k + 1) k (by omega))
        have HRO := Lib.hid hro
        have Hu := Lib.hid hu
        clear hro hu
        have hfr : ∀ x, y5.frozen? ⟨L, x, none⟩ = false := let ⟨_, h1, _⟩ := HOB.out; h1.frozen
        have hLl5 := HOB.out.lt
        refine wp_region_front 11 (fun opIx => match opIx with
          | 8 => .spec RH default RH.v (fun s w' => CanR w' s (v * Tf j k))
          | 9 => .spec RH default RH.v (fun s w' => CanR w' s (u + v * Tf j k))
          | _ => .quiet) (fun | 9 => [8] | _ => []) (by kernel_rfl) (by kernel_rfl) (fun w0 he0 hz0 hc0 hf0 => ?_)
        replace he0 := Lib.hid he0
        simp only [List.take_succ_cons, List.take_zero]
        repeat (refine wpF_quiet rfl rfl rfl (fun K hK => ?_); go_big_quiet_op; refine hK _ ?_; clear hK K)
        refine wpF_spec rfl rfl (fun w1 hw1 hG => ?_) (fun x8 => ?_)
        · have hW := he0.out.trans hw1
          refine spec_call [RH.v ⟨vn, va, vl, vc, vb, vm, vd⟩, RH.v ⟨tneg, ta, tn, tc, tb, tm, td⟩] rfl rfl Tryz.func62 (by kernel_rfl) (by kernel_rfl) ?_
          exact rmul_any _ _ _ _ _ (RV.out.ext hW) (HRT.out.ext hW)
        simp only [Act.put, List.setIfInBounds_toArray, List.set_cons_succ, List.set_cons_zero]
        repeat (refine wpF_quiet rfl rfl rfl (fun K hK => ?_); go_big_quiet_op; refine hK _ ?_; clear hK K)
        refine wpF_spec rfl rfl (fun w1 hw1 hG => ?_) (fun x9 => ?_)
        · have hW := he0.out.trans hw1
          obtain ⟨wa8, hwa8, g8⟩ : Since _ _ := hG 8 (by decide)
          replace g8 := g8.ext hwa8
          refine spec_call [RH.v ⟨on, oa, ol, oc, ob, om, od⟩, x8.v] rfl rfl Tryz.func63 (by kernel_rfl) (by kernel_rfl) ?_
          exact radd_any _ x8 _ _ _ (HRO.out.ext hW) (g8.raw (ZV.out.mul (Tf_sz (by omega))) (by decide))
        simp only [Act.put, List.setIfInBounds_toArray, List.set_cons_succ, List.set_cons_zero]
        repeat (refine wpF_quiet rfl rfl rfl (fun K hK => ?_); go_big_quiet_op; refine hK _ ?_; clear hK K)
        refine wpF_nil ?_
        intro w7 hI
        have hE := he0.out.trans hI.ext
        obtain ⟨wa8, hwa8, g8⟩ : Since _ _ := hI.facts 8
        have G8 := Lib.hid (g8.ext hwa8)
        clear g8 hwa8
        obtain ⟨wa9, hwa9, g9⟩ : Since _ _ := hI.facts 9
        have G9 := Lib.hid (g9.ext hwa9)
        clear g9 hwa9
        clear hI he0 hz0 hc0 hf0
        replace HX := Lib.hid (HX.out.trans hE)
        replace RS0 := Lib.hid (RS0.out.ext hE)
        replace RV := Lib.hid (RV.out.ext hE)
        replace HOB := Lib.hid (HOB.out.ext hE)
        replace LP := Lib.hid (LP.out.ext hE)
        replace LQ := Lib.hid (LQ.out.ext hE)
        replace B4 := Lib.hid (hE.block B4.out)
        replace B10 := Lib.hid (hE.block B10.out)
        replace HRT := Lib.hid (HRT.out.ext hE)
        replace B12 := Lib.hid (hE.block B12.out)
        replace HRO := Lib.hid (HRO.out.ext hE)
        have hs_w7 := hE.size
        clear hE
        (try clear c_B4 f_B4 l_B4)
        have c_B4 := blk_cell B4.out
        have f_B4 := blk_frozen B4.out
        have l_B4 := (Array.getElem?_eq_some_iff.1 B4.out).1
        (try clear c_B10 f_B10 l_B10)
        have c_B10 := blk_cell B10.out
        have f_B10 := blk_frozen B10.out
        have l_B10 := (Array.getElem?_eq_some_iff.1 B10.out).1
        (try clear c_B12 f_B12 l_B12)
        have c_B12 := blk_cell B12.out
        have f_B12 := blk_frozen B12.out
        have l_B12 := (Array.getElem?_eq_some_iff.1 B12.out).1
        simp only [List.drop_succ_cons, List.drop_zero]
        have hfr : ∀ x, w7.frozen? ⟨L, x, none⟩ = false := let ⟨_, h1, _⟩ := HOB.out; h1.frozen
        have hLl := HOB.out.lt
        obtain ⟨ro3, ⟨e1, e2, e3⟩, -⟩ := HOB.out.cells (k := k) (by rw [HOl.out]; exact hki)
        go_upto_region 19 with fail
        refine nm_out (k := k) (x := x9) HOB.out (by rw [HOl.out]; exact hki) (G9.out.raw ZZ.out (by decide)) ZZ.out (Nat.le_refl _) ?_
        intro w8 hT hOB
        obtain ⟨cs', T'⟩ := hT
        have HOBn := Lib.hid hOB
        have HOv3 : Hid (∀ m, m < i → (os.set k (u + v * Tf j k)).getD m 0 = fbO cs S j (k + 1) m) := Lib.hid (fun m hm => by
          have h1 := fbO_set HOl.out HOv.out hki m hm
          rw [← Hv.out, ← Hu.out] at h1
          exact h1)
        clear hOB e1 e2 e3 hfr hLl
        clear HOB
        clear G8
        clear G9
        clear HRO
        clear HRT
        have T := T'
        replace HX := Lib.hid (T.ext HX.out (by omega))
        replace RS0 := Lib.hid (RS0.out.keep T.keep)
        replace RV := Lib.hid (RV.out.keep T.keep)
        replace LP := Lib.hid (LP.out.put T (by omega))
        replace LQ := Lib.hid (LQ.out.put T (by omega))
        replace B4 := Lib.hid (T.rest _ _ (by omega) B4.out)
        replace B10 := Lib.hid (T.rest _ _ (by omega) B10.out)
        replace B12 := Lib.hid (T.rest _ _ (by omega) B12.out)
        have hs_w8 := Nat.le_of_eq T.size
        have hr_w8 := Nat.le_of_eq T.size.symm
        clear T
        (try clear c_B4 f_B4 l_B4)
        have c_B4 := blk_cell B4.out
        have f_B4 := blk_frozen B4.out
        have l_B4 := (Array.getElem?_eq_some_iff.1 B4.out).1
        (try clear c_B10 f_B10 l_B10)
        have c_B10 := blk_cell B10.out
        have f_B10 := blk_frozen B10.out
        have l_B10 := (Array.getElem?_eq_some_iff.1 B10.out).1
        (try clear c_B12 f_B12 l_B12)
        have c_B12 := blk_cell B12.out
        have f_B12 := blk_frozen B12.out
        have l_B12 := (Array.getElem?_eq_some_iff.1 B12.out).1
        have HOB := Lib.hid HOBn.out
        go_wp2
        go_roundg (gk - 1)
        case measure => omega
        case rel => exact ⟨k + 1, _, by omega, by go_num, HX.out, RS0.out, B4.out, HOB.out, by rw [List.length_set]; exact HOl.out, HOv3.out, LP.out, LQ.out, B10.out, RV.out⟩
end Go.Proofs.YtbcamhfoemnmgaaGreat
/- Cross, Magnitude of package chebyshev. -/
namespace Go.Proofs.YtbcamhfoemnmgaaGreat
open Go.RowKit Go.Front Go.Num
attribute [local go_sem] XW.cell XW.frozen
def crE (b c : List Rat) (k : Nat) : Rat := if k = 0 then corV b c k else corV b c k + corV c b k
def crossV (ps qs : List Rat) : List Rat := fbV ((List.range (max (tz ps).length (tz qs).length)).map (crE (tz ps) (tz qs)))
theorem cor_mul (b c : List Rat) (S T : Rat) (k : Nat) : corV (b.map (· * S)) (c.map (· * T)) k = S * T * corV b c k := by
  unfold corV
  rw [List.length_map, List.length_map, ← Stab.sm_mul]
  apply Stab.sm_congr
  intro i hi
  rw [map_getD (by omega), map_getD (by omega)]
  grind
theorem cr_mul (b c : List Rat) (S T : Rat) (k : Nat) : crE (b.map (· * S)) (c.map (· * T)) k = S * T * crE b c k := by
  unfold crE
  split
  · exact cor_mul b c S T k
  · rw [cor_mul, cor_mul]; grind
theorem cor_sz {s k : Nat} {b c : List Rat} (hb : SzL s b) (hc : SzL s c) (hs : 1 ≤ s) (hl : b.length ≤ 12) : Sz (1 + 12 * (2 * s + 1)) (corV b c k) := by
  unfold corV
  refine (sm_sz (t := 2 * s) (fun i _ => ((hb.getD hs i).mul (hc.getD hs (i + k))).mono (by omega))).mono ?_
  have : (min b.length (c.length - k)) * (2 * s + 1) ≤ 12 * (2 * s + 1) := Nat.mul_le_mul_right _ (by omega)
  omega
theorem cr_sz {s k : Nat} {b c : List Rat} (hb : SzL s b) (hc : SzL s c) (hs : 1 ≤ s) (hl : b.length ≤ 12) (hl2 : c.length ≤ 12) : Sz (3 + 24 * (2 * s + 1)) (crE b c k) := by
  unfold crE
  split
  · exact (cor_sz hb hc hs hl).mono (by omega)
  · exact ((cor_sz hb hc hs hl).add (cor_sz hc hb hs hl2)).mono (by omega)
theorem tz_scale {l : List Rat} {S : Rat} (h : tz l = l) (hS : S ≠ 0) : tz (l.map (· * S)) = l.map (· * S) := by
  rcases Nat.eq_zero_or_pos l.length with h0 | h0
  · rw [List.length_eq_zero_iff.1 h0]; rfl
  · obtain ⟨n, hn⟩ : ∃ n, l.length = n + 1 := ⟨l.length - 1, by omega⟩
    have hl : l.getD n 0 ≠ 0 := tz_last (by rw [h]; exact hn)
    have hlen : (tz (l.map (· * S))).length = n + 1 := by
      apply tz_len_of
      · rw [map_getD (by omega)]
        intro h1
        rcases Rat.mul_eq_zero.1 h1 with h2 | h2
        · exact hl h2
        · exact hS h2
      · intro i hi
        rw [getD_over' (by simp; omega)]
    rw [tz_prefix, hlen, List.take_of_length_le (by simp; omega)]
theorem SzL.scale {s c : Nat} {l : List Rat} {S : Rat} (h : SzL s l) (hS : Sz c S) : SzL (s + c) (l.map (· * S)) := by
  intro q hq
  obtain ⟨y, hy, rfl⟩ := List.mem_map.1 hq
  exact (h y hy).mul hS
set_option maxRecDepth 8000 in
set_option maxHeartbeats 4000000 in
theorem cross_any (ao bo : Option Addr) (n c m d s : Nat) (ps qs : List Rat) (w : World) (h : RawL w ⟨ao, n, c⟩ ps) (k : RawL w ⟨bo, m, d⟩ qs) (hn : n ≤ 12) (hm : m ≤ 12) (hz : SzL s ps) (kz : SzL s qs) (hs1 : 1 ≤ s) (hs : s ≤ 400) :
    Does 25 [.slice ao n c, .slice bo m d] w RF (fun x w' => x.2 = 0 ∧ CanL w' x.1 (crossV ps qs)) := by
  obtain ⟨i0, hi0, hz0, hz1, hz2⟩ := info_parts infoR
  have H := Lib.hid h
  have K := Lib.hid k
  have HX := Lib.hid (Ext.refl w)
  have Hn := Lib.hid h.len
  have Hm := Lib.hid k.len
  simp only at Hn Hm
  have HZ := Lib.hid hz.tz
  have KZ := Lib.hid kz.tz
  clear h k hz kz
  unfold Does
  go_enter Tryz.func25, Tryz.ntmps25
  go_wp2_with fail
  refine Calls.mono (ptrim_any ao n c ps _ H.out (by omega)) ?_
  rintro e w1 ⟨x1, rfl, hE, g1⟩
  have G1 := Lib.hid g1
  clear g1
  replace HX := Lib.hid (HX.out.trans hE)
  have hs_w1 := hE.size
  clear hE
  go_wp2_with fail
  refine Calls.mono (ptrim_any bo m d qs _ (K.out.ext HX.out) (by omega)) ?_
  rintro e w2 ⟨x2, rfl, hE, g2⟩
  have G2 := Lib.hid g2
  clear g2
  replace HX := Lib.hid (HX.out.trans hE)
  replace G1 := Lib.hid (G1.out.ext hE)
  have hs_w2 := hE.size
  clear hE
  obtain ⟨pa, P, pc⟩ := x1
  obtain ⟨qa, Q, qc⟩ := x2
  simp only [SH.v]
  have hP := G1.out.len
  have hQ := G2.out.len
  have hPn := tz_len_le ps
  have hQn := tz_len_le qs
  rw [Hn.out] at hPn
  rw [Hm.out] at hQn
  simp only at hP hQ
  rw [hP] at hPn
  rw [hQ] at hQn
  have HPl := Lib.hid hP
  have HQl := Lib.hid hQ
  have HV : Hid (crossV ps qs = fbV ((List.range (max P Q)).map (crE (tz ps) (tz qs)))) := Lib.hid (by unfold crossV; rw [hP, hQ])
  have HPt := Lib.hid (tz_idem ps)
  have HQt := Lib.hid (tz_idem qs)
  clear hP hQ
  obtain ⟨p, hp⟩ : ∃ p, p = tz ps := ⟨_, rfl⟩
  obtain ⟨q, hq⟩ : ∃ q, q = tz qs := ⟨_, rfl⟩
  rw [← hp] at G1 HZ HPl HV HPt
  rw [← hq] at G2 KZ HQl HV HQt
  clear hp hq
  have LP := Lib.hid (G1.out.can.raw HZ.out (by omega))
  have LQ := Lib.hid (G2.out.can.raw KZ.out (by omega))
  have hp1 := LP.out.le
  have hp2 := LP.out.max
  have hq1 := LQ.out.le
  have hq2 := LQ.out.max
  simp only at hp1 hp2 hq1 hq2
  clear G1
  clear G2
  have hcg : ∀ j, j ≤ 12 → cg s j ≤ 4801 := by intro j hj; unfold cg; have := Nat.mul_le_mul hj hs; omega
  go_wp2_with fail
  refine Calls.mono (common_any pa P pc p s _ LP.out (by omega) HZ.out (by have := hcg P (by omega); omega) (by omega)) ?_
  rintro e w3 ⟨x3, rfl, hE, g3⟩
  have G3 := Lib.hid g3
  clear g3
  replace HX := Lib.hid (HX.out.trans hE)
  replace LP := Lib.hid (LP.out.ext hE)
  replace LQ := Lib.hid (LQ.out.ext hE)
  have hs_w3 := hE.size
  clear hE
  go_wp2_with fail
  refine Calls.mono (common_any qa Q qc q s _ LQ.out (by omega) KZ.out (by have := hcg Q (by omega); omega) (by omega)) ?_
  rintro e w4 ⟨x4, rfl, hE, g4⟩
  have G4 := Lib.hid g4
  clear g4
  replace HX := Lib.hid (HX.out.trans hE)
  replace LP := Lib.hid (LP.out.ext hE)
  replace LQ := Lib.hid (LQ.out.ext hE)
  replace G3 := Lib.hid (G3.out.ext hE)
  have hs_w4 := hE.size
  clear hE
  have ZS : Hid (Sz 4801 (comV p)) := Lib.hid (by
    have h0 := com_sz HZ.out P (by rw [HPl.out]; exact Nat.le_refl _)
    rw [List.take_of_length_le (by rw [HPl.out]; exact Nat.le_refl _)] at h0
    exact h0.mono (hcg P (by omega)))
  have ZT : Hid (Sz 4801 (comV q)) := Lib.hid (by
    have h0 := com_sz KZ.out Q (by rw [HQl.out]; exact Nat.le_refl _)
    rw [List.take_of_length_le (by rw [HQl.out]; exact Nat.le_refl _)] at h0
    exact h0.mono (hcg Q (by omega)))
  have SN := Lib.hid (com_ne p)
  have TN := Lib.hid (com_ne q)
  obtain ⟨S, hS⟩ : ∃ S, S = comV p := ⟨_, rfl⟩
  obtain ⟨V, hT⟩ : ∃ V, V = comV q := ⟨_, rfl⟩
  rw [← hS] at G3 ZS SN
  rw [← hT] at G4 ZT TN
  clear hS hT hcg
  have RS0 := Lib.hid (G3.out.raw ZS.out (by decide))
  have RT0 := Lib.hid (G4.out.raw ZT.out (by decide))
  clear G3
  clear G4
  obtain ⟨sn, sa, sl, sc, sb, sm, sd⟩ := x3
  obtain ⟨tn, ta, tl, tc, tb, tm, td⟩ := x4
  go_upto_region 5 with fail
  refine nm_alloc2 ?_
  intro y5 hE hB0 hB1 hz
  have hz_y5 := Nat.le_of_eq hz
  have hr_y5 := Nat.le_of_eq hz.symm
  clear hz
  replace HX := Lib.hid (HX.out.trans hE)
  replace LP := Lib.hid (LP.out.ext hE)
  replace LQ := Lib.hid (LQ.out.ext hE)
  replace RS0 := Lib.hid (RS0.out.ext hE)
  replace RT0 := Lib.hid (RT0.out.ext hE)
  have hs_y5 := hE.size
  clear hE
  have B6 := Lib.hid hB0
  clear hB0
  have c_B6 := blk_cell B6.out
  have f_B6 := blk_frozen B6.out
  have l_B6 := (Array.getElem?_eq_some_iff.1 B6.out).1
  have B7 := Lib.hid hB1
  clear hB1
  have c_B7 := blk_cell B7.out
  have f_B7 := blk_frozen B7.out
  have l_B7 := (Array.getElem?_eq_some_iff.1 B7.out).1
  refine wp_region_front 6 (fun opIx => match opIx with
    | 2 => .spec (SH) (default) (SH.v) (fun x w' => CanL w' x (p.map (· * S)))
    | 5 => .spec (SH) (default) (SH.v) (fun x w' => CanL w' x (q.map (· * V)))
    | _ => .quiet) (fun _ => []) (by kernel_rfl) (by kernel_rfl) (fun w0 he0 hz0 hc0 hf0 => ?_)
  replace he0 := Lib.hid he0
  simp only [List.take_succ_cons, List.take_zero]
  repeat (refine wpF_quiet rfl rfl rfl (fun K hK => ?_); go_big_quiet_op; refine hK _ ?_; clear hK K)
  refine wpF_spec rfl rfl (fun w1 hw1 hG => ?_) (fun x2 => ?_)
  · have hW := he0.out.trans hw1
    refine spec_call [.slice pa P pc, RH.v ⟨sn, sa, sl, sc, sb, sm, sd⟩] rfl rfl Tryz.func67 (by kernel_rfl) (by kernel_rfl) ?_
    exact (pscale_any pa P pc p ⟨sn, sa, sl, sc, sb, sm, sd⟩ S _ (LP.out.ext hW) (RS0.out.ext hW) (by omega) (HZ.out.mono (by omega)) (ZS.out.mono (by decide))).weak (fun x w' _ h => by rw [← tz_scale HPt.out SN.out]; exact h.can)
  simp only [Act.put, List.setIfInBounds_toArray, List.set_cons_succ, List.set_cons_zero]
  repeat (refine wpF_quiet rfl rfl rfl (fun K hK => ?_); go_big_quiet_op; refine hK _ ?_; clear hK K)
  refine wpF_spec rfl rfl (fun w1 hw1 hG => ?_) (fun x5 => ?_)
  · have hW := he0.out.trans hw1
    refine spec_call [.slice qa Q qc, RH.v ⟨tn, ta, tl, tc, tb, tm, td⟩] rfl rfl Tryz.func67 (by kernel_rfl) (by kernel_rfl) ?_
    exact (pscale_any qa Q qc q ⟨tn, ta, tl, tc, tb, tm, td⟩ V _ (LQ.out.ext hW) (RT0.out.ext hW) (by omega) (KZ.out.mono (by omega)) (ZT.out.mono (by decide))).weak (fun x w' _ h => by rw [← tz_scale HQt.out TN.out]; exact h.can)
  simp only [Act.put, List.setIfInBounds_toArray, List.set_cons_succ, List.set_cons_zero]
  repeat (refine wpF_quiet rfl rfl rfl (fun K hK => ?_); go_big_quiet_op; refine hK _ ?_; clear hK K)
  refine wpF_nil ?_
  intro w6 hI
  have hE := he0.out.trans hI.ext
  obtain ⟨wa2, hwa2, g2⟩ : Since _ _ := hI.facts 2
  have G2 := Lib.hid (g2.ext hwa2)
  clear g2 hwa2
  obtain ⟨wa5, hwa5, g5⟩ : Since _ _ := hI.facts 5
  have G5 := Lib.hid (g5.ext hwa5)
  clear g5 hwa5
  clear hI he0 hz0 hc0 hf0
  replace HX := Lib.hid (HX.out.trans hE)
  replace LP := Lib.hid (LP.out.ext hE)
  replace LQ := Lib.hid (LQ.out.ext hE)
  replace RS0 := Lib.hid (RS0.out.ext hE)
  replace RT0 := Lib.hid (RT0.out.ext hE)
  replace B6 := Lib.hid (hE.block B6.out)
  replace B7 := Lib.hid (hE.block B7.out)
  have hs_w6 := hE.size
  clear hE
  (try clear c_B6 f_B6 l_B6)
  have c_B6 := blk_cell B6.out
  have f_B6 := blk_frozen B6.out
  have l_B6 := (Array.getElem?_eq_some_iff.1 B6.out).1
  (try clear c_B7 f_B7 l_B7)
  have c_B7 := blk_cell B7.out
  have f_B7 := blk_frozen B7.out
  have l_B7 := (Array.getElem?_eq_some_iff.1 B7.out).1
  simp only [List.drop_succ_cons, List.drop_zero]
  obtain ⟨ba, bn, bc⟩ := x2
  obtain ⟨ca, cn, cc⟩ := x5
  have hbn := G2.out.len
  have hcn := G5.out.len
  rw [List.length_map, HPl.out] at hbn
  rw [List.length_map, HQl.out] at hcn
  simp only at hbn hcn
  subst hbn hcn
  have LB := Lib.hid G2.out.lin
  have LC := Lib.hid G5.out.lin
  have ZB := Lib.hid (HZ.out.scale ZS.out)
  have ZC := Lib.hid (KZ.out.scale ZT.out)
  clear G2 G5
  clear LP
  clear LQ
  simp only [SH.v]
  have hb1 := LB.out.can.le
  have hb2 := LB.out.can.max
  have hc1 := LC.out.can.le
  have hc2 := LC.out.can.max
  simp only at hb1 hb2 hc1 hc2
  obtain ⟨M, hM⟩ : ∃ M, M = max P Q := ⟨_, rfl⟩
  have HM := Lib.hid hM
  have hmx := max2 (P : Int) (Q : Int) (M : Int) (by omega)
  have hM3 : M ≤ 12 := by omega
  clear hM
  rw [← HM.out] at HV
  obtain ⟨b6, hb6⟩ : ∃ b6, b6 = w4.heap.size := ⟨_, rfl⟩
  obtain ⟨b7, hb7⟩ : ∃ b7, b7 = w4.heap.size + 1 := ⟨_, rfl⟩
  have hw6 : w.heap.size ≤ b6 := by omega
  have hw7 : w.heap.size ≤ b7 := by omega
  rw [← hb7] at B7 ⊢
  rw [← hb6] at B6 ⊢
  clear hb6 hb7 c_B6 f_B6 l_B6 c_B7 f_B7 l_B7
  have hL6 := (Array.getElem?_eq_some_iff.1 B6.out).1
  have hL7 := (Array.getElem?_eq_some_iff.1 B7.out).1
  go_upto_region 7 with (refine wpList_make rfl (.tmp 36) (.tmp 36) 32 rfl 30 i0 (RH.v default) 3 Tryz.underlying32 hi0 hz0 hz1 _ _ M rfl rfl (by omega) (by omega) (by rw [hz2]; omega) (by omega) ?_; intro w7 hnew hE)
  have HOB0 := Lib.hid (OutB.start (RBk.make rfl hnew))
  clear hnew
  replace HX := Lib.hid (HX.out.trans hE)
  replace RS0 := Lib.hid (RS0.out.ext hE)
  replace RT0 := Lib.hid (RT0.out.ext hE)
  replace B6 := Lib.hid (hE.block B6.out)
  replace B7 := Lib.hid (hE.block B7.out)
  replace LB := Lib.hid (LB.out.ext hE)
  replace LC := Lib.hid (LC.out.ext hE)
  have hs_w7 := hE.size
  clear hE
  (try clear c_B6 f_B6 l_B6)
  have c_B6 := blk_cell B6.out
  have f_B6 := blk_frozen B6.out
  have l_B6 := (Array.getElem?_eq_some_iff.1 B6.out).1
  (try clear c_B7 f_B7 l_B7)
  have c_B7 := blk_cell B7.out
  have f_B7 := blk_frozen B7.out
  have l_B7 := (Array.getElem?_eq_some_iff.1 B7.out).1
  obtain ⟨L, hL⟩ : ∃ L, L = w6.heap.size := ⟨_, rfl⟩
  have hLw : w.heap.size ≤ L := by omega
  have hn6 : b6 ≠ L := by omega
  have hn7 : b7 ≠ L := by omega
  rw [← hL] at HOB0 LB LC ⊢
  have HOB : Hid (OutB w7 L (List.replicate M 0) 300000) := Lib.hid (let ⟨rs, h1, h2, h3⟩ := HOB0.out; ⟨rs, h1, h2, h3.mono (by decide)⟩)
  clear hL HOB0 hL6 hL7 c_B6 f_B6 l_B6 c_B7 f_B7 l_B7
  go_wp2
  go_loopg [40] M (fun g v wr => ∃ (i : Nat) (os : List Rat), i + g = M ∧ v = .int .i64 (i : Nat) ∧ Ext w wr ∧ RawR wr ⟨sn, sa, sl, sc, sb, sm, sd⟩ S ∧ RawR wr ⟨tn, ta, tl, tc, tb, tm, td⟩ V ∧ wr.heap[b6]? = some (.cells #[.bool sn, .slice sa sl sc, .slice sb sm sd] 30 (0, 0)) ∧ wr.heap[b7]? = some (.cells #[.bool tn, .slice ta tl tc, .slice tb tm td] 30 (0, 0)) ∧ LIn wr ⟨ba, P, bc⟩ (p.map (· * S)) 0 L ∧ LIn wr ⟨ca, Q, cc⟩ (q.map (· * V)) 0 L ∧ OutB wr L os 300000 ∧ os.length = M ∧ ∀ m, m < i → os.getD m 0 = crE (p.map (· * S)) (q.map (· * V)) m)
  case atStart => exact ⟨0, _, by omega, rfl, HX.out, RS0.out, RT0.out, B6.out, B7.out, LB.out, LC.out, HOB.out, by simp, fun m hm => by omega⟩
  case round =>
    obtain ⟨i, os, hi, rfl, g1, g2, g3, g4, g5, g6, g7, g8, g9, g10⟩ := hrel
    clear HX RS0 RT0 B6 B7 LB LC HOB
    have HX := Lib.hid g1
    have RS0 := Lib.hid g2
    have RT0 := Lib.hid g3
    have B6 := Lib.hid g4
    have B7 := Lib.hid g5
    have LB := Lib.hid g6
    have LC := Lib.hid g7
    have HOB := Lib.hid g8
    have HOl := Lib.hid g9
    have HOv := Lib.hid g10
    clear g1 g2 g3 g4 g5 g6 g7 g8 g9 g10
    have hszw := HX.out.size
    (try clear c_B6 f_B6 l_B6)
    have c_B6 := blk_cell B6.out
    have f_B6 := blk_frozen B6.out
    have l_B6 := (Array.getElem?_eq_some_iff.1 B6.out).1
    (try clear c_B7 f_B7 l_B7)
    have c_B7 := blk_cell B7.out
    have f_B7 := blk_frozen B7.out
    have l_B7 := (Array.getElem?_eq_some_iff.1 B7.out).1
    by_cases h0 : gk = 0
    case pos =>
      subst h0
      obtain rfl : i = M := by omega
      have HSz : Hid (SzL 300000 os) := Lib.hid (let ⟨_, _, _, h3⟩ := HOB.out; h3)
      have HV2 : Hid (os.map (· / (S * V)) = (List.range i).map (crE p q)) := Lib.hid (by
        apply Stab.getD_ext
        · simp [HOl.out]
        · intro k hk
          simp only [List.length_map, HOl.out] at hk
          rw [map_getD (by rw [HOl.out]; exact hk), HOv.out k hk, cr_mul, range_getD, if_pos hk, Rat.mul_comm, Rat.div_def, Rat.mul_assoc, Rat.mul_inv_cancel _ (fun h => by
            rcases Rat.mul_eq_zero.1 h with h2 | h2
            · exact SN.out h2
            · exact TN.out h2), Rat.mul_one])
      have STN : Hid (S * V ≠ 0) := Lib.hid (fun h => by
        rcases Rat.mul_eq_zero.1 h with h2 | h2
        · exact SN.out h2
        · exact TN.out h2)
      go_wp2_with fail
      refine Calls.mono (rmul_any ⟨sn, sa, sl, sc, sb, sm, sd⟩ ⟨tn, ta, tl, tc, tb, tm, td⟩ S V _ RS0.out RT0.out) ?_
      rintro e w20 ⟨x20, rfl, hE, g20⟩
      have G20 := Lib.hid g20
      clear g20
      replace HX := Lib.hid (HX.out.trans hE)
      replace RS0 := Lib.hid (RS0.out.ext hE)
      replace RT0 := Lib.hid (RT0.out.ext hE)
      replace LB := Lib.hid (LB.out.ext hE)
      replace LC := Lib.hid (LC.out.ext hE)
      replace HOB := Lib.hid (HOB.out.ext hE)
      replace B6 := Lib.hid (hE.block B6.out)
      replace B7 := Lib.hid (hE.block B7.out)
      have hs_w20 := hE.size
      clear hE
      (try clear c_B6 f_B6 l_B6)
      have c_B6 := blk_cell B6.out
      have f_B6 := blk_frozen B6.out
      have l_B6 := (Array.getElem?_eq_some_iff.1 B6.out).1
      (try clear c_B7 f_B7 l_B7)
      have c_B7 := blk_cell B7.out
      have f_B7 := blk_frozen B7.out
      have l_B7 := (Array.getElem?_eq_some_iff.1 B7.out).1
      have RO := Lib.hid (HOB.out.raw HOl.out (by omega))
      go_wp2_with fail
      refine Calls.mono (divided_any (some ⟨L, 0, none⟩) i i os x20 (S * V) _ RO.out (G20.out.raw (ZS.out.mul ZT.out) (by decide)) STN.out (by omega)) ?_
      rintro e w21 ⟨x21, rfl, hE, g21⟩
      have G21 := Lib.hid g21
      clear g21
      replace HX := Lib.hid (HX.out.trans hE)
      replace RS0 := Lib.hid (RS0.out.ext hE)
      replace RT0 := Lib.hid (RT0.out.ext hE)
      replace LB := Lib.hid (LB.out.ext hE)
      replace LC := Lib.hid (LC.out.ext hE)
      replace HOB := Lib.hid (HOB.out.ext hE)
      replace B6 := Lib.hid (hE.block B6.out)
      replace B7 := Lib.hid (hE.block B7.out)
      replace G20 := Lib.hid (G20.out.ext hE)
      have hs_w21 := hE.size
      clear hE
      (try clear c_B6 f_B6 l_B6)
      have c_B6 := blk_cell B6.out
      have f_B6 := blk_frozen B6.out
      have l_B6 := (Array.getElem?_eq_some_iff.1 B6.out).1
      (try clear c_B7 f_B7 l_B7)
      have c_B7 := blk_cell B7.out
      have f_B7 := blk_frozen B7.out
      have l_B7 := (Array.getElem?_eq_some_iff.1 B7.out).1
      rw [HV2.out] at G21
      obtain ⟨da, dn, dc⟩ := x21
      have hdn := G21.out.len
      rw [List.length_map, List.length_range] at hdn
      simp only at hdn
      subst hdn
      simp only [SH.v]
      have HSr : Hid (SzL 20000 ((List.range i).map (crE p q))) := Lib.hid (by
        intro x hx
        obtain ⟨k, -, rfl⟩ := List.mem_map.1 hx
        exact (cr_sz HZ.out KZ.out hs1 (by rw [HPl.out]; omega) (by rw [HQl.out]; omega)).mono (by omega))
      go_wp2_with fail
      refine Calls.mono (frombasis_any da i dc ((List.range i).map (crE p q)) 20000 _ (G21.out.can.raw HSr.out (by decide)) (by omega) HSr.out (by decide) (by decide) (by unfold cg; have := Nat.mul_le_mul_right 20000 hM3; omega)) ?_
      rintro e w22 ⟨x22, rfl, hE, g22⟩
      have G22 := Lib.hid g22
      clear g22
      replace HX := Lib.hid (HX.out.trans hE)
      replace RS0 := Lib.hid (RS0.out.ext hE)
      replace RT0 := Lib.hid (RT0.out.ext hE)
      replace LB := Lib.hid (LB.out.ext hE)
      replace LC := Lib.hid (LC.out.ext hE)
      replace HOB := Lib.hid (HOB.out.ext hE)
      replace B6 := Lib.hid (hE.block B6.out)
      replace B7 := Lib.hid (hE.block B7.out)
      replace G20 := Lib.hid (G20.out.ext hE)
      replace G21 := Lib.hid (G21.out.ext hE)
      have hs_w22 := hE.size
      clear hE
      (try clear c_B6 f_B6 l_B6)
      have c_B6 := blk_cell B6.out
      have f_B6 := blk_frozen B6.out
      have l_B6 := (Array.getElem?_eq_some_iff.1 B6.out).1
      (try clear c_B7 f_B7 l_B7)
      have c_B7 := blk_cell B7.out
      have f_B7 := blk_frozen B7.out
      have l_B7 := (Array.getElem?_eq_some_iff.1 B7.out).1
      obtain ⟨x22, e22⟩ := x22
      obtain ⟨he, hl⟩ := G22.out
      simp only at he hl
      subst he
      simp only [RF]
      go_wp2
      exact bodyPost_ret (v := RF (x22, 0)) (by simp [results, Tryz.results25, go_sem, RF]) rfl ⟨(x22, 0), rfl, HX.out, rfl, by rw [HV.out]; exact hl⟩
    have hiM : (i : Int) < M := by omega
    go_wp2_with fail
    refine Calls.mono (correlation_any ba ca P bc Q cc i (s + 4801) _ _ _ (LB.out.can.raw ZB.out (by omega)) (LC.out.can.raw ZC.out (by omega)) (by omega) (by omega) (by omega) (by omega) (by omega) ZB.out ZC.out) ?_
    rintro e w10 ⟨x10, rfl, hE, g10⟩
    have G10 := Lib.hid g10
    clear g10
    replace HX := Lib.hid (HX.out.trans hE)
    replace RS0 := Lib.hid (RS0.out.ext hE)
    replace RT0 := Lib.hid (RT0.out.ext hE)
    replace LB := Lib.hid (LB.out.ext hE)
    replace LC := Lib.hid (LC.out.ext hE)
    replace HOB := Lib.hid (HOB.out.ext hE)
    replace B6 := Lib.hid (hE.block B6.out)
    replace B7 := Lib.hid (hE.block B7.out)
    have hs_w10 := hE.size
    clear hE
    (try clear c_B6 f_B6 l_B6)
    have c_B6 := blk_cell B6.out
    have f_B6 := blk_frozen B6.out
    have l_B6 := (Array.getElem?_eq_some_iff.1 B6.out).1
    (try clear c_B7 f_B7 l_B7)
    have c_B7 := blk_cell B7.out
    have f_B7 := blk_frozen B7.out
    have l_B7 := (Array.getElem?_eq_some_iff.1 B7.out).1
    have Z10 : Hid (Sz 124849 (corV (p.map (· * S)) (q.map (· * V)) i)) := Lib.hid ((cor_sz ZB.out ZC.out (by omega) (by rw [List.length_map, HPl.out]; omega)).mono (by omega))
    have hfr : ∀ x, w10.frozen? ⟨L, x, none⟩ = false := let ⟨_, h1, _⟩ := HOB.out; h1.frozen
    have hLl := HOB.out.lt
    obtain ⟨ro, ⟨e1, e2, e3⟩, -⟩ := HOB.out.cells (k := i) (by rw [HOl.out]; omega)
    go_upto_region 11 with fail
    refine nm_out (k := i) (x := x10) HOB.out (by rw [HOl.out]; omega) (G10.out.raw Z10.out (by decide)) (Z10.out.mono (by decide)) (Nat.le_refl _) ?_
    intro w11 hT hOB
    obtain ⟨cs', T'⟩ := hT
    have HOl2 : Hid ((os.set i (corV (p.map (· * S)) (q.map (· * V)) i)).length = M) := Lib.hid (by rw [List.length_set]; exact HOl.out)
    have HOv2 : Hid (∀ m, m < i + 1 → (os.set i (corV (p.map (· * S)) (q.map (· * V)) i)).getD m 0 = if m = i then corV (p.map (· * S)) (q.map (· * V)) i else crE (p.map (· * S)) (q.map (· * V)) m) := Lib.hid (by
      intro m hm
      by_cases he : m = i
      · subst he
        rw [if_pos rfl]
        simp [show m < os.length by rw [HOl.out]; omega]
      · rw [if_neg he, show ∀ z, (os.set i z).getD m 0 = os.getD m 0 from fun z => by rw [List.getD_eq_getElem?_getD, List.getElem?_set_ne (Ne.symm he), ← List.getD_eq_getElem?_getD]]
        exact HOv.out m (by omega))
    obtain ⟨os2, hos2⟩ : ∃ os2, os2 = os.set i (corV (p.map (· * S)) (q.map (· * V)) i) := ⟨_, rfl⟩
    rw [← hos2] at hOB HOl2 HOv2
    clear hos2 e1 e2 e3 hfr hLl HOl HOv
    have HOBn := Lib.hid hOB
    clear hOB
    clear HOB
    clear G10
    have T := T'
    replace HX := Lib.hid (T.ext HX.out (by omega))
    replace RS0 := Lib.hid (RS0.out.keep T.keep)
    replace RT0 := Lib.hid (RT0.out.keep T.keep)
    replace LB := Lib.hid (LB.out.put T (by omega))
    replace LC := Lib.hid (LC.out.put T (by omega))
    replace B6 := Lib.hid (T.rest _ _ (by omega) B6.out)
    replace B7 := Lib.hid (T.rest _ _ (by omega) B7.out)
    have hs_w11 := Nat.le_of_eq T.size
    have hr_w11 := Nat.le_of_eq T.size.symm
    clear T
    (try clear c_B6 f_B6 l_B6)
    have c_B6 := blk_cell B6.out
    have f_B6 := blk_frozen B6.out
    have l_B6 := (Array.getElem?_eq_some_iff.1 B6.out).1
    (try clear c_B7 f_B7 l_B7)
    have c_B7 := blk_cell B7.out
    have f_B7 := blk_frozen B7.out
    have l_B7 := (Array.getElem?_eq_some_iff.1 B7.out).1
    have HOB := Lib.hid HOBn.out
    clear HOBn
    by_cases hi0 : i = 0
    case pos =>
      subst hi0
      go_wp2
      go_roundg (gk - 1)
      case measure => omega
      case rel => exact ⟨0 + 1, os2, by omega, by go_num, HX.out, RS0.out, RT0.out, B6.out, B7.out, LB.out, LC.out, HOB.out, HOl2.out, fun m hm => by
        obtain rfl : m = 0 := by omega
        rw [HOv2.out 0 hm, if_pos rfl]
        rfl⟩
    have hi0' : (0 : Int) < i := by omega
    have Z11 : Hid (Sz 124849 (corV (q.map (· * V)) (p.map (· * S)) i)) := Lib.hid ((cor_sz ZC.out ZB.out (by omega) (by rw [List.length_map, HQl.out]; omega)).mono (by omega))
    have hfr : ∀ x, w11.frozen? ⟨L, x, none⟩ = false := let ⟨_, h1, _⟩ := HOB.out; h1.frozen
    have hLl := HOB.out.lt
    obtain ⟨ro2, ⟨e1, e2, e3⟩, hro⟩ := HOB.out.cells (k := i) (by rw [HOl2.out]; omega)
    obtain ⟨on, oa, ol, oc, ob, om, od⟩ := ro2
    simp only at e1 e2 e3
    rw [HOv2.out i (by omega), if_pos rfl] at hro
    obtain ⟨u, hu⟩ : ∃ u, u = corV (p.map (· * S)) (q.map (· * V)) i := ⟨_, rfl⟩
    obtain ⟨v, hv⟩ : ∃ v, v = corV (q.map (· * V)) (p.map (· * S)) i := ⟨_, rfl⟩
    rw [← hu] at hro Z10 HOv2
    rw [← hv] at Z11
    have HRO := Lib.hid hro
    have Hcr : Hid (crE (p.map (· * S)) (q.map (· * V)) i = u + v) := Lib.hid (by unfold crE; rw [if_neg hi0, hu, hv])
    have Hv := Lib.hid hv
    clear hro hu hv hi0
    go_upto_region 12 with fail
    refine wp_region_front 12 (fun opIx => match opIx with
      | 9 => .spec RH default RH.v (fun s w' => CanR w' s (v))
      | 10 => .spec RH default RH.v (fun s w' => CanR w' s (u + v))
      | _ => .quiet) (fun | 10 => [9] | _ => []) (by kernel_rfl) (by kernel_rfl) (fun w0 he0 hz0 hc0 hf0 => ?_)
    replace he0 := Lib.hid he0
    simp only [List.take_succ_cons, List.take_zero]
    repeat (refine wpF_quiet rfl rfl rfl (fun K hK => ?_); go_big_quiet_op; refine hK _ ?_; clear hK K)
    refine wpF_spec rfl rfl (fun w1 hw1 hG => ?_) (fun x9 => ?_)
    · have hW := he0.out.trans hw1
      refine spec_call [.slice ca Q cc, .slice ba P bc, .int .i64 (i : Nat)] rfl rfl Tryz.func68 (by kernel_rfl) (by kernel_rfl) ?_
      exact (by rw [Hv.out]; exact correlation_any ca ba Q cc P bc i (s + 4801) _ _ _ ((LC.out.ext hW).can.raw ZC.out (by omega)) ((LB.out.ext hW).can.raw ZB.out (by omega)) (by omega) (by omega) (by omega) (by omega) (by omega) ZC.out ZB.out)
    simp only [Act.put, List.setIfInBounds_toArray, List.set_cons_succ, List.set_cons_zero]
    repeat (refine wpF_quiet rfl rfl rfl (fun K hK => ?_); go_big_quiet_op; refine hK _ ?_; clear hK K)
    refine wpF_spec rfl rfl (fun w1 hw1 hG => ?_) (fun x10 => ?_)
    · have hW := he0.out.trans hw1
      obtain ⟨wa9, hwa9, g9⟩ : Since _ _ := hG 9 (by decide)
      replace g9 := g9.ext hwa9
      refine spec_call [RH.v ⟨on, oa, ol, oc, ob, om, od⟩, x9.v] rfl rfl Tryz.func63 (by kernel_rfl) (by kernel_rfl) ?_
      exact radd_any _ x9 _ _ _ (HRO.out.ext hW) (g9.raw Z11.out (by decide))
    simp only [Act.put, List.setIfInBounds_toArray, List.set_cons_succ, List.set_cons_zero]
    repeat (refine wpF_quiet rfl rfl rfl (fun K hK => ?_); go_big_quiet_op; refine hK _ ?_; clear hK K)
    refine wpF_nil ?_
    intro w12 hI
    have hE := he0.out.trans hI.ext
    obtain ⟨wa9, hwa9, g9⟩ : Since _ _ := hI.facts 9
    have G9 := Lib.hid (g9.ext hwa9)
    clear g9 hwa9
    obtain ⟨wa10, hwa10, g10⟩ : Since _ _ := hI.facts 10
    have G10 := Lib.hid (g10.ext hwa10)
    clear g10 hwa10
    clear hI he0 hz0 hc0 hf0
    replace HX := Lib.hid (HX.out.trans hE)
    replace RS0 := Lib.hid (RS0.out.ext hE)
    replace RT0 := Lib.hid (RT0.out.ext hE)
    replace LB := Lib.hid (LB.out.ext hE)
    replace LC := Lib.hid (LC.out.ext hE)
    replace B6 := Lib.hid (hE.block B6.out)
    replace B7 := Lib.hid (hE.block B7.out)
    replace HOB := Lib.hid (HOB.out.ext hE)
    replace HRO := Lib.hid (HRO.out.ext hE)
    have hs_w12 := hE.size
    clear hE
    (try clear c_B6 f_B6 l_B6)
    have c_B6 := blk_cell B6.out
    have f_B6 := blk_frozen B6.out
    have l_B6 := (Array.getElem?_eq_some_iff.1 B6.out).1
    (try clear c_B7 f_B7 l_B7)
    have c_B7 := blk_cell B7.out
    have f_B7 := blk_frozen B7.out
    have l_B7 := (Array.getElem?_eq_some_iff.1 B7.out).1
    simp only [List.drop_succ_cons, List.drop_zero]
    have hfr : ∀ x, w12.frozen? ⟨L, x, none⟩ = false := let ⟨_, h1, _⟩ := HOB.out; h1.frozen
    have hLl := HOB.out.lt
    obtain ⟨ro3, ⟨e1, e2, e3⟩, -⟩ := HOB.out.cells (k := i) (by rw [HOl2.out]; omega)
    have ZZ := Lib.hid (Z10.out.add Z11.out)
    go_upto_region 13 with fail
    refine nm_out (k := i) (x := x10) HOB.out (by rw [HOl2.out]; omega) (G10.out.raw ZZ.out (by decide)) (ZZ.out.mono (by decide)) (Nat.le_refl _) ?_
    intro w13 hT hOB
    obtain ⟨cs'', T'⟩ := hT
    have HOBn := Lib.hid hOB
    have HOv3 : Hid (∀ m, m < i + 1 → (os2.set i (u + v)).getD m 0 = crE (p.map (· * S)) (q.map (· * V)) m) := Lib.hid (by
      intro m hm
      by_cases he : m = i
      · subst he
        rw [Hcr.out]
        simp [show m < os2.length by rw [HOl2.out]; omega]
      · rw [show (os2.set i (u + v)).getD m 0 = os2.getD m 0 by rw [List.getD_eq_getElem?_getD, List.getElem?_set_ne (Ne.symm he), ← List.getD_eq_getElem?_getD], HOv2.out m hm, if_neg he])
    clear hOB e1 e2 e3 hfr hLl
    clear HOB
    clear G9
    clear G10
    clear HRO
    have T := T'
    replace HX := Lib.hid (T.ext HX.out (by omega))
    replace RS0 := Lib.hid (RS0.out.keep T.keep)
    replace RT0 := Lib.hid (RT0.out.keep T.keep)
    replace LB := Lib.hid (LB.out.put T (by omega))
    replace LC := Lib.hid (LC.out.put T (by omega))
    replace B6 := Lib.hid (T.rest _ _ (by omega) B6.out)
    replace B7 := Lib.hid (T.rest _ _ (by omega) B7.out)
    have hs_w13 := Nat.le_of_eq T.size
    have hr_w13 := Nat.le_of_eq T.size.symm
    clear T
    (try clear c_B6 f_B6 l_B6)
    have c_B6 := blk_cell B6.out
    have f_B6 := blk_frozen B6.out
    have l_B6 := (Array.getElem?_eq_some_iff.1 B6.out).1
    (try clear c_B7 f_B7 l_B7)
    have c_B7 := blk_cell B7.out
    have f_B7 := blk_frozen B7.out
    have l_B7 := (Array.getElem?_eq_some_iff.1 B7.out).1
    have HOB := Lib.hid HOBn.out
    go_wp2
    go_roundg (gk - 1)
    case measure => omega
    case rel => exact ⟨i + 1, _, by omega, by go_num, HX.out, RS0.out, RT0.out, B6.out, B7.out, LB.out, LC.out, HOB.out, by rw [List.length_set]; exact HOl2.out, HOv3.out⟩
set_option maxRecDepth 4000 in
set_option maxHeartbeats 1000000 in
theorem magnitude_any (ao : Option Addr) (n c s : Nat) (ps : List Rat) (w : World) (h : RawL w ⟨ao, n, c⟩ ps) (hn : n ≤ 12) (hz : SzL s ps) (hs1 : 1 ≤ s) (hs : s ≤ 400) :
    Does 27 [.slice ao n c] w RF (fun x w' => x.2 = 0 ∧ CanL w' x.1 (crossV ps ps)) := by
  have H := Lib.hid h
  have HX := Lib.hid (Ext.refl w)
  have hle := h.le
  have hmx := h.max
  simp only at hle hmx
  clear h
  unfold Does
  go_enter Tryz.func27, Tryz.ntmps27
  go_wp2_with fail
  refine Calls.mono (cross_any ao ao n c n c s ps ps _ H.out H.out hn hn hz hz hs1 hs) ?_
  rintro e w1 ⟨x1, rfl, hE, g1⟩
  have G1 := Lib.hid g1
  clear g1
  replace HX := Lib.hid (HX.out.trans hE)
  have hs_w1 := hE.size
  clear hE
  obtain ⟨x1, e1⟩ := x1
  obtain ⟨he, hl⟩ := G1.out
  simp only at he hl
  subst he
  simp only [RF]
  go_wp2
  exact bodyPost_ret (v := RF (x1, 0)) (by simp [results, Tryz.results27, go_sem, RF]) rfl ⟨(x1, 0), rfl, HX.out, rfl, hl⟩
end Go.Proofs.YtbcamhfoemnmgaaGreat
/- Amplitude of package chebyshev. -/
namespace Go.Proofs.YtbcamhfoemnmgaaGreat
open Go.RowKit Go.Front Go.Num
attribute [local go_sem] XW.cell XW.frozen
/-- A list of one's own, in any form. -/
def OwnW (w : World) (D : Nat → Prop) (v : Value) (qs : List Rat) : Prop := ∃ rs, OwnL w D v rs ∧ Vals RawR w rs qs
theorem OwnW.ext {w w' : World} {D : Nat → Prop} {v : Value} {qs : List Rat} (h : OwnW w D v qs) (he : Ext w w') : OwnW w' D v qs := let ⟨rs, h1, h2⟩ := h; ⟨rs, h1.ext he, h2.raw_ext he⟩
theorem OwnW.raw {w : World} {D : Nat → Prop} {s : SH} {qs : List Rat} (h : OwnW w D s.v qs) : RawL w s qs := by
  obtain ⟨ao, n, c⟩ := s
  obtain ⟨rs, h1, h2⟩ := h
  rcases h1 with ⟨e, rfl⟩ | ⟨L, cap, re, e, hB, h3, h4, h5, h6, h7⟩
  · have : qs = [] := List.length_eq_zero_iff.1 (by rw [← h2.1]; rfl)
    subst this
    obtain ⟨rfl, rfl, rfl⟩ : ao = none ∧ n = 0 ∧ c = 0 := by simpa using e
    exact ⟨[], RS.nil _ _ _ (by decide), Vals.nil _ _⟩
  · obtain ⟨rfl, rfl, rfl⟩ : ao = some ⟨L, 0, none⟩ ∧ n = rs.length ∧ c = cap := by simpa using e
    exact ⟨rs, h3.rs rfl h4 h5, h2⟩
theorem OwnW.put {w1 w2 : World} {D : Nat → Prop} {v : Value} {qs : List Rat} {b : Nat} {T : TypeId} {cs : Array Value} (h : OwnW w1 D v qs) (T2 : PutB w1 b T cs w2) (hb : ¬ D b) : OwnW w2 D v qs := by
  obtain ⟨rs, h1, h2⟩ := h
  exact ⟨rs, h1.imp id fun ⟨L, cap, re, g1, g2, g3, g4⟩ => ⟨L, cap, re, g1, g2, T2.rest L _ (fun e => hb (e ▸ g2)) g3, g4⟩, h2.rawkeep T2.keep⟩
theorem wpList_append_w {w : World} {ops : Array Oper} {rest : List Oper} {o : Oper} {a : Act} {Q : Exit → Act → World → Prop} (hgd : o.guard = none) (s x : Operand) (T : TypeId) (hT : Tryz.prog.underlying T = some (.slice 30))
    (ho : o.op = .call { callee := .builtin .append, args := #[s, x], argTypes := #[T, T] }) (D : Nat → Prop) (v : Value) (qs : List Rat) (r : RH) (q : Rat) (N : Nat) (hs : a.eval s = v) (hown : OwnW w D v qs)
    (hx : a.eval x = .slice (some ⟨N, 0, none⟩) 1 1) (hN : RBk w N [r] #[]) (hr : RawR w r q) (hl : qs.length ≤ 1073741824) (hD : ∀ k, w.heap.size ≤ k → D k)
    (h : ∀ (s' : SH) w', OwnW w' D s'.v (qs ++ [q]) → Mods D w w' → Keep w w' → wpList Tryz.prog ops Q rest (a.put o.dst s'.v) w') : wpList Tryz.prog ops Q (o :: rest) a w := by
  obtain ⟨rs, h1, h2⟩ := hown
  refine wpList_plain hgd fun K hK => ?_
  obtain ⟨L, cap, w', hrun, g1, g2, g3⟩ := run_append_own T o.type hT w D v rs r N h1 hN (by rw [h2.1]; exact hl) hD
  unfold Oper.wp
  simp [execOp, ho, resolve, invoke, builtin, hs, hx, hrun, Result.andThen]
  exact hK _ _ (h ⟨some ⟨L, 0, none⟩, rs.length + 1, cap⟩ w' ⟨_, g1, (h2.snoc hr).rawkeep g3⟩ g2 g3)
def ampC (h : List Rat) (n j : Nat) : List Rat := h.getD n 0 :: (List.range j).map (fun k => h.getD (n + (k + 1)) 0 + h.getD (n + (k + 1)) 0)
theorem ampC_next (h : List Rat) (n j : Nat) : ampC h n (j + 1) = ampC h n j ++ [h.getD (n + (j + 1)) 0 + h.getD (n + (j + 1)) 0] := by
  unfold ampC
  rw [List.range_succ, List.map_append]
  rfl
def AmpEq (h : List Rat) (n j : Nat) : Prop := ∀ k, k < j → h.getD (n - (k + 1)) 0 = h.getD (n + (k + 1)) 0
instance (h : List Rat) (n j : Nat) : Decidable (AmpEq h n j) := by unfold AmpEq; exact inferInstance
def ampV (h : List Rat) : Int × List Rat := if h.length % 2 = 0 then (1, []) else if AmpEq h (h.length / 2) (h.length / 2) then (0, fbV (ampC h (h.length / 2) (h.length / 2))) else (10, [])
theorem ampC_sz {s n j : Nat} {h : List Rat} (hz : SzL s h) (hs : 1 ≤ s) : SzL (2 * s + 1) (ampC h n j) := by
  intro q hq
  rcases List.mem_cons.1 hq with h1 | h1
  · rw [h1]; exact (hz.getD hs n).mono (by omega)
  · obtain ⟨k, -, rfl⟩ := List.mem_map.1 h1
    exact ((hz.getD hs _).add (hz.getD hs _)).mono (by omega)
theorem cmpR_eq {a b : Rat} : cmpR a b = 0 ↔ a = b := by
  unfold cmpR
  constructor
  · intro h
    split at h
    · cases h
    · split at h
      · assumption
      · cases h
  · rintro rfl
    rw [if_neg Rat.lt_irrefl, if_pos rfl]
set_option maxRecDepth 8000 in
set_option maxHeartbeats 4000000 in
theorem amplitude_any (ao : Option Addr) (M cap s : Nat) (hs' : List Rat) (w : World) (h : RawL w ⟨ao, M, cap⟩ hs') (hM : M ≤ 23) (hz : SzL s hs') (hs1 : 1 ≤ s) (hs : s ≤ 30000) :
    Does 43 [.slice ao M cap] w RF (fun x w' => x.2 = (ampV hs').1 ∧ CanL w' x.1 (ampV hs').2) := by
  have H := Lib.hid h
  have HX := Lib.hid (Ext.refl w)
  have hle := h.le
  have hmx := h.max
  have Hlen := Lib.hid h.len
  simp only at hle hmx Hlen
  have HZ := Lib.hid hz
  clear h hz
  unfold Does
  rcases Nat.mod_two_eq_zero_or_one M with hm | hm
  · have hv : ampV hs' = (1, []) := by unfold ampV; rw [Hlen.out, if_pos hm]
    have Hv := Lib.hid hv
    have hmI : (M : Int).tmod 2 = 0 := by have h2 : (M : Int).tmod 2 = ((M % 2 : Nat) : Int) := rfl; omega
    have hmJ : (M : Int) % 2 = 0 := by omega
    clear hv
    go_enter Tryz.func43, Tryz.ntmps43
    go_wp2
    exact bodyPost_ret (v := RF (⟨none, 0, 0⟩, 1)) (by simp [results, Tryz.results43, go_sem, RF]) rfl ⟨(⟨none, 0, 0⟩, 1), rfl, HX.out, by rw [Hv.out], by rw [Hv.out]; exact (NewL.nil 0 _).can⟩
  obtain ⟨n, hM1, hM2⟩ : ∃ n, M ≤ 2 * n + 1 ∧ 2 * n + 1 ≤ M := ⟨M / 2, by omega⟩
  have HV : Hid (ampV hs' = if AmpEq hs' n n then (0, fbV (ampC hs' n n)) else (10, [])) := Lib.hid (by unfold ampV; rw [Hlen.out, if_neg (by omega), show M / 2 = n by omega])
  have hmI : (M : Int).tmod 2 = 1 := by have h2 : (M : Int).tmod 2 = ((M % 2 : Nat) : Int) := rfl; omega
  have hmJ : (M : Int) % 2 = 1 := by omega
  have hdI : (M : Int).tdiv 2 = n := by have h2 : (M : Int).tdiv 2 = ((M / 2 : Nat) : Int) := rfl; omega
  have hdJ : (M : Int) / 2 = n := by omega
  clear hm
  go_enter Tryz.func43, Tryz.ntmps43
  obtain ⟨b, off, r, hao, hbl, ⟨hc1, hc2, hc3⟩, hP⟩ := (H.out.ext HX.out).cells' (k := n) (by omega)
  obtain ⟨rneg, ra, rn, rc, rb, rm, rd⟩ := r
  simp only at hc1 hc2 hc3
  have RP := Lib.hid hP
  clear hP
  subst hao
  go_upto_region 7 with fail
  refine nm_alloc ?_
  intro y1 hE hB0 hz
  have hz_y1 := Nat.le_of_eq hz
  have hr_y1 := Nat.le_of_eq hz.symm
  clear hz
  replace HX := Lib.hid (HX.out.trans hE)
  replace RP := Lib.hid (RP.out.ext hE)
  have hs_y1 := hE.size
  clear hE
  have B1 := Lib.hid hB0
  clear hB0
  have c_B1 := blk_cell B1.out
  have f_B1 := blk_frozen B1.out
  have l_B1 := (Array.getElem?_eq_some_iff.1 B1.out).1
  have HO : Hid (OwnW y1 (w.heap.size ≤ ·) (.slice (some ⟨w.heap.size, 0, none⟩) 1 1) (ampC hs' n 0)) := Lib.hid ⟨[⟨rneg, ra, rn, rc, rb, rm, rd⟩], Or.inr ⟨w.heap.size, 1, #[], rfl, Nat.le_refl _, rbk_one B1.out rfl, Nat.le_refl _, by decide, rfl, rfl⟩, (Vals.nil _ _).snoc RP.out⟩
  (try clear c_B1 f_B1 l_B1); clear B1
  clear RP
  clear hc1 hc2 hc3 hbl
  go_wp2
  go_loopg [5, 6] n (fun g u z wr => ∃ (j : Nat) (x : SH), u = x.v ∧ j + g = n ∧ z = .int .i64 ((j : Int) + 1) ∧ Ext w wr ∧ AmpEq hs' n j ∧ OwnW wr (w.heap.size ≤ ·) x.v (ampC hs' n j))
  case atStart => exact ⟨0, ⟨some ⟨w.heap.size, 0, none⟩, 1, 1⟩, rfl, by omega, rfl, HX.out, fun k hk => by omega, HO.out⟩
  case round =>
    obtain ⟨j, ⟨xa, xn, xc⟩, rfl, hj, rfl, g1, g2, g3⟩ := hrel
    clear HX HO
    have HX := Lib.hid g1
    have HEq := Lib.hid g2
    have HO := Lib.hid g3
    clear g1 g2 g3
    simp only [SH.v]
    have hszw := HX.out.size
    by_cases h0 : gk = 0
    case pos =>
      subst h0
      obtain rfl : j = n := by omega
      have hxn := HO.out.raw.len (s := ⟨xa, xn, xc⟩)
      unfold ampC at hxn
      rw [List.length_cons, List.length_map, List.length_range] at hxn
      simp only at hxn
      have HZc := Lib.hid (ampC_sz (n := j) (j := j) HZ.out hs1)
      go_wp2_with fail
      refine Calls.mono (frombasis_any xa xn xc (ampC hs' j j) (2 * s + 1) _ (HO.out.raw (s := ⟨xa, xn, xc⟩)) (by omega) HZc.out (by omega) (by omega) (by unfold cg; have := Nat.mul_le_mul (show xn ≤ 12 by omega) (show 2 * s + 1 ≤ 60001 by omega); omega)) ?_
      rintro e w20 ⟨x20, rfl, hE, g20⟩
      have G20 := Lib.hid g20
      clear g20
      replace HX := Lib.hid (HX.out.trans hE)
      replace HO := Lib.hid (HO.out.ext hE)
      have hs_w20 := hE.size
      clear hE
      obtain ⟨x20, e20⟩ := x20
      obtain ⟨he, hl⟩ := G20.out
      simp only at he hl
      subst he
      simp only [RF]
      have HV2 : Hid (ampV hs' = (0, fbV (ampC hs' j j))) := Lib.hid (by rw [HV.out, if_pos HEq.out])
      go_wp2
      exact bodyPost_ret (v := RF (x20, 0)) (by simp [results, Tryz.results43, go_sem, RF]) rfl ⟨(x20, 0), rfl, HX.out, by rw [HV2.out], by rw [HV2.out]; exact hl⟩
    have hjn : j < n := by omega
    obtain ⟨b', off', r1, hao1, hbl1, ⟨a1, a2, a3⟩, hP1⟩ := (H.out.ext HX.out).cells' (k := n - (j + 1)) (by omega)
    obtain ⟨b'', off'', r2, hao2, hbl2, ⟨a4, a5, a6⟩, hP2⟩ := (H.out.ext HX.out).cells' (k := n + (j + 1)) (by omega)
    obtain ⟨rfl, rfl⟩ : b = b' ∧ off = off' := by simpa using hao1
    obtain ⟨rfl, rfl⟩ : b = b'' ∧ off = off'' := by simpa using hao2
    obtain ⟨rn1, ra1, rl1, rc1, rb1, rm1, rd1⟩ := r1
    obtain ⟨rn2, ra2, rl2, rc2, rb2, rm2, rd2⟩ := r2
    simp only at a1 a2 a3 a4 a5 a6
    obtain ⟨i1, hi1⟩ : ∃ i, i = n - (j + 1) := ⟨_, rfl⟩
    obtain ⟨i2, hi2⟩ : ∃ i, i = n + (j + 1) := ⟨_, rfl⟩
    have hI1 : (n : Int) - ((j : Int) + 1) = i1 := by omega
    have hI2 : (n : Int) + ((j : Int) + 1) = i2 := by omega
    have hb1 : i1 < M := by omega
    have hb2 : i2 < M := by omega
    have Hi1 := Lib.hid hi1
    have Hi2 := Lib.hid hi2
    rw [← hi1] at a1 a2 a3 hP1
    rw [← hi2] at a4 a5 a6 hP2
    have RP1 := Lib.hid hP1
    have RP2 := Lib.hid hP2
    have ZP2 := Lib.hid (HZ.out.getD hs1 i2)
    clear hP1 hP2 hi1 hi2 hao1 hao2 hbl2
    have hbl := hbl1
    go_upto_region 10 with fail
    obtain ⟨c, hc⟩ : ∃ c, c = cmpR (hs'.getD i1 0) (hs'.getD i2 0) := ⟨_, rfl⟩
    have Hc := Lib.hid hc
    clear hc
    refine wp_region_front 13 (fun opIx => match opIx with
      | 12 => .spec Unit () (fun _ => .int .i64 c) (fun _ _ => True)
      | _ => .quiet) (fun _ => []) (by kernel_rfl) (by kernel_rfl) (fun w0 he0 hz0 hc0 hf0 => ?_)
    replace he0 := Lib.hid he0
    simp only [List.take_succ_cons, List.take_zero]
    repeat (refine wpF_quiet rfl rfl rfl (fun K hK => ?_); go_big_quiet_op; refine hK _ ?_; clear hK K)
    refine wpF_spec rfl rfl (fun w1 hw1 hG => ?_) (fun x12 => ?_)
    · have hW := he0.out.trans hw1
      refine spec_call [RH.v ⟨rn1, ra1, rl1, rc1, rb1, rm1, rd1⟩, RH.v ⟨rn2, ra2, rl2, rc2, rb2, rm2, rd2⟩] rfl rfl Tryz.func97 (by kernel_rfl) (by kernel_rfl) ?_
      exact (by rw [Hc.out]; exact rcmp_any _ _ _ _ _ (RP1.out.ext hW) (RP2.out.ext hW))
    simp only [Act.put, List.setIfInBounds_toArray, List.set_cons_succ, List.set_cons_zero]
    repeat (refine wpF_quiet rfl rfl rfl (fun K hK => ?_); go_big_quiet_op; refine hK _ ?_; clear hK K)
    refine wpF_nil ?_
    intro w10 hI
    have hE := he0.out.trans hI.ext
    clear hI he0 hz0 hc0 hf0
    replace HX := Lib.hid (HX.out.trans hE)
    replace HO := Lib.hid (HO.out.ext hE)
    replace RP1 := Lib.hid (RP1.out.ext hE)
    replace RP2 := Lib.hid (RP2.out.ext hE)
    have hs_w10 := hE.size
    clear hE
    simp only [List.drop_succ_cons, List.drop_zero]
    by_cases hcz : c = 0
    case neg =>
      have hcb : (c == 0) = false := by simpa using hcz
      have HV2 : Hid (ampV hs' = (10, [])) := Lib.hid (by
        rw [HV.out, if_neg]
        intro h
        have h1 := h j hjn
        rw [← Hi1.out, ← Hi2.out] at h1
        exact hcz (by rw [Hc.out]; exact cmpR_eq.2 h1))
      go_wp2
      exact bodyPost_ret (v := RF (⟨none, 0, 0⟩, 10)) (by simp [results, Tryz.results43, go_sem, RF]) rfl ⟨(⟨none, 0, 0⟩, 10), rfl, HX.out, by rw [HV2.out], by rw [HV2.out]; exact (NewL.nil 0 _).can⟩
    subst hcz
    have HEq2 : Hid (AmpEq hs' n (j + 1)) := Lib.hid (by
      intro k hk
      rcases Nat.lt_or_ge k j with h | h
      · exact HEq.out k h
      · obtain rfl : k = j := by omega
        rw [← Hi1.out, ← Hi2.out]
        exact cmpR_eq.1 Hc.out.symm)
    obtain ⟨b3, off3, r3, hao3, hbl3, ⟨a1, a2, a3⟩, hP3⟩ := (H.out.ext HX.out).cells' (k := i2) hb2
    obtain ⟨rfl, rfl⟩ : b = b3 ∧ off = off3 := by simpa using hao3
    obtain ⟨rn3, ra3, rl3, rc3, rb3, rm3, rd3⟩ := r3
    simp only at a1 a2 a3
    have RP3 := Lib.hid hP3
    clear hP3 hao3 hbl hbl1 a4 a5 a6
    clear RP1
    clear RP2
    have hxn := HO.out.raw.len (s := ⟨xa, xn, xc⟩)
    have hxc := HO.out.raw.le (s := ⟨xa, xn, xc⟩)
    unfold ampC at hxn
    rw [List.length_cons, List.length_map, List.length_range] at hxn
    simp only at hxn hxc
    have HNx : Hid (ampC hs' n (j + 1) = ampC hs' n j ++ [hs'.getD i2 0 + hs'.getD i2 0]) := Lib.hid (by rw [ampC_next, ← Hi2.out])
    have HLn : Hid ((ampC hs' n j).length ≤ 1073741824) := Lib.hid (by unfold ampC; rw [List.length_cons, List.length_map, List.length_range]; omega)
    go_upto_region 12 with fail
    refine wp_region_front 15 (fun opIx => match opIx with
      | 13 => .spec RH default RH.v (fun s w' => CanR w' s (hs'.getD i2 0 + hs'.getD i2 0))
      | 14 => .spec (Nat × RH) ((0, default)) (fun p => .slice (some ⟨p.1, 0, none⟩) 1 1) (fun p w' => BuiltR w' p (hs'.getD i2 0 + hs'.getD i2 0))
      | _ => .quiet) (fun | 14 => [13] | _ => []) (by kernel_rfl) (by kernel_rfl) (fun w0 he0 hz0 hc0 hf0 => ?_)
    replace he0 := Lib.hid he0
    simp only [List.take_succ_cons, List.take_zero]
    repeat (refine wpF_quiet rfl rfl rfl (fun K hK => ?_); go_big_quiet_op; refine hK _ ?_; clear hK K)
    refine wpF_spec rfl rfl (fun w1 hw1 hG => ?_) (fun x13 => ?_)
    · have hW := he0.out.trans hw1
      refine spec_call [RH.v ⟨rn3, ra3, rl3, rc3, rb3, rm3, rd3⟩, RH.v ⟨rn3, ra3, rl3, rc3, rb3, rm3, rd3⟩] rfl rfl Tryz.func63 (by kernel_rfl) (by kernel_rfl) ?_
      exact radd_any _ _ _ _ _ (RP3.out.ext hW) (RP3.out.ext hW)
    simp only [Act.put, List.setIfInBounds_toArray, List.set_cons_succ, List.set_cons_zero]
    repeat (refine wpF_quiet rfl rfl rfl (fun K hK => ?_); go_big_quiet_op; refine hK _ ?_; clear hK K)
    refine wpF_spec rfl rfl (fun w1 hw1 hG => ?_) (fun x14 => ?_)
    · have hW := he0.out.trans hw1
      obtain ⟨wa13, hwa13, g13⟩ : Since _ _ := hG 13 (by decide)
      replace g13 := g13.ext hwa13
      exact spec_build x13 _ g13 rfl (by simp [execOp, go_sem])
    simp only [Act.put, List.setIfInBounds_toArray, List.set_cons_succ, List.set_cons_zero]
    repeat (refine wpF_quiet rfl rfl rfl (fun K hK => ?_); go_big_quiet_op; refine hK _ ?_; clear hK K)
    refine wpF_nil ?_
    intro w12 hI
    have hE := he0.out.trans hI.ext
    obtain ⟨wa13, hwa13, g13⟩ : Since _ _ := hI.facts 13
    have G13 := Lib.hid (g13.ext hwa13)
    clear g13 hwa13
    obtain ⟨wa14, hwa14, g14⟩ : Since _ _ := hI.facts 14
    have G14 := Lib.hid (g14.ext hwa14)
    clear g14 hwa14
    clear hI he0 hz0 hc0 hf0
    replace HX := Lib.hid (HX.out.trans hE)
    replace HO := Lib.hid (HO.out.ext hE)
    have hs_w12 := hE.size
    clear hE
    simp only [List.drop_succ_cons, List.drop_zero]
    have RN := Lib.hid (G14.out.2.raw (ZP2.out.add ZP2.out) (by omega))
    go_wp2_with (at_builtin; refine wpList_append_w rfl (.tmp 41) (.tmp 55) 32 Tryz.underlying32 rfl (w.heap.size ≤ ·) _ _ x14.2 _ x14.1 rfl HO.out rfl G14.out.1 RN.out HLn.out (fun k hk => by omega) ?_; intro s' y3 q1 q2 q3)
    have HX3 := Lib.hid (Ext.mods HX.out q2 (fun k h => h))
    have HO3 : Hid (OwnW y3 (w.heap.size ≤ ·) s'.v (ampC hs' n (j + 1))) := Lib.hid (by rw [HNx.out]; exact q1)
    clear q1 q2 q3
    go_wp2
    go_roundg (gk - 1)
    case measure => omega
    case rel => exact ⟨j + 1, s', rfl, by omega, by go_num, HX3.out, HEq2.out, HO3.out⟩
end Go.Proofs.YtbcamhfoemnmgaaGreat
/- awake of chapter 8. -/
namespace Go.Proofs.YtbcamhfoemnmgaaGreat
open Go.RowKit Go.Front Go.Num
attribute [local go_sem] XW.cell XW.frozen
theorem canL_4 {w : World} {N : Nat} {x y z t : RH} {p q r s : Rat} (h : w.heap[N]? = some (.cells #[.bool x.neg, .slice x.a x.n x.c, .slice x.b x.m x.d, .bool y.neg, .slice y.a y.n y.c, .slice y.b y.m y.d, .bool z.neg, .slice z.a z.n z.c, .slice z.b z.m z.d, .bool t.neg, .slice t.a t.n t.c, .slice t.b t.m t.d] 30 (0, 0))) (hx : CanR w x p) (hy : CanR w y q) (hz : CanR w z r) (ht : CanR w t s) : CanL w ⟨some ⟨N, 0, none⟩, 4, 4⟩ [p, q, r, s] :=
  ⟨[x, y, z, t], RBk.rs (rs := [x, y, z, t]) (re := #[]) h rfl (Nat.le_refl _) (by decide), ((((Vals.nil _ _).snoc hx).snoc hy).snoc hz).snoc ht⟩
abbrev iq (n : Int) : Rat := (n : Rat)
set_option maxRecDepth 8000 in
set_option maxHeartbeats 4000000 in
theorem awake8_any (w : World) : Does 18 [] w (fun _ : Unit => .bool true) (fun _ _ => True) := by
  have HX := Lib.hid (Ext.refl w)
  have Z1 : Hid (SzL 1 [iq 1, iq 2, iq 1]) := Lib.hid (szB (by decide +kernel))
  have Z2 : Hid (SzL 1 [iq 1, iq (-1)]) := Lib.hid (szB (by decide +kernel))
  have V1 : Hid (tV 3 = (0, [iq 0, iq (-3), iq 0, iq 4])) := Lib.hid (by decide +kernel)
  have V2 : Hid (ampV [iq 1, iq 2, iq 1] = (0, [iq 2, iq 2])) := Lib.hid (by decide +kernel)
  have V3 : Hid (crossV [iq 1, iq (-1)] [iq 1, iq (-1)] = [iq 2, iq (-2)]) := Lib.hid (by decide +kernel)
  unfold Does
  go_enter Tryz.func18, Tryz.ntmps18
  go_wp2_with fail
  refine Calls.mono (t_any 3 _) ?_
  rintro e w1 ⟨x1, rfl, hE, g1⟩
  have G1 := Lib.hid g1
  clear g1
  replace HX := Lib.hid (HX.out.trans hE)
  have hs_w1 := hE.size
  clear hE
  obtain ⟨⟨a1, n1, c1⟩, e1⟩ := x1
  obtain ⟨he, hl⟩ := G1.out
  rw [V1.out] at he hl
  simp only at he hl
  subst he
  have L1 := Lib.hid hl
  clear hl G1
  simp only [RF, SH.v]
  go_wp2_with fail
  refine Calls.mono (rof3_any 1 _ (by decide) (by decide)) ?_
  rintro e w2 ⟨x2, rfl, hE, g2⟩
  have G2 := Lib.hid g2
  clear g2
  replace HX := Lib.hid (HX.out.trans hE)
  replace L1 := Lib.hid (L1.out.ext hE)
  have hs_w2 := hE.size
  clear hE
  go_wp2_with fail
  refine Calls.mono (rof3_any 2 _ (by decide) (by decide)) ?_
  rintro e w3 ⟨x3, rfl, hE, g3⟩
  have G3 := Lib.hid g3
  clear g3
  replace HX := Lib.hid (HX.out.trans hE)
  replace L1 := Lib.hid (L1.out.ext hE)
  replace G2 := Lib.hid (G2.out.ext hE)
  have hs_w3 := hE.size
  clear hE
  go_wp2_with fail
  refine Calls.mono (rof3_any 1 _ (by decide) (by decide)) ?_
  rintro e w4 ⟨x4, rfl, hE, g4⟩
  have G4 := Lib.hid g4
  clear g4
  replace HX := Lib.hid (HX.out.trans hE)
  replace L1 := Lib.hid (L1.out.ext hE)
  replace G2 := Lib.hid (G2.out.ext hE)
  replace G3 := Lib.hid (G3.out.ext hE)
  have hs_w4 := hE.size
  clear hE
  go_wp2_with fail
  refine nm_alloc (F := fun W => Calls _ _ _ W _) ?_
  intro y5 hE hB0 hz
  have hz_y5 := Nat.le_of_eq hz
  have hr_y5 := Nat.le_of_eq hz.symm
  clear hz
  replace HX := Lib.hid (HX.out.trans hE)
  replace L1 := Lib.hid (L1.out.ext hE)
  replace G2 := Lib.hid (G2.out.ext hE)
  replace G3 := Lib.hid (G3.out.ext hE)
  replace G4 := Lib.hid (G4.out.ext hE)
  have hs_y5 := hE.size
  clear hE
  have B5 := Lib.hid hB0
  clear hB0
  have c_B5 := blk_cell B5.out
  have f_B5 := blk_frozen B5.out
  have l_B5 := (Array.getElem?_eq_some_iff.1 B5.out).1
  change Calls _ _ _ _ _
  have L5 := Lib.hid (canL_3 B5.out G2.out G3.out G4.out)
  (try clear c_B5 f_B5 l_B5); clear B5
  clear G2
  clear G3
  clear G4
  refine Calls.mono (amplitude_any (some ⟨w4.heap.size, 0, none⟩) 3 3 1 [iq 1, iq 2, iq 1] _ (L5.out.raw Z1.out (by decide)) (by decide) Z1.out (by decide) (by decide)) ?_
  rintro e w6 ⟨x6, rfl, hE, g6⟩
  have G6 := Lib.hid g6
  clear g6
  replace HX := Lib.hid (HX.out.trans hE)
  replace L1 := Lib.hid (L1.out.ext hE)
  replace L5 := Lib.hid (L5.out.ext hE)
  have hs_w6 := hE.size
  clear hE
  obtain ⟨⟨a6, n6, c6⟩, e6⟩ := x6
  obtain ⟨he, hl⟩ := G6.out
  rw [V2.out] at he hl
  simp only at he hl
  subst he
  have L6 := Lib.hid hl
  clear hl G6
  simp only [RF, SH.v]
  clear L5
  go_wp2_with fail
  refine Calls.mono (rof3_any 1 _ (by decide) (by decide)) ?_
  rintro e w7 ⟨x7, rfl, hE, g7⟩
  have G7 := Lib.hid g7
  clear g7
  replace HX := Lib.hid (HX.out.trans hE)
  replace L1 := Lib.hid (L1.out.ext hE)
  replace L6 := Lib.hid (L6.out.ext hE)
  have hs_w7 := hE.size
  clear hE
  go_wp2_with fail
  refine Calls.mono (rof3_any (-1) _ (by decide) (by decide)) ?_
  rintro e w8 ⟨x8, rfl, hE, g8⟩
  have G8 := Lib.hid g8
  clear g8
  replace HX := Lib.hid (HX.out.trans hE)
  replace L1 := Lib.hid (L1.out.ext hE)
  replace L6 := Lib.hid (L6.out.ext hE)
  replace G7 := Lib.hid (G7.out.ext hE)
  have hs_w8 := hE.size
  clear hE
  go_wp2_with fail
  refine nm_alloc (F := fun W => Calls _ _ _ W _) ?_
  intro y9 hE hB0 hz
  have hz_y9 := Nat.le_of_eq hz
  have hr_y9 := Nat.le_of_eq hz.symm
  clear hz
  replace HX := Lib.hid (HX.out.trans hE)
  replace L1 := Lib.hid (L1.out.ext hE)
  replace L6 := Lib.hid (L6.out.ext hE)
  replace G7 := Lib.hid (G7.out.ext hE)
  replace G8 := Lib.hid (G8.out.ext hE)
  have hs_y9 := hE.size
  clear hE
  have B9 := Lib.hid hB0
  clear hB0
  have c_B9 := blk_cell B9.out
  have f_B9 := blk_frozen B9.out
  have l_B9 := (Array.getElem?_eq_some_iff.1 B9.out).1
  change Calls _ _ _ _ _
  have L9 := Lib.hid (canL_2 B9.out G7.out G8.out)
  (try clear c_B9 f_B9 l_B9); clear B9
  clear G7
  clear G8
  refine Calls.mono (magnitude_any (some ⟨w8.heap.size, 0, none⟩) 2 2 1 [iq 1, iq (-1)] _ (L9.out.raw Z2.out (by decide)) (by decide) Z2.out (by decide) (by decide)) ?_
  rintro e w10 ⟨x10, rfl, hE, g10⟩
  have G10 := Lib.hid g10
  clear g10
  replace HX := Lib.hid (HX.out.trans hE)
  replace L1 := Lib.hid (L1.out.ext hE)
  replace L6 := Lib.hid (L6.out.ext hE)
  replace L9 := Lib.hid (L9.out.ext hE)
  have hs_w10 := hE.size
  clear hE
  obtain ⟨⟨a10, n10, c10⟩, e10⟩ := x10
  obtain ⟨he, hl⟩ := G10.out
  rw [V3.out] at hl
  simp only at he hl
  subst he
  have L10 := Lib.hid hl
  clear hl G10
  simp only [RF, SH.v]
  clear L9
  go_wp2_with fail
  refine Calls.mono (rof3_any 0 _ (by decide) (by decide)) ?_
  rintro e w11 ⟨x11, rfl, hE, g11⟩
  have G11 := Lib.hid g11
  clear g11
  replace HX := Lib.hid (HX.out.trans hE)
  replace L1 := Lib.hid (L1.out.ext hE)
  replace L6 := Lib.hid (L6.out.ext hE)
  replace L10 := Lib.hid (L10.out.ext hE)
  have hs_w11 := hE.size
  clear hE
  go_wp2_with fail
  refine Calls.mono (rof3_any (-3) _ (by decide) (by decide)) ?_
  rintro e w12 ⟨x12, rfl, hE, g12⟩
  have G12 := Lib.hid g12
  clear g12
  replace HX := Lib.hid (HX.out.trans hE)
  replace L1 := Lib.hid (L1.out.ext hE)
  replace L6 := Lib.hid (L6.out.ext hE)
  replace L10 := Lib.hid (L10.out.ext hE)
  replace G11 := Lib.hid (G11.out.ext hE)
  have hs_w12 := hE.size
  clear hE
  go_wp2_with fail
  refine Calls.mono (rof3_any 0 _ (by decide) (by decide)) ?_
  rintro e w13 ⟨x13, rfl, hE, g13⟩
  have G13 := Lib.hid g13
  clear g13
  replace HX := Lib.hid (HX.out.trans hE)
  replace L1 := Lib.hid (L1.out.ext hE)
  replace L6 := Lib.hid (L6.out.ext hE)
  replace L10 := Lib.hid (L10.out.ext hE)
  replace G11 := Lib.hid (G11.out.ext hE)
  replace G12 := Lib.hid (G12.out.ext hE)
  have hs_w13 := hE.size
  clear hE
  go_wp2_with fail
  refine Calls.mono (rof3_any 4 _ (by decide) (by decide)) ?_
  rintro e w14 ⟨x14, rfl, hE, g14⟩
  have G14 := Lib.hid g14
  clear g14
  replace HX := Lib.hid (HX.out.trans hE)
  replace L1 := Lib.hid (L1.out.ext hE)
  replace L6 := Lib.hid (L6.out.ext hE)
  replace L10 := Lib.hid (L10.out.ext hE)
  replace G11 := Lib.hid (G11.out.ext hE)
  replace G12 := Lib.hid (G12.out.ext hE)
  replace G13 := Lib.hid (G13.out.ext hE)
  have hs_w14 := hE.size
  clear hE
  go_wp2_with fail
  refine nm_alloc (F := fun W => Calls _ _ _ W _) ?_
  intro y15 hE hB0 hz
  have hz_y15 := Nat.le_of_eq hz
  have hr_y15 := Nat.le_of_eq hz.symm
  clear hz
  replace HX := Lib.hid (HX.out.trans hE)
  replace L1 := Lib.hid (L1.out.ext hE)
  replace L6 := Lib.hid (L6.out.ext hE)
  replace L10 := Lib.hid (L10.out.ext hE)
  replace G11 := Lib.hid (G11.out.ext hE)
  replace G12 := Lib.hid (G12.out.ext hE)
  replace G13 := Lib.hid (G13.out.ext hE)
  replace G14 := Lib.hid (G14.out.ext hE)
  have hs_y15 := hE.size
  clear hE
  have B15 := Lib.hid hB0
  clear hB0
  have c_B15 := blk_cell B15.out
  have f_B15 := blk_frozen B15.out
  have l_B15 := (Array.getElem?_eq_some_iff.1 B15.out).1
  change Calls _ _ _ _ _
  have L15 := Lib.hid (canL_4 B15.out G11.out G12.out G13.out G14.out)
  (try clear c_B15 f_B15 l_B15); clear B15
  clear G11
  clear G12
  clear G13
  clear G14
  refine Calls.mono (equal_any ⟨a1, n1, c1⟩ ⟨some ⟨w14.heap.size, 0, none⟩, 4, 4⟩ [iq 0, iq (-3), iq 0, iq 4] [iq 0, iq (-3), iq 0, iq 4] _ L1.out L15.out) ?_
  rintro e w16 ⟨x16, rfl, hE, -⟩
  replace HX := Lib.hid (HX.out.trans hE)
  replace L1 := Lib.hid (L1.out.ext hE)
  replace L6 := Lib.hid (L6.out.ext hE)
  replace L10 := Lib.hid (L10.out.ext hE)
  replace L15 := Lib.hid (L15.out.ext hE)
  have hs_w16 := hE.size
  clear hE
  rw [decide_eq_true rfl]
  clear L1
  clear L15
  go_wp2_with fail
  refine Calls.mono (rof3_any 2 _ (by decide) (by decide)) ?_
  rintro e w17 ⟨x17, rfl, hE, g17⟩
  have G17 := Lib.hid g17
  clear g17
  replace HX := Lib.hid (HX.out.trans hE)
  replace L6 := Lib.hid (L6.out.ext hE)
  replace L10 := Lib.hid (L10.out.ext hE)
  have hs_w17 := hE.size
  clear hE
  go_wp2_with fail
  refine Calls.mono (rof3_any 2 _ (by decide) (by decide)) ?_
  rintro e w18 ⟨x18, rfl, hE, g18⟩
  have G18 := Lib.hid g18
  clear g18
  replace HX := Lib.hid (HX.out.trans hE)
  replace L6 := Lib.hid (L6.out.ext hE)
  replace L10 := Lib.hid (L10.out.ext hE)
  replace G17 := Lib.hid (G17.out.ext hE)
  have hs_w18 := hE.size
  clear hE
  go_wp2_with fail
  refine nm_alloc (F := fun W => Calls _ _ _ W _) ?_
  intro y19 hE hB0 hz
  have hz_y19 := Nat.le_of_eq hz
  have hr_y19 := Nat.le_of_eq hz.symm
  clear hz
  replace HX := Lib.hid (HX.out.trans hE)
  replace L6 := Lib.hid (L6.out.ext hE)
  replace L10 := Lib.hid (L10.out.ext hE)
  replace G17 := Lib.hid (G17.out.ext hE)
  replace G18 := Lib.hid (G18.out.ext hE)
  have hs_y19 := hE.size
  clear hE
  have B19 := Lib.hid hB0
  clear hB0
  have c_B19 := blk_cell B19.out
  have f_B19 := blk_frozen B19.out
  have l_B19 := (Array.getElem?_eq_some_iff.1 B19.out).1
  change Calls _ _ _ _ _
  have L19 := Lib.hid (canL_2 B19.out G17.out G18.out)
  (try clear c_B19 f_B19 l_B19); clear B19
  clear G17
  clear G18
  refine Calls.mono (equal_any ⟨a6, n6, c6⟩ ⟨some ⟨w18.heap.size, 0, none⟩, 2, 2⟩ [iq 2, iq 2] [iq 2, iq 2] _ L6.out L19.out) ?_
  rintro e w20 ⟨x20, rfl, hE, -⟩
  replace HX := Lib.hid (HX.out.trans hE)
  replace L6 := Lib.hid (L6.out.ext hE)
  replace L10 := Lib.hid (L10.out.ext hE)
  replace L19 := Lib.hid (L19.out.ext hE)
  have hs_w20 := hE.size
  clear hE
  rw [decide_eq_true rfl]
  clear L6
  clear L19
  go_wp2_with fail
  refine Calls.mono (rof3_any 2 _ (by decide) (by decide)) ?_
  rintro e w21 ⟨x21, rfl, hE, g21⟩
  have G21 := Lib.hid g21
  clear g21
  replace HX := Lib.hid (HX.out.trans hE)
  replace L10 := Lib.hid (L10.out.ext hE)
  have hs_w21 := hE.size
  clear hE
  go_wp2_with fail
  refine Calls.mono (rof3_any (-2) _ (by decide) (by decide)) ?_
  rintro e w22 ⟨x22, rfl, hE, g22⟩
  have G22 := Lib.hid g22
  clear g22
  replace HX := Lib.hid (HX.out.trans hE)
  replace L10 := Lib.hid (L10.out.ext hE)
  replace G21 := Lib.hid (G21.out.ext hE)
  have hs_w22 := hE.size
  clear hE
  go_wp2_with fail
  refine nm_alloc (F := fun W => Calls _ _ _ W _) ?_
  intro y23 hE hB0 hz
  have hz_y23 := Nat.le_of_eq hz
  have hr_y23 := Nat.le_of_eq hz.symm
  clear hz
  replace HX := Lib.hid (HX.out.trans hE)
  replace L10 := Lib.hid (L10.out.ext hE)
  replace G21 := Lib.hid (G21.out.ext hE)
  replace G22 := Lib.hid (G22.out.ext hE)
  have hs_y23 := hE.size
  clear hE
  have B23 := Lib.hid hB0
  clear hB0
  have c_B23 := blk_cell B23.out
  have f_B23 := blk_frozen B23.out
  have l_B23 := (Array.getElem?_eq_some_iff.1 B23.out).1
  change Calls _ _ _ _ _
  have L23 := Lib.hid (canL_2 B23.out G21.out G22.out)
  (try clear c_B23 f_B23 l_B23); clear B23
  clear G21
  clear G22
  refine Calls.mono (equal_any ⟨a10, n10, c10⟩ ⟨some ⟨w22.heap.size, 0, none⟩, 2, 2⟩ [iq 2, iq (-2)] [iq 2, iq (-2)] _ L10.out L23.out) ?_
  rintro e w24 ⟨x24, rfl, hE, -⟩
  replace HX := Lib.hid (HX.out.trans hE)
  replace L10 := Lib.hid (L10.out.ext hE)
  replace L23 := Lib.hid (L23.out.ext hE)
  have hs_w24 := hE.size
  clear hE
  rw [decide_eq_true rfl]
  go_wp2
  go_ret
  exact ⟨(), rfl, HX.out, trivial⟩
end Go.Proofs.YtbcamhfoemnmgaaGreat
