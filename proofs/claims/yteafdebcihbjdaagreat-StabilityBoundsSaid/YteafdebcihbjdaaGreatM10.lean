/- Stb4, Stb5, Stb6, StbQ, Awk, Mk3 -/
import Derived.Test.YteafdebcihbjdaaGreatM9
import Derived.Test.YteafdebcihbjdaaGreatM8
set_option linter.unusedVariables false
/- Reflections of package stability. -/
namespace Go.Proofs.YteafdebcihbjdaaGreat
open Go.RowKit Go.Front Go.Num
attribute [local go_sem] XW.cell XW.frozen
def norm (p : List Rat) : List Rat := p.map (· / p.getD 0 0)
/-- The reflections: an error and the list. -/
def reflV (qs : List Rat) : Int × List Rat := if wrongE qs ≠ 0 then (wrongE qs, []) else match Stab.refl ((tz qs).length - 1) (norm (tz qs)) with
  | some k => (0, k)
  | none => (14, [])
/-- The sizes of all steps. -/
def RefOk : Nat → List Rat → Prop
  | 0, _ => True
  | m + 1, c => SzL 8388608 c ∧ RefOk m (Stab.down c (c.getD (m + 1) 0) (m + 1))
def TCan (w : World) (ks : List RH) (g : Nat) (tl : List Rat) : Prop := ∀ j, j < tl.length → CanR w (ks.getD (g + j) default) (tl.getD j 0)
theorem TCan.ext {w w' : World} {ks : List RH} {g : Nat} {tl : List Rat} (h : TCan w ks g tl) (he : Ext w w') : TCan w' ks g tl := fun j hj => (h j hj).ext he
theorem TCan.keep {w w' : World} {ks : List RH} {g : Nat} {tl : List Rat} (h : TCan w ks g tl) (he : Keep w w') : TCan w' ks g tl := fun j hj => (h j hj).keep he
theorem TCan.cons {w : World} {ks : List RH} {g : Nat} {tl : List Rat} (h : TCan w ks (g + 1) tl) {x : RH} {v : Rat} (hx : CanR w x v) (hg : g < ks.length) : TCan w (ks.set g x) g (v :: tl) := by
  intro j hj
  cases j with
  | zero => simpa [hg] using hx
  | succ j =>
    have := h j (by simpa using hj)
    rw [show (ks.set g x).getD (g + (j + 1)) default = ks.getD (g + 1 + j) default by
      rw [List.getD_eq_getElem?_getD, List.getD_eq_getElem?_getD, List.getElem?_set_ne (by omega), show g + (j + 1) = g + 1 + j by omega]]
    simpa using this
/-- Between the rounds. -/
def RInv (w : World) (b7 Lk M : Nat) (c0 : List Rat) (g : Nat) (p9 : Value) (wr : World) : Prop := ∃ (b9 : Nat) (s : SH) (c : List Rat) (lo hi : Nat) (ks : List RH) (tl : List Rat),
  p9 = ptr b9 ∧ Ext w wr ∧ wr.heap[b7]? = some (.cells #[s.v] 22 (0, 0)) ∧ wr.heap[b9]? = some (.cells #[.int .i64 (g : Nat)] 3 (0, 0)) ∧ b9 ≠ b7 ∧ b9 ≠ Lk ∧ w.heap.size ≤ b9 ∧ RBk wr Lk ks #[] ∧ ks.length = M ∧
  LIn wr s c lo hi ∧ (b7 < lo ∨ hi ≤ b7) ∧ (Lk < lo ∨ hi ≤ Lk) ∧ hi ≤ b9 ∧ c.length = g + 1 ∧ RefOk g c ∧ tl.length + g = M ∧ Stab.refl M c0 = (Stab.refl g c).map (· ++ tl) ∧ TCan wr ks g tl
theorem LIn.cells {w : World} {ao : Option Addr} {n c : Nat} {qs : List Rat} {lo hi : Nat} (h : LIn w ⟨ao, n, c⟩ qs lo hi) {k : Nat} (hk : k < n) : ∃ b off r, ao = some ⟨b, off, none⟩ ∧ b < w.heap.size ∧ RAt w b (off + k * 3) r ∧ CanR w r (qs.getD k 0) := by
  obtain ⟨b, off, r, h1, h2, h3⟩ := h.can.at hk
  exact ⟨b, off, r, h1, h2.lt, h2, h3⟩
theorem LIn.le {w : World} {s : SH} {qs : List Rat} {lo hi : Nat} (h : LIn w s qs lo hi) : s.n ≤ s.c := h.can.le
theorem LIn.max {w : World} {s : SH} {qs : List Rat} {lo hi : Nat} (h : LIn w s qs lo hi) : s.c ≤ 9223372036854775807 := h.can.max
def RF (x : SH × Int) : Value := .tuple #[x.1.v, .int .i64 x.2]
theorem norm_range (p : List Rat) : norm p = (List.range p.length).map (fun i => p.getD i 0 / p.getD 0 0) := by
  apply List.ext_getElem (by simp [norm])
  intro i h1 h2
  have : i < p.length := by simpa [norm] using h1
  simp [norm, this]
theorem norm_length (p : List Rat) : (norm p).length = p.length := by simp [norm]
/-- mapped with a function that makes memory alone. -/
theorem mapped_ext (f : FuncId) (fn : Func) (cap : Array Value) (hf : Tryz.prog.funcs[f]? = some fn) (hnm : (fn.name == "runtime.NumGoroutine") = false) (hbd : fn.body.isNone = false) (g : Nat → Rat) (s : SH) (qs : List Rat) (w : World) (hl : CanL w s qs) (hn : s.n ≤ 1073741824)
    (hcall : ∀ i w1 r, i < s.n → Ext w w1 → CanR w1 r (qs.getD i 0) → Calls Tryz.prog f (#[.int .i64 (i : Nat), r.v] ++ cap) w1 (DoPost RH.v (fun x w' => CanR w' x (g i)) w1)) :
    Calls Tryz.prog 40 #[s.v, .func (.func f) #[] cap] w (DoPost SH.v (fun s' w' => OwnQ w' (w.heap.size ≤ ·) s'.v ((List.range s.n).map g)) w) := by
  obtain ⟨ao, n, c⟩ := s
  obtain ⟨rs, h1, h2⟩ := hl
  have hle := h1.le
  have hlen := h1.len
  simp only at hle hlen hn hcall ⊢
  refine (mapped_any f fn cap hf hnm hbd (fun _ w1 => Ext w w1) g ao n c rs w hn hle (Ext.refl _) (fun _ w1 w2 h hb _ => Ext.of_below h hb (Nat.le_refl _)) (fun _ w1 h => ⟨h.size, h1.ext h⟩) ?_).mono ?_
  · intro i w1 hi hE
    refine (hcall i w1 (rs.getD i default) hi hE ((h2.2 i (by rw [← h2.1]; omega)).ext hE)).mono ?_
    rintro e w2 ⟨x, rfl, hE2, hx⟩
    exact ⟨x, rfl, hx, hE.trans hE2, keep_ext hE2, fun b _ hb => Below.block hE2 b hb⟩
  · rintro e w' ⟨s', rfl, h3, h4⟩
    exact ⟨s', rfl, h4, h3⟩
theorem tz_snoc0 (l : List Rat) : tz (l ++ [0]) = tz l := by simp [tz]
theorem tz_snoc (l : List Rat) {r : Rat} (h : r ≠ 0) : tz (l ++ [r]) = l ++ [r] := by simp [tz, h]
theorem tz_prefix (l : List Rat) : tz l = l.take (tz l).length := by
  induction l using Stab.snoc_ind with
  | h0 => rfl
  | h1 l r ih =>
    by_cases h : r = 0
    · subst h
      rw [tz_snoc0, List.take_append_of_le_length (tz_len_le l)]
      exact ih
    · rw [tz_snoc l h, List.take_length]
theorem tz_getD {l : List Rat} {i : Nat} (h : i < (tz l).length) : (tz l).getD i 0 = l.getD i 0 := by
  rw [tz_prefix l]
  simp [h]
theorem tz_out {l : List Rat} {i : Nat} (h : (tz l).length ≤ i) : l.getD i 0 = 0 := by
  induction l using Stab.snoc_ind with
  | h0 => rfl
  | h1 l r ih =>
    by_cases hr : r = 0
    · subst hr
      rw [tz_snoc0] at h
      rw [Stab.snoc0_getD]
      exact ih h
    · rw [tz_snoc l hr] at h
      rw [List.getD_eq_getElem?_getD, List.getElem?_eq_none h]
      rfl
theorem tz_getD' (l : List Rat) (i : Nat) : (tz l).getD i 0 = l.getD i 0 := by
  rcases Nat.lt_or_ge i (tz l).length with h | h
  · exact tz_getD h
  · rw [tz_out h, List.getD_eq_getElem?_getD, List.getElem?_eq_none h]
    rfl
theorem wrong_ok {qs : List Rat} (h : wrongE qs = 0) : (tz qs).length ≤ 49 ∧ 0 < (tz qs).length ∧ (tz qs).getD 0 0 ≠ 0 := by
  unfold wrongE at h
  split at h
  · cases h
  · split at h
    · cases h
    · rename_i h1 h2
      have h3 : qs.getD 0 0 ≠ 0 := fun e => h2 (Or.inr e)
      refine ⟨by omega, ?_, by rw [tz_getD']; exact h3⟩
      rcases Nat.eq_zero_or_pos (tz qs).length with h4 | h4
      · exact absurd (tz_out (by omega)) h3
      · exact h4
theorem SzL.tz {k : Nat} {qs : List Rat} (h : SzL k qs) : SzL k (tz qs) := by
  rw [tz_prefix]
  exact fun q hq => h q (List.mem_of_mem_take hq)
theorem can_take {w : World} {r : RH} {c : List Rat} {i m : Nat} (h : CanR w r ((c.take m).getD i 0)) (hi : i < m) : CanR w r (c.getD i 0) := by
  rwa [show (c.take m).getD i 0 = c.getD i 0 by simp [hi]] at h
theorem take_sz {k m : Nat} {c : List Rat} (h : SzL k c) {i : Nat} (hi : i < m) (hc : c.length = m + 1) : Sz k ((c.take m).getD i 0) :=
  SzL.at (fun q hq => h q (List.mem_of_mem_take hq)) (by rw [List.length_take]; omega)
set_option maxRecDepth 8000 in
set_option maxHeartbeats 4000000 in
theorem reflections_any (ao : Option Addr) (n cap : Nat) (qs : List Rat) (w : World) (h : RawL w ⟨ao, n, cap⟩ qs) (hn : n ≤ 1073741824) (hz : SzL 134217728 qs) (hok : wrongE qs = 0 → RefOk ((tz qs).length - 1) (norm (tz qs))) :
    Does 57 [.slice ao n cap] w RF (fun x w' => x.2 = (reflV qs).1 ∧ NewL w.heap.size w' x.1 (reflV qs).2) := by
  obtain ⟨i0, hi0, hz0, hz1, hz2⟩ := info_parts infoR
  have H := Lib.hid h
  have HX := Lib.hid (Ext.refl w)
  have HZ := Lib.hid hz
  have HO := Lib.hid hok
  clear h hz hok
  unfold Does
  go_enter Tryz.func57, Tryz.ntmps57
  go_wp2_with fail
  refine Calls.mono (wrong_any ao n cap qs _ H.out hn) ?_
  rintro e w1 ⟨x1, rfl, hE, -⟩
  replace HX := Lib.hid (HX.out.trans hE)
  have hs_w1 := hE.size
  clear hE
  by_cases he : wrongE qs = 0
  case neg =>
    have heb : (wrongE qs == 0) = false := by simpa using he
    have hv : reflV qs = (wrongE qs, []) := by unfold reflV; rw [if_pos he]
    go_wp2
    exact bodyPost_ret (v := RF (⟨none, 0, 0⟩, wrongE qs)) (by simp [results, Tryz.results57, go_sem, RF]) rfl ⟨(⟨none, 0, 0⟩, wrongE qs), rfl, HX.out, by rw [hv], by rw [hv]; exact NewL.nil _ _⟩
  rw [he]
  go_wp2_with fail
  refine Calls.mono (ptrim_any ao n cap qs _ (H.out.ext HX.out) hn) ?_
  rintro e w2 ⟨x2, rfl, hE, g2⟩
  have G2 := Lib.hid g2
  clear g2
  replace HX := Lib.hid (HX.out.trans hE)
  have hs_w2 := hE.size
  clear hE
  obtain ⟨hw1, hw2, hw3⟩ := wrong_ok he
  obtain ⟨ao2, n2, c2⟩ := x2
  simp only [SH.v]
  have hl2 := G2.out.len
  simp only at hl2
  have hle2 := LIn.le G2.out
  have hmx2 := LIn.max G2.out
  simp only at hle2 hmx2
  have Hl2 := Lib.hid hl2
  rw [hl2] at hw1 hw2
  obtain ⟨p, hp⟩ : ∃ p, p = tz qs := ⟨_, rfl⟩
  have HP := Lib.hid hp
  rw [← hp] at G2 hw3 Hl2
  clear hl2 hp
  obtain ⟨b, off, r, hao, hbl, hc, hr⟩ := LIn.cells G2.out (k := 0) hw2
  subst hao
  obtain ⟨rneg, ra, rn, rc, rb, rm, rd⟩ := r
  obtain ⟨hc1, hc2, hc3⟩ := hc
  simp only [Nat.zero_mul, Nat.add_zero] at hc1 hc2 hc3
  have R0 := Lib.hid hr
  clear hr
  have Hw3 := Lib.hid hw3
  clear hw3
  have hw4 : n2 ≠ 0 := by omega
  go_upto_region 6 with fail
  refine nm_alloc ?_
  intro w3 hE hB0 hz
  have hz_w3 := Nat.le_of_eq hz
  have hr_w3 := Nat.le_of_eq hz.symm
  clear hz
  replace HX := Lib.hid (HX.out.trans hE)
  replace G2 := Lib.hid (G2.out.ext hE)
  replace R0 := Lib.hid (R0.out.ext hE)
  have hs_w3 := hE.size
  clear hE
  have B6 := Lib.hid hB0
  clear hB0
  have c_B6 := blk_cell B6.out
  have f_B6 := blk_frozen B6.out
  have l_B6 := (Array.getElem?_eq_some_iff.1 B6.out).1
  go_wp2_with fail
  refine Calls.mono (mapped_ext 96 _ #[ptr w2.heap.size] Tryz.func96 (by kernel_rfl) (by kernel_rfl) (fun i => p.getD i 0 / p.getD 0 0) ⟨some ⟨b, off, none⟩, n2, c2⟩ p _ G2.out.can (by simp only; omega) (fun i w1 r hi hE hr => refl1_any _ r ⟨rneg, ra, rn, rc, rb, rm, rd⟩ _ _ _ _ (hr.raw (SzL.at (HP.out ▸ HZ.out.tz) (by rw [Hl2.out]; exact hi)) (by decide)) (RAt.ext (r := ⟨rneg, ra, rn, rc, rb, rm, rd⟩) ⟨c_B6 0, c_B6 1, c_B6 2⟩ hE) ((R0.out.ext hE).raw (SzL.at (HP.out ▸ HZ.out.tz) (by rw [Hl2.out]; exact hw2)) (by decide)) Hw3.out)) ?_
  rintro e w4 ⟨x4, rfl, hE, g4⟩
  have G4 := Lib.hid g4
  clear g4
  replace HX := Lib.hid (HX.out.trans hE)
  replace G2 := Lib.hid (G2.out.ext hE)
  replace R0 := Lib.hid (R0.out.ext hE)
  replace B6 := Lib.hid (hE.block B6.out)
  have hs_w4 := hE.size
  clear hE
  (try clear c_B6 f_B6 l_B6)
  have c_B6 := blk_cell B6.out
  have f_B6 := blk_frozen B6.out
  have l_B6 := (Array.getElem?_eq_some_iff.1 B6.out).1
  obtain ⟨ao4, n4, c4⟩ := x4
  simp only [SH.v]
  obtain rfl : n2 = n4 := by have := OwnQ.len (s := ⟨ao4, n4, c4⟩) G4.out; simpa using this
  have L4 : Hid (LIn w4 ⟨ao4, n2, c4⟩ (norm p) w3.heap.size w4.heap.size) := Lib.hid (by rw [norm_range, Hl2.out]; exact G4.out.lin)
  have hle4 := LIn.le L4.out
  have hmx4 := LIn.max L4.out
  simp only at hle4 hmx4
  clear G4
  clear G2
  clear R0
  (try clear c_B6 f_B6 l_B6); clear B6
  clear hc1 hc2 hc3
  obtain ⟨M, hM⟩ : ∃ M, n2 = M + 1 := ⟨n2 - 1, by omega⟩
  subst hM
  go_upto_region 7 with fail
  refine nm_alloc ?_
  intro w5 hE hB0 hz
  have hz_w5 := Nat.le_of_eq hz
  have hr_w5 := Nat.le_of_eq hz.symm
  clear hz
  replace HX := Lib.hid (HX.out.trans hE)
  replace L4 := Lib.hid (L4.out.ext hE)
  have hs_w5 := hE.size
  clear hE
  have B7 := Lib.hid hB0
  clear hB0
  have c_B7 := blk_cell B7.out
  have f_B7 := blk_frozen B7.out
  have l_B7 := (Array.getElem?_eq_some_iff.1 B7.out).1
  go_upto_region 8 with (refine wpList_make rfl (.tmp 27) (.tmp 27) 22 rfl 30 i0 (RH.v default) 3 Tryz.underlying22 hi0 hz0 hz1 _ _ M rfl rfl (by omega) (by omega) (by rw [hz2]; omega) (by omega) ?_; intro w6 hnew hE)
  have KB := Lib.hid (RBk.make rfl hnew)
  have hk6 := KB.out.lt
  clear hnew
  replace HX := Lib.hid (HX.out.trans hE)
  replace L4 := Lib.hid (L4.out.ext hE)
  replace B7 := Lib.hid (hE.block B7.out)
  have hs_w6 := hE.size
  clear hE
  (try clear c_B7 f_B7 l_B7)
  have c_B7 := blk_cell B7.out
  have f_B7 := blk_frozen B7.out
  have l_B7 := (Array.getElem?_eq_some_iff.1 B7.out).1
  go_wp2
  refine nm_alloc ?_
  intro w7 hE hB0 hz
  have hz_w7 := Nat.le_of_eq hz
  have hr_w7 := Nat.le_of_eq hz.symm
  clear hz
  replace HX := Lib.hid (HX.out.trans hE)
  replace L4 := Lib.hid (L4.out.ext hE)
  replace B7 := Lib.hid (hE.block B7.out)
  replace KB := Lib.hid (hE.block KB.out)
  have hs_w7 := hE.size
  clear hE
  (try clear c_B7 f_B7 l_B7)
  have c_B7 := blk_cell B7.out
  have f_B7 := blk_frozen B7.out
  have l_B7 := (Array.getElem?_eq_some_iff.1 B7.out).1
  (try clear f_KB l_KB)
  have f_KB := blk_frozen KB.out
  have l_KB := (Array.getElem?_eq_some_iff.1 KB.out).1
  have B9 := Lib.hid hB0
  clear hB0
  have c_B9 := blk_cell B9.out
  have f_B9 := blk_frozen B9.out
  have l_B9 := (Array.getElem?_eq_some_iff.1 B9.out).1
  have HOK : Hid (RefOk M (norm p)) := Lib.hid (by have := HO.out he; rw [← HP.out, Hl2.out] at this; exact this)
  have HV : Hid (reflV qs = match Stab.refl M (norm p) with | some k => (0, k) | none => (14, [])) := Lib.hid (by
    unfold reflV
    rw [if_neg (fun h => h he), ← HP.out, Hl2.out]
    rfl)
  have hgeB : w.heap.size ≤ w4.heap.size := by omega
  have hgeK : w.heap.size ≤ w5.heap.size := by omega
  have hneK : w4.heap.size ≠ w5.heap.size := by omega
  have HQ : Hid (w6.heap.size ≠ w4.heap.size ∧ w6.heap.size ≠ w5.heap.size ∧ w.heap.size ≤ w6.heap.size ∧ w4.heap.size ≤ w5.heap.size ∧ w4.heap.size ≤ w6.heap.size) := Lib.hid (by omega)
  obtain ⟨b7, hb7e⟩ : ∃ b7, b7 = w4.heap.size := ⟨_, rfl⟩
  obtain ⟨Lk, hLke⟩ : ∃ Lk, Lk = w5.heap.size := ⟨_, rfl⟩
  rw [← hb7e] at B7 hgeB hneK HQ L4 ⊢
  rw [← hLke] at KB hgeK hneK HQ ⊢
  clear c_B7 f_B7 l_B7 f_KB l_KB hb7e hLke hs_w1 hs_w2 hs_w3 hs_w4 hs_w5 hs_w6 hs_w7 hz_w3 hr_w3 hz_w5 hr_w5 hz_w7 hr_w7 hbl hk6
  go_loopg [9] M (fun g p9 wr => RInv w b7 Lk M (norm p) g p9 wr)
  case atStart => exact ⟨w6.heap.size, ⟨ao4, M + 1, c4⟩, norm p, w3.heap.size, b7, List.replicate M default, [], rfl, HX.out, B7.out, B9.out, HQ.out.1, HQ.out.2.1, HQ.out.2.2.1, KB.out, by simp, L4.out, Or.inr (Nat.le_refl _), Or.inr HQ.out.2.2.2.1, HQ.out.2.2.2.2, by rw [norm_length, Hl2.out], HOK.out, by simp, by simp, fun j hj => by simp at hj⟩
  case round =>
    obtain ⟨b9, s, c, lo, hi, ks, tl, rfl, hE, hb7, hb9, hne1, hne2, hge, hkb, hks, hL, hd1, hd2, hd3, hlen, hok, htl, href, hcan⟩ := hrel
    clear HX B7 B9 KB L4 c_B9 f_B9 l_B9 HQ
    have HX := Lib.hid hE
    have B7 := Lib.hid hb7
    have B9 := Lib.hid hb9
    have KB := Lib.hid hkb
    have L := Lib.hid hL
    have Hlen := Lib.hid hlen
    have Hok := Lib.hid hok
    have Href := Lib.hid href
    have Hcan := Lib.hid hcan
    have Hks := Lib.hid hks
    have Htl := Lib.hid htl
    obtain ⟨aoc, nc, cc⟩ := s
    simp only [SH.v] at B7
    obtain rfl : gk + 1 = nc := by have := hL.len; simp only at this; omega
    have hlec := hL.le
    have hmxc := hL.max
    simp only at hlec hmxc
    clear hE hb7 hb9 hkb hL hlen hok href hcan hks
    simp only [ptr]
    (try clear c_B7 f_B7 l_B7)
    have c_B7 := blk_cell B7.out
    have f_B7 := blk_frozen B7.out
    have l_B7 := (Array.getElem?_eq_some_iff.1 B7.out).1
    (try clear c_B9 f_B9 l_B9)
    have c_B9 := blk_cell B9.out
    have f_B9 := blk_frozen B9.out
    have l_B9 := (Array.getElem?_eq_some_iff.1 B9.out).1
    (try clear f_KB l_KB)
    have f_KB := blk_frozen KB.out
    have l_KB := (Array.getElem?_eq_some_iff.1 KB.out).1
    have hb7r := l_B7
    have hb9r := l_B9
    have hLkr := l_KB
    by_cases h0 : gk = 0
    · subst h0
      go_wp2
      have hv : reflV qs = (0, tl) := by
        rw [HV.out, Href.out]
        rfl
      refine bodyPost_ret (v := RF (⟨some ⟨Lk, 0, none⟩, M, M⟩, 0)) (by simp [results, Tryz.results57, go_sem, RF]) rfl ⟨(⟨some ⟨Lk, 0, none⟩, M, M⟩, 0), rfl, HX.out, by rw [hv], ?_⟩
      rw [hv]
      refine ⟨ks, RBk.rs KB.out Hks.out (Nat.le_refl _) (by omega), ⟨by rw [Hks.out, ← Htl.out]; rfl, fun k hk => ?_⟩, Or.inr ⟨Lk, 0, rfl, hgeK, l_KB⟩⟩
      have := Hcan.out k hk
      rwa [Nat.zero_add] at this
    · obtain ⟨g, rfl⟩ : ∃ g, gk = g + 1 := ⟨gk - 1, by omega⟩
      obtain ⟨b, off, r, hao, hbl, hc, hr⟩ := LIn.cells L.out (k := g + 1) (by omega)
      subst hao
      obtain ⟨rneg, ra, rn, rc, rb, rm, rd⟩ := r
      obtain ⟨hc1, hc2, hc3⟩ := hc
      simp only at hc1 hc2 hc3
      have hz := Hok.out.1.at (i := g + 1) (by rw [Hlen.out]; omega)
      obtain ⟨v, hv⟩ : ∃ v, v = c.getD (g + 1) 0 := ⟨_, rfl⟩
      rw [← hv] at hr hz
      have HVv := Lib.hid hv
      have HZv := Lib.hid hz
      have R0 := Lib.hid (hr.raw hz (by decide))
      clear hr hv hz h0
      have TC := Hcan
      clear Hcan
      go_wp2_with fail
      refine Calls.mono (rtrim_any ⟨rneg, ra, rn, rc, rb, rm, rd⟩ v _ R0.out) ?_
      rintro e w1 ⟨x1, rfl, hE, g1⟩
      have G1 := Lib.hid g1
      clear g1
      replace HX := Lib.hid (HX.out.trans hE)
      replace B7 := Lib.hid (hE.block B7.out)
      replace B9 := Lib.hid (hE.block B9.out)
      replace KB := Lib.hid (hE.block KB.out)
      replace L := Lib.hid (L.out.ext hE)
      replace R0 := Lib.hid (R0.out.ext hE)
      replace TC := Lib.hid (TC.out.ext hE)
      have hs_w1 := hE.size
      clear hE
      (try clear c_B7 f_B7 l_B7)
      have c_B7 := blk_cell B7.out
      have f_B7 := blk_frozen B7.out
      have l_B7 := (Array.getElem?_eq_some_iff.1 B7.out).1
      (try clear c_B9 f_B9 l_B9)
      have c_B9 := blk_cell B9.out
      have f_B9 := blk_frozen B9.out
      have l_B9 := (Array.getElem?_eq_some_iff.1 B9.out).1
      (try clear f_KB l_KB)
      have f_KB := blk_frozen KB.out
      have l_KB := (Array.getElem?_eq_some_iff.1 KB.out).1
      clear hc1 hc2 hc3
      go_upto_region 12 with fail
      refine nm_alloc ?_
      intro y2 hE hB0 hz
      have hz_y2 := Nat.le_of_eq hz
      have hr_y2 := Nat.le_of_eq hz.symm
      clear hz
      replace HX := Lib.hid (HX.out.trans hE)
      replace B7 := Lib.hid (hE.block B7.out)
      replace B9 := Lib.hid (hE.block B9.out)
      replace KB := Lib.hid (hE.block KB.out)
      replace L := Lib.hid (L.out.ext hE)
      replace R0 := Lib.hid (R0.out.ext hE)
      replace TC := Lib.hid (TC.out.ext hE)
      replace G1 := Lib.hid (G1.out.ext hE)
      have hs_y2 := hE.size
      clear hE
      (try clear c_B7 f_B7 l_B7)
      have c_B7 := blk_cell B7.out
      have f_B7 := blk_frozen B7.out
      have l_B7 := (Array.getElem?_eq_some_iff.1 B7.out).1
      (try clear c_B9 f_B9 l_B9)
      have c_B9 := blk_cell B9.out
      have f_B9 := blk_frozen B9.out
      have l_B9 := (Array.getElem?_eq_some_iff.1 B9.out).1
      (try clear f_KB l_KB)
      have f_KB := blk_frozen KB.out
      have l_KB := (Array.getElem?_eq_some_iff.1 KB.out).1
      have B10 := Lib.hid hB0
      clear hB0
      have c_B10 := blk_cell B10.out
      have f_B10 := blk_frozen B10.out
      have l_B10 := (Array.getElem?_eq_some_iff.1 B10.out).1
      go_wp2_with fail
      refine Calls.mono (stsmall_any x1 v _ (G1.out.raw HZv.out (by decide))) ?_
      rintro e w3 ⟨x3, rfl, hE, -⟩
      replace HX := Lib.hid (HX.out.trans hE)
      replace B7 := Lib.hid (hE.block B7.out)
      replace B9 := Lib.hid (hE.block B9.out)
      replace KB := Lib.hid (hE.block KB.out)
      replace L := Lib.hid (L.out.ext hE)
      replace R0 := Lib.hid (R0.out.ext hE)
      replace TC := Lib.hid (TC.out.ext hE)
      replace G1 := Lib.hid (G1.out.ext hE)
      replace B10 := Lib.hid (hE.block B10.out)
      have hs_w3 := hE.size
      clear hE
      (try clear c_B7 f_B7 l_B7)
      have c_B7 := blk_cell B7.out
      have f_B7 := blk_frozen B7.out
      have l_B7 := (Array.getElem?_eq_some_iff.1 B7.out).1
      (try clear c_B9 f_B9 l_B9)
      have c_B9 := blk_cell B9.out
      have f_B9 := blk_frozen B9.out
      have l_B9 := (Array.getElem?_eq_some_iff.1 B9.out).1
      (try clear f_KB l_KB)
      have f_KB := blk_frozen KB.out
      have l_KB := (Array.getElem?_eq_some_iff.1 KB.out).1
      (try clear c_B10 f_B10 l_B10)
      have c_B10 := blk_cell B10.out
      have f_B10 := blk_frozen B10.out
      have l_B10 := (Array.getElem?_eq_some_iff.1 B10.out).1
      by_cases hsm : -1 < v ∧ v < 1
      case neg =>
        rw [decide_eq_false hsm]
        have Hsm := Lib.hid hsm
        clear hsm
        have hv : reflV qs = (14, []) := by
          rw [HV.out, Href.out]
          have : Stab.refl (g + 1) c = none := by
            unfold Stab.refl
            rw [← HVv.out, if_neg Hsm.out]
          rw [this]
          rfl
        go_wp2
        exact bodyPost_ret (v := RF (⟨none, 0, 0⟩, 14)) (by simp [results, Tryz.results57, go_sem, RF]) rfl ⟨(⟨none, 0, 0⟩, 14), rfl, HX.out, by rw [hv], by rw [hv]; exact NewL.nil _ _⟩
      rw [decide_eq_true hsm]
      have Hsm := Lib.hid hsm
      clear hsm
      obtain ⟨k1, k2, k3⟩ := RBk.at (re := #[]) KB.out (k := g) (by rw [Hks.out]; omega)
      have hgM : g < M := by omega
      go_upto_region 15 with fail
      refine nm_rat (k := g) KB.out rfl (by rw [Hks.out]; omega) ?_
      intro y5 T
      clear k1 k2 k3
      replace HX := Lib.hid (T.ext HX.out (by omega))
      replace B7 := Lib.hid (T.rest _ _ (by omega) B7.out)
      replace B9 := Lib.hid (T.rest _ _ (by omega) B9.out)
      replace KB := Lib.hid (T.bx)
      replace L := Lib.hid (L.out.put T (by omega))
      replace R0 := Lib.hid (R0.out.keep T.keep)
      replace TC := Lib.hid (TC.out.keep T.keep)
      replace G1 := Lib.hid (G1.out.keep T.keep)
      replace B10 := Lib.hid (T.rest _ _ (by omega) B10.out)
      have hs_y5 := Nat.le_of_eq T.size
      have hr_y5 := Nat.le_of_eq T.size.symm
      clear T
      (try clear c_B7 f_B7 l_B7)
      have c_B7 := blk_cell B7.out
      have f_B7 := blk_frozen B7.out
      have l_B7 := (Array.getElem?_eq_some_iff.1 B7.out).1
      (try clear c_B9 f_B9 l_B9)
      have c_B9 := blk_cell B9.out
      have f_B9 := blk_frozen B9.out
      have l_B9 := (Array.getElem?_eq_some_iff.1 B9.out).1
      (try clear f_KB l_KB)
      have f_KB := blk_frozen KB.out
      have l_KB := (Array.getElem?_eq_some_iff.1 KB.out).1
      (try clear c_B10 f_B10 l_B10)
      have c_B10 := blk_cell B10.out
      have f_B10 := blk_frozen B10.out
      have l_B10 := (Array.getElem?_eq_some_iff.1 B10.out).1
      replace TC := Lib.hid (TC.out.cons G1.out (by rw [Hks.out]; exact hgM))
      have HS2 : Hid (1 - v * v ≠ 0) := Lib.hid (by have := Stab.one_sub_sq Hsm.out.1 Hsm.out.2; grind)
      clear R0
      refine wp_region_front 6 (fun opIx => match opIx with
        | 0 => .spec RH default RH.v (fun s w' => CanR w' s (((1 : Int) : Rat)))
        | 3 => .spec RH default RH.v (fun s w' => CanR w' s (v * v))
        | 4 => .spec RH default RH.v (fun s w' => CanR w' s (1 - v * v))
        | 5 => .alloc 30 #[.bool false, .slice none 0 0, .slice none 0 0]
        | _ => .quiet) (fun | 4 => [0, 3] | _ => []) (by kernel_rfl) (by kernel_rfl) (fun w0 he0 hz0 hc0 hf0 => ?_)
      replace he0 := Lib.hid he0
      simp only [List.take_succ_cons, List.take_zero]
      repeat (refine wpF_quiet rfl rfl rfl (fun K hK => ?_); go_big_quiet_op; refine hK _ ?_; clear hK K)
      refine wpF_spec rfl rfl (fun w1 hw1 hG => ?_) (fun x0 => ?_)
      · have hW := he0.out.trans hw1
        refine spec_call [.int .i64 1] rfl rfl Tryz.func39 (by kernel_rfl) (by kernel_rfl) ?_
        exact rof_any 1 _ (by decide) (by decide)
      simp only [Act.put, List.setIfInBounds_toArray, List.set_cons_succ, List.set_cons_zero]
      repeat (refine wpF_quiet rfl rfl rfl (fun K hK => ?_); go_big_quiet_op; refine hK _ ?_; clear hK K)
      refine wpF_spec rfl rfl (fun w1 hw1 hG => ?_) (fun x13 => ?_)
      · have hW := he0.out.trans hw1
        refine spec_call [x1.v, x1.v] rfl rfl Tryz.func43 (by kernel_rfl) (by kernel_rfl) ?_
        exact rmul_any x1 x1 _ _ _ ((G1.out.ext hW).raw HZv.out (by decide)) ((G1.out.ext hW).raw HZv.out (by decide))
      simp only [Act.put, List.setIfInBounds_toArray, List.set_cons_succ, List.set_cons_zero]
      repeat (refine wpF_quiet rfl rfl rfl (fun K hK => ?_); go_big_quiet_op; refine hK _ ?_; clear hK K)
      refine wpF_spec rfl rfl (fun w1 hw1 hG => ?_) (fun x4 => ?_)
      · have hW := he0.out.trans hw1
        obtain ⟨wa0, hwa0, g0⟩ : Since _ _ := hG 0 (by decide)
        replace g0 := g0.ext hwa0
        obtain ⟨wa13, hwa13, g13⟩ : Since _ _ := hG 3 (by decide)
        replace g13 := g13.ext hwa13
        refine spec_call [x0.v, x13.v] rfl rfl Tryz.func97 (by kernel_rfl) (by kernel_rfl) ?_
        exact rsub_any x0 x13 _ _ _ (g0.raw (Sz.int (by decide)) (by decide)) (g13.raw (HZv.out.mul HZv.out) (by decide))
      simp only [Act.put, List.setIfInBounds_toArray, List.set_cons_succ, List.set_cons_zero]
      repeat (refine wpF_quiet rfl rfl rfl (fun K hK => ?_); go_big_quiet_op; refine hK _ ?_; clear hK K)
      refine wpF_alloc rfl rfl (fun w => by simp [execOp, go_sem, ptr]) (fun b5 hb5 hl5 => ?_)
      simp only [Act.put, List.setIfInBounds_toArray, List.set_cons_succ, List.set_cons_zero]
      repeat (refine wpF_quiet rfl rfl rfl (fun K hK => ?_); go_big_quiet_op; refine hK _ ?_; clear hK K)
      refine wpF_nil ?_
      intro y6 hI
      have hE := he0.out.trans hI.ext
      obtain ⟨wa0, hwa0, g0⟩ : Since _ _ := hI.facts 0
      have G0 := Lib.hid (g0.ext hwa0)
      clear g0 hwa0
      obtain ⟨wa13, hwa13, g13⟩ : Since _ _ := hI.facts 3
      have G13 := Lib.hid (g13.ext hwa13)
      clear g13 hwa13
      obtain ⟨wa4, hwa4, g4⟩ : Since _ _ := hI.facts 4
      have G4 := Lib.hid (g4.ext hwa4)
      clear g4 hwa4
      have A5 : Hid (y6.heap[b5]? = some (.cells #[.bool false, .slice none 0 0, .slice none 0 0] 30 (0, 0))) := hI.facts 5
      rw [hz0] at hl5
      clear hI he0 hz0 hc0 hf0
      replace HX := Lib.hid (HX.out.trans hE)
      replace B7 := Lib.hid (hE.block B7.out)
      replace B9 := Lib.hid (hE.block B9.out)
      replace KB := Lib.hid (hE.block KB.out)
      replace L := Lib.hid (L.out.ext hE)
      replace TC := Lib.hid (TC.out.ext hE)
      replace G1 := Lib.hid (G1.out.ext hE)
      replace B10 := Lib.hid (hE.block B10.out)
      have hs_y6 := hE.size
      clear hE
      (try clear c_B7 f_B7 l_B7)
      have c_B7 := blk_cell B7.out
      have f_B7 := blk_frozen B7.out
      have l_B7 := (Array.getElem?_eq_some_iff.1 B7.out).1
      (try clear c_B9 f_B9 l_B9)
      have c_B9 := blk_cell B9.out
      have f_B9 := blk_frozen B9.out
      have l_B9 := (Array.getElem?_eq_some_iff.1 B9.out).1
      (try clear f_KB l_KB)
      have f_KB := blk_frozen KB.out
      have l_KB := (Array.getElem?_eq_some_iff.1 KB.out).1
      (try clear c_B10 f_B10 l_B10)
      have c_B10 := blk_cell B10.out
      have f_B10 := blk_frozen B10.out
      have l_B10 := (Array.getElem?_eq_some_iff.1 B10.out).1
      have c_A5 := blk_cell A5.out
      have f_A5 := blk_frozen A5.out
      have l_A5 := (Array.getElem?_eq_some_iff.1 A5.out).1
      simp only [List.drop_succ_cons, List.drop_zero, ptr]
      go_upto_region 16 with fail
      refine nm_set3 A5.out rfl ?_
      intro y7 T
      replace HX := Lib.hid (T.ext HX.out (by omega))
      replace B7 := Lib.hid (T.rest _ _ (by omega) B7.out)
      replace B9 := Lib.hid (T.rest _ _ (by omega) B9.out)
      replace KB := Lib.hid (T.rest _ _ (by omega) KB.out)
      replace L := Lib.hid (L.out.put T (by omega))
      replace TC := Lib.hid (TC.out.keep T.keep)
      replace G1 := Lib.hid (G1.out.keep T.keep)
      replace B10 := Lib.hid (T.rest _ _ (by omega) B10.out)
      replace G0 := Lib.hid (G0.out.keep T.keep)
      replace G13 := Lib.hid (G13.out.keep T.keep)
      replace G4 := Lib.hid (G4.out.keep T.keep)
      replace A5 := Lib.hid (T.bx)
      have hs_y7 := Nat.le_of_eq T.size
      have hr_y7 := Nat.le_of_eq T.size.symm
      clear T
      (try clear c_B7 f_B7 l_B7)
      have c_B7 := blk_cell B7.out
      have f_B7 := blk_frozen B7.out
      have l_B7 := (Array.getElem?_eq_some_iff.1 B7.out).1
      (try clear c_B9 f_B9 l_B9)
      have c_B9 := blk_cell B9.out
      have f_B9 := blk_frozen B9.out
      have l_B9 := (Array.getElem?_eq_some_iff.1 B9.out).1
      (try clear f_KB l_KB)
      have f_KB := blk_frozen KB.out
      have l_KB := (Array.getElem?_eq_some_iff.1 KB.out).1
      (try clear c_B10 f_B10 l_B10)
      have c_B10 := blk_cell B10.out
      have f_B10 := blk_frozen B10.out
      have l_B10 := (Array.getElem?_eq_some_iff.1 B10.out).1
      (try clear c_A5 f_A5 l_A5)
      have c_A5 := blk_cell A5.out
      have f_A5 := blk_frozen A5.out
      have l_A5 := (Array.getElem?_eq_some_iff.1 A5.out).1
      have hb7y : b7 < y7.heap.size := l_B7
      have hLky : Lk < y7.heap.size := l_KB
      have hszd : SzL 8388608 c := Hok.out.1
      have Hszd := Lib.hid hszd
      clear hszd
      go_wp2_with fail
      refine Calls.mono (mapped_ext 98 _ #[ptr w1.heap.size, ptr b7, ptr b9, ptr b5] Tryz.func98 (by kernel_rfl) (by kernel_rfl) (fun i => (c.getD i 0 - v * c.getD (g + 1 - i) 0) / (1 - v * v)) ⟨some ⟨b, off, none⟩, g + 1, cc⟩ (c.take (g + 1)) _ (L.out.take (m := g + 1) (by omega)).can (by simp only; omega) (fun i w1 r hi hE hr => refl2_any i (g + 1) r x1 x4 _ _ _ _ _ _ _ _ _ _ c _ ((can_take hr hi).raw (Hszd.out.at (by rw [Hlen.out]; simp only at hi; omega)) (by decide)) (RAt.ext (r := x1) ⟨c_B10 0, c_B10 1, c_B10 2⟩ hE) ((G1.out.ext hE).raw HZv.out (by decide)) (hE.cell (c_B7 0)) ((L.out.can.ext hE).raw Hszd.out (by decide)) (hE.cell (c_B9 0)) (by simp only at hi; omega) (by omega) (by omega) (RAt.ext (r := x4) ⟨c_A5 0, c_A5 1, c_A5 2⟩ hE) ((G4.out.ext hE).raw (Sz.sub (k := 1) (Sz.int (z := 1) (by decide)) (HZv.out.mul HZv.out)) (by decide)) HS2.out (Hszd.out.at (by rw [Hlen.out]; simp only at hi; omega)) HZv.out (Hszd.out.at (by rw [Hlen.out]; omega)))) ?_
      rintro e w8 ⟨x8, rfl, hE, g8⟩
      have G8 := Lib.hid g8
      clear g8
      replace HX := Lib.hid (HX.out.trans hE)
      replace B7 := Lib.hid (hE.block B7.out)
      replace B9 := Lib.hid (hE.block B9.out)
      replace KB := Lib.hid (hE.block KB.out)
      replace L := Lib.hid (L.out.ext hE)
      replace TC := Lib.hid (TC.out.ext hE)
      replace G1 := Lib.hid (G1.out.ext hE)
      replace B10 := Lib.hid (hE.block B10.out)
      replace G0 := Lib.hid (G0.out.ext hE)
      replace G13 := Lib.hid (G13.out.ext hE)
      replace G4 := Lib.hid (G4.out.ext hE)
      replace A5 := Lib.hid (hE.block A5.out)
      have hs_w8 := hE.size
      clear hE
      (try clear c_B7 f_B7 l_B7)
      have c_B7 := blk_cell B7.out
      have f_B7 := blk_frozen B7.out
      have l_B7 := (Array.getElem?_eq_some_iff.1 B7.out).1
      (try clear c_B9 f_B9 l_B9)
      have c_B9 := blk_cell B9.out
      have f_B9 := blk_frozen B9.out
      have l_B9 := (Array.getElem?_eq_some_iff.1 B9.out).1
      (try clear f_KB l_KB)
      have f_KB := blk_frozen KB.out
      have l_KB := (Array.getElem?_eq_some_iff.1 KB.out).1
      (try clear c_B10 f_B10 l_B10)
      have c_B10 := blk_cell B10.out
      have f_B10 := blk_frozen B10.out
      have l_B10 := (Array.getElem?_eq_some_iff.1 B10.out).1
      (try clear c_A5 f_A5 l_A5)
      have c_A5 := blk_cell A5.out
      have f_A5 := blk_frozen A5.out
      have l_A5 := (Array.getElem?_eq_some_iff.1 A5.out).1
      clear G1
      clear G0
      clear G13
      clear G4
      clear L
      (try clear c_A5 f_A5 l_A5); clear A5
      (try clear c_B10 f_B10 l_B10); clear B10
      obtain ⟨ao8, n8, c8⟩ := x8
      simp only [SH.v]
      have hl8 : n8 = g + 1 := by have := OwnQ.len (s := ⟨ao8, n8, c8⟩) G8.out; simpa using this.symm
      subst hl8
      have hd8 : Hid ((List.range (g + 1)).map (fun i => (c.getD i 0 - v * c.getD (g + 1 - i) 0) / (1 - v * v)) = Stab.down c v (g + 1)) := Lib.hid rfl
      simp only at G8
      rw [hd8.out] at G8
      have L8 : Hid (LIn w8 ⟨ao8, g + 1, c8⟩ (Stab.down c v (g + 1)) y7.heap.size w8.heap.size) := Lib.hid (OwnQ.lin (s := ⟨ao8, g + 1, c8⟩) G8.out)
      clear G8
      go_upto_region 17 with fail
      refine nm_set1 B7.out rfl ?_
      intro y9 T
      replace HX := Lib.hid (T.ext HX.out (by omega))
      replace B7 := Lib.hid (T.bx)
      replace B9 := Lib.hid (T.rest _ _ (by omega) B9.out)
      replace KB := Lib.hid (T.rest _ _ (by omega) KB.out)
      replace TC := Lib.hid (TC.out.keep T.keep)
      replace L8 := Lib.hid (L8.out.put T (by omega))
      have hs_y9 := Nat.le_of_eq T.size
      have hr_y9 := Nat.le_of_eq T.size.symm
      clear T
      (try clear c_B7 f_B7 l_B7)
      have c_B7 := blk_cell B7.out
      have f_B7 := blk_frozen B7.out
      have l_B7 := (Array.getElem?_eq_some_iff.1 B7.out).1
      (try clear c_B9 f_B9 l_B9)
      have c_B9 := blk_cell B9.out
      have f_B9 := blk_frozen B9.out
      have l_B9 := (Array.getElem?_eq_some_iff.1 B9.out).1
      (try clear f_KB l_KB)
      have f_KB := blk_frozen KB.out
      have l_KB := (Array.getElem?_eq_some_iff.1 KB.out).1
      go_upto_region 10 with fail
      refine nm_alloc ?_
      intro y10 hE hB0 hz
      have hz_y10 := Nat.le_of_eq hz
      have hr_y10 := Nat.le_of_eq hz.symm
      clear hz
      replace HX := Lib.hid (HX.out.trans hE)
      replace B7 := Lib.hid (hE.block B7.out)
      replace B9 := Lib.hid (hE.block B9.out)
      replace KB := Lib.hid (hE.block KB.out)
      replace TC := Lib.hid (TC.out.ext hE)
      replace L8 := Lib.hid (L8.out.ext hE)
      have hs_y10 := hE.size
      clear hE
      (try clear c_B7 f_B7 l_B7)
      have c_B7 := blk_cell B7.out
      have f_B7 := blk_frozen B7.out
      have l_B7 := (Array.getElem?_eq_some_iff.1 B7.out).1
      (try clear c_B9 f_B9 l_B9)
      have c_B9 := blk_cell B9.out
      have f_B9 := blk_frozen B9.out
      have l_B9 := (Array.getElem?_eq_some_iff.1 B9.out).1
      (try clear f_KB l_KB)
      have f_KB := blk_frozen KB.out
      have l_KB := (Array.getElem?_eq_some_iff.1 KB.out).1
      have C9 := Lib.hid hB0
      clear hB0
      have c_C9 := blk_cell C9.out
      have f_C9 := blk_frozen C9.out
      have l_C9 := (Array.getElem?_eq_some_iff.1 C9.out).1
      go_wp2
      refine nm_set1 C9.out rfl ?_
      intro y11 T
      replace HX := Lib.hid (T.ext HX.out (by omega))
      replace B7 := Lib.hid (T.rest _ _ (by omega) B7.out)
      replace B9 := Lib.hid (T.rest _ _ (by omega) B9.out)
      replace KB := Lib.hid (T.rest _ _ (by omega) KB.out)
      replace TC := Lib.hid (TC.out.keep T.keep)
      replace L8 := Lib.hid (L8.out.put T (by omega))
      replace C9 := Lib.hid (T.bx)
      have hs_y11 := Nat.le_of_eq T.size
      have hr_y11 := Nat.le_of_eq T.size.symm
      clear T
      (try clear c_B7 f_B7 l_B7)
      have c_B7 := blk_cell B7.out
      have f_B7 := blk_frozen B7.out
      have l_B7 := (Array.getElem?_eq_some_iff.1 B7.out).1
      (try clear c_B9 f_B9 l_B9)
      have c_B9 := blk_cell B9.out
      have f_B9 := blk_frozen B9.out
      have l_B9 := (Array.getElem?_eq_some_iff.1 B9.out).1
      (try clear f_KB l_KB)
      have f_KB := blk_frozen KB.out
      have l_KB := (Array.getElem?_eq_some_iff.1 KB.out).1
      (try clear c_C9 f_C9 l_C9)
      have c_C9 := blk_cell C9.out
      have f_C9 := blk_frozen C9.out
      have l_C9 := (Array.getElem?_eq_some_iff.1 C9.out).1
      go_roundg g
      case measure => omega
      case rel =>
        refine ⟨y9.heap.size, ⟨ao8, g + 1, c8⟩, Stab.down c v (g + 1), y7.heap.size, w8.heap.size, ks.set g x1, v :: tl, rfl, HX.out, B7.out, C9.out, by omega, by omega, by omega, KB.out, by rw [List.length_set]; exact Hks.out, L8.out, Or.inl hb7y, Or.inl hLky, by omega, Stab.down_length _ _ _, ?_, by rw [List.length_cons]; have := Htl.out; omega, ?_, TC.out⟩
        · have := Hok.out.2
          rwa [← HVv.out] at this
        · rw [Href.out]
          have : Stab.refl (g + 1) c = (Stab.refl g (Stab.down c v (g + 1))).map (· ++ [v]) := by
            rw [HVv.out]
            have hs := Hsm.out
            rw [HVv.out] at hs
            show (if _ then _ else _) = _
            rw [if_pos hs]
          rw [this, Option.map_map]
          congr 1
          funext l
          simp
end Go.Proofs.YteafdebcihbjdaaGreat
/- StepUp, Stable, Inside of package stability. -/
namespace Go.Proofs.YteafdebcihbjdaaGreat
open Go.RowKit Go.Front Go.Num
attribute [local go_sem] XW.cell XW.frozen
def upV (k : List Rat) : Int × List Rat := if 48 < k.length then (12, []) else if ∀ r ∈ k, -1 < r ∧ r < 1 then (0, tz (Stab.ups k)) else (14, [])
def UpOk (k : List Rat) : Prop := SzL 8388608 k ∧ ∀ j, j ≤ k.length → SzL 8388608 (Stab.ups (k.take j))
def BuiltR (w : World) (p : Nat × RH) (q : Rat) : Prop := RBk w p.1 [p.2] #[] ∧ CanR w p.2 q
theorem BuiltR.ext {w w' : World} {p : Nat × RH} {q : Rat} (h : BuiltR w p q) (he : Ext w w') : BuiltR w' p q := ⟨h.1.ext he, h.2.ext he⟩
theorem spec_build {P : Program} {o : Oper} {a : Act} {w : World} {T : TypeId} (x : RH) (q : Rat) (hx : CanR w x q) (hT : T = 30)
    (hrun : (execOp a.eval o).run P w = .ok (.value (.slice (some ⟨w.heap.size, 0, none⟩) 1 1)) (w.alloc (.cells #[.bool x.neg, .slice x.a x.n x.c, .slice x.b x.m x.d] T))) :
    specAt P o a w (fun p : Nat × RH => .slice (some ⟨p.1, 0, none⟩) 1 1) (fun p w' => BuiltR w' p q) := by
  subst hT
  unfold specAt
  rw [hrun]
  exact ⟨Ext.alloc _ _, (w.heap.size, x), rfl, rbk_one (heap_alloc_new _ _) rfl, hx.ext (Ext.alloc _ _)⟩
theorem up_range {c : List Rat} {j : Nat} (r : Rat) (hc : c.length = j + 1) : (List.range (j + 2)).map (fun i => (c ++ [0]).getD i 0 + r * (c ++ [0]).getD (j + 1 - i) 0) = Stab.up c r := by
  apply Stab.getD_ext
  · rw [Stab.up_length]; simp [hc]
  · intro i hi
    simp only [List.length_map, List.length_range] at hi
    rw [Stab.up_at hc (by omega), List.getD_eq_getElem?_getD, List.getElem?_map, List.getElem?_range hi]
    simp only [Option.map_some, Option.getD_some]
    rw [Stab.snoc0_getD, Stab.snoc0_getD]
theorem ups_take {k : List Rat} {j : Nat} (hj : j < k.length) : Stab.ups (k.take (j + 1)) = Stab.up (Stab.ups (k.take j)) (k.getD j 0) := by
  rw [← take_snoc hj, Stab.ups_snoc]
theorem SzL.snoc0 {k : Nat} {c : List Rat} (h : SzL k c) (hk : 1 ≤ k) : SzL k (c ++ [0]) := by
  intro q hq
  rcases List.mem_append.1 hq with h1 | h1
  · exact h q h1
  · obtain rfl : q = 0 := by simpa using h1
    exact (Sz.int (z := 0) (by decide)).mono hk
set_option maxRecDepth 8000 in
set_option maxHeartbeats 4000000 in
theorem stepup_any (ao : Option Addr) (n cap : Nat) (ks : List Rat) (w : World) (h : RawL w ⟨ao, n, cap⟩ ks) (hn : n ≤ 1073741824) (hok : UpOk ks) :
    Does 14 [.slice ao n cap] w RF (fun x w' => x.2 = (upV ks).1 ∧ NewL w.heap.size w' x.1 (upV ks).2) := by
  have H := Lib.hid h
  have HX := Lib.hid (Ext.refl w)
  have HO := Lib.hid hok
  have hle := h.le
  have hmx := h.max
  have Hlen := Lib.hid h.len
  simp only at hle hmx Hlen
  clear h hok
  unfold Does
  go_enter Tryz.func14, Tryz.ntmps14
  by_cases h48 : 48 < n
  case pos =>
    have hv : upV ks = (12, []) := by unfold upV; rw [if_pos (by rw [Hlen.out]; exact h48)]
    go_wp2
    exact bodyPost_ret (v := RF (⟨none, 0, 0⟩, 12)) (by simp [results, Tryz.results14, go_sem, RF]) rfl ⟨(⟨none, 0, 0⟩, 12), rfl, HX.out, by rw [hv], by rw [hv]; exact NewL.nil _ _⟩
  have HV : Hid (upV ks = if ∀ r ∈ ks, -1 < r ∧ r < 1 then (0, tz (Stab.ups ks)) else (14, [])) := Lib.hid (by unfold upV; rw [if_neg (by rw [Hlen.out]; exact h48)])
  have hn48 : n ≤ 48 := by omega
  clear h48
  go_wp2
  go_loopg [14] n (fun g i wr => ∃ j : Nat, j + g = n ∧ i = .int .i64 (j : Nat) ∧ Ext w wr ∧ ∀ r ∈ ks.take j, -1 < r ∧ r < 1)
  case atStart => exact ⟨0, by omega, rfl, HX.out, by simp⟩
  case round =>
    obtain ⟨j, hj, rfl, g1, g2⟩ := hrel
    clear HX
    have HX := Lib.hid g1
    have hszr := g1.size
    have HS := Lib.hid g2
    clear g1 g2
    by_cases h0 : gk = 0
    case neg =>
      obtain ⟨b, off, r, hao, hbl, ⟨hc1, hc2, hc3⟩, hP⟩ := (H.out.ext HX.out).cells (k := j) (by omega)
      subst hao
      obtain ⟨rneg, ra, rn, rc, rb, rm, rd⟩ := r
      simp only at hc1 hc2 hc3
      have HP := Lib.hid hP
      clear hP
      have hjn : (j : Int) < n := by omega
      go_upto_region 6 with fail
      refine nm_alloc ?_
      intro w1 hE hB0 hz
      have hz_w1 := Nat.le_of_eq hz
      have hr_w1 := Nat.le_of_eq hz.symm
      clear hz
      replace HX := Lib.hid (HX.out.trans hE)
      replace HP := Lib.hid (HP.out.ext hE)
      have hs_w1 := hE.size
      clear hE
      have B5 := Lib.hid hB0
      clear hB0
      have c_B5 := blk_cell B5.out
      have f_B5 := blk_frozen B5.out
      have l_B5 := (Array.getElem?_eq_some_iff.1 B5.out).1
      go_wp2_with fail
      refine Calls.mono (stsmall_any ⟨rneg, ra, rn, rc, rb, rm, rd⟩ (ks.getD j 0) _ HP.out) ?_
      rintro e w2 ⟨x2, rfl, hE, -⟩
      replace HX := Lib.hid (HX.out.trans hE)
      replace HP := Lib.hid (HP.out.ext hE)
      replace B5 := Lib.hid (hE.block B5.out)
      have hs_w2 := hE.size
      clear hE
      (try clear c_B5 f_B5 l_B5)
      have c_B5 := blk_cell B5.out
      have f_B5 := blk_frozen B5.out
      have l_B5 := (Array.getElem?_eq_some_iff.1 B5.out).1
      by_cases hsm : -1 < ks.getD j 0 ∧ ks.getD j 0 < 1
      case neg =>
        rw [decide_eq_false hsm]
        have hv : upV ks = (14, []) := by
          rw [HV.out, if_neg]
          intro hall
          exact hsm (hall _ (getD_mem' (by rw [Hlen.out]; omega)))
        clear hsm
        go_wp2
        exact bodyPost_ret (v := RF (⟨none, 0, 0⟩, 14)) (by simp [results, Tryz.results14, go_sem, RF]) rfl ⟨(⟨none, 0, 0⟩, 14), rfl, HX.out, by rw [hv], by rw [hv]; exact NewL.nil _ _⟩
      rw [decide_eq_true hsm]
      have Hsm := Lib.hid hsm
      clear hsm
      go_wp2
      go_roundg (gk - 1)
      case measure => omega
      case rel =>
        refine ⟨j + 1, by omega, by go_num, HX.out, ?_⟩
        rw [← take_snoc (by rw [Hlen.out]; omega)]
        intro r hr
        rcases List.mem_append.1 hr with h1 | h1
        · exact HS.out r h1
        · obtain rfl : r = ks.getD j 0 := by simpa using h1
          exact Hsm.out
    subst h0
    obtain rfl : j = n := by omega
    have HV2 : Hid (upV ks = (0, tz (Stab.ups ks))) := Lib.hid (by
      rw [HV.out, if_pos]
      have := HS.out
      rwa [List.take_of_length_le (by rw [Hlen.out]; exact Nat.le_refl _)] at this)
    clear HS HV
    go_wp2_with fail
    refine Calls.mono (rof_any 1 _ (by decide) (by decide)) ?_
    rintro e w1 ⟨x1, rfl, hE, g1⟩
    have G1 := Lib.hid g1
    clear g1
    replace HX := Lib.hid (HX.out.trans hE)
    have hs_w1 := hE.size
    clear hE
    go_upto_region 10 with fail
    refine nm_alloc2 ?_
    intro w2 hE hB0 hB1 hz
    have hz_w2 := Nat.le_of_eq hz
    have hr_w2 := Nat.le_of_eq hz.symm
    clear hz
    replace HX := Lib.hid (HX.out.trans hE)
    replace G1 := Lib.hid (G1.out.ext hE)
    have hs_w2 := hE.size
    clear hE
    have LB := Lib.hid hB0
    clear hB0
    have c_LB := blk_cell LB.out
    have f_LB := blk_frozen LB.out
    have l_LB := (Array.getElem?_eq_some_iff.1 LB.out).1
    have B6 := Lib.hid hB1
    clear hB1
    have c_B6 := blk_cell B6.out
    have f_B6 := blk_frozen B6.out
    have l_B6 := (Array.getElem?_eq_some_iff.1 B6.out).1
    have O6 : Hid (OwnQ w2 (fun k => k ≠ w1.heap.size + 1 ∧ w.heap.size ≤ k) (.slice (some ⟨w1.heap.size, 0, none⟩) 1 1) (Stab.ups (ks.take 0))) := Lib.hid (by
      have hc : CanR w2 x1 1 := G1.out
      exact ⟨[x1], Or.inr ⟨_, 1, #[], rfl, ⟨by omega, by omega⟩, rbk_one LB.out rfl, by simp, by decide, by simp, by simp⟩, (Vals.nil _ _).snoc hc⟩)
    (try clear c_LB f_LB l_LB); clear LB
    clear G1
    obtain ⟨b6, hb6⟩ : ∃ b6, b6 = w1.heap.size + 1 := ⟨_, rfl⟩
    rw [← hb6] at B6 O6 ⊢
    have hge6 : w.heap.size ≤ b6 := by omega
    clear c_B6 f_B6 l_B6 hb6
    go_wp2
    go_loopg [26] j (fun g i wr => ∃ (i' : Nat) (s : SH), i' + g = j ∧ i = .int .i64 (i' : Nat) ∧ Ext w wr ∧ wr.heap[b6]? = some (.cells #[s.v] 22 (0, 0)) ∧ OwnQ wr (fun k => k ≠ b6 ∧ w.heap.size ≤ k) s.v (Stab.ups (ks.take i')))
    case atStart => exact ⟨0, ⟨some ⟨w1.heap.size, 0, none⟩, 1, 1⟩, by omega, rfl, HX.out, B6.out, O6.out⟩
    case round =>
      obtain ⟨i, ⟨sa, sn, sc⟩, hi, rfl, g1, g2, g3⟩ := hrel
      clear HX B6 O6
      have HX := Lib.hid g1
      have hszr2 := g1.size
      have B6 := Lib.hid g2
      have O6 := Lib.hid g3
      simp only [SH.v] at B6 O6
      have hlen6 := OwnQ.len (s := ⟨sa, sn, sc⟩) O6.out
      rw [Stab.ups_length, List.length_take, Hlen.out] at hlen6
      simp only at hlen6
      clear g1 g2 g3
      (try clear c_B6 f_B6 l_B6)
      have c_B6 := blk_cell B6.out
      have f_B6 := blk_frozen B6.out
      have l_B6 := (Array.getElem?_eq_some_iff.1 B6.out).1
      by_cases h0 : gk = 0
      case pos =>
        subst h0
        obtain rfl : i = j := by omega
        go_wp2_with fail
        refine Calls.mono (ptrim_any sa sn sc (Stab.ups (ks.take i)) _ ((OwnQ.can (s := ⟨sa, sn, sc⟩) O6.out).raw (HO.out.2 i (by rw [Hlen.out]; exact Nat.le_refl _)) (by decide)) (by omega)) ?_
        rintro e w3 ⟨x3, rfl, hE, g3⟩
        have G3 := Lib.hid g3
        clear g3
        replace HX := Lib.hid (HX.out.trans hE)
        replace B6 := Lib.hid (hE.block B6.out)
        replace O6 := Lib.hid (O6.out.ext hE)
        have hs_w3 := hE.size
        clear hE
        (try clear c_B6 f_B6 l_B6)
        have c_B6 := blk_cell B6.out
        have f_B6 := blk_frozen B6.out
        have l_B6 := (Array.getElem?_eq_some_iff.1 B6.out).1
        have hv := HV2.out
        have hk : ks.take i = ks := List.take_of_length_le (by rw [Hlen.out]; exact Nat.le_refl _)
        rw [hk] at G3
        have Hv := Lib.hid hv
        clear hv
        go_wp2
        exact bodyPost_ret (v := RF (x3, 0)) (by simp [results, Tryz.results14, go_sem, RF]) rfl ⟨(x3, 0), rfl, HX.out, by rw [Hv.out], by rw [Hv.out]; exact G3.out.mono hszr2⟩
      obtain ⟨b, off, r, hao, hbl, ⟨hc1, hc2, hc3⟩, hP⟩ := (H.out.ext HX.out).cells (k := i) (by omega)
      subst hao
      obtain ⟨rneg, ra, rn, rc, rb, rm, rd⟩ := r
      simp only at hc1 hc2 hc3
      have HP := Lib.hid hP
      clear hP
      obtain rfl : i + 1 = sn := by omega
      replace O6 := Lib.hid (O6.out.mono (D' := fun k => (k < wr.heap.size ∧ k ≠ b6 ∧ w.heap.size ≤ k) ∨ wr.heap.size + 2 ≤ k) (fun k hk h => Or.inl ⟨hk, h⟩))
      have hb6r := l_B6
      obtain ⟨c, hc⟩ : ∃ c, c = Stab.ups (ks.take i) := ⟨_, rfl⟩
      have HC := Lib.hid hc
      have HCl : Hid (c.length = i + 1) := Lib.hid (by rw [hc, Stab.ups_length, List.length_take, Hlen.out]; omega)
      have HCz : Hid (SzL 8388608 (c ++ [0])) := Lib.hid (SzL.snoc0 (by rw [hc]; exact HO.out.2 i (by rw [Hlen.out]; omega)) (by decide))
      rw [← hc] at O6
      clear hc hlen6
      have hin : (i : Int) < j := by omega
      go_upto_region 13 with fail
      refine nm_alloc2 ?_
      intro y1 hE hB0 hB1 hz
      have hz_y1 := Nat.le_of_eq hz
      have hr_y1 := Nat.le_of_eq hz.symm
      clear hz
      replace HX := Lib.hid (HX.out.trans hE)
      replace B6 := Lib.hid (hE.block B6.out)
      replace HP := Lib.hid (HP.out.ext hE)
      replace O6 := Lib.hid (O6.out.ext hE)
      have hs_y1 := hE.size
      clear hE
      (try clear c_B6 f_B6 l_B6)
      have c_B6 := blk_cell B6.out
      have f_B6 := blk_frozen B6.out
      have l_B6 := (Array.getElem?_eq_some_iff.1 B6.out).1
      have B7 := Lib.hid hB0
      clear hB0
      have c_B7 := blk_cell B7.out
      have f_B7 := blk_frozen B7.out
      have l_B7 := (Array.getElem?_eq_some_iff.1 B7.out).1
      have B8 := Lib.hid hB1
      clear hB1
      have c_B8 := blk_cell B8.out
      have f_B8 := blk_frozen B8.out
      have l_B8 := (Array.getElem?_eq_some_iff.1 B8.out).1
      refine wp_region_front 3 (fun opIx => match opIx with
        | 1 => .spec RH default RH.v (fun s w' => CanR w' s (((0 : Int) : Rat)))
        | 2 => .spec (Nat × RH) ((0, default)) (fun p => .slice (some ⟨p.1, 0, none⟩) 1 1) (fun p w' => BuiltR w' p ((0 : Int) : Rat))
        | _ => .quiet) (fun | 2 => [1] | _ => []) (by kernel_rfl) (by kernel_rfl) (fun w0 he0 hz0 hc0 hf0 => ?_)
      replace he0 := Lib.hid he0
      simp only [List.take_succ_cons, List.take_zero]
      repeat (refine wpF_quiet rfl rfl rfl (fun K hK => ?_); go_big_quiet_op; refine hK _ ?_; clear hK K)
      refine wpF_spec rfl rfl (fun w1 hw1 hG => ?_) (fun x1 => ?_)
      · have hW := he0.out.trans hw1
        refine spec_call [.int .i64 0] rfl rfl Tryz.func39 (by kernel_rfl) (by kernel_rfl) ?_
        exact rof_any 0 _ (by decide) (by decide)
      simp only [Act.put, List.setIfInBounds_toArray, List.set_cons_succ, List.set_cons_zero]
      repeat (refine wpF_quiet rfl rfl rfl (fun K hK => ?_); go_big_quiet_op; refine hK _ ?_; clear hK K)
      refine wpF_spec rfl rfl (fun w1 hw1 hG => ?_) (fun x2 => ?_)
      · have hW := he0.out.trans hw1
        obtain ⟨wa1, hwa1, g1⟩ : Since _ _ := hG 1 (by decide)
        replace g1 := g1.ext hwa1
        exact spec_build x1 _ g1 rfl (by simp [execOp, go_sem])
      simp only [Act.put, List.setIfInBounds_toArray, List.set_cons_succ, List.set_cons_zero]
      repeat (refine wpF_quiet rfl rfl rfl (fun K hK => ?_); go_big_quiet_op; refine hK _ ?_; clear hK K)
      refine wpF_nil ?_
      intro y2 hI
      have hE := he0.out.trans hI.ext
      obtain ⟨wa1, hwa1, g1⟩ : Since _ _ := hI.facts 1
      have G1 := Lib.hid (g1.ext hwa1)
      clear g1 hwa1
      obtain ⟨wa2, hwa2, g2⟩ : Since _ _ := hI.facts 2
      have G2 := Lib.hid (g2.ext hwa2)
      clear g2 hwa2
      clear hI he0 hz0 hc0 hf0
      replace HX := Lib.hid (HX.out.trans hE)
      replace B6 := Lib.hid (hE.block B6.out)
      replace HP := Lib.hid (HP.out.ext hE)
      replace O6 := Lib.hid (O6.out.ext hE)
      replace B7 := Lib.hid (hE.block B7.out)
      replace B8 := Lib.hid (hE.block B8.out)
      have hs_y2 := hE.size
      clear hE
      (try clear c_B6 f_B6 l_B6)
      have c_B6 := blk_cell B6.out
      have f_B6 := blk_frozen B6.out
      have l_B6 := (Array.getElem?_eq_some_iff.1 B6.out).1
      (try clear c_B7 f_B7 l_B7)
      have c_B7 := blk_cell B7.out
      have f_B7 := blk_frozen B7.out
      have l_B7 := (Array.getElem?_eq_some_iff.1 B7.out).1
      (try clear c_B8 f_B8 l_B8)
      have c_B8 := blk_cell B8.out
      have f_B8 := blk_frozen B8.out
      have l_B8 := (Array.getElem?_eq_some_iff.1 B8.out).1
      simp only [List.drop_succ_cons, List.drop_zero]
      go_upto_region 14 with (at_builtin; refine wpList_append_q rfl (.tmp 31) (.tmp 33) 22 Tryz.underlying22 rfl _ _ _ x2.2 _ x2.1 rfl O6.out rfl G2.out.1 G2.out.2 (by rw [HCl.out]; omega) (fun k hk => Or.inr (by omega)) ?_; intro s' y3 q1 q2 q3; have hB6 := q2.blk (by intro h; (try dsimp only at h); omega) B6.out; have c6 := blk_cell hB6; have f6 := blk_frozen hB6; have l6 := (Array.getElem?_eq_some_iff.1 hB6).1)
      replace HX := Lib.hid (Ext.mods HX.out q2 (by intro k h; (try dsimp only at h); omega))
      replace B7 := Lib.hid (q2.blk (by intro h; (try dsimp only at h); omega) B7.out)
      replace B8 := Lib.hid (q2.blk (by intro h; (try dsimp only at h); omega) B8.out)
      replace HP := Lib.hid (HP.out.keep q3)
      replace B6 := Lib.hid hB6
      replace O6 := Lib.hid q1
      have hsz3 := q2.size
      clear q1 q2 q3 hB6 c6 f6 l6 G2
      clear G1
      (try clear c_B6 f_B6 l_B6)
      have c_B6 := blk_cell B6.out
      have f_B6 := blk_frozen B6.out
      have l_B6 := (Array.getElem?_eq_some_iff.1 B6.out).1
      (try clear c_B7 f_B7 l_B7)
      have c_B7 := blk_cell B7.out
      have f_B7 := blk_frozen B7.out
      have l_B7 := (Array.getElem?_eq_some_iff.1 B7.out).1
      (try clear c_B8 f_B8 l_B8)
      have c_B8 := blk_cell B8.out
      have f_B8 := blk_frozen B8.out
      have l_B8 := (Array.getElem?_eq_some_iff.1 B8.out).1
      refine nm_set1 B6.out rfl ?_
      intro y4 T
      replace HX := Lib.hid (T.ext HX.out (by omega))
      replace B6 := Lib.hid (T.bx)
      replace HP := Lib.hid (HP.out.keep T.keep)
      replace O6 := Lib.hid (O6.out.put T (by intro h; (try dsimp only at h); omega))
      replace B7 := Lib.hid (T.rest _ _ (by omega) B7.out)
      replace B8 := Lib.hid (T.rest _ _ (by omega) B8.out)
      have hs_y4 := Nat.le_of_eq T.size
      have hr_y4 := Nat.le_of_eq T.size.symm
      clear T
      (try clear c_B6 f_B6 l_B6)
      have c_B6 := blk_cell B6.out
      have f_B6 := blk_frozen B6.out
      have l_B6 := (Array.getElem?_eq_some_iff.1 B6.out).1
      (try clear c_B7 f_B7 l_B7)
      have c_B7 := blk_cell B7.out
      have f_B7 := blk_frozen B7.out
      have l_B7 := (Array.getElem?_eq_some_iff.1 B7.out).1
      (try clear c_B8 f_B8 l_B8)
      have c_B8 := blk_cell B8.out
      have f_B8 := blk_frozen B8.out
      have l_B8 := (Array.getElem?_eq_some_iff.1 B8.out).1
      obtain ⟨ta, tn, tc⟩ := s'
      simp only [SH.v] at O6 B6 c_B6 ⊢
      have htn := OwnQ.len (s := ⟨ta, tn, tc⟩) O6.out
      rw [List.length_append, HCl.out] at htn
      simp only [List.length_singleton] at htn
      obtain rfl : i + 1 + 1 = tn := by omega
      have hcr := (OwnQ.can (s := ⟨ta, i + 1 + 1, tc⟩) O6.out).raw HCz.out (by decide)
      have htc := hcr.le
      have htm := hcr.max
      simp only at htc htm
      have HCR := Lib.hid hcr
      clear hcr
      have HZr : Hid (Sz 8388608 (ks.getD i 0)) := Lib.hid (HO.out.1.at (by rw [Hlen.out]; omega))
      go_wp2_with fail
      refine Calls.mono (mapped_ext 41 _ #[ptr (wr.heap.size + 1), ptr b6, ptr wr.heap.size] Tryz.func41 (by kernel_rfl) (by kernel_rfl) (fun k => (c ++ [(0 : Rat)]).getD k 0 + ks.getD i 0 * (c ++ [(0 : Rat)]).getD (i + 1 - k) 0) ⟨ta, i + 1 + 1, tc⟩ (c ++ [0]) _ (OwnQ.can (s := ⟨ta, i + 1 + 1, tc⟩) O6.out) (by simp only; omega) (fun k w1 r hk hE hr => step1_any k i r ⟨rneg, ra, rn, rc, rb, rm, rd⟩ _ _ _ _ _ _ _ _ (c ++ [0]) _ (hr.raw (HCz.out.at (by rw [List.length_append, HCl.out]; exact hk)) (by decide)) (RAt.ext (r := ⟨rneg, ra, rn, rc, rb, rm, rd⟩) ⟨c_B8 0, c_B8 1, c_B8 2⟩ hE) (HP.out.ext hE) (hE.cell (c_B6 0)) (HCR.out.ext hE) (hE.cell (c_B7 0)) (by simp only at hk; omega) (by omega) (by omega) (by omega) HZr.out (HCz.out.at (by rw [List.length_append, HCl.out]; simp only [List.length_singleton]; omega)))) ?_
      rintro e w5 ⟨x5, rfl, hE, g5⟩
      have G5 := Lib.hid g5
      clear g5
      replace HX := Lib.hid (HX.out.trans hE)
      replace B6 := Lib.hid (hE.block B6.out)
      replace HP := Lib.hid (HP.out.ext hE)
      replace O6 := Lib.hid (O6.out.ext hE)
      replace B7 := Lib.hid (hE.block B7.out)
      replace B8 := Lib.hid (hE.block B8.out)
      have hs_w5 := hE.size
      clear hE
      (try clear c_B6 f_B6 l_B6)
      have c_B6 := blk_cell B6.out
      have f_B6 := blk_frozen B6.out
      have l_B6 := (Array.getElem?_eq_some_iff.1 B6.out).1
      (try clear c_B7 f_B7 l_B7)
      have c_B7 := blk_cell B7.out
      have f_B7 := blk_frozen B7.out
      have l_B7 := (Array.getElem?_eq_some_iff.1 B7.out).1
      (try clear c_B8 f_B8 l_B8)
      have c_B8 := blk_cell B8.out
      have f_B8 := blk_frozen B8.out
      have l_B8 := (Array.getElem?_eq_some_iff.1 B8.out).1
      have hb6y : b6 < y4.heap.size := by omega
      have Hup := Lib.hid (up_range (ks.getD i 0) HCl.out)
      have G6 : Hid (OwnQ w5 (y4.heap.size ≤ ·) x5.v (Stab.up c (ks.getD i 0))) := Lib.hid (by rw [← Hup.out]; exact G5.out)
      clear G5
      clear O6
      clear HP
      obtain ⟨va, vn, vc⟩ := x5
      simp only [SH.v] at G6 ⊢
      go_upto_region 15 with fail
      refine nm_set1 B6.out rfl ?_
      intro y6 T
      replace HX := Lib.hid (T.ext HX.out (by omega))
      replace B6 := Lib.hid (T.bx)
      replace B7 := Lib.hid (T.rest _ _ (by omega) B7.out)
      replace B8 := Lib.hid (T.rest _ _ (by omega) B8.out)
      replace G6 := Lib.hid (G6.out.put T (by intro h; (try dsimp only at h); omega))
      have hs_y6 := Nat.le_of_eq T.size
      have hr_y6 := Nat.le_of_eq T.size.symm
      clear T
      (try clear c_B6 f_B6 l_B6)
      have c_B6 := blk_cell B6.out
      have f_B6 := blk_frozen B6.out
      have l_B6 := (Array.getElem?_eq_some_iff.1 B6.out).1
      (try clear c_B7 f_B7 l_B7)
      have c_B7 := blk_cell B7.out
      have f_B7 := blk_frozen B7.out
      have l_B7 := (Array.getElem?_eq_some_iff.1 B7.out).1
      (try clear c_B8 f_B8 l_B8)
      have c_B8 := blk_cell B8.out
      have f_B8 := blk_frozen B8.out
      have l_B8 := (Array.getElem?_eq_some_iff.1 B8.out).1
      go_wp2
      go_roundg (gk - 1)
      case measure => omega
      case rel =>
        refine ⟨i + 1, ⟨va, vn, vc⟩, by omega, by go_num, HX.out, B6.out, ?_⟩
        rw [ups_take (by rw [Hlen.out]; omega), ← HC.out]
        exact G6.out.mono (fun k _ hk => by (try dsimp only at hk); exact ⟨by omega, by omega⟩)
end Go.Proofs.YteafdebcihbjdaaGreat
/- Stable, Inside of package stability. -/
namespace Go.Proofs.YteafdebcihbjdaaGreat
open Go.RowKit Go.Front Go.Num
attribute [local go_sem] XW.cell XW.frozen
def stabV (qs : List Rat) : Bool × Int := if (reflV qs).1 = 14 then (false, 0) else (decide ((reflV qs).1 = 0), (reflV qs).1)
def BF (x : Bool × Int) : Value := .tuple #[.bool x.1, .int .i64 x.2]
set_option maxRecDepth 4000 in
set_option maxHeartbeats 1000000 in
theorem stable_any (ao : Option Addr) (n cap : Nat) (qs : List Rat) (w : World) (h : RawL w ⟨ao, n, cap⟩ qs) (hn : n ≤ 1073741824) (hz : SzL 134217728 qs) (hok : wrongE qs = 0 → RefOk ((tz qs).length - 1) (norm (tz qs))) :
    Does 56 [.slice ao n cap] w (fun _ : Unit => BF (stabV qs)) (fun _ _ => True) := by
  have H := Lib.hid h
  have HX := Lib.hid (Ext.refl w)
  have HZ := Lib.hid hz
  have HO := Lib.hid hok
  clear h hz hok
  unfold Does
  go_enter Tryz.func56, Tryz.ntmps56
  go_wp2_with fail
  refine Calls.mono (reflections_any ao n cap qs _ H.out hn HZ.out HO.out) ?_
  rintro e w1 ⟨x1, rfl, hE, g1⟩
  have G1 := Lib.hid g1
  clear g1
  replace HX := Lib.hid (HX.out.trans hE)
  have hs_w1 := hE.size
  clear hE
  obtain ⟨x1, e1⟩ := x1
  obtain ⟨ge, -⟩ := G1.out
  simp only at ge
  have HE := Lib.hid ge
  clear ge G1
  simp only [RF]
  have HV : Hid (stabV qs = if e1 = 14 then (false, 0) else (decide (e1 = 0), e1)) := Lib.hid (by rw [HE.out]; rfl)
  clear HE
  by_cases h14 : e1 = 14
  · subst h14
    rw [if_pos rfl] at HV
    go_wp2
    exact bodyPost_ret (v := BF (false, 0)) (by simp [results, Tryz.results56, go_sem, BF]) rfl ⟨(), by rw [HV.out], HX.out, trivial⟩
  · rw [if_neg h14] at HV
    have hb : (e1 == 14) = false := by simpa using h14
    go_wp2
    exact bodyPost_ret (v := BF (decide (e1 = 0), e1)) (by simp [results, Tryz.results56, go_sem, BF, Bool.beq_eq_decide_eq]) rfl ⟨(), by rw [HV.out], HX.out, trivial⟩
def moved (qs : List Rat) (r : Rat) : List Rat := (List.range (tz qs).length).map (fun i => (tz qs).getD i 0 * (1 / r) ^ i)
def insV (qs : List Rat) (r : Rat) : Bool × Int := if r ≤ 0 then (false, 1) else if wrongE qs ≠ 0 then (false, wrongE qs) else stabV (moved qs r)
theorem cmpR_le0 (r : Rat) : cmpR r 0 ≤ 0 ↔ r ≤ 0 := by
  unfold cmpR
  split
  · rename_i h; constructor
    · intro _; exact Rat.le_of_lt h
    · intro _; decide
  · split
    · rename_i h; subst h; constructor
      · intro _; exact Rat.le_refl
      · intro _; decide
    · rename_i h1 h2
      constructor
      · intro h; cases h
      · intro h
        exfalso
        rcases Rat.le_iff_lt_or_eq.1 h with h | h
        · exact h1 h
        · exact h2 h
theorem Sz.one : Sz 1 1 := Sz.int (z := 1) (by decide)
theorem Sz.pow {k : Nat} {q : Rat} (h : Sz k q) (i : Nat) : Sz (k * i + 1) (q ^ i) := by
  induction i with
  | zero => rw [Rat.pow_zero]; exact Sz.one.mono (by omega)
  | succ i ih => rw [Rat.pow_succ]; exact (ih.mul h).mono (by rw [Nat.mul_succ]; omega)
def FJ (b9 : Nat) (v : Rat) (W : World) (i : Nat) (w : World) : Prop := Mods (· = b9) W w ∧ Keep W w ∧ ∃ y : RH, w.heap[b9]? = some (.cells (rarr y) 30 (0, 0)) ∧ CanR w y (v ^ i)
theorem RS.mods {w w' : World} {s : SH} {rs : List RH} {b lo hi : Nat} (h : RS w s rs) (hp : s.n = 0 ∨ ∃ b off, s.a = some ⟨b, off, none⟩ ∧ lo ≤ b ∧ b < hi) (m : Mods (· = b) w w') (hb : b < lo ∨ hi ≤ b) : RS w' s rs := by
  refine ⟨h.len, h.le, h.max, ?_⟩
  rcases hp with h0 | ⟨x, o, e, h1, h2⟩
  · exact Or.inl h0
  · rcases h.at' with h0 | ⟨x', o', e', h3⟩
    · exact Or.inl h0
    · rw [e] at e'
      obtain ⟨rfl, rfl⟩ : x = x' ∧ o = o' := by simpa using e'
      refine Or.inr ⟨x, o, e, fun k hk => ?_⟩
      have hc := h3 k hk
      exact ⟨m.cell (p := ⟨x, _, none⟩) (by show ¬ x = b; omega) hc.1, m.cell (p := ⟨x, _, none⟩) (by show ¬ x = b; omega) hc.2.1, m.cell (p := ⟨x, _, none⟩) (by show ¬ x = b; omega) hc.2.2⟩
theorem FJ.step {b9 : Nat} {v : Rat} {W : World} (hb9 : b9 < W.heap.size) (i : Nat) (u1 u2 : World) (h : FJ b9 v W i u1) (hb : Below W.heap.size u1 u2) (hk : Keep u1 u2) : FJ b9 v W i u2 := by
  obtain ⟨m, k, y, h1, h2⟩ := h
  exact ⟨⟨hb.os.trans m.os, hb.tape.trans m.tape, hb.output.trans m.output, Nat.le_trans m.size hb.size, fun k hk hne => (hb.block k hk).trans (m.block k hk hne)⟩, k.trans hk, y, (hb.block b9 hb9).trans h1, h2.keep hk⟩
theorem moved_sz {qs : List Rat} {r : Rat} (h : SzL 65536 qs) (hr : Sz 65537 (1 / r)) (hl : (tz qs).length ≤ 49) : SzL 8388608 (moved qs r) := by
  intro q hq
  obtain ⟨i, hi, rfl⟩ := List.mem_map.1 hq
  have hi' := List.mem_range.1 hi
  exact ((h.tz.at hi').mul (hr.pow i)).mono (by omega)
set_option maxRecDepth 8000 in
set_option maxHeartbeats 4000000 in
theorem inside_any (ao : Option Addr) (n cap : Nat) (qs : List Rat) (t : RH) (r : Rat) (w : World) (h : RawL w ⟨ao, n, cap⟩ qs) (hr : RawR w t r) (hn : n ≤ 1073741824) (hz : SzL 65536 qs) (hzr : Sz 65536 r)
    (hok : 0 < r → wrongE qs = 0 → wrongE (moved qs r) = 0 → RefOk ((tz (moved qs r)).length - 1) (norm (tz (moved qs r)))) :
    Does 18 [.slice ao n cap, t.v] w (fun _ : Unit => BF (insV qs r)) (fun _ _ => True) := by
  obtain ⟨tneg, ta, tn, tc, tb, tm, td⟩ := t
  have H := Lib.hid h
  have HR := Lib.hid hr
  have HX := Lib.hid (Ext.refl w)
  have HZ := Lib.hid hz
  have HZr := Lib.hid hzr
  have HO := Lib.hid hok
  clear h hz hok hr hzr
  unfold Does
  go_enter Tryz.func18, Tryz.ntmps18
  go_wp2_with fail
  refine nm_alloc (F := fun W => Calls _ _ _ W _) ?_
  intro w1 hE hB0 hz
  have hz_w1 := Nat.le_of_eq hz
  have hr_w1 := Nat.le_of_eq hz.symm
  clear hz
  replace HX := Lib.hid (HX.out.trans hE)
  replace HR := Lib.hid (HR.out.ext hE)
  have hs_w1 := hE.size
  clear hE
  have B3 := Lib.hid hB0
  clear hB0
  have c_B3 := blk_cell B3.out
  have f_B3 := blk_frozen B3.out
  have l_B3 := (Array.getElem?_eq_some_iff.1 B3.out).1
  change Calls _ _ _ _ _
  refine Calls.mono (rsign_any ⟨tneg, ta, tn, tc, tb, tm, td⟩ r _ HR.out) ?_
  rintro e w2 ⟨x2, rfl, hE, -⟩
  replace HX := Lib.hid (HX.out.trans hE)
  replace HR := Lib.hid (HR.out.ext hE)
  replace B3 := Lib.hid (hE.block B3.out)
  have hs_w2 := hE.size
  clear hE
  (try clear c_B3 f_B3 l_B3)
  have c_B3 := blk_cell B3.out
  have f_B3 := blk_frozen B3.out
  have l_B3 := (Array.getElem?_eq_some_iff.1 B3.out).1
  have HL := Lib.hid (cmpR_le0 r)
  obtain ⟨c, hc⟩ : ∃ c, c = cmpR r 0 := ⟨_, rfl⟩
  rw [← hc] at HL ⊢
  clear hc
  by_cases hc0 : c ≤ 0
  · have hv : insV qs r = (false, 1) := by unfold insV; rw [if_pos (HL.out.1 hc0)]
    clear HL
    go_wp2
    exact bodyPost_ret (v := BF (false, 1)) (by simp [results, Tryz.results18, go_sem, BF]) rfl ⟨(), by rw [hv], HX.out, trivial⟩
  have hr0 : ¬ r ≤ 0 := fun h => hc0 (HL.out.2 h)
  have HR0 := Lib.hid hr0
  have HV : Hid (insV qs r = if wrongE qs ≠ 0 then (false, wrongE qs) else stabV (moved qs r)) := Lib.hid (by unfold insV; rw [if_neg hr0])
  clear HL hr0
  go_wp2_with fail
  refine Calls.mono (wrong_any ao n cap qs _ (H.out.ext HX.out) hn) ?_
  rintro e w3 ⟨x3, rfl, hE, -⟩
  replace HX := Lib.hid (HX.out.trans hE)
  replace HR := Lib.hid (HR.out.ext hE)
  replace B3 := Lib.hid (hE.block B3.out)
  have hs_w3 := hE.size
  clear hE
  (try clear c_B3 f_B3 l_B3)
  have c_B3 := blk_cell B3.out
  have f_B3 := blk_frozen B3.out
  have l_B3 := (Array.getElem?_eq_some_iff.1 B3.out).1
  by_cases he : wrongE qs = 0
  case neg =>
    have heb : (wrongE qs == 0) = false := by simpa using he
    rw [if_pos he] at HV
    go_wp2
    exact bodyPost_ret (v := BF (false, wrongE qs)) (by simp [results, Tryz.results18, go_sem, BF]) rfl ⟨(), by rw [HV.out], HX.out, trivial⟩
  rw [if_neg (fun h => h he)] at HV
  rw [he]
  obtain ⟨hw1, hw2, hw3⟩ := wrong_ok he
  have HRn : Hid (r ≠ 0) := Lib.hid (fun e => HR0.out (by rw [e]; exact Rat.le_refl))
  have HZb : Hid (Sz 65537 (1 / r)) := Lib.hid ((Sz.one.div HZr.out).mono (by decide))
  go_upto_region 6 with fail
  refine wp_region_edges [(7, 5)] _ (by simp only [addEs, addE, List.push_toArray, List.cons_append, List.nil_append]; exact rfl) (by intro c a d v w h; cases d <;> exact h) 7 (fun opIx => match opIx with
    | 0 => .spec RH default RH.v (fun s w' => CanR w' s (((1 : Int) : Rat)))
    | 2 => .spec (RH) (default) (fun s => .tuple #[s.v, .int .i64 0]) (fun x w' => CanR w' x (1 / r))
    | 6 => .alloc 30 #[.bool false, .slice none 0 0, .slice none 0 0]
    | _ => .quiet) (fun | 2 => [0] | _ => []) (by kernel_rfl) (by kernel_rfl) (by kernel_rfl) (fun w0 he0 hz0 hc0 hf0 => ?_)
  replace he0 := Lib.hid he0
  simp only [List.take_succ_cons, List.take_zero]
  repeat (refine wpF_quiet rfl rfl rfl (fun K hK => ?_); go_big_quiet_op; refine hK _ ?_; clear hK K)
  refine wpF_spec rfl rfl (fun w1 hw1 hG => ?_) (fun x0 => ?_)
  · have hW := he0.out.trans hw1
    refine spec_call [.int .i64 1] rfl rfl Tryz.func39 (by kernel_rfl) (by kernel_rfl) ?_
    exact rof_any 1 _ (by decide) (by decide)
  simp only [Act.put, List.setIfInBounds_toArray, List.set_cons_succ, List.set_cons_zero]
  repeat (refine wpF_quiet rfl rfl rfl (fun K hK => ?_); go_big_quiet_op; refine hK _ ?_; clear hK K)
  refine wpF_spec rfl rfl (fun w1 hw1 hG => ?_) (fun x12 => ?_)
  · have hW := he0.out.trans hw1
    obtain ⟨wa0, hwa0, g0⟩ : Since _ _ := hG 0 (by decide)
    replace g0 := g0.ext hwa0
    refine spec_call [x0.v, RH.v ⟨tneg, ta, tn, tc, tb, tm, td⟩] rfl rfl Tryz.func50 (by kernel_rfl) (by kernel_rfl) ?_
    exact rdiv_any x0 _ _ _ _ (g0.raw (Sz.int (by decide)) (by decide)) (HR.out.ext hW) HRn.out
  simp only [Act.put, List.setIfInBounds_toArray, List.set_cons_succ, List.set_cons_zero]
  repeat (refine wpF_quiet rfl rfl rfl (fun K hK => ?_); go_big_quiet_op; refine hK _ ?_; clear hK K)
  refine wpF_alloc rfl rfl (fun w => by simp [execOp, go_sem, ptr]) (fun b6 hb6 hl6 => ?_)
  simp only [Act.put, List.setIfInBounds_toArray, List.set_cons_succ, List.set_cons_zero]
  repeat (refine wpF_quiet rfl rfl rfl (fun K hK => ?_); go_big_quiet_op; refine hK _ ?_; clear hK K)
  refine wpF_nil ?_
  intro y4 hI
  have hE := he0.out.trans hI.ext
  obtain ⟨wa0, hwa0, g0⟩ : Since _ _ := hI.facts 0
  have G0 := Lib.hid (g0.ext hwa0)
  clear g0 hwa0
  obtain ⟨wa12, hwa12, g12⟩ : Since _ _ := hI.facts 2
  have G12 := Lib.hid (g12.ext hwa12)
  clear g12 hwa12
  have A6 : Hid (y4.heap[b6]? = some (.cells #[.bool false, .slice none 0 0, .slice none 0 0] 30 (0, 0))) := hI.facts 6
  rw [hz0] at hl6
  clear hI he0 hz0 hc0 hf0
  replace HX := Lib.hid (HX.out.trans hE)
  replace HR := Lib.hid (HR.out.ext hE)
  replace B3 := Lib.hid (hE.block B3.out)
  have hs_y4 := hE.size
  clear hE
  (try clear c_B3 f_B3 l_B3)
  have c_B3 := blk_cell B3.out
  have f_B3 := blk_frozen B3.out
  have l_B3 := (Array.getElem?_eq_some_iff.1 B3.out).1
  have c_A6 := blk_cell A6.out
  have f_A6 := blk_frozen A6.out
  have l_A6 := (Array.getElem?_eq_some_iff.1 A6.out).1
  simp only [List.drop_succ_cons, List.drop_zero, ptr]
  go_upto_region 7 with fail
  refine nm_set3 A6.out rfl ?_
  intro y5 T
  replace HX := Lib.hid (T.ext HX.out (by omega))
  replace HR := Lib.hid (HR.out.keep T.keep)
  replace B3 := Lib.hid (T.rest _ _ (by omega) B3.out)
  replace G0 := Lib.hid (G0.out.keep T.keep)
  replace A6 := Lib.hid (T.bx)
  replace G12 := Lib.hid (G12.out.keep T.keep)
  have hs_y5 := Nat.le_of_eq T.size
  have hr_y5 := Nat.le_of_eq T.size.symm
  clear T
  (try clear c_B3 f_B3 l_B3)
  have c_B3 := blk_cell B3.out
  have f_B3 := blk_frozen B3.out
  have l_B3 := (Array.getElem?_eq_some_iff.1 B3.out).1
  (try clear c_A6 f_A6 l_A6)
  have c_A6 := blk_cell A6.out
  have f_A6 := blk_frozen A6.out
  have l_A6 := (Array.getElem?_eq_some_iff.1 A6.out).1
  have ha6 : b6 < y5.heap.size := l_A6
  go_wp2_with fail
  refine Calls.mono (rof_any 1 _ (by decide) (by decide)) ?_
  rintro e w6 ⟨x6, rfl, hE, g6⟩
  have G6 := Lib.hid g6
  clear g6
  replace HX := Lib.hid (HX.out.trans hE)
  replace HR := Lib.hid (HR.out.ext hE)
  replace B3 := Lib.hid (hE.block B3.out)
  replace G0 := Lib.hid (G0.out.ext hE)
  replace A6 := Lib.hid (hE.block A6.out)
  replace G12 := Lib.hid (G12.out.ext hE)
  have hs_w6 := hE.size
  clear hE
  (try clear c_B3 f_B3 l_B3)
  have c_B3 := blk_cell B3.out
  have f_B3 := blk_frozen B3.out
  have l_B3 := (Array.getElem?_eq_some_iff.1 B3.out).1
  (try clear c_A6 f_A6 l_A6)
  have c_A6 := blk_cell A6.out
  have f_A6 := blk_frozen A6.out
  have l_A6 := (Array.getElem?_eq_some_iff.1 A6.out).1
  go_upto_region 8 with fail
  refine nm_alloc ?_
  intro y7 hE hB0 hz
  have hz_y7 := Nat.le_of_eq hz
  have hr_y7 := Nat.le_of_eq hz.symm
  clear hz
  replace HX := Lib.hid (HX.out.trans hE)
  replace HR := Lib.hid (HR.out.ext hE)
  replace B3 := Lib.hid (hE.block B3.out)
  replace G0 := Lib.hid (G0.out.ext hE)
  replace A6 := Lib.hid (hE.block A6.out)
  replace G12 := Lib.hid (G12.out.ext hE)
  replace G6 := Lib.hid (G6.out.ext hE)
  have hs_y7 := hE.size
  clear hE
  (try clear c_B3 f_B3 l_B3)
  have c_B3 := blk_cell B3.out
  have f_B3 := blk_frozen B3.out
  have l_B3 := (Array.getElem?_eq_some_iff.1 B3.out).1
  (try clear c_A6 f_A6 l_A6)
  have c_A6 := blk_cell A6.out
  have f_A6 := blk_frozen A6.out
  have l_A6 := (Array.getElem?_eq_some_iff.1 A6.out).1
  have B9 := Lib.hid hB0
  clear hB0
  have c_B9 := blk_cell B9.out
  have f_B9 := blk_frozen B9.out
  have l_B9 := (Array.getElem?_eq_some_iff.1 B9.out).1
  obtain ⟨b9, hb9⟩ : ∃ b9, b9 = w6.heap.size := ⟨_, rfl⟩
  rw [← hb9] at B9 ⊢
  have hb9y : b9 < y7.heap.size := by rw [hb9]; omega
  have hb96 : b6 ≠ b9 := by rw [hb9]; omega
  have hb9w : w.heap.size ≤ b9 := by rw [hb9]; omega
  clear c_B9 f_B9 l_B9 hb9
  go_wp2_with fail
  refine Calls.mono (ptrim_any ao n cap qs _ (H.out.ext HX.out) hn) ?_
  rintro e w8 ⟨x8, rfl, hE, g8⟩
  have G8 := Lib.hid g8
  clear g8
  replace HX := Lib.hid (HX.out.trans hE)
  replace HR := Lib.hid (HR.out.ext hE)
  replace B3 := Lib.hid (hE.block B3.out)
  replace G0 := Lib.hid (G0.out.ext hE)
  replace A6 := Lib.hid (hE.block A6.out)
  replace G12 := Lib.hid (G12.out.ext hE)
  replace G6 := Lib.hid (G6.out.ext hE)
  replace B9 := Lib.hid (hE.block B9.out)
  have hs_w8 := hE.size
  clear hE
  (try clear c_B3 f_B3 l_B3)
  have c_B3 := blk_cell B3.out
  have f_B3 := blk_frozen B3.out
  have l_B3 := (Array.getElem?_eq_some_iff.1 B3.out).1
  (try clear c_A6 f_A6 l_A6)
  have c_A6 := blk_cell A6.out
  have f_A6 := blk_frozen A6.out
  have l_A6 := (Array.getElem?_eq_some_iff.1 A6.out).1
  (try clear c_B9 f_B9 l_B9)
  have c_B9 := blk_cell B9.out
  have f_B9 := blk_frozen B9.out
  have l_B9 := (Array.getElem?_eq_some_iff.1 B9.out).1
  obtain ⟨pa, pn, pc⟩ := x8
  simp only [SH.v]
  obtain ⟨rs, hRS, hV, hloc⟩ := G8.out
  have hle := hRS.le
  have hlen := hRS.len
  simp only at hle hlen
  have hpl : (tz qs).length = pn := by rw [← hV.1]; exact hlen
  have HPl := Lib.hid hpl
  rw [hpl] at hw1 hw2
  have hcall := mapped_any 55 _ #[ptr b9, ptr b6] Tryz.func55 (by kernel_rfl) (by kernel_rfl) (FJ b9 (1 / r) w8) (fun i => (tz qs).getD i 0 * (1 / r) ^ i) pa pn pc rs w8 (by omega) hle
    ⟨Mods.refl _ _, Keep.refl _, x6, B9.out, by rw [Rat.pow_zero]; exact G6.out⟩ (FJ.step (by omega)) (fun i u1 h => ⟨h.1.size, hRS.mods hloc h.1 (Or.inl hb9y)⟩) (by
      rintro i u1 hi ⟨m, k, y, h1, h2⟩
      have ca := c_A6
      refine (inside1_any i (rs.getD i default) y x12 _ _ _ b9 b6 u1 (((hV.2 i (by rw [hpl]; exact hi)).keep k).raw (HZ.out.tz.at (by rw [hpl]; exact hi)) (by decide)) h1 (h2.raw ((HZb.out.pow i).mono (show 65537 * i + 1 ≤ 8388608 by omega)) (by decide)) ⟨m.cell (by show ¬ b6 = b9; exact hb96) (ca 0), m.cell (by show ¬ b6 = b9; exact hb96) (ca 1), m.cell (by show ¬ b6 = b9; exact hb96) (ca 2)⟩ ((G12.out.keep k).raw HZb.out (by decide)) hb96).mono ?_
      rintro e u2 ⟨x, y', rfl, g1, g2, g3, g4, g5⟩
      refine ⟨x, rfl, g1, ⟨m.trans g5, k.trans g4, y', g2, by rw [Rat.pow_succ]; exact g3⟩, g4, fun b hb hlt => g5.block b hlt (by intro (h : b = b9); omega)⟩)
  have HCall := Lib.hid hcall
  clear hcall hRS hV hloc hpl
  go_wp2_with fail
  refine Calls.mono HCall.out ?_
  rintro e w9 ⟨s9, rfl, g9, hJ, hK, -⟩
  have HX9 := Lib.hid (Ext.mods HX.out hJ (by intro k (h : k = b9); omega))
  have G9 := Lib.hid g9
  clear g9 hJ hK HCall
  have HMz := Lib.hid (moved_sz HZ.out HZb.out (by rw [HPl.out]; exact hw1))
  have HMv : Hid ((List.range pn).map (fun i => (tz qs).getD i 0 * (1 / r) ^ i) = moved qs r) := Lib.hid (by rw [← HPl.out]; rfl)
  rw [HMv.out] at G9
  obtain ⟨sa, sn, sc⟩ := s9
  simp only [SH.v] at G9 ⊢
  have hsn := OwnQ.len (s := ⟨sa, sn, sc⟩) G9.out
  have hml : (moved qs r).length = pn := by rw [← HMv.out]; simp
  simp only at hsn
  rw [hml] at hsn
  have Hsn := Lib.hid hsn
  have Hml := Lib.hid hml
  clear hsn hml
  go_wp2_with fail
  refine Calls.mono (stable_any sa sn sc (moved qs r) _ ((OwnQ.can (s := ⟨sa, sn, sc⟩) G9.out).raw HMz.out (by decide)) (by have := Hsn.out; omega) (HMz.out.mono (by decide)) (HO.out (by have := HR0.out; grind) he)) ?_
  rintro e w10 ⟨x10, rfl, hE, -⟩
  replace HX9 := Lib.hid (HX9.out.trans hE)
  have hs_w10 := hE.size
  clear hE
  simp only [BF]
  go_wp2
  exact bodyPost_ret (v := BF (stabV (moved qs r))) (by simp [results, Tryz.results18, go_sem, BF]) rfl ⟨(), by rw [HV.out], HX9.out, trivial⟩
end Go.Proofs.YteafdebcihbjdaaGreat
/- Sizes of the steps; step up and step down, with zeros at the end. -/
namespace Go.Proofs.YteafdebcihbjdaaGreat
open Go.RowKit Go.Front Go.Num
theorem Sz.zero {k : Nat} (hk : 1 ≤ k) : Sz k 0 := (Sz.int (z := 0) (by decide)).mono hk
theorem SzL.getD {s : Nat} {c : List Rat} (h : SzL s c) (hs : 1 ≤ s) (i : Nat) : Sz s (c.getD i 0) := by
  rcases Nat.lt_or_ge i c.length with hi | hi
  · exact h.at hi
  · rw [List.getD_eq_getElem?_getD, List.getElem?_eq_none hi]; exact Sz.zero hs
def grow : Nat → Nat → Nat
  | 0, s => s
  | m + 1, s => grow m (5 * s + 3)
theorem grow_ge (m s : Nat) : s ≤ grow m s := by
  induction m generalizing s with
  | zero => exact Nat.le_refl _
  | succ m ih => exact Nat.le_trans (by omega) (ih (5 * s + 3))
theorem down_sz {s m : Nat} {c : List Rat} {r : Rat} (hs : 1 ≤ s) (h : SzL s c) (hr : Sz s r) : SzL (5 * s + 3) (Stab.down c r m) := by
  intro q hq
  obtain ⟨i, -, rfl⟩ := List.mem_map.1 hq
  exact (((h.getD hs i).sub (hr.mul (h.getD hs (m - i)))).div (Sz.one.sub (hr.mul hr))).mono (by omega)
theorem refOk_of {m s : Nat} {c : List Rat} (hs : 1 ≤ s) (h : SzL s c) (hg : grow m s ≤ 8388608) : RefOk m c := by
  induction m generalizing s c with
  | zero => trivial
  | succ m ih =>
    exact ⟨h.mono (Nat.le_trans (grow_ge (m + 1) s) hg), ih (by omega) (down_sz hs h (h.getD hs (m + 1))) hg⟩
theorem norm_sz {s : Nat} {p : List Rat} (hs : 1 ≤ s) (h : SzL s p) : SzL (2 * s) (norm p) := by
  intro q hq
  obtain ⟨x, hx, rfl⟩ := List.mem_map.1 hq
  exact ((h x hx).div (h.getD hs 0)).mono (by omega)
theorem grow_mono {m n s : Nat} (h : m ≤ n) : grow m s ≤ grow n s := by
  induction n generalizing m s with
  | zero => obtain rfl : m = 0 := by omega
            exact Nat.le_refl _
  | succ n ih =>
    cases m with
    | zero => exact grow_ge (n + 1) s
    | succ m => exact ih (m := m) (s := 5 * s + 3) (by omega)
theorem reflOk {s m : Nat} {qs : List Rat} (hs : 1 ≤ s) (h : SzL s qs) (hl : (tz qs).length ≤ m + 1) (hg : grow m (2 * s) ≤ 8388608) : RefOk ((tz qs).length - 1) (norm (tz qs)) :=
  refOk_of (by omega) (norm_sz hs h.tz) (Nat.le_trans (grow_mono (by omega)) hg)
def upg : Nat → Nat
  | 0 => 1
  | j + 1 => 2 * upg j + 2
theorem upg_pos (j : Nat) : 1 ≤ upg j := by cases j <;> simp [upg]
theorem upg_mono {i j : Nat} (h : i ≤ j) : upg i ≤ upg j := by
  induction j with
  | zero => obtain rfl : i = 0 := by omega
            exact Nat.le_refl _
  | succ j ih =>
    rcases Nat.lt_or_ge i (j + 1) with h1 | h1
    · exact Nat.le_trans (ih (by omega)) (by simp [upg]; omega)
    · obtain rfl : i = j + 1 := by omega
      exact Nat.le_refl _
theorem ups_sz (k : List Rat) (h : SzL 1 k) : SzL (upg k.length) (Stab.ups k) := by
  induction k using Stab.snoc_ind with
  | h0 =>
    intro q hq
    obtain rfl : q = 1 := by simpa [Stab.ups] using hq
    exact Sz.one
  | h1 l r ih =>
    have ih' := ih (fun x hx => h x (by simp [hx]))
    rw [Stab.ups_snoc, List.length_append, List.length_singleton]
    intro q hq
    obtain ⟨i, hi, rfl⟩ := List.mem_iff_getElem.1 hq
    rw [Stab.up_length, Stab.ups_length] at hi
    have e := Stab.up_at (c := Stab.ups l) (k := r) (i := i) (Stab.ups_length l) (by omega)
    rw [List.getD_eq_getElem?_getD, List.getElem?_eq_getElem (by rw [Stab.up_length, Stab.ups_length]; omega)] at e
    simp only [Option.getD_some] at e
    rw [e]
    exact ((ih'.getD (upg_pos _) i).add ((h r (by simp)).mul (ih'.getD (upg_pos _) _))).mono (by simp [upg]; omega)
theorem upOk {k : List Rat} (h : SzL 1 k) (hl : k.length ≤ 5) : UpOk k := by
  refine ⟨h.mono (by decide), fun j hj => ?_⟩
  have h1 := ups_sz (k.take j) (fun q hq => h q (List.mem_of_mem_take hq))
  refine h1.mono (Nat.le_trans (upg_mono (j := 5) ?_) (by decide))
  rw [List.length_take]
  omega
theorem tz_idem (l : List Rat) : tz (tz l) = tz l := by
  induction l using Stab.snoc_ind with
  | h0 => rfl
  | h1 l r ih =>
    by_cases h : r = 0
    · subst h; rw [tz_snoc0]; exact ih
    · rw [tz_snoc l h, tz_snoc l h]
theorem tz_ups (k : List Rat) : tz (Stab.ups k) = Stab.ups (tz k) := by
  induction k using Stab.snoc_ind with
  | h0 => decide +kernel
  | h1 l r ih =>
    by_cases h : r = 0
    · subst h
      rw [Stab.ups_snoc, Stab.up_zero, tz_snoc0, tz_snoc0]
      exact ih
    · rw [tz_snoc l h]
      have hl := Stab.up_last l r
      rw [← Stab.ups_snoc] at hl
      have hlen : (Stab.ups (l ++ [r])).length = l.length + 2 := by rw [Stab.ups_length]; simp
      have e : Stab.ups (l ++ [r]) = (Stab.ups (l ++ [r])).take (l.length + 1) ++ [(Stab.ups (l ++ [r])).getD (l.length + 1) 0] := by
        rw [take_snoc (by omega), List.take_of_length_le (by omega)]
      rw [hl] at e
      rw [e, tz_snoc _ h]
theorem norm_one {p : List Rat} (h : p.getD 0 0 = 1) : norm p = p := by
  unfold norm
  rw [h]
  have : (fun x : Rat => x / 1) = id := by funext x; rw [Rat.div_def]; simp; grind
  rw [this, List.map_id]
theorem reflV_ups {k : List Rat} (h : ∀ r ∈ k, -1 < r ∧ r < 1) (hl : k.length ≤ 48) : reflV (tz (Stab.ups k)) = (0, tz k) := by
  have ht : ∀ r ∈ tz k, -1 < r ∧ r < 1 := fun r hr => h r (by rw [tz_prefix] at hr; exact List.mem_of_mem_take hr)
  have h1 := tz_len_le k
  have hw : wrongE (tz (Stab.ups k)) = 0 := by
    unfold wrongE
    rw [tz_idem, tz_ups, Stab.ups_length, if_neg (by omega), if_neg]
    rw [Stab.ups_head]
    intro hh
    rcases hh with hh | hh
    · omega
    · exact absurd hh (by decide)
  unfold reflV
  rw [if_neg (fun hn => hn hw), tz_idem, tz_ups, Stab.ups_length, norm_one (Stab.ups_head _), Nat.add_sub_cancel, Stab.refl_ups _ ht]
theorem upV_ok {k : List Rat} (h : ∀ r ∈ k, -1 < r ∧ r < 1) (hl : k.length ≤ 48) : upV k = (0, tz (Stab.ups k)) := by
  unfold upV
  rw [if_neg (by omega), if_pos h]
theorem upV_tz {k : List Rat} (h : ∀ r ∈ k, -1 < r ∧ r < 1) (hl : k.length ≤ 48) : upV (tz k) = (0, tz (Stab.ups k)) := by
  have ht : ∀ r ∈ tz k, -1 < r ∧ r < 1 := fun r hr => h r (by rw [tz_prefix] at hr; exact List.mem_of_mem_take hr)
  have h1 := tz_len_le k
  rw [upV_ok ht (by omega), ← tz_ups, tz_idem]
theorem stabV_ups {k : List Rat} (h : ∀ r ∈ k, -1 < r ∧ r < 1) (hl : k.length ≤ 48) : stabV (tz (Stab.ups k)) = (true, 0) := by
  unfold stabV
  rw [reflV_ups h hl]
  rfl
end Go.Proofs.YteafdebcihbjdaaGreat
/- awake of chapter 18. -/
namespace Go.Proofs.YteafdebcihbjdaaGreat
open Go.RowKit Go.Front Go.Num
attribute [local go_sem] XW.cell XW.frozen
theorem canL_1 {w : World} {N : Nat} {x : RH} {p : Rat} (h : w.heap[N]? = some (.cells #[.bool x.neg, .slice x.a x.n x.c, .slice x.b x.m x.d] 30 (0, 0))) (hx : CanR w x p) : CanL w ⟨some ⟨N, 0, none⟩, 1, 1⟩ [p] :=
  ⟨[x], RBk.rs (rs := [x]) (re := #[]) h rfl (Nat.le_refl _) (by decide), (Vals.nil _ _).snoc hx⟩
theorem canL_2 {w : World} {N : Nat} {x y : RH} {p q : Rat} (h : w.heap[N]? = some (.cells #[.bool x.neg, .slice x.a x.n x.c, .slice x.b x.m x.d, .bool y.neg, .slice y.a y.n y.c, .slice y.b y.m y.d] 30 (0, 0))) (hx : CanR w x p) (hy : CanR w y q) : CanL w ⟨some ⟨N, 0, none⟩, 2, 2⟩ [p, q] :=
  ⟨[x, y], RBk.rs (rs := [x, y]) (re := #[]) h rfl (Nat.le_refl _) (by decide), ((Vals.nil _ _).snoc hx).snoc hy⟩
theorem canL_3 {w : World} {N : Nat} {x y z : RH} {p q r : Rat} (h : w.heap[N]? = some (.cells #[.bool x.neg, .slice x.a x.n x.c, .slice x.b x.m x.d, .bool y.neg, .slice y.a y.n y.c, .slice y.b y.m y.d, .bool z.neg, .slice z.a z.n z.c, .slice z.b z.m z.d] 30 (0, 0))) (hx : CanR w x p) (hy : CanR w y q) (hz : CanR w z r) : CanL w ⟨some ⟨N, 0, none⟩, 3, 3⟩ [p, q, r] :=
  ⟨[x, y, z], RBk.rs (rs := [x, y, z]) (re := #[]) h rfl (Nat.le_refl _) (by decide), (((Vals.nil _ _).snoc hx).snoc hy).snoc hz⟩
def fr (a b : Int) : Rat := (a : Rat) / (b : Rat)
theorem szB {qs : List Rat} (h : qs.all (fun q => decide (q.num.natAbs < W32) && decide (q.den < W32)) = true) : SzL 1 qs := by
  intro q hq
  have := List.all_eq_true.1 h q hq
  simp only [Bool.and_eq_true, decide_eq_true_eq] at this
  exact ⟨by rw [Nat.pow_one]; exact this.1, by rw [Nat.pow_one]; exact this.2⟩
theorem tz_le {qs : List Rat} {n : Nat} (h : qs.length ≤ n) : (tz qs).length ≤ n := Nat.le_trans (tz_len_le qs) h
set_option maxRecDepth 8000 in
set_option maxHeartbeats 4000000 in
theorem awake18_any (w : World) : Does 19 [] w (fun _ : Unit => .bool true) (fun _ _ => True) := by
  have HX := Lib.hid (Ext.refl w)
  have Z1 : Hid (SzL 1 [((1 : Int) : Rat), fr (-1) 2]) := Lib.hid (szB (by decide +kernel))
  have Z2 : Hid (SzL 1 [((1 : Int) : Rat), ((-2 : Int) : Rat)]) := Lib.hid (szB (by decide +kernel))
  have Z3 : Hid (SzL 1 [fr 1 2, fr 1 2]) := Lib.hid (szB (by decide +kernel))
  have Z4 : Hid (Sz 1 (fr 1 2)) := Lib.hid (Z3.out.at (i := 0) (by decide))
  have Z5 : Hid (SzL 1 (moved [((1 : Int) : Rat), fr (-1) 2] (fr 1 2))) := Lib.hid (szB (by decide +kernel))
  have V1 : Hid (reflV [((1 : Int) : Rat), fr (-1) 2] = (0, [fr (-1) 2])) := Lib.hid (by decide +kernel)
  have V2 : Hid (reflV [((1 : Int) : Rat), ((-2 : Int) : Rat)] = (14, [])) := Lib.hid (by decide +kernel)
  have V3 : Hid (upV [fr 1 2, fr 1 2] = (0, [((1 : Int) : Rat), fr 3 4, fr 1 2])) := Lib.hid (by decide +kernel)
  have V4 : Hid (insV [((1 : Int) : Rat), fr (-1) 2] (fr 1 2) = (false, 0)) := Lib.hid (by decide +kernel)
  unfold Does
  go_enter Tryz.func19, Tryz.ntmps19
  go_wp2_with fail
  refine Calls.mono (rof3_any 1 _ (by decide) (by decide)) ?_
  rintro e w1 ⟨x1, rfl, hE, g1⟩
  have G1 := Lib.hid g1
  clear g1
  replace HX := Lib.hid (HX.out.trans hE)
  have hs_w1 := hE.size
  clear hE
  go_wp2_with fail
  refine Calls.mono (rfrac3_any (-1) 2 _ (by decide) (by decide) (by decide) (by decide)) ?_
  rintro e w2 ⟨x2, rfl, hE, g2⟩
  have G2 := Lib.hid g2
  clear g2
  replace HX := Lib.hid (HX.out.trans hE)
  replace G1 := Lib.hid (G1.out.ext hE)
  have hs_w2 := hE.size
  clear hE
  go_upto_region 2 with fail
  refine nm_alloc ?_
  intro y3 hE hB0 hz
  have hz_y3 := Nat.le_of_eq hz
  have hr_y3 := Nat.le_of_eq hz.symm
  clear hz
  replace HX := Lib.hid (HX.out.trans hE)
  replace G1 := Lib.hid (G1.out.ext hE)
  replace G2 := Lib.hid (G2.out.ext hE)
  have hs_y3 := hE.size
  clear hE
  have B3 := Lib.hid hB0
  clear hB0
  have c_B3 := blk_cell B3.out
  have f_B3 := blk_frozen B3.out
  have l_B3 := (Array.getElem?_eq_some_iff.1 B3.out).1
  have L3 := Lib.hid (canL_2 B3.out G1.out G2.out)
  (try clear c_B3 f_B3 l_B3); clear B3
  clear G1
  clear G2
  go_wp2_with fail
  refine Calls.mono (reflections_any _ 2 2 [((1 : Int) : Rat), fr (-1) 2] _ (L3.out.raw Z1.out (by decide)) (by decide) (Z1.out.mono (by decide)) (fun _ => reflOk (m := 1) (by decide) Z1.out (tz_le (by decide)) (by decide))) ?_
  rintro e w4 ⟨x4, rfl, hE, g4⟩
  have G4 := Lib.hid g4
  clear g4
  replace HX := Lib.hid (HX.out.trans hE)
  replace L3 := Lib.hid (L3.out.ext hE)
  have hs_w4 := hE.size
  clear hE
  obtain ⟨⟨a4, n4, c4⟩, e4⟩ := x4
  obtain ⟨he, hl⟩ := G4.out
  rw [V1.out] at he hl
  simp only at he hl
  subst he
  have L4 := Lib.hid hl.can
  clear hl G4
  simp only [RF, SH.v]
  go_wp2_with fail
  refine Calls.mono (rof3_any 1 _ (by decide) (by decide)) ?_
  rintro e w5 ⟨x5, rfl, hE, g5⟩
  have G5 := Lib.hid g5
  clear g5
  replace HX := Lib.hid (HX.out.trans hE)
  replace L3 := Lib.hid (L3.out.ext hE)
  replace L4 := Lib.hid (L4.out.ext hE)
  have hs_w5 := hE.size
  clear hE
  go_wp2_with fail
  refine Calls.mono (rof3_any (-2) _ (by decide) (by decide)) ?_
  rintro e w6 ⟨x6, rfl, hE, g6⟩
  have G6 := Lib.hid g6
  clear g6
  replace HX := Lib.hid (HX.out.trans hE)
  replace L3 := Lib.hid (L3.out.ext hE)
  replace L4 := Lib.hid (L4.out.ext hE)
  replace G5 := Lib.hid (G5.out.ext hE)
  have hs_w6 := hE.size
  clear hE
  go_wp2_with fail
  refine nm_alloc (F := fun W => Calls _ _ _ W _) ?_
  intro y7 hE hB0 hz
  have hz_y7 := Nat.le_of_eq hz
  have hr_y7 := Nat.le_of_eq hz.symm
  clear hz
  replace HX := Lib.hid (HX.out.trans hE)
  replace L3 := Lib.hid (L3.out.ext hE)
  replace L4 := Lib.hid (L4.out.ext hE)
  replace G5 := Lib.hid (G5.out.ext hE)
  replace G6 := Lib.hid (G6.out.ext hE)
  have hs_y7 := hE.size
  clear hE
  have B7 := Lib.hid hB0
  clear hB0
  have c_B7 := blk_cell B7.out
  have f_B7 := blk_frozen B7.out
  have l_B7 := (Array.getElem?_eq_some_iff.1 B7.out).1
  change Calls _ _ _ _ _
  have L7 := Lib.hid (canL_2 B7.out G5.out G6.out)
  (try clear c_B7 f_B7 l_B7); clear B7
  clear G5
  clear G6
  refine Calls.mono (reflections_any _ 2 2 [((1 : Int) : Rat), ((-2 : Int) : Rat)] _ (L7.out.raw Z2.out (by decide)) (by decide) (Z2.out.mono (by decide)) (fun _ => reflOk (m := 1) (by decide) Z2.out (tz_le (by decide)) (by decide))) ?_
  rintro e w8 ⟨x8, rfl, hE, g8⟩
  have G8 := Lib.hid g8
  clear g8
  replace HX := Lib.hid (HX.out.trans hE)
  replace L3 := Lib.hid (L3.out.ext hE)
  replace L4 := Lib.hid (L4.out.ext hE)
  replace L7 := Lib.hid (L7.out.ext hE)
  have hs_w8 := hE.size
  clear hE
  obtain ⟨⟨a8, n8, c8⟩, e8⟩ := x8
  obtain ⟨he, hl⟩ := G8.out
  rw [V2.out] at he hl
  simp only at he hl
  subst he
  have L8 := Lib.hid hl.can
  clear hl G8
  simp only [RF, SH.v]
  go_wp2_with fail
  refine Calls.mono (rfrac3_any 1 2 _ (by decide) (by decide) (by decide) (by decide)) ?_
  rintro e w9 ⟨x9, rfl, hE, g9⟩
  have G9 := Lib.hid g9
  clear g9
  replace HX := Lib.hid (HX.out.trans hE)
  replace L3 := Lib.hid (L3.out.ext hE)
  replace L4 := Lib.hid (L4.out.ext hE)
  replace L7 := Lib.hid (L7.out.ext hE)
  replace L8 := Lib.hid (L8.out.ext hE)
  have hs_w9 := hE.size
  clear hE
  go_wp2_with fail
  refine Calls.mono (rfrac3_any 1 2 _ (by decide) (by decide) (by decide) (by decide)) ?_
  rintro e w10 ⟨x10, rfl, hE, g10⟩
  have G10 := Lib.hid g10
  clear g10
  replace HX := Lib.hid (HX.out.trans hE)
  replace L3 := Lib.hid (L3.out.ext hE)
  replace L4 := Lib.hid (L4.out.ext hE)
  replace L7 := Lib.hid (L7.out.ext hE)
  replace L8 := Lib.hid (L8.out.ext hE)
  replace G9 := Lib.hid (G9.out.ext hE)
  have hs_w10 := hE.size
  clear hE
  go_wp2_with fail
  refine nm_alloc (F := fun W => Calls _ _ _ W _) ?_
  intro y11 hE hB0 hz
  have hz_y11 := Nat.le_of_eq hz
  have hr_y11 := Nat.le_of_eq hz.symm
  clear hz
  replace HX := Lib.hid (HX.out.trans hE)
  replace L3 := Lib.hid (L3.out.ext hE)
  replace L4 := Lib.hid (L4.out.ext hE)
  replace L7 := Lib.hid (L7.out.ext hE)
  replace L8 := Lib.hid (L8.out.ext hE)
  replace G9 := Lib.hid (G9.out.ext hE)
  replace G10 := Lib.hid (G10.out.ext hE)
  have hs_y11 := hE.size
  clear hE
  have B11 := Lib.hid hB0
  clear hB0
  have c_B11 := blk_cell B11.out
  have f_B11 := blk_frozen B11.out
  have l_B11 := (Array.getElem?_eq_some_iff.1 B11.out).1
  change Calls _ _ _ _ _
  have L11 := Lib.hid (canL_2 B11.out G9.out G10.out)
  (try clear c_B11 f_B11 l_B11); clear B11
  clear G9
  clear G10
  refine Calls.mono (stepup_any _ 2 2 [fr 1 2, fr 1 2] _ (L11.out.raw Z3.out (by decide)) (by decide) (upOk Z3.out (by decide))) ?_
  rintro e w12 ⟨x12, rfl, hE, g12⟩
  have G12 := Lib.hid g12
  clear g12
  replace HX := Lib.hid (HX.out.trans hE)
  replace L3 := Lib.hid (L3.out.ext hE)
  replace L4 := Lib.hid (L4.out.ext hE)
  replace L7 := Lib.hid (L7.out.ext hE)
  replace L8 := Lib.hid (L8.out.ext hE)
  replace L11 := Lib.hid (L11.out.ext hE)
  have hs_w12 := hE.size
  clear hE
  obtain ⟨⟨a12, n12, c12⟩, e12⟩ := x12
  obtain ⟨he, hl⟩ := G12.out
  rw [V3.out] at he hl
  simp only at he hl
  subst he
  have L12 := Lib.hid hl.can
  clear hl G12
  simp only [RF, SH.v]
  clear L7
  clear L8
  clear L11
  go_wp2_with fail
  refine Calls.mono (rfrac3_any 1 2 _ (by decide) (by decide) (by decide) (by decide)) ?_
  rintro e w13 ⟨x13, rfl, hE, g13⟩
  have G13 := Lib.hid g13
  clear g13
  replace HX := Lib.hid (HX.out.trans hE)
  replace L3 := Lib.hid (L3.out.ext hE)
  replace L4 := Lib.hid (L4.out.ext hE)
  replace L12 := Lib.hid (L12.out.ext hE)
  have hs_w13 := hE.size
  clear hE
  go_wp2_with fail
  refine Calls.mono (inside_any _ 2 2 [((1 : Int) : Rat), fr (-1) 2] x13 (fr 1 2) _ (L3.out.raw Z1.out (by decide)) (G13.out.raw Z4.out (by decide)) (by decide) (Z1.out.mono (by decide)) (Z4.out.mono (by decide)) (fun _ _ _ => reflOk (m := 1) (by decide) Z5.out (tz_le (by decide +kernel)) (by decide))) ?_
  rintro e w14 ⟨x14, rfl, hE, -⟩
  replace HX := Lib.hid (HX.out.trans hE)
  replace L3 := Lib.hid (L3.out.ext hE)
  replace L4 := Lib.hid (L4.out.ext hE)
  replace L12 := Lib.hid (L12.out.ext hE)
  replace G13 := Lib.hid (G13.out.ext hE)
  have hs_w14 := hE.size
  clear hE
  rw [V4.out]
  simp only [BF]
  clear L3
  clear G13
  go_wp2_with fail
  refine Calls.mono (rfrac3_any (-1) 2 _ (by decide) (by decide) (by decide) (by decide)) ?_
  rintro e w15 ⟨x15, rfl, hE, g15⟩
  have G15 := Lib.hid g15
  clear g15
  replace HX := Lib.hid (HX.out.trans hE)
  replace L4 := Lib.hid (L4.out.ext hE)
  replace L12 := Lib.hid (L12.out.ext hE)
  have hs_w15 := hE.size
  clear hE
  go_wp2_with fail
  refine nm_alloc (F := fun W => Calls _ _ _ W _) ?_
  intro y16 hE hB0 hz
  have hz_y16 := Nat.le_of_eq hz
  have hr_y16 := Nat.le_of_eq hz.symm
  clear hz
  replace HX := Lib.hid (HX.out.trans hE)
  replace L4 := Lib.hid (L4.out.ext hE)
  replace L12 := Lib.hid (L12.out.ext hE)
  replace G15 := Lib.hid (G15.out.ext hE)
  have hs_y16 := hE.size
  clear hE
  have B16 := Lib.hid hB0
  clear hB0
  have c_B16 := blk_cell B16.out
  have f_B16 := blk_frozen B16.out
  have l_B16 := (Array.getElem?_eq_some_iff.1 B16.out).1
  change Calls _ _ _ _ _
  have L16 := Lib.hid (canL_1 B16.out G15.out)
  (try clear c_B16 f_B16 l_B16); clear B16
  clear G15
  refine Calls.mono (samelist_any ⟨a4, n4, c4⟩ ⟨some ⟨w15.heap.size, 0, none⟩, 1, 1⟩ [fr (-1) 2] [fr (-1) 2] _ L4.out L16.out) ?_
  rintro e w17 ⟨x17, rfl, hE, -⟩
  replace HX := Lib.hid (HX.out.trans hE)
  replace L4 := Lib.hid (L4.out.ext hE)
  replace L12 := Lib.hid (L12.out.ext hE)
  replace L16 := Lib.hid (L16.out.ext hE)
  have hs_w17 := hE.size
  clear hE
  rw [decide_eq_true rfl]
  clear L4
  clear L16
  go_wp2_with fail
  refine Calls.mono (rof3_any 1 _ (by decide) (by decide)) ?_
  rintro e w18 ⟨x18, rfl, hE, g18⟩
  have G18 := Lib.hid g18
  clear g18
  replace HX := Lib.hid (HX.out.trans hE)
  replace L12 := Lib.hid (L12.out.ext hE)
  have hs_w18 := hE.size
  clear hE
  go_wp2_with fail
  refine Calls.mono (rfrac3_any 3 4 _ (by decide) (by decide) (by decide) (by decide)) ?_
  rintro e w19 ⟨x19, rfl, hE, g19⟩
  have G19 := Lib.hid g19
  clear g19
  replace HX := Lib.hid (HX.out.trans hE)
  replace L12 := Lib.hid (L12.out.ext hE)
  replace G18 := Lib.hid (G18.out.ext hE)
  have hs_w19 := hE.size
  clear hE
  go_wp2_with fail
  refine Calls.mono (rfrac3_any 1 2 _ (by decide) (by decide) (by decide) (by decide)) ?_
  rintro e w20 ⟨x20, rfl, hE, g20⟩
  have G20 := Lib.hid g20
  clear g20
  replace HX := Lib.hid (HX.out.trans hE)
  replace L12 := Lib.hid (L12.out.ext hE)
  replace G18 := Lib.hid (G18.out.ext hE)
  replace G19 := Lib.hid (G19.out.ext hE)
  have hs_w20 := hE.size
  clear hE
  go_wp2_with fail
  refine nm_alloc (F := fun W => Calls _ _ _ W _) ?_
  intro y21 hE hB0 hz
  have hz_y21 := Nat.le_of_eq hz
  have hr_y21 := Nat.le_of_eq hz.symm
  clear hz
  replace HX := Lib.hid (HX.out.trans hE)
  replace L12 := Lib.hid (L12.out.ext hE)
  replace G18 := Lib.hid (G18.out.ext hE)
  replace G19 := Lib.hid (G19.out.ext hE)
  replace G20 := Lib.hid (G20.out.ext hE)
  have hs_y21 := hE.size
  clear hE
  have B21 := Lib.hid hB0
  clear hB0
  have c_B21 := blk_cell B21.out
  have f_B21 := blk_frozen B21.out
  have l_B21 := (Array.getElem?_eq_some_iff.1 B21.out).1
  change Calls _ _ _ _ _
  have L21 := Lib.hid (canL_3 B21.out G18.out G19.out G20.out)
  (try clear c_B21 f_B21 l_B21); clear B21
  clear G18
  clear G19
  clear G20
  refine Calls.mono (equal_any ⟨a12, n12, c12⟩ ⟨some ⟨w20.heap.size, 0, none⟩, 3, 3⟩ [((1 : Int) : Rat), fr 3 4, fr 1 2] [((1 : Int) : Rat), fr 3 4, fr 1 2] _ L12.out L21.out) ?_
  rintro e w22 ⟨x22, rfl, hE, -⟩
  replace HX := Lib.hid (HX.out.trans hE)
  replace L12 := Lib.hid (L12.out.ext hE)
  replace L21 := Lib.hid (L21.out.ext hE)
  have hs_w22 := hE.size
  clear hE
  rw [decide_eq_true rfl]
  go_wp2
  go_ret
  exact ⟨(), rfl, HX.out, trivial⟩
end Go.Proofs.YteafdebcihbjdaaGreat
/- Kept of package make. -/
namespace Go.Proofs.YteafdebcihbjdaaGreat
open Go.RowKit Go.Front Go.Num
attribute [local go_sem] XW.cell XW.frozen
def keptQ (n : Int) : Rat := ((n % 15 - 7 : Int) : Rat) / ((8 : Int) : Rat)
set_option maxRecDepth 4000 in
set_option maxHeartbeats 1000000 in
theorem kept_any (ao : Option Addr) (cap most : Nat) (xs : List Int) (w : World) (h : IntsAt w ao xs) (hr : InR xs) (hl : xs.length ≤ 9223372036854775807) (hmo : most ≤ 1073741824) (hc : xs.length ≤ cap) (hcm : cap ≤ 9223372036854775807) :
    Does 13 [.slice ao xs.length cap, .int .i64 (most : Nat)] w SH.v (fun s w' => NewL w.heap.size w' s ((xs.take most).map keptQ)) := by
  have HX := Lib.hid (Ext.refl w)
  by_cases hgt : most < xs.length
  · obtain ⟨ys, hys⟩ : ∃ ys, ys = xs.take most := ⟨_, rfl⟩
    have HY := Lib.hid hys
    have H : Hid (IntsAt w ao ys) := Lib.hid (by rw [hys]; exact IntsAt.take h _)
    have HR : Hid (InR ys) := Lib.hid (by rw [hys]; exact hr.take _)
    have Hn : Hid (ys.length = most) := Lib.hid (by rw [hys, List.length_take]; omega)
    obtain ⟨n, hn⟩ : ∃ n, n = xs.length := ⟨_, rfl⟩
    rw [← hn] at hl hc hgt ⊢
    clear h hr hn hys
    unfold Does
    go_enter Tryz.func13, Tryz.ntmps13
    go_wp2
    go_loopg [5, 17] most (fun g v i wr => ∃ j : Nat, j + g = most ∧ i = .int .i64 (j : Nat) ∧ Ext w wr ∧ OwnQ wr (w.heap.size ≤ ·) v ((ys.take j).map keptQ))
    case atStart => exact ⟨0, by omega, rfl, HX.out, OwnQ.nil _ _⟩
    case round =>
      obtain ⟨j, hj, rfl, g1, g2⟩ := hrel
      obtain ⟨s, rfl⟩ := g2.sh
      clear HX
      have HX := Lib.hid g1
      have HO := Lib.hid g2
      have hsz := g1.size
      clear g1 g2
      by_cases h0 : gk = 0
      · subst h0
        obtain rfl : j = most := by omega
        go_wp2
        go_ret
        refine ⟨s, rfl, HX.out, ?_⟩
        have := HO.out.lin
        rw [List.take_of_length_le (by rw [Hn.out]; exact Nat.le_refl _), HY.out] at this
        exact this
      · obtain ⟨b, off, hao, hc1⟩ := (H.out.ext HX.out).at (k := j) (by rw [Hn.out]; omega)
        subst hao
        have hx := HR.out _ (getD_memI (xs := ys) (k := j) (by rw [Hn.out]; omega))
        obtain ⟨x, hxe⟩ : ∃ x, x = ys.getD j 0 := ⟨_, rfl⟩
        rw [← hxe] at hc1 hx
        have Hxe := Lib.hid hxe
        have hbl : b < wr.heap.size := World.block_lt_of_cell? _ _ hc1
        clear hxe
        have h1 := Int.emod_nonneg x (show (15 : Int) ≠ 0 by decide)
        have h2 := Int.emod_lt_of_pos x (show (0 : Int) < 15 by decide)
        obtain ⟨a, ha⟩ : ∃ a, a = x % 15 := ⟨_, rfl⟩
        rw [← ha] at h1 h2
        have HA := Lib.hid ha
        clear ha
        have hjn : (j : Int) < most := by omega
        go_wp2_with fail
        refine Calls.mono (mod_any x 15 _ hx.1 hx.2 (by decide) (by decide)) ?_
        rintro e w1 ⟨x1, rfl, hE, -⟩
        replace HX := Lib.hid (HX.out.trans hE)
        replace HO := Lib.hid (HO.out.ext hE)
        have hs_w1 := hE.size
        clear hE
        rw [← HA.out]
        go_wp2_with fail
        refine Calls.mono (rfrac3_any (a - 7) 8 _ (by omega) (by omega) (by decide) (by decide)) ?_
        rintro e w2 ⟨x2, rfl, hE, g2⟩
        have G2 := Lib.hid g2
        clear g2
        replace HX := Lib.hid (HX.out.trans hE)
        replace HO := Lib.hid (HO.out.ext hE)
        have hs_w2 := hE.size
        clear hE
        have G3 : Hid (CanR w2 x2 (keptQ x)) := Lib.hid (by unfold keptQ; rw [← HA.out]; exact G2.out)
        go_wp2_with (at_builtin; refine wpList_append_n rfl (.tmp 21) (.tmp 26) 22 Tryz.underlying22 rfl (w.heap.size ≤ ·) _ _ x2 _ rfl HO.out rfl G3.out (by simp; omega) (fun k hk => by omega) ?_; intro s' y3 q1 q2 q3)
        have HX3 := Lib.hid (Ext.mods HX.out q2 (fun k h => h))
        have HO3 : Hid (OwnQ y3 (w.heap.size ≤ ·) s'.v ((ys.take (j + 1)).map keptQ)) := Lib.hid (by
          rw [← map_snoc keptQ (by rw [Hn.out]; omega), ← Hxe.out]
          exact q1)
        clear q1 q2 q3
        go_wp2
        go_roundg (gk - 1)
        case measure => omega
        case rel => exact ⟨j + 1, by omega, by go_num, HX3.out, HO3.out⟩
  · obtain ⟨ys, hys⟩ : ∃ ys, ys = xs := ⟨_, rfl⟩
    have HY : Hid (ys = xs.take most) := Lib.hid (by rw [hys, List.take_of_length_le (by omega)])
    have H : Hid (IntsAt w ao ys) := Lib.hid (by rw [hys]; exact h)
    have HR : Hid (InR ys) := Lib.hid (by rw [hys]; exact hr)
    obtain ⟨n, hn⟩ : ∃ n, n = xs.length := ⟨_, rfl⟩
    have Hn : Hid (ys.length = n) := Lib.hid (by rw [hys, hn])
    rw [← hn] at hl hc hgt ⊢
    clear h hr hn hys
    unfold Does
    go_enter Tryz.func13, Tryz.ntmps13
    go_wp2
    go_loopg [5, 17] n (fun g v i wr => ∃ j : Nat, j + g = n ∧ i = .int .i64 (j : Nat) ∧ Ext w wr ∧ OwnQ wr (w.heap.size ≤ ·) v ((ys.take j).map keptQ))
    case atStart => exact ⟨0, by omega, rfl, HX.out, OwnQ.nil _ _⟩
    case round =>
      obtain ⟨j, hj, rfl, g1, g2⟩ := hrel
      obtain ⟨s, rfl⟩ := g2.sh
      clear HX
      have HX := Lib.hid g1
      have HO := Lib.hid g2
      have hsz := g1.size
      clear g1 g2
      by_cases h0 : gk = 0
      · subst h0
        obtain rfl : j = n := by omega
        go_wp2
        go_ret
        refine ⟨s, rfl, HX.out, ?_⟩
        have := HO.out.lin
        rw [List.take_of_length_le (by rw [Hn.out]; exact Nat.le_refl _), HY.out] at this
        exact this
      · obtain ⟨b, off, hao, hc1⟩ := (H.out.ext HX.out).at (k := j) (by rw [Hn.out]; omega)
        subst hao
        have hx := HR.out _ (getD_memI (xs := ys) (k := j) (by rw [Hn.out]; omega))
        obtain ⟨x, hxe⟩ : ∃ x, x = ys.getD j 0 := ⟨_, rfl⟩
        rw [← hxe] at hc1 hx
        have Hxe := Lib.hid hxe
        have hbl : b < wr.heap.size := World.block_lt_of_cell? _ _ hc1
        clear hxe
        have h1 := Int.emod_nonneg x (show (15 : Int) ≠ 0 by decide)
        have h2 := Int.emod_lt_of_pos x (show (0 : Int) < 15 by decide)
        obtain ⟨a, ha⟩ : ∃ a, a = x % 15 := ⟨_, rfl⟩
        rw [← ha] at h1 h2
        have HA := Lib.hid ha
        clear ha
        have hjn : (j : Int) < n := by omega
        go_wp2_with fail
        refine Calls.mono (mod_any x 15 _ hx.1 hx.2 (by decide) (by decide)) ?_
        rintro e w1 ⟨x1, rfl, hE, -⟩
        replace HX := Lib.hid (HX.out.trans hE)
        replace HO := Lib.hid (HO.out.ext hE)
        have hs_w1 := hE.size
        clear hE
        rw [← HA.out]
        go_wp2_with fail
        refine Calls.mono (rfrac3_any (a - 7) 8 _ (by omega) (by omega) (by decide) (by decide)) ?_
        rintro e w2 ⟨x2, rfl, hE, g2⟩
        have G2 := Lib.hid g2
        clear g2
        replace HX := Lib.hid (HX.out.trans hE)
        replace HO := Lib.hid (HO.out.ext hE)
        have hs_w2 := hE.size
        clear hE
        have G3 : Hid (CanR w2 x2 (keptQ x)) := Lib.hid (by unfold keptQ; rw [← HA.out]; exact G2.out)
        go_wp2_with (at_builtin; refine wpList_append_n rfl (.tmp 21) (.tmp 26) 22 Tryz.underlying22 rfl (w.heap.size ≤ ·) _ _ x2 _ rfl HO.out rfl G3.out (by simp; omega) (fun k hk => by omega) ?_; intro s' y3 q1 q2 q3)
        have HX3 := Lib.hid (Ext.mods HX.out q2 (fun k h => h))
        have HO3 : Hid (OwnQ y3 (w.heap.size ≤ ·) s'.v ((ys.take (j + 1)).map keptQ)) := Lib.hid (by
          rw [← map_snoc keptQ (by rw [Hn.out]; omega), ← Hxe.out]
          exact q1)
        clear q1 q2 q3
        go_wp2
        go_roundg (gk - 1)
        case measure => omega
        case rel => exact ⟨j + 1, by omega, by go_num, HX3.out, HO3.out⟩
end Go.Proofs.YteafdebcihbjdaaGreat
