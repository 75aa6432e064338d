/- QuantiseDiffers: the walk -/
import Derived.Test.YtjgbckcepoahkaaL2
namespace Go.Proofs.Ytjgbckcepoahkaa
open Go.RowKit Go.Front
attribute [local go_sem] XW.cell XW.frozen
def CI (x : Wd) (base : List Int) (k : Int) (A : List Int) (b : Bool) : Prop := (b = true ∧ candSpec x base k = some A) ∨ (b = false ∧ A = [] ∧ candSpec x base k = none)
theorem CandPost.info {x : Wd} {base : List Int} {k : Int} {w w' : World} {e : Ending} (h : CandPost x base k w e w') : Ext w w' ∧ ∃ A ao ac b, e = .returned (.tuple #[.slice ao A.length ac, .bool b]) ∧ IntsAt w' ao A ∧ CI x base k A b := by
  obtain ⟨h1, h2⟩ := h
  refine ⟨h1, ?_⟩
  cases hs : candSpec x base k with
  | none => rw [hs] at h2; exact ⟨[], none, 0, false, h2, Or.inl rfl, Or.inr ⟨rfl, rfl, hs⟩⟩
  | some c => rw [hs] at h2; obtain ⟨ao, cap, h3, h4⟩ := h2; exact ⟨c, ao, cap, true, h3, h4, Or.inl ⟨rfl, hs⟩⟩
theorem CI.len {x : Wd} {base A : List Int} {k : Int} {b : Bool} (h : CI x base k A b) : b = true → A.length = base.length := by
  rcases h with ⟨_, h⟩ | ⟨h, _, _⟩
  · intro _; unfold candSpec at h; split at h
    · exact srch_len _ _ _ (cands_mem base) h
    · cases h
  · intro hb; rw [h] at hb; cases hb
theorem CI.emp {x : Wd} {base A : List Int} {k : Int} {b : Bool} (h : CI x base k A b) : b = false → A = [] := by
  rcases h with ⟨h1, _⟩ | ⟨_, h, _⟩
  · intro hb; rw [h1] at hb; cases hb
  · intro _; exact h
theorem CI.le {x : Wd} {base A : List Int} {k : Int} {b : Bool} (h : CI x base k A b) : A.length ≤ base.length := by
  rcases h with ⟨h1, h⟩ | ⟨h, rfl, _⟩
  · exact candSpec_len h (Nat.le_refl _)
  · simp
theorem CI.gaps {x : Wd} {base A : List Int} {k : Int} {b : Bool} (h : CI x base k A b) (ht : Tame base) (hn : base.length ≤ 5) : (∀ i, i < A.length → gap (A.getD i 0 - base.getD i 0) ≤ 1 ∧ x.fits (A.getD i 0) = true) ∧ gaps base A A.length ≤ 2 := by
  rcases h with ⟨h1, h⟩ | ⟨h, rfl, _⟩
  · exact (cand_gaps ht hn h).2
  · exact ⟨fun i hi => by simp at hi, by simp [Go.Proofs.Ytjgbckcepoahkaa.gaps]⟩
theorem CI.fin {x : Wd} {base A B : List Int} {j k : Int} {b c : Bool} (h : CI x base j A b) (h2 : CI x base k B c) (ht : Tame base) (hn : base.length ≤ 5) : b = true → c = true → j ≠ k → decide (A = B) = false := by
  intro hb hc hjk
  rcases h with ⟨_, h⟩ | ⟨h, _, _⟩
  · rcases h2 with ⟨_, h2⟩ | ⟨h2, _, _⟩
    · simpa using cand_differ ht hn h h2 hjk
    · rw [h2] at hc; cases hc
  · rw [h] at hb; cases hb
theorem gaps_succ (base A : List Int) (i : Nat) (h1 : i < A.length) (h2 : i < base.length) : gaps base A (i + 1) = gaps base A i + gap (A[i] - base[i]) := by
  unfold gaps
  rw [List.take_succ_eq_append_getElem (by simp; omega)]
  simp
theorem gap_nonneg (d : Int) : 0 ≤ gap d := by unfold gap; omega
theorem gaps_le (base A : List Int) : ∀ (i : Nat), (∀ m, m < i → gap (A.getD m 0 - base.getD m 0) ≤ 1) → i ≤ A.length → 0 ≤ gaps base A i ∧ gaps base A i ≤ i
  | 0, _, _ => by simp [gaps]
  | i + 1, h, hi => by
    have ih := gaps_le base A i (fun m hm => h m (by omega)) (by omega)
    by_cases hb : i < base.length
    · have := gaps_succ base A i (by omega) hb
      have hg := h i (by omega)
      simp [show i < A.length by omega, hb] at hg
      have := gap_nonneg (A[i] - base[i])
      omega
    · unfold gaps at *
      have e : (A.zip base).take (i + 1) = (A.zip base).take i := by
        rw [List.take_of_length_le (by simp; omega), List.take_of_length_le (by simp; omega)]
      rw [e]
      omega
set_option maxRecDepth 100000 in
set_option maxHeartbeats 2000000 in
theorem qd_any (fm j k : Int) (lcap : Nat) (lo : Option Addr) (l : List Int) (w : World) (hl : IntsAt w lo l) (_hmax : l.length ≤ 9223372036854775807) :
    Calls Try.prog 4 #[.slice lo l.length lcap, .int .i64 fm, .int .i64 j, .int .i64 k] w (BoolPost true w) := by
  have HL := Lib.hid hl
  clear hl
  have hm6 : (0 : Int) ≤ (l.length : Int) % 6 ∧ (l.length : Int) % 6 < 6 := by omega
  go_enter Try.func4, Try.ntmps4
  go_wp2_with fail
  refine (coef_any fm _).mono ?_
  rintro e w1 ⟨x, rfl, hv, hb9, hE1⟩
  have HE1 := Lib.hid (hE1.trans (Ext.alloc w1 (.cells #[.int .i64 x.b, .int .i64 x.f, .int .i64 x.r, .int .i64 x.o] 24)))
  have Hv := Lib.hid hv
  clear hE1 hv
  go_wp2
  refine wp_region_front 7 (fun opIx => match opIx with
    | 4 => .spec Unit () (fun _ => .int .i64 ((l.length : Int) % 6)) (fun _ _ => True)
    | 5 => .spec (List Int × Option Addr × Nat) ([], none, 0) (fun p => .slice p.2.1 (l.length % 6) p.2.2) (fun p w => p.1.length = l.length % 6 ∧ (∀ v ∈ p.1, x.low ≤ v ∧ v ≤ x.high) ∧ IntsAt w p.2.1 p.1)
    | _ => .quiet) (fun _ => []) (by kernel_rfl) (by kernel_rfl) (fun w0 he0 hz0 hc0 hf0 => ?_)
  simp only [List.take_succ_cons, List.take_zero]
  repeat (refine wpF_quiet rfl rfl rfl (fun K hK => ?_); go_big_quiet_op; refine hK _ ?_; clear hK K)
  refine wpF_spec rfl rfl (fun w1 hw1 hG => ?_) (fun _ => ?_)
  · refine spec_call [.int .i64 l.length, .int .i64 6] rfl rfl Try.func11 (by kernel_rfl) (by kernel_rfl) ?_
    refine (within_any _ _ _ (by decide) (by decide)).mono ?_
    rintro e w' ⟨rfl, rfl⟩
    exact ⟨(), rfl, Ext.refl _, trivial⟩
  simp only [Act.put, List.setIfInBounds_toArray, List.set_cons_succ, List.set_cons_zero]
  repeat (refine wpF_quiet rfl rfl rfl (fun K hK => ?_); go_big_quiet_op; refine hK _ ?_; clear hK K)
  refine wpF_spec rfl rfl (fun w1 hw1 hG => ?_) (fun p => ?_)
  · refine spec_call [x.v, .slice lo l.length lcap, .int .i64 ((l.length : Int) % 6)] rfl rfl Try.func10 (by kernel_rfl) (by kernel_rfl) ?_
    refine (mkWords_any x Hv.out lo lcap l (l.length % 6) _ (((HL.out.ext HE1.out).ext he0).ext hw1) (by omega)).mono ?_
    rintro e w' ⟨xs, ao, cap, rfl, h1, h2, h3, h4⟩
    exact ⟨(xs, ao, cap), rfl, h4, h1, h2, h3⟩
  simp only [Act.put, List.setIfInBounds_toArray, List.set_cons_succ, List.set_cons_zero]
  repeat (refine wpF_quiet rfl rfl rfl (fun K hK => ?_); go_big_quiet_op; refine hK _ ?_; clear hK K)
  refine wpF_nil ?_
  intro w' hI
  have h5 := hI.facts 5
  have hE2 := he0.trans hI.ext
  simp only [upd_same] at h5
  obtain ⟨wa, hwa, g1, g2, g3⟩ := h5
  obtain ⟨base, bo, bcap⟩ := p
  have HI2 := Lib.hid (g3.ext hwa)
  have HE2 := Lib.hid (HE1.out.trans hE2)
  have Hbd := Lib.hid g2
  have c0 : w'.cell? ⟨w1.heap.size, 0, none⟩ = some (.int .i64 x.b) := hE2.cell (cell_new1 _ _ _ _)
  have c1 : w'.cell? ⟨w1.heap.size, 1, none⟩ = some (.int .i64 x.f) := hE2.cell (cell_new1 _ _ _ _)
  have c2 : w'.cell? ⟨w1.heap.size, 2, none⟩ = some (.int .i64 x.r) := hE2.cell (cell_new1 _ _ _ _)
  have c3 : w'.cell? ⟨w1.heap.size, 3, none⟩ = some (.int .i64 x.o) := hE2.cell (cell_new1 _ _ _ _)
  have hz : w1.heap.size < w'.heap.size := by have := hE2.size; simp at this; omega
  have hn5 : base.length ≤ 5 := by rw [g1]; omega
  dsimp only at g1 ⊢
  rw [← g1]
  have HT : Hid (Tame base) := by
    intro v hv
    have := low_bd Hv.out
    have := g2 v hv
    omega
  clear hI hwa g1 g2 g3 hE2 he0 hz0 hc0 hf0 hm6
  simp only [List.drop_succ_cons, List.drop_nil]
  go_wp2_with (go_at_call 11; refine (within_any _ _ _ (by decide) (by decide)).mono ?_; rintro e wx ⟨rfl, rfl⟩)
  have hj0 : 0 ≤ j % 80 ∧ j % 80 < 80 := by omega
  have hk0 : 0 ≤ k % 80 ∧ k % 80 < 80 := by omega
  obtain ⟨jj, hjj⟩ : ∃ jj, jj = j % 80 := ⟨_, rfl⟩
  obtain ⟨kk, hkk⟩ : ∃ kk, kk = k % 80 := ⟨_, rfl⟩
  rw [← hjj, ← hkk]
  clear hjj hkk hj0 hk0
  refine (cand_any x jj bcap bo base _ HI2.out (by omega)).mono ?_
  rintro e w2 hP
  obtain ⟨hE3, A, ao, ac, b1, rfl, hIA, hA⟩ := hP.info
  obtain ⟨hc3, hf3⟩ := bcellE hE3
  have hz3 : w1.heap.size < w2.heap.size := by have := hE3.size; omega
  have HE3 := Lib.hid (HE2.out.trans hE3)
  have HIA := Lib.hid hIA
  have HA := Lib.hid hA
  have HI3 := Lib.hid (HI2.out.ext hE3)
  have d0 := hE3.cell c0
  have d1 := hE3.cell c1
  have d2 := hE3.cell c2
  have d3 := hE3.cell c3
  clear hE3 hIA hA hP c0 c1 c2 c3 hc3 hf3 hz
  go_wp2_with fail
  refine (cand_any x kk bcap bo base _ HI3.out (by omega)).mono ?_
  rintro e w3 hP
  obtain ⟨hE4, B, b_o, bc, b2, rfl, hIB, hB⟩ := hP.info
  have hz4 : w1.heap.size < w3.heap.size := by have := hE4.size; omega
  have HE4 := Lib.hid (HE3.out.trans hE4)
  have HIA := Lib.hid (HIA.out.ext hE4)
  have HIB := Lib.hid hIB
  have HB := Lib.hid hB
  have HI4 := Lib.hid (HI3.out.ext hE4)
  have c0 := hE4.cell d0
  have c1 := hE4.cell d1
  have c2 := hE4.cell d2
  have c3 := hE4.cell d3
  clear hE4 hIB hB hP d0 d1 d2 d3 hz3
  have hAl := Lib.hid (HA.out.len)
  have hAe := Lib.hid (HA.out.emp)
  have hAn : A.length ≤ 5 := by have := HA.out.le; omega
  have hBn : B.length ≤ 5 := by have := HB.out.le; omega
  have hAg := Lib.hid (HA.out.gaps HT.out hn5)
  have hfin := Lib.hid (HA.out.fin HB.out HT.out hn5)
  clear HA HB
  cases b1
  · have hA0 : A = [] := hAe.out rfl
    subst hA0
    go_wp2
    go_loopg [15, 16] 0 (fun g pl i wr => i = .int .i64 0 ∧ pl = .int .i64 0 ∧ wr = w3)
    case atStart => exact ⟨rfl, rfl, rfl⟩
    case round =>
      obtain ⟨rfl, rfl, rfl⟩ := hrel
      go_wp2_with fail
      refine (known_any _).mono ?_
      rintro e w5 ⟨rfl, hE5⟩
      have HE5 := Lib.hid hE5
      clear hE5
      go_wp2
      all_goals
        go_ret
        exact ⟨rfl, HE4.out.trans HE5.out⟩
  · have hle : ((A.length : Int) != (base.length : Int)) = false := by simp [hAl.out rfl]
    have hlE := Lib.hid (hAl.out rfl)
    go_wp2
    go_loopg [15, 16] A.length (fun g pl i wr => ∃ ii : Nat, ii + g = A.length ∧ i = .int .i64 ii ∧ pl = .int .i64 (gaps base A ii) ∧ Ext w3 wr)
    case atStart => exact ⟨0, by omega, rfl, by simp [gaps], Ext.refl _⟩
    case round =>
      obtain ⟨i, hig, rfl, rfl, hE⟩ := hrel
      have Hig := Lib.hid hig
      obtain ⟨hcE, hfE⟩ := bcellE hE
      have hzr : w1.heap.size < wr.heap.size := by have := hE.size; omega
      by_cases hi : i < A.length
      · obtain ⟨g1, rfl⟩ : ∃ g1, gk = g1 + 1 := ⟨gk - 1, by omega⟩
        clear hig
        have hib : i < base.length := by have := hlE.out; omega
        obtain ⟨a1, a1off, hao, hca⟩ := HIA.out.at hi
        obtain ⟨b1, b1off, hbo, hcb⟩ := HI4.out.at hib
        subst hao hbo
        have ca := hE.cell hca
        have cb := hE.cell hcb
        have hba := World.block_lt_of_cell? _ _ ca
        have hbb := World.block_lt_of_cell? _ _ cb
        simp only at hba hbb
        have hiA : (i : Int) < A.length := by omega
        have hiB : (i : Int) < base.length := by omega
        obtain ⟨hg1, hft⟩ := hAg.out.1 i hi
        have hgs := gaps_succ base A i hi hib
        have hgl := gaps_le base A i (fun m hm => (hAg.out.1 m (by omega)).1) (by omega)
        have e1 : A.getD i 0 = A[i] := by simp [hi]
        have e2 : base.getD i 0 = base[i] := by simp [hib]
        rw [e1, e2] at hg1
        rw [e1] at hft
        have Hfit := Lib.hid hft
        unfold gap at hg1 hgs
        have Hgs := Lib.hid hgs
        have t1 : A[i] - base[i] ≤ 1 := by omega
        have t2 : base[i] - A[i] ≤ 1 := by omega
        have t3 := HT.out base[i] (List.getElem_mem hib)
        have t4 : decide (1 < A[i] - base[i]) = false := by simp; omega
        have t5 : decide (1 < base[i] - A[i]) = false := by simp; omega
        clear hft hgs hg1 e1 e2 hca hcb
        obtain ⟨gp, hgp⟩ : ∃ gp, gp = gaps base A i := ⟨_, rfl⟩
        rw [← hgp] at hgl
        rw [← hgp] at Hgs
        rw [← hgp]
        clear hgp
        rcases Int.lt_or_le (A[i] - base[i]) (base[i] - A[i]) with h | h
        · go_wp2
          go_quiet (fail)
          go_wp2
          refine wp_region_front 11 (fun opIx => match opIx with
            | 8 => .spec Unit () (fun _ => .bool true) (fun _ _ => True)
            | _ => .quiet) (fun _ => []) (by kernel_rfl) (by kernel_rfl) (fun w0 he0 hz0 hc0 hf0 => ?_)
          simp only [List.take_succ_cons, List.take_zero]
          repeat (first
            | (refine wpF_skip rfl ?_; simp only [Act.put, List.setIfInBounds_toArray, List.set_cons_succ, List.set_cons_zero])
            | (refine wpF_quiet rfl rfl rfl (fun K hK => ?_); go_big_quiet_op; refine hK _ ?_; clear hK K))
          refine wpF_spec rfl rfl (fun w1 hw1 hG => ?_) (fun _ => ?_)
          · refine spec_call [x.v, .int .i64 A[i]] rfl rfl Try.func12 (by kernel_rfl) (by kernel_rfl) ?_
            refine (refFits_any x _ _).mono ?_
            rintro e w' ⟨rfl, hb⟩
            exact ⟨(), by rw [Hfit.out], hb, trivial⟩
          simp only [Act.put, List.setIfInBounds_toArray, List.set_cons_succ, List.set_cons_zero]
          repeat (first
            | (refine wpF_skip rfl ?_; simp only [Act.put, List.setIfInBounds_toArray, List.set_cons_succ, List.set_cons_zero])
            | (refine wpF_quiet rfl rfl rfl (fun K hK => ?_); go_big_quiet_op; refine hK _ ?_; clear hK K))
          refine wpF_nil ?_
          intro w' hI
          have hx := Lib.hid ((hE.trans (Ext.drewN _ _)).trans (he0.trans hI.ext))
          clear hI he0 hz0 hc0 hf0
          simp only [List.drop_succ_cons, List.drop_nil]
          go_wp2
          go_roundg g1
          case measure => omega
          case rel =>
            refine ⟨i + 1, by have := Hig.out; omega, by go_num, ?_, hx.out⟩
            rw [Hgs.out]
            congr 1
            omega
        · go_wp2
          go_quiet (fail)
          go_wp2
          refine wp_region_front 11 (fun opIx => match opIx with
            | 8 => .spec Unit () (fun _ => .bool true) (fun _ _ => True)
            | _ => .quiet) (fun _ => []) (by kernel_rfl) (by kernel_rfl) (fun w0 he0 hz0 hc0 hf0 => ?_)
          simp only [List.take_succ_cons, List.take_zero]
          repeat (first
            | (refine wpF_skip rfl ?_; simp only [Act.put, List.setIfInBounds_toArray, List.set_cons_succ, List.set_cons_zero])
            | (refine wpF_quiet rfl rfl rfl (fun K hK => ?_); go_big_quiet_op; refine hK _ ?_; clear hK K))
          refine wpF_spec rfl rfl (fun w1 hw1 hG => ?_) (fun _ => ?_)
          · refine spec_call [x.v, .int .i64 A[i]] rfl rfl Try.func12 (by kernel_rfl) (by kernel_rfl) ?_
            refine (refFits_any x _ _).mono ?_
            rintro e w' ⟨rfl, hb⟩
            exact ⟨(), by rw [Hfit.out], hb, trivial⟩
          simp only [Act.put, List.setIfInBounds_toArray, List.set_cons_succ, List.set_cons_zero]
          repeat (first
            | (refine wpF_skip rfl ?_; simp only [Act.put, List.setIfInBounds_toArray, List.set_cons_succ, List.set_cons_zero])
            | (refine wpF_quiet rfl rfl rfl (fun K hK => ?_); go_big_quiet_op; refine hK _ ?_; clear hK K))
          refine wpF_nil ?_
          intro w' hI
          have hx := Lib.hid ((hE.trans (Ext.drewN _ _)).trans (he0.trans hI.ext))
          clear hI he0 hz0 hc0 hf0
          simp only [List.drop_succ_cons, List.drop_nil]
          go_wp2
          go_roundg g1
          case measure => omega
          case rel =>
            refine ⟨i + 1, by have := Hig.out; omega, by go_num, ?_, hx.out⟩
            rw [Hgs.out]
            congr 1
            omega
      · have hgb := hAg.out.2
        obtain rfl : i = A.length := by omega
        have hgl := gaps_le base A A.length (fun m hm => (hAg.out.1 m hm).1) (Nat.le_refl _)
        obtain ⟨gp, hgp⟩ : ∃ gp, gp = gaps base A A.length := ⟨_, rfl⟩
        rw [← hgp] at hgl hgb
        rw [← hgp]
        have hgt : decide (gp ≤ 2) = true := by simp; omega
        clear hgp
        have HR := Lib.hid hE
        clear hE hcE hfE
        go_wp2_with fail
        refine (known_any _).mono ?_
        rintro e w5 ⟨rfl, hE5⟩
        have HE5 := Lib.hid (HR.out.trans hE5)
        clear hE5
        cases b2
        · go_wp2
          go_ret
          exact ⟨rfl, HE4.out.trans HE5.out⟩
        · by_cases hjk : jj = kk
          · have hjk' : (jj == kk) = true := by simp [hjk]
            have Hjk := Lib.hid hjk
            clear hjk
            go_wp2
            go_ret
            exact ⟨rfl, HE4.out.trans HE5.out⟩
          · have hjk' : (jj == kk) = false := by simp [hjk]
            have Hjk := Lib.hid hjk
            clear hjk
            go_wp2_with fail
            refine (sameInts_any _ _ _ _ A B _ (HIA.out.ext HE5.out) (HIB.out.ext HE5.out) (by omega) (by omega)).mono ?_
            rintro e w6 ⟨rfl, hE6⟩
            rw [hfin.out (by first | rfl | trivial) (by first | rfl | trivial) Hjk.out]
            go_wp2
            go_ret
            exact ⟨rfl, (HE4.out.trans HE5.out).trans hE6⟩
end Go.Proofs.Ytjgbckcepoahkaa
