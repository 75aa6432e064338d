/- run, Candidate -/
import Derived.Test.YtjgbckcepoahkaaA4
namespace Go.Proofs.Ytjgbckcepoahkaa
open Go.RowKit Go.Front
attribute [local go_sem] XW.cell XW.frozen
theorem Try.info3 : (Try.prog.info? 3).map (fun i => (i.zero, i.size, i.bytes)) = some (some (.int .i64 0), 1, 8) := by kernel_rfl
theorem run_append_zero {P : Program} {w : World} {t ty e : TypeId} {i : TypeInfo} (ht : P.underlying t = some (.slice e)) (hi : P.info? e = some i) (s ao : Option Addr) (n cap c : Nat) (hn : n ≤ cap) :
    (Builtin.append_ #[t, t] ty #[.slice s n cap, .slice ao 0 c]).run P w = .ok (.slice s n cap) w := by
  have h0 : ∀ (a : Addr), (loadCells a 0).run P w = .ok #[] w := fun a => by simp [loadCells, loadCellsFrom]
  cases s <;> cases ao <;> simp [Builtin.append_, run_underlying ht, sizeOf, typeInfo, hi, Builtin.lenOf, Builtin.firstCells, hn, storeCells, h0]
theorem wpList_append_zero {P : Program} {w : World} {ops : Array Oper} {rest : List Oper} {o : Oper} {a : Act} {Q : Exit → Act → World → Prop} (hgd : o.guard = none) (s x : Operand) (t : TypeId)
    (ho : o.op = .call { callee := .builtin .append, args := #[s, x], argTypes := #[t, t] })
    (e : TypeId) (i : TypeInfo) (ht : P.underlying t = some (.slice e)) (hi : P.info? e = some i) (so ao : Option Addr) (n cap c : Nat) (hn : n ≤ cap)
    (hs : a.eval s = .slice so n cap) (hx : a.eval x = .slice ao 0 c)
    (h : wpList P ops Q rest (a.put o.dst (.slice so n cap)) w) : wpList P ops Q (o :: rest) a w := by
  refine wpList_plain hgd fun K hK => ?_
  have hrun := run_append_zero (P := P) (w := w) (ty := o.type) ht hi so ao n cap c hn
  unfold Oper.wp
  simp [execOp, ho, resolve, invoke, builtin, hs, hx, hrun, Result.andThen]
  exact hK _ _ h
/-- append([]int{}, base...): a copy of its own. -/
theorem wpList_append_base {P : Program} {w : World} {ops : Array Oper} {rest : List Oper} {o : Oper} {a : Act} {Q : Exit → Act → World → Prop} (hgd : o.guard = none) (s x : Operand) (t : TypeId)
    (ho : o.op = .call { callee := .builtin .append, args := #[s, x], argTypes := #[t, t] }) (i : TypeInfo)
    (ht : P.underlying t = some (.slice 3)) (hi : P.info? 3 = some i) (hz : i.zero = some (.int .i64 0)) (hsize : i.size = 1) (hby : i.bytes = 8)
    (N : Nat) (base : List Int) (bo : Option Addr) (n c : Nat) (hs : a.eval s = .slice (some ⟨N, 0, none⟩) 0 0) (hN : w.heap[N]? = some (.cells #[] 3 (0, 0))) (B0 : Nat) (hB0 : B0 ≤ N) (hx : a.eval x = .slice bo n c) (hn : base.length = n)
    (hl : IntsAt w bo base) (hlen : base.length ≤ 100000)
    (h : ∀ L lcap re w1, B0 ≤ L → LB w1 L base re → Below B0 w w1 → wpList P ops Q rest (a.put o.dst (.slice (some ⟨L, 0, none⟩) n lcap)) w1) : wpList P ops Q (o :: rest) a w := by
  subst hn
  have hNs : N < w.heap.size := (Array.getElem?_eq_some_iff.1 hN).1
  rcases hl with rfl | ⟨b, off, rfl, hc⟩
  · exact wpList_append_zero hgd s x t ho 3 i ht hi (some ⟨N, 0, none⟩) bo 0 0 c (Nat.le_refl _) hs hx (h N 0 #[] w hB0 (by unfold LB; rw [hN]; rfl) (Below.refl _ _))
  · by_cases hb : base = []
    · subst hb
      exact wpList_append_zero hgd s x t ho 3 i ht hi (some ⟨N, 0, none⟩) (some ⟨b, off, none⟩) 0 0 c (Nat.le_refl _) hs hx (h N 0 #[] w hB0 (by unfold LB; rw [hN]; rfl) (Below.refl _ _))
    · have hpos : 0 < base.length := List.length_pos_iff.2 hb
      refine wpList_append_own w hgd s x t ho B0 3 i (.int .i64 0) 1 8 ht hi hz hsize hby rfl (by decide) (.slice (some ⟨N, 0, none⟩) 0 0) 0 [] hs
        ⟨rfl, .inr ⟨N, 0, #[], rfl, hB0, hN, Nat.le_refl _, by simp [maxLen], rfl, rfl⟩⟩ ⟨b, off, none⟩ base.length c (base.map (Value.int .i64)) hx (by simp) ?_ ?_ (by simp [maxLen]; omega) (by omega) (by omega) ?_
      · intro j u hj
        have hj' : j < base.length := by
          rcases Nat.lt_or_ge j base.length with h | h
          · exact h
          · simp [h] at hj
        have := hc j hj'
        have e1 : u = .int .i64 (base.getD j 0) := by simp [hj'] at hj; simp [hj', ← hj]
        rw [e1, ← this]
        unfold Addr.add
        split
        · simp [*]
        · rfl
      · intro u hu
        simp at hu
        obtain ⟨v, _, rfl⟩ := hu
        rfl
      · intro v' w' hown hgrow _
        rcases hown.2 with ⟨rfl, hnil⟩ | ⟨g, cap, cur, rfl, hg, hgg, hle, hmx, hcs, htake⟩
        · simp [hb] at hnil
        · simp only [Nat.zero_add, List.nil_append, Nat.mul_one] at *
          refine h g cap (cur.extract base.length cur.size) w' hg ?_ (by
            refine (Below.refl _ _).grown hgrow (by omega) ?_
            intro k hk
            simp [Value.ownBlock] at hk
            omega)
          unfold LB
          rw [hgg]
          congr 2
          apply Array.ext'
          simp only [Array.toList_append, Array.toList_extract]
          have : cur.toList = cur.toList.take base.length ++ cur.toList.drop base.length := (List.take_append_drop _ _).symm
          rw [this, htake]
          simp
          rw [List.take_of_length_le (by simp)]

def RunPost (x : Wd) (k : Int) (base : List Int) (B : Nat) (w : World) (e : Ending) (w' : World) : Prop :=
  Below B w w' ∧ match (srch x k (cands base) 0).2 with
    | none => e = .returned (.tuple #[.slice none 0 0, .int .i64 0, .bool false])
    | some c => ∃ L lcap m, e = .returned (.tuple #[.slice (some ⟨L, 0, none⟩) base.length lcap, .int .i64 m, .bool true]) ∧ IntsAt w' (some ⟨L, 0, none⟩) c ∧ c.length = base.length
theorem srch_len {x : Wd} {k : Int} {n : Nat} : ∀ (R : List (List Int)) (t : Int) (c : List Int), (∀ l ∈ R, l.length = n) → (srch x k R t).2 = some c → c.length = n
  | [], _, _, _, h => by simp [srch] at h
  | r :: R, t, c, hR, h => by
    rw [srch] at h
    split at h
    · split at h
      · simp at h; subst h; exact hR _ (by simp)
      · exact srch_len R _ c (fun l hl => hR l (by simp [hl])) h
    · exact srch_len R _ c (fun l hl => hR l (by simp [hl])) h
theorem quad_mem (base : List Int) (i j : Nat) : ∀ f c, ∀ l ∈ quad base i j f c, l.length = base.length
  | 0, _, l, h => by simp [quad] at h
  | f + 1, c, l, h => by
    simp [quad] at h
    rcases h with rfl | h
    · simp [chg2]
    · exact quad_mem base i j f _ l h
theorem pairsJ_mem (base : List Int) (i : Nat) : ∀ f j, ∀ l ∈ pairsJ base i f j, l.length = base.length
  | 0, _, l, h => by simp [pairsJ] at h
  | f + 1, j, l, h => by
    simp [pairsJ] at h
    rcases h with h | h
    · exact quad_mem _ _ _ _ _ l h
    · exact pairsJ_mem base i f _ l h
theorem pairsI_mem (base : List Int) : ∀ f i, ∀ l ∈ pairsI base f i, l.length = base.length
  | 0, _, l, h => by simp [pairsI] at h
  | f + 1, i, l, h => by
    simp [pairsI] at h
    rcases h with h | h
    · exact pairsJ_mem _ _ _ _ l h
    · exact pairsI_mem base f _ l h
theorem singles_mem (base : List Int) : ∀ f i, ∀ l ∈ singles base f i, l.length = base.length
  | 0, _, l, h => by simp [singles] at h
  | f + 1, i, l, h => by
    simp [singles] at h
    rcases h with rfl | rfl | h
    · simp [chg]
    · simp [chg]
    · exact singles_mem base f _ l h
theorem cands_mem (base : List Int) : ∀ l ∈ cands base, l.length = base.length := by
  intro l h
  simp [cands] at h
  rcases h with rfl | h | h
  · rfl
  · exact singles_mem _ _ _ l h
  · exact pairsI_mem _ _ _ l h
theorem chg_eq1 (base : List Int) (i : Nat) (hi : i < base.length) : base.set i (wrap64 (base[i] + 1)) = chg base i 1 := by simp [chg, hi]
theorem chg_eq2 (base : List Int) (i : Nat) (hi : i < base.length) : (chg base i 1).set i (wrap64 (base[i] - 1)) = chg base i (-1) := by simp [chg, hi, Int.sub_eq_add_neg]
theorem chg_eq3 (base : List Int) (i : Nat) (hi : i < base.length) : (chg base i (-1)).set i base[i] = base := by simp [chg]
theorem chg_len (base : List Int) (i : Nat) (d : Int) : (chg base i d).length = base.length := by simp [chg]
section
variable {x : Wd} {most k : Int} {B Kb L lcap : Nat} {rest : Array Value} {base : List Int} {w w1 w' : World}
theorem run_yes {t : Int} {c : List Int} (F : Fnd x most k B Kb L rest (cands base) 0 w1 w' t c) (hbel : Below B w w1) (hBL : B ≤ L) (hBw : B < w1.heap.size) (n : Int) {w2 : World} (h2 : Ext w' w2) :
    RunPost x k base B w (.returned (.tuple #[.slice (some ⟨L, 0, none⟩) base.length lcap, .int .i64 n, .bool true])) w2 := by
  have hB' : B < w'.heap.size := (Array.getElem?_eq_some_iff.1 F.sb).1
  refine ⟨(hbel.trans (F.mods.below (by omega) (fun b hb => by rcases hb with rfl | rfl <;> omega))).trans (Below.mono h2 (by omega)), ?_⟩
  rw [F.eq]
  exact ⟨L, lcap, n, rfl, F.lb.ints.ext h2, srch_len _ _ _ (cands_mem base) (by rw [F.eq])⟩
theorem run_no {t : Int} {ls : List Int} (S : St x most k B Kb L rest (cands base) 0 w1 w' [] t ls) (hbel : Below B w w1) (hBL : B ≤ L) (hBw : B < w1.heap.size) :
    RunPost x k base B w (.returned (.tuple #[.slice none 0 0, .int .i64 0, .bool false])) w' := by
  refine ⟨hbel.trans (S.mods.below (by omega) (fun b hb => by rcases hb with rfl | rfl <;> omega)), ?_⟩
  rw [S.eq]
  rfl
end
theorem sb_cells {x : Wd} {most t : Int} {B Kb : Nat} {fd : Bool} {w : World} (h : SB w B Kb x most t fd) : w.cell? ⟨B, 6, none⟩ = some (.int .i64 t) ∧ w.cell? ⟨B, 7, none⟩ = some (.bool fd) := ⟨blk_cell h 6, blk_cell h 7⟩
set_option maxHeartbeats 2000000 in
theorem run_any (x : Wd) (most k : Int) (B Kb : Nat) (bcap : Nat) (bo : Option Addr) (base : List Int) (w : World)
    (hB : SB w B Kb x most 0 false) (hKB : Kb ≠ B)
    (hK : w.cell? ⟨Kb, 0, none⟩ = some (.int .i64 k)) (hl : IntsAt w bo base) (hbo : base ≠ [] → ∀ p, bo = some p → p.block ≠ B ∧ p.block < w.heap.size) (hlen : base.length ≤ 49) (hm : 100000 < most) :
    Calls Try.prog 15 #[.pointer (some ⟨B, 0, none⟩), .slice bo base.length bcap] w (RunPost x k base B w) := by
  obtain ⟨i0, hi0, hz0, hz1, hz2⟩ := info_parts Try.info3
  have HB := Lib.hid hB
  have HK := Lib.hid hK
  have HL := Lib.hid hl
  have Hbo := Lib.hid hbo
  have hKB' := Lib.hid hKB
  clear hB hK hl hbo hKB
  go_enter Try.func15, Try.ntmps15
  go_wp2_with (first
    | (at_builtin; refine wpList_append_base rfl (.tmp 10) (.tmp 11) 22 rfl i0 Try.underlying22 hi0 hz0 hz1 hz2 w.heap.size base bo base.length bcap rfl (heap_alloc_new w _) w.heap.size (Nat.le_refl _) rfl rfl (HL.out.ext (Ext.alloc _ _)) (by omega) ?_; intro L lcap re w1 hL1 hL2 hL3)
    | fail)
  have hE1 : Ext w w1 := ((Below.refl _ _).alloc (Nat.le_refl _) _).trans hL3
  have hBs : B < w.heap.size := (Array.getElem?_eq_some_iff.1 HB.out).1
  have hBL : B ≠ L := by omega
  have hKs : Kb < w.heap.size := by
    rcases Nat.lt_or_ge Kb w.heap.size with h | h
    · exact h
    · have := HK.out; simp [World.cell?, Array.getElem?_eq_none h] at this
  have hKL : Kb ≠ L := by omega
  have S0 : St x most k B Kb L re (cands base) 0 w1 w1 (cands base) 0 base := ⟨Mods.refl _ _, hE1.block HB.out, hL2, rfl, Int.le_refl _, Int.le_refl _⟩
  have hcnt : (cands base).length ≤ 10000 := by
    have := pairs_bd hlen
    simp only [cands, List.length_cons, List.length_append, singles_len]; omega
  have hK1 := Lib.hid (hE1.cell HK.out)
  have hbs : ∀ i (hi : i < base.length), ∃ bb boff, bo = some ⟨bb, boff, none⟩ ∧ bb ≠ B ∧ bb ≠ L ∧ w1.cell? ⟨bb, boff + i, none⟩ = some (.int .i64 base[i]) := by
    intro i hi
    obtain ⟨bb, boff, h1, h2⟩ := HL.out.at hi
    obtain ⟨h3, h4⟩ := Hbo.out (fun h => by rw [h] at hi; simp at hi) _ h1
    simp only at h3 h4
    refine ⟨bb, boff, h1, h3, by omega, ?_⟩
    have := hE1.cell h2
    simpa [hi] using this
  have Hbs := Lib.hid hbs
  have HS0 := Lib.hid S0
  have HE1 := Lib.hid hE1
  have hBL' := Lib.hid hBL
  have hKL' := Lib.hid hKL
  have hB1 : B < w1.heap.size := by have := hE1.size; omega
  have hBle : B ≤ L := by omega
  have Hbel := Lib.hid (Below.mono hE1 (show B ≤ w.heap.size by omega))
  clear hbs S0 hE1 hBL hKL hL3 hL2 HL HB HK hKs
  have mm : Mods (fun b => b = B ∨ b = L) w1 w1 := Mods.refl _ _
  have hmm := Lib.hid mm
  clear mm
  cases hb : (fitsAll x base && (0 : Int) == k) with
  | true =>
    have hb' := Lib.hid hb
    clear hb
    refine (try_is true x most k 0 false B Kb _ _ _ base _ hb'.out rfl HS0.out.sb hK1.out HS0.out.lb.ints (by omega) (by omega) (by omega) (by omega)).mono ?_
    rintro e w2 ⟨rfl, T⟩
    have F := HS0.out.fnd hBL'.out hmm.out HS0.out.lb T hb'.out
    obtain ⟨c6, c7⟩ := sb_cells F.sb
    have HF := Lib.hid F
    clear F T
    go_wp2
    go_loopg [8, 9] 0 (fun g e i wr => e = .bool true ∧ i = .int .i64 0 ∧ wr = w2)
    case atStart => exact ⟨rfl, rfl, rfl⟩
    case round =>
      obtain ⟨rfl, rfl, rfl⟩ := hrel
      go_wp2
      all_goals
        go_quiet (fail)
        go_wp2
        go_ret3
        exact run_yes HF.out Hbel.out hBle hB1 _ (Ext.drewN _ _)
  | false =>
    have hb' := Lib.hid hb
    clear hb
    refine (try_is false x most k 0 false B Kb _ _ _ base _ hb'.out rfl HS0.out.sb hK1.out HS0.out.lb.ints (by omega) (by omega) (by omega) (by omega)).mono ?_
    rintro e w2 ⟨rfl, T⟩
    have S1 := HS0.out.next hBL'.out hmm.out HS0.out.lb T hb'.out
    have HS1 := Lib.hid S1
    clear S1 T
    go_wp2
    go_loopg [8, 9] base.length (fun g e i wr => ∃ (ii : Nat) (t : Int), ii + g = base.length ∧ e = .bool false ∧ i = .int .i64 ii ∧ St x most k B Kb L re (cands base) 0 w1 wr (singles base g ii ++ pairsI base base.length 0) t base)
    case atStart => exact ⟨0, _, by omega, rfl, rfl, HS1.out⟩
    case round =>
      obtain ⟨i, t, hig, rfl, rfl, S⟩ := hrel
      have hlo := S.lo
      have hhi : t < 20000 := by have := S.hi; omega
      by_cases hi : i < base.length
      · obtain ⟨g1, rfl⟩ : ∃ g1, gk = g1 + 1 := ⟨gk - 1, by omega⟩
        obtain ⟨bb, boff, hbo, hbB, hbL, hcell⟩ := Hbs.out i hi
        subst hbo
        have hbi := S.keyCell hbB hbL hcell
        have hli := S.lb.cell (k := i) hi
        have hfi := blk_frozen S.lb i
        have HE := Lib.hid hig
        have HbB := Lib.hid hbB
        have HC := Lib.hid hcell
        have hS2 := S.store hBL'.out hi (wrap64 (base[i] + 1))
        rw [chg_eq1 base i hi] at hS2
        have hK2 := Lib.hid (hS2.keyCell (p := ⟨Kb, 0, none⟩) hKB'.out hKL'.out hK1.out)
        have HSa := Lib.hid S
        have HS2 := Lib.hid hS2
        clear S hS2 hig hbB hcell
        have hm2 := Lib.hid ((Mods.setCell wr ⟨L, i, none⟩ (.int .i64 (wrap64 (base[i] + 1)))).mono (S' := fun b => b = B ∨ b = L) fun _ h => Or.inr h)
        have hlc := Lib.hid (chg_len base i 1)
        cases hb : (fitsAll x (chg base i 1) && t == k) with
        | true =>
          have hb' := Lib.hid hb
          clear hb
          go_wp2_with fail
          refine (try_is true x most k t false B Kb _ _ _ (chg base i 1) _ hb'.out hlc.out HS2.out.sb hK2.out HS2.out.lb.ints (by rw [hlc.out]; omega) hlo (by omega) (by omega)).mono ?_
          rintro e w3 ⟨rfl, T⟩
          have F := HSa.out.fnd hBL'.out hm2.out HS2.out.lb T hb'.out
          obtain ⟨c6, c7⟩ := sb_cells F.sb
          have HF := Lib.hid F
          clear F T
          go_wp2
          go_quiet (fail)
          go_wp2
          go_ret3
          exact run_yes HF.out Hbel.out hBle hB1 _ (Ext.drewN _ _)
        | false =>
          have hb' := Lib.hid hb
          clear hb
          go_wp2_with fail
          refine (try_is false x most k t false B Kb _ _ _ (chg base i 1) _ hb'.out hlc.out HS2.out.sb hK2.out HS2.out.lb.ints (by rw [hlc.out]; omega) hlo (by omega) (by omega)).mono ?_
          rintro e w3 ⟨rfl, T⟩
          have S3 := HSa.out.next hBL'.out hm2.out HS2.out.lb T hb'.out
          have hnb := nxt_bd x (chg base i 1) t
          obtain ⟨t3, ht3⟩ : ∃ t3, t3 = nxt x (chg base i 1) t := ⟨_, rfl⟩
          rw [← ht3] at S3 hnb
          clear ht3
          have hbi3 := S3.keyCell HbB.out hbL HC.out
          have hli3 := S3.lb.cell (k := i) (by rw [hlc.out]; exact hi)
          have hfi3 := blk_frozen S3.lb i
          obtain ⟨q3, hq3⟩ : ∃ q, q = (chg base i 1).getD i 0 := ⟨_, rfl⟩
          rw [← hq3] at hli3
          clear hq3
          have hS4 := S3.store hBL'.out (i := i) (by rw [hlc.out]; exact hi) (wrap64 (base[i] - 1))
          rw [chg_eq2 base i hi] at hS4
          have hK4 := Lib.hid (hS4.keyCell (p := ⟨Kb, 0, none⟩) hKB'.out hKL'.out hK1.out)
          have HS3 := Lib.hid S3
          have HS4 := Lib.hid hS4
          have hm4 := Lib.hid ((Mods.setCell w3 ⟨L, i, none⟩ (.int .i64 (wrap64 (base[i] - 1)))).mono (S' := fun b => b = B ∨ b = L) fun _ h => Or.inr h)
          have hlc4 := Lib.hid (chg_len base i (-1))
          clear S3 hS4 T hbi hli hfi
          cases hb : (fitsAll x (chg base i (-1)) && t3 == k) with
          | true =>
            have hb2 := Lib.hid hb
            clear hb
            go_wp2_with fail
            refine (try_is true x most k t3 false B Kb _ _ _ (chg base i (-1)) _ hb2.out hlc4.out HS4.out.sb hK4.out HS4.out.lb.ints (by rw [hlc4.out]; omega) (by omega) (by omega) (by omega)).mono ?_
            rintro e w5 ⟨rfl, T⟩
            have F := HS3.out.fnd hBL'.out hm4.out HS4.out.lb T hb2.out
            obtain ⟨c6, c7⟩ := sb_cells F.sb
            have HF := Lib.hid F
            clear F T
            go_wp2
            go_quiet (fail)
            go_wp2
            go_ret3
            exact run_yes HF.out Hbel.out hBle hB1 _ (Ext.drewN _ _)
          | false =>
            have hb2 := Lib.hid hb
            clear hb
            go_wp2_with fail
            refine (try_is false x most k t3 false B Kb _ _ _ (chg base i (-1)) _ hb2.out hlc4.out HS4.out.sb hK4.out HS4.out.lb.ints (by rw [hlc4.out]; omega) (by omega) (by omega) (by omega)).mono ?_
            rintro e w5 ⟨rfl, T⟩
            have S5 := HS3.out.next hBL'.out hm4.out HS4.out.lb T hb2.out
            have hbi5 := S5.keyCell HbB.out hbL HC.out
            have hli5 := S5.lb.cell (k := i) (by rw [hlc4.out]; exact hi)
            have hfi5 := blk_frozen S5.lb i
            obtain ⟨q5, hq5⟩ : ∃ q, q = (chg base i (-1)).getD i 0 := ⟨_, rfl⟩
            rw [← hq5] at hli5
            clear hq5
            have HS5 := Lib.hid S5
            clear S5 T hbi3 hli3 hfi3
            go_wp2
            go_roundg g1
            case measure => omega
            case rel =>
              have h6 := HS5.out.store hBL'.out (i := i) (by rw [hlc4.out]; exact hi) base[i]
              rw [chg_eq3 base i hi] at h6
              exact ⟨i + 1, _, by have := HE.out; omega, rfl, by go_num, h6⟩
      · obtain rfl : gk = 0 := by omega
        have hi' : i = base.length := by omega
        have HSa := Lib.hid S
        have HKa := Lib.hid (S.keyCell (p := ⟨Kb, 0, none⟩) hKB'.out hKL'.out hK1.out)
        have HLa : Hid (IntsAt wr bo base) := by
          rcases Nat.eq_zero_or_pos base.length with h | h
          · exact Or.inl (List.length_eq_zero_iff.1 h)
          · obtain ⟨bb, boff, h1, h2, h3, h4⟩ := Hbs.out 0 h
            refine Or.inr ⟨bb, boff, h1, fun k hk => ?_⟩
            obtain ⟨bb', boff', g1, g2, g3, g4⟩ := Hbs.out k hk
            obtain ⟨rfl, rfl⟩ : bb = bb' ∧ boff = boff' := by simpa [h1] using g1
            have := S.keyCell g2 g3 g4
            simpa [hk] using this
        have hbo' : Hid (base ≠ [] → ∀ p, bo = some p → p.block ≠ B ∧ p.block ≠ L) := fun hne p hp => by
          have := Hbo.out hne p hp
          exact ⟨this.1, by omega⟩
        have ht1 : t < 1000 := by
          have h1 := S.hi
          have h2 := S.eq
          simp only [singles, List.nil_append] at h1
          have h3 : (cands base).length = 1 + 2 * base.length + (pairsI base base.length 0).length := by
            simp only [cands, List.length_cons, List.length_append, singles_len]; omega
          rw [h3] at h1
          omega
        clear S hig hi'
        go_wp2_with fail
        refine (pairs_any x most k t B Kb L _ _ re bo base wr HSa.out.sb HSa.out.lb hBL'.out hKB'.out hKL'.out HKa.out HLa.out hbo'.out hlen hlo ht1 hm).mono ?_
        rintro e w6 PP
        obtain rfl := PP.1
        rcases HSa.out.pairs PP with ⟨t', c, F⟩ | ⟨t', ls', S'⟩
        · obtain ⟨c6, c7⟩ := sb_cells F.sb
          have HF := Lib.hid F
          clear F PP
          go_wp2
          go_quiet (fail)
          go_wp2
          go_ret3
          exact run_yes HF.out Hbel.out hBle hB1 _ (Ext.drewN _ _)
        · obtain ⟨c6, c7⟩ := sb_cells S'.sb
          have HS' := Lib.hid S'
          clear S' PP
          go_wp2
          go_ret3
          exact run_no HS'.out Hbel.out hBle hB1
end Go.Proofs.Ytjgbckcepoahkaa
