/- pairs -/
import Derived.Test.YtjgbckcepoahkaaL1
namespace Go.Proofs.Ytjgbckcepoahkaa
open Go.RowKit Go.Front
attribute [local go_sem] XW.cell XW.frozen
/-- The state between two lists. -/
structure St (x : Wd) (most k : Int) (B Kb L : Nat) (rest : Array Value) (R0 : List (List Int)) (t0 : Int) (w wr : World) (R : List (List Int)) (t : Int) (ls : List Int) : Prop where
  mods : Mods (fun b => b = B ∨ b = L) w wr
  sb : SB wr B Kb x most t false
  lb : LB wr L ls rest
  eq : srch x k R0 t0 = srch x k R t
  lo : 0 ≤ t
  hi : t + R.length ≤ t0 + R0.length
def PairsPost (x : Wd) (most k : Int) (B Kb L : Nat) (rest : Array Value) (R0 : List (List Int)) (t0 : Int) (w : World) (e : Ending) (w' : World) : Prop :=
  e = .returned (.tuple #[]) ∧ Mods (fun b => b = B ∨ b = L) w w' ∧ ∃ t' fd' ls', SB w' B Kb x most t' fd' ∧ LB w' L ls' rest ∧ Out (srch x k R0 t0) t' fd' ls'
theorem srch_ge {x : Wd} {k : Int} : ∀ (R : List (List Int)) (t : Int), t ≤ (srch x k R t).1
  | [], t => Int.le_refl _
  | c :: R, t => by
    rw [srch]
    split
    · split
      · show t ≤ t + 1; omega
      · have := srch_ge (x := x) (k := k) R (t + 1); omega
    · exact srch_ge R t
theorem srch_le (x : Wd) (k : Int) : ∀ (R : List (List Int)) (t : Int), (srch x k R t).1 ≤ t + R.length
  | [], t => by simp [srch]
  | c :: R, t => by
    rw [srch]
    split
    · split
      · show t + 1 ≤ _; simp; omega
      · have := srch_le x k R (t + 1); simp; omega
    · have := srch_le x k R t; simp; omega
def TryW (x : Wd) (most k t : Int) (fd : Bool) (B Kb : Nat) (xs : List Int) (w w' : World) : Prop :=
  Mods (· = B) w w' ∧ SB w' B Kb x most (if fitsAll x xs then t + 1 else t) (if fitsAll x xs then t == k else fd)
theorem try_is (b : Bool) (x : Wd) (most k t : Int) (fd : Bool) (B Kb : Nat) (ao : Option Addr) (n cap : Nat) (xs : List Int) (w : World) (hb : (fitsAll x xs && t == k) = b) (hn : xs.length = n)
    (hB : SB w B Kb x most t fd) (hK : w.cell? ⟨Kb, 0, none⟩ = some (.int .i64 k)) (hl : IntsAt w ao xs) (hlen : xs.length ≤ 100) (ht : 0 ≤ t) (ht2 : t < 1000000) (hm : t < most) :
    Calls Try.prog 24 #[.pointer (some ⟨B, 0, none⟩), .slice ao n cap] w (fun e w' => e = .returned (.bool b) ∧ TryW x most k t fd B Kb xs w w') := by
  subst hn
  exact (try_any x most k t fd B Kb ao cap xs w hB hK hl hlen ht ht2 hm).mono (fun e w' h => ⟨by rw [h.1, hb], h.2⟩)
section
variable {x : Wd} {most k : Int} {B Kb L : Nat} {rest : Array Value} {R0 R : List (List Int)} {t0 t : Int} {w wr W2 w' : World} {ls c : List Int}
theorem St.next (S : St x most k B Kb L rest R0 t0 w wr (c :: R) t ls) (hBL : B ≠ L) (m2 : Mods (fun b => b = B ∨ b = L) wr W2) (l2 : LB W2 L c rest) (T : TryW x most k t false B Kb c W2 w')
    (hno : (fitsAll x c && t == k) = false) : St x most k B Kb L rest R0 t0 w w' R (nxt x c t) c := by
  obtain ⟨T1, T2⟩ := T
  have e : (if fitsAll x c then t == k else false) = false := by
    cases hf : fitsAll x c <;> simp [hf] at hno ⊢; exact hno
  rw [e] at T2
  have hb := nxt_bd x c t
  have hl := S.lo
  have hh := S.hi
  refine ⟨(S.mods.trans m2).trans (T1.mono fun b hb => Or.inl hb), T2, T1.blk (fun h => hBL h.symm) l2, by rw [S.eq, srch_next hno], by omega, ?_⟩
  simp only [List.length_cons] at hh
  omega
structure Fnd (x : Wd) (most k : Int) (B Kb L : Nat) (rest : Array Value) (R0 : List (List Int)) (t0 : Int) (w w' : World) (t : Int) (c : List Int) : Prop where
  mods : Mods (fun b => b = B ∨ b = L) w w'
  sb : SB w' B Kb x most t true
  lb : LB w' L c rest
  eq : srch x k R0 t0 = (t, some c)
theorem St.fnd (S : St x most k B Kb L rest R0 t0 w wr (c :: R) t ls) (hBL : B ≠ L) (m2 : Mods (fun b => b = B ∨ b = L) wr W2) (l2 : LB W2 L c rest) (T : TryW x most k t false B Kb c W2 w')
    (hyes : (fitsAll x c && t == k) = true) : Fnd x most k B Kb L rest R0 t0 w w' (t + 1) c := by
  obtain ⟨T1, T2⟩ := T
  have hf : fitsAll x c = true := by simp at hyes; exact hyes.1
  have ht : (t == k) = true := by simp at hyes; simp [hyes.2]
  rw [hf, if_pos rfl, if_pos rfl, ht] at T2
  exact ⟨(S.mods.trans m2).trans (T1.mono fun b hb => Or.inl hb), T2, T1.blk (fun h => hBL h.symm) l2, by rw [S.eq, srch_yes hf ht]⟩
theorem Fnd.post (h : Fnd x most k B Kb L rest R0 t0 w w' t c) : PairsPost x most k B Kb L rest R0 t0 w (.returned (.tuple #[])) w' := by
  refine ⟨rfl, h.mods, t, true, c, h.sb, h.lb, ?_⟩
  rw [h.eq]
  exact ⟨rfl, rfl, rfl⟩
theorem St.found (S : St x most k B Kb L rest R0 t0 w wr (c :: R) t ls) (hBL : B ≠ L) (m2 : Mods (fun b => b = B ∨ b = L) wr W2) (l2 : LB W2 L c rest) (T : TryW x most k t false B Kb c W2 w')
    (hyes : (fitsAll x c && t == k) = true) : PairsPost x most k B Kb L rest R0 t0 w (.returned (.tuple #[])) w' := (S.fnd hBL m2 l2 T hyes).post
/-- The pairs, from a state on: found, or gone through. -/
theorem St.pairs (S : St x most k B Kb L rest R0 t0 w wr R t ls) (P : PairsPost x most k B Kb L rest R t wr (.returned (.tuple #[])) w') :
    (∃ t' c, Fnd x most k B Kb L rest R0 t0 w w' t' c) ∨ (∃ t' ls', St x most k B Kb L rest R0 t0 w w' [] t' ls') := by
  obtain ⟨_, hm, t', fd', ls', hs, hl, h1, h2⟩ := P
  cases hr : (srch x k R t).2 with
  | none =>
    simp only [hr] at h2
    subst h2
    right
    refine ⟨t', ls', S.mods.trans hm, hs, hl, ?_, ?_, ?_⟩
    · rw [S.eq, h1, srch]; exact Prod.ext rfl hr
    · rw [h1]; exact Int.le_trans S.lo (srch_ge R t)
    · have := srch_le x k R t; have := S.hi; rw [h1]; simp; omega
  | some c =>
    simp only [hr] at h2
    obtain ⟨rfl, rfl⟩ := h2
    left
    exact ⟨t', _, S.mods.trans hm, hs, hl, by rw [S.eq, h1]; exact Prod.ext rfl hr⟩
theorem St.over (S : St x most k B Kb L rest R0 t0 w wr [] t ls) : PairsPost x most k B Kb L rest R0 t0 w (.returned (.tuple #[])) wr := by
  refine ⟨rfl, S.mods, t, false, ls, S.sb, S.lb, ?_⟩
  rw [S.eq]
  exact ⟨rfl, rfl⟩
theorem St.store (S : St x most k B Kb L rest R0 t0 w wr R t ls) (hBL : B ≠ L) {i : Nat} (hi : i < ls.length) (n : Int) : St x most k B Kb L rest R0 t0 w (wr.setCell ⟨L, i, none⟩ (.int .i64 n)) R t (ls.set i n) := by
  refine ⟨S.mods.trans ((Mods.setCell _ ⟨L, i, .none⟩ _).mono fun b hb => Or.inr hb), (Mods.setCell wr ⟨L, i, .none⟩ _).blk hBL S.sb, S.lb.set hi n, S.eq, S.lo, S.hi⟩
theorem St.keyCell (S : St x most k B Kb L rest R0 t0 w wr R t ls) {p : Addr} {v : Value} (h1 : p.block ≠ B) (h2 : p.block ≠ L) (h : w.cell? p = some v) : wr.cell? p = some v :=
  S.mods.cell (fun h => h.elim h1 h2) h
end
theorem Mods.set2 {B : Nat} (w : World) (L i j : Nat) (u v : Value) : Mods (fun b => b = B ∨ b = L) w ((w.setCell ⟨L, i, none⟩ u).setCell ⟨L, j, none⟩ v) :=
  ((Mods.setCell w ⟨L, i, none⟩ u).mono fun _ h => Or.inr h).trans ((Mods.setCell _ ⟨L, j, none⟩ v).mono fun _ h => Or.inr h)
theorem chg2_eq (base : List Int) (i j c : Nat) (u v : Int) (hi : i < base.length) (hj : j < base.length) (hij : i ≠ j) :
    (((base.set i u).set j v).set i (wrap64 (wrap64 (base[i] + 1) - 2 * ((c : Int) / 2)))).set j (wrap64 (wrap64 (base[j] + 1) - 2 * ((c : Int) % 2))) = chg2 base i j c := by
  unfold chg2
  rw [List.set_comm _ _ hij, List.set_set, List.set_comm _ _ (Ne.symm hij), List.set_set]
  simp [hi, hj]
set_option maxHeartbeats 2000000 in
theorem pairs_any (x : Wd) (most k t0 : Int) (B Kb L : Nat) (lcap bcap : Nat) (rest : Array Value) (bo : Option Addr) (base : List Int) (w : World)
    (hB : SB w B Kb x most t0 false) (hL : LB w L base rest) (hBL : B ≠ L) (hKB : Kb ≠ B) (hKL : Kb ≠ L)
    (hK : w.cell? ⟨Kb, 0, none⟩ = some (.int .i64 k)) (hl : IntsAt w bo base) (hbo : base ≠ [] → ∀ p, bo = some p → p.block ≠ B ∧ p.block ≠ L) (hlen : base.length ≤ 49) (ht : 0 ≤ t0) (ht2 : t0 < 1000) (hm : 100000 < most) :
    Calls Try.prog 25 #[.pointer (some ⟨B, 0, none⟩), .slice (some ⟨L, 0, none⟩) base.length lcap, .slice bo base.length bcap] w (PairsPost x most k B Kb L rest (pairsI base base.length 0) t0 w) := by
  have hcnt := pairs_bd hlen
  have S0 : St x most k B Kb L rest (pairsI base base.length 0) t0 w w (pairsI base base.length 0) t0 base := ⟨Mods.refl _ _, hB, hL, rfl, ht, Int.le_refl _⟩
  have HS0 := Lib.hid S0
  have HK := Lib.hid hK
  have HL := Lib.hid hl
  have Hbo := Lib.hid hbo
  have hBL' := Lib.hid hBL
  have hKB' := Lib.hid hKB
  have hKL' := Lib.hid hKL
  clear S0 hK hl hbo hB hL hBL hKB hKL
  go_enter Try.func25, Try.ntmps25
  go_wp2
  go_step3
  go_wp2
  go_step3
  go_wp2
  go_loopg [11] base.length (fun g i wr => ∃ (ii : Nat) (t : Int), ii + g = base.length ∧ i = .int .i64 ii ∧ St x most k B Kb L rest (pairsI base base.length 0) t0 w wr (pairsI base g ii) t base)
  case atStart => exact ⟨0, t0, by omega, rfl, HS0.out⟩
  case round =>
    obtain ⟨i, t, hig, rfl, S⟩ := hrel
    by_cases hi : i < base.length
    · obtain ⟨g1, rfl⟩ : ∃ g1, gk = g1 + 1 := ⟨gk - 1, by omega⟩
      obtain ⟨bb, boff, hbo, hbi⟩ := HL.out.at hi
      subst hbo
      obtain ⟨hbB, hbL⟩ := Hbo.out (fun h => by rw [h] at hi; simp at hi) _ rfl
      simp only at hbB hbL
      have HSt := Lib.hid S
      have HE := Lib.hid hig
      have HbB := Lib.hid hbB
      clear S hig hbi hbB
      go_wp2
      go_loopg [7] (base.length - (i + 1)) (fun g j wr => ∃ (jj : Nat) (t : Int) (u : Int), jj + g = base.length ∧ j = .int .i64 jj ∧ i < jj ∧ St x most k B Kb L rest (pairsI base base.length 0) t0 w wr (pairsJ base i g jj ++ pairsI base g1 (i + 1)) t (base.set i u))
      case atStart =>
        refine ⟨i + 1, t, base.getD i 0, by omega, by go_num, by omega, ?_⟩
        have : base.set i (base.getD i 0) = base := by simp [hi]
        rw [this]
        exact HSt.out
      case round =>
        obtain ⟨j, t, u, hjg, rfl, hij, S⟩ := hrel
        by_cases hj : j < base.length
        · obtain ⟨g2, rfl⟩ : ∃ g2, gk = g2 + 1 := ⟨gk - 1, by omega⟩
          have HSt := Lib.hid S
          have HE2 := Lib.hid hjg
          clear S hjg
          go_wp2
          go_loopg [22] 4 (fun g c wr => ∃ (cc : Nat) (t : Int) (u v : Int), cc + g = 4 ∧ c = .int .i64 cc ∧ St x most k B Kb L rest (pairsI base base.length 0) t0 w wr (quad base i j g cc ++ (pairsJ base i g2 (j + 1) ++ pairsI base g1 (i + 1))) t ((base.set i u).set j v))
          case atStart =>
            refine ⟨0, t, u, base.getD j 0, rfl, rfl, ?_⟩
            have : (base.set i u).set j (base.getD j 0) = base.set i u := by
              rw [List.set_comm _ _ (by omega)]
              have : base.set j (base.getD j 0) = base := by simp [hj]
              rw [this]
            rw [this]
            have e : pairsJ base i (g2 + 1) j ++ pairsI base g1 (i + 1) = quad base i j 4 0 ++ (pairsJ base i g2 (j + 1) ++ pairsI base g1 (i + 1)) := by rw [pairsJ, List.append_assoc]
            rw [← e]
            exact HSt.out
          case round =>
            obtain ⟨c, t, u, v, hcg, rfl, S⟩ := hrel
            have hbi : wr.cell? ⟨bb, boff + i, none⟩ = some (.int .i64 (base.getD i 0)) := by
              rcases HL.out with h | ⟨b, off, h1, h2⟩
              · rw [h] at hi; simp at hi
              · obtain ⟨rfl, rfl⟩ : bb = b ∧ boff = off := by simpa using h1
                exact S.keyCell HbB.out hbL (h2 i hi)
            have hbj : wr.cell? ⟨bb, boff + j, none⟩ = some (.int .i64 (base.getD j 0)) := by
              rcases HL.out with h | ⟨b, off, h1, h2⟩
              · rw [h] at hi; simp at hi
              · obtain ⟨rfl, rfl⟩ : bb = b ∧ boff = off := by simpa using h1
                exact S.keyCell HbB.out hbL (h2 j hj)
            have hln : ((base.set i u).set j v).length = base.length := by simp
            have hli := S.lb.cell (k := i) (by omega)
            have hlj := S.lb.cell (k := j) (by omega)
            have hfi := blk_frozen S.lb i
            have hfj := blk_frozen S.lb j
            by_cases hc : c < 4
            · obtain ⟨g3, rfl⟩ : ∃ g3, gk = g3 + 1 := ⟨gk - 1, by omega⟩
              have hst := Lib.hid S
              have hcg' := Lib.hid hcg
              clear S hln hcg
              obtain ⟨q1, hq1⟩ : ∃ q, q = (((base.set i u).set j v).getD i 0) := ⟨_, rfl⟩
              obtain ⟨q2, hq2⟩ : ∃ q, q = (((base.set i u).set j v).getD j 0) := ⟨_, rfl⟩
              rw [← hq1] at hli
              rw [← hq2] at hlj
              clear hq1 hq2
              have hyes := Lib.hid (chg2_eq base i j c u v hi hj (by omega))
              have hS2 := Lib.hid ((hst.out.store hBL'.out (i := i) (by simp; omega) (wrap64 (wrap64 (base[i] + 1) - 2 * ((c : Int) / 2)))).store hBL'.out (i := j) (by simp; omega) (wrap64 (wrap64 (base[j] + 1) - 2 * ((c : Int) % 2))))
              have hK2 := Lib.hid (hS2.out.keyCell (p := ⟨Kb, 0, none⟩) hKB'.out hKL'.out HK.out)
              rw [hyes.out] at hS2
              have hlo := hst.out.lo
              have hhi := hst.out.hi
              have hhi' : t < 20000 := by simp only [List.length_append, quad_len] at hhi; omega
              clear hhi
              have hlc : (chg2 base i j c).length = base.length := by simp [chg2]
              have hlc' := Lib.hid hlc
              clear hlc
              cases hb : (fitsAll x (chg2 base i j c) && t == k) with
              | false =>
                have hb' := Lib.hid hb
                clear hb
                go_wp2_with (go_at_call 24; refine (try_is false x most k t false B Kb _ _ _ (chg2 base i j c) _ hb'.out hlc'.out hS2.out.sb hK2.out hS2.out.lb.ints (by rw [hlc'.out]; omega) hlo (by omega) (by omega)).mono ?_; rintro e w1 ⟨rfl, T⟩)
                go_roundg g3
                case measure => omega
                case rel =>
                  refine ⟨c + 1, nxt x (chg2 base i j c) t, _, _, by have := hcg'.out; omega, by go_num, hst.out.next hBL'.out (Mods.set2 wr L i j _ _) hS2.out.lb T hb'.out⟩
              | true =>
                have hb' := Lib.hid hb
                clear hb
                go_wp2_with (go_at_call 24; refine (try_is true x most k t false B Kb _ _ _ (chg2 base i j c) _ hb'.out hlc'.out hS2.out.sb hK2.out hS2.out.lb.ints (by rw [hlc'.out]; omega) hlo (by omega) (by omega)).mono ?_; rintro e w1 ⟨rfl, T⟩)
                try rw [Exit.noGoto_ret]
                go_end0
                exact hst.out.found hBL'.out (Mods.set2 wr L i j _ _) hS2.out.lb T hb'.out
            · obtain rfl : gk = 0 := by omega
              have hst := Lib.hid S
              clear S hln hcg
              obtain ⟨q1, hq1⟩ : ∃ q, q = (((base.set i u).set j v).getD i 0) := ⟨_, rfl⟩
              obtain ⟨q2, hq2⟩ : ∃ q, q = (((base.set i u).set j v).getD j 0) := ⟨_, rfl⟩
              rw [← hq1] at hli
              rw [← hq2] at hlj
              clear hq1 hq2
              go_wp2
              go_roundg g2
              case measure => omega
              case rel =>
                refine ⟨j + 1, t, u, by have := HE2.out; omega, by go_num, by omega, ?_⟩
                have h2 := hst.out.store hBL'.out (i := j) (by simp; omega) base[j]
                have e : ((base.set i u).set j v).set j base[j] = base.set i u := by
                  rw [List.set_set, List.set_comm _ _ (by omega)]; simp
                rw [e] at h2
                exact h2
        · obtain rfl : gk = 0 := by omega
          have hli := S.lb.cell (k := i) (by simp; omega)
          have hfi := blk_frozen S.lb i
          have hbi : wr.cell? ⟨bb, boff + i, none⟩ = some (.int .i64 (base.getD i 0)) := by
            rcases HL.out with h | ⟨b, off, h1, h2⟩
            · rw [h] at hi; simp at hi
            · obtain ⟨rfl, rfl⟩ : bb = b ∧ boff = off := by simpa using h1
              exact S.keyCell HbB.out hbL (h2 i hi)
          have hst := Lib.hid S
          clear S hjg
          obtain ⟨q1, hq1⟩ : ∃ q, q = ((base.set i u).getD i 0) := ⟨_, rfl⟩
          rw [← hq1] at hli
          clear hq1
          go_wp2
          go_roundg g1
          case measure => omega
          case rel =>
            refine ⟨i + 1, t, by have := HE.out; omega, by go_num, ?_⟩
            have h2 := hst.out.store hBL'.out (i := i) (by simp; omega) base[i]
            have e : (base.set i u).set i base[i] = base := by rw [List.set_set]; simp
            rw [e] at h2
            exact h2
    · obtain rfl : gk = 0 := by omega
      have hst := Lib.hid S
      clear S
      go_wp2
      try rw [Exit.noGoto_ret]
      go_end0
      exact hst.out.over
end Go.Proofs.Ytjgbckcepoahkaa
