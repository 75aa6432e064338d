/- Lists of candidates, in plain: they differ, and each differs from the base little. -/
import Derived.Test.YtjgbckcepoahkaaB4
namespace Go.Proofs.Ytjgbckcepoahkaa
open Go.RowKit Go.Front
def addL (a b : List Int) : List Int := List.zipWith (· + ·) a b
def zeros (n : Nat) : List Int := List.replicate n 0
def Tame (base : List Int) : Prop := ∀ v ∈ base, -10000000 ≤ v ∧ v ≤ 10000000
theorem wrap_tame (v : Int) (h : -9000000000000 ≤ v ∧ v ≤ 9000000000000) : wrap64 v = v := by unfold wrap64; omega
theorem tame_at {base : List Int} (h : Tame base) (i : Nat) : -10000000 ≤ base.getD i 0 ∧ base.getD i 0 ≤ 10000000 := by
  by_cases hi : i < base.length
  · have := h base[i] (List.getElem_mem hi)
    simpa [hi] using this
  · simp [List.getElem?_eq_none (Nat.le_of_not_lt hi)]
theorem set_add {base : List Int} {i : Nat} {d : Int} (z : List Int) (hz : z.length = base.length) (hi : i < base.length) (c : Int) (hc : c = base.getD i 0 + d) : (addL base z).set i c = addL base (z.set i d) := by
  unfold addL
  apply List.ext_getElem?
  intro k
  simp only [List.getElem?_set, List.getElem?_zipWith, List.length_zipWith]
  by_cases hk : i = k
  · subst hk
    simp [hi, hz, hc]
  · simp [hk]
theorem add_zeros (base : List Int) : addL base (zeros base.length) = base := by
  unfold addL zeros
  apply List.ext_getElem?
  intro k
  by_cases hk : k < base.length
  · simp [hk]
  · simp [Nat.le_of_not_lt hk]
theorem zeros_at (n i : Nat) : (zeros n).getD i 0 = 0 := by
  unfold zeros
  by_cases h : i < n <;> simp [h]
theorem chg_add {base : List Int} (h : Tame base) {i : Nat} (hi : i < base.length) {d : Int} (hd : -1 ≤ d ∧ d ≤ 1) : chg base i d = addL base (chg (zeros base.length) i d) := by
  have h1 := tame_at h i
  have hs := set_add (base := base) (i := i) (d := d) (zeros base.length) (by simp [zeros]) hi (wrap64 (base.getD i 0 + d)) (wrap_tame _ (by omega))
  rw [add_zeros] at hs
  unfold chg
  rw [hs, zeros_at, wrap_tame _ (by omega), Int.zero_add]
theorem chg2_add {base : List Int} (h : Tame base) {i j : Nat} (hi : i < base.length) (hj : j < base.length) {c : Nat} (hc : c < 4) : chg2 base i j c = addL base (chg2 (zeros base.length) i j c) := by
  have h1 := tame_at h i
  have h2 := tame_at h j
  have hc1 : c / 2 ≤ 1 := by omega
  have hc2 : c % 2 ≤ 1 := by omega
  have e1 : wrap64 (wrap64 (base.getD i 0 + 1) - 2 * ((c / 2 : Nat) : Int)) = base.getD i 0 + (1 - 2 * ((c / 2 : Nat) : Int)) := by rw [wrap_tame (base.getD i 0 + 1) (by omega), wrap_tame _ (by omega)]; omega
  have e2 : wrap64 (wrap64 (base.getD j 0 + 1) - 2 * ((c % 2 : Nat) : Int)) = base.getD j 0 + (1 - 2 * ((c % 2 : Nat) : Int)) := by rw [wrap_tame (base.getD j 0 + 1) (by omega), wrap_tame _ (by omega)]; omega
  have e3 : wrap64 (wrap64 ((zeros base.length).getD i 0 + 1) - 2 * ((c / 2 : Nat) : Int)) = 1 - 2 * ((c / 2 : Nat) : Int) := by rw [zeros_at, wrap_tame (0 + 1) (by omega), wrap_tame _ (by omega)]; omega
  have e4 : wrap64 (wrap64 ((zeros base.length).getD j 0 + 1) - 2 * ((c % 2 : Nat) : Int)) = 1 - 2 * ((c % 2 : Nat) : Int) := by rw [zeros_at, wrap_tame (0 + 1) (by omega), wrap_tame _ (by omega)]; omega
  unfold chg2
  rw [e1, e2, e3, e4]
  have hs := set_add (base := base) (i := i) (d := 1 - 2 * ((c / 2 : Nat) : Int)) (zeros base.length) (by simp [zeros]) hi _ rfl
  rw [add_zeros] at hs
  rw [hs]
  exact set_add _ (by simp [zeros]) hj _ rfl
theorem quad_add {base : List Int} (h : Tame base) {i j : Nat} (hi : i < base.length) (hj : j < base.length) : ∀ f c, c + f ≤ 4 → quad base i j f c = (quad (zeros base.length) i j f c).map (addL base)
  | 0, _, _ => rfl
  | f + 1, c, hc => by simp only [quad, List.map_cons]; rw [quad_add h hi hj f (c + 1) (by omega), chg2_add h hi hj (by omega)]
theorem pairsJ_add {base : List Int} (h : Tame base) {i : Nat} (hi : i < base.length) : ∀ f j, j + f ≤ base.length → pairsJ base i f j = (pairsJ (zeros base.length) i f j).map (addL base)
  | 0, _, _ => rfl
  | f + 1, j, hj => by simp only [pairsJ, List.map_append]; rw [pairsJ_add h hi f (j + 1) (by omega), quad_add h hi (by omega) 4 0 (by omega)]
theorem pairsI_add {base : List Int} (h : Tame base) : ∀ f i, i + f ≤ base.length → pairsI base f i = (pairsI (zeros base.length) f i).map (addL base)
  | 0, _, _ => rfl
  | f + 1, i, hi => by
    simp only [pairsI, List.map_append]
    rw [pairsI_add h f (i + 1) (by omega), pairsJ_add h (by omega) _ _ (by omega)]
    simp [zeros]
theorem singles_add {base : List Int} (h : Tame base) : ∀ f i, i + f ≤ base.length → singles base f i = (singles (zeros base.length) f i).map (addL base)
  | 0, _, _ => rfl
  | f + 1, i, hi => by simp only [singles, List.map_cons]; rw [singles_add h f (i + 1) (by omega), chg_add h (by omega) (by omega), chg_add h (by omega) (by omega)]
theorem cands_add {base : List Int} (h : Tame base) : cands base = (cands (zeros base.length)).map (addL base) := by
  have hz : (zeros base.length).length = base.length := by simp [zeros]
  unfold cands
  simp only [List.map_cons, List.map_append]
  rw [hz, add_zeros, ← singles_add h _ _ (by omega), ← pairsI_add h _ _ (by omega)]
theorem zc_nodup (n : Nat) (hn : n ≤ 5) : (cands (zeros n)).Nodup := by
  match n, hn with
  | 0, _ => decide +kernel
  | 1, _ => decide +kernel
  | 2, _ => decide +kernel
  | 3, _ => decide +kernel
  | 4, _ => decide +kernel
  | 5, _ => decide +kernel
def gap (d : Int) : Int := max d (-d)
theorem zc_small (n : Nat) (hn : n ≤ 5) : ∀ c ∈ cands (zeros n), (c.map gap).all (fun g => decide (g ≤ 1)) = true ∧ (c.map gap).sum ≤ 2 ∧ c.length = n := by
  match n, hn with
  | 0, _ => decide +kernel
  | 1, _ => decide +kernel
  | 2, _ => decide +kernel
  | 3, _ => decide +kernel
  | 4, _ => decide +kernel
  | 5, _ => decide +kernel

theorem addL_inj {base a b : List Int} (ha : a.length = base.length) (hb : b.length = base.length) (h : addL base a = addL base b) : a = b := by
  apply List.ext_getElem (by omega)
  intro k h1 h2
  have := congrArg (fun l => l[k]?) h
  simp [addL, List.getElem?_zipWith, show k < base.length by omega, h1, h2] at this
  exact this
theorem nodup_map {f : List Int → List Int} : ∀ {L : List (List Int)}, L.Nodup → (∀ a ∈ L, ∀ b ∈ L, f a = f b → a = b) → (L.map f).Nodup
  | [], _, _ => by simp
  | a :: L, h, hf => by
    rw [List.map_cons, List.nodup_cons]
    rw [List.nodup_cons] at h
    refine ⟨fun hm => ?_, nodup_map h.2 (fun x hx y hy => hf x (by simp [hx]) y (by simp [hy]))⟩
    obtain ⟨b, hb, he⟩ := List.mem_map.1 hm
    have := hf b (by simp [hb]) a (by simp) he
    subst this
    exact h.1 hb
theorem cands_nodup {base : List Int} (h : Tame base) (hn : base.length ≤ 5) : (cands base).Nodup := by
  rw [cands_add h]
  refine nodup_map (zc_nodup _ hn) (fun a ha b hb he => addL_inj ?_ ?_ he)
  · exact (zc_small _ hn a ha).2.2
  · exact (zc_small _ hn b hb).2.2
theorem candSpec_mem {x : Wd} {base c : List Int} {k : Int} (h : candSpec x base k = some c) : c ∈ cands base ∧ fitsAll x c = true ∧ candOk x base k = true ∧ ((cands base).filter (fitsAll x))[k.toNat]? = some c ∧ 0 ≤ k := by
  have hok : candOk x base k = true := by
    cases hk : candOk x base k with
    | true => rfl
    | false => simp [candSpec, hk] at h
  have hk : 0 ≤ k := by simp [candOk] at hok; exact hok.2
  rw [candSpec_eq hok] at h
  have := List.mem_of_getElem? h
  rw [List.mem_filter] at this
  exact ⟨this.1, this.2, hok, h, hk⟩
theorem cand_differ {x : Wd} {base a b : List Int} {j k : Int} (ht : Tame base) (hn : base.length ≤ 5) (ha : candSpec x base j = some a) (hb : candSpec x base k = some b) (hjk : j ≠ k) : a ≠ b := by
  obtain ⟨_, _, _, h1, hj⟩ := candSpec_mem ha
  obtain ⟨_, _, _, h2, hk⟩ := candSpec_mem hb
  intro he
  subst he
  have hnd : ((cands base).filter (fitsAll x)).Nodup := (cands_nodup ht hn).filter _
  have hlt : j.toNat < ((cands base).filter (fitsAll x)).length := by
    rcases Nat.lt_or_ge j.toNat ((cands base).filter (fitsAll x)).length with h | h
    · exact h
    · rw [List.getElem?_eq_none h] at h1; cases h1
  have := (List.getElem?_inj hlt hnd).1 (h1.trans h2.symm)
  omega
/-- The gaps of a candidate to its base. -/
def gaps (base c : List Int) (n : Nat) : Int := (((c.zip base).take n).map (fun p => gap (p.1 - p.2))).sum
theorem cand_gaps {x : Wd} {base c : List Int} {k : Int} (ht : Tame base) (hn : base.length ≤ 5) (h : candSpec x base k = some c) : c.length = base.length ∧ (∀ i, i < c.length → gap (c.getD i 0 - base.getD i 0) ≤ 1 ∧ x.fits (c.getD i 0) = true) ∧ gaps base c c.length ≤ 2 := by
  obtain ⟨h1, h2, _⟩ := candSpec_mem h
  rw [cands_add ht] at h1
  obtain ⟨z, hz, rfl⟩ := List.mem_map.1 h1
  obtain ⟨g1, g2, g3⟩ := zc_small _ hn z hz
  have hl : (addL base z).length = base.length := by simp [addL, g3]
  refine ⟨hl, fun i hi => ⟨?_, ?_⟩, ?_⟩
  · rw [hl] at hi
    have e : (addL base z).getD i 0 - base.getD i 0 = z.getD i 0 := by simp [addL, List.getElem?_zipWith, hi, show i < z.length by omega]; omega
    rw [e]
    have := List.all_eq_true.1 g1 (gap (z.getD i 0)) (List.mem_map.2 ⟨z.getD i 0, by simp [show i < z.length by omega], rfl⟩)
    simpa using this
  · simp only [fitsAll, List.all_eq_true] at h2
    exact h2 _ (by simp [hi])
  · have e : ((addL base z).zip base).map (fun p => gap (p.1 - p.2)) = z.map gap := by
      apply List.ext_getElem (by simp [hl, g3])
      intro k h1 h2
      simp [addL]
      congr 1
      omega
    unfold gaps
    rw [List.take_of_length_le (by simp [hl]), e]
    exact g2
end Go.Proofs.Ytjgbckcepoahkaa
