/- A list apart from a block. -/
import Derived.Test.YtbcamhfoemnmgaaGreatM7
set_option linter.unusedVariables false
namespace Go.Proofs.YtbcamhfoemnmgaaGreat
open Go.RowKit Go.Front Go.Num
/-- A list apart from the block b, below the block c. -/
def Off (b c : Nat) (w : World) (s : SH) (qs : List Rat) : Prop := ∃ rs, RS w s rs ∧ Vals CanR w rs qs ∧ (s.n = 0 ∨ ∃ x off, s.a = some ⟨x, off, none⟩ ∧ x ≠ b ∧ x < c)
theorem Off.ext {b c : Nat} {w w' : World} {s : SH} {qs : List Rat} (h : Off b c w s qs) (he : Ext w w') : Off b c w' s qs := let ⟨rs, h1, h2, h3⟩ := h; ⟨rs, h1.ext he, h2.can_ext he, h3⟩
theorem Off.can {b c : Nat} {w : World} {s : SH} {qs : List Rat} (h : Off b c w s qs) : CanL w s qs := let ⟨rs, h1, h2, _⟩ := h; ⟨rs, h1, h2⟩
theorem Off.put {b c k : Nat} {w1 w2 : World} {s : SH} {qs : List Rat} {T : TypeId} {cs : Array Value} (h : Off b c w1 s qs) (T2 : PutB w1 k T cs w2) (hk : k = b ∨ c ≤ k) : Off b c w2 s qs := by
  obtain ⟨rs, h1, h2, h3⟩ := h
  refine ⟨rs, ?_, h2.keep T2.keep, h3⟩
  rcases h3 with h0 | ⟨x, off, e, h4, h5⟩
  · exact h1.put (lo := 0) (hi := 0) (Or.inl h0) T2 (Or.inr (Nat.zero_le _))
  · exact h1.put (lo := x) (hi := x + 1) (Or.inr ⟨x, off, e, Nat.le_refl _, Nat.lt_succ_self _⟩) T2 (by omega)
theorem Off.sharp {b c : Nat} {w : World} {s : SH} {qs : List Rat} (h : Off b c w s qs) : Off b w.heap.size w s qs := by
  obtain ⟨rs, h1, h2, h3⟩ := h
  refine ⟨rs, h1, h2, ?_⟩
  rcases h3 with h0 | ⟨x, off, e, h4, h5⟩
  · exact Or.inl h0
  · rcases h1.in with h0 | ⟨y, o, e2, -, h6⟩
    · exact Or.inl h0
    · rw [e] at e2
      obtain ⟨rfl, rfl⟩ : x = y ∧ off = o := by simpa using e2
      exact Or.inr ⟨x, off, e, h4, h6⟩
theorem NewL.off {b B : Nat} {w : World} {s : SH} {qs : List Rat} (h : NewL B w s qs) (hb : b < B) : Off b w.heap.size w s qs := by
  obtain ⟨rs, h1, h2, h3⟩ := h
  refine ⟨rs, h1, h2, h3.imp id fun ⟨x, off, e, h4, h5⟩ => ⟨x, off, e, by omega, h5⟩⟩
theorem LIn.off {b lo hi : Nat} {w : World} {s : SH} {qs : List Rat} (h : LIn w s qs lo hi) (hb : b < lo ∨ hi ≤ b) : Off b w.heap.size w s qs := by
  obtain ⟨rs, h1, h2, h3⟩ := h
  refine ⟨rs, h1, h2, ?_⟩
  rcases h3 with h0 | ⟨x, off, e, h4, h5⟩
  · exact Or.inl h0
  · rcases h1.in with h0 | ⟨y, o, e2, -, h6⟩
    · exact Or.inl h0
    · rw [e] at e2
      obtain ⟨rfl, rfl⟩ : x = y ∧ off = o := by simpa using e2
      exact Or.inr ⟨x, off, e, by omega, h6⟩
def OffX (b : Nat) (w : World) (s : SH) (qs : List Rat) : Prop := ∃ c, Off b c w s qs
theorem OffX.ext {b : Nat} {w w' : World} {s : SH} {qs : List Rat} (h : OffX b w s qs) (he : Ext w w') : OffX b w' s qs := let ⟨c, h1⟩ := h; ⟨c, h1.ext he⟩
theorem Does.wk {f : FuncId} {args : List Value} {w : World} {α : Type} {mk : α → Value} {φ ψ : α → World → Prop} (h : Does f args w mk φ) (hi : ∀ x w', Ext w w' → φ x w' → ψ x w') : Does f args w mk ψ := by
  refine Calls.mono h ?_
  rintro e w' ⟨x, rfl, h1, h2⟩
  exact ⟨x, rfl, h1, hi x w' h1 h2⟩
theorem CanL.off {w : World} {N n c b : Nat} {qs : List Rat} (h : CanL w ⟨some ⟨N, 0, none⟩, n, c⟩ qs) (hb : b < N) (hN : N < w.heap.size) : Off b w.heap.size w ⟨some ⟨N, 0, none⟩, n, c⟩ qs :=
  let ⟨rs, h1, h2⟩ := h; ⟨rs, h1, h2, Or.inr ⟨N, 0, rfl, by omega, hN⟩⟩
end Go.Proofs.YtbcamhfoemnmgaaGreat
