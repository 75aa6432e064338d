/- StabilityRoots returns true. -/
import Derived.Test.YtbcamhfoemnmgaaGreatM17
import Derived.Test.YtbcamhfoemnmgaaGreatM11
import Derived.Test.YtbcamhfoemnmgaaGreatM10
set_option linter.unusedVariables false
namespace Go.Proofs.YtbcamhfoemnmgaaGreat
open Go.RowKit Go.Front Go.Num
attribute [local go_sem] XW.cell XW.frozen
/-- A list apart from the block b, below the block c. -/
def Off (b c : Nat) (w : World) (s : SH) (qs : List Rat) : Prop := ∃ rs, RS w s rs ∧ Vals CanR w rs qs ∧ (s.n = 0 ∨ ∃ x off, s.a = some ⟨x, off, none⟩ ∧ x ≠ b ∧ x < c)
theorem Off.ext {b c : Nat} {w w' : World} {s : SH} {qs : List Rat} (h : Off b c w s qs) (he : Ext w w') : Off b c w' s qs := let ⟨rs, h1, h2, h3⟩ := h; ⟨rs, h1.ext he, h2.can_ext he, h3⟩
theorem Off.can {b c : Nat} {w : World} {s : SH} {qs : List Rat} (h : Off b c w s qs) : CanL w s qs := let ⟨rs, h1, h2, _⟩ := h; ⟨rs, h1, h2⟩
theorem Off.put {b c k : Nat} {w1 w2 : World} {s : SH} {qs : List Rat} {T : TypeId} {cs : Array Value} (h : Off b c w1 s qs) (T2 : PutB w1 k T cs w2) (hk : k = b ∨ c ≤ k) : Off b c w2 s qs := by
  obtain ⟨rs, h1, h2, h3⟩ := h
  refine ⟨rs, ?_, h2.keep T2.keep, h3⟩
  rcases h3 with h0 | ⟨x, off, e, h4, h5⟩
  · exact h1.put (lo := 0) (hi := 0) (Or.inl h0) T2 (Or.inr (Nat.zero_le _))
  · exact h1.put (lo := x) (hi := x + 1) (Or.inr ⟨x, off, e, Nat.le_refl _, Nat.lt_succ_self _⟩) T2 (by omega)
theorem Off.sharp {b c : Nat} {w : World} {s : SH} {qs : List Rat} (h : Off b c w s qs) : Off b w.heap.size w s qs := by
  obtain ⟨rs, h1, h2, h3⟩ := h
  refine ⟨rs, h1, h2, ?_⟩
  rcases h3 with h0 | ⟨x, off, e, h4, h5⟩
  · exact Or.inl h0
  · rcases h1.in with h0 | ⟨y, o, e2, -, h6⟩
    · exact Or.inl h0
    · rw [e] at e2
      obtain ⟨rfl, rfl⟩ : x = y ∧ off = o := by simpa using e2
      exact Or.inr ⟨x, off, e, h4, h6⟩
theorem NewL.off {b B : Nat} {w : World} {s : SH} {qs : List Rat} (h : NewL B w s qs) (hb : b < B) : Off b w.heap.size w s qs := by
  obtain ⟨rs, h1, h2, h3⟩ := h
  refine ⟨rs, h1, h2, h3.imp id fun ⟨x, off, e, h4, h5⟩ => ⟨x, off, e, by omega, h5⟩⟩
def OffX (b : Nat) (w : World) (s : SH) (qs : List Rat) : Prop := ∃ c, Off b c w s qs
theorem OffX.ext {b : Nat} {w w' : World} {s : SH} {qs : List Rat} (h : OffX b w s qs) (he : Ext w w') : OffX b w' s qs := let ⟨c, h1⟩ := h; ⟨c, h1.ext he⟩
theorem spec_build2 {P : Program} {o : Oper} {a : Act} {w : World} {T : TypeId} (x y : RH) (p q : Rat) (hx : CanR w x p) (hy : CanR w y q) (hT : T = 30)
    (hrun : (execOp a.eval o).run P w = .ok (.value (.slice (some ⟨w.heap.size, 0, none⟩) 2 2)) (w.alloc (.cells #[.bool x.neg, .slice x.a x.n x.c, .slice x.b x.m x.d, .bool y.neg, .slice y.a y.n y.c, .slice y.b y.m y.d] T))) :
    specAt P o a w (fun b : Nat => .slice (some ⟨b, 0, none⟩) 2 2) (fun b w' => CanL w' ⟨some ⟨b, 0, none⟩, 2, 2⟩ [p, q]) := by
  subst hT
  unfold specAt
  rw [hrun]
  exact ⟨Ext.alloc _ _, w.heap.size, rfl, canL_2 (heap_alloc_new _ _) (hx.ext (Ext.alloc _ _)) (hy.ext (Ext.alloc _ _))⟩
theorem spec_build3 {P : Program} {o : Oper} {a : Act} {w : World} {T : TypeId} (x y z : RH) (p q r : Rat) (hx : CanR w x p) (hy : CanR w y q) (hz : CanR w z r) (hT : T = 30)
    (hrun : (execOp a.eval o).run P w = .ok (.value (.slice (some ⟨w.heap.size, 0, none⟩) 3 3)) (w.alloc (.cells #[.bool x.neg, .slice x.a x.n x.c, .slice x.b x.m x.d, .bool y.neg, .slice y.a y.n y.c, .slice y.b y.m y.d, .bool z.neg, .slice z.a z.n z.c, .slice z.b z.m z.d] T))) :
    specAt P o a w (fun b : Nat => .slice (some ⟨b, 0, none⟩) 3 3) (fun b w' => CanL w' ⟨some ⟨b, 0, none⟩, 3, 3⟩ [p, q, r]) := by
  subst hT
  unfold specAt
  rw [hrun]
  exact ⟨Ext.alloc _ _, w.heap.size, rfl, canL_3 (heap_alloc_new _ _) (hx.ext (Ext.alloc _ _)) (hy.ext (Ext.alloc _ _)) (hz.ext (Ext.alloc _ _))⟩
theorem Does.wk {f : FuncId} {args : List Value} {w : World} {α : Type} {mk : α → Value} {φ ψ : α → World → Prop} (h : Does f args w mk φ) (hi : ∀ x w', Ext w w' → φ x w' → ψ x w') : Does f args w mk ψ := by
  refine Calls.mono h ?_
  rintro e w' ⟨x, rfl, h1, h2⟩
  exact ⟨x, rfl, h1, hi x w' h1 h2⟩
theorem CanL.off {w : World} {N n c b : Nat} {qs : List Rat} (h : CanL w ⟨some ⟨N, 0, none⟩, n, c⟩ qs) (hb : b < N) (hN : N < w.heap.size) : Off b w.heap.size w ⟨some ⟨N, 0, none⟩, n, c⟩ qs :=
  let ⟨rs, h1, h2⟩ := h; ⟨rs, h1, h2, Or.inr ⟨N, 0, rfl, by omega, hN⟩⟩
set_option maxRecDepth 8000 in
set_option maxHeartbeats 4000000 in
theorem roots_any (ao : Option Addr) (cap : Nat) (xs : List Int) (w : World) (h : IntsAt w ao xs) (hr : InR xs) (hl : xs.length ≤ 9223372036854775807) (hc : xs.length ≤ cap) (hcm : cap ≤ 9223372036854775807) :
    Does 3 [.slice ao xs.length cap] w (fun _ : Unit => .bool true) (fun _ _ => True) := by
  have HX := Lib.hid (Ext.refl w)
  obtain ⟨n, hn⟩ : ∃ n, n = xs.length := ⟨_, rfl⟩
  have HI : Hid (∀ b w1 (at' N : Int), w.heap.size ≤ b → Ext w w1 → w1.heap[b]? = some (.cells #[.slice ao n cap, .int .i64 at'] 25 (0, 0)) → 0 ≤ at' → at' ≤ n → 0 < N → N ≤ 9223372036854775807 →
      Calls Tryz.prog 9 #[ptr b, .int .i64 N] w1 (TapePost b n ao cap N w1)) := Lib.hid (fun b w1 at' N hb he hB h0 h1 hN hN2 => next_any b n cap ao xs at' N w1 hB (h.ext he) hr hn.symm (by omega) (by omega) hcm (fun hne p hp => by have := h.lt hne p hp; omega) h0 h1 hN hN2)
  rw [← hn] at hl hc ⊢
  clear hn h hr
  unfold Does
  go_enter Tryz.func3, Tryz.ntmps3
  go_upto_region 2 with fail
  refine nm_alloc ?_
  intro w1 hE hB0 hz
  have hz_w1 := Nat.le_of_eq hz
  have hr_w1 := Nat.le_of_eq hz.symm
  clear hz
  replace HX := Lib.hid (HX.out.trans hE)
  have hs_w1 := hE.size
  clear hE
  have BT := Lib.hid hB0
  clear hB0
  have c_BT := blk_cell BT.out
  have f_BT := blk_frozen BT.out
  have l_BT := (Array.getElem?_eq_some_iff.1 BT.out).1
  obtain ⟨bt, hbt⟩ : ∃ bt, bt = w.heap.size := ⟨_, rfl⟩
  have hbtw : w.heap.size ≤ bt := by omega
  have hbt1 : bt < w1.heap.size := by omega
  rw [← hbt] at BT ⊢
  clear hbt c_BT f_BT l_BT
  go_wp2_with fail
  refine Calls.mono (rof3_any 1 _ (by decide) (by decide)) ?_
  rintro e w2 ⟨x2, rfl, hE, g2⟩
  have G2 := Lib.hid g2
  clear g2
  replace HX := Lib.hid (HX.out.trans hE)
  replace BT := Lib.hid (hE.block BT.out)
  have hs_w2 := hE.size
  clear hE
  (try clear c_BT f_BT l_BT)
  have c_BT := blk_cell BT.out
  have f_BT := blk_frozen BT.out
  have l_BT := (Array.getElem?_eq_some_iff.1 BT.out).1
  go_upto_region 3 with fail
  refine nm_alloc ?_
  intro y3 hE hB0 hz
  have hz_y3 := Nat.le_of_eq hz
  have hr_y3 := Nat.le_of_eq hz.symm
  clear hz
  replace HX := Lib.hid (HX.out.trans hE)
  replace BT := Lib.hid (hE.block BT.out)
  replace G2 := Lib.hid (G2.out.ext hE)
  have hs_y3 := hE.size
  clear hE
  (try clear c_BT f_BT l_BT)
  have c_BT := blk_cell BT.out
  have f_BT := blk_frozen BT.out
  have l_BT := (Array.getElem?_eq_some_iff.1 BT.out).1
  have B3 := Lib.hid hB0
  clear hB0
  have c_B3 := blk_cell B3.out
  have f_B3 := blk_frozen B3.out
  have l_B3 := (Array.getElem?_eq_some_iff.1 B3.out).1
  have hby : bt < w2.heap.size := by omega
  have LA : Hid (Off bt y3.heap.size y3 ⟨some ⟨w2.heap.size, 0, none⟩, 1, 1⟩ [((1 : Int) : Rat)]) := Lib.hid ((canL_1 B3.out G2.out).off (by omega) (by omega))
  (try clear c_B3 f_B3 l_B3); clear B3
  clear G2
  clear hby
  go_wp2_with fail
  refine Calls.mono (HI.out bt y3 0 4 hbtw HX.out BT.out (by omega) (by omega) (by decide) (by decide)) ?_
  rintro e w4 ⟨v4, at4, w40, rfl, hv1, hv2, ha1, ha2, T, hE⟩
  replace HX := Lib.hid (T.ext HX.out (by omega))
  replace BT := Lib.hid (T.bx)
  replace LA := Lib.hid (LA.out.put T (by omega))
  have hs_w40 := Nat.le_of_eq T.size
  have hr_w40 := Nat.le_of_eq T.size.symm
  clear T
  (try clear c_BT f_BT l_BT)
  have c_BT := blk_cell BT.out
  have f_BT := blk_frozen BT.out
  have l_BT := (Array.getElem?_eq_some_iff.1 BT.out).1
  replace HX := Lib.hid (HX.out.trans hE)
  replace BT := Lib.hid (hE.block BT.out)
  replace LA := Lib.hid (LA.out.ext hE)
  have hs_w4 := hE.size
  clear hE
  (try clear c_BT f_BT l_BT)
  have c_BT := blk_cell BT.out
  have f_BT := blk_frozen BT.out
  have l_BT := (Array.getElem?_eq_some_iff.1 BT.out).1
  obtain ⟨m, rfl⟩ : ∃ m : Nat, v4 = (m : Nat) := ⟨v4.toNat, by omega⟩
  have HR0 := Lib.hid RtS.start
  go_wp2
  go_loopg [4, 5, 6] m (fun g u p z wr => ∃ (j : Nat) (x : SH) (a : List Rat) (want : Bool) (at' : Int) (oc : Nat), u = x.v ∧ p = .bool want ∧ z = .int .i64 (g : Nat) ∧ j + g ≤ 3 ∧ Ext w wr ∧ wr.heap[bt]? = some (.cells #[.slice ao n cap, .int .i64 at'] 25 (0, 0)) ∧ 0 ≤ at' ∧ at' ≤ n ∧ Off bt oc wr x a ∧ RtS j a want)
  case atStart => exact ⟨0, ⟨some ⟨w2.heap.size, 0, none⟩, 1, 1⟩, _, true, at4, _, rfl, rfl, rfl, by omega, HX.out, BT.out, ha1, ha2, LA.out, HR0.out⟩
  case round =>
    obtain ⟨j, ⟨xa, xn, xc⟩, a, want, at', oc, rfl, rfl, rfl, hj, g1, g2, hat1, hat2, g3, g4⟩ := hrel
    clear HX BT LA HR0
    have HX := Lib.hid g1
    have BT := Lib.hid g2
    have LA := Lib.hid g3.sharp
    have HR := Lib.hid g4
    clear g1 g2 g3 g4
    simp only [SH.v]
    have hszw := HX.out.size
    have ZA := Lib.hid (HR.out.sz (by omega))
    have hxn := LA.out.can.len
    have hal := HR.out.len
    simp only at hxn
    rw [hxn] at hal
    clear hxn
    (try clear c_BT f_BT l_BT)
    have c_BT := blk_cell BT.out
    have f_BT := blk_frozen BT.out
    have l_BT := (Array.getElem?_eq_some_iff.1 BT.out).1
    have hbtr := l_BT
    by_cases h0 : gk = 0
    case pos =>
      subst h0
      have HOk := Lib.hid (HR.out.ok (by omega))
      have HSt := Lib.hid (HR.out.stab (by omega))
      go_wp2_with fail
      refine Calls.mono (stable_any xa xn xc a _ (LA.out.can.raw ZA.out (by decide)) (by omega) (ZA.out.mono (by decide)) (fun _ => HOk.out)) ?_
      rintro e w20 ⟨x20, rfl, hE, -⟩
      replace HX := Lib.hid (HX.out.trans hE)
      replace BT := Lib.hid (hE.block BT.out)
      replace LA := Lib.hid (LA.out.ext hE)
      have hs_w20 := hE.size
      clear hE
      (try clear c_BT f_BT l_BT)
      have c_BT := blk_cell BT.out
      have f_BT := blk_frozen BT.out
      have l_BT := (Array.getElem?_eq_some_iff.1 BT.out).1
      rw [HSt.out]
      simp only [BF]
      go_wp2_with fail
      refine Calls.mono (awake18_any _) ?_
      rintro e w21 ⟨x21, rfl, hE, -⟩
      replace HX := Lib.hid (HX.out.trans hE)
      replace BT := Lib.hid (hE.block BT.out)
      replace LA := Lib.hid (LA.out.ext hE)
      have hs_w21 := hE.size
      clear hE
      (try clear c_BT f_BT l_BT)
      have c_BT := blk_cell BT.out
      have f_BT := blk_frozen BT.out
      have l_BT := (Array.getElem?_eq_some_iff.1 BT.out).1
      cases want
      · go_wp2
        go_ret
        exact ⟨(), rfl, HX.out, trivial⟩
      · go_wp2
        go_ret
        exact ⟨(), rfl, HX.out, trivial⟩
    obtain ⟨g0, rfl⟩ : ∃ g0, gk = g0 + 1 := ⟨gk - 1, by omega⟩
    go_wp2_with fail
    refine Calls.mono (HI.out bt wr at' 20 hbtw HX.out BT.out hat1 hat2 (by decide) (by decide)) ?_
    rintro e w5 ⟨v5, at5, w50, rfl, hv1, hv2, ha1, ha2, T, hE⟩
    replace HX := Lib.hid (T.ext HX.out (by omega))
    replace BT := Lib.hid (T.bx)
    replace LA := Lib.hid (LA.out.put T (by omega))
    have hs_w50 := Nat.le_of_eq T.size
    have hr_w50 := Nat.le_of_eq T.size.symm
    clear T
    (try clear c_BT f_BT l_BT)
    have c_BT := blk_cell BT.out
    have f_BT := blk_frozen BT.out
    have l_BT := (Array.getElem?_eq_some_iff.1 BT.out).1
    replace HX := Lib.hid (HX.out.trans hE)
    replace BT := Lib.hid (hE.block BT.out)
    replace LA := Lib.hid (LA.out.ext hE)
    have hs_w5 := hE.size
    clear hE
    (try clear c_BT f_BT l_BT)
    have c_BT := blk_cell BT.out
    have f_BT := blk_frozen BT.out
    have l_BT := (Array.getElem?_eq_some_iff.1 BT.out).1
    obtain ⟨t, rfl⟩ : ∃ t : Nat, v5 = (t : Nat) := ⟨v5.toNat, by omega⟩
    have ht : t < 20 := by omega
    go_wp2_with fail
    refine Calls.mono (rfrac3_any (1 + (t : Int)) 8 _ (by omega) (by omega) (by decide) (by decide)) ?_
    rintro e w6 ⟨x6, rfl, hE, g6⟩
    have G6 := Lib.hid g6
    clear g6
    replace HX := Lib.hid (HX.out.trans hE)
    replace BT := Lib.hid (hE.block BT.out)
    replace LA := Lib.hid (LA.out.ext hE)
    have hs_w6 := hE.size
    clear hE
    (try clear c_BT f_BT l_BT)
    have c_BT := blk_cell BT.out
    have f_BT := blk_frozen BT.out
    have l_BT := (Array.getElem?_eq_some_iff.1 BT.out).1
    go_wp2_with fail
    refine Calls.mono (HI.out bt w6 at5 2 hbtw HX.out BT.out ha1 ha2 (by decide) (by decide)) ?_
    rintro e w7 ⟨v7, at7, w70, rfl, hv3, hv4, ha3, ha4, T, hE⟩
    replace HX := Lib.hid (T.ext HX.out (by omega))
    replace BT := Lib.hid (T.bx)
    replace LA := Lib.hid (LA.out.put T (by omega))
    replace G6 := Lib.hid (G6.out.keep T.keep)
    have hs_w70 := Nat.le_of_eq T.size
    have hr_w70 := Nat.le_of_eq T.size.symm
    clear T
    (try clear c_BT f_BT l_BT)
    have c_BT := blk_cell BT.out
    have f_BT := blk_frozen BT.out
    have l_BT := (Array.getElem?_eq_some_iff.1 BT.out).1
    replace HX := Lib.hid (HX.out.trans hE)
    replace BT := Lib.hid (hE.block BT.out)
    replace LA := Lib.hid (LA.out.ext hE)
    replace G6 := Lib.hid (G6.out.ext hE)
    have hs_w7 := hE.size
    clear hE
    (try clear c_BT f_BT l_BT)
    have c_BT := blk_cell BT.out
    have f_BT := blk_frozen BT.out
    have l_BT := (Array.getElem?_eq_some_iff.1 BT.out).1
    obtain ⟨u, rfl⟩ : ∃ u : Nat, v7 = (u : Nat) := ⟨v7.toNat, by omega⟩
    have hu : u < 2 := by omega
    go_wp2_with fail
    refine Calls.mono (rof3_any (1 - 2 * (u : Int)) _ (by omega) (by omega)) ?_
    rintro e w8 ⟨x8, rfl, hE, g8⟩
    have G8 := Lib.hid g8
    clear g8
    replace HX := Lib.hid (HX.out.trans hE)
    replace BT := Lib.hid (hE.block BT.out)
    replace LA := Lib.hid (LA.out.ext hE)
    replace G6 := Lib.hid (G6.out.ext hE)
    have hs_w8 := hE.size
    clear hE
    (try clear c_BT f_BT l_BT)
    have c_BT := blk_cell BT.out
    have f_BT := blk_frozen BT.out
    have l_BT := (Array.getElem?_eq_some_iff.1 BT.out).1
    go_upto_region 8 with fail
    refine nm_alloc2 ?_
    intro y8 hE hB0 hB1 hz
    have hz_y8 := Nat.le_of_eq hz
    have hr_y8 := Nat.le_of_eq hz.symm
    clear hz
    replace HX := Lib.hid (HX.out.trans hE)
    replace BT := Lib.hid (hE.block BT.out)
    replace LA := Lib.hid (LA.out.ext hE)
    replace G6 := Lib.hid (G6.out.ext hE)
    replace G8 := Lib.hid (G8.out.ext hE)
    have hs_y8 := hE.size
    clear hE
    (try clear c_BT f_BT l_BT)
    have c_BT := blk_cell BT.out
    have f_BT := blk_frozen BT.out
    have l_BT := (Array.getElem?_eq_some_iff.1 BT.out).1
    have B7 := Lib.hid hB0
    clear hB0
    have c_B7 := blk_cell B7.out
    have f_B7 := blk_frozen B7.out
    have l_B7 := (Array.getElem?_eq_some_iff.1 B7.out).1
    have B8 := Lib.hid hB1
    clear hB1
    have c_B8 := blk_cell B8.out
    have f_B8 := blk_frozen B8.out
    have l_B8 := (Array.getElem?_eq_some_iff.1 B8.out).1
    have Z6 : Hid (Sz 1 (fr (1 + (t : Int)) 8)) := Lib.hid (by have h := root_sz t ht; exact ⟨by rw [Nat.pow_one]; exact h.1, by rw [Nat.pow_one]; exact h.2⟩)
    have Z8 : Hid (Sz 1 ((1 - 2 * (u : Int) : Int) : Rat)) := Lib.hid (Sz.int (by unfold W32; omega))
    have G6' : Hid (CanR y8 x6 (fr (1 + (t : Int)) 8)) := G6
    have G8' : Hid (CanR y8 x8 ((1 - 2 * (u : Int) : Int) : Rat)) := G8
    clear G6
    clear G8
    obtain ⟨b7, hb7⟩ : ∃ b, b = w8.heap.size := ⟨_, rfl⟩
    have h7t : bt < b7 := by omega
    have h7w : wr.heap.size ≤ b7 := by omega
    rw [← hb7] at B7 B8 ⊢
    clear hb7 c_B7 f_B7 l_B7 c_B8 f_B8 l_B8
    (try clear c_BT f_BT l_BT)
    have c_BT := blk_cell BT.out
    have f_BT := blk_frozen BT.out
    have l_BT := (Array.getElem?_eq_some_iff.1 BT.out).1
    (try clear c_B7 f_B7 l_B7)
    have c_B7 := blk_cell B7.out
    have f_B7 := blk_frozen B7.out
    have l_B7 := (Array.getElem?_eq_some_iff.1 B7.out).1
    (try clear c_B8 f_B8 l_B8)
    have c_B8 := blk_cell B8.out
    have f_B8 := blk_frozen B8.out
    have l_B8 := (Array.getElem?_eq_some_iff.1 B8.out).1
    go_wp2_with fail
    refine Calls.mono (HI.out bt y8 at7 2 hbtw HX.out BT.out ha3 ha4 (by decide) (by decide)) ?_
    rintro e w9 ⟨v9, at9, w90, rfl, hv5, hv6, ha5, ha6, T, hE⟩
    replace HX := Lib.hid (T.ext HX.out (by omega))
    replace BT := Lib.hid (T.bx)
    replace LA := Lib.hid (LA.out.put T (by omega))
    replace B7 := Lib.hid (T.rest _ _ (by omega) B7.out)
    replace B8 := Lib.hid (T.rest _ _ (by omega) B8.out)
    replace G6' := Lib.hid (G6'.out.keep T.keep)
    replace G8' := Lib.hid (G8'.out.keep T.keep)
    have hs_w90 := Nat.le_of_eq T.size
    have hr_w90 := Nat.le_of_eq T.size.symm
    clear T
    (try clear c_BT f_BT l_BT)
    have c_BT := blk_cell BT.out
    have f_BT := blk_frozen BT.out
    have l_BT := (Array.getElem?_eq_some_iff.1 BT.out).1
    (try clear c_B7 f_B7 l_B7)
    have c_B7 := blk_cell B7.out
    have f_B7 := blk_frozen B7.out
    have l_B7 := (Array.getElem?_eq_some_iff.1 B7.out).1
    (try clear c_B8 f_B8 l_B8)
    have c_B8 := blk_cell B8.out
    have f_B8 := blk_frozen B8.out
    have l_B8 := (Array.getElem?_eq_some_iff.1 B8.out).1
    replace HX := Lib.hid (HX.out.trans hE)
    replace BT := Lib.hid (hE.block BT.out)
    replace LA := Lib.hid (LA.out.ext hE)
    replace B7 := Lib.hid (hE.block B7.out)
    replace B8 := Lib.hid (hE.block B8.out)
    replace G6' := Lib.hid (G6'.out.ext hE)
    replace G8' := Lib.hid (G8'.out.ext hE)
    have hs_w9 := hE.size
    clear hE
    (try clear c_BT f_BT l_BT)
    have c_BT := blk_cell BT.out
    have f_BT := blk_frozen BT.out
    have l_BT := (Array.getElem?_eq_some_iff.1 BT.out).1
    (try clear c_B7 f_B7 l_B7)
    have c_B7 := blk_cell B7.out
    have f_B7 := blk_frozen B7.out
    have l_B7 := (Array.getElem?_eq_some_iff.1 B7.out).1
    (try clear c_B8 f_B8 l_B8)
    have c_B8 := blk_cell B8.out
    have f_B8 := blk_frozen B8.out
    have l_B8 := (Array.getElem?_eq_some_iff.1 B8.out).1
    by_cases hs : v9 = 0
    case pos =>
      subst hs
      obtain ⟨q, hq⟩ : ∃ q, q = fr (1 + (t : Int)) 8 * ((1 - 2 * (u : Int) : Int) : Rat) := ⟨_, rfl⟩
      have HF : Hid (RtF (fac1 q) (decide (((1 : Int) : Rat) < q.abs))) := Lib.hid (by rw [hq]; exact facB_ok (fac1_all t ht u hu))
      have ZQ : Hid (Sz 2 q) := Lib.hid (by rw [hq]; exact Z6.out.mul Z8.out)
      have ZF : Hid (SzL 3 (fac1 q)) := Lib.hid (by
        intro y hy
        rcases List.mem_cons.1 hy with rfl | hy
        · exact ZQ.out.mono (by decide)
        · obtain rfl : y = ((-1 : Int) : Rat) := by simpa [fac1] using hy
          exact (Sz.int (by decide)).mono (by decide))
      have HR2 := Lib.hid (HR.out.step HF.out (by omega))
      go_wp2_with fail
      refine Calls.mono (rmul3_any x6 x8 _ _ _ (G6'.out.raw Z6.out (by decide)) (G8'.out.raw Z8.out (by decide))) ?_
      rintro e w10 ⟨x10, rfl, hE, g10⟩
      have G10 := Lib.hid g10
      clear g10
      replace HX := Lib.hid (HX.out.trans hE)
      replace BT := Lib.hid (hE.block BT.out)
      replace LA := Lib.hid (LA.out.ext hE)
      replace B7 := Lib.hid (hE.block B7.out)
      replace B8 := Lib.hid (hE.block B8.out)
      replace G6' := Lib.hid (G6'.out.ext hE)
      replace G8' := Lib.hid (G8'.out.ext hE)
      have hs_w10 := hE.size
      clear hE
      (try clear c_BT f_BT l_BT)
      have c_BT := blk_cell BT.out
      have f_BT := blk_frozen BT.out
      have l_BT := (Array.getElem?_eq_some_iff.1 BT.out).1
      (try clear c_B7 f_B7 l_B7)
      have c_B7 := blk_cell B7.out
      have f_B7 := blk_frozen B7.out
      have l_B7 := (Array.getElem?_eq_some_iff.1 B7.out).1
      (try clear c_B8 f_B8 l_B8)
      have c_B8 := blk_cell B8.out
      have f_B8 := blk_frozen B8.out
      have l_B8 := (Array.getElem?_eq_some_iff.1 B8.out).1
      rw [← hq] at G10
      clear hq
      go_upto_region 10 with fail
      refine nm_set3 B7.out rfl ?_
      intro y10 T
      replace HX := Lib.hid (T.ext HX.out (by omega))
      replace BT := Lib.hid (T.rest _ _ (by omega) BT.out)
      replace LA := Lib.hid (LA.out.put T (by omega))
      replace B7 := Lib.hid (T.bx)
      replace B8 := Lib.hid (T.rest _ _ (by omega) B8.out)
      replace G6' := Lib.hid (G6'.out.keep T.keep)
      replace G8' := Lib.hid (G8'.out.keep T.keep)
      replace G10 := Lib.hid (G10.out.keep T.keep)
      have hs_y10 := Nat.le_of_eq T.size
      have hr_y10 := Nat.le_of_eq T.size.symm
      clear T
      (try clear c_BT f_BT l_BT)
      have c_BT := blk_cell BT.out
      have f_BT := blk_frozen BT.out
      have l_BT := (Array.getElem?_eq_some_iff.1 BT.out).1
      (try clear c_B7 f_B7 l_B7)
      have c_B7 := blk_cell B7.out
      have f_B7 := blk_frozen B7.out
      have l_B7 := (Array.getElem?_eq_some_iff.1 B7.out).1
      (try clear c_B8 f_B8 l_B8)
      have c_B8 := blk_cell B8.out
      have f_B8 := blk_frozen B8.out
      have l_B8 := (Array.getElem?_eq_some_iff.1 B8.out).1
      refine wp_region_front 5 (fun opIx => match opIx with
        | 2 => .spec RH default RH.v (fun s w' => CanR w' s (((-1 : Int) : Rat)))
        | 3 => .spec (Nat) (0) (fun b => .slice (some ⟨b, 0, none⟩) 2 2) (fun b w' => CanL w' ⟨some ⟨b, 0, none⟩, 2, 2⟩ (fac1 q))
        | 4 => .spec (SH) (default) (SH.v) (fun x w' => OffX bt w' x (mul5V a (fac1 q)))
        | _ => .quiet) (fun | 3 => [2] | 4 => [3] | _ => []) (by kernel_rfl) (by kernel_rfl) (fun w0 he0 hz0 hc0 hf0 => ?_)
      replace he0 := Lib.hid he0
      simp only [List.take_succ_cons, List.take_zero]
      repeat (refine wpF_quiet rfl rfl rfl (fun K hK => ?_); go_big_quiet_op; refine hK _ ?_; clear hK K)
      refine wpF_spec rfl rfl (fun w1 hw1 hG => ?_) (fun x2 => ?_)
      · have hW := he0.out.trans hw1
        refine spec_call [.int .i64 (-1)] rfl rfl Tryz.func8 (by kernel_rfl) (by kernel_rfl) ?_
        exact rof3_any (-1) _ (by decide) (by decide)
      simp only [Act.put, List.setIfInBounds_toArray, List.set_cons_succ, List.set_cons_zero]
      repeat (refine wpF_quiet rfl rfl rfl (fun K hK => ?_); go_big_quiet_op; refine hK _ ?_; clear hK K)
      refine wpF_spec rfl rfl (fun w1 hw1 hG => ?_) (fun x3 => ?_)
      · have hW := he0.out.trans hw1
        obtain ⟨wa2, hwa2, g2⟩ : Since _ _ := hG 2 (by decide)
        replace g2 := g2.ext hwa2
        exact spec_build2 x10 x2 _ _ (G10.out.ext hW) g2 rfl (by simp [execOp, go_sem])
      simp only [Act.put, List.setIfInBounds_toArray, List.set_cons_succ, List.set_cons_zero]
      repeat (refine wpF_quiet rfl rfl rfl (fun K hK => ?_); go_big_quiet_op; refine hK _ ?_; clear hK K)
      refine wpF_spec rfl rfl (fun w1 hw1 hG => ?_) (fun x4 => ?_)
      · have hW := he0.out.trans hw1
        obtain ⟨wa3, hwa3, g3⟩ : Since _ _ := hG 3 (by decide)
        replace g3 := g3.ext hwa3
        refine spec_call [.slice xa xn xc, .slice (some ⟨x3, 0, none⟩) 2 2] rfl rfl Tryz.func12 (by kernel_rfl) (by kernel_rfl) ?_
        exact (mul5_any xa (some ⟨x3, 0, none⟩) xn xc 2 2 a (fac1 q) 3 _ ((LA.out.ext hW).can.raw ZA.out (by decide)) (g3.raw ZF.out (by decide)) (by omega) (by decide) ZA.out ZF.out (by decide)).wk (fun _ _ _ h => ⟨_, h.off (Nat.lt_of_lt_of_le l_BT hW.size)⟩)
      simp only [Act.put, List.setIfInBounds_toArray, List.set_cons_succ, List.set_cons_zero]
      repeat (refine wpF_quiet rfl rfl rfl (fun K hK => ?_); go_big_quiet_op; refine hK _ ?_; clear hK K)
      refine wpF_nil ?_
      intro w11 hI
      have hE := he0.out.trans hI.ext
      obtain ⟨wa2, hwa2, g2⟩ : Since _ _ := hI.facts 2
      have G2 := Lib.hid (g2.ext hwa2)
      clear g2 hwa2
      obtain ⟨wa3, hwa3, g3⟩ : Since _ _ := hI.facts 3
      have G3 := Lib.hid (g3.ext hwa3)
      clear g3 hwa3
      obtain ⟨wa4, hwa4, g4⟩ : Since _ _ := hI.facts 4
      have G4 := Lib.hid (g4.ext hwa4)
      clear g4 hwa4
      clear hI he0 hz0 hc0 hf0
      replace HX := Lib.hid (HX.out.trans hE)
      replace BT := Lib.hid (hE.block BT.out)
      replace LA := Lib.hid (LA.out.ext hE)
      replace B7 := Lib.hid (hE.block B7.out)
      replace B8 := Lib.hid (hE.block B8.out)
      replace G6' := Lib.hid (G6'.out.ext hE)
      replace G8' := Lib.hid (G8'.out.ext hE)
      replace G10 := Lib.hid (G10.out.ext hE)
      have hs_w11 := hE.size
      clear hE
      (try clear c_BT f_BT l_BT)
      have c_BT := blk_cell BT.out
      have f_BT := blk_frozen BT.out
      have l_BT := (Array.getElem?_eq_some_iff.1 BT.out).1
      (try clear c_B7 f_B7 l_B7)
      have c_B7 := blk_cell B7.out
      have f_B7 := blk_frozen B7.out
      have l_B7 := (Array.getElem?_eq_some_iff.1 B7.out).1
      (try clear c_B8 f_B8 l_B8)
      have c_B8 := blk_cell B8.out
      have f_B8 := blk_frozen B8.out
      have l_B8 := (Array.getElem?_eq_some_iff.1 B8.out).1
      simp only [List.drop_succ_cons, List.drop_zero]
      clear G2
      clear G3
      go_upto_region 11 with fail
      obtain ⟨p, hp⟩ : ∃ p, p = decide (((1 : Int) : Rat) < q.abs) := ⟨_, rfl⟩
      rw [← hp] at HR2
      have Hp := Lib.hid hp
      clear hp HF
      have Z1 : Hid (Sz 1 ((1 : Int) : Rat)) := Lib.hid (Sz.int (by decide))
      cases want
      case true =>
        refine wp_region_front 6 (fun opIx => match opIx with
          | 2 => .spec RH default RH.v (fun s w' => CanR w' s (((1 : Int) : Rat)))
          | 4 => .spec RH default RH.v (fun s w' => CanR w' s (q.abs))
          | 5 => .spec Unit () (fun _ => .bool p) (fun _ _ => True)
          | _ => .quiet) (fun | 5 => [2, 4] | _ => []) (by kernel_rfl) (by kernel_rfl) (fun w0 he0 hz0 hc0 hf0 => ?_)
        replace he0 := Lib.hid he0
        simp only [List.take_succ_cons, List.take_zero]
        repeat (refine wpF_quiet rfl rfl rfl (fun K hK => ?_); go_big_quiet_op; refine hK _ ?_; clear hK K)
        refine wpF_spec rfl rfl (fun w1 hw1 hG => ?_) (fun x12 => ?_)
        · have hW := he0.out.trans hw1
          refine spec_call [.int .i64 1] rfl rfl Tryz.func8 (by kernel_rfl) (by kernel_rfl) ?_
          exact rof3_any 1 _ (by decide) (by decide)
        simp only [Act.put, List.setIfInBounds_toArray, List.set_cons_succ, List.set_cons_zero]
        repeat (refine wpF_quiet rfl rfl rfl (fun K hK => ?_); go_big_quiet_op; refine hK _ ?_; clear hK K)
        refine wpF_spec rfl rfl (fun w1 hw1 hG => ?_) (fun x14 => ?_)
        · have hW := he0.out.trans hw1
          refine spec_call [x10.v] rfl rfl Tryz.func14 (by kernel_rfl) (by kernel_rfl) ?_
          exact rabs3_any x10 q _ ((G10.out.ext hW).raw ZQ.out (by decide))
        simp only [Act.put, List.setIfInBounds_toArray, List.set_cons_succ, List.set_cons_zero]
        repeat (refine wpF_quiet rfl rfl rfl (fun K hK => ?_); go_big_quiet_op; refine hK _ ?_; clear hK K)
        refine wpF_spec rfl rfl (fun w1 hw1 hG => ?_) (fun x5 => ?_)
        · have hW := he0.out.trans hw1
          obtain ⟨wa12, hwa12, g12⟩ : Since _ _ := hG 2 (by decide)
          replace g12 := g12.ext hwa12
          obtain ⟨wa14, hwa14, g14⟩ : Since _ _ := hG 4 (by decide)
          replace g14 := g14.ext hwa14
          refine spec_call [x12.v, x14.v] rfl rfl Tryz.func13 (by kernel_rfl) (by kernel_rfl) ?_
          exact (by rw [Hp.out]; exact rless3_any x12 x14 _ _ _ (g12.raw Z1.out (by decide)) (g14.raw ZQ.out.abs (by decide)))
        simp only [Act.put, List.setIfInBounds_toArray, List.set_cons_succ, List.set_cons_zero]
        repeat (refine wpF_quiet rfl rfl rfl (fun K hK => ?_); go_big_quiet_op; refine hK _ ?_; clear hK K)
        refine wpF_nil ?_
        intro w12 hI
        have hE := he0.out.trans hI.ext
        obtain ⟨wa12, hwa12, g12⟩ : Since _ _ := hI.facts 2
        have G12 := Lib.hid (g12.ext hwa12)
        clear g12 hwa12
        obtain ⟨wa14, hwa14, g14⟩ : Since _ _ := hI.facts 4
        have G14 := Lib.hid (g14.ext hwa14)
        clear g14 hwa14
        clear hI he0 hz0 hc0 hf0
        replace HX := Lib.hid (HX.out.trans hE)
        replace BT := Lib.hid (hE.block BT.out)
        replace LA := Lib.hid (LA.out.ext hE)
        replace B7 := Lib.hid (hE.block B7.out)
        replace B8 := Lib.hid (hE.block B8.out)
        replace G6' := Lib.hid (G6'.out.ext hE)
        replace G8' := Lib.hid (G8'.out.ext hE)
        replace G10 := Lib.hid (G10.out.ext hE)
        replace G4 := Lib.hid (G4.out.ext hE)
        have hs_w12 := hE.size
        clear hE
        (try clear c_BT f_BT l_BT)
        have c_BT := blk_cell BT.out
        have f_BT := blk_frozen BT.out
        have l_BT := (Array.getElem?_eq_some_iff.1 BT.out).1
        (try clear c_B7 f_B7 l_B7)
        have c_B7 := blk_cell B7.out
        have f_B7 := blk_frozen B7.out
        have l_B7 := (Array.getElem?_eq_some_iff.1 B7.out).1
        (try clear c_B8 f_B8 l_B8)
        have c_B8 := blk_cell B8.out
        have f_B8 := blk_frozen B8.out
        have l_B8 := (Array.getElem?_eq_some_iff.1 B8.out).1
        simp only [List.drop_succ_cons, List.drop_zero]
        obtain ⟨oc2, h4⟩ := G4.out
        go_wp2
        go_roundg g0
        case measure => omega
        case rel => exact ⟨j + 1, x4, _, p, at9, oc2, rfl, rfl, by go_num, by omega, HX.out, BT.out, ha5, ha6, h4, HR2.out⟩
      case false =>
        obtain ⟨oc2, h4⟩ := G4.out
        go_quiet (fail)
        go_wp2
        go_roundg g0
        case measure => omega
        case rel => exact ⟨j + 1, x4, _, false, at9, oc2, rfl, rfl, by go_num, by omega, HX.out.trans (Ext.drewN _ _), (Ext.drewN _ _).block BT.out, ha5, ha6, h4.ext (Ext.drewN _ _), HR2.out⟩
    have hsb : (v9 == 0) = false := by simpa using hs
    go_wp2_with fail
    refine Calls.mono (HI.out bt w9 at9 9 hbtw HX.out BT.out ha5 ha6 (by decide) (by decide)) ?_
    rintro e w11 ⟨v11, at11, w110, rfl, hv7, hv8, ha7, ha8, T, hE⟩
    replace HX := Lib.hid (T.ext HX.out (by omega))
    replace BT := Lib.hid (T.bx)
    replace LA := Lib.hid (LA.out.put T (by omega))
    replace B7 := Lib.hid (T.rest _ _ (by omega) B7.out)
    replace B8 := Lib.hid (T.rest _ _ (by omega) B8.out)
    replace G6' := Lib.hid (G6'.out.keep T.keep)
    replace G8' := Lib.hid (G8'.out.keep T.keep)
    have hs_w110 := Nat.le_of_eq T.size
    have hr_w110 := Nat.le_of_eq T.size.symm
    clear T
    (try clear c_BT f_BT l_BT)
    have c_BT := blk_cell BT.out
    have f_BT := blk_frozen BT.out
    have l_BT := (Array.getElem?_eq_some_iff.1 BT.out).1
    (try clear c_B7 f_B7 l_B7)
    have c_B7 := blk_cell B7.out
    have f_B7 := blk_frozen B7.out
    have l_B7 := (Array.getElem?_eq_some_iff.1 B7.out).1
    (try clear c_B8 f_B8 l_B8)
    have c_B8 := blk_cell B8.out
    have f_B8 := blk_frozen B8.out
    have l_B8 := (Array.getElem?_eq_some_iff.1 B8.out).1
    replace HX := Lib.hid (HX.out.trans hE)
    replace BT := Lib.hid (hE.block BT.out)
    replace LA := Lib.hid (LA.out.ext hE)
    replace B7 := Lib.hid (hE.block B7.out)
    replace B8 := Lib.hid (hE.block B8.out)
    replace G6' := Lib.hid (G6'.out.ext hE)
    replace G8' := Lib.hid (G8'.out.ext hE)
    have hs_w11 := hE.size
    clear hE
    (try clear c_BT f_BT l_BT)
    have c_BT := blk_cell BT.out
    have f_BT := blk_frozen BT.out
    have l_BT := (Array.getElem?_eq_some_iff.1 BT.out).1
    (try clear c_B7 f_B7 l_B7)
    have c_B7 := blk_cell B7.out
    have f_B7 := blk_frozen B7.out
    have l_B7 := (Array.getElem?_eq_some_iff.1 B7.out).1
    (try clear c_B8 f_B8 l_B8)
    have c_B8 := blk_cell B8.out
    have f_B8 := blk_frozen B8.out
    have l_B8 := (Array.getElem?_eq_some_iff.1 B8.out).1
    obtain ⟨c, rfl⟩ : ∃ c : Nat, v11 = (c : Nat) := ⟨v11.toNat, by omega⟩
    have hc9 : c < 9 := by omega
    go_wp2_with fail
    refine Calls.mono (rfrac3_any ((c : Int) - 4) 5 _ (by omega) (by omega) (by decide) (by decide)) ?_
    rintro e w12 ⟨x12, rfl, hE, g12⟩
    have G12 := Lib.hid g12
    clear g12
    replace HX := Lib.hid (HX.out.trans hE)
    replace BT := Lib.hid (hE.block BT.out)
    replace LA := Lib.hid (LA.out.ext hE)
    replace B7 := Lib.hid (hE.block B7.out)
    replace B8 := Lib.hid (hE.block B8.out)
    replace G6' := Lib.hid (G6'.out.ext hE)
    replace G8' := Lib.hid (G8'.out.ext hE)
    have hs_w12 := hE.size
    clear hE
    (try clear c_BT f_BT l_BT)
    have c_BT := blk_cell BT.out
    have f_BT := blk_frozen BT.out
    have l_BT := (Array.getElem?_eq_some_iff.1 BT.out).1
    (try clear c_B7 f_B7 l_B7)
    have c_B7 := blk_cell B7.out
    have f_B7 := blk_frozen B7.out
    have l_B7 := (Array.getElem?_eq_some_iff.1 B7.out).1
    (try clear c_B8 f_B8 l_B8)
    have c_B8 := blk_cell B8.out
    have f_B8 := blk_frozen B8.out
    have l_B8 := (Array.getElem?_eq_some_iff.1 B8.out).1
    go_upto_region 13 with fail
    refine nm_alloc ?_
    intro y13 hE hB0 hz
    have hz_y13 := Nat.le_of_eq hz
    have hr_y13 := Nat.le_of_eq hz.symm
    clear hz
    replace HX := Lib.hid (HX.out.trans hE)
    replace BT := Lib.hid (hE.block BT.out)
    replace LA := Lib.hid (LA.out.ext hE)
    replace B7 := Lib.hid (hE.block B7.out)
    replace B8 := Lib.hid (hE.block B8.out)
    replace G6' := Lib.hid (G6'.out.ext hE)
    replace G8' := Lib.hid (G8'.out.ext hE)
    replace G12 := Lib.hid (G12.out.ext hE)
    have hs_y13 := hE.size
    clear hE
    (try clear c_BT f_BT l_BT)
    have c_BT := blk_cell BT.out
    have f_BT := blk_frozen BT.out
    have l_BT := (Array.getElem?_eq_some_iff.1 BT.out).1
    (try clear c_B7 f_B7 l_B7)
    have c_B7 := blk_cell B7.out
    have f_B7 := blk_frozen B7.out
    have l_B7 := (Array.getElem?_eq_some_iff.1 B7.out).1
    (try clear c_B8 f_B8 l_B8)
    have c_B8 := blk_cell B8.out
    have f_B8 := blk_frozen B8.out
    have l_B8 := (Array.getElem?_eq_some_iff.1 B8.out).1
    have B13 := Lib.hid hB0
    clear hB0
    have c_B13 := blk_cell B13.out
    have f_B13 := blk_frozen B13.out
    have l_B13 := (Array.getElem?_eq_some_iff.1 B13.out).1
    obtain ⟨b13, hb13⟩ : ∃ b, b = w12.heap.size := ⟨_, rfl⟩
    have h13w : wr.heap.size ≤ b13 := by omega
    rw [← hb13] at B13 ⊢
    clear hb13 c_B13 f_B13 l_B13
    (try clear c_BT f_BT l_BT)
    have c_BT := blk_cell BT.out
    have f_BT := blk_frozen BT.out
    have l_BT := (Array.getElem?_eq_some_iff.1 BT.out).1
    (try clear c_B7 f_B7 l_B7)
    have c_B7 := blk_cell B7.out
    have f_B7 := blk_frozen B7.out
    have l_B7 := (Array.getElem?_eq_some_iff.1 B7.out).1
    (try clear c_B8 f_B8 l_B8)
    have c_B8 := blk_cell B8.out
    have f_B8 := blk_frozen B8.out
    have l_B8 := (Array.getElem?_eq_some_iff.1 B8.out).1
    (try clear c_B13 f_B13 l_B13)
    have c_B13 := blk_cell B13.out
    have f_B13 := blk_frozen B13.out
    have l_B13 := (Array.getElem?_eq_some_iff.1 B13.out).1
    obtain ⟨q, hq⟩ : ∃ q, q = fr (1 + (t : Int)) 8 := ⟨_, rfl⟩
    obtain ⟨y, hy⟩ : ∃ y, y = fr ((c : Int) - 4) 5 := ⟨_, rfl⟩
    have ZY : Hid (Sz 1 y) := Lib.hid (by rw [hy]; have h := cos_sz c hc9; exact ⟨by rw [Nat.pow_one]; exact h.1, by rw [Nat.pow_one]; exact h.2⟩)
    have HF : Hid (RtF (fac2 q y) (decide (((1 : Int) : Rat) < q))) := Lib.hid (by rw [hq, hy]; exact facB_ok (fac2_all t ht c hc9))
    have G12' : Hid (CanR y13 x12 y) := Lib.hid (by rw [hy]; exact G12.out)
    rw [← hq] at G6' Z6
    have ZQ := Lib.hid Z6.out
    have Z2 : Hid (Sz 1 ((-2 : Int) : Rat)) := Lib.hid (Sz.int (by decide))
    have Z1 : Hid (Sz 1 ((1 : Int) : Rat)) := Lib.hid (Sz.int (by decide))
    have ZF : Hid (SzL 3 (fac2 q y)) := Lib.hid (by
      intro z hz
      unfold fac2 at hz
      rcases List.mem_cons.1 hz with rfl | hz
      · exact (ZQ.out.mul ZQ.out).mono (by decide)
      · rcases List.mem_cons.1 hz with rfl | hz
        · exact Z2.out.mul (ZQ.out.mul ZY.out)
        · obtain rfl : z = ((1 : Int) : Rat) := by simpa using hz
          exact Z1.out.mono (by decide))
    have HR2 := Lib.hid (HR.out.step HF.out (by omega))
    clear hq hy Z6 Z8
    clear G12
    clear G8'
    refine wp_region_front 12 (fun opIx => match opIx with
      | 3 => .spec RH default RH.v (fun s w' => CanR w' s (q * q))
      | 4 => .spec RH default RH.v (fun s w' => CanR w' s (((-2 : Int) : Rat)))
      | 7 => .spec RH default RH.v (fun s w' => CanR w' s (q * y))
      | 8 => .spec RH default RH.v (fun s w' => CanR w' s (((-2 : Int) : Rat) * (q * y)))
      | 9 => .spec RH default RH.v (fun s w' => CanR w' s (((1 : Int) : Rat)))
      | 10 => .spec (Nat) (0) (fun b => .slice (some ⟨b, 0, none⟩) 3 3) (fun b w' => CanL w' ⟨some ⟨b, 0, none⟩, 3, 3⟩ (fac2 q y))
      | 11 => .spec (SH) (default) (SH.v) (fun x w' => OffX bt w' x (mul5V a (fac2 q y)))
      | _ => .quiet) (fun | 8 => [4, 7] | 10 => [3, 8, 9] | 11 => [10] | _ => []) (by kernel_rfl) (by kernel_rfl) (fun w0 he0 hz0 hc0 hf0 => ?_)
    replace he0 := Lib.hid he0
    simp only [List.take_succ_cons, List.take_zero]
    repeat (refine wpF_quiet rfl rfl rfl (fun K hK => ?_); go_big_quiet_op; refine hK _ ?_; clear hK K)
    refine wpF_spec rfl rfl (fun w1 hw1 hG => ?_) (fun x20 => ?_)
    · have hW := he0.out.trans hw1
      refine spec_call [x6.v, x6.v] rfl rfl Tryz.func11 (by kernel_rfl) (by kernel_rfl) ?_
      exact rmul3_any x6 x6 _ _ _ ((G6'.out.ext hW).raw ZQ.out (by decide)) ((G6'.out.ext hW).raw ZQ.out (by decide))
    simp only [Act.put, List.setIfInBounds_toArray, List.set_cons_succ, List.set_cons_zero]
    repeat (refine wpF_quiet rfl rfl rfl (fun K hK => ?_); go_big_quiet_op; refine hK _ ?_; clear hK K)
    refine wpF_spec rfl rfl (fun w1 hw1 hG => ?_) (fun x21 => ?_)
    · have hW := he0.out.trans hw1
      refine spec_call [.int .i64 (-2)] rfl rfl Tryz.func8 (by kernel_rfl) (by kernel_rfl) ?_
      exact rof3_any (-2) _ (by decide) (by decide)
    simp only [Act.put, List.setIfInBounds_toArray, List.set_cons_succ, List.set_cons_zero]
    repeat (refine wpF_quiet rfl rfl rfl (fun K hK => ?_); go_big_quiet_op; refine hK _ ?_; clear hK K)
    refine wpF_spec rfl rfl (fun w1 hw1 hG => ?_) (fun x22 => ?_)
    · have hW := he0.out.trans hw1
      refine spec_call [x6.v, x12.v] rfl rfl Tryz.func11 (by kernel_rfl) (by kernel_rfl) ?_
      exact rmul3_any x6 x12 _ _ _ ((G6'.out.ext hW).raw ZQ.out (by decide)) ((G12'.out.ext hW).raw ZY.out (by decide))
    simp only [Act.put, List.setIfInBounds_toArray, List.set_cons_succ, List.set_cons_zero]
    repeat (refine wpF_quiet rfl rfl rfl (fun K hK => ?_); go_big_quiet_op; refine hK _ ?_; clear hK K)
    refine wpF_spec rfl rfl (fun w1 hw1 hG => ?_) (fun x23 => ?_)
    · have hW := he0.out.trans hw1
      obtain ⟨wa21, hwa21, g21⟩ : Since _ _ := hG 4 (by decide)
      replace g21 := g21.ext hwa21
      obtain ⟨wa22, hwa22, g22⟩ : Since _ _ := hG 7 (by decide)
      replace g22 := g22.ext hwa22
      refine spec_call [x21.v, x22.v] rfl rfl Tryz.func11 (by kernel_rfl) (by kernel_rfl) ?_
      exact rmul3_any x21 x22 _ _ _ (g21.raw Z2.out (by decide)) (g22.raw (ZQ.out.mul ZY.out) (by decide))
    simp only [Act.put, List.setIfInBounds_toArray, List.set_cons_succ, List.set_cons_zero]
    repeat (refine wpF_quiet rfl rfl rfl (fun K hK => ?_); go_big_quiet_op; refine hK _ ?_; clear hK K)
    refine wpF_spec rfl rfl (fun w1 hw1 hG => ?_) (fun x24 => ?_)
    · have hW := he0.out.trans hw1
      refine spec_call [.int .i64 1] rfl rfl Tryz.func8 (by kernel_rfl) (by kernel_rfl) ?_
      exact rof3_any 1 _ (by decide) (by decide)
    simp only [Act.put, List.setIfInBounds_toArray, List.set_cons_succ, List.set_cons_zero]
    repeat (refine wpF_quiet rfl rfl rfl (fun K hK => ?_); go_big_quiet_op; refine hK _ ?_; clear hK K)
    refine wpF_spec rfl rfl (fun w1 hw1 hG => ?_) (fun x25 => ?_)
    · have hW := he0.out.trans hw1
      obtain ⟨wa20, hwa20, g20⟩ : Since _ _ := hG 3 (by decide)
      replace g20 := g20.ext hwa20
      obtain ⟨wa23, hwa23, g23⟩ : Since _ _ := hG 8 (by decide)
      replace g23 := g23.ext hwa23
      obtain ⟨wa24, hwa24, g24⟩ : Since _ _ := hG 9 (by decide)
      replace g24 := g24.ext hwa24
      exact spec_build3 x20 x23 x24 _ _ _ g20 g23 g24 rfl (by simp [execOp, go_sem])
    simp only [Act.put, List.setIfInBounds_toArray, List.set_cons_succ, List.set_cons_zero]
    repeat (refine wpF_quiet rfl rfl rfl (fun K hK => ?_); go_big_quiet_op; refine hK _ ?_; clear hK K)
    refine wpF_spec rfl rfl (fun w1 hw1 hG => ?_) (fun x26 => ?_)
    · have hW := he0.out.trans hw1
      obtain ⟨wa25, hwa25, g25⟩ : Since _ _ := hG 10 (by decide)
      replace g25 := g25.ext hwa25
      refine spec_call [.slice xa xn xc, .slice (some ⟨x25, 0, none⟩) 3 3] rfl rfl Tryz.func12 (by kernel_rfl) (by kernel_rfl) ?_
      exact (mul5_any xa (some ⟨x25, 0, none⟩) xn xc 3 3 a (fac2 q y) 3 _ ((LA.out.ext hW).can.raw ZA.out (by decide)) (g25.raw ZF.out (by decide)) (by omega) (by decide) ZA.out ZF.out (by decide)).wk (fun _ _ _ h => ⟨_, h.off (Nat.lt_of_lt_of_le l_BT hW.size)⟩)
    simp only [Act.put, List.setIfInBounds_toArray, List.set_cons_succ, List.set_cons_zero]
    repeat (refine wpF_quiet rfl rfl rfl (fun K hK => ?_); go_big_quiet_op; refine hK _ ?_; clear hK K)
    refine wpF_nil ?_
    intro w14 hI
    have hE := he0.out.trans hI.ext
    obtain ⟨wa20, hwa20, g20⟩ : Since _ _ := hI.facts 3
    have G20 := Lib.hid (g20.ext hwa20)
    clear g20 hwa20
    obtain ⟨wa21, hwa21, g21⟩ : Since _ _ := hI.facts 4
    have G21 := Lib.hid (g21.ext hwa21)
    clear g21 hwa21
    obtain ⟨wa22, hwa22, g22⟩ : Since _ _ := hI.facts 7
    have G22 := Lib.hid (g22.ext hwa22)
    clear g22 hwa22
    obtain ⟨wa23, hwa23, g23⟩ : Since _ _ := hI.facts 8
    have G23 := Lib.hid (g23.ext hwa23)
    clear g23 hwa23
    obtain ⟨wa24, hwa24, g24⟩ : Since _ _ := hI.facts 9
    have G24 := Lib.hid (g24.ext hwa24)
    clear g24 hwa24
    obtain ⟨wa25, hwa25, g25⟩ : Since _ _ := hI.facts 10
    have G25 := Lib.hid (g25.ext hwa25)
    clear g25 hwa25
    obtain ⟨wa26, hwa26, g26⟩ : Since _ _ := hI.facts 11
    have G26 := Lib.hid (g26.ext hwa26)
    clear g26 hwa26
    clear hI he0 hz0 hc0 hf0
    replace HX := Lib.hid (HX.out.trans hE)
    replace BT := Lib.hid (hE.block BT.out)
    replace LA := Lib.hid (LA.out.ext hE)
    replace B7 := Lib.hid (hE.block B7.out)
    replace B8 := Lib.hid (hE.block B8.out)
    replace G6' := Lib.hid (G6'.out.ext hE)
    replace B13 := Lib.hid (hE.block B13.out)
    replace G12' := Lib.hid (G12'.out.ext hE)
    have hs_w14 := hE.size
    clear hE
    (try clear c_BT f_BT l_BT)
    have c_BT := blk_cell BT.out
    have f_BT := blk_frozen BT.out
    have l_BT := (Array.getElem?_eq_some_iff.1 BT.out).1
    (try clear c_B7 f_B7 l_B7)
    have c_B7 := blk_cell B7.out
    have f_B7 := blk_frozen B7.out
    have l_B7 := (Array.getElem?_eq_some_iff.1 B7.out).1
    (try clear c_B8 f_B8 l_B8)
    have c_B8 := blk_cell B8.out
    have f_B8 := blk_frozen B8.out
    have l_B8 := (Array.getElem?_eq_some_iff.1 B8.out).1
    (try clear c_B13 f_B13 l_B13)
    have c_B13 := blk_cell B13.out
    have f_B13 := blk_frozen B13.out
    have l_B13 := (Array.getElem?_eq_some_iff.1 B13.out).1
    simp only [List.drop_succ_cons, List.drop_zero]
    clear G20
    clear G21
    clear G22
    clear G23
    clear G24
    clear G25
    go_upto_region 14 with fail
    obtain ⟨p, hp⟩ : ∃ p, p = decide (((1 : Int) : Rat) < q) := ⟨_, rfl⟩
    rw [← hp] at HR2
    have Hp := Lib.hid hp
    clear hp HF
    obtain ⟨oc2, h4⟩ := G26.out
    clear G26
    have H4 := Lib.hid h4
    clear h4
    cases want
    case true =>
      refine wp_region_front 5 (fun opIx => match opIx with
        | 2 => .spec RH default RH.v (fun s w' => CanR w' s (((1 : Int) : Rat)))
        | 4 => .spec Unit () (fun _ => .bool p) (fun _ _ => True)
        | _ => .quiet) (fun | 4 => [2] | _ => []) (by kernel_rfl) (by kernel_rfl) (fun w0 he0 hz0 hc0 hf0 => ?_)
      replace he0 := Lib.hid he0
      simp only [List.take_succ_cons, List.take_zero]
      repeat (refine wpF_quiet rfl rfl rfl (fun K hK => ?_); go_big_quiet_op; refine hK _ ?_; clear hK K)
      refine wpF_spec rfl rfl (fun w1 hw1 hG => ?_) (fun x32 => ?_)
      · have hW := he0.out.trans hw1
        refine spec_call [.int .i64 1] rfl rfl Tryz.func8 (by kernel_rfl) (by kernel_rfl) ?_
        exact rof3_any 1 _ (by decide) (by decide)
      simp only [Act.put, List.setIfInBounds_toArray, List.set_cons_succ, List.set_cons_zero]
      repeat (refine wpF_quiet rfl rfl rfl (fun K hK => ?_); go_big_quiet_op; refine hK _ ?_; clear hK K)
      refine wpF_spec rfl rfl (fun w1 hw1 hG => ?_) (fun x33 => ?_)
      · have hW := he0.out.trans hw1
        obtain ⟨wa32, hwa32, g32⟩ : Since _ _ := hG 2 (by decide)
        replace g32 := g32.ext hwa32
        refine spec_call [x32.v, x6.v] rfl rfl Tryz.func13 (by kernel_rfl) (by kernel_rfl) ?_
        exact (by rw [Hp.out]; exact rless3_any x32 x6 _ _ _ (g32.raw Z1.out (by decide)) ((G6'.out.ext hW).raw ZQ.out (by decide)))
      simp only [Act.put, List.setIfInBounds_toArray, List.set_cons_succ, List.set_cons_zero]
      repeat (refine wpF_quiet rfl rfl rfl (fun K hK => ?_); go_big_quiet_op; refine hK _ ?_; clear hK K)
      refine wpF_nil ?_
      intro w15 hI
      have hE := he0.out.trans hI.ext
      obtain ⟨wa32, hwa32, g32⟩ : Since _ _ := hI.facts 2
      have G32 := Lib.hid (g32.ext hwa32)
      clear g32 hwa32
      clear hI he0 hz0 hc0 hf0
      replace HX := Lib.hid (HX.out.trans hE)
      replace BT := Lib.hid (hE.block BT.out)
      replace LA := Lib.hid (LA.out.ext hE)
      replace B7 := Lib.hid (hE.block B7.out)
      replace B8 := Lib.hid (hE.block B8.out)
      replace G6' := Lib.hid (G6'.out.ext hE)
      replace B13 := Lib.hid (hE.block B13.out)
      replace G12' := Lib.hid (G12'.out.ext hE)
      replace H4 := Lib.hid (H4.out.ext hE)
      have hs_w15 := hE.size
      clear hE
      (try clear c_BT f_BT l_BT)
      have c_BT := blk_cell BT.out
      have f_BT := blk_frozen BT.out
      have l_BT := (Array.getElem?_eq_some_iff.1 BT.out).1
      (try clear c_B7 f_B7 l_B7)
      have c_B7 := blk_cell B7.out
      have f_B7 := blk_frozen B7.out
      have l_B7 := (Array.getElem?_eq_some_iff.1 B7.out).1
      (try clear c_B8 f_B8 l_B8)
      have c_B8 := blk_cell B8.out
      have f_B8 := blk_frozen B8.out
      have l_B8 := (Array.getElem?_eq_some_iff.1 B8.out).1
      (try clear c_B13 f_B13 l_B13)
      have c_B13 := blk_cell B13.out
      have f_B13 := blk_frozen B13.out
      have l_B13 := (Array.getElem?_eq_some_iff.1 B13.out).1
      simp only [List.drop_succ_cons, List.drop_zero]
      go_wp2
      go_roundg g0
      case measure => omega
      case rel => exact ⟨j + 1, x26, _, p, at11, oc2, rfl, rfl, by go_num, by omega, HX.out, BT.out, ha7, ha8, H4.out, HR2.out⟩
    case false =>
      go_quiet (fail)
      go_wp2
      go_roundg g0
      case measure => omega
      case rel => exact ⟨j + 1, x26, _, false, at11, oc2, rfl, rfl, by go_num, by omega, HX.out.trans (Ext.drewN _ _), (Ext.drewN _ _).block BT.out, ha7, ha8, H4.out.ext (Ext.drewN _ _), HR2.out⟩
end Go.Proofs.YtbcamhfoemnmgaaGreat
