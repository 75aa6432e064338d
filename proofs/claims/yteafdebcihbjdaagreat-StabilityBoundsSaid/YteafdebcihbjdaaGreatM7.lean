/- Int2, Int3, Rf3, Rf4, Lst1, Lst2, Nm, Own -/
import Derived.Test.YteafdebcihbjdaaGreatM6
set_option linter.unusedVariables false
/- Integers of the reference 02. -/
namespace Go.Proofs.YteafdebcihbjdaaGreat
open Go.RowKit Go.Front Go.Num
attribute [local go_sem] XW.cell XW.frozen
/-- Two cells of any block without digits are written: an integer. -/
theorem one_box {w w1 : World} {b : Nat} {T : TypeId} {c0 c1 : Value} (hE : Ext w w1) (h4 : w1.heap[b]? = some (.cells #[c0, c1] T (0, 0))) (l4 : w.heap.size ≤ b) (hc : #[c0, c1].toList.all nonU = true) (x : IH) :
    ∃ w2, w2 = stI w1 b x ∧ One w w1 b T x w2 := by
  have f1 : Fin w w1 b (stI w1 b x) := ((Fin.start hE (noU_block h4 hc)).set l4 rfl).set l4 rfl
  have m1 : Mods (· = b) w1 (stI w1 b x) := (Mods.setCell w1 ⟨b, 0, none⟩ _).trans (Mods.setCell _ ⟨b, 1, none⟩ _)
  exact ⟨_, rfl, f1.ext, f1.keep, blk_set (blk_set h4 0 _) 1 _, fun k o h1 h3 => m1.blk h1 h3, m1.size⟩
theorem one_cell {w w1 : World} {b : Nat} {T : TypeId} {c0 : Bool} {a : Option Addr} {n c : Nat} (hE : Ext w w1) (h4 : w1.heap[b]? = some (.cells #[.bool c0, .slice a n c] T (0, 0))) (l4 : w.heap.size ≤ b) (v : Bool) :
    ∃ w2, w2 = w1.setCell ⟨b, 0, none⟩ (.bool v) ∧ One w w1 b T ⟨v, a, n, c⟩ w2 := by
  have f1 := (Fin.start hE (noU_block h4 rfl)).set l4 (i := 0) (v := .bool v) rfl
  have m1 := Mods.setCell w1 ⟨b, 0, none⟩ (.bool v)
  exact ⟨_, rfl, f1.ext, f1.keep, blk_set h4 0 _, fun k o h1 h3 => m1.blk h1 h3, m1.size⟩
theorem stI_size (w : World) (b : Nat) (x : IH) : (stI w b x).heap.size = w.heap.size := by simp [stI, World.setCell]
structure TwoI (w w1 : World) (b c : Nat) (T S : TypeId) (x y : IH) (w2 : World) : Prop where
  ext : Ext w w2
  keep : Keep w1 w2
  bx : w2.heap[b]? = some (.cells #[.bool x.neg, .slice x.a x.n x.c] T (0, 0))
  cy : w2.heap[c]? = some (.cells #[.bool y.neg, .slice y.a y.n y.c] S (0, 0))
  rest : ∀ k o, k ≠ b → k ≠ c → w1.heap[k]? = some o → w2.heap[k]? = some o
  size : w1.heap.size ≤ w2.heap.size
theorem two_box {w w1 : World} {b c : Nat} {T S : TypeId} {c0 c1 d0 d1 : Value} (hE : Ext w w1) (h4 : w1.heap[b]? = some (.cells #[c0, c1] T (0, 0))) (h5 : w1.heap[c]? = some (.cells #[d0, d1] S (0, 0))) (hne : b ≠ c)
    (l4 : w.heap.size ≤ b) (l5 : w.heap.size ≤ c) (hc : #[c0, c1].toList.all nonU = true) (hd : #[d0, d1].toList.all nonU = true) (x y : IH) : ∃ w2, w2 = stI (stI w1 b x) c y ∧ TwoI w w1 b c T S x y w2 := by
  obtain ⟨u, hu, t1⟩ := one_box hE h4 l4 hc x
  obtain ⟨v, hv, t2⟩ := one_box t1.ext (t1.rest _ _ (Ne.symm hne) h5) l5 hd y
  subst hu hv
  exact ⟨_, rfl, t2.ext, fun _ _ _ _ h => t2.keep _ _ _ _ (t1.keep _ _ _ _ h), t2.rest _ _ hne t1.bx, t2.bx, fun k o h1 h2 h3 => t2.rest _ _ h2 (t1.rest _ _ h1 h3), Nat.le_trans t1.size t2.size⟩
theorem al_last {w : World} {a : Obj} : (w.alloc a).heap[w.heap.size]? = some a := heap_alloc_new w a
theorem al2_0 {w : World} {a b : Obj} : ((w.alloc a).alloc b).heap[w.heap.size]? = some a := Ext.al1.block (heap_alloc_new w a)
theorem al2_1 {w : World} {a b : Obj} : ((w.alloc a).alloc b).heap[w.heap.size + 1]? = some b := by
  have h := heap_alloc_new (w.alloc a) b
  rw [World.size_alloc] at h
  exact h
theorem al3_0 {w : World} {a b c : Obj} : (((w.alloc a).alloc b).alloc c).heap[w.heap.size]? = some a := Ext.al1.block al2_0
theorem al3_1 {w : World} {a b c : Obj} : (((w.alloc a).alloc b).alloc c).heap[w.heap.size + 1]? = some b := Ext.al1.block al2_1
theorem al3_2 {w : World} {a b c : Obj} : (((w.alloc a).alloc b).alloc c).heap[w.heap.size + 2]? = some c := by
  have h := al2_1 (w := w.alloc a) (a := b) (b := c)
  rw [World.size_alloc] at h
  exact h
theorem Ext.al4 {w : World} {a b c d : Obj} : Ext w ((((w.alloc a).alloc b).alloc c).alloc d) := Ext.al3.trans (Ext.alloc _ _)
theorem al4_0 {w : World} {a b c d : Obj} : ((((w.alloc a).alloc b).alloc c).alloc d).heap[w.heap.size]? = some a := Ext.al1.block al3_0
theorem al4_1 {w : World} {a b c d : Obj} : ((((w.alloc a).alloc b).alloc c).alloc d).heap[w.heap.size + 1]? = some b := Ext.al1.block al3_1
theorem al4_2 {w : World} {a b c d : Obj} : ((((w.alloc a).alloc b).alloc c).alloc d).heap[w.heap.size + 2]? = some c := Ext.al1.block al3_2
theorem al4_3 {w : World} {a b c d : Obj} : ((((w.alloc a).alloc b).alloc c).alloc d).heap[w.heap.size + 3]? = some d := by
  have h := al3_2 (w := w.alloc a) (a := b) (b := c) (c := d)
  rw [World.size_alloc] at h
  exact h
set_option maxRecDepth 4000 in
set_option maxHeartbeats 1000000 in
theorem itrim2_big (s : IH) (ds : List Nat) (z : Int) (w : World) (hU : U32 w s.a s.n s.c ds) (hz : z = sg s.neg (val ds)) (hn : s.n ≤ 4294967297) : Does 92 [s.v] w IH.v (fun s w' => CanI w' s z) := by
  obtain ⟨neg, ao, n, c⟩ := s
  simp only at hU hz hn
  have HU := Lib.hid hU
  have HZ := Lib.hid hz
  clear hU hz
  unfold Does
  have hnil : ∀ k : Nat, (digs (val ds)).length = k → (k = 0 ↔ val ds = 0) := fun k hk => by rw [← hk, List.length_eq_zero_iff, digs_nil]
  have HNil := Lib.hid hnil
  clear hnil
  cases neg
  · go_enter Tryz.func92, Tryz.ntmps92
    go_wp2_with fail
    refine Calls.mono (trim1_big ⟨ao, n, c⟩ ds _ (HU.out.ext Ext.al2) hn) ?_
    rintro e w1 ⟨x1, rfl, hE, g1⟩
    have G1 := Lib.hid g1
    clear g1
    obtain ⟨hcw, hfw⟩ := bcellE hE
    have hsw := hE.size
    (try simp only [World.size_alloc] at hsw)
    have hs0 : w.heap.size < w1.heap.size := by omega
    have hs1 : w.heap.size + 1 < w1.heap.size := by omega
    have hB := hE.block (heap_alloc_new _ _)
    rw [World.size_alloc] at hB
    have HB : Hid (w1.heap[w.heap.size + 1]? = some _) := Lib.hid hB
    clear hB
    have E1 := Lib.hid ((Ext.al2).trans hE)
    have X1 := Lib.hid hE
    clear hE
    obtain ⟨ao1, n1, c1⟩ := x1
    have HX := E1
    go_wp2
    have hF := (((Fin.start (L := w.heap.size + 1) HX.out (noU_block HB.out rfl)).set (by omega) (i := 0) (v := .bool false) rfl).set (by omega) (i := 1) (v := .slice ao1 n1 c1) rfl)
    exact bodyPost_ret (v := IH.v ⟨false, ao1, n1, c1⟩) (by simp [results, Tryz.results92, go_sem, blk_cell HB.out]) rfl ⟨⟨false, ao1, n1, c1⟩, rfl, hF.ext, by rw [HZ.out, sg_neg]; rfl, by rw [HZ.out, sg_natAbs]; exact hF.keep _ _ _ _ G1.out⟩
  · by_cases hv : val ds = 0
    · go_enter Tryz.func92, Tryz.ntmps92
      go_wp2_with fail
      refine Calls.mono (trim1_big ⟨ao, n, c⟩ ds _ (HU.out.ext Ext.al2) hn) ?_
      rintro e w1 ⟨x1, rfl, hE, g1⟩
      have G1 := Lib.hid g1
      clear g1
      obtain ⟨hcw, hfw⟩ := bcellE hE
      have hsw := hE.size
      (try simp only [World.size_alloc] at hsw)
      have hs0 : w.heap.size < w1.heap.size := by omega
      have hs1 : w.heap.size + 1 < w1.heap.size := by omega
      have hB := hE.block (heap_alloc_new _ _)
      rw [World.size_alloc] at hB
      have HB : Hid (w1.heap[w.heap.size + 1]? = some _) := Lib.hid hB
      clear hB
      have E1 := Lib.hid ((Ext.al2).trans hE)
      have X1 := Lib.hid hE
      clear hE
      obtain ⟨ao1, n1, c1⟩ := x1
      have h0 : n1 = 0 := (HNil.out n1 G1.out.len).2 hv
      have HV := Lib.hid hv
      clear hv
      subst h0
      have HX := E1
      go_wp2
      have hF := (((Fin.start (L := w.heap.size + 1) HX.out (noU_block HB.out rfl)).set (by omega) (i := 0) (v := .bool false) rfl).set (by omega) (i := 1) (v := .slice ao1 0 c1) rfl)
      exact bodyPost_ret (v := IH.v ⟨false, ao1, 0, c1⟩) (by simp [results, Tryz.results92, go_sem, blk_cell HB.out]) rfl ⟨⟨false, ao1, 0, c1⟩, rfl, hF.ext, by rw [HZ.out, sg_neg, HV.out]; rfl, by rw [HZ.out, sg_natAbs]; exact hF.keep _ _ _ _ G1.out⟩
    · have HV := Lib.hid hv
      clear hv
      go_enter Tryz.func92, Tryz.ntmps92
      go_wp2_with fail
      refine Calls.mono (trim1_big ⟨ao, n, c⟩ ds _ (HU.out.ext Ext.al2) hn) ?_
      rintro e w1 ⟨x1, rfl, hE, g1⟩
      have G1 := Lib.hid g1
      clear g1
      obtain ⟨hcw, hfw⟩ := bcellE hE
      have hsw := hE.size
      (try simp only [World.size_alloc] at hsw)
      have hs0 : w.heap.size < w1.heap.size := by omega
      have hs1 : w.heap.size + 1 < w1.heap.size := by omega
      have hB := hE.block (heap_alloc_new _ _)
      rw [World.size_alloc] at hB
      have HB : Hid (w1.heap[w.heap.size + 1]? = some _) := Lib.hid hB
      clear hB
      have E1 := Lib.hid ((Ext.al2).trans hE)
      have X1 := Lib.hid hE
      clear hE
      obtain ⟨ao1, n1, c1⟩ := x1
      have h0 : n1 ≠ 0 := fun h => HV.out ((HNil.out n1 G1.out.len).1 h)
      have hd : decide (0 < n1) = true := by simp; omega
      have hd' : decide (0 < (n1 : Int)) = true := by simp; omega
      have HX := E1
      go_wp2
      have hF := (((Fin.start (L := w.heap.size + 1) HX.out (noU_block HB.out rfl)).set (by omega) (i := 0) (v := .bool true) rfl).set (by omega) (i := 1) (v := .slice ao1 n1 c1) rfl)
      exact bodyPost_ret (v := IH.v ⟨true, ao1, n1, c1⟩) (by simp [results, Tryz.results92, go_sem, blk_cell HB.out]) rfl ⟨⟨true, ao1, n1, c1⟩, rfl, hF.ext, by rw [HZ.out, sg_neg]; have := HV.out; simp; omega, by rw [HZ.out, sg_natAbs]; exact hF.keep _ _ _ _ G1.out⟩
theorem itrim2_any (s : IH) (z : Int) (w : World) (h : RawI w s z) : Does 92 [s.v] w IH.v (fun s w' => CanI w' s z) := by
  obtain ⟨ds, hU, hz, hn⟩ := h
  exact itrim2_big s ds z w hU hz (by omega)
set_option maxRecDepth 4000 in
set_option maxHeartbeats 1000000 in
theorem iof2_any (n : Int) (w : World) (h1 : -9223372036854775808 ≤ n) (h2 : n ≤ 9223372036854775807) : Does 47 [.int .i64 n] w IH.v (fun s w' => CanI w' s n) := by
  unfold Does
  obtain ⟨m, hm⟩ : ∃ m : Nat, m = n.natAbs := ⟨_, rfl⟩
  have hml : m ≤ 9223372036854775808 := by omega
  have hU := u32_two (w.alloc (.cells #[.bool false, .slice none 0 0] 28)) (m % 4294967296) (m / 4294967296) (Nat.mod_lt _ (by decide)) (by omega)
  rw [World.size_alloc] at hU
  have HU := Lib.hid hU
  have HM := Lib.hid hm
  have hv : val [m % 4294967296, m / 4294967296] = m := by simp only [val]; unfold W32; omega
  have HV := Lib.hid hv
  clear hU hm hv
  by_cases hn : n < 0
  · have hw : IntKind.u64.wrap (IntKind.u64.wrap (-(n + 1)) + 1) = m := by have := HM.out; rw [wrap_u64, wrap_u64]; omega
    have hw2 : -(n + 1) + 1 = (m : Int) := by have := HM.out; omega
    have HW := Lib.hid hw
    have HW2 := Lib.hid hw2
    clear hw hw2
    have hb1 : (0 : Int) ≤ -(n + 1) := by omega
    go_enter Tryz.func47, Tryz.ntmps47
    go_wp2_with fail
    rw [HW2.out, show (m : Int) % 4294967296 = ((m % 4294967296 : Nat) : Int) by omega, show (m : Int) / 4294967296 = ((m / 4294967296 : Nat) : Int) by omega]
    refine Calls.mono (itrim2_any ⟨true, some ⟨w.heap.size + 1, 0, none⟩, 2, 2⟩ n _ ⟨_, HU.out, by rw [HV.out]; show n = -(m : Int); have := HM.out; omega, by simp only; omega⟩) ?_
    rintro e w1 ⟨x1, rfl, hE, g1⟩
    have G1 := Lib.hid g1
    have HB := Lib.hid (hE.block al2_0)
    obtain ⟨hcw, hfw⟩ := bcellE hE
    have hsw := hE.size
    simp only [World.size_alloc] at hsw
    have hs1 : w.heap.size < w1.heap.size := by omega
    have HX := Lib.hid (Ext.al2.trans hE)
    clear g1 hE
    go_wp2
    have hF := (((Fin.start (L := w.heap.size) HX.out (noU_block HB.out rfl)).set (by omega) (i := 0) (v := .bool x1.neg) rfl).set (by omega) (i := 1) (v := .slice x1.a x1.n x1.c) rfl)
    exact bodyPost_ret (v := x1.v) (by simp [results, Tryz.results47, go_sem, blk_cell HB.out]) rfl ⟨x1, rfl, hF.ext, G1.out.keep hF.keep⟩
  · have hmn : (m : Int) = n := by have := HM.out; omega
    have Hmn := Lib.hid hmn
    clear hmn
    go_enter Tryz.func47, Tryz.ntmps47
    go_wp2_with fail
    rw [← Hmn.out, show (m : Int) % 4294967296 = ((m % 4294967296 : Nat) : Int) by omega, show (m : Int) / 4294967296 = ((m / 4294967296 : Nat) : Int) by omega]
    refine Calls.mono (itrim2_any ⟨false, some ⟨w.heap.size + 1, 0, none⟩, 2, 2⟩ n _ ⟨_, HU.out, by rw [HV.out]; show n = (m : Int); exact Hmn.out.symm, by simp only; omega⟩) ?_
    rintro e w1 ⟨x1, rfl, hE, g1⟩
    have G1 := Lib.hid g1
    have HB := Lib.hid (hE.block al2_0)
    obtain ⟨hcw, hfw⟩ := bcellE hE
    have hsw := hE.size
    simp only [World.size_alloc] at hsw
    have hs1 : w.heap.size < w1.heap.size := by omega
    have HX := Lib.hid (Ext.al2.trans hE)
    clear g1 hE
    go_wp2
    have hF := (((Fin.start (L := w.heap.size) HX.out (noU_block HB.out rfl)).set (by omega) (i := 0) (v := .bool x1.neg) rfl).set (by omega) (i := 1) (v := .slice x1.a x1.n x1.c) rfl)
    exact bodyPost_ret (v := x1.v) (by simp [results, Tryz.results47, go_sem, blk_cell HB.out]) rfl ⟨x1, rfl, hF.ext, G1.out.keep hF.keep⟩
theorem RawI.len {w : World} {s : IH} {z : Int} (h : RawI w s z) : (digs z.natAbs).length ≤ 1073741824 := by
  obtain ⟨ds, h1, h2, h3⟩ := h
  rw [h2, sg_natAbs]
  have := digs_len_le h1.dig
  rw [h1.len] at this
  omega
theorem U32.dlt {w : World} {a : Option Addr} {n c X : Nat} (h : U32 w a n c (Num.digs X)) : X < W32 ^ n := by
  have := h.vle
  rwa [val_digs] at this
theorem CanI.zero {w : World} {s : IH} {z : Int} (h : CanI w s z) : s.n = 0 ↔ z = 0 := by
  rw [← h.2.len, List.length_eq_zero_iff, digs_nil]; omega
set_option maxRecDepth 4000 in
set_option maxHeartbeats 1000000 in
theorem isign2_any (s : IH) (z : Int) (w : World) (h : RawI w s z) : Does 75 [s.v] w (fun _ : Unit => .int .i64 (cmpI z 0)) (fun _ _ => True) := by
  obtain ⟨neg, ao, n, c⟩ := s
  have HR := Lib.hid h
  clear h
  unfold Does
  go_enter Tryz.func75, Tryz.ntmps75
  go_wp2_with fail
  refine Calls.mono (itrim2_any ⟨neg, ao, n, c⟩ z _ (HR.out.ext Ext.al1)) ?_
  rintro e w1 ⟨x1, rfl, hE, g1⟩
  have G1 := Lib.hid g1
  clear g1
  obtain ⟨hcw, hfw⟩ := bcellE hE
  have hsw := hE.size
  (try simp only [World.size_alloc] at hsw)
  have hs0 : w.heap.size < w1.heap.size := by omega
  have hB := hE.block (heap_alloc_new _ _)
  have HB : Hid (w1.heap[w.heap.size]? = some _) := Lib.hid hB
  clear hB
  have E1 := Lib.hid ((Ext.al1).trans hE)
  have X1 := Lib.hid hE
  clear hE
  obtain ⟨neg1, ao1, n1, c1⟩ := x1
  have hz := G1.out.zero
  have hng : neg1 = decide (z < 0) := G1.out.1
  simp only at hz
  have HZ := Lib.hid hz
  have HN := Lib.hid hng
  clear hz hng
  have HX := E1
  go_upto_region 2 with fail
  obtain ⟨w2, hw2, T2⟩ := one_box HX.out HB.out (by omega) rfl ⟨neg1, ao1, n1, c1⟩
  change Code.wp _ _ _ _ (stI w1 (w.heap.size) ⟨neg1, ao1, n1, c1⟩)
  rw [← hw2]
  replace HB := Lib.hid T2.bx
  have hK := Lib.hid T2.keep
  have HX := Lib.hid T2.ext
  have hv := T2.size
  have hs0 : w.heap.size < w2.heap.size := by omega
  have c0 := blk_cell HB.out
  have f0 := blk_frozen HB.out
  clear hw2 T2 hcw hfw
  by_cases h0 : n1 = 0
  · have hzz := HZ.out.1 h0
    subst h0
    go_wp2
    go_ret
    exact ⟨(), ret_int (by first | rw [hzz, cmpI_eq rfl] | exact (cmpI_eq rfl).symm), HX.out, trivial⟩
  · have hzz : z ≠ 0 := fun h => h0 (HZ.out.2 h)
    have h0' : ((n1 : Int) == 0) = false := by rw [beq_eq_false_iff_ne]; omega
    have Hzz := Lib.hid hzz
    clear hzz
    cases neg1
    · have hlt : ¬ z < 0 := by have := HN.out; simpa using this.symm
      have Hlt := Lib.hid hlt
      clear hlt
      go_wp2
      go_ret
      exact ⟨(), ret_int (by have := Hlt.out; have := Hzz.out; rw [cmpI_gt (by omega)]), HX.out, trivial⟩
    · have hlt : z < 0 := by have := HN.out; simpa using this.symm
      have Hlt := Lib.hid hlt
      clear hlt
      go_wp2
      go_ret
      exact ⟨(), ret_int (by have := Hlt.out; rw [cmpI_lt (by omega)]), HX.out, trivial⟩
set_option maxRecDepth 4000 in
set_option maxHeartbeats 1000000 in
theorem ineg2_any (s : IH) (z : Int) (w : World) (h : RawI w s z) : Does 91 [s.v] w IH.v (fun s w' => CanI w' s (-z)) := by
  obtain ⟨neg, ao, n, c⟩ := s
  have HR := Lib.hid h
  clear h
  unfold Does
  go_enter Tryz.func91, Tryz.ntmps91
  go_wp2_with fail
  refine Calls.mono (itrim2_any ⟨neg, ao, n, c⟩ z _ (HR.out.ext Ext.al2)) ?_
  rintro e w1 ⟨x1, rfl, hE, g1⟩
  have G1 := Lib.hid g1
  clear g1
  obtain ⟨hcw, hfw⟩ := bcellE hE
  have hsw := hE.size
  (try simp only [World.size_alloc] at hsw)
  have hs0 : w.heap.size < w1.heap.size := by omega
  have hs1 : w.heap.size + 1 < w1.heap.size := by omega
  have hB := hE.block (heap_alloc_new _ _)
  rw [World.size_alloc] at hB
  have HB : Hid (w1.heap[w.heap.size + 1]? = some _) := Lib.hid hB
  clear hB
  have E1 := Lib.hid ((Ext.al2).trans hE)
  have X1 := Lib.hid hE
  clear hE
  have B0 := Lib.hid (X1.out.block al2_0)
  obtain ⟨neg1, ao1, n1, cc1⟩ := x1
  have HX := E1
  go_upto_region 2 with fail
  obtain ⟨w2, hw2, T2⟩ := one_box HX.out B0.out (by omega) rfl ⟨neg1, ao1, n1, cc1⟩
  change Code.wp _ _ _ _ (stI w1 (w.heap.size) ⟨neg1, ao1, n1, cc1⟩)
  rw [← hw2]
  replace B0 := Lib.hid T2.bx
  replace HB := Lib.hid (T2.rest _ _ (by omega) HB.out)
  have hK := Lib.hid T2.keep
  have HX := Lib.hid T2.ext
  have hv := T2.size
  have hs0 : w.heap.size < w2.heap.size := by omega
  have hs1 : w.heap.size + 1 < w2.heap.size := by omega
  have c0 := blk_cell B0.out
  have f0 := blk_frozen B0.out
  have c1 := blk_cell HB.out
  have f1 := blk_frozen HB.out
  clear hw2 T2 hcw hfw
  replace G1 := Lib.hid (G1.out.keep hK.out)
  have hz := G1.out.zero
  have hng : neg1 = decide (z < 0) := G1.out.1
  simp only at hz
  have HZ := Lib.hid hz
  have HN := Lib.hid hng
  clear hz hng
  cases neg1
  · by_cases h0 : n1 = 0
    · subst h0
      go_upto_region 3 with fail
      obtain ⟨w3, hw3, T3⟩ := one_cell HX.out B0.out (by omega) false
      change Code.wp _ _ _ _ (w2.setCell ⟨w.heap.size, 0, none⟩ (.bool false))
      rw [← hw3]
      replace B0 := Lib.hid T3.bx
      replace HB := Lib.hid (T3.rest _ _ (by omega) HB.out)
      replace G1 := Lib.hid (G1.out.keep T3.keep)
      replace HX := Lib.hid T3.ext
      clear hw3 T3 c0 f0 c1 f1
      have c0 := blk_cell B0.out
      have c1 := blk_cell HB.out
      have f1 := blk_frozen HB.out
      go_wp2
      have hF := (((Fin.start (L := w.heap.size + 1) HX.out (noU_block HB.out rfl)).set (by omega) (i := 0) (v := .bool false) rfl).set (by omega) (i := 1) (v := .slice ao1 0 cc1) rfl)
      exact bodyPost_ret (v := IH.v ⟨false, ao1, 0, cc1⟩) (by simp [results, Tryz.results91, go_sem, blk_cell HB.out]) rfl ⟨⟨false, ao1, 0, cc1⟩, rfl, hF.ext, by have h1 := HZ.out; have h2 := HN.out; simp at h1 h2 ⊢; omega, by rw [Int.natAbs_neg]; exact hF.keep _ _ _ _ G1.out.2⟩
    · have h0' : decide (0 < (n1 : Int)) = true := by simp; omega
      have h0'' : decide (0 < n1) = true := by simp; omega
      go_upto_region 3 with fail
      obtain ⟨w3, hw3, T3⟩ := one_cell HX.out B0.out (by omega) true
      change Code.wp _ _ _ _ (w2.setCell ⟨w.heap.size, 0, none⟩ (.bool true))
      rw [← hw3]
      replace B0 := Lib.hid T3.bx
      replace HB := Lib.hid (T3.rest _ _ (by omega) HB.out)
      replace G1 := Lib.hid (G1.out.keep T3.keep)
      replace HX := Lib.hid T3.ext
      clear hw3 T3 c0 f0 c1 f1
      have c0 := blk_cell B0.out
      have c1 := blk_cell HB.out
      have f1 := blk_frozen HB.out
      go_wp2
      have hF := (((Fin.start (L := w.heap.size + 1) HX.out (noU_block HB.out rfl)).set (by omega) (i := 0) (v := .bool true) rfl).set (by omega) (i := 1) (v := .slice ao1 n1 cc1) rfl)
      exact bodyPost_ret (v := IH.v ⟨true, ao1, n1, cc1⟩) (by simp [results, Tryz.results91, go_sem, blk_cell HB.out]) rfl ⟨⟨true, ao1, n1, cc1⟩, rfl, hF.ext, by have h1 := HZ.out; have h2 := HN.out; simp at h1 h2 ⊢; omega, by rw [Int.natAbs_neg]; exact hF.keep _ _ _ _ G1.out.2⟩
  · go_upto_region 3 with fail
    obtain ⟨w3, hw3, T3⟩ := one_cell HX.out B0.out (by omega) false
    change Code.wp _ _ _ _ (w2.setCell ⟨w.heap.size, 0, none⟩ (.bool false))
    rw [← hw3]
    replace B0 := Lib.hid T3.bx
    replace HB := Lib.hid (T3.rest _ _ (by omega) HB.out)
    replace G1 := Lib.hid (G1.out.keep T3.keep)
    replace HX := Lib.hid T3.ext
    clear hw3 T3 c0 f0 c1 f1
    have c0 := blk_cell B0.out
    have c1 := blk_cell HB.out
    have f1 := blk_frozen HB.out
    go_wp2
    have hF := (((Fin.start (L := w.heap.size + 1) HX.out (noU_block HB.out rfl)).set (by omega) (i := 0) (v := .bool false) rfl).set (by omega) (i := 1) (v := .slice ao1 n1 cc1) rfl)
    exact bodyPost_ret (v := IH.v ⟨false, ao1, n1, cc1⟩) (by simp [results, Tryz.results91, go_sem, blk_cell HB.out]) rfl ⟨⟨false, ao1, n1, cc1⟩, rfl, hF.ext, by have h1 := HZ.out; have h2 := HN.out; simp at h1 h2 ⊢; omega, by rw [Int.natAbs_neg]; exact hF.keep _ _ _ _ G1.out.2⟩
set_option maxRecDepth 4000 in
set_option maxHeartbeats 1000000 in
theorem imul2_any (s t : IH) (z y : Int) (w : World) (h : RawI w s z) (k : RawI w t y) : Does 63 [s.v, t.v] w IH.v (fun s w' => CanI w' s (z * y)) := by
  obtain ⟨neg, ao, n, c⟩ := s
  obtain ⟨neg', bo, m, d⟩ := t
  obtain ⟨ds, hU, hz, hn⟩ := h
  obtain ⟨es, kU, kz, kn⟩ := k
  simp only at hU hz hn kU kz kn
  have HU := Lib.hid hU
  have KU := Lib.hid kU
  have HZ := Lib.hid hz
  have KZ := Lib.hid kz
  clear hU kU hz kz
  unfold Does
  go_enter Tryz.func63, Tryz.ntmps63
  go_wp2
  refine wp_region_front 12 (fun opIx => match opIx with
    | 9 => .spec SH default SH.v (fun s w' => s.U w' (digs (val ds * val es)))
    | 11 => .spec IH default IH.v (fun s w' => CanI w' s (z * y))
    | _ => .quiet) (fun | 11 => [9] | _ => []) (by kernel_rfl) (by kernel_rfl) (fun w0 he0 hz0 hc0 hf0 => ?_)
  have he1 := Lib.hid he0
  replace he0 := Lib.hid ((Ext.al3).trans he0)
  simp only [List.take_succ_cons, List.take_zero]
  repeat (refine wpF_quiet rfl rfl rfl (fun K hK => ?_); go_big_quiet_op; refine hK _ ?_; clear hK K)
  refine wpF_spec rfl rfl (fun w1 hw1 hG => ?_) (fun x9 => ?_)
  · have hW := he0.out.trans hw1
    refine spec_call [.slice ao n c, .slice bo m d] rfl rfl Tryz.func102 (by kernel_rfl) (by kernel_rfl) ?_
    exact mul1_any ⟨ao, n, c⟩ ⟨bo, m, d⟩ _ _ _ (HU.out.ext hW) (KU.out.ext hW) hn kn
  simp only [Act.put, List.setIfInBounds_toArray, List.set_cons_succ, List.set_cons_zero]
  repeat (refine wpF_quiet rfl rfl rfl (fun K hK => ?_); go_big_quiet_op; refine hK _ ?_; clear hK K)
  refine wpF_spec rfl rfl (fun w1 hw1 hG => ?_) (fun x11 => ?_)
  · have hW := he0.out.trans hw1
    obtain ⟨wa9, hwa9, g9⟩ : Since _ _ := hG 9 (by decide)
    replace g9 := g9.ext hwa9
    refine spec_call [.agg #[.bool (neg != neg'), x9.v]] rfl rfl Tryz.func92 (by kernel_rfl) (by kernel_rfl) ?_
    exact itrim2_big ⟨neg != neg', x9.a, x9.n, x9.c⟩ _ _ _ g9 (by rw [val_digs, HZ.out, KZ.out, sg_mul]) (by rw [← g9.len]; exact Nat.le_trans (digs_len (mul_lt HU.out.vle KU.out.vle)) (by omega))
  simp only [Act.put, List.setIfInBounds_toArray, List.set_cons_succ, List.set_cons_zero]
  repeat (refine wpF_quiet rfl rfl rfl (fun K hK => ?_); go_big_quiet_op; refine hK _ ?_; clear hK K)
  refine wpF_nil ?_
  intro w1 hI
  obtain ⟨wa9, hwa9, g9⟩ : Since _ _ := hI.facts 9
  have G9 := Lib.hid (g9.ext hwa9)
  clear g9 hwa9
  obtain ⟨wa11, hwa11, g11⟩ : Since _ _ := hI.facts 11
  have G11 := Lib.hid (g11.ext hwa11)
  clear g11 hwa11
  have HX := Lib.hid (he0.out.trans hI.ext)
  have hX1 := Lib.hid (he1.out.trans hI.ext)
  obtain ⟨hcw, hfw⟩ := bcellE (he1.out.trans hI.ext)
  have hsw := (he1.out.trans hI.ext).size
  (try simp only [World.size_alloc] at hsw)
  have hs0 : w.heap.size < w1.heap.size := by omega
  have hs1 : w.heap.size + 1 < w1.heap.size := by omega
  have hs2 : w.heap.size + 2 < w1.heap.size := by omega
  have hB := (he1.out.trans hI.ext).block (heap_alloc_new _ _)
  rw [World.size_alloc, World.size_alloc] at hB
  have HB : Hid (w1.heap[w.heap.size + 2]? = some _) := Lib.hid hB
  clear hB
  clear hI he0 he1 hz0 hc0 hf0
  simp only [List.drop_succ_cons, List.drop_zero]
  go_wp2
  have hF := (((Fin.start (L := w.heap.size + 2) HX.out (noU_block HB.out rfl)).set (by omega) (i := 0) (v := .bool x11.neg) rfl).set (by omega) (i := 1) (v := .slice x11.a x11.n x11.c) rfl)
  exact bodyPost_ret (v := x11.v) (by simp [results, Tryz.results63, go_sem, blk_cell HB.out]) rfl ⟨x11, rfl, hF.ext, G11.out.keep hF.keep⟩
set_option maxRecDepth 4000 in
set_option maxHeartbeats 1000000 in
theorem igcd2_any (s t : IH) (z y : Int) (w : World) (h : RawI w s z) (k : RawI w t y) : Does 89 [s.v, t.v] w IH.v (fun s w' => CanI w' s (Int.gcd z y)) := by
  obtain ⟨neg, ao, n, c⟩ := s
  obtain ⟨neg', bo, m, d⟩ := t
  obtain ⟨ds, hU, hz, hn⟩ := h
  obtain ⟨es, kU, kz, kn⟩ := k
  simp only at hU hz hn kU kz kn
  have HU := Lib.hid hU
  have KU := Lib.hid kU
  have HG : Hid (((Int.gcd z y : Nat) : Int).natAbs = Nat.gcd (val ds) (val es)) := by
    show Nat.gcd _ _ = _
    rw [hz, kz, sg_natAbs, sg_natAbs]
  clear hU kU hz kz
  unfold Does
  go_enter Tryz.func89, Tryz.ntmps89
  go_wp2_with fail
  refine Calls.mono (gcd1_any ⟨ao, n, c⟩ ⟨bo, m, d⟩ _ _ _ (HU.out.ext Ext.al3) (KU.out.ext Ext.al3) hn kn) ?_
  rintro e w1 ⟨x1, rfl, hE, g1⟩
  have G1 := Lib.hid g1
  clear g1
  obtain ⟨hcw, hfw⟩ := bcellE hE
  have hsw := hE.size
  (try simp only [World.size_alloc] at hsw)
  have hs0 : w.heap.size < w1.heap.size := by omega
  have hs1 : w.heap.size + 1 < w1.heap.size := by omega
  have hs2 : w.heap.size + 2 < w1.heap.size := by omega
  have hB := hE.block (heap_alloc_new _ _)
  rw [World.size_alloc, World.size_alloc] at hB
  have HB : Hid (w1.heap[w.heap.size + 2]? = some _) := Lib.hid hB
  clear hB
  have E1 := Lib.hid ((Ext.al3).trans hE)
  have X1 := Lib.hid hE
  clear hE
  have HX := E1
  go_wp2
  have hF := (((Fin.start (L := w.heap.size + 2) HX.out (noU_block HB.out rfl)).set (by omega) (i := 0) (v := .bool false) rfl).set (by omega) (i := 1) (v := .slice x1.a x1.n x1.c) rfl)
  exact bodyPost_ret (v := IH.v ⟨false, x1.a, x1.n, x1.c⟩) (by simp [results, Tryz.results89, go_sem, blk_cell HB.out]) rfl ⟨⟨false, x1.a, x1.n, x1.c⟩, rfl, hF.ext, by simp, by rw [HG.out]; exact hF.keep _ _ _ _ G1.out⟩
set_option maxRecDepth 4000 in
set_option maxHeartbeats 1000000 in
theorem iadd2_any (s t : IH) (z y : Int) (w : World) (h : RawI w s z) (k : RawI w t y) : Does 100 [s.v, t.v] w IH.v (fun s w' => CanI w' s (z + y)) := by
  obtain ⟨neg, ao, n, c⟩ := s
  obtain ⟨neg', bo, m, d⟩ := t
  have HR := Lib.hid h
  have KR := Lib.hid k
  have hzl := h.len
  have kyl := k.len
  clear h k
  unfold Does
  go_enter Tryz.func100, Tryz.ntmps100
  go_wp2
  refine wp_region_front 4 (fun opIx => match opIx with
    | 1 => .spec IH default IH.v (fun s w' => CanI w' s (z))
    | 3 => .spec IH default IH.v (fun s w' => CanI w' s (y))
    | _ => .quiet) (fun _ => []) (by kernel_rfl) (by kernel_rfl) (fun w0 he0 hz0 hc0 hf0 => ?_)
  have he1 := Lib.hid he0
  replace he0 := Lib.hid ((Ext.al3).trans he0)
  simp only [List.take_succ_cons, List.take_zero]
  repeat (refine wpF_quiet rfl rfl rfl (fun K hK => ?_); go_big_quiet_op; refine hK _ ?_; clear hK K)
  refine wpF_spec rfl rfl (fun w1 hw1 hG => ?_) (fun x1 => ?_)
  · have hW := he0.out.trans hw1
    refine spec_call [IH.v ⟨neg, ao, n, c⟩] rfl rfl Tryz.func92 (by kernel_rfl) (by kernel_rfl) ?_
    exact itrim2_any _ _ _ (HR.out.ext hW)
  simp only [Act.put, List.setIfInBounds_toArray, List.set_cons_succ, List.set_cons_zero]
  repeat (refine wpF_quiet rfl rfl rfl (fun K hK => ?_); go_big_quiet_op; refine hK _ ?_; clear hK K)
  refine wpF_spec rfl rfl (fun w1 hw1 hG => ?_) (fun x3 => ?_)
  · have hW := he0.out.trans hw1
    refine spec_call [IH.v ⟨neg', bo, m, d⟩] rfl rfl Tryz.func92 (by kernel_rfl) (by kernel_rfl) ?_
    exact itrim2_any _ _ _ (KR.out.ext hW)
  simp only [Act.put, List.setIfInBounds_toArray, List.set_cons_succ, List.set_cons_zero]
  repeat (refine wpF_quiet rfl rfl rfl (fun K hK => ?_); go_big_quiet_op; refine hK _ ?_; clear hK K)
  refine wpF_nil ?_
  intro w1 hI
  obtain ⟨wa1, hwa1, g1⟩ : Since _ _ := hI.facts 1
  have G1 := Lib.hid (g1.ext hwa1)
  clear g1 hwa1
  obtain ⟨wa3, hwa3, g3⟩ : Since _ _ := hI.facts 3
  have G3 := Lib.hid (g3.ext hwa3)
  clear g3 hwa3
  have HX := Lib.hid (he0.out.trans hI.ext)
  have hX1 := Lib.hid (he1.out.trans hI.ext)
  obtain ⟨hcw, hfw⟩ := bcellE (he1.out.trans hI.ext)
  have hsw := (he1.out.trans hI.ext).size
  (try simp only [World.size_alloc] at hsw)
  have hs0 : w.heap.size < w1.heap.size := by omega
  have hs1 : w.heap.size + 1 < w1.heap.size := by omega
  have hs2 : w.heap.size + 2 < w1.heap.size := by omega
  have hB := (he1.out.trans hI.ext).block (heap_alloc_new _ _)
  rw [World.size_alloc, World.size_alloc] at hB
  have HB : Hid (w1.heap[w.heap.size + 2]? = some _) := Lib.hid hB
  clear hB
  clear hI he0 he1 hz0 hc0 hf0
  simp only [List.drop_succ_cons, List.drop_zero]
  have B0 := Lib.hid (hX1.out.block al3_0)
  have B1 := Lib.hid (hX1.out.block al3_1)
  obtain ⟨neg1, ao1, n1, cc1⟩ := x1
  obtain ⟨neg2, ao2, n2, cc2⟩ := x3
  go_upto_region 2 with fail
  obtain ⟨w2, hw2, T2⟩ := two_box HX.out B0.out B1.out (by omega) (by omega) (by omega) rfl rfl ⟨neg1, ao1, n1, cc1⟩ ⟨neg2, ao2, n2, cc2⟩
  change Code.wp _ _ _ _ (stI (stI w1 (w.heap.size) ⟨neg1, ao1, n1, cc1⟩) (w.heap.size + 1) ⟨neg2, ao2, n2, cc2⟩)
  rw [← hw2]
  replace B0 := Lib.hid T2.bx
  replace B1 := Lib.hid T2.cy
  replace HB := Lib.hid (T2.rest _ _ (by omega) (by omega) HB.out)
  have hK := Lib.hid T2.keep
  have HX := Lib.hid T2.ext
  have hv := T2.size
  have hs0 : w.heap.size < w2.heap.size := by omega
  have hs1 : w.heap.size + 1 < w2.heap.size := by omega
  have hs2 : w.heap.size + 2 < w2.heap.size := by omega
  have c0 := blk_cell B0.out
  have f0 := blk_frozen B0.out
  have c1 := blk_cell B1.out
  have f1 := blk_frozen B1.out
  have c2 := blk_cell HB.out
  have f2 := blk_frozen HB.out
  clear hw2 T2 hcw hfw
  replace G1 := Lib.hid (G1.out.keep hK.out)
  replace G3 := Lib.hid (G3.out.keep hK.out)
  have hn1 : n1 ≤ 1073741824 := by have : (digs z.natAbs).length = n1 := G1.out.2.len; omega
  have hn2 : n2 ≤ 1073741824 := by have : (digs y.natAbs).length = n2 := G3.out.2.len; omega
  have hg1 : z = sg neg1 z.natAbs := by rw [show neg1 = decide (z < 0) from G1.out.1, sg_self]
  have hg2 : y = sg neg2 y.natAbs := by rw [show neg2 = decide (y < 0) from G3.out.1, sg_self]
  have HZ := Lib.hid hg1
  have KZ := Lib.hid hg2
  obtain ⟨X, hX⟩ : ∃ X, X = z.natAbs := ⟨_, rfl⟩
  obtain ⟨Y, hY⟩ : ∃ Y, Y = y.natAbs := ⟨_, rfl⟩
  have HU : Hid (U32 w2 ao1 n1 cc1 (digs X)) := by rw [hX]; exact G1.out.2
  have KU : Hid (U32 w2 ao2 n2 cc2 (digs Y)) := by rw [hY]; exact G3.out.2
  rw [← hX] at HZ
  rw [← hY] at KZ
  clear hg1 hg2 hX hY G1 G3 hzl kyl
  by_cases hs : neg1 = neg2
  · subst hs
    have hb : (neg1 == neg1) = true := by simp
    go_wp2
    refine wp_region_front 9 (fun opIx => match opIx with
      | 6 => .spec SH default SH.v (fun s w' => s.U w' (digs (X + Y)))
      | 8 => .spec IH default IH.v (fun s w' => CanI w' s (z + y))
      | _ => .quiet) (fun | 8 => [6] | _ => []) (by kernel_rfl) (by kernel_rfl) (fun w0 he0 hz0 hc0 hf0 => ?_)
    have he1 := Lib.hid he0
    replace he0 := Lib.hid ((HX.out).trans he0)
    simp only [List.take_succ_cons, List.take_zero]
    repeat (refine wpF_quiet rfl rfl rfl (fun K hK => ?_); go_big_quiet_op; refine hK _ ?_; clear hK K)
    refine wpF_spec rfl rfl (fun w1 hw1 hG => ?_) (fun x6 => ?_)
    · have hW := he0.out.trans hw1
      refine spec_call [.slice ao1 n1 cc1, .slice ao2 n2 cc2] rfl rfl Tryz.func123 (by kernel_rfl) (by kernel_rfl) ?_
      exact by have h := add1_any ⟨ao1, n1, cc1⟩ ⟨ao2, n2, cc2⟩ _ _ _ (HU.out.ext (he1.out.trans hw1)) (KU.out.ext (he1.out.trans hw1)) hn1 hn2; rw [val_digs, val_digs] at h; exact h
    simp only [Act.put, List.setIfInBounds_toArray, List.set_cons_succ, List.set_cons_zero]
    repeat (refine wpF_quiet rfl rfl rfl (fun K hK => ?_); go_big_quiet_op; refine hK _ ?_; clear hK K)
    refine wpF_spec rfl rfl (fun w1 hw1 hG => ?_) (fun x8 => ?_)
    · have hW := he0.out.trans hw1
      obtain ⟨wa6, hwa6, g6⟩ : Since _ _ := hG 6 (by decide)
      replace g6 := g6.ext hwa6
      refine spec_call [IH.v ⟨neg1, x6.a, x6.n, x6.c⟩] rfl rfl Tryz.func92 (by kernel_rfl) (by kernel_rfl) ?_
      exact itrim2_big ⟨neg1, x6.a, x6.n, x6.c⟩ _ _ _ g6 (by rw [val_digs, HZ.out, KZ.out, sg_add_same]) (by rw [← g6.len]; exact Nat.le_trans (digs_len (add_lt HU.out.dlt KU.out.dlt)) (by omega))
    simp only [Act.put, List.setIfInBounds_toArray, List.set_cons_succ, List.set_cons_zero]
    repeat (refine wpF_quiet rfl rfl rfl (fun K hK => ?_); go_big_quiet_op; refine hK _ ?_; clear hK K)
    refine wpF_nil ?_
    intro w1 hI
    obtain ⟨wa6, hwa6, g6⟩ : Since _ _ := hI.facts 6
    have G6 := Lib.hid (g6.ext hwa6)
    clear g6 hwa6
    obtain ⟨wa8, hwa8, g8⟩ : Since _ _ := hI.facts 8
    have G8 := Lib.hid (g8.ext hwa8)
    clear g8 hwa8
    have HX := Lib.hid (he0.out.trans hI.ext)
    have hX1 := Lib.hid (he1.out.trans hI.ext)
    obtain ⟨hcw, hfw⟩ := bcellE (he1.out.trans hI.ext)
    have hsw := (he1.out.trans hI.ext).size
    (try simp only [World.size_alloc] at hsw)
    have hs0 : w.heap.size < w1.heap.size := by omega
    have hs1 : w.heap.size + 1 < w1.heap.size := by omega
    have hs2 : w.heap.size + 2 < w1.heap.size := by omega
    replace HB := Lib.hid ((he1.out.trans hI.ext).block HB.out)
    have cR := blk_cell HB.out
    have fR := blk_frozen HB.out
    have cR2 := blk_cell (B := w.heap.size + 1 + 1) HB.out
    have fR2 := blk_frozen (B := w.heap.size + 1 + 1) HB.out
    clear hI he0 he1 hz0 hc0 hf0
    simp only [List.drop_succ_cons, List.drop_zero]
    go_wp2
    have hF := (((Fin.start (L := w.heap.size + 2) HX.out (noU_block HB.out rfl)).set (by omega) (i := 0) (v := .bool x8.neg) rfl).set (by omega) (i := 1) (v := .slice x8.a x8.n x8.c) rfl)
    exact bodyPost_ret (v := x8.v) (by simp [results, Tryz.results100, go_sem, blk_cell HB.out]) rfl ⟨x8, rfl, hF.ext, G8.out.keep hF.keep⟩
  · have hb : (neg1 == neg2) = false := by simpa using hs
    have E2 := HX
    go_wp2_with fail
    refine Calls.mono (cmp1_any ⟨ao1, n1, cc1⟩ ⟨ao2, n2, cc2⟩ _ _ _ HU.out KU.out hn1 hn2) ?_
    rintro e w3 ⟨x3, rfl, hE, g3⟩
    have G3 := Lib.hid g3
    clear g3
    obtain ⟨hcw, hfw⟩ := bcellE hE
    have hsw := hE.size
    (try simp only [World.size_alloc] at hsw)
    have hs0 : w.heap.size < w3.heap.size := by omega
    have hs1 : w.heap.size + 1 < w3.heap.size := by omega
    have hs2 : w.heap.size + 2 < w3.heap.size := by omega
    replace B0 := Lib.hid (hE.block B0.out)
    replace B1 := Lib.hid (hE.block B1.out)
    replace HB := Lib.hid (hE.block HB.out)
    have cR := blk_cell HB.out
    have fR := blk_frozen HB.out
    have cR2 := blk_cell (B := w.heap.size + 1 + 1) HB.out
    have fR2 := blk_frozen (B := w.heap.size + 1 + 1) HB.out
    have E3 := Lib.hid ((HX.out).trans hE)
    have X3 := Lib.hid hE
    clear hE
    rw [val_digs, val_digs]
    have hX3 := E3
    by_cases hlt : X < Y
    · rw [cmpI_lt (by omega)]
      go_wp2
      refine wp_region_front 9 (fun opIx => match opIx with
        | 6 => .spec SH default SH.v (fun s w' => s.U w' (digs (Y - X)))
        | 8 => .spec IH default IH.v (fun s w' => CanI w' s (z + y))
        | _ => .quiet) (fun | 8 => [6] | _ => []) (by kernel_rfl) (by kernel_rfl) (fun w0 he0 hz0 hc0 hf0 => ?_)
      have he1 := Lib.hid he0
      replace he0 := Lib.hid ((E3.out).trans he0)
      simp only [List.take_succ_cons, List.take_zero]
      repeat (refine wpF_quiet rfl rfl rfl (fun K hK => ?_); go_big_quiet_op; refine hK _ ?_; clear hK K)
      refine wpF_spec rfl rfl (fun w1 hw1 hG => ?_) (fun x6 => ?_)
      · have hW := he0.out.trans hw1
        refine spec_call [.slice ao2 n2 cc2, .slice ao1 n1 cc1] rfl rfl Tryz.func124 (by kernel_rfl) (by kernel_rfl) ?_
        exact by have h := sub1_any ⟨ao2, n2, cc2⟩ ⟨ao1, n1, cc1⟩ _ _ _ (KU.out.ext (X3.out.trans (he1.out.trans hw1))) (HU.out.ext (X3.out.trans (he1.out.trans hw1))) hn2 hn1 (by rw [val_digs, val_digs]; omega); rw [val_digs, val_digs] at h; exact h
      simp only [Act.put, List.setIfInBounds_toArray, List.set_cons_succ, List.set_cons_zero]
      repeat (refine wpF_quiet rfl rfl rfl (fun K hK => ?_); go_big_quiet_op; refine hK _ ?_; clear hK K)
      refine wpF_spec rfl rfl (fun w1 hw1 hG => ?_) (fun x8 => ?_)
      · have hW := he0.out.trans hw1
        obtain ⟨wa6, hwa6, g6⟩ : Since _ _ := hG 6 (by decide)
        replace g6 := g6.ext hwa6
        refine spec_call [IH.v ⟨neg2, x6.a, x6.n, x6.c⟩] rfl rfl Tryz.func92 (by kernel_rfl) (by kernel_rfl) ?_
        exact itrim2_big ⟨neg2, x6.a, x6.n, x6.c⟩ _ _ _ g6 (by rw [val_digs, HZ.out, KZ.out, sg_add_lt hs hlt]) (by rw [← g6.len]; exact Nat.le_trans (digs_len (Nat.lt_of_le_of_lt (Nat.sub_le _ _) KU.out.dlt)) (by omega))
      simp only [Act.put, List.setIfInBounds_toArray, List.set_cons_succ, List.set_cons_zero]
      repeat (refine wpF_quiet rfl rfl rfl (fun K hK => ?_); go_big_quiet_op; refine hK _ ?_; clear hK K)
      refine wpF_nil ?_
      intro w1 hI
      obtain ⟨wa6, hwa6, g6⟩ : Since _ _ := hI.facts 6
      have G6 := Lib.hid (g6.ext hwa6)
      clear g6 hwa6
      obtain ⟨wa8, hwa8, g8⟩ : Since _ _ := hI.facts 8
      have G8 := Lib.hid (g8.ext hwa8)
      clear g8 hwa8
      have HX := Lib.hid (he0.out.trans hI.ext)
      have hX1 := Lib.hid (he1.out.trans hI.ext)
      obtain ⟨hcw, hfw⟩ := bcellE (he1.out.trans hI.ext)
      have hsw := (he1.out.trans hI.ext).size
      (try simp only [World.size_alloc] at hsw)
      have hs0 : w.heap.size < w1.heap.size := by omega
      have hs1 : w.heap.size + 1 < w1.heap.size := by omega
      have hs2 : w.heap.size + 2 < w1.heap.size := by omega
      replace B0 := Lib.hid ((he1.out.trans hI.ext).block B0.out)
      replace B1 := Lib.hid ((he1.out.trans hI.ext).block B1.out)
      replace HB := Lib.hid ((he1.out.trans hI.ext).block HB.out)
      have cR := blk_cell HB.out
      have fR := blk_frozen HB.out
      have cR2 := blk_cell (B := w.heap.size + 1 + 1) HB.out
      have fR2 := blk_frozen (B := w.heap.size + 1 + 1) HB.out
      clear hI he0 he1 hz0 hc0 hf0
      simp only [List.drop_succ_cons, List.drop_zero]
      go_wp2
      have hF := (((Fin.start (L := w.heap.size + 2) HX.out (noU_block HB.out rfl)).set (by omega) (i := 0) (v := .bool x8.neg) rfl).set (by omega) (i := 1) (v := .slice x8.a x8.n x8.c) rfl)
      exact bodyPost_ret (v := x8.v) (by simp [results, Tryz.results100, go_sem, blk_cell HB.out]) rfl ⟨x8, rfl, hF.ext, G8.out.keep hF.keep⟩
    · have hge : decide (0 ≤ cmpI (X : Nat) (Y : Nat)) = true := by
        rcases Nat.lt_or_eq_of_le (Nat.not_lt.1 hlt) with h | h
        · rw [cmpI_gt (by omega)]; rfl
        · rw [cmpI_eq (by omega)]; rfl
      go_wp2
      refine wp_region_front 9 (fun opIx => match opIx with
        | 6 => .spec SH default SH.v (fun s w' => s.U w' (digs (X - Y)))
        | 8 => .spec IH default IH.v (fun s w' => CanI w' s (z + y))
        | _ => .quiet) (fun | 8 => [6] | _ => []) (by kernel_rfl) (by kernel_rfl) (fun w0 he0 hz0 hc0 hf0 => ?_)
      have he1 := Lib.hid he0
      replace he0 := Lib.hid ((E3.out).trans he0)
      simp only [List.take_succ_cons, List.take_zero]
      repeat (refine wpF_quiet rfl rfl rfl (fun K hK => ?_); go_big_quiet_op; refine hK _ ?_; clear hK K)
      refine wpF_spec rfl rfl (fun w1 hw1 hG => ?_) (fun x6 => ?_)
      · have hW := he0.out.trans hw1
        refine spec_call [.slice ao1 n1 cc1, .slice ao2 n2 cc2] rfl rfl Tryz.func124 (by kernel_rfl) (by kernel_rfl) ?_
        exact by have h := sub1_any ⟨ao1, n1, cc1⟩ ⟨ao2, n2, cc2⟩ _ _ _ (HU.out.ext (X3.out.trans (he1.out.trans hw1))) (KU.out.ext (X3.out.trans (he1.out.trans hw1))) hn1 hn2 (by rw [val_digs, val_digs]; omega); rw [val_digs, val_digs] at h; exact h
      simp only [Act.put, List.setIfInBounds_toArray, List.set_cons_succ, List.set_cons_zero]
      repeat (refine wpF_quiet rfl rfl rfl (fun K hK => ?_); go_big_quiet_op; refine hK _ ?_; clear hK K)
      refine wpF_spec rfl rfl (fun w1 hw1 hG => ?_) (fun x8 => ?_)
      · have hW := he0.out.trans hw1
        obtain ⟨wa6, hwa6, g6⟩ : Since _ _ := hG 6 (by decide)
        replace g6 := g6.ext hwa6
        refine spec_call [IH.v ⟨neg1, x6.a, x6.n, x6.c⟩] rfl rfl Tryz.func92 (by kernel_rfl) (by kernel_rfl) ?_
        exact itrim2_big ⟨neg1, x6.a, x6.n, x6.c⟩ _ _ _ g6 (by rw [val_digs, HZ.out, KZ.out, sg_add_ge hs (by omega)]) (by rw [← g6.len]; exact Nat.le_trans (digs_len (Nat.lt_of_le_of_lt (Nat.sub_le _ _) HU.out.dlt)) (by omega))
      simp only [Act.put, List.setIfInBounds_toArray, List.set_cons_succ, List.set_cons_zero]
      repeat (refine wpF_quiet rfl rfl rfl (fun K hK => ?_); go_big_quiet_op; refine hK _ ?_; clear hK K)
      refine wpF_nil ?_
      intro w1 hI
      obtain ⟨wa6, hwa6, g6⟩ : Since _ _ := hI.facts 6
      have G6 := Lib.hid (g6.ext hwa6)
      clear g6 hwa6
      obtain ⟨wa8, hwa8, g8⟩ : Since _ _ := hI.facts 8
      have G8 := Lib.hid (g8.ext hwa8)
      clear g8 hwa8
      have HX := Lib.hid (he0.out.trans hI.ext)
      have hX1 := Lib.hid (he1.out.trans hI.ext)
      obtain ⟨hcw, hfw⟩ := bcellE (he1.out.trans hI.ext)
      have hsw := (he1.out.trans hI.ext).size
      (try simp only [World.size_alloc] at hsw)
      have hs0 : w.heap.size < w1.heap.size := by omega
      have hs1 : w.heap.size + 1 < w1.heap.size := by omega
      have hs2 : w.heap.size + 2 < w1.heap.size := by omega
      replace B0 := Lib.hid ((he1.out.trans hI.ext).block B0.out)
      replace B1 := Lib.hid ((he1.out.trans hI.ext).block B1.out)
      replace HB := Lib.hid ((he1.out.trans hI.ext).block HB.out)
      have cR := blk_cell HB.out
      have fR := blk_frozen HB.out
      have cR2 := blk_cell (B := w.heap.size + 1 + 1) HB.out
      have fR2 := blk_frozen (B := w.heap.size + 1 + 1) HB.out
      clear hI he0 he1 hz0 hc0 hf0
      simp only [List.drop_succ_cons, List.drop_zero]
      go_wp2
      have hF := (((Fin.start (L := w.heap.size + 2) HX.out (noU_block HB.out rfl)).set (by omega) (i := 0) (v := .bool x8.neg) rfl).set (by omega) (i := 1) (v := .slice x8.a x8.n x8.c) rfl)
      exact bodyPost_ret (v := x8.v) (by simp [results, Tryz.results100, go_sem, blk_cell HB.out]) rfl ⟨x8, rfl, hF.ext, G8.out.keep hF.keep⟩
end Go.Proofs.YteafdebcihbjdaaGreat
/- Integers of the reference 02: Div, Same. -/
namespace Go.Proofs.YteafdebcihbjdaaGreat
open Go.RowKit Go.Front Go.Num
attribute [local go_sem] XW.cell XW.frozen
/-- Two integers and no error. -/
abbrev II (p : IH × IH) : Value := .tuple #[p.1.v, p.2.v, .int .i64 0]
set_option maxRecDepth 4000 in
set_option maxHeartbeats 1000000 in
theorem idiv2_exact (s t : IH) (z y : Int) (w : World) (h : RawI w s z) (k : RawI w t y) (hy : y ≠ 0) (hd : y ∣ z) : Does 90 [s.v, t.v] w II (fun p w' => CanI w' p.1 (z / y) ∧ CanI w' p.2 0) := by
  obtain ⟨neg, ao, n, c⟩ := s
  obtain ⟨neg', bo, m, d⟩ := t
  have HR := Lib.hid h
  have KR := Lib.hid k
  have hzl := h.len
  have kyl := k.len
  have HY := Lib.hid hy
  have HD := Lib.hid hd
  clear h k hy hd
  unfold Does
  go_enter Tryz.func90, Tryz.ntmps90
  go_wp2
  refine wp_region_front 4 (fun opIx => match opIx with
    | 1 => .spec IH default IH.v (fun s w' => CanI w' s (z))
    | 3 => .spec IH default IH.v (fun s w' => CanI w' s (y))
    | _ => .quiet) (fun _ => []) (by kernel_rfl) (by kernel_rfl) (fun w0 he0 hz0 hc0 hf0 => ?_)
  have he1 := Lib.hid he0
  replace he0 := Lib.hid ((Ext.al4).trans he0)
  simp only [List.take_succ_cons, List.take_zero]
  repeat (refine wpF_quiet rfl rfl rfl (fun K hK => ?_); go_big_quiet_op; refine hK _ ?_; clear hK K)
  refine wpF_spec rfl rfl (fun w1 hw1 hG => ?_) (fun x1 => ?_)
  · have hW := he0.out.trans hw1
    refine spec_call [IH.v ⟨neg, ao, n, c⟩] rfl rfl Tryz.func92 (by kernel_rfl) (by kernel_rfl) ?_
    exact itrim2_any _ _ _ (HR.out.ext hW)
  simp only [Act.put, List.setIfInBounds_toArray, List.set_cons_succ, List.set_cons_zero]
  repeat (refine wpF_quiet rfl rfl rfl (fun K hK => ?_); go_big_quiet_op; refine hK _ ?_; clear hK K)
  refine wpF_spec rfl rfl (fun w1 hw1 hG => ?_) (fun x3 => ?_)
  · have hW := he0.out.trans hw1
    refine spec_call [IH.v ⟨neg', bo, m, d⟩] rfl rfl Tryz.func92 (by kernel_rfl) (by kernel_rfl) ?_
    exact itrim2_any _ _ _ (KR.out.ext hW)
  simp only [Act.put, List.setIfInBounds_toArray, List.set_cons_succ, List.set_cons_zero]
  repeat (refine wpF_quiet rfl rfl rfl (fun K hK => ?_); go_big_quiet_op; refine hK _ ?_; clear hK K)
  refine wpF_nil ?_
  intro w1 hI
  obtain ⟨wa1, hwa1, g1⟩ : Since _ _ := hI.facts 1
  have G1 := Lib.hid (g1.ext hwa1)
  clear g1 hwa1
  obtain ⟨wa3, hwa3, g3⟩ : Since _ _ := hI.facts 3
  have G3 := Lib.hid (g3.ext hwa3)
  clear g3 hwa3
  have HX := Lib.hid (he0.out.trans hI.ext)
  have hX1 := Lib.hid (he1.out.trans hI.ext)
  obtain ⟨hcw, hfw⟩ := bcellE (he1.out.trans hI.ext)
  have hsw := (he1.out.trans hI.ext).size
  (try simp only [World.size_alloc] at hsw)
  have hs0 : w.heap.size < w1.heap.size := by omega
  have hs1 : w.heap.size + 1 < w1.heap.size := by omega
  have hs2 : w.heap.size + 2 < w1.heap.size := by omega
  have hs3 : w.heap.size + 3 < w1.heap.size := by omega
  have hB := (he1.out.trans hI.ext).block (heap_alloc_new _ _)
  rw [World.size_alloc, World.size_alloc, World.size_alloc] at hB
  have HB : Hid (w1.heap[w.heap.size + 3]? = some _) := Lib.hid hB
  clear hB
  clear hI he0 he1 hz0 hc0 hf0
  simp only [List.drop_succ_cons, List.drop_zero]
  have B0 := Lib.hid (hX1.out.block al4_0)
  have B1 := Lib.hid (hX1.out.block al4_1)
  have B2 := Lib.hid (hX1.out.block al4_2)
  obtain ⟨neg1, ao1, n1, cc1⟩ := x1
  obtain ⟨neg2, ao2, n2, cc2⟩ := x3
  go_upto_region 2 with fail
  obtain ⟨w2, hw2, T2⟩ := two_box HX.out B0.out B1.out (by omega) (by omega) (by omega) rfl rfl ⟨neg1, ao1, n1, cc1⟩ ⟨neg2, ao2, n2, cc2⟩
  change Code.wp _ _ _ _ (stI (stI w1 (w.heap.size) ⟨neg1, ao1, n1, cc1⟩) (w.heap.size + 1) ⟨neg2, ao2, n2, cc2⟩)
  rw [← hw2]
  replace B0 := Lib.hid T2.bx
  replace B1 := Lib.hid T2.cy
  replace HB := Lib.hid (T2.rest _ _ (by omega) (by omega) HB.out)
  replace B2 := Lib.hid (T2.rest _ _ (by omega) (by omega) B2.out)
  have hK := Lib.hid T2.keep
  have HX := Lib.hid T2.ext
  have hv := T2.size
  have hs0 : w.heap.size < w2.heap.size := by omega
  have hs1 : w.heap.size + 1 < w2.heap.size := by omega
  have hs2 : w.heap.size + 2 < w2.heap.size := by omega
  have hs3 : w.heap.size + 3 < w2.heap.size := by omega
  have c0 := blk_cell B0.out
  have f0 := blk_frozen B0.out
  have c1 := blk_cell B1.out
  have f1 := blk_frozen B1.out
  have c2 := blk_cell HB.out
  have f2 := blk_frozen HB.out
  have c3 := blk_cell B2.out
  have f3 := blk_frozen B2.out
  clear hw2 T2 hcw hfw
  replace G1 := Lib.hid (G1.out.keep hK.out)
  replace G3 := Lib.hid (G3.out.keep hK.out)
  have hn1 : n1 ≤ 1073741824 := by have : (digs z.natAbs).length = n1 := G1.out.2.len; omega
  have hn2 : n2 ≤ 1073741824 := by have : (digs y.natAbs).length = n2 := G3.out.2.len; omega
  have hg1 : z = sg neg1 z.natAbs := by rw [show neg1 = decide (z < 0) from G1.out.1, sg_self]
  have hg2 : y = sg neg2 y.natAbs := by rw [show neg2 = decide (y < 0) from G3.out.1, sg_self]
  have HZ := Lib.hid hg1
  have KZ := Lib.hid hg2
  have HN2 : Hid (neg2 = decide (y < 0)) := G3.out.1
  clear hg1 hg2
  go_wp2_with fail
  refine Calls.mono (divmod1_any ⟨ao1, n1, cc1⟩ ⟨ao2, n2, cc2⟩ _ _ _ G1.out.2 G3.out.2 hn1 hn2 (by rw [val_digs]; have := HY.out; omega)) ?_
  rintro e w3 ⟨x3, rfl, hE, g3⟩
  have G3 := Lib.hid g3
  clear g3
  obtain ⟨hcw, hfw⟩ := bcellE hE
  have hsw := hE.size
  (try simp only [World.size_alloc] at hsw)
  have hs0 : w.heap.size < w3.heap.size := by omega
  have hs1 : w.heap.size + 1 < w3.heap.size := by omega
  have hs2 : w.heap.size + 2 < w3.heap.size := by omega
  have hs3 : w.heap.size + 3 < w3.heap.size := by omega
  replace B0 := Lib.hid (hE.block B0.out)
  replace B1 := Lib.hid (hE.block B1.out)
  replace B2 := Lib.hid (hE.block B2.out)
  replace HB := Lib.hid (hE.block HB.out)
  have cR := blk_cell HB.out
  have fR := blk_frozen HB.out
  have E3 := Lib.hid ((HX.out).trans hE)
  have X3 := Lib.hid hE
  clear hE
  obtain ⟨⟨qa, qn, qc⟩, ⟨ra, rn, rc⟩⟩ := x3
  obtain ⟨g1, g2⟩ := G3.out
  rw [val_digs, val_digs] at g1 g2
  have hr0 : z.natAbs % y.natAbs = 0 := Nat.mod_eq_zero_of_dvd (Int.natAbs_dvd_natAbs.2 HD.out)
  rw [hr0, digs_zero] at g2
  have hrn : rn = 0 := g2.len.symm
  subst hrn
  have J1 := Lib.hid g1
  have J2 := Lib.hid g2
  simp only at J1 J2
  have hv' : z / y = sg (neg1 != neg2) (z.natAbs / y.natAbs) := by
    obtain ⟨q, hq⟩ := HD.out
    have hy := HY.out
    have e1 : z / y = q := by rw [hq]; exact Int.mul_ediv_cancel_left _ hy
    have e2 : z.natAbs / y.natAbs = q.natAbs := by rw [hq, Int.natAbs_mul]; exact Nat.mul_div_cancel_left _ (by omega)
    rw [e1, e2]
    have h1 : neg1 = decide (z < 0) := G1.out.1
    have h2 : neg2 = decide (y < 0) := HN2.out
    have h3 : (neg1 != neg2) = decide (q < 0) ∨ q = 0 := by
      rw [h1, h2, hq]
      rcases Int.lt_trichotomy q 0 with hq0 | hq0 | hq0
      · left
        rcases Int.lt_or_gt_of_ne hy with h | h
        · have := Int.mul_pos_of_neg_of_neg h hq0
          simp [hq0, h]; omega
        · have := Int.mul_neg_of_pos_of_neg h hq0
          simp [hq0, this]; omega
      · exact Or.inr hq0
      · left
        rcases Int.lt_or_gt_of_ne hy with h | h
        · have := Int.mul_neg_of_neg_of_pos h hq0
          simp [h, this]; omega
        · have := Int.mul_pos h hq0
          have e : decide (y * q < 0) = false := by simp; omega
          have e' : decide (y < 0) = false := by simp; omega
          have e'' : decide (q < 0) = false := by simp; omega
          rw [e, e', e'']; rfl
    rcases h3 with h3 | h3
    · rw [h3, sg_self]
    · rw [h3]; unfold sg; split <;> rfl
  have HV := Lib.hid hv'
  clear g1 g2 hr0 hv' G3 G1
  have hq1 : qn ≤ 4294967297 := by
    have e1 : (digs (z.natAbs / y.natAbs)).length = qn := J1.out.len
    have := digs_mono (Nat.div_le_self z.natAbs y.natAbs)
    omega
  simp only [DM, SH.v]
  cases neg1
  all_goals
    go_wp2_with fail
    refine Calls.mono (itrim2_big ⟨_, qa, qn, qc⟩ _ (z / y) _ J1.out (by rw [val_digs, HV.out]; cases neg2 <;> rfl) hq1) ?_
    rintro e w4 ⟨x4, rfl, hE, g4⟩
    have G4 := Lib.hid g4
    clear g4
    obtain ⟨hcw, hfw⟩ := bcellE hE
    have hsw := hE.size
    (try simp only [World.size_alloc] at hsw)
    have hs0 : w.heap.size < w4.heap.size := by omega
    have hs1 : w.heap.size + 1 < w4.heap.size := by omega
    have hs2 : w.heap.size + 2 < w4.heap.size := by omega
    have hs3 : w.heap.size + 3 < w4.heap.size := by omega
    replace B0 := Lib.hid (hE.block B0.out)
    replace B1 := Lib.hid (hE.block B1.out)
    replace B2 := Lib.hid (hE.block B2.out)
    replace HB := Lib.hid (hE.block HB.out)
    have cR := blk_cell HB.out
    have fR := blk_frozen HB.out
    have E4 := Lib.hid ((E3.out).trans hE)
    have X4 := Lib.hid hE
    clear hE
    have HX := E4
    go_wp2
    obtain ⟨w5, hw5, T5⟩ := two_box HX.out B2.out HB.out (by omega) (by omega) (by omega) rfl rfl x4 ⟨false, ra, 0, rc⟩
    change bodyPost _ _ _ _ _ (stI (stI w4 (w.heap.size + 2) x4) (w.heap.size + 3) ⟨false, ra, 0, rc⟩)
    rw [← hw5]
    exact bodyPost_ret (v := II (x4, ⟨false, ra, 0, rc⟩)) (by simp [results, Tryz.results90, go_sem, blk_cell T5.bx, blk_cell T5.cy]) rfl ⟨(x4, ⟨false, ra, 0, rc⟩), rfl, T5.ext, G4.out.keep T5.keep, rfl, by show U32 w5 ra 0 rc (digs 0); rw [digs_zero]; exact T5.keep _ _ _ _ (J2.out.ext X4.out)⟩
set_option maxRecDepth 4000 in
set_option maxHeartbeats 1000000 in
theorem isame2_any (s t : IH) (ds es : List Nat) (w : World) (hU : U32 w s.a s.n s.c ds) (kU : U32 w t.a t.n t.c es) : Does 127 [s.v, t.v] w (fun _ : Unit => .bool (decide (s.neg = t.neg ∧ ds = es))) (fun _ _ => True) := by
  obtain ⟨neg, ao, n, c⟩ := s
  obtain ⟨neg', bo, m, d⟩ := t
  simp only at hU kU
  have HU := Lib.hid hU
  have KU := Lib.hid kU
  clear hU kU
  unfold Does
  by_cases hs : neg = neg'
  · subst hs
    have hb : (neg == neg) = true := by simp
    go_enter Tryz.func127, Tryz.ntmps127
    go_wp2_with fail
    refine Calls.mono (same1_any ⟨ao, n, c⟩ ⟨bo, m, d⟩ _ _ _ (HU.out.ext Ext.al2) (KU.out.ext Ext.al2)) ?_
    rintro e w1 ⟨x1, rfl, hE, g1⟩
    have G1 := Lib.hid g1
    clear g1
    obtain ⟨hcw, hfw⟩ := bcellE hE
    have hsw := hE.size
    (try simp only [World.size_alloc] at hsw)
    have hs0 : w.heap.size < w1.heap.size := by omega
    have hs1 : w.heap.size + 1 < w1.heap.size := by omega
    have E1 := Lib.hid ((Ext.al2).trans hE)
    have X1 := Lib.hid hE
    clear hE
    go_wp2
    go_ret
    exact ⟨(), ret_bool (by simp), E1.out, trivial⟩
  · have hb : (neg == neg') = false := by simpa using hs
    go_enter Tryz.func127, Tryz.ntmps127
    go_wp2
    go_ret
    exact ⟨(), ret_bool (by simp [hs]), Ext.al2, trivial⟩
end Go.Proofs.YteafdebcihbjdaaGreat
/- Rationals of the reference 03: parts, reduce, Of, Frac, Trim, Sign, Same. -/
namespace Go.Proofs.YteafdebcihbjdaaGreat
open Go.RowKit Go.Front Go.Num
attribute [local go_sem] XW.cell XW.frozen
abbrev PP (p : IH × IH) : Value := .tuple #[p.1.v, p.2.v]
/-- Numerator and denominator. -/
def Part (w : World) (p : IH × IH) (q : Rat) : Prop := ∃ z d : Int, RawI w p.1 z ∧ RawI w p.2 d ∧ 0 < d ∧ q = mkRat z d.natAbs ∧ p.1.n ≤ 134217728 ∧ p.2.n ≤ 134217728
theorem Part.ext {w w' : World} {p : IH × IH} {q : Rat} (h : Part w p q) (he : Ext w w') : Part w' p q := let ⟨z, d, h1, h2, h3⟩ := h; ⟨z, d, h1.ext he, h2.ext he, h3⟩
set_option maxRecDepth 4000 in
set_option maxHeartbeats 1000000 in
theorem parts_any (s : RH) (q : Rat) (w : World) (h : RawR w s q) : Does 62 [s.v] w PP (fun p w' => Part w' p q) := by
  obtain ⟨neg, ao, n, c, bo, m, d⟩ := s
  obtain ⟨ds, es, hU, kU, hq, hn, hm⟩ := h
  simp only at hU kU hq hn hm
  have HU := Lib.hid hU
  have KU := Lib.hid kU
  have HQ := Lib.hid hq
  clear hU kU hq
  unfold Does
  go_enter Tryz.func62, Tryz.ntmps62
  go_wp2_with fail
  refine Calls.mono (trim1_does ⟨bo, m, d⟩ es _ (KU.out.ext Ext.al3) (by simp only; omega)) ?_
  rintro e w1 ⟨x1, rfl, hE, g1⟩
  have G1 := Lib.hid g1
  clear g1
  obtain ⟨hcw, hfw⟩ := bcellE hE
  have hsw := hE.size
  (try simp only [World.size_alloc] at hsw)
  have hs0 : w.heap.size < w1.heap.size := by omega
  have hs1 : w.heap.size + 1 < w1.heap.size := by omega
  have hs2 : w.heap.size + 2 < w1.heap.size := by omega
  have hB := hE.block (heap_alloc_new _ _)
  rw [World.size_alloc, World.size_alloc] at hB
  have HB : Hid (w1.heap[w.heap.size + 2]? = some _) := Lib.hid hB
  clear hB
  have E1 := Lib.hid ((Ext.al3).trans hE)
  have X1 := Lib.hid hE
  clear hE
  have B0 := Lib.hid (X1.out.block al3_0)
  have B1 := Lib.hid (X1.out.block al3_1)
  obtain ⟨da, dn, dc⟩ := x1
  have hl : (digs (val es)).length = dn := G1.out.len
  have hz : dn = 0 ↔ val es = 0 := by rw [← hl, List.length_eq_zero_iff, digs_nil]
  have HL := Lib.hid hl
  have HZ := Lib.hid hz
  clear hl hz
  simp only [SH.v]
  by_cases h0 : dn = 0
  · have hv := HZ.out.1 h0
    subst h0
    have HV := Lib.hid hv
    clear hv
    go_wp2
    obtain ⟨w5, hw5, T5⟩ := two_box E1.out B1.out HB.out (by omega) (by omega) (by omega) rfl rfl ⟨false, none, 0, 0⟩ ⟨false, some ⟨w1.heap.size + 1, 0, none⟩, 1, 1⟩
    have hsz : w5.heap.size = w1.heap.size := by rw [hw5]; simp [stI, World.setCell]
    have hU1 := u32_one (w5.alloc (.cells #[.bool false, .slice da 0 dc] 28)) 1 (by decide)
    rw [World.size_alloc, hsz] at hU1
    change bodyPost _ _ _ _ _ (((stI (stI w1 (w.heap.size + 1) ⟨false, none, 0, 0⟩) (w.heap.size + 2) ⟨false, some ⟨w1.heap.size + 1, 0, none⟩, 1, 1⟩).alloc (.cells #[.bool false, .slice da 0 dc] 28)).alloc (.cells #[.int .u32 1] 80))
    rw [← hw5]
    refine bodyPost_ret (v := PP (⟨false, none, 0, 0⟩, ⟨false, some ⟨w1.heap.size + 1, 0, none⟩, 1, 1⟩)) (by simp [results, Tryz.results62, go_sem, blk_cell (Ext.al2.block T5.bx), blk_cell (Ext.al2.block T5.cy)]) rfl ⟨(⟨false, none, 0, 0⟩, ⟨false, some ⟨w1.heap.size + 1, 0, none⟩, 1, 1⟩), rfl, T5.ext.trans Ext.al2, 0, 1, ⟨[], u32_none _, by simp [sg, val], by simp⟩, ⟨[1], hU1, by simp [sg, val], by simp⟩, by decide, ?_, by simp, by simp⟩
    rw [HQ.out, HV.out, Rat.mkRat_zero, Rat.zero_mkRat]
  · have h0' : ((dn : Int) == 0) = false := by rw [beq_eq_false_iff_ne]; omega
    have hv : val es ≠ 0 := fun h => h0 (HZ.out.2 h)
    have HV := Lib.hid hv
    clear hv
    go_wp2
    obtain ⟨w2, hw2⟩ : ∃ w2, w2 = w1.alloc (.cells #[.bool false, .slice da dn dc] 28) := ⟨_, rfl⟩
    have hE2 : Ext w1 w2 := by rw [hw2]; exact Ext.al1
    have B3 : Hid (w2.heap[w1.heap.size]? = some (.cells #[.bool false, .slice da dn dc] 28 (0, 0))) := by rw [hw2]; exact al_last
    rw [← hw2]
    replace B0 := Lib.hid (hE2.block B0.out)
    replace B1 := Lib.hid (hE2.block B1.out)
    replace HB := Lib.hid (hE2.block HB.out)
    have c0 := blk_cell B0.out
    have c1 := blk_cell B1.out
    have c2 := blk_cell HB.out
    have c3 := blk_cell B3.out
    have f1 := blk_frozen B1.out
    have f2 := blk_frozen HB.out
    have HE2 := Lib.hid hE2
    clear hw2 hE2 hcw hfw
    go_region
    go_wp2
    obtain ⟨w5, hw5, T5⟩ := two_box (E1.out.trans HE2.out) B1.out HB.out (by omega) (by omega) (by omega) rfl rfl ⟨neg, ao, n, c⟩ ⟨false, da, dn, dc⟩
    change bodyPost _ _ _ _ _ (stI (stI w2 (w.heap.size + 1) ⟨neg, ao, n, c⟩) (w.heap.size + 2) ⟨false, da, dn, dc⟩).drew
    rw [← hw5]
    have hdn : dn ≤ 134217728 := by
      have e1 := HL.out
      have e2 := digs_len_le KU.out.dig
      rw [KU.out.len] at e2
      omega
    refine bodyPost_ret (v := PP (⟨neg, ao, n, c⟩, ⟨false, da, dn, dc⟩)) (by simp [results, Tryz.results62, go_sem, blk_cell ((Ext.drew _).block T5.bx), blk_cell ((Ext.drew _).block T5.cy)]) rfl ⟨(⟨neg, ao, n, c⟩, ⟨false, da, dn, dc⟩), rfl, T5.ext.trans (Ext.drew _), sg neg (val ds), (val es : Nat), ⟨ds, (T5.keep _ _ _ _ (HU.out.ext (E1.out.trans HE2.out))).ext (Ext.drew _), rfl, by simp only; omega⟩, ⟨digs (val es), (T5.keep _ _ _ _ (G1.out.ext HE2.out)).ext (Ext.drew _), by rw [val_digs]; rfl, by simp only; omega⟩, by have := HV.out; omega, ?_, hn, hdn⟩
    rw [HQ.out]
    rfl
theorem Ext.nw1 {w : World} {a : Obj} : Ext w (w.alloc a) := Ext.alloc _ _
theorem Ext.nw2 {w : World} {a b : Obj} : Ext w ((w.alloc a).alloc b) := Ext.nw1.trans Ext.nw1
/-- Three cells of a box are written: a rational. -/
def stR (w : World) (b : Nat) (x : RH) : World := ((w.setCell ⟨b, 0, none⟩ (.bool x.neg)).setCell ⟨b, 1, none⟩ (.slice x.a x.n x.c)).setCell ⟨b, 2, none⟩ (.slice x.b x.m x.d)
structure OneR (w w1 : World) (b : Nat) (T : TypeId) (x : RH) (w2 : World) : Prop where
  ext : Ext w w2
  keep : Keep w1 w2
  bx : w2.heap[b]? = some (.cells #[.bool x.neg, .slice x.a x.n x.c, .slice x.b x.m x.d] T (0, 0))
  rest : ∀ k o, k ≠ b → w1.heap[k]? = some o → w2.heap[k]? = some o
  size : w2.heap.size = w1.heap.size
theorem one_rat {w w1 : World} {b : Nat} {T : TypeId} {c0 c1 c2 : Value} (hE : Ext w w1) (h4 : w1.heap[b]? = some (.cells #[c0, c1, c2] T (0, 0))) (l4 : w.heap.size ≤ b) (hc : #[c0, c1, c2].toList.all nonU = true) (x : RH) :
    ∃ w2, w2 = stR w1 b x ∧ OneR w w1 b T x w2 := by
  have f1 : Fin w w1 b (stR w1 b x) := (((Fin.start hE (noU_block h4 hc)).set l4 rfl).set l4 rfl).set l4 rfl
  have m1 : Mods (· = b) w1 (stR w1 b x) := ((Mods.setCell w1 ⟨b, 0, none⟩ _).trans (Mods.setCell _ ⟨b, 1, none⟩ _)).trans (Mods.setCell _ ⟨b, 2, none⟩ _)
  exact ⟨_, rfl, f1.ext, f1.keep, blk_set (blk_set (blk_set h4 0 _) 1 _) 2 _, fun k o h1 h3 => m1.blk h1 h3, by simp [stR, World.setCell]⟩
theorem red_facts (z d : Int) (hz : z ≠ 0) (hd : d ≠ 0) : (z / ((Int.gcd z d : Nat) : Int)).natAbs = z.natAbs / Nat.gcd d.natAbs z.natAbs ∧ (d / ((Int.gcd z d : Nat) : Int)).natAbs = d.natAbs / Nat.gcd d.natAbs z.natAbs ∧ decide (z / ((Int.gcd z d : Nat) : Int) < 0) = decide (z < 0) ∧ decide (d / ((Int.gcd z d : Nat) : Int) < 0) = decide (d < 0) := by
  have hg : 0 < Nat.gcd z.natAbs d.natAbs := Nat.gcd_pos_of_pos_left _ (by omega)
  have key : ∀ x : Int, ((Nat.gcd z.natAbs d.natAbs : Nat) : Int) ∣ x → (x / ((Int.gcd z d : Nat) : Int)).natAbs = x.natAbs / Nat.gcd z.natAbs d.natAbs ∧ decide (x / ((Int.gcd z d : Nat) : Int) < 0) = decide (x < 0) := by
    intro x hx
    show (x / ((Nat.gcd z.natAbs d.natAbs : Nat) : Int)).natAbs = _ ∧ decide (x / ((Nat.gcd z.natAbs d.natAbs : Nat) : Int) < 0) = _
    obtain ⟨g, hgg⟩ : ∃ g, g = Nat.gcd z.natAbs d.natAbs := ⟨_, rfl⟩
    rw [← hgg] at hg hx ⊢
    obtain ⟨q, rfl⟩ := hx
    rw [Int.mul_ediv_cancel_left _ (by omega)]
    refine ⟨by rw [Int.natAbs_mul, Int.natAbs_natCast, Nat.mul_div_cancel_left _ hg], ?_⟩
    by_cases h : q < 0
    · have := Int.mul_neg_of_pos_of_neg (a := (g : Int)) (by omega) h
      rw [decide_eq_true h, decide_eq_true this]
    · have := Int.mul_nonneg (a := (g : Int)) (b := q) (by omega) (by omega)
      rw [decide_eq_false (by omega), decide_eq_false (by omega)]
  have k1 := key z (Int.ofNat_dvd_left.2 (Nat.gcd_dvd_left _ _))
  have k2 := key d (Int.ofNat_dvd_left.2 (Nat.gcd_dvd_right _ _))
  rw [Nat.gcd_comm d.natAbs]
  exact ⟨k1.1, k2.1, k1.2, k2.2⟩
theorem red_neg (z d : Int) (hz : z ≠ 0) (hd : d ≠ 0) : (z / ((Int.gcd z d : Nat) : Int) < 0 ↔ z < 0) ∧ z / ((Int.gcd z d : Nat) : Int) ≠ 0 := by
  obtain ⟨h1, -, h2, -⟩ := red_facts z d hz hd
  refine ⟨by rwa [decide_eq_decide] at h2, fun h0 => ?_⟩
  rw [h0] at h1
  have h3 : 0 < z.natAbs / Nat.gcd d.natAbs z.natAbs := Nat.div_pos (Nat.le_of_dvd (by omega) (Nat.gcd_dvd_right _ _)) (Nat.gcd_pos_of_pos_right _ (by omega))
  simp at h1
  omega
theorem neg_dec (q z : Int) (h : q < 0 ↔ z < 0) (h0 : q ≠ 0) : decide (-q < 0) = (decide (z < 0) != true) := by
  by_cases hz : z < 0
  · rw [decide_eq_true hz, decide_eq_false (by have := h.2 hz; omega)]; rfl
  · have : ¬ q < 0 := fun k => hz (h.1 k)
    rw [decide_eq_false hz, decide_eq_true (by omega)]; rfl
theorem CanR.zero (w : World) {b : Option Addr} {m d : Nat} (h : U32 w b m d [1]) : CanR w ⟨false, none, 0, 0, b, m, d⟩ 0 := ⟨by rfl, by show U32 w none 0 0 (digs 0); rw [digs_zero]; exact u32_none _, by show U32 w b m d (digs 1); rw [digs_one]; exact h⟩
set_option maxRecDepth 4000 in
set_option maxHeartbeats 1000000 in
theorem reduce_any (s t : IH) (z d : Int) (w : World) (h : RawI w s z) (k : RawI w t d) : Does 46 [s.v, t.v] w RH.v (fun r w' => CanR w' r ((z : Rat) / (d : Rat))) := by
  obtain ⟨neg, ao, n, c⟩ := s
  obtain ⟨neg', bo, m, e⟩ := t
  have HR := Lib.hid h
  have KR := Lib.hid k
  have hzl := h.len
  have kdl := k.len
  clear h k
  unfold Does
  by_cases hz : z = 0
  · have HZ := Lib.hid hz
    go_enter Tryz.func46, Tryz.ntmps46
    go_wp2_with fail
    refine Calls.mono (isign2_any ⟨neg, ao, n, c⟩ z _ (HR.out.ext Ext.al3)) ?_
    rintro e w1 ⟨x1, rfl, hE, g1⟩
    have G1 := Lib.hid g1
    clear g1
    obtain ⟨hcw, hfw⟩ := bcellE hE
    have hsw := hE.size
    (try simp only [World.size_alloc] at hsw)
    have hs0 : w.heap.size < w1.heap.size := by omega
    have hs1 : w.heap.size + 1 < w1.heap.size := by omega
    have hs2 : w.heap.size + 2 < w1.heap.size := by omega
    have hB := hE.block (heap_alloc_new _ _)
    rw [World.size_alloc, World.size_alloc] at hB
    have HB : Hid (w1.heap[w.heap.size + 2]? = some _) := Lib.hid hB
    clear hB
    have E1 := Lib.hid ((Ext.al3).trans hE)
    have X1 := Lib.hid hE
    clear hE
    rw [cmpI_eq hz]
    have HX := E1
    clear hz
    go_wp2
    obtain ⟨w9, hw9, T9⟩ := one_rat HX.out HB.out (by omega) rfl ⟨false, none, 0, 0, some ⟨w1.heap.size, 0, none⟩, 1, 1⟩
    have hU1 := u32_one w9 1 (by decide)
    rw [T9.size] at hU1
    change bodyPost _ _ _ _ _ ((stR w1 (w.heap.size + 2) ⟨false, none, 0, 0, some ⟨w1.heap.size, 0, none⟩, 1, 1⟩).alloc (.cells #[.int .u32 1] 80))
    rw [← hw9]
    exact bodyPost_ret (v := RH.v ⟨false, none, 0, 0, some ⟨w1.heap.size, 0, none⟩, 1, 1⟩) (by simp [results, Tryz.results46, go_sem, blk_cell (Ext.nw1.block T9.bx)]) rfl ⟨⟨false, none, 0, 0, some ⟨w1.heap.size, 0, none⟩, 1, 1⟩, rfl, T9.ext.trans Ext.nw1, by rw [HZ.out, Rat.intCast_zero, Rat.div_def, Rat.zero_mul]; exact CanR.zero _ hU1⟩
  · have hzb : (cmpI z 0 == 0) = false := by unfold cmpI; split <;> simp_all
    by_cases hd : d = 0
    · go_enter Tryz.func46, Tryz.ntmps46
      go_wp2_with fail
      refine Calls.mono (isign2_any ⟨neg, ao, n, c⟩ z _ (HR.out.ext Ext.al3)) ?_
      rintro e w1 ⟨x1, rfl, hE, g1⟩
      have G1 := Lib.hid g1
      clear g1
      obtain ⟨hcw, hfw⟩ := bcellE hE
      have hsw := hE.size
      (try simp only [World.size_alloc] at hsw)
      have hs0 : w.heap.size < w1.heap.size := by omega
      have hs1 : w.heap.size + 1 < w1.heap.size := by omega
      have hs2 : w.heap.size + 2 < w1.heap.size := by omega
      have hB := hE.block (heap_alloc_new _ _)
      rw [World.size_alloc, World.size_alloc] at hB
      have HB : Hid (w1.heap[w.heap.size + 2]? = some _) := Lib.hid hB
      clear hB
      have E1 := Lib.hid ((Ext.al3).trans hE)
      have X1 := Lib.hid hE
      clear hE
      go_wp2_with fail
      refine Calls.mono (isign2_any ⟨neg', bo, m, e⟩ d _ (KR.out.ext E1.out)) ?_
      rintro e w2 ⟨x2, rfl, hE, g2⟩
      have G2 := Lib.hid g2
      clear g2
      obtain ⟨hcw, hfw⟩ := bcellE hE
      have hsw := hE.size
      (try simp only [World.size_alloc] at hsw)
      have hs0 : w.heap.size < w2.heap.size := by omega
      have hs1 : w.heap.size + 1 < w2.heap.size := by omega
      have hs2 : w.heap.size + 2 < w2.heap.size := by omega
      replace HB := Lib.hid (hE.block HB.out)
      have cR := blk_cell HB.out
      have fR := blk_frozen HB.out
      have cR2 := blk_cell (B := w.heap.size + 1 + 1) HB.out
      have fR2 := blk_frozen (B := w.heap.size + 1 + 1) HB.out
      have E2 := Lib.hid ((E1.out).trans hE)
      have X2 := Lib.hid hE
      clear hE
      rw [cmpI_eq hd]
      have HX := E2
      have HD := Lib.hid hd
      clear hd
      go_wp2
      obtain ⟨w9, hw9, T9⟩ := one_rat HX.out HB.out (by omega) rfl ⟨false, none, 0, 0, some ⟨w2.heap.size, 0, none⟩, 1, 1⟩
      have hU1 := u32_one w9 1 (by decide)
      rw [T9.size] at hU1
      change bodyPost _ _ _ _ _ ((stR w2 (w.heap.size + 2) ⟨false, none, 0, 0, some ⟨w2.heap.size, 0, none⟩, 1, 1⟩).alloc (.cells #[.int .u32 1] 80))
      rw [← hw9]
      exact bodyPost_ret (v := RH.v ⟨false, none, 0, 0, some ⟨w2.heap.size, 0, none⟩, 1, 1⟩) (by simp [results, Tryz.results46, go_sem, blk_cell (Ext.nw1.block T9.bx)]) rfl ⟨⟨false, none, 0, 0, some ⟨w2.heap.size, 0, none⟩, 1, 1⟩, rfl, T9.ext.trans Ext.nw1, by rw [HD.out, Rat.intCast_zero, Rat.div_def, Rat.inv_zero, Rat.mul_zero]; exact CanR.zero _ hU1⟩
    · have hdb : (cmpI d 0 == 0) = false := by unfold cmpI; split <;> simp_all
      go_enter Tryz.func46, Tryz.ntmps46
      go_wp2_with fail
      refine Calls.mono (isign2_any ⟨neg, ao, n, c⟩ z _ (HR.out.ext Ext.al3)) ?_
      rintro e w1 ⟨x1, rfl, hE, g1⟩
      have G1 := Lib.hid g1
      clear g1
      obtain ⟨hcw, hfw⟩ := bcellE hE
      have hsw := hE.size
      (try simp only [World.size_alloc] at hsw)
      have hs0 : w.heap.size < w1.heap.size := by omega
      have hs1 : w.heap.size + 1 < w1.heap.size := by omega
      have hs2 : w.heap.size + 2 < w1.heap.size := by omega
      have hB := hE.block (heap_alloc_new _ _)
      rw [World.size_alloc, World.size_alloc] at hB
      have HB : Hid (w1.heap[w.heap.size + 2]? = some _) := Lib.hid hB
      clear hB
      have E1 := Lib.hid ((Ext.al3).trans hE)
      have X1 := Lib.hid hE
      clear hE
      go_wp2_with fail
      refine Calls.mono (isign2_any ⟨neg', bo, m, e⟩ d _ (KR.out.ext E1.out)) ?_
      rintro e w2 ⟨x2, rfl, hE, g2⟩
      have G2 := Lib.hid g2
      clear g2
      obtain ⟨hcw, hfw⟩ := bcellE hE
      have hsw := hE.size
      (try simp only [World.size_alloc] at hsw)
      have hs0 : w.heap.size < w2.heap.size := by omega
      have hs1 : w.heap.size + 1 < w2.heap.size := by omega
      have hs2 : w.heap.size + 2 < w2.heap.size := by omega
      replace HB := Lib.hid (hE.block HB.out)
      have cR := blk_cell HB.out
      have fR := blk_frozen HB.out
      have cR2 := blk_cell (B := w.heap.size + 1 + 1) HB.out
      have fR2 := blk_frozen (B := w.heap.size + 1 + 1) HB.out
      have E2 := Lib.hid ((E1.out).trans hE)
      have X2 := Lib.hid hE
      clear hE
      go_wp2_with fail
      refine Calls.mono (igcd2_any ⟨neg, ao, n, c⟩ ⟨neg', bo, m, e⟩ z d _ (HR.out.ext E2.out) (KR.out.ext E2.out)) ?_
      rintro e w3 ⟨x3, rfl, hE, g3⟩
      have G3 := Lib.hid g3
      clear g3
      obtain ⟨hcw, hfw⟩ := bcellE hE
      have hsw := hE.size
      (try simp only [World.size_alloc] at hsw)
      have hs0 : w.heap.size < w3.heap.size := by omega
      have hs1 : w.heap.size + 1 < w3.heap.size := by omega
      have hs2 : w.heap.size + 2 < w3.heap.size := by omega
      replace HB := Lib.hid (hE.block HB.out)
      have cR := blk_cell HB.out
      have fR := blk_frozen HB.out
      have cR2 := blk_cell (B := w.heap.size + 1 + 1) HB.out
      have fR2 := blk_frozen (B := w.heap.size + 1 + 1) HB.out
      have E3 := Lib.hid ((E2.out).trans hE)
      have X3 := Lib.hid hE
      clear hE
      obtain ⟨gn, ga, gl, gc⟩ := x3
      have hgl : (digs ((Int.gcd z d : Nat) : Int).natAbs).length ≤ 1073741824 := by
        refine Nat.le_trans (digs_mono (show _ ≤ z.natAbs from ?_)) hzl
        exact Nat.le_of_dvd (by omega) (Nat.gcd_dvd_left z.natAbs d.natAbs)
      have hg0 : ((Int.gcd z d : Nat) : Int) ≠ 0 := by
        have : 0 < Nat.gcd z.natAbs d.natAbs := Nat.gcd_pos_of_pos_left _ (by omega)
        show ((Nat.gcd z.natAbs d.natAbs : Nat) : Int) ≠ 0
        omega
      go_wp2_with fail
      refine Calls.mono (idiv2_exact ⟨neg, ao, n, c⟩ ⟨gn, ga, gl, gc⟩ z _ _ (HR.out.ext (E3.out.trans Ext.nw1)) ((G3.out.raw hgl).ext Ext.nw1) hg0 (Int.gcd_dvd_left ..)) ?_
      rintro e w4 ⟨x4, rfl, hE, g4⟩
      have G4 := Lib.hid g4
      clear g4
      obtain ⟨hcw, hfw⟩ := bcellE hE
      have hsw := hE.size
      (try simp only [World.size_alloc] at hsw)
      have hs0 : w.heap.size < w4.heap.size := by omega
      have hs1 : w.heap.size + 1 < w4.heap.size := by omega
      have hs2 : w.heap.size + 2 < w4.heap.size := by omega
      have hzw3_heap_size : w3.heap.size < w4.heap.size := by omega
      replace HB := Lib.hid (hE.block (Ext.nw1.block HB.out))
      have cR := blk_cell HB.out
      have fR := blk_frozen HB.out
      have cR2 := blk_cell (B := w.heap.size + 1 + 1) HB.out
      have fR2 := blk_frozen (B := w.heap.size + 1 + 1) HB.out
      have E4 := Lib.hid ((E3.out.trans Ext.nw1).trans hE)
      have X4 := Lib.hid hE
      clear hE
      have B5 := Lib.hid (X4.out.block al_last)
      have c5 := blk_cell B5.out
      obtain ⟨⟨un, ua, ul, uc⟩, ⟨rn, ra, rl, rc⟩⟩ := x4
      go_wp2_with fail
      refine Calls.mono (idiv2_exact ⟨neg', bo, m, e⟩ ⟨gn, ga, gl, gc⟩ d _ _ (KR.out.ext (E4.out.trans Ext.nw2)) ((G3.out.raw hgl).ext ((Ext.nw1.trans X4.out).trans Ext.nw2)) hg0 (Int.gcd_dvd_right ..)) ?_
      rintro e w5 ⟨x5, rfl, hE, g5⟩
      have G5 := Lib.hid g5
      clear g5
      obtain ⟨hcw, hfw⟩ := bcellE hE
      have hsw := hE.size
      (try simp only [World.size_alloc] at hsw)
      have hs0 : w.heap.size < w5.heap.size := by omega
      have hs1 : w.heap.size + 1 < w5.heap.size := by omega
      have hs2 : w.heap.size + 2 < w5.heap.size := by omega
      have hzw3_heap_size : w3.heap.size < w5.heap.size := by omega
      have hzw4_heap_size : w4.heap.size < w5.heap.size := by omega
      have hzw4_heap_size___1 : w4.heap.size + 1 < w5.heap.size := by omega
      replace B5 := Lib.hid (hE.block (Ext.nw2.block B5.out))
      replace HB := Lib.hid (hE.block (Ext.nw2.block HB.out))
      have cR := blk_cell HB.out
      have fR := blk_frozen HB.out
      have cR2 := blk_cell (B := w.heap.size + 1 + 1) HB.out
      have fR2 := blk_frozen (B := w.heap.size + 1 + 1) HB.out
      have E5 := Lib.hid ((E4.out.trans Ext.nw2).trans hE)
      have X5 := Lib.hid hE
      clear hE
      have B6 := Lib.hid (X5.out.block al2_0)
      have c6 := blk_cell B6.out
      obtain ⟨⟨vn, va, vl, vc⟩, ⟨tn, ta, tl, tc⟩⟩ := x5
      have g4 := G4.out.1.ext (Ext.nw2.trans X5.out)
      have g5 := G5.out.1
      simp only at g4 g5
      obtain ⟨hz4, hd4, hpn, hpd⟩ := red_facts z d hz hd
      have hvn : vn = decide (d < 0) := by rw [show vn = decide (d / ((Int.gcd z d : Nat) : Int) < 0) from g5.1, hpd]
      have hun : un = decide (z < 0) := by rw [show un = decide (z / ((Int.gcd z d : Nat) : Int) < 0) from g4.1, hpn]
      have HPN := Lib.hid (red_neg z d hz hd)
      have H4 := Lib.hid g4
      have H5 := Lib.hid g5
      have HVN := Lib.hid hvn
      have HUN := Lib.hid hun
      have HZ4 := Lib.hid hz4
      have HD4 := Lib.hid hd4
      have hul : (digs (z / ((Int.gcd z d : Nat) : Int)).natAbs).length ≤ 1073741824 := by
        rw [hz4]
        exact Nat.le_trans (digs_mono (Nat.div_le_self _ _)) hzl
      clear g4 g5 G4 G5 hvn hun hz4 hd4 G3
      cases vn
      · have HX := E5
        go_wp2
        obtain ⟨w9, hw9, T9⟩ := one_rat HX.out HB.out (by omega) rfl ⟨un, ua, ul, uc, va, vl, vc⟩
        change bodyPost _ _ _ _ _ (((stR w5 (w.heap.size + 2) ⟨un, ua, ul, uc, va, vl, vc⟩).alloc (.cells #[.bool false, .slice va vl vc] 28)).alloc (.cells #[.bool tn, .slice ta tl tc] 28))
        rw [← hw9]
        refine bodyPost_ret (v := RH.v ⟨un, ua, ul, uc, va, vl, vc⟩) (by simp [results, Tryz.results46, go_sem, blk_cell (Ext.nw2.block T9.bx)]) rfl ⟨⟨un, ua, ul, uc, va, vl, vc⟩, rfl, T9.ext.trans Ext.nw2, ?_⟩
        rw [div_sg _ _ hd]
        refine CanR.ext (CanR.of (by omega) (by omega) (by show un = _; rw [← HVN.out, HUN.out]; simp) ?_ ?_) Ext.nw2
        · rw [← HZ4.out]; exact T9.keep _ _ _ _ H4.out.2
        · rw [← HD4.out]; exact T9.keep _ _ _ _ H5.out.2
      · skip
        go_wp2_with fail
        refine Calls.mono (ineg2_any ⟨un, ua, ul, uc⟩ _ _ ((H4.out.raw hul).ext Ext.nw2)) ?_
        rintro e w6 ⟨x6, rfl, hE, g6⟩
        have G6 := Lib.hid g6
        clear g6
        obtain ⟨hcw, hfw⟩ := bcellE hE
        have hsw := hE.size
        (try simp only [World.size_alloc] at hsw)
        have hs0 : w.heap.size < w6.heap.size := by omega
        have hs1 : w.heap.size + 1 < w6.heap.size := by omega
        have hs2 : w.heap.size + 2 < w6.heap.size := by omega
        have hzw5_heap_size : w5.heap.size < w6.heap.size := by omega
        have hzw4_heap_size : w4.heap.size < w6.heap.size := by omega
        replace B6 := Lib.hid (hE.block (Ext.nw2.block B6.out))
        replace HB := Lib.hid (hE.block (Ext.nw2.block HB.out))
        have cR := blk_cell HB.out
        have fR := blk_frozen HB.out
        have cR2 := blk_cell (B := w.heap.size + 1 + 1) HB.out
        have fR2 := blk_frozen (B := w.heap.size + 1 + 1) HB.out
        have E6 := Lib.hid ((E5.out.trans Ext.nw2).trans hE)
        have X6 := Lib.hid hE
        clear hE
        have B9 := Lib.hid (X6.out.block al2_0)
        have d6 := blk_cell B6.out
        have e6 := blk_frozen B6.out
        have HX := E6
        obtain ⟨pn, pa, pl, pc⟩ := x6
        go_upto_region 8 with fail
        obtain ⟨w7, hw2, T2⟩ := one_box HX.out B6.out (by omega) rfl ⟨pn, pa, pl, pc⟩
        change Code.wp _ _ _ _ (stI w6 (w4.heap.size) ⟨pn, pa, pl, pc⟩)
        rw [← hw2]
        replace B6 := Lib.hid T2.bx
        replace HB := Lib.hid (T2.rest _ _ (by omega) HB.out)
        replace B9 := Lib.hid (T2.rest _ _ (by omega) B9.out)
        have hK := Lib.hid T2.keep
        have HX := Lib.hid T2.ext
        have hv := T2.size
        have hs0 : w.heap.size < w7.heap.size := by omega
        have hs1 : w.heap.size + 1 < w7.heap.size := by omega
        have hs2 : w.heap.size + 2 < w7.heap.size := by omega
        have c0 := blk_cell B6.out
        have f0 := blk_frozen B6.out
        have c1 := blk_cell HB.out
        have f1 := blk_frozen HB.out
        have c2 := blk_cell B9.out
        have f2 := blk_frozen B9.out
        clear hw2 T2 hcw hfw
        have g6 := G6.out.keep hK.out
        have g5 := H5.out.2.ext (Ext.nw2.trans X6.out)
        replace g5 := hK.out _ _ _ _ g5
        simp only at g6 g5
        have J6 := Lib.hid g6
        have J5 := Lib.hid g5
        clear g6 g5 G6
        go_wp2
        obtain ⟨w9, hw9, T9⟩ := one_rat HX.out HB.out (by omega) rfl ⟨pn, pa, pl, pc, va, vl, vc⟩
        change bodyPost _ _ _ _ _ (stR w7 (w.heap.size + 2) ⟨pn, pa, pl, pc, va, vl, vc⟩)
        rw [← hw9]
        refine bodyPost_ret (v := RH.v ⟨pn, pa, pl, pc, va, vl, vc⟩) (by simp [results, Tryz.results46, go_sem, blk_cell T9.bx]) rfl ⟨⟨pn, pa, pl, pc, va, vl, vc⟩, rfl, T9.ext, ?_⟩
        rw [div_sg _ _ hd]
        refine CanR.of (by omega) (by omega) (by show pn = _; rw [← HVN.out, show pn = decide (-(z / ((Int.gcd z d : Nat) : Int)) < 0) from J6.out.1]; exact neg_dec _ _ HPN.out.1 HPN.out.2) ?_ ?_
        · rw [← HZ4.out, ← Int.natAbs_neg]; exact T9.keep _ _ _ _ J6.out.2
        · rw [← HD4.out]; exact T9.keep _ _ _ _ J5.out
end Go.Proofs.YteafdebcihbjdaaGreat
/- Rationals of the reference 03: Of, Frac, Trim, Sign, Same, Add, Mul. -/
namespace Go.Proofs.YteafdebcihbjdaaGreat
open Go.RowKit Go.Front Go.Num
attribute [local go_sem] XW.cell XW.frozen
set_option maxRecDepth 4000 in
set_option maxHeartbeats 1000000 in
theorem rof3_any (n : Int) (w : World) (h1 : -9223372036854775808 ≤ n) (h2 : n ≤ 9223372036854775807) : Does 20 [.int .i64 n] w RH.v (fun r w' => CanR w' r (n : Rat)) := by
  unfold Does
  go_enter Tryz.func20, Tryz.ntmps20
  go_wp2_with fail
  refine Calls.mono (iof2_any n _ h1 h2) ?_
  rintro e w1 ⟨x1, rfl, hE, g1⟩
  have G1 := Lib.hid g1
  clear g1
  obtain ⟨hcw, hfw⟩ := bcellE hE
  have hsw := hE.size
  (try simp only [World.size_alloc] at hsw)
  have hs0 : w.heap.size < w1.heap.size := by omega
  have hB := hE.block (heap_alloc_new _ _)
  have HB : Hid (w1.heap[w.heap.size]? = some _) := Lib.hid hB
  clear hB
  have E1 := Lib.hid ((Ext.al1).trans hE)
  have X1 := Lib.hid hE
  clear hE
  have HX := E1
  obtain ⟨xn, xa, xl, xc⟩ := x1
  go_wp2
  obtain ⟨w9, hw9, T9⟩ := one_rat HX.out HB.out (by omega) rfl ⟨xn, xa, xl, xc, some ⟨w1.heap.size, 0, none⟩, 1, 1⟩
  have hU1 := u32_one w9 1 (by decide)
  rw [T9.size] at hU1
  change bodyPost _ _ _ _ _ ((stR w1 w.heap.size ⟨xn, xa, xl, xc, some ⟨w1.heap.size, 0, none⟩, 1, 1⟩).alloc (.cells #[.int .u32 1] 80))
  rw [← hw9]
  exact bodyPost_ret (v := RH.v ⟨xn, xa, xl, xc, some ⟨w1.heap.size, 0, none⟩, 1, 1⟩) (by simp [results, Tryz.results20, go_sem, blk_cell (Ext.nw1.block T9.bx)]) rfl ⟨⟨xn, xa, xl, xc, some ⟨w1.heap.size, 0, none⟩, 1, 1⟩, rfl, T9.ext.trans Ext.nw1, CanR.whole ((G1.out.keep T9.keep).ext Ext.nw1) hU1⟩
theorem CanI.raw64 {w : World} {s : IH} {z : Int} (h : CanI w s z) (h1 : -9223372036854775808 ≤ z) (h2 : z ≤ 9223372036854775807) : RawI w s z :=
  h.rawk (k := 2) (by unfold W32; omega) (by omega)
set_option maxRecDepth 4000 in
set_option maxHeartbeats 1000000 in
theorem rfrac3_any (n d : Int) (w : World) (h1 : -9223372036854775808 ≤ n) (h2 : n ≤ 9223372036854775807) (k1 : -9223372036854775808 ≤ d) (k2 : d ≤ 9223372036854775807) : Does 16 [.int .i64 n, .int .i64 d] w RH.v (fun r w' => CanR w' r ((n : Rat) / (d : Rat))) := by
  unfold Does
  go_enter Tryz.func16, Tryz.ntmps16
  go_wp2_with fail
  refine Calls.mono (iof2_any n _ h1 h2) ?_
  rintro e w1 ⟨x1, rfl, hE, g1⟩
  have G1 := Lib.hid g1
  clear g1
  obtain ⟨hcw, hfw⟩ := bcellE hE
  have hsw := hE.size
  (try simp only [World.size_alloc] at hsw)
  have hs0 : w.heap.size < w1.heap.size := by omega
  have hB := hE.block (heap_alloc_new _ _)
  have HB : Hid (w1.heap[w.heap.size]? = some _) := Lib.hid hB
  clear hB
  have E1 := Lib.hid ((Ext.al1).trans hE)
  have X1 := Lib.hid hE
  clear hE
  go_wp2_with fail
  refine Calls.mono (iof2_any d _ k1 k2) ?_
  rintro e w2 ⟨x2, rfl, hE, g2⟩
  have G2 := Lib.hid g2
  clear g2
  obtain ⟨hcw, hfw⟩ := bcellE hE
  have hsw := hE.size
  (try simp only [World.size_alloc] at hsw)
  have hs0 : w.heap.size < w2.heap.size := by omega
  replace HB := Lib.hid (hE.block HB.out)
  have cR := blk_cell HB.out
  have fR := blk_frozen HB.out
  have E2 := Lib.hid ((E1.out).trans hE)
  have X2 := Lib.hid hE
  clear hE
  go_wp2_with fail
  refine Calls.mono (reduce_any x1 x2 n d _ ((G1.out.ext X2.out).raw64 h1 h2) (G2.out.raw64 k1 k2)) ?_
  rintro e w3 ⟨x3, rfl, hE, g3⟩
  have G3 := Lib.hid g3
  clear g3
  obtain ⟨hcw, hfw⟩ := bcellE hE
  have hsw := hE.size
  (try simp only [World.size_alloc] at hsw)
  have hs0 : w.heap.size < w3.heap.size := by omega
  replace HB := Lib.hid (hE.block HB.out)
  have cR := blk_cell HB.out
  have fR := blk_frozen HB.out
  have E3 := Lib.hid ((E2.out).trans hE)
  have X3 := Lib.hid hE
  clear hE
  have HX := E3
  go_wp2
  have hF := ((((Fin.start (L := w.heap.size) HX.out (noU_block HB.out rfl)).set (by omega) (i := 0) (v := .bool x3.neg) rfl).set (by omega) (i := 1) (v := .slice x3.a x3.n x3.c) rfl).set (by omega) (i := 2) (v := .slice x3.b x3.m x3.d) rfl)
  exact bodyPost_ret (v := x3.v) (by simp [results, Tryz.results16, go_sem, blk_cell HB.out]) rfl ⟨x3, rfl, hF.ext, G3.out.keep hF.keep⟩
/-- Few enough digits. -/
def BigK : Nat := 134217728
def Big (z : Int) : Prop := z.natAbs < W32 ^ BigK
theorem Part.div {w : World} {p : IH × IH} {q : Rat} (h : Part w p q) : ∃ z d : Int, RawI w p.1 z ∧ RawI w p.2 d ∧ 0 < d ∧ (z : Rat) / (d : Rat) = q ∧ Big z ∧ Big d := by
  obtain ⟨z, d, h1, h2, h3, h4, h5, h6⟩ := h
  refine ⟨z, d, h1, h2, h3, ?_, ?_, ?_⟩
  · rw [h4, Rat.mkRat_eq_div]
    congr 1
    rw [← Rat.intCast_natCast, Int.natAbs_of_nonneg (by omega)]
  · obtain ⟨ds, u1, rfl, -⟩ := h1
    exact Nat.lt_of_lt_of_le (sg_lt u1 _) (Nat.pow_le_pow_right W32_pos h5)
  · obtain ⟨ds, u1, rfl, -⟩ := h2
    exact Nat.lt_of_lt_of_le (sg_lt u1 _) (Nat.pow_le_pow_right W32_pos h6)
set_option maxRecDepth 4000 in
set_option maxHeartbeats 1000000 in
theorem rtrim3_any (s : RH) (q : Rat) (w : World) (h : RawR w s q) : Does 65 [s.v] w RH.v (fun r w' => CanR w' r q) := by
  obtain ⟨neg, ao, n, c, bo, m, d⟩ := s
  have HR := Lib.hid h
  clear h
  unfold Does
  go_enter Tryz.func65, Tryz.ntmps65
  go_wp2_with fail
  refine Calls.mono (parts_any ⟨neg, ao, n, c, bo, m, d⟩ q _ (HR.out.ext Ext.al2)) ?_
  rintro e w1 ⟨x1, rfl, hE, g1⟩
  have G1 := Lib.hid g1
  clear g1
  obtain ⟨hcw, hfw⟩ := bcellE hE
  have hsw := hE.size
  (try simp only [World.size_alloc] at hsw)
  have hs0 : w.heap.size < w1.heap.size := by omega
  have hs1 : w.heap.size + 1 < w1.heap.size := by omega
  have hB := hE.block (heap_alloc_new _ _)
  rw [World.size_alloc] at hB
  have HB : Hid (w1.heap[w.heap.size + 1]? = some _) := Lib.hid hB
  clear hB
  have E1 := Lib.hid ((Ext.al2).trans hE)
  have X1 := Lib.hid hE
  clear hE
  obtain ⟨⟨an, aa, al, ac⟩, ⟨bn, ba, bl, bc⟩⟩ := x1
  obtain ⟨z, e, g1, g2, g3, g4, g5, g6⟩ := G1.out.div
  have J1 := Lib.hid g1
  have J2 := Lib.hid g2
  have J4 := Lib.hid g4
  clear g1 g2 g3 g4 g5 g6 G1
  go_wp2_with fail
  refine Calls.mono (reduce_any ⟨an, aa, al, ac⟩ ⟨bn, ba, bl, bc⟩ z e _ (J1.out.ext Ext.nw2) (J2.out.ext Ext.nw2)) ?_
  rintro e w2 ⟨x2, rfl, hE, g2⟩
  have G2 := Lib.hid g2
  clear g2
  obtain ⟨hcw, hfw⟩ := bcellE hE
  have hsw := hE.size
  (try simp only [World.size_alloc] at hsw)
  have hs0 : w.heap.size < w2.heap.size := by omega
  have hs1 : w.heap.size + 1 < w2.heap.size := by omega
  replace HB := Lib.hid (hE.block (Ext.nw2.block HB.out))
  have cR := blk_cell HB.out
  have fR := blk_frozen HB.out
  have E2 := Lib.hid ((E1.out.trans Ext.nw2).trans hE)
  have X2 := Lib.hid hE
  clear hE
  rw [J4.out] at G2
  have HX := E2
  go_wp2
  have hF := ((((Fin.start (L := w.heap.size + 1) HX.out (noU_block HB.out rfl)).set (by omega) (i := 0) (v := .bool x2.neg) rfl).set (by omega) (i := 1) (v := .slice x2.a x2.n x2.c) rfl).set (by omega) (i := 2) (v := .slice x2.b x2.m x2.d) rfl)
  exact bodyPost_ret (v := x2.v) (by simp [results, Tryz.results65, go_sem, blk_cell HB.out]) rfl ⟨x2, rfl, hF.ext, G2.out.keep hF.keep⟩
theorem cmpI_div {z d : Int} (hd : 0 < d) : cmpI z 0 = cmpR ((z : Rat) / (d : Rat)) 0 := by
  have : (z : Rat) / (d : Rat) = mkRat z d.natAbs := by
    rw [Rat.mkRat_eq_div]
    congr 1
    rw [← Rat.intCast_natCast, Int.natAbs_of_nonneg (by omega)]
  rw [this, cmpR_zero (by omega)]
set_option maxRecDepth 4000 in
set_option maxHeartbeats 1000000 in
theorem rsign3_any (s : RH) (q : Rat) (w : World) (h : RawR w s q) : Does 88 [s.v] w (fun _ : Unit => .int .i64 (cmpR q 0)) (fun _ _ => True) := by
  obtain ⟨neg, ao, n, c, bo, m, d⟩ := s
  have HR := Lib.hid h
  clear h
  unfold Does
  go_enter Tryz.func88, Tryz.ntmps88
  go_wp2_with fail
  refine Calls.mono (parts_any ⟨neg, ao, n, c, bo, m, d⟩ q _ (HR.out.ext Ext.al1)) ?_
  rintro e w1 ⟨x1, rfl, hE, g1⟩
  have G1 := Lib.hid g1
  clear g1
  obtain ⟨hcw, hfw⟩ := bcellE hE
  have hsw := hE.size
  (try simp only [World.size_alloc] at hsw)
  have hs0 : w.heap.size < w1.heap.size := by omega
  have E1 := Lib.hid ((Ext.al1).trans hE)
  have X1 := Lib.hid hE
  clear hE
  obtain ⟨⟨an, aa, al, ac⟩, ⟨bn, ba, bl, bc⟩⟩ := x1
  obtain ⟨z, e, g1, g2, g3, g4, g5, g6⟩ := G1.out.div
  have J1 := Lib.hid g1
  have J4 := Lib.hid (cmpI_div (z := z) g3)
  rw [g4] at J4
  clear g1 g2 g3 g4 g5 g6 G1
  go_wp2_with fail
  refine Calls.mono (isign2_any ⟨an, aa, al, ac⟩ z _ (J1.out.ext Ext.nw2)) ?_
  rintro e w2 ⟨x2, rfl, hE, g2⟩
  have G2 := Lib.hid g2
  clear g2
  obtain ⟨hcw, hfw⟩ := bcellE hE
  have hsw := hE.size
  (try simp only [World.size_alloc] at hsw)
  have hs0 : w.heap.size < w2.heap.size := by omega
  have E2 := Lib.hid ((E1.out.trans Ext.nw2).trans hE)
  have X2 := Lib.hid hE
  clear hE
  go_wp2
  go_ret
  exact ⟨(), ret_int J4.out, E2.out, trivial⟩
theorem CanR.uniq {q r : Rat} : (decide (q.num < 0) = decide (r.num < 0) ∧ digs q.num.natAbs = digs r.num.natAbs) ∧ digs q.den = digs r.den ↔ q = r := by
  constructor
  · rintro ⟨⟨h1, h2⟩, h3⟩
    have e2 : q.num.natAbs = r.num.natAbs := by rw [← val_digs q.num.natAbs, h2, val_digs]
    have e3 : q.den = r.den := by rw [← val_digs q.den, h3, val_digs]
    apply Rat.ext _ e3
    rw [← sg_self q.num, ← sg_self r.num, h1, e2]
  · rintro rfl
    exact ⟨⟨rfl, rfl⟩, rfl⟩
set_option maxRecDepth 4000 in
set_option maxHeartbeats 1000000 in
theorem rsame3_any (s t : RH) (q r : Rat) (w : World) (h : CanR w s q) (k : CanR w t r) : Does 99 [s.v, t.v] w (fun _ : Unit => .bool (decide (q = r))) (fun _ _ => True) := by
  obtain ⟨neg, ao, n, c, bo, m, d⟩ := s
  obtain ⟨neg', ao', n', c', bo', m', d'⟩ := t
  obtain ⟨h1, h2, h3⟩ := h
  obtain ⟨k1, k2, k3⟩ := k
  simp only at h1 h2 h3 k1 k2 k3
  have HU := Lib.hid (CanR.uniq (q := q) (r := r))
  rw [← h1, ← k1] at HU
  have H2 := Lib.hid h2
  have H3 := Lib.hid h3
  have K2 := Lib.hid k2
  have K3 := Lib.hid k3
  clear h1 h2 h3 k1 k2 k3
  unfold Does
  go_enter Tryz.func99, Tryz.ntmps99
  go_wp2_with fail
  refine Calls.mono (isame2_any ⟨neg, ao, n, c⟩ ⟨neg', ao', n', c'⟩ _ _ _ (H2.out.ext Ext.al2) (K2.out.ext Ext.al2)) ?_
  rintro e w1 ⟨x1, rfl, hE, g1⟩
  have G1 := Lib.hid g1
  clear g1
  obtain ⟨hcw, hfw⟩ := bcellE hE
  have hsw := hE.size
  (try simp only [World.size_alloc] at hsw)
  have hs0 : w.heap.size < w1.heap.size := by omega
  have hs1 : w.heap.size + 1 < w1.heap.size := by omega
  have E1 := Lib.hid ((Ext.al2).trans hE)
  have X1 := Lib.hid hE
  clear hE
  by_cases he : neg = neg' ∧ digs q.num.natAbs = digs r.num.natAbs
  · have hd : decide ((neg = neg') ∧ digs q.num.natAbs = digs r.num.natAbs) = true := decide_eq_true he
    rw [hd]
    go_wp2_with fail
    refine Calls.mono (same1_any ⟨bo, m, d⟩ ⟨bo', m', d'⟩ _ _ _ (H3.out.ext E1.out) (K3.out.ext E1.out)) ?_
    rintro e w2 ⟨x2, rfl, hE, g2⟩
    have G2 := Lib.hid g2
    clear g2
    obtain ⟨hcw, hfw⟩ := bcellE hE
    have hsw := hE.size
    (try simp only [World.size_alloc] at hsw)
    have hs0 : w.heap.size < w2.heap.size := by omega
    have hs1 : w.heap.size + 1 < w2.heap.size := by omega
    have E2 := Lib.hid ((E1.out).trans hE)
    have X2 := Lib.hid hE
    clear hE
    go_wp2
    go_ret
    refine ⟨(), ret_bool ?_, E2.out, trivial⟩
    rw [decide_eq_decide, ← HU.out]
    exact ⟨fun h => ⟨he, h⟩, fun h => h.2⟩
  · have hd : decide ((neg = neg') ∧ digs q.num.natAbs = digs r.num.natAbs) = false := decide_eq_false he
    rw [hd]
    go_wp2
    go_ret
    refine ⟨(), ret_bool ?_, E1.out, trivial⟩
    have : ¬ q = r := fun h => he (HU.out.2 h).1
    rw [decide_eq_false this]
theorem inv_mul' (a b : Rat) : (a * b)⁻¹ = a⁻¹ * b⁻¹ := by
  by_cases ha : a = 0
  · subst ha; rw [Rat.zero_mul, Rat.inv_zero, Rat.zero_mul]
  · by_cases hb : b = 0
    · subst hb; rw [Rat.mul_zero, Rat.inv_zero, Rat.mul_zero]
    · have h1 := Rat.mul_inv_cancel a ha
      have h2 := Rat.mul_inv_cancel b hb
      have h3 := Rat.mul_inv_cancel (a * b) (by intro h; rcases Rat.mul_eq_zero.1 h with h | h; exact ha h; exact hb h)
      have h4 : (a * b)⁻¹ * (a * b) * (a⁻¹ * b⁻¹) = (a * b)⁻¹ * ((a * a⁻¹) * (b * b⁻¹)) := by grind
      have h5 : (a * b)⁻¹ * (a * b) = 1 := by rw [Rat.mul_comm]; exact h3
      rw [h1, h2, h5] at h4
      grind
theorem mul_parts {z e z' e' : Int} {q r : Rat} (h : (z : Rat) / (e : Rat) = q) (k : (z' : Rat) / (e' : Rat) = r) : ((z * z' : Int) : Rat) / ((e * e' : Int) : Rat) = q * r := by
  subst h k
  rw [Rat.intCast_mul, Rat.intCast_mul, Rat.div_def, Rat.div_def, Rat.div_def, inv_mul']
  grind
theorem add_parts {z e z' e' : Int} {q r : Rat} (h0 : 0 < e) (k0 : 0 < e') (h : (z : Rat) / (e : Rat) = q) (k : (z' : Rat) / (e' : Rat) = r) : ((z * e' + z' * e : Int) : Rat) / ((e * e' : Int) : Rat) = q + r := by
  have a1 : (e : Rat) ≠ 0 := by intro h0; have := Rat.intCast_eq_zero_iff.1 h0; omega
  have a2 : (e' : Rat) ≠ 0 := by intro h0; have := Rat.intCast_eq_zero_iff.1 h0; omega
  subst h k
  rw [Rat.intCast_add, Rat.intCast_mul, Rat.intCast_mul, Rat.intCast_mul, Rat.div_def, Rat.div_def, Rat.div_def, inv_mul']
  have b1 := Rat.mul_inv_cancel _ a1
  have b2 := Rat.mul_inv_cancel _ a2
  grind
set_option maxRecDepth 4000 in
set_option maxHeartbeats 1000000 in
theorem rmul3_any (s t : RH) (q r : Rat) (w : World) (h : RawR w s q) (k : RawR w t r) : Does 22 [s.v, t.v] w RH.v (fun s w' => CanR w' s (q * r)) := by
  obtain ⟨neg, ao, n, c, bo, m, d⟩ := s
  obtain ⟨neg', ao', n', c', bo', m', d'⟩ := t
  have HR := Lib.hid h
  have KR := Lib.hid k
  clear h k
  unfold Does
  go_enter Tryz.func22, Tryz.ntmps22
  go_wp2_with fail
  refine Calls.mono (parts_any ⟨neg, ao, n, c, bo, m, d⟩ q _ (HR.out.ext Ext.al3)) ?_
  rintro e w1 ⟨x1, rfl, hE, g1⟩
  have G1 := Lib.hid g1
  clear g1
  obtain ⟨hcw, hfw⟩ := bcellE hE
  have hsw := hE.size
  (try simp only [World.size_alloc] at hsw)
  have hs0 : w.heap.size < w1.heap.size := by omega
  have hs1 : w.heap.size + 1 < w1.heap.size := by omega
  have hs2 : w.heap.size + 2 < w1.heap.size := by omega
  have hB := hE.block (heap_alloc_new _ _)
  rw [World.size_alloc, World.size_alloc] at hB
  have HB : Hid (w1.heap[w.heap.size + 2]? = some _) := Lib.hid hB
  clear hB
  have E1 := Lib.hid ((Ext.al3).trans hE)
  have X1 := Lib.hid hE
  clear hE
  have B1 := Lib.hid (X1.out.block al3_1)
  obtain ⟨⟨an, aa, al, ac⟩, ⟨bn, ba, bl, bc⟩⟩ := x1
  obtain ⟨z, e, g1, g2, p3, g4, p5, p6⟩ := G1.out.div
  have J1 := Lib.hid g1
  have J2 := Lib.hid g2
  have J4 := Lib.hid g4
  have P5 := Lib.hid p5
  have P6 := Lib.hid p6
  clear g1 g2 g4 p5 p6 G1
  go_wp2_with fail
  refine Calls.mono (parts_any ⟨neg', ao', n', c', bo', m', d'⟩ r _ (KR.out.ext (E1.out.trans Ext.nw2))) ?_
  rintro e w2 ⟨x2, rfl, hE, g2⟩
  have G2 := Lib.hid g2
  clear g2
  obtain ⟨hcw, hfw⟩ := bcellE hE
  have hsw := hE.size
  (try simp only [World.size_alloc] at hsw)
  have hs0 : w.heap.size < w2.heap.size := by omega
  have hs1 : w.heap.size + 1 < w2.heap.size := by omega
  have hs2 : w.heap.size + 2 < w2.heap.size := by omega
  have hzw1_heap_size : w1.heap.size < w2.heap.size := by omega
  have hzw1_heap_size___1 : w1.heap.size + 1 < w2.heap.size := by omega
  replace B1 := Lib.hid (hE.block (Ext.nw2.block B1.out))
  replace HB := Lib.hid (hE.block (Ext.nw2.block HB.out))
  have cR := blk_cell HB.out
  have fR := blk_frozen HB.out
  have cR2 := blk_cell (B := w.heap.size + 1 + 1) HB.out
  have fR2 := blk_frozen (B := w.heap.size + 1 + 1) HB.out
  have E2 := Lib.hid ((E1.out.trans Ext.nw2).trans hE)
  have X2 := Lib.hid hE
  clear hE
  have B5 := Lib.hid (X2.out.block al2_0)
  have B6 := Lib.hid (X2.out.block al2_1)
  obtain ⟨⟨an', aa', al', ac'⟩, ⟨bn', ba', bl', bc'⟩⟩ := x2
  obtain ⟨z', e', g1', g2', p3', g4', p5', p6'⟩ := G2.out.div
  have J1' := Lib.hid g1'
  have J2' := Lib.hid g2'
  have J4' := Lib.hid g4'
  have P5' := Lib.hid p5'
  have P6' := Lib.hid p6'
  clear g1' g2' g4' p5' p6' G2
  replace J1 := Lib.hid (J1.out.ext (Ext.nw2.trans X2.out))
  replace J2 := Lib.hid (J2.out.ext (Ext.nw2.trans X2.out))
  have c5 := blk_cell B5.out
  have c6 := blk_cell B6.out
  go_upto_region 3 with fail
  obtain ⟨w3, hw3⟩ : ∃ w3, w3 = (w2.alloc (.cells #[.bool an', .slice aa' al' ac'] 28)).alloc (.cells #[.bool bn', .slice ba' bl' bc'] 28) := ⟨_, rfl⟩
  have hE3 : Ext w2 w3 := by rw [hw3]; exact Ext.nw2
  have B7 : Hid (w3.heap[w2.heap.size]? = some (.cells #[.bool an', .slice aa' al' ac'] 28 (0, 0))) := by rw [hw3]; exact al2_0
  have B8 : Hid (w3.heap[w2.heap.size + 1]? = some (.cells #[.bool bn', .slice ba' bl' bc'] 28 (0, 0))) := by rw [hw3]; exact al2_1
  have hz3 : w3.heap.size = w2.heap.size + 2 := by rw [hw3]; simp
  rw [← hw3]
  replace B5 := Lib.hid (hE3.block B5.out)
  replace B6 := Lib.hid (hE3.block B6.out)
  replace HB := Lib.hid (hE3.block HB.out)
  replace J1 := Lib.hid (J1.out.ext hE3)
  replace J2 := Lib.hid (J2.out.ext hE3)
  replace J1' := Lib.hid (J1'.out.ext hE3)
  replace J2' := Lib.hid (J2'.out.ext hE3)
  have HX := Lib.hid (E2.out.trans hE3)
  clear hw3 hE3 c5 c6 hcw hfw cR fR cR2 fR2
  have c5 := blk_cell B5.out
  have c6 := blk_cell B6.out
  have c7 := blk_cell B7.out
  have c8 := blk_cell B8.out
  have k0 := blk_cell (B := w.heap.size + 1 + 1) HB.out
  have k1 := blk_frozen (B := w.heap.size + 1 + 1) HB.out
  have y5 : w1.heap.size < w3.heap.size := by omega
  have y6 : w1.heap.size + 1 < w3.heap.size := by omega
  have y7 : w2.heap.size < w3.heap.size := by omega
  have y8 : w2.heap.size + 1 < w3.heap.size := by omega
  have hs2 : w.heap.size + 2 < w3.heap.size := by omega
  clear hz3
  refine wp_region_front 7 (fun opIx => match opIx with
    | 2 => .spec IH default IH.v (fun s w' => CanI w' s (z * z'))
    | 5 => .spec IH default IH.v (fun s w' => CanI w' s (e * e'))
    | 6 => .spec RH default RH.v (fun s w' => CanR w' s (q * r))
    | _ => .quiet) (fun | 6 => [2, 5] | _ => []) (by kernel_rfl) (by kernel_rfl) (fun w0 he0 hz0 hc0 hf0 => ?_)
  have he1 := Lib.hid he0
  replace he0 := Lib.hid ((HX.out).trans he0)
  simp only [List.take_succ_cons, List.take_zero]
  repeat (refine wpF_quiet rfl rfl rfl (fun K hK => ?_); go_big_quiet_op; refine hK _ ?_; clear hK K)
  refine wpF_spec rfl rfl (fun w1 hw1 hG => ?_) (fun x2 => ?_)
  · have hW := he0.out.trans hw1
    refine spec_call [IH.v ⟨an, aa, al, ac⟩, IH.v ⟨an', aa', al', ac'⟩] rfl rfl Tryz.func63 (by kernel_rfl) (by kernel_rfl) ?_
    exact imul2_any _ _ _ _ _ (J1.out.ext (he1.out.trans hw1)) (J1'.out.ext (he1.out.trans hw1))
  simp only [Act.put, List.setIfInBounds_toArray, List.set_cons_succ, List.set_cons_zero]
  repeat (refine wpF_quiet rfl rfl rfl (fun K hK => ?_); go_big_quiet_op; refine hK _ ?_; clear hK K)
  refine wpF_spec rfl rfl (fun w1 hw1 hG => ?_) (fun x5 => ?_)
  · have hW := he0.out.trans hw1
    refine spec_call [IH.v ⟨bn, ba, bl, bc⟩, IH.v ⟨bn', ba', bl', bc'⟩] rfl rfl Tryz.func63 (by kernel_rfl) (by kernel_rfl) ?_
    exact imul2_any _ _ _ _ _ (J2.out.ext (he1.out.trans hw1)) (J2'.out.ext (he1.out.trans hw1))
  simp only [Act.put, List.setIfInBounds_toArray, List.set_cons_succ, List.set_cons_zero]
  repeat (refine wpF_quiet rfl rfl rfl (fun K hK => ?_); go_big_quiet_op; refine hK _ ?_; clear hK K)
  refine wpF_spec rfl rfl (fun w1 hw1 hG => ?_) (fun x6 => ?_)
  · have hW := he0.out.trans hw1
    obtain ⟨wa2, hwa2, g2⟩ : Since _ _ := hG 2 (by decide)
    replace g2 := g2.ext hwa2
    obtain ⟨wa5, hwa5, g5⟩ : Since _ _ := hG 5 (by decide)
    replace g5 := g5.ext hwa5
    refine spec_call [x2.v, x5.v] rfl rfl Tryz.func46 (by kernel_rfl) (by kernel_rfl) ?_
    exact mul_parts J4.out J4'.out ▸ reduce_any x2 x5 _ _ _ (g2.rawk (imul_lt P5.out P5'.out) (by decide)) (g5.rawk (imul_lt P6.out P6'.out) (by decide))
  simp only [Act.put, List.setIfInBounds_toArray, List.set_cons_succ, List.set_cons_zero]
  repeat (refine wpF_quiet rfl rfl rfl (fun K hK => ?_); go_big_quiet_op; refine hK _ ?_; clear hK K)
  refine wpF_nil ?_
  intro w1 hI
  obtain ⟨wa2, hwa2, g2⟩ : Since _ _ := hI.facts 2
  have G2 := Lib.hid (g2.ext hwa2)
  clear g2 hwa2
  obtain ⟨wa5, hwa5, g5⟩ : Since _ _ := hI.facts 5
  have G5 := Lib.hid (g5.ext hwa5)
  clear g5 hwa5
  obtain ⟨wa6, hwa6, g6⟩ : Since _ _ := hI.facts 6
  have G6 := Lib.hid (g6.ext hwa6)
  clear g6 hwa6
  have HX := Lib.hid (he0.out.trans hI.ext)
  have hX1 := Lib.hid (he1.out.trans hI.ext)
  obtain ⟨hcw, hfw⟩ := bcellE (he1.out.trans hI.ext)
  have hsw := (he1.out.trans hI.ext).size
  (try simp only [World.size_alloc] at hsw)
  have hs0 : w.heap.size < w1.heap.size := by omega
  have hs1 : w.heap.size + 1 < w1.heap.size := by omega
  have hs2 : w.heap.size + 2 < w1.heap.size := by omega
  replace HB := Lib.hid ((he1.out.trans hI.ext).block HB.out)
  have cR := blk_cell HB.out
  have fR := blk_frozen HB.out
  have cR2 := blk_cell (B := w.heap.size + 1 + 1) HB.out
  have fR2 := blk_frozen (B := w.heap.size + 1 + 1) HB.out
  clear hI he0 he1 hz0 hc0 hf0
  simp only [List.drop_succ_cons, List.drop_zero]
  clear P5 P6 P5' P6'
  go_wp2
  have hF := ((((Fin.start (L := w.heap.size + 2) HX.out (noU_block HB.out rfl)).set (by omega) (i := 0) (v := .bool x6.neg) rfl).set (by omega) (i := 1) (v := .slice x6.a x6.n x6.c) rfl).set (by omega) (i := 2) (v := .slice x6.b x6.m x6.d) rfl)
  exact bodyPost_ret (v := x6.v) (by simp [results, Tryz.results22, go_sem, blk_cell HB.out]) rfl ⟨x6, rfl, hF.ext, G6.out.keep hF.keep⟩
set_option maxRecDepth 4000 in
set_option maxHeartbeats 1000000 in
theorem radd3_any (s t : RH) (q r : Rat) (w : World) (h : RawR w s q) (k : RawR w t r) : Does 60 [s.v, t.v] w RH.v (fun s w' => CanR w' s (q + r)) := by
  obtain ⟨neg, ao, n, c, bo, m, d⟩ := s
  obtain ⟨neg', ao', n', c', bo', m', d'⟩ := t
  have HR := Lib.hid h
  have KR := Lib.hid k
  clear h k
  unfold Does
  go_enter Tryz.func60, Tryz.ntmps60
  go_wp2_with fail
  refine Calls.mono (parts_any ⟨neg, ao, n, c, bo, m, d⟩ q _ (HR.out.ext Ext.al3)) ?_
  rintro e w1 ⟨x1, rfl, hE, g1⟩
  have G1 := Lib.hid g1
  clear g1
  obtain ⟨hcw, hfw⟩ := bcellE hE
  have hsw := hE.size
  (try simp only [World.size_alloc] at hsw)
  have hs0 : w.heap.size < w1.heap.size := by omega
  have hs1 : w.heap.size + 1 < w1.heap.size := by omega
  have hs2 : w.heap.size + 2 < w1.heap.size := by omega
  have hB := hE.block (heap_alloc_new _ _)
  rw [World.size_alloc, World.size_alloc] at hB
  have HB : Hid (w1.heap[w.heap.size + 2]? = some _) := Lib.hid hB
  clear hB
  have E1 := Lib.hid ((Ext.al3).trans hE)
  have X1 := Lib.hid hE
  clear hE
  have B1 := Lib.hid (X1.out.block al3_1)
  obtain ⟨⟨an, aa, al, ac⟩, ⟨bn, ba, bl, bc⟩⟩ := x1
  obtain ⟨z, e, g1, g2, p3, g4, p5, p6⟩ := G1.out.div
  have J1 := Lib.hid g1
  have J2 := Lib.hid g2
  have J4 := Lib.hid g4
  have P5 := Lib.hid p5
  have P6 := Lib.hid p6
  clear g1 g2 g4 p5 p6 G1
  go_wp2_with fail
  refine Calls.mono (parts_any ⟨neg', ao', n', c', bo', m', d'⟩ r _ (KR.out.ext (E1.out.trans Ext.nw2))) ?_
  rintro e w2 ⟨x2, rfl, hE, g2⟩
  have G2 := Lib.hid g2
  clear g2
  obtain ⟨hcw, hfw⟩ := bcellE hE
  have hsw := hE.size
  (try simp only [World.size_alloc] at hsw)
  have hs0 : w.heap.size < w2.heap.size := by omega
  have hs1 : w.heap.size + 1 < w2.heap.size := by omega
  have hs2 : w.heap.size + 2 < w2.heap.size := by omega
  have hzw1_heap_size : w1.heap.size < w2.heap.size := by omega
  have hzw1_heap_size___1 : w1.heap.size + 1 < w2.heap.size := by omega
  replace B1 := Lib.hid (hE.block (Ext.nw2.block B1.out))
  replace HB := Lib.hid (hE.block (Ext.nw2.block HB.out))
  have cR := blk_cell HB.out
  have fR := blk_frozen HB.out
  have cR2 := blk_cell (B := w.heap.size + 1 + 1) HB.out
  have fR2 := blk_frozen (B := w.heap.size + 1 + 1) HB.out
  have E2 := Lib.hid ((E1.out.trans Ext.nw2).trans hE)
  have X2 := Lib.hid hE
  clear hE
  have B5 := Lib.hid (X2.out.block al2_0)
  have B6 := Lib.hid (X2.out.block al2_1)
  obtain ⟨⟨an', aa', al', ac'⟩, ⟨bn', ba', bl', bc'⟩⟩ := x2
  obtain ⟨z', e', g1', g2', p3', g4', p5', p6'⟩ := G2.out.div
  have J1' := Lib.hid g1'
  have J2' := Lib.hid g2'
  have J4' := Lib.hid g4'
  have P5' := Lib.hid p5'
  have P6' := Lib.hid p6'
  clear g1' g2' g4' p5' p6' G2
  replace J1 := Lib.hid (J1.out.ext (Ext.nw2.trans X2.out))
  replace J2 := Lib.hid (J2.out.ext (Ext.nw2.trans X2.out))
  have c5 := blk_cell B5.out
  have c6 := blk_cell B6.out
  go_upto_region 3 with fail
  obtain ⟨w3, hw3⟩ : ∃ w3, w3 = (w2.alloc (.cells #[.bool an', .slice aa' al' ac'] 28)).alloc (.cells #[.bool bn', .slice ba' bl' bc'] 28) := ⟨_, rfl⟩
  have hE3 : Ext w2 w3 := by rw [hw3]; exact Ext.nw2
  have B7 : Hid (w3.heap[w2.heap.size]? = some (.cells #[.bool an', .slice aa' al' ac'] 28 (0, 0))) := by rw [hw3]; exact al2_0
  have B8 : Hid (w3.heap[w2.heap.size + 1]? = some (.cells #[.bool bn', .slice ba' bl' bc'] 28 (0, 0))) := by rw [hw3]; exact al2_1
  have hz3 : w3.heap.size = w2.heap.size + 2 := by rw [hw3]; simp
  rw [← hw3]
  replace B5 := Lib.hid (hE3.block B5.out)
  replace B6 := Lib.hid (hE3.block B6.out)
  replace HB := Lib.hid (hE3.block HB.out)
  replace J1 := Lib.hid (J1.out.ext hE3)
  replace J2 := Lib.hid (J2.out.ext hE3)
  replace J1' := Lib.hid (J1'.out.ext hE3)
  replace J2' := Lib.hid (J2'.out.ext hE3)
  have HX := Lib.hid (E2.out.trans hE3)
  clear hw3 hE3 c5 c6 hcw hfw cR fR cR2 fR2
  have c5 := blk_cell B5.out
  have c6 := blk_cell B6.out
  have c7 := blk_cell B7.out
  have c8 := blk_cell B8.out
  have k0 := blk_cell (B := w.heap.size + 1 + 1) HB.out
  have k1 := blk_frozen (B := w.heap.size + 1 + 1) HB.out
  have y5 : w1.heap.size < w3.heap.size := by omega
  have y6 : w1.heap.size + 1 < w3.heap.size := by omega
  have y7 : w2.heap.size < w3.heap.size := by omega
  have y8 : w2.heap.size + 1 < w3.heap.size := by omega
  have hs2 : w.heap.size + 2 < w3.heap.size := by omega
  clear hz3
  refine wp_region_front 11 (fun opIx => match opIx with
    | 2 => .spec IH default IH.v (fun s w' => CanI w' s (z * e'))
    | 5 => .spec IH default IH.v (fun s w' => CanI w' s (z' * e))
    | 6 => .spec IH default IH.v (fun s w' => CanI w' s (z * e' + z' * e))
    | 9 => .spec IH default IH.v (fun s w' => CanI w' s (e * e'))
    | 10 => .spec RH default RH.v (fun s w' => CanR w' s (q + r))
    | _ => .quiet) (fun | 6 => [2, 5] | 10 => [6, 9] | _ => []) (by kernel_rfl) (by kernel_rfl) (fun w0 he0 hz0 hc0 hf0 => ?_)
  have he1 := Lib.hid he0
  replace he0 := Lib.hid ((HX.out).trans he0)
  simp only [List.take_succ_cons, List.take_zero]
  repeat (refine wpF_quiet rfl rfl rfl (fun K hK => ?_); go_big_quiet_op; refine hK _ ?_; clear hK K)
  refine wpF_spec rfl rfl (fun w1 hw1 hG => ?_) (fun x2 => ?_)
  · have hW := he0.out.trans hw1
    refine spec_call [IH.v ⟨an, aa, al, ac⟩, IH.v ⟨bn', ba', bl', bc'⟩] rfl rfl Tryz.func63 (by kernel_rfl) (by kernel_rfl) ?_
    exact imul2_any _ _ _ _ _ (J1.out.ext (he1.out.trans hw1)) (J2'.out.ext (he1.out.trans hw1))
  simp only [Act.put, List.setIfInBounds_toArray, List.set_cons_succ, List.set_cons_zero]
  repeat (refine wpF_quiet rfl rfl rfl (fun K hK => ?_); go_big_quiet_op; refine hK _ ?_; clear hK K)
  refine wpF_spec rfl rfl (fun w1 hw1 hG => ?_) (fun x5 => ?_)
  · have hW := he0.out.trans hw1
    refine spec_call [IH.v ⟨an', aa', al', ac'⟩, IH.v ⟨bn, ba, bl, bc⟩] rfl rfl Tryz.func63 (by kernel_rfl) (by kernel_rfl) ?_
    exact imul2_any _ _ _ _ _ (J1'.out.ext (he1.out.trans hw1)) (J2.out.ext (he1.out.trans hw1))
  simp only [Act.put, List.setIfInBounds_toArray, List.set_cons_succ, List.set_cons_zero]
  repeat (refine wpF_quiet rfl rfl rfl (fun K hK => ?_); go_big_quiet_op; refine hK _ ?_; clear hK K)
  refine wpF_spec rfl rfl (fun w1 hw1 hG => ?_) (fun x6 => ?_)
  · have hW := he0.out.trans hw1
    obtain ⟨wa2, hwa2, g2⟩ : Since _ _ := hG 2 (by decide)
    replace g2 := g2.ext hwa2
    obtain ⟨wa5, hwa5, g5⟩ : Since _ _ := hG 5 (by decide)
    replace g5 := g5.ext hwa5
    refine spec_call [x2.v, x5.v] rfl rfl Tryz.func100 (by kernel_rfl) (by kernel_rfl) ?_
    exact iadd2_any x2 x5 _ _ _ (g2.rawk (imul_lt P5.out P6'.out) (by decide)) (g5.rawk (imul_lt P5'.out P6.out) (by decide))
  simp only [Act.put, List.setIfInBounds_toArray, List.set_cons_succ, List.set_cons_zero]
  repeat (refine wpF_quiet rfl rfl rfl (fun K hK => ?_); go_big_quiet_op; refine hK _ ?_; clear hK K)
  refine wpF_spec rfl rfl (fun w1 hw1 hG => ?_) (fun x9 => ?_)
  · have hW := he0.out.trans hw1
    refine spec_call [IH.v ⟨bn, ba, bl, bc⟩, IH.v ⟨bn', ba', bl', bc'⟩] rfl rfl Tryz.func63 (by kernel_rfl) (by kernel_rfl) ?_
    exact imul2_any _ _ _ _ _ (J2.out.ext (he1.out.trans hw1)) (J2'.out.ext (he1.out.trans hw1))
  simp only [Act.put, List.setIfInBounds_toArray, List.set_cons_succ, List.set_cons_zero]
  repeat (refine wpF_quiet rfl rfl rfl (fun K hK => ?_); go_big_quiet_op; refine hK _ ?_; clear hK K)
  refine wpF_spec rfl rfl (fun w1 hw1 hG => ?_) (fun x10 => ?_)
  · have hW := he0.out.trans hw1
    obtain ⟨wa6, hwa6, g6⟩ : Since _ _ := hG 6 (by decide)
    replace g6 := g6.ext hwa6
    obtain ⟨wa9, hwa9, g9⟩ : Since _ _ := hG 9 (by decide)
    replace g9 := g9.ext hwa9
    refine spec_call [x6.v, x9.v] rfl rfl Tryz.func46 (by kernel_rfl) (by kernel_rfl) ?_
    exact add_parts p3 p3' J4.out J4'.out ▸ reduce_any x6 x9 _ _ _ (g6.rawk (iadd_lt (imul_lt P5.out P6'.out) (imul_lt P5'.out P6.out)) (by decide)) (g9.rawk (imul_lt P6.out P6'.out) (by decide))
  simp only [Act.put, List.setIfInBounds_toArray, List.set_cons_succ, List.set_cons_zero]
  repeat (refine wpF_quiet rfl rfl rfl (fun K hK => ?_); go_big_quiet_op; refine hK _ ?_; clear hK K)
  refine wpF_nil ?_
  intro w1 hI
  obtain ⟨wa2, hwa2, g2⟩ : Since _ _ := hI.facts 2
  have G2 := Lib.hid (g2.ext hwa2)
  clear g2 hwa2
  obtain ⟨wa5, hwa5, g5⟩ : Since _ _ := hI.facts 5
  have G5 := Lib.hid (g5.ext hwa5)
  clear g5 hwa5
  obtain ⟨wa6, hwa6, g6⟩ : Since _ _ := hI.facts 6
  have G6 := Lib.hid (g6.ext hwa6)
  clear g6 hwa6
  obtain ⟨wa9, hwa9, g9⟩ : Since _ _ := hI.facts 9
  have G9 := Lib.hid (g9.ext hwa9)
  clear g9 hwa9
  obtain ⟨wa10, hwa10, g10⟩ : Since _ _ := hI.facts 10
  have G10 := Lib.hid (g10.ext hwa10)
  clear g10 hwa10
  have HX := Lib.hid (he0.out.trans hI.ext)
  have hX1 := Lib.hid (he1.out.trans hI.ext)
  obtain ⟨hcw, hfw⟩ := bcellE (he1.out.trans hI.ext)
  have hsw := (he1.out.trans hI.ext).size
  (try simp only [World.size_alloc] at hsw)
  have hs0 : w.heap.size < w1.heap.size := by omega
  have hs1 : w.heap.size + 1 < w1.heap.size := by omega
  have hs2 : w.heap.size + 2 < w1.heap.size := by omega
  replace HB := Lib.hid ((he1.out.trans hI.ext).block HB.out)
  have cR := blk_cell HB.out
  have fR := blk_frozen HB.out
  have cR2 := blk_cell (B := w.heap.size + 1 + 1) HB.out
  have fR2 := blk_frozen (B := w.heap.size + 1 + 1) HB.out
  clear hI he0 he1 hz0 hc0 hf0
  simp only [List.drop_succ_cons, List.drop_zero]
  clear P5 P6 P5' P6'
  go_wp2
  have hF := ((((Fin.start (L := w.heap.size + 2) HX.out (noU_block HB.out rfl)).set (by omega) (i := 0) (v := .bool x10.neg) rfl).set (by omega) (i := 1) (v := .slice x10.a x10.n x10.c) rfl).set (by omega) (i := 2) (v := .slice x10.b x10.m x10.d) rfl)
  exact bodyPost_ret (v := x10.v) (by simp [results, Tryz.results60, go_sem, blk_cell HB.out]) rfl ⟨x10, rfl, hF.ext, G10.out.keep hF.keep⟩
end Go.Proofs.YteafdebcihbjdaaGreat
/- Lists of rationals in memory. -/
namespace Go.Proofs.YteafdebcihbjdaaGreat
open Go.RowKit Go.Front Go.Num
attribute [local go_sem] XW.cell XW.frozen
/-- The cells of a rational, and of many. -/
def rcell (r : RH) : List Value := [.bool r.neg, .slice r.a r.n r.c, .slice r.b r.m r.d]
def rcells (rs : List RH) : List Value := rs.flatMap rcell
theorem rcells_cons (r : RH) (rs : List RH) : rcells (r :: rs) = .bool r.neg :: .slice r.a r.n r.c :: .slice r.b r.m r.d :: rcells rs := rfl
theorem rcells_append (a b : List RH) : rcells (a ++ b) = rcells a ++ rcells b := by simp [rcells]
theorem rcells_length (rs : List RH) : (rcells rs).length = rs.length * 3 := by
  induction rs with
  | nil => rfl
  | cons r rs ih => rw [rcells_cons]; simp only [List.length_cons, ih]; omega
theorem rcells_get (rs : List RH) {k j : Nat} (hk : k < rs.length) (hj : j < 3) : (rcells rs)[k * 3 + j]? = (rcell (rs.getD k default))[j]? := by
  induction rs generalizing k with
  | nil => simp at hk
  | cons r rs ih =>
    cases k with
    | zero =>
      rw [rcells_cons]
      match j, hj with
      | 0, _ => rfl
      | 1, _ => rfl
      | 2, _ => rfl
    | succ k =>
      rw [rcells_cons, show (k + 1) * 3 + j = (k * 3 + j) + 1 + 1 + 1 by omega]
      simp only [List.getElem?_cons_succ]
      rw [ih (by simpa using hk)]
      rfl
theorem rcells_nonU (rs : List RH) : (rcells rs).all nonU = true := by
  rw [List.all_eq_true]
  intro x hx
  simp only [rcells, List.mem_flatMap] at hx
  obtain ⟨r, -, h⟩ := hx
  simp only [rcell, List.mem_cons, List.not_mem_nil, or_false] at h
  rcases h with rfl | rfl | rfl <;> rfl
theorem rcells_one (rs : List RH) : ∀ u ∈ rcells rs, u.oneCell' = true := by
  intro x hx
  simp only [rcells, List.mem_flatMap] at hx
  obtain ⟨r, -, h⟩ := hx
  simp only [rcell, List.mem_cons, List.not_mem_nil, or_false] at h
  rcases h with rfl | rfl | rfl <;> rfl
theorem rcells_set (rs : List RH) (k : Nat) (r : RH) : rcells (rs.set k r) = (((rcells rs).set (k * 3) (.bool r.neg)).set (k * 3 + 1) (.slice r.a r.n r.c)).set (k * 3 + 2) (.slice r.b r.m r.d) := by
  induction rs generalizing k with
  | nil => rfl
  | cons x rs ih =>
    cases k with
    | zero => rfl
    | succ k =>
      rw [List.set_cons_succ, rcells_cons, rcells_cons, ih, show (k + 1) * 3 = k * 3 + 1 + 1 + 1 by omega]
      rfl
/-- A block of rationals. -/
def RBk (w : World) (L : Nat) (rs : List RH) (re : Array Value) : Prop := w.heap[L]? = some (.cells ((rcells rs).toArray ++ re) 30 (0, 0))
theorem RBk.ext {w w' : World} {L : Nat} {rs : List RH} {re : Array Value} (h : RBk w L rs re) (he : Ext w w') : RBk w' L rs re := he.block h
theorem RBk.lt {w : World} {L : Nat} {rs : List RH} {re : Array Value} (h : RBk w L rs re) : L < w.heap.size := (Array.getElem?_eq_some_iff.1 h).1
theorem RBk.frozen {w : World} {L : Nat} {rs : List RH} {re : Array Value} (h : RBk w L rs re) (i : Nat) : w.frozen? ⟨L, i, none⟩ = false := blk_frozen h i
/-- The rational r lies in three cells. -/
def RAt (w : World) (b off : Nat) (r : RH) : Prop := w.cell? ⟨b, off, none⟩ = some (.bool r.neg) ∧ w.cell? ⟨b, off + 1, none⟩ = some (.slice r.a r.n r.c) ∧ w.cell? ⟨b, off + 2, none⟩ = some (.slice r.b r.m r.d)
theorem RAt.ext {w w' : World} {b off : Nat} {r : RH} (h : RAt w b off r) (he : Ext w w') : RAt w' b off r := ⟨he.cell h.1, he.cell h.2.1, he.cell h.2.2⟩
theorem RBk.cell {w : World} {L : Nat} {rs : List RH} {re : Array Value} (h : RBk w L rs re) {k j : Nat} (hk : k < rs.length) (hj : j < 3) : w.cell? ⟨L, k * 3 + j, none⟩ = (rcell (rs.getD k default))[j]? := by
  rw [blk_cell h, ← rcells_get rs hk hj, Array.getElem?_append_left (by rw [List.size_toArray, rcells_length]; omega), List.getElem?_toArray]
theorem RBk.at {w : World} {L : Nat} {rs : List RH} {re : Array Value} (h : RBk w L rs re) {k : Nat} (hk : k < rs.length) : RAt w L (k * 3) (rs.getD k default) :=
  ⟨h.cell (j := 0) hk (by decide), h.cell (j := 1) hk (by decide), h.cell (j := 2) hk (by decide)⟩
/-- A rational is written into three cells. -/
def stRo (w : World) (b o : Nat) (x : RH) : World := ((w.setCell ⟨b, o, none⟩ (.bool x.neg)).setCell ⟨b, o + 1, none⟩ (.slice x.a x.n x.c)).setCell ⟨b, o + 2, none⟩ (.slice x.b x.m x.d)
theorem RBk.noU {w : World} {L : Nat} {rs : List RH} {re : Array Value} (h : RBk w L rs re) (hre : re.toList.all nonU = true) : NoU w L :=
  noU_block h (by rw [Array.toList_append, List.all_append, hre, rcells_nonU]; rfl)
structure PutR (w w1 : World) (L : Nat) (rs : List RH) (re : Array Value) (w2 : World) : Prop where
  ext : Ext w w2
  keep : Keep w1 w2
  bk : RBk w2 L rs re
  rest : ∀ k o, k ≠ L → w1.heap[k]? = some o → w2.heap[k]? = some o
  size : w2.heap.size = w1.heap.size
theorem RBk.put {w w1 : World} {L : Nat} {rs : List RH} {re : Array Value} (h : RBk w1 L rs re) (hE : Ext w w1) (hL : w.heap.size ≤ L) (hre : re.toList.all nonU = true) {k : Nat} (hk : k < rs.length) (r : RH) :
    PutR w w1 L (rs.set k r) re (stRo w1 L (k * 3) r) := by
  have f1 : Fin w w1 L (stRo w1 L (k * 3) r) := (((Fin.start hE (h.noU hre)).set hL rfl).set hL rfl).set hL rfl
  have m1 : Mods (· = L) w1 (stRo w1 L (k * 3) r) := ((Mods.setCell w1 ⟨L, k * 3, none⟩ _).trans (Mods.setCell _ ⟨L, k * 3 + 1, none⟩ _)).trans (Mods.setCell _ ⟨L, k * 3 + 2, none⟩ _)
  refine ⟨f1.ext, f1.keep, ?_, fun k o h1 h3 => m1.blk h1 h3, by simp [stRo, World.setCell]⟩
  have := blk_set (blk_set (blk_set h (k * 3) (.bool r.neg)) (k * 3 + 1) (.slice r.a r.n r.c)) (k * 3 + 2) (.slice r.b r.m r.d)
  unfold RBk
  rw [rcells_set]
  unfold stRo
  rw [this]
  congr 2
  have hl := rcells_length rs
  apply Array.ext'
  simp only [Array.toList_setIfInBounds, Array.toList_append]
  rw [List.set_append_left _ _ (by omega), List.set_append_left _ _ (by rw [List.length_set]; omega), List.set_append_left _ _ (by rw [List.length_set, List.length_set]; omega)]
/-- A slice of rationals. -/
structure RS (w : World) (s : SH) (rs : List RH) : Prop where
  len : rs.length = s.n
  le : s.n ≤ s.c
  max : s.c ≤ 9223372036854775807
  at' : s.n = 0 ∨ ∃ b off, s.a = some ⟨b, off, none⟩ ∧ ∀ k, k < s.n → RAt w b (off + k * 3) (rs.getD k default)
theorem RS.ext {w w' : World} {s : SH} {rs : List RH} (h : RS w s rs) (he : Ext w w') : RS w' s rs :=
  ⟨h.len, h.le, h.max, h.at'.imp id fun ⟨b, off, h1, h2⟩ => ⟨b, off, h1, fun k hk => (h2 k hk).ext he⟩⟩
theorem RS.nil (w : World) (ao : Option Addr) (c : Nat) (h : c ≤ 9223372036854775807) : RS w ⟨ao, 0, c⟩ [] := ⟨rfl, Nat.zero_le _, h, Or.inl rfl⟩
theorem RS.take {w : World} {ao : Option Addr} {n c : Nat} {rs : List RH} (h : RS w ⟨ao, n, c⟩ rs) {m : Nat} (hm : m ≤ n) : RS w ⟨ao, m, c⟩ (rs.take m) := by
  have h1 := h.len
  have h2 := h.le
  simp only at h1 h2
  refine ⟨by rw [List.length_take, h1]; exact Nat.min_eq_left hm, Nat.le_trans hm h2, h.max, ?_⟩
  rcases h.at' with h0 | ⟨b, off, h1, h2⟩
  · left; simp only at *; omega
  · right
    refine ⟨b, off, h1, fun k hk => ?_⟩
    have := h2 k (Nat.lt_of_lt_of_le hk hm)
    simp only at hk
    rw [show (rs.take m).getD k default = rs.getD k default by simp [hk]]
    exact this
theorem RS.at {w : World} {ao : Option Addr} {n c : Nat} {rs : List RH} (h : RS w ⟨ao, n, c⟩ rs) {k : Nat} (hk : k < n) : ∃ b off, ao = some ⟨b, off, none⟩ ∧ RAt w b (off + k * 3) (rs.getD k default) := by
  rcases h.at' with h0 | ⟨b, off, h1, h2⟩
  · simp only at h0; omega
  · exact ⟨b, off, h1, h2 k hk⟩
theorem RBk.rs {w : World} {L : Nat} {rs : List RH} {re : Array Value} (h : RBk w L rs re) {n c : Nat} (hn : rs.length = n) (hc : n ≤ c) (hm : c ≤ 9223372036854775807) : RS w ⟨some ⟨L, 0, none⟩, n, c⟩ rs :=
  ⟨hn, hc, hm, Or.inr ⟨L, 0, rfl, fun k hk => by rw [Nat.zero_add]; exact h.at (by simp only at hk; omega)⟩⟩
/-- What the rationals of a list are worth. -/
def Vals (P : World → RH → Rat → Prop) (w : World) (rs : List RH) (qs : List Rat) : Prop := rs.length = qs.length ∧ ∀ k, k < qs.length → P w (rs.getD k default) (qs.getD k 0)
theorem Vals.raw_ext {w w' : World} {rs : List RH} {qs : List Rat} (h : Vals RawR w rs qs) (he : Ext w w') : Vals RawR w' rs qs := ⟨h.1, fun k hk => (h.2 k hk).ext he⟩
theorem Vals.can_ext {w w' : World} {rs : List RH} {qs : List Rat} (h : Vals CanR w rs qs) (he : Ext w w') : Vals CanR w' rs qs := ⟨h.1, fun k hk => (h.2 k hk).ext he⟩
theorem Vals.keep {w w' : World} {rs : List RH} {qs : List Rat} (h : Vals CanR w rs qs) (he : Keep w w') : Vals CanR w' rs qs := ⟨h.1, fun k hk => (h.2 k hk).keep he⟩
theorem Vals.nil (P : World → RH → Rat → Prop) (w : World) : Vals P w [] [] := ⟨rfl, fun k hk => by simp at hk⟩
theorem Vals.snoc {P : World → RH → Rat → Prop} {w : World} {rs : List RH} {qs : List Rat} (h : Vals P w rs qs) {r : RH} {q : Rat} (hr : P w r q) : Vals P w (rs ++ [r]) (qs ++ [q]) := by
  refine ⟨by simp [h.1], fun k hk => ?_⟩
  by_cases hlt : k < qs.length
  · have h1 := h.1
    rw [show (rs ++ [r]).getD k default = rs.getD k default by rw [List.getD_eq_getElem?_getD, List.getElem?_append_left (by omega), ← List.getD_eq_getElem?_getD], show (qs ++ [q]).getD k 0 = qs.getD k 0 by rw [List.getD_eq_getElem?_getD, List.getElem?_append_left hlt, ← List.getD_eq_getElem?_getD]]
    exact h.2 k hlt
  · obtain rfl : k = qs.length := by simp at hk; omega
    rw [show (qs ++ [q]).getD qs.length 0 = q by simp, ← h.1, show (rs ++ [r]).getD rs.length default = r by simp]
    exact hr
theorem Vals.take {P : World → RH → Rat → Prop} {w : World} {rs : List RH} {qs : List Rat} (h : Vals P w rs qs) (m : Nat) : Vals P w (rs.take m) (qs.take m) := by
  refine ⟨by simp [h.1], fun k hk => ?_⟩
  simp only [List.length_take] at hk
  rw [show (rs.take m).getD k default = rs.getD k default by simp [show k < m by omega], show (qs.take m).getD k 0 = qs.getD k 0 by simp [show k < m by omega]]
  exact h.2 k (by omega)
def RawL (w : World) (s : SH) (qs : List Rat) : Prop := ∃ rs, RS w s rs ∧ Vals RawR w rs qs
def CanL (w : World) (s : SH) (qs : List Rat) : Prop := ∃ rs, RS w s rs ∧ Vals CanR w rs qs
theorem RawL.ext {w w' : World} {s : SH} {qs : List Rat} (h : RawL w s qs) (he : Ext w w') : RawL w' s qs := let ⟨rs, h1, h2⟩ := h; ⟨rs, h1.ext he, h2.raw_ext he⟩
theorem CanL.ext {w w' : World} {s : SH} {qs : List Rat} (h : CanL w s qs) (he : Ext w w') : CanL w' s qs := let ⟨rs, h1, h2⟩ := h; ⟨rs, h1.ext he, h2.can_ext he⟩
theorem RawL.len {w : World} {s : SH} {qs : List Rat} (h : RawL w s qs) : qs.length = s.n := let ⟨_, h1, h2⟩ := h; h2.1.symm.trans h1.len
theorem CanL.len {w : World} {s : SH} {qs : List Rat} (h : CanL w s qs) : qs.length = s.n := let ⟨_, h1, h2⟩ := h; h2.1.symm.trans h1.len
theorem RawL.le {w : World} {s : SH} {qs : List Rat} (h : RawL w s qs) : s.n ≤ s.c := let ⟨_, h1, _⟩ := h; h1.le
theorem CanL.le {w : World} {s : SH} {qs : List Rat} (h : CanL w s qs) : s.n ≤ s.c := let ⟨_, h1, _⟩ := h; h1.le
theorem RawL.max {w : World} {s : SH} {qs : List Rat} (h : RawL w s qs) : s.c ≤ 9223372036854775807 := let ⟨_, h1, _⟩ := h; h1.max
theorem CanL.max {w : World} {s : SH} {qs : List Rat} (h : CanL w s qs) : s.c ≤ 9223372036854775807 := let ⟨_, h1, _⟩ := h; h1.max
theorem RawL.take {w : World} {ao : Option Addr} {n c : Nat} {qs : List Rat} (h : RawL w ⟨ao, n, c⟩ qs) {m : Nat} (hm : m ≤ n) : RawL w ⟨ao, m, c⟩ (qs.take m) := let ⟨_, h1, h2⟩ := h; ⟨_, h1.take hm, h2.take m⟩
theorem CanL.take {w : World} {ao : Option Addr} {n c : Nat} {qs : List Rat} (h : CanL w ⟨ao, n, c⟩ qs) {m : Nat} (hm : m ≤ n) : CanL w ⟨ao, m, c⟩ (qs.take m) := let ⟨_, h1, h2⟩ := h; ⟨_, h1.take hm, h2.take m⟩
theorem RawL.at {w : World} {ao : Option Addr} {n c : Nat} {qs : List Rat} (h : RawL w ⟨ao, n, c⟩ qs) {k : Nat} (hk : k < n) : ∃ b off r, ao = some ⟨b, off, none⟩ ∧ RAt w b (off + k * 3) r ∧ RawR w r (qs.getD k 0) := by
  have hl := h.len
  obtain ⟨rs, h1, h2⟩ := h
  obtain ⟨b, off, h3, h4⟩ := h1.at hk
  exact ⟨b, off, _, h3, h4, h2.2 k (by simp only at hl; omega)⟩
theorem CanL.at {w : World} {ao : Option Addr} {n c : Nat} {qs : List Rat} (h : CanL w ⟨ao, n, c⟩ qs) {k : Nat} (hk : k < n) : ∃ b off r, ao = some ⟨b, off, none⟩ ∧ RAt w b (off + k * 3) r ∧ CanR w r (qs.getD k 0) := by
  have hl := h.len
  obtain ⟨rs, h1, h2⟩ := h
  obtain ⟨b, off, h3, h4⟩ := h1.at hk
  exact ⟨b, off, _, h3, h4, h2.2 k (by simp only at hl; omega)⟩
/-- All numbers of a list have at most k digits. -/
def SzL (k : Nat) (qs : List Rat) : Prop := ∀ q ∈ qs, Sz k q
theorem SzL.mono {k l : Nat} {qs : List Rat} (h : SzL k qs) (hl : k ≤ l) : SzL l qs := fun q hq => (h q hq).mono hl
theorem getD_mem' {qs : List Rat} {k : Nat} (h : k < qs.length) : qs.getD k 0 ∈ qs := by
  rw [show qs.getD k 0 = qs[k] by simp [h]]; exact List.getElem_mem h
theorem SzL.at {k : Nat} {qs : List Rat} (h : SzL k qs) {i : Nat} (hi : i < qs.length) : Sz k (qs.getD i 0) := h _ (getD_mem' hi)
theorem CanL.raw {w : World} {s : SH} {qs : List Rat} {k : Nat} (h : CanL w s qs) (hs : SzL k qs) (hk : k ≤ 134217728) : RawL w s qs :=
  let ⟨rs, h1, h2⟩ := h; ⟨rs, h1, h2.1, fun i hi => (h2.2 i hi).raw (hs.at hi) hk⟩
theorem CanL.keep {w w' : World} {s : SH} {qs : List Rat} (h : CanL w s qs) (he : Keep w w') (h2 : ∀ rs, RS w s rs → RS w' s rs) : CanL w' s qs := let ⟨rs, h1, h3⟩ := h; ⟨rs, h2 rs h1, h3.keep he⟩
/-- A new list: zeros. -/
theorem infoR : (Tryz.prog.info? 30).map (fun i => (i.zero, i.size, i.bytes)) = some (some (RH.v default), 3, 56) := by kernel_rfl
theorem made_rats (n : Nat) : madeCells (RH.v default).cells (n * 3) = (rcells (List.replicate n default)).toArray := by
  have h0 : (RH.v default).cells = #[.bool false, .slice none 0 0, .slice none 0 0] := by rfl
  rw [h0]
  apply Array.ext (by simp [madeCells, rcells_length])
  intro k h1 h2
  have h3 : k < n * 3 := by simpa [madeCells] using h1
  have h4 : (rcells (List.replicate n default)).toArray[k]? = some ((rcells (List.replicate n default)).toArray[k]) := by simp
  have e : k = k / 3 * 3 + k % 3 := by omega
  have h5 := rcells_get (List.replicate n default) (k := k / 3) (j := k % 3) (by simp; omega) (Nat.mod_lt _ (by decide))
  rw [← e] at h5
  rw [List.getElem?_toArray, h5] at h4
  have h6 : (List.replicate n (default : RH)).getD (k / 3) default = default := by simp [show k / 3 < n by omega]
  rw [h6] at h4
  have h7 : k % 3 = 0 ∨ k % 3 = 1 ∨ k % 3 = 2 := by omega
  simp only [madeCells]
  rcases h7 with h7 | h7 | h7
  · rw [h7] at h4
    simp only [rcell, List.getElem?_cons_zero, Option.some.injEq] at h4
    rw [← h4]
    simp [h7]
    rfl
  · rw [h7] at h4
    simp only [rcell, List.getElem?_cons_succ, List.getElem?_cons_zero, Option.some.injEq] at h4
    rw [← h4]
    simp [h7]
    exact ⟨rfl, rfl, rfl⟩
  · rw [h7] at h4
    simp only [rcell, List.getElem?_cons_succ, List.getElem?_cons_zero, Option.some.injEq] at h4
    rw [← h4]
    simp [h7]
    exact ⟨rfl, rfl, rfl⟩
theorem RBk.make {w : World} {L n : Nat} {e : TypeId} (he : e = 30) (h : w.heap[L]? = some (.cells (madeCells (RH.v default).cells (n * 3)) e (0, 0))) : RBk w L (List.replicate n default) #[] := by
  subst he
  unfold RBk
  rw [Array.append_empty, ← made_rats, h]
/-- Without the zeros at the end. -/
def tz (l : List Rat) : List Rat := (l.reverse.dropWhile (· == 0)).reverse
theorem tz_nil : tz [] = [] := rfl
theorem tz_zero {l : List Rat} {k : Nat} (h : k < l.length) (h0 : l.getD k 0 = 0) : tz (l.take (k + 1)) = tz (l.take k) := by
  have e : l[k] = 0 := by simpa [h] using h0
  rw [List.take_succ_eq_append_getElem h, e]
  simp [tz]
theorem tz_stop {l : List Rat} {k : Nat} (h : k < l.length) (h0 : l.getD k 0 ≠ 0) : tz (l.take (k + 1)) = l.take (k + 1) := by
  have e : l[k] ≠ 0 := by simpa [h] using h0
  rw [List.take_succ_eq_append_getElem h]
  have : (l[k] == 0) = false := by simpa using e
  unfold tz
  rw [List.reverse_append, List.reverse_singleton, List.singleton_append, List.dropWhile_cons, this]
  simp
end Go.Proofs.YteafdebcihbjdaaGreat
/- append of a rational to a list of one's own. -/
namespace Go.Proofs.YteafdebcihbjdaaGreat
open Go.RowKit Go.Front Go.Num
/-- v is a row of rationals in a block from B on, nobody else's. -/
def OwnR (w : World) (B : Nat) (v : Value) (rs : List RH) : Prop := (v = .slice none 0 0 ∧ rs = []) ∨ ∃ L cap re, v = .slice (some ⟨L, 0, none⟩) rs.length cap ∧ B ≤ L ∧ RBk w L rs re ∧ rs.length ≤ cap ∧ cap ≤ 9223372036854775807 ∧ rs.length * 3 + re.size = cap * 3 ∧ re.toList.all nonU = true
theorem OwnR.nil (w : World) (B : Nat) : OwnR w B (.slice none 0 0) [] := Or.inl ⟨rfl, rfl⟩
theorem OwnR.ext {w w' : World} {B : Nat} {v : Value} {rs : List RH} (h : OwnR w B v rs) (he : Ext w w') : OwnR w' B v rs :=
  h.imp id fun ⟨L, cap, re, h1, h2, h3, h4⟩ => ⟨L, cap, re, h1, h2, h3.ext he, h4⟩
theorem OwnR.slice {w : World} {B : Nat} {v : Value} {rs : List RH} (h : OwnR w B v rs) : ∃ s : SH, v = s.v ∧ s.n = rs.length ∧ RS w s rs := by
  rcases h with ⟨rfl, rfl⟩ | ⟨L, cap, re, rfl, _, h1, h2, h3, _⟩
  · exact ⟨⟨none, 0, 0⟩, rfl, rfl, RS.nil _ _ _ (by decide)⟩
  · exact ⟨⟨some ⟨L, 0, none⟩, rs.length, cap⟩, rfl, rfl, h1.rs rfl h2 h3⟩
theorem keep_but {w w' : World} {g : Nat} (hN : NoU w g) (h : ∀ k, k < w.heap.size → k ≠ g → w'.heap[k]? = w.heap[k]?) : Keep w w' := by
  intro ao n c ds hU
  refine ⟨hU.len, hU.le, hU.max, hU.dig, hU.at'.imp id fun ⟨b, off, e, hc⟩ => ⟨b, off, e, fun k hk => ?_⟩⟩
  have hv := hc k hk
  have hb : b ≠ g := by
    rintro rfl
    have := hN.not hv
    simp [nonU] at this
  rw [World.cell?_of_block (w := w) (h b (World.block_lt_of_cell? _ _ hv) hb)]
  exact hv
theorem keep_ext {w w' : World} (h : Ext w w') : Keep w w' := fun _ _ _ _ hU => hU.ext h
theorem zeroCells_nonU (n : Nat) : (Builtin.zeroCells (RH.v default).cells n).toList.all nonU = true := by
  rw [List.all_eq_true]
  intro x hx
  have h0 : (RH.v default).cells = #[.bool false, .slice none 0 0, .slice none 0 0] := by rfl
  rw [h0] at hx
  simp [Builtin.zeroCells] at hx
  obtain ⟨a, -, rfl⟩ := hx
  have h7 : a % 3 = 0 ∨ a % 3 = 1 ∨ a % 3 = 2 := by omega
  rcases h7 with h7 | h7 | h7 <;> rw [h7] <;> rfl
theorem one_cells {w : World} {N : Nat} {r : RH} (h : RBk w N [r] #[]) : ∀ j u, (rcells [r])[j]? = some u → w.cell? ((⟨N, 0, none⟩ : Addr).add j) = some u := by
  intro j u hj
  rw [add_plain0, blk_cell h, Array.append_empty, List.getElem?_toArray]
  exact hj
theorem run_append_rat (T ty : TypeId) (hT : Tryz.prog.underlying T = some (.slice 30)) (w : World) (B : Nat) (v : Value) (rs : List RH) (r : RH) (N : Nat) (hown : OwnR w B v rs) (hN : RBk w N [r] #[]) (hl : rs.length ≤ 1073741824) (hB : B ≤ w.heap.size) :
    ∃ L cap w', (Builtin.append_ #[T, T] ty #[v, .slice (some ⟨N, 0, none⟩) 1 1]).run Tryz.prog w = .ok (.slice (some ⟨L, 0, none⟩) (rs.length + 1) cap) w' ∧ OwnR w' B (.slice (some ⟨L, 0, none⟩) (rs.length + 1) cap) (rs ++ [r]) ∧ Below B w w' ∧ Keep w w' := by
  obtain ⟨i0, hi0, hz0, hz1, hz2⟩ := info_parts infoR
  have hnl : (rcells [r]).length = 1 * i0.size := by rw [hz1]; rfl
  have hgc : ∀ need old, need ≤ 9223372036854775807 → need ≤ grownCap w need old 30 ∧ grownCap w need old 30 ≤ 9223372036854775807 := fun need old h => ⟨grownCap_ge _ _ _ _, by have := grownCap_le_maxLen w need old 30 (by simpa [maxLen] using h); simpa [maxLen] using this⟩
  have hzs : (RH.v default).cells.size = 3 := by rfl
  rcases hown with ⟨rfl, rfl⟩ | ⟨L, cap, re, rfl, h1, h2, h3, h4, h5, h6⟩
  · have hr := run_append_nil (P := Tryz.prog) w T ty _ i0 _ hT hi0 hz0 ⟨N, 0, none⟩ 1 1 (rcells [r]) hnl (one_cells hN) (by decide) (by decide) (by rw [hz2]; decide)
    obtain ⟨g1, g2⟩ := hgc 1 0 (by decide)
    have he : Ext w (w.drew.alloc (.cells ((rcells [r]).toArray ++ Builtin.zeroCells (RH.v default).cells (grownCap w 1 0 30 - 1)) 30)) := (Ext.drew w).trans (Ext.alloc _ _)
    refine ⟨_, _, _, hr, Or.inr ⟨_, _, _, rfl, hB, heap_alloc_new w.drew _, g1, g2, ?_, zeroCells_nonU _⟩, Below.mono he hB, keep_ext he⟩
    rw [size_zeroCells, hzs]
    simp only [List.length_append, List.length_nil, List.length_cons]
    omega
  · by_cases hroom : rs.length + 1 ≤ cap
    · have hcs : ((rcells rs).toArray ++ re).size = cap * 3 := by rw [Array.size_append, List.size_toArray, rcells_length, h5]
      have hr := run_append_room (P := Tryz.prog) w T ty _ i0 hT hi0 L rs.length cap _ h2 ⟨N, 0, none⟩ 1 1 (rcells [r]) hnl (one_cells hN) (rcells_one _) hroom (by rw [hcs, hz1, hnl, hz1]; omega)
      have e : (((rcells rs).toArray ++ re).toList.take (rs.length * i0.size) ++ rcells [r] ++ ((rcells rs).toArray ++ re).toList.drop (rs.length * i0.size + (rcells [r]).length)).toArray = (rcells (rs ++ [r])).toArray ++ (re.toList.drop 3).toArray := by
        rw [hz1, hnl, hz1, Array.toList_append, rcells_append, ← rcells_length, List.take_left, ← List.drop_drop, List.drop_left]
        apply Array.ext'
        simp
      rw [e] at hr
      refine ⟨_, _, _, hr, Or.inr ⟨L, cap, _, by simp, h1, setRow_heap w L _ _ _ _ h2, by simpa using hroom, h4, ?_, ?_⟩, ⟨rfl, rfl, rfl, by simp, fun k hk => setRow_other w L k _ (by omega)⟩, keep_but (h2.noU h6) fun k _ hk => setRow_other w L k _ hk⟩
      · simp
        omega
      · rw [List.all_eq_true] at h6 ⊢
        intro x hx
        exact h6 x (List.mem_of_mem_drop hx)
    · have hr := run_append_grow (P := Tryz.prog) w T ty _ i0 _ hT hi0 hz0 ⟨L, 0, none⟩ rs.length cap (rcells rs) (by rw [rcells_length, hz1]) (fun j u hj => by
          have hlt : j < (rcells rs).length := (List.getElem?_eq_some_iff.1 hj).1
          rw [add_plain0, blk_cell h2, Array.getElem?_append_left (by rw [List.size_toArray]; exact hlt), List.getElem?_toArray]; exact hj) ⟨N, 0, none⟩ 1 1 (rcells [r]) hnl (one_cells hN) (by omega) (by omega) (growslice_fits (by omega) (by rw [hz2]; omega))
      obtain ⟨g1, g2⟩ := hgc (rs.length + 1) cap (by omega)
      have he : Ext w (w.drew.alloc (.cells ((rcells rs).toArray ++ (rcells [r]).toArray ++ Builtin.zeroCells (RH.v default).cells (grownCap w (rs.length + 1) cap 30 - (rs.length + 1))) 30)) := (Ext.drew w).trans (Ext.alloc _ _)
      refine ⟨_, _, _, hr, Or.inr ⟨w.heap.size, _, Builtin.zeroCells (RH.v default).cells (grownCap w (rs.length + 1) cap 30 - (rs.length + 1)), by simp, hB, ?_, by simpa using g1, g2, ?_, zeroCells_nonU _⟩, Below.mono he hB, keep_ext he⟩
      · unfold RBk
        rw [rcells_append]
        have e2 : (rcells rs ++ rcells [r]).toArray = (rcells rs).toArray ++ (rcells [r]).toArray := by simp
        rw [e2]
        exact heap_alloc_new w.drew _
      · rw [size_zeroCells, hzs]
        simp only [List.length_append, List.length_nil, List.length_cons]
        omega
/-- append(own, r) -/
theorem wpList_append_rat {w : World} {ops : Array Oper} {rest : List Oper} {o : Oper} {a : Act} {Q : Exit → Act → World → Prop} (hgd : o.guard = none) (s x : Operand) (T : TypeId) (hT : Tryz.prog.underlying T = some (.slice 30))
    (ho : o.op = .call { callee := .builtin .append, args := #[s, x], argTypes := #[T, T] }) (B : Nat) (v : Value) (rs : List RH) (r : RH) (N : Nat) (hs : a.eval s = v) (hown : OwnR w B v rs) (hx : a.eval x = .slice (some ⟨N, 0, none⟩) 1 1) (hN : RBk w N [r] #[]) (hl : rs.length ≤ 1073741824) (hB : B ≤ w.heap.size)
    (h : ∀ L cap w', OwnR w' B (.slice (some ⟨L, 0, none⟩) (rs.length + 1) cap) (rs ++ [r]) → Below B w w' → Keep w w' → wpList Tryz.prog ops Q rest (a.put o.dst (.slice (some ⟨L, 0, none⟩) (rs.length + 1) cap)) w') : wpList Tryz.prog ops Q (o :: rest) a w := by
  refine wpList_plain hgd fun K hK => ?_
  obtain ⟨L, cap, w', hrun, h1, h2, h3⟩ := run_append_rat T o.type hT w B v rs r N hown hN hl hB
  unfold Oper.wp
  simp [execOp, ho, resolve, invoke, builtin, hs, hx, hrun, Result.andThen]
  exact hK _ _ (h L cap w' h1 h2 h3)
/-- A new list of m, of which the first are filled. -/
def FillB (w : World) (L m : Nat) (ts : List Rat) : Prop := ∃ rs, RBk w L (rs ++ List.replicate (m - ts.length) default) #[] ∧ Vals CanR w rs ts ∧ ts.length ≤ m
theorem FillB.start {w : World} {L m : Nat} (h : RBk w L (List.replicate m default) #[]) : FillB w L m [] := ⟨[], by simpa using h, Vals.nil _ _, Nat.zero_le _⟩
theorem FillB.ext {w w' : World} {L m : Nat} {ts : List Rat} (h : FillB w L m ts) (he : Ext w w') : FillB w' L m ts := let ⟨rs, h1, h2, h3⟩ := h; ⟨rs, h1.ext he, h2.can_ext he, h3⟩
theorem FillB.keep {w w' : World} {L m : Nat} {ts : List Rat} (h : FillB w L m ts) (hb : w'.heap[L]? = w.heap[L]?) (he : Keep w w') : FillB w' L m ts := let ⟨rs, h1, h2, h3⟩ := h; ⟨rs, hb.trans h1, h2.keep he, h3⟩
theorem FillB.lt {w : World} {L m : Nat} {ts : List Rat} (h : FillB w L m ts) : L < w.heap.size := let ⟨_, h1, _⟩ := h; h1.lt
theorem FillB.frozen {w : World} {L m : Nat} {ts : List Rat} (h : FillB w L m ts) (i : Nat) : w.frozen? ⟨L, i, none⟩ = false := let ⟨_, h1, _⟩ := h; h1.frozen i
theorem FillB.cells {w : World} {L m : Nat} {ts : List Rat} (h : FillB w L m ts) (hlt : ts.length < m) : ∃ r, RAt w L (ts.length * 3) r := by
  obtain ⟨rs, h1, h2, h3⟩ := h
  exact ⟨_, h1.at (by rw [List.length_append, List.length_replicate, h2.1]; omega)⟩
theorem FillB.done {w : World} {L m : Nat} {ts : List Rat} (h : FillB w L m ts) (hm : ts.length = m) (hx : m ≤ 9223372036854775807) : CanL w ⟨some ⟨L, 0, none⟩, m, m⟩ ts := by
  obtain ⟨rs, h1, h2, h3⟩ := h
  rw [hm, Nat.sub_self, List.replicate_zero, List.append_nil] at h1
  exact ⟨rs, h1.rs (by rw [h2.1, hm]) (Nat.le_refl _) hx, h2⟩
structure PutF (w w1 : World) (L m : Nat) (ts : List Rat) (w2 : World) : Prop where
  ext : Ext w w2
  keep : Keep w1 w2
  fill : FillB w2 L m ts
  rest : ∀ k o, k ≠ L → w1.heap[k]? = some o → w2.heap[k]? = some o
  size : w2.heap.size = w1.heap.size
theorem FillB.put {w w1 : World} {L m : Nat} {ts : List Rat} (h : FillB w1 L m ts) (hE : Ext w w1) (hL : w.heap.size ≤ L) (hlt : ts.length < m) {r : RH} {q : Rat} (hr : CanR w1 r q) :
    ∃ w2, w2 = stRo w1 L (ts.length * 3) r ∧ PutF w w1 L m (ts ++ [q]) w2 := by
  obtain ⟨rs, h1, h2, h3⟩ := h
  have P := h1.put hE hL rfl (k := ts.length) (by rw [List.length_append, List.length_replicate, h2.1]; omega) r
  have e : (rs ++ List.replicate (m - ts.length) default).set ts.length r = (rs ++ [r]) ++ List.replicate (m - (ts ++ [q]).length) default := by
    rw [← h2.1, List.set_append_right _ _ (Nat.le_refl _), Nat.sub_self, h2.1, show m - ts.length = (m - (ts ++ [q]).length) + 1 by simp; omega, List.replicate_succ, List.set_cons_zero]
    simp
  rw [e] at P
  exact ⟨_, rfl, P.ext, P.keep, ⟨rs ++ [r], P.bk, (h2.keep P.keep).snoc (hr.keep P.keep), by simp; omega⟩, P.rest, P.size⟩
end Go.Proofs.YteafdebcihbjdaaGreat
/- Worlds get names; boxes; lists with a place. -/
namespace Go.Proofs.YteafdebcihbjdaaGreat
open Go.RowKit Go.Front Go.Num
theorem nm_alloc {w : World} {a : Obj} {F : World → Prop} (h : ∀ w2, Ext w w2 → w2.heap[w.heap.size]? = some a → w2.heap.size = w.heap.size + 1 → F w2) : F (w.alloc a) :=
  h _ (Ext.alloc _ _) (heap_alloc_new _ _) (by simp)
theorem nm_alloc2 {w : World} {a b : Obj} {F : World → Prop} (h : ∀ w2, Ext w w2 → w2.heap[w.heap.size]? = some a → w2.heap[w.heap.size + 1]? = some b → w2.heap.size = w.heap.size + 2 → F w2) : F ((w.alloc a).alloc b) :=
  h _ Ext.al2 al2_0 al2_1 (by simp)
theorem nm_alloc3 {w : World} {a b c : Obj} {F : World → Prop} (h : ∀ w2, Ext w w2 → w2.heap[w.heap.size]? = some a → w2.heap[w.heap.size + 1]? = some b → w2.heap[w.heap.size + 2]? = some c → w2.heap.size = w.heap.size + 3 → F w2) : F (((w.alloc a).alloc b).alloc c) :=
  h _ Ext.al3 al3_0 al3_1 al3_2 (by simp)
/-- The box b has new cells. -/
structure PutB (w1 : World) (b : Nat) (T : TypeId) (cs : Array Value) (w2 : World) : Prop where
  keep : Keep w1 w2
  bx : w2.heap[b]? = some (.cells cs T (0, 0))
  rest : ∀ k o, k ≠ b → w1.heap[k]? = some o → w2.heap[k]? = some o
  size : w2.heap.size = w1.heap.size
  below : Below b w1 w2
theorem PutB.ext {w w1 w2 : World} {b : Nat} {T : TypeId} {cs : Array Value} (h : PutB w1 b T cs w2) (hE : Ext w w1) (hb : w.heap.size ≤ b) : Ext w w2 := Ext.of_below hE h.below hb
theorem PutB.of {w1 : World} {b : Nat} {T : TypeId} {cs : Array Value} {w2 : World} (hlt : b < w1.heap.size) (hN : NoU w1 b) (hm : Mods (· = b) w1 w2) (hz : w2.heap.size = w1.heap.size) (hb : w2.heap[b]? = some (.cells cs T (0, 0))) : PutB w1 b T cs w2 :=
  ⟨keep_but hN fun k hk hne => hm.block k hk hne, hb, fun _ _ hk h => hm.blk hk h, hz, hm.below (Nat.le_of_lt hlt) (fun _ hk => Nat.le_of_eq hk.symm)⟩
theorem PutB.cell {w1 w2 : World} {b : Nat} {T : TypeId} {cs : Array Value} (h : PutB w1 b T cs w2) {p : Addr} {v : Value} (hb : p.block ≠ b) (hv : w1.cell? p = some v) : w2.cell? p = some v := by
  have hl := World.block_lt_of_cell? _ _ hv
  have hbk : w2.heap[p.block]? = w1.heap[p.block]? := by
    rw [Array.getElem?_eq_getElem hl]
    exact h.rest p.block _ hb (Array.getElem?_eq_getElem hl)
  rw [World.cell?_of_block (w := w1) hbk]
  exact hv
theorem Mods.put {S : Nat → Prop} {w w1 w2 : World} {b : Nat} {T : TypeId} {cs : Array Value} (h : Mods S w w1) (T2 : PutB w1 b T cs w2) (hb : S b ∨ w.heap.size ≤ b) : Mods S w w2 := by
  have hm := T2.below
  refine ⟨hm.os.trans h.os, hm.tape.trans h.tape, hm.output.trans h.output, Nat.le_trans h.size (Nat.le_of_eq T2.size.symm), fun k hk hs => ?_⟩
  have hl : k < w1.heap.size := Nat.lt_of_lt_of_le hk h.size
  have hne : k ≠ b := by
    rintro rfl
    rcases hb with hb | hb
    · exact hs hb
    · omega
  rw [T2.rest k _ hne (Array.getElem?_eq_getElem hl), ← h.block k hk hs, Array.getElem?_eq_getElem hl]
theorem Keep.trans {a b c : World} (h : Keep a b) (k : Keep b c) : Keep a c := fun _ _ _ _ hU => k _ _ _ _ (h _ _ _ _ hU)
theorem Keep.refl (a : World) : Keep a a := fun _ _ _ _ h => h
theorem nm_set1 {w1 : World} {b : Nat} {T : TypeId} {c0 v0 : Value} {F : World → Prop} (hb : w1.heap[b]? = some (.cells #[c0] T (0, 0))) (hn : nonU c0 = true) (h : ∀ w2, PutB w1 b T #[v0] w2 → F w2) : F (w1.setCell ⟨b, 0, none⟩ v0) :=
  h _ (PutB.of (Array.getElem?_eq_some_iff.1 hb).1 (noU_block hb (by simp [hn])) (Mods.setCell w1 ⟨b, 0, none⟩ v0) (by simp [World.setCell]) (blk_set hb 0 v0))
theorem nm_set3 {w1 : World} {b : Nat} {T : TypeId} {c0 c1 c2 v0 v1 v2 : Value} {F : World → Prop} (hb : w1.heap[b]? = some (.cells #[c0, c1, c2] T (0, 0))) (hn : #[c0, c1, c2].toList.all nonU = true) (h : ∀ w2, PutB w1 b T #[v0, v1, v2] w2 → F w2) :
    F (((w1.setCell ⟨b, 0, none⟩ v0).setCell ⟨b, 1, none⟩ v1).setCell ⟨b, 2, none⟩ v2) :=
  h _ (PutB.of (Array.getElem?_eq_some_iff.1 hb).1 (noU_block hb hn) (((Mods.setCell w1 ⟨b, 0, none⟩ v0).trans (Mods.setCell _ ⟨b, 1, none⟩ v1)).trans (Mods.setCell _ ⟨b, 2, none⟩ v2)) (by simp [World.setCell]) (blk_set (blk_set (blk_set hb 0 v0) 1 v1) 2 v2))
theorem nm_rat {w1 : World} {L : Nat} {rs : List RH} {re : Array Value} {k : Nat} {F : World → Prop} {neg : Bool} {a b : Option Addr} {n c m d : Nat} (h : RBk w1 L rs re) (hre : re.toList.all nonU = true) (hk : k < rs.length)
    (H : ∀ w2, PutB w1 L 30 ((rcells (rs.set k ⟨neg, a, n, c, b, m, d⟩)).toArray ++ re) w2 → F w2) :
    F (((w1.setCell ⟨L, k * 3, none⟩ (.bool neg)).setCell ⟨L, k * 3 + 1, none⟩ (.slice a n c)).setCell ⟨L, k * 3 + 2, none⟩ (.slice b m d)) := by
  refine H _ (PutB.of h.lt (h.noU hre) (((Mods.setCell w1 ⟨L, k * 3, none⟩ _).trans (Mods.setCell _ ⟨L, k * 3 + 1, none⟩ _)).trans (Mods.setCell _ ⟨L, k * 3 + 2, none⟩ _)) (by simp [World.setCell]) ?_)
  exact (h.put (w := { w1 with heap := #[] }) ⟨rfl, rfl, rfl, Nat.zero_le _, fun k hk => absurd hk (Nat.not_lt_zero _)⟩ (Nat.zero_le _) hre hk ⟨neg, a, n, c, b, m, d⟩).bk
theorem RawR.keep {w w' : World} {s : RH} {q : Rat} (h : RawR w s q) (he : Keep w w') : RawR w' s q := let ⟨ds, es, h1, h2, h3⟩ := h; ⟨ds, es, he _ _ _ _ h1, he _ _ _ _ h2, h3⟩
/-- A list that lies in a block from lo on, in front of hi. -/
def LIn (w : World) (s : SH) (qs : List Rat) (lo hi : Nat) : Prop := ∃ rs, RS w s rs ∧ Vals CanR w rs qs ∧ (s.n = 0 ∨ ∃ b off, s.a = some ⟨b, off, none⟩ ∧ lo ≤ b ∧ b < hi)
theorem LIn.can {w : World} {s : SH} {qs : List Rat} {lo hi : Nat} (h : LIn w s qs lo hi) : CanL w s qs := let ⟨rs, h1, h2, _⟩ := h; ⟨rs, h1, h2⟩
theorem LIn.ext {w w' : World} {s : SH} {qs : List Rat} {lo hi : Nat} (h : LIn w s qs lo hi) (he : Ext w w') : LIn w' s qs lo hi := let ⟨rs, h1, h2, h3⟩ := h; ⟨rs, h1.ext he, h2.can_ext he, h3⟩
theorem LIn.mono {w : World} {s : SH} {qs : List Rat} {lo hi lo' hi' : Nat} (h : LIn w s qs lo hi) (h1 : lo' ≤ lo) (h2 : hi ≤ hi') : LIn w s qs lo' hi' :=
  let ⟨rs, a, b, c⟩ := h; ⟨rs, a, b, c.imp id fun ⟨x, o, e, l, m⟩ => ⟨x, o, e, Nat.le_trans h1 l, Nat.lt_of_lt_of_le m h2⟩⟩
theorem LIn.len {w : World} {s : SH} {qs : List Rat} {lo hi : Nat} (h : LIn w s qs lo hi) : qs.length = s.n := h.can.len
theorem RS.in {w : World} {s : SH} {rs : List RH} (h : RS w s rs) : s.n = 0 ∨ ∃ b off, s.a = some ⟨b, off, none⟩ ∧ 0 ≤ b ∧ b < w.heap.size := by
  rcases h.at' with h0 | ⟨b, off, h1, h2⟩
  · exact Or.inl h0
  · by_cases hn : s.n = 0
    · exact Or.inl hn
    · exact Or.inr ⟨b, off, h1, Nat.zero_le _, World.block_lt_of_cell? _ _ (h2 0 (by omega)).1⟩
theorem CanL.lin {w : World} {s : SH} {qs : List Rat} (h : CanL w s qs) : LIn w s qs 0 w.heap.size := let ⟨rs, h1, h2⟩ := h; ⟨rs, h1, h2, h1.in⟩
theorem RS.put {w1 w2 : World} {s : SH} {rs : List RH} {b lo hi : Nat} {T : TypeId} {cs : Array Value} (h : RS w1 s rs) (hp : s.n = 0 ∨ ∃ b off, s.a = some ⟨b, off, none⟩ ∧ lo ≤ b ∧ b < hi) (T2 : PutB w1 b T cs w2) (hb : b < lo ∨ hi ≤ b) : RS w2 s rs := by
  refine ⟨h.len, h.le, h.max, ?_⟩
  rcases hp with h0 | ⟨x, o, e, h1, h2⟩
  · exact Or.inl h0
  · rcases h.at' with h0 | ⟨x', o', e', h3⟩
    · exact Or.inl h0
    · rw [e] at e'
      obtain ⟨rfl, rfl⟩ : x = x' ∧ o = o' := by simpa using e'
      refine Or.inr ⟨x, o, e, fun k hk => ?_⟩
      have hc := h3 k hk
      have hl := World.block_lt_of_cell? _ _ hc.1
      simp only at hl
      have hbk : w2.heap[x]? = w1.heap[x]? := by
        rw [Array.getElem?_eq_getElem hl]
        exact T2.rest x _ (by omega) (Array.getElem?_eq_getElem hl)
      have cc : ∀ i, w2.cell? ⟨x, i, none⟩ = w1.cell? ⟨x, i, none⟩ := fun i => World.cell?_of_block (w := w1) hbk
      exact ⟨(cc _).trans hc.1, (cc _).trans hc.2.1, (cc _).trans hc.2.2⟩
theorem LIn.put {w1 w2 : World} {s : SH} {qs : List Rat} {lo hi b : Nat} {T : TypeId} {cs : Array Value} (h : LIn w1 s qs lo hi) (T2 : PutB w1 b T cs w2) (hb : b < lo ∨ hi ≤ b) : LIn w2 s qs lo hi :=
  let ⟨rs, h1, h2, h3⟩ := h; ⟨rs, h1.put h3 T2 hb, h2.keep T2.keep, h3⟩
theorem LIn.take {w : World} {ao : Option Addr} {n c : Nat} {qs : List Rat} {lo hi : Nat} (h : LIn w ⟨ao, n, c⟩ qs lo hi) {m : Nat} (hm : m ≤ n) : LIn w ⟨ao, m, c⟩ (qs.take m) lo hi := by
  obtain ⟨rs, h1, h2, h3⟩ := h
  refine ⟨_, h1.take hm, h2.take m, ?_⟩
  rcases h3 with h3 | h3
  · left; simp only at *; omega
  · exact Or.inr h3
/-- A new list: in blocks from B on. -/
def NewL (B : Nat) (w : World) (s : SH) (qs : List Rat) : Prop := LIn w s qs B w.heap.size
theorem NewL.can {B : Nat} {w : World} {s : SH} {qs : List Rat} (h : NewL B w s qs) : CanL w s qs := LIn.can h
theorem NewL.ext {B : Nat} {w w' : World} {s : SH} {qs : List Rat} (h : NewL B w s qs) (he : Ext w w') : NewL B w' s qs := (LIn.ext h he).mono (Nat.le_refl _) he.size
theorem NewL.mono {B B' : Nat} {w : World} {s : SH} {qs : List Rat} (h : NewL B w s qs) (hb : B' ≤ B) : NewL B' w s qs := LIn.mono h hb (Nat.le_refl _)
theorem NewL.put {B : Nat} {w1 w2 : World} {s : SH} {qs : List Rat} {b : Nat} {T : TypeId} {cs : Array Value} (h : NewL B w1 s qs) (T2 : PutB w1 b T cs w2) (hb : b < B) : NewL B w2 s qs :=
  (LIn.put h T2 (Or.inl hb)).mono (Nat.le_refl _) (Nat.le_of_eq T2.size.symm)
theorem NewL.nil (B : Nat) (w : World) : NewL B w ⟨none, 0, 0⟩ [] := ⟨[], RS.nil _ _ _ (by decide), Vals.nil _ _, Or.inl rfl⟩
theorem NewL.len {B : Nat} {w : World} {s : SH} {qs : List Rat} (h : NewL B w s qs) : qs.length = s.n := LIn.len h
theorem FillB.new {w : World} {L m B : Nat} {ts : List Rat} (h : FillB w L m ts) (hB : B ≤ L) (hm : ts.length = m) (hx : m ≤ 9223372036854775807) : NewL B w ⟨some ⟨L, 0, none⟩, m, m⟩ ts := by
  have hl := h.lt
  obtain ⟨rs, h1, h2, h3⟩ := h
  rw [hm, Nat.sub_self, List.replicate_zero, List.append_nil] at h1
  exact ⟨rs, h1.rs (by rw [h2.1, hm]) (Nat.le_refl _) hx, h2, Or.inr ⟨L, 0, rfl, hB, hl⟩⟩
end Go.Proofs.YteafdebcihbjdaaGreat
/- A list of one's own that grows. -/
namespace Go.Proofs.YteafdebcihbjdaaGreat
open Go.RowKit Go.Front Go.Num
/-- v is a row of rationals in a block of D, nobody else's. -/
def OwnL (w : World) (D : Nat → Prop) (v : Value) (rs : List RH) : Prop := (v = .slice none 0 0 ∧ rs = []) ∨ ∃ L cap re, v = .slice (some ⟨L, 0, none⟩) rs.length cap ∧ D L ∧ RBk w L rs re ∧ rs.length ≤ cap ∧ cap ≤ 9223372036854775807 ∧ rs.length * 3 + re.size = cap * 3 ∧ re.toList.all nonU = true
theorem OwnL.nil (w : World) (D : Nat → Prop) : OwnL w D (.slice none 0 0) [] := Or.inl ⟨rfl, rfl⟩
theorem OwnL.ext {w w' : World} {D : Nat → Prop} {v : Value} {rs : List RH} (h : OwnL w D v rs) (he : Ext w w') : OwnL w' D v rs :=
  h.imp id fun ⟨L, cap, re, h1, h2, h3, h4⟩ => ⟨L, cap, re, h1, h2, h3.ext he, h4⟩
theorem OwnL.mono {w : World} {D D' : Nat → Prop} {v : Value} {rs : List RH} (h : OwnL w D v rs) (hD : ∀ k, k < w.heap.size → D k → D' k) : OwnL w D' v rs :=
  h.imp id fun ⟨L, cap, re, h1, h2, h3, h4⟩ => ⟨L, cap, re, h1, hD _ h3.lt h2, h3, h4⟩
theorem run_append_own (T ty : TypeId) (hT : Tryz.prog.underlying T = some (.slice 30)) (w : World) (D : Nat → Prop) (v : Value) (rs : List RH) (r : RH) (N : Nat) (hown : OwnL w D v rs) (hN : RBk w N [r] #[]) (hl : rs.length ≤ 1073741824) (hD : ∀ k, w.heap.size ≤ k → D k) :
    ∃ L cap w', (Builtin.append_ #[T, T] ty #[v, .slice (some ⟨N, 0, none⟩) 1 1]).run Tryz.prog w = .ok (.slice (some ⟨L, 0, none⟩) (rs.length + 1) cap) w' ∧ OwnL w' D (.slice (some ⟨L, 0, none⟩) (rs.length + 1) cap) (rs ++ [r]) ∧ Mods D w w' ∧ Keep w w' := by
  obtain ⟨i0, hi0, hz0, hz1, hz2⟩ := info_parts infoR
  have hnl : (rcells [r]).length = 1 * i0.size := by rw [hz1]; rfl
  have hgc : ∀ need old, need ≤ 9223372036854775807 → need ≤ grownCap w need old 30 ∧ grownCap w need old 30 ≤ 9223372036854775807 := fun need old h => ⟨grownCap_ge _ _ _ _, by have := grownCap_le_maxLen w need old 30 (by simpa [maxLen] using h); simpa [maxLen] using this⟩
  have hzs : (RH.v default).cells.size = 3 := by rfl
  rcases hown with ⟨rfl, rfl⟩ | ⟨L, cap, re, rfl, h1, h2, h3, h4, h5, h6⟩
  · have hr := run_append_nil (P := Tryz.prog) w T ty _ i0 _ hT hi0 hz0 ⟨N, 0, none⟩ 1 1 (rcells [r]) hnl (one_cells hN) (by decide) (by decide) (by rw [hz2]; decide)
    obtain ⟨g1, g2⟩ := hgc 1 0 (by decide)
    have he : Ext w (w.drew.alloc (.cells ((rcells [r]).toArray ++ Builtin.zeroCells (RH.v default).cells (grownCap w 1 0 30 - 1)) 30)) := (Ext.drew w).trans (Ext.alloc _ _)
    refine ⟨_, _, _, hr, Or.inr ⟨_, _, _, rfl, hD _ (Nat.le_refl _), heap_alloc_new w.drew _, g1, g2, ?_, zeroCells_nonU _⟩, Mods.of_ext he, keep_ext he⟩
    rw [size_zeroCells, hzs]
    simp only [List.length_append, List.length_nil, List.length_cons]
    omega
  · by_cases hroom : rs.length + 1 ≤ cap
    · have hcs : ((rcells rs).toArray ++ re).size = cap * 3 := by rw [Array.size_append, List.size_toArray, rcells_length, h5]
      have hr := run_append_room (P := Tryz.prog) w T ty _ i0 hT hi0 L rs.length cap _ h2 ⟨N, 0, none⟩ 1 1 (rcells [r]) hnl (one_cells hN) (rcells_one _) hroom (by rw [hcs, hz1, hnl, hz1]; omega)
      have e : (((rcells rs).toArray ++ re).toList.take (rs.length * i0.size) ++ rcells [r] ++ ((rcells rs).toArray ++ re).toList.drop (rs.length * i0.size + (rcells [r]).length)).toArray = (rcells (rs ++ [r])).toArray ++ (re.toList.drop 3).toArray := by
        rw [hz1, hnl, hz1, Array.toList_append, rcells_append, ← rcells_length, List.take_left, ← List.drop_drop, List.drop_left]
        apply Array.ext'
        simp
      rw [e] at hr
      refine ⟨_, _, _, hr, Or.inr ⟨L, cap, _, by simp, h1, setRow_heap w L _ _ _ _ h2, by simpa using hroom, h4, ?_, ?_⟩, ⟨rfl, rfl, rfl, by simp, fun k hk hnd => setRow_other w L k _ (fun e => hnd (e ▸ h1))⟩, keep_but (h2.noU h6) fun k _ hk => setRow_other w L k _ hk⟩
      · simp
        omega
      · rw [List.all_eq_true] at h6 ⊢
        intro x hx
        exact h6 x (List.mem_of_mem_drop hx)
    · have hr := run_append_grow (P := Tryz.prog) w T ty _ i0 _ hT hi0 hz0 ⟨L, 0, none⟩ rs.length cap (rcells rs) (by rw [rcells_length, hz1]) (fun j u hj => by
          have hlt : j < (rcells rs).length := (List.getElem?_eq_some_iff.1 hj).1
          rw [add_plain0, blk_cell h2, Array.getElem?_append_left (by rw [List.size_toArray]; exact hlt), List.getElem?_toArray]; exact hj) ⟨N, 0, none⟩ 1 1 (rcells [r]) hnl (one_cells hN) (by omega) (by omega) (growslice_fits (by omega) (by rw [hz2]; omega))
      obtain ⟨g1, g2⟩ := hgc (rs.length + 1) cap (by omega)
      have he : Ext w (w.drew.alloc (.cells ((rcells rs).toArray ++ (rcells [r]).toArray ++ Builtin.zeroCells (RH.v default).cells (grownCap w (rs.length + 1) cap 30 - (rs.length + 1))) 30)) := (Ext.drew w).trans (Ext.alloc _ _)
      refine ⟨_, _, _, hr, Or.inr ⟨w.heap.size, _, Builtin.zeroCells (RH.v default).cells (grownCap w (rs.length + 1) cap 30 - (rs.length + 1)), by simp, hD _ (Nat.le_refl _), ?_, by simpa using g1, g2, ?_, zeroCells_nonU _⟩, Mods.of_ext he, keep_ext he⟩
      · unfold RBk
        rw [rcells_append]
        have e2 : (rcells rs ++ rcells [r]).toArray = (rcells rs).toArray ++ (rcells [r]).toArray := by simp
        rw [e2]
        exact heap_alloc_new w.drew _
      · rw [size_zeroCells, hzs]
        simp only [List.length_append, List.length_nil, List.length_cons]
        omega
/-- v is a list of one's own in a block of D. -/
def OwnQ (w : World) (D : Nat → Prop) (v : Value) (qs : List Rat) : Prop := ∃ rs, OwnL w D v rs ∧ Vals CanR w rs qs
theorem OwnQ.nil (w : World) (D : Nat → Prop) : OwnQ w D (.slice none 0 0) [] := ⟨[], OwnL.nil _ _, Vals.nil _ _⟩
theorem OwnQ.ext {w w' : World} {D : Nat → Prop} {v : Value} {qs : List Rat} (h : OwnQ w D v qs) (he : Ext w w') : OwnQ w' D v qs := let ⟨rs, h1, h2⟩ := h; ⟨rs, h1.ext he, h2.can_ext he⟩
theorem OwnQ.mono {w : World} {D D' : Nat → Prop} {v : Value} {qs : List Rat} (h : OwnQ w D v qs) (hD : ∀ k, k < w.heap.size → D k → D' k) : OwnQ w D' v qs := let ⟨rs, h1, h2⟩ := h; ⟨rs, h1.mono hD, h2⟩
theorem OwnQ.put {w1 w2 : World} {D : Nat → Prop} {v : Value} {qs : List Rat} {b : Nat} {T : TypeId} {cs : Array Value} (h : OwnQ w1 D v qs) (T2 : PutB w1 b T cs w2) (hb : ¬ D b) : OwnQ w2 D v qs := by
  obtain ⟨rs, h1, h2⟩ := h
  refine ⟨rs, h1.imp id fun ⟨L, cap, re, g1, g2, g3, g4⟩ => ⟨L, cap, re, g1, g2, T2.rest L _ (fun e => hb (e ▸ g2)) g3, g4⟩, h2.keep T2.keep⟩
theorem OwnQ.sh {w : World} {D : Nat → Prop} {v : Value} {qs : List Rat} (h : OwnQ w D v qs) : ∃ s : SH, v = s.v := by
  obtain ⟨rs, ⟨rfl, rfl⟩ | ⟨L, cap, re, rfl, _⟩, h2⟩ := h
  · exact ⟨⟨none, 0, 0⟩, rfl⟩
  · exact ⟨⟨_, _, _⟩, rfl⟩
theorem OwnQ.lin {w : World} {B : Nat} {s : SH} {qs : List Rat} (h : OwnQ w (B ≤ ·) s.v qs) : NewL B w s qs := by
  obtain ⟨ao, n, c⟩ := s
  obtain ⟨rs, h1, h2⟩ := h
  rcases h1 with ⟨e, rfl⟩ | ⟨L, cap, re, e, hB, h3, h4, h5, h6, h7⟩
  · have : qs = [] := List.length_eq_zero_iff.1 (by rw [← h2.1]; rfl)
    subst this
    obtain ⟨rfl, rfl, rfl⟩ : ao = none ∧ n = 0 ∧ c = 0 := by simpa using e
    exact NewL.nil _ _
  · obtain ⟨rfl, rfl, rfl⟩ : ao = some ⟨L, 0, none⟩ ∧ n = rs.length ∧ c = cap := by simpa using e
    exact ⟨rs, h3.rs rfl h4 h5, h2, Or.inr ⟨L, 0, rfl, hB, h3.lt⟩⟩
theorem OwnQ.new {w : World} {D : Nat → Prop} {B : Nat} {s : SH} {qs : List Rat} (h : OwnQ w D s.v qs) (hD : ∀ k, k < w.heap.size → D k → B ≤ k) : NewL B w s qs := (h.mono hD).lin
theorem OwnQ.can {w : World} {D : Nat → Prop} {s : SH} {qs : List Rat} (h : OwnQ w D s.v qs) : CanL w s qs := (h.new (B := 0) (fun _ _ _ => Nat.zero_le _)).can
theorem OwnQ.len {w : World} {D : Nat → Prop} {s : SH} {qs : List Rat} (h : OwnQ w D s.v qs) : qs.length = s.n := h.can.len
theorem rbk_one {w : World} {N : Nat} {r : RH} {neg : Bool} {a b : Option Addr} {n c m d : Nat} (h : w.heap[N]? = some (.cells #[.bool neg, .slice a n c, .slice b m d] 30 (0, 0))) (hr : r = ⟨neg, a, n, c, b, m, d⟩) : RBk w N [r] #[] := by
  subst hr
  unfold RBk
  rw [h]
  rfl
/-- append(own, r), where r lies in a block of its own. -/
theorem wpList_append_q {w : World} {ops : Array Oper} {rest : List Oper} {o : Oper} {a : Act} {Q : Exit → Act → World → Prop} (hgd : o.guard = none) (s x : Operand) (T : TypeId) (hT : Tryz.prog.underlying T = some (.slice 30))
    (ho : o.op = .call { callee := .builtin .append, args := #[s, x], argTypes := #[T, T] }) (D : Nat → Prop) (v : Value) (qs : List Rat) (r : RH) (q : Rat) (N : Nat) (hs : a.eval s = v) (hown : OwnQ w D v qs)
    (hx : a.eval x = .slice (some ⟨N, 0, none⟩) 1 1) (hN : RBk w N [r] #[]) (hr : CanR w r q) (hl : qs.length ≤ 1073741824) (hD : ∀ k, w.heap.size ≤ k → D k)
    (h : ∀ (s' : SH) w', OwnQ w' D s'.v (qs ++ [q]) → Mods D w w' → Keep w w' → wpList Tryz.prog ops Q rest (a.put o.dst s'.v) w') : wpList Tryz.prog ops Q (o :: rest) a w := by
  obtain ⟨rs, h1, h2⟩ := hown
  refine wpList_plain hgd fun K hK => ?_
  obtain ⟨L, cap, w', hrun, g1, g2, g3⟩ := run_append_own T o.type hT w D v rs r N h1 hN (by rw [h2.1]; exact hl) hD
  unfold Oper.wp
  simp [execOp, ho, resolve, invoke, builtin, hs, hx, hrun, Result.andThen]
  exact hK _ _ (h ⟨some ⟨L, 0, none⟩, rs.length + 1, cap⟩ w' ⟨_, g1, (h2.snoc hr).keep g3⟩ g2 g3)
/-- The same right behind the making of the block. -/
theorem wpList_append_n {w : World} {ops : Array Oper} {rest : List Oper} {o : Oper} {a : Act} {Q : Exit → Act → World → Prop} (hgd : o.guard = none) (s x : Operand) (T : TypeId) (hT : Tryz.prog.underlying T = some (.slice 30))
    (ho : o.op = .call { callee := .builtin .append, args := #[s, x], argTypes := #[T, T] }) (D : Nat → Prop) (v : Value) (qs : List Rat) (r : RH) (q : Rat) (hs : a.eval s = v) (hown : OwnQ w D v qs)
    (hx : a.eval x = .slice (some ⟨w.heap.size, 0, none⟩) 1 1) (hr : CanR w r q) (hl : qs.length ≤ 1073741824) (hD : ∀ k, w.heap.size ≤ k → D k)
    (h : ∀ (s' : SH) w', OwnQ w' D s'.v (qs ++ [q]) → Mods D w w' → Keep w w' → wpList Tryz.prog ops Q rest (a.put o.dst s'.v) w') : wpList Tryz.prog ops Q (o :: rest) a (w.alloc (.cells #[.bool r.neg, .slice r.a r.n r.c, .slice r.b r.m r.d] 30)) := by
  have hE : Ext w (w.alloc (.cells #[.bool r.neg, .slice r.a r.n r.c, .slice r.b r.m r.d] 30)) := Ext.alloc _ _
  refine wpList_append_q hgd s x T hT ho D v qs r q w.heap.size hs (hown.ext hE) hx (rbk_one (heap_alloc_new _ _) rfl) (hr.ext hE) hl (fun k hk => hD k (Nat.le_trans hE.size hk)) ?_
  intro s' w' g1 g2 g3
  exact h s' w' g1 ((Mods.of_ext hE).trans g2) (fun _ _ _ _ hU => g3 _ _ _ _ (hU.ext hE))
theorem Ext.mods {w w1 w2 : World} {D : Nat → Prop} (h : Ext w w1) (m : Mods D w1 w2) (hD : ∀ k, D k → w.heap.size ≤ k) : Ext w w2 := Ext.of_below h (m.below h.size hD) (Nat.le_refl _)
theorem FillB.own {w : World} {L m : Nat} {D : Nat → Prop} {ts : List Rat} (h : FillB w L m ts) (hD : D L) (hm : ts.length = m) (hx : m ≤ 9223372036854775807) : OwnQ w D (.slice (some ⟨L, 0, none⟩) m m) ts := by
  obtain ⟨rs, h1, h2, h3⟩ := h
  rw [hm, Nat.sub_self, List.replicate_zero, List.append_nil] at h1
  have hl : rs.length = m := by rw [h2.1, hm]
  subst hl
  exact ⟨rs, Or.inr ⟨L, rs.length, #[], rfl, hD, h1, Nat.le_refl _, hx, by simp, by simp⟩, h2⟩
end Go.Proofs.YteafdebcihbjdaaGreat
