/- test -/
import Derived.Test.YtjgbckcepoahkaaA1
import Derived.Test.YtjgbckcepoahkaaMem
namespace Go.Proofs.Ytjgbckcepoahkaa
open Go.RowKit Go.Front
attribute [local go_sem] XW.cell XW.frozen
set_option maxHeartbeats 400000 in
theorem refFits_any (x : Wd) (v : Int) (w : World) :
    Calls Try.prog 12 #[x.v, .int .i64 v] w fun e w' => e = .returned (.bool (x.fits v)) ∧ Below w.heap.size w w' := by
  by_cases hv : x.valid = true
  · go_enter Try.func12, Try.ntmps12
    go_wp2_with fail
    refine wp_front 11 (fun i => match i with
      | 1 => .spec Unit () (fun _ => .bool true) (fun _ _ => True)
      | 5 => .spec Unit () (fun _ => .int .i64 x.low) (fun _ _ => True)
      | 7 => .spec Unit () (fun _ => .int .i64 x.high) (fun _ _ => True)
      | 8 => .spec Unit () (fun _ => .bool (inB v x.low x.high)) (fun _ _ => True)
      | _ => .quiet) (fun _ => []) (by kernel_rfl) (by kernel_rfl) ?_
    simp only [List.take_succ_cons, List.take_zero]
    repeat (refine wpF_quiet rfl rfl rfl (fun K hK => ?_); go_big_quiet_op; refine hK _ ?_; clear hK K)
    refine wpF_spec rfl rfl (fun w1 hw1 _ => ?_) (fun _ => ?_)
    · refine spec_call [x.v] rfl rfl Try.func16 (by kernel_rfl) (by kernel_rfl) ?_
      refine (refValid_any x _).mono ?_
      rintro e w' ⟨rfl, hb⟩
      exact ⟨(), by rw [hv], hb, trivial⟩
    simp only [Act.put, List.setIfInBounds_toArray, List.set_cons_succ, List.set_cons_zero]
    repeat (refine wpF_quiet rfl rfl rfl (fun K hK => ?_); go_big_quiet_op; refine hK _ ?_; clear hK K)
    refine wpF_spec rfl rfl (fun w1 hw1 _ => ?_) (fun _ => ?_)
    · refine spec_call [x.v] rfl rfl Try.func19 (by kernel_rfl) (by kernel_rfl) ?_
      refine (refLow_any x _).mono ?_
      rintro e w' ⟨rfl, hb⟩
      exact ⟨(), rfl, hb, trivial⟩
    simp only [Act.put, List.setIfInBounds_toArray, List.set_cons_succ, List.set_cons_zero]
    repeat (refine wpF_quiet rfl rfl rfl (fun K hK => ?_); go_big_quiet_op; refine hK _ ?_; clear hK K)
    refine wpF_spec rfl rfl (fun w1 hw1 _ => ?_) (fun _ => ?_)
    · refine spec_call [x.v] rfl rfl Try.func21 (by kernel_rfl) (by kernel_rfl) ?_
      refine (refHigh_any x _).mono ?_
      rintro e w' ⟨rfl, hb⟩
      exact ⟨(), rfl, hb, trivial⟩
    simp only [Act.put, List.setIfInBounds_toArray, List.set_cons_succ, List.set_cons_zero]
    refine wpF_spec rfl rfl (fun w1 hw1 _ => ?_) (fun _ => ?_)
    · refine spec_call [.int .i64 v, .int .i64 x.low, .int .i64 x.high] rfl rfl Try.func22 (by kernel_rfl) (by kernel_rfl) ?_
      refine (in_any _ _ _ _).mono ?_
      rintro e w' ⟨rfl, rfl⟩
      exact ⟨(), rfl, Ext.refl _, trivial⟩
    simp only [Act.put, List.setIfInBounds_toArray, List.set_cons_succ, List.set_cons_zero]
    repeat (refine wpF_quiet rfl rfl rfl (fun K hK => ?_); go_big_quiet_op; refine hK _ ?_; clear hK K)
    refine wpF_nil ?_
    intro w' hI
    have hext := hI.ext
    clear hI
    simp only [List.drop_succ_cons, List.drop_nil]
    go_wp2
    go_ret
    refine ⟨ret_bool (by simp [Wd.fits, hv]), ?_⟩
    exact (Ext.trans (Ext.trans (Ext.alloc _ _) (Ext.drew _)) hext)
  · have hv' : x.valid = false := by simpa using hv
    go_enter Try.func12, Try.ntmps12
    go_wp2_with fail
    refine wp_front 11 (fun i => match i with
      | 1 => .spec Unit () (fun _ => .bool false) (fun _ _ => True)
      | _ => .quiet) (fun _ => []) (by kernel_rfl) (by kernel_rfl) ?_
    simp only [List.take_succ_cons, List.take_zero]
    repeat (refine wpF_quiet rfl rfl rfl (fun K hK => ?_); go_big_quiet_op; refine hK _ ?_; clear hK K)
    refine wpF_spec rfl rfl (fun w1 hw1 _ => ?_) (fun _ => ?_)
    · refine spec_call [x.v] rfl rfl Try.func16 (by kernel_rfl) (by kernel_rfl) ?_
      refine (refValid_any x _).mono ?_
      rintro e w' ⟨rfl, hb⟩
      exact ⟨(), by rw [hv'], hb, trivial⟩
    simp only [Act.put, List.setIfInBounds_toArray, List.set_cons_succ, List.set_cons_zero]
    repeat (first
      | (refine wpF_skip rfl ?_; simp only [Act.put, List.setIfInBounds_toArray, List.set_cons_succ, List.set_cons_zero])
      | (refine wpF_quiet rfl rfl rfl (fun K hK => ?_); go_big_quiet_op; refine hK _ ?_; clear hK K))
    refine wpF_nil ?_
    intro w' hI
    have hext := hI.ext
    clear hI
    simp only [List.drop_succ_cons, List.drop_nil]
    go_wp2
    go_ret
    refine ⟨ret_bool (by simp [Wd.fits, hv']), ?_⟩
    exact (Ext.trans (Ext.trans (Ext.alloc _ _) (Ext.drew _)) hext)
end Go.Proofs.Ytjgbckcepoahkaa
