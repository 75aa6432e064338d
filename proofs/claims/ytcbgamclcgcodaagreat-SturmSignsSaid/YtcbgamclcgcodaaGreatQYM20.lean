/- Tape -/
import Derived.Test.YtcbgamclcgcodaaGreatQYM8
import Derived.Test.YtcbgamclcgcodaaGreatQYM1
set_option linter.unusedVariables false
namespace Go.Proofs.YtcbgamclcgcodaaGreat
open Go.RowKit Go.Front Go.Num
attribute [local go_sem] XW.cell XW.frozen
def TapePost (b n:Nat) (ao:Option Addr) (c:Nat) (N:Int) (w:World) (e:Ending) (w':World):Prop :=
 ∃ (v at':Int) (w1:World),e = .returned (.int .i64 v)∧0≤v∧v < N∧0≤at'∧at'≤n∧PutB w b 123 #[.slice ao n c,.int .i64 at'] w1∧Ext w1 w'
theorem PutB.same {w w':World} {b:Nat} {T:TypeId} {cs:Array Value} (h:w.heap[b]? = some (.cells cs T (0,0))):PutB w b T cs w :=
 ⟨Keep.refl w,h,fun _ _ _ h=>h,rfl,Below.refl _ _⟩
theorem PutB.drewN {w w2:World} {b n:Nat} {T:TypeId} {cs:Array Value} (h:PutB (w.drewN n) b T cs w2) (hb:b≤w.heap.size):PutB w b T cs w2 :=
 ⟨Keep.trans (keep_ext (Ext.drewN w n)) h.keep,h.bx,h.rest,h.size,Below.trans (Below.mono (Ext.drewN w n) hb) h.below⟩
theorem nm_setB {w1:World} {b:Nat} {T:TypeId} {c0 c1 v1:Value} {F:World→Prop} (hb:w1.heap[b]? = some (.cells #[c0,c1] T (0,0))) (hn:#[c0,c1].toList.all nonU = true) (h:∀ w2,PutB w1 b T #[c0,v1] w2→F w2):F (w1.setCell ⟨b,1,none⟩ v1) :=
 h _ (PutB.of (Array.getElem?_eq_some_iff.1 hb).1 (noU_block hb hn) (Mods.setCell w1 ⟨b,1,none⟩ v1) (by simp [World.setCell]) (blk_set hb 1 v1))
set_option maxRecDepth 4000 in
set_option maxHeartbeats 1000000 in
theorem next_any (b n c:Nat) (ao:Option Addr) (xs:List Int) (at' N:Int) (w:World) (hB:w.heap[b]? = some (.cells #[.slice ao n c,.int .i64 at'] 123 (0,0))) (h:IntsAt w ao xs) (hr:InR xs) (hl:xs.length = n) (hm:n≤9223372036854775807) (hc:n≤c) (hcm:c≤9223372036854775807)
  (hsep:xs ≠ []→∀ p,ao = some p→p.block ≠ b) (h0:0≤at') (h1:at'≤n) (hN:0 < N) (hN2:N≤9223372036854775807) :
  Calls Tryz.prog 105 #[ptr b,.int .i64 N] w (TapePost b n ao c N w):=by
 obtain ⟨k,rfl⟩:∃ k:Nat,at' = (k:Nat):=⟨at'.toNat,by omega⟩
 have HX:=Hi (Ext.refl w)
 have BT:=Hi hB
 have H:=Hi h
 have hbl:b < w.heap.size:=(Array.getElem?_eq_some_iff.1 hB).1
 clear hB h
 simp only [ptr]
 go_enter Tryz.func105,Tryz.ntmps105
 try clear c_BT f_BT l_BT
 obtain ⟨c_BT,f_BT,l_BT⟩:=blk3 BT.out
 by_cases hk:k = n
 ·subst hk
  go_upto_region 1 with fail
  go_quiet (fail)
  go_wp2
  go_ret
  exact ⟨0,(k:Int),w,rfl,by omega,hN,by omega,by omega,PutB.same (w':=w) BT.out,Ext.drewN w _⟩
 ·have hkn:(k:Int) < n:=by omega
  have hne:xs ≠ []:=by intro h; rw [h] at hl; simp at hl; omega
  obtain ⟨bx,off,hao,hcell⟩:=H.out.at (k:=k) (by omega)
  have hbx:bx ≠ b:=hsep hne _ hao
  obtain ⟨x,hx⟩:∃ x,x = xs.getD k 0:=⟨_,rfl⟩
  have hxr:-9223372036854775808≤x∧x≤9223372036854775807:=by
   refine hr x ?_
   rw [hx,show xs.getD k 0 = xs[k]'(by omega) by simp [show k < xs.length by omega]]
   exact List.getElem_mem _
  obtain ⟨hx1,hx2⟩:=hxr
  rw [← hx] at hcell
  subst hao
  have hble:b≤w.heap.size:=by omega
  clear hx hsep hr H hne
  go_upto_region 1 with fail
  go_quiet (fail)
  go_upto_region 4 with fail
  refine nm_setB BT.out rfl ?_
  intro w2 T
  have T0:=Hi T
  replace hcell:=T.cell hbx hcell
  have hbl2:bx < w2.heap.size:=World.block_lt_of_cell? _ _ hcell
  clear c_BT f_BT l_BT hbl
  replace BT:=Hi T.bx
  clear T
  have E2:=Hi (Ext.refl w2)
  try clear c_BT f_BT l_BT
  obtain ⟨c_BT,f_BT,l_BT⟩:=blk3 BT.out
  refine wp_region_front 13 (fun opIx=>match opIx with
   | 12=>.spec Unit () (fun _=>.int .i64 (x % N)) (fun _ _=>True)
   | _=>.quiet) (fun _=>[]) (by kernel_rfl) (by kernel_rfl) (fun w0 he0 hz0 hc0 hf0=>?_)
  replace he0:=Hi he0
  simp only [pT]
  repeat (first | (refine wpq fun K h=>?_; go_big_quiet_op; refine h _ ?_; clear h K) | (refine wpF_nilCheck rfl rfl rfl rfl ?_; simp only [pS]))
  refine wps he0.out rfl rfl (fun w1 hW hG=>?_) fun x12=>?_
  ·exact spc [.int .i64 x,.int .i64 N] Tryz.func31 (mod_any x N _ hx1 hx2 hN hN2)
  simp only [pS]
  repeat (first | (refine wpq fun K h=>?_; go_big_quiet_op; refine h _ ?_; clear h K) | (refine wpF_nilCheck rfl rfl rfl rfl ?_; simp only [pS]))
  refine wpF_nil ?_
  intro w3 hI
  have hE:=he0.out.trans hI.ext
  clear hI he0 hz0 hc0 hf0
  replace BT:=hE.bl BT
  replace E2:=hE.tr E2
  have hs_w3:=hE.size
  clear hE
  try clear c_BT f_BT l_BT
  obtain ⟨c_BT,f_BT,l_BT⟩:=blk3 BT.out
  simp only [pD]
  have hm1:=Int.emod_nonneg x (show N ≠ 0 by omega)
  have hm2:=Int.emod_lt_of_pos x hN
  go_wp2
  go_ret
  exact ⟨x % N,(k:Int) + 1,w2,rfl,hm1,hm2,by omega,by omega,T0.out.drewN hble,E2.out⟩
end Go.Proofs.YtcbgamclcgcodaaGreat
