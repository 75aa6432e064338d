/- Rf6, Rf7, Rf8, StbR, StbS -/
import Derived.Test.YtcbgamclcgcodaaGreatQVM8
import Derived.Test.YtcbgamclcgcodaaGreatQVM9
import Derived.Test.YtcbgamclcgcodaaGreatQVM10
set_option linter.unusedVariables false
set_option maxRecDepth 4000
set_option maxHeartbeats 1000000
namespace Go.Proofs.YtcbgamclcgcodaaGreat
open Go.RowKit Go.Front Go.Num
attribute [local go_sem] XW.cell XW.frozen
theorem getD_over' {qs:List Rat} {i:Nat} (h:qs.length≤i):qs.getD i 0 = 0:=by
 rw [List.getD_eq_getElem?_getD,List.getElem?_eq_none h]; rfl
theorem at5_any (ao:Option Addr) (n cap:Nat) (qs:List Rat) (i:Nat) (w:World) (h:RawL w ⟨ao,n,cap⟩ qs) (hi:i≤1073741824) :
  Does 121 [.slice ao n cap,.int .i64 (i:Nat)] w RH.v (fun x w'=>CanR w' x (qs.getD i 0)):=by
 have HX:=Hi (Ext.refl w)
 have hle:=h.le
 have hmx:=h.max
 have hlen:=h.len
 simp only at hle hmx hlen
 unfold Does
 by_cases hin:i < n
 ·obtain ⟨b,off,r,hao,hbl,⟨hc1,hc2,hc3⟩,hP⟩:=h.cells' (k:=i) hin
  subst hao
  obtain ⟨rneg,ra,rn,rc,rb,rm,rd⟩:=r
  simp only at hc1 hc2 hc3
  have HP:=Hi hP
  clear hP h hlen
  go_enter Tryz.func121,Tryz.ntmps121
  go_wp2_with fail
  refine nm_alloc (F:=fun W=>Calls _ _ _ W _) ?_
  intro w1 hE hB0 hz
  have hz_w1:=nle hz
  have hr_w1:=nle hz.symm
  clear hz
  replace HX:=hE.tr HX
  replace HP:=Hi (HP.out.ext hE)
  have hs_w1:=hE.size
  clear hE
  have B4:=Hi hB0
  clear hB0
  obtain ⟨c_B4,f_B4,l_B4⟩:=blk3 B4.out
  change Calls _ _ _ _ _
  refine Calls.mono (rtrim3_any ⟨rneg,ra,rn,rc,rb,rm,rd⟩ (qs.getD i 0) _ HP.out) ?_
  rintro e w2 ⟨x2,rfl,hE,g2⟩
  have G2:=Hi g2
  clear g2
  replace HX:=hE.tr HX
  replace HP:=Hi (HP.out.ext hE)
  replace B4:=hE.bl B4
  have hs_w2:=hE.size
  clear hE
  try clear c_B4 f_B4 l_B4
  obtain ⟨c_B4,f_B4,l_B4⟩:=blk3 B4.out
  go_wp2
  have hF:=((((Fin.start (L:=w.heap.size) HX.out (noU_block B4.out rfl)).set (by omega) (i:=0) (v:=.bool x2.neg) rfl).set (by omega) (i:=1) (v:=.slice x2.a x2.n x2.c) rfl).set (by omega) (i:=2) (v:=.slice x2.b x2.m x2.d) rfl)
  exact bodyPost_ret (v:=x2.v) (by simp [results,Tryz.results121,go_sem,blk_cell B4.out]) rfl ⟨x2,rfl,hF.ext,G2.out.keep hF.keep⟩
 ·have HZ:Hid (qs.getD i 0 = ((0:Int):Rat)):=Hi (getD_over' (by omega))
  clear h hlen
  go_enter Tryz.func121,Tryz.ntmps121
  go_wp2_with fail
  refine nm_alloc (F:=fun W=>Calls _ _ _ W _) ?_
  intro w1 hE hB0 hz
  have hz_w1:=nle hz
  have hr_w1:=nle hz.symm
  clear hz
  replace HX:=hE.tr HX
  have hs_w1:=hE.size
  clear hE
  have B4:=Hi hB0
  clear hB0
  obtain ⟨c_B4,f_B4,l_B4⟩:=blk3 B4.out
  change Calls _ _ _ _ _
  refine Calls.mono (rof3_any 0 _ (by decide) (by decide)) ?_
  rintro e w2 ⟨x2,rfl,hE,g2⟩
  have G2:=Hi g2
  clear g2
  replace HX:=hE.tr HX
  replace B4:=hE.bl B4
  have hs_w2:=hE.size
  clear hE
  try clear c_B4 f_B4 l_B4
  obtain ⟨c_B4,f_B4,l_B4⟩:=blk3 B4.out
  go_wp2
  have hF:=((((Fin.start (L:=w.heap.size) HX.out (noU_block B4.out rfl)).set (by omega) (i:=0) (v:=.bool x2.neg) rfl).set (by omega) (i:=1) (v:=.slice x2.a x2.n x2.c) rfl).set (by omega) (i:=2) (v:=.slice x2.b x2.m x2.d) rfl)
  exact bodyPost_ret (v:=x2.v) (by simp [results,Tryz.results121,go_sem,blk_cell B4.out]) rfl ⟨x2,rfl,hF.ext,(by rw [HZ.out]; exact G2.out.keep hF.keep)⟩
def polyQ (xs:List Int) (d:Nat):List Rat:=tz ((xs.take (d + 1)).map ratQ)
theorem rat_all:∀ a:Nat,a < 25→∀ b:Nat,b < 8→((((a:Int) - 12:Int):Rat) / ((1 + (b:Int):Int):Rat)).num.natAbs < W32∧((((a:Int) - 12:Int):Rat) / ((1 + (b:Int):Int):Rat)).den < W32:=by decide +kernel
theorem ratQ_sz (n:Int):Sz 1 (ratQ n):=by
 have h1:=Int.emod_nonneg n (show (25:Int) ≠ 0 by decide)
 have h2:=Int.emod_lt_of_pos n (show (0:Int) < 25 by decide)
 have h3:=Int.emod_nonneg (n.tdiv 25) (show (8:Int) ≠ 0 by decide)
 have h4:=Int.emod_lt_of_pos (n.tdiv 25) (show (0:Int) < 8 by decide)
 have h:=rat_all (n % 25).toNat (by omega) (n.tdiv 25 % 8).toNat (by omega)
 rw [show (((n % 25).toNat:Nat):Int) = n % 25 by omega,show (((n.tdiv 25 % 8).toNat:Nat):Int) = n.tdiv 25 % 8 by omega] at h
 exact ⟨by rw [Nat.pow_one]; exact h.1,by rw [Nat.pow_one]; exact h.2⟩
theorem rats_sz (xs:List Int):SzL 1 (xs.map ratQ):=by
 intro q hq
 obtain ⟨n,-,rfl⟩:=List.mem_map.1 hq
 exact ratQ_sz n
theorem poly_any (ao:Option Addr) (cap d:Nat) (xs:List Int) (w:World) (h:IntsAt w ao xs) (hr:InR xs) (hl:xs.length≤9223372036854775807) (hd:d≤1000) (hc:xs.length≤cap) (hcm:cap≤9223372036854775807) :
  Does 15 [.slice ao xs.length cap,.int .i64 (d:Nat)] w SH.v (fun s w'=>NewL w.heap.size w' s (polyQ xs d)):=by
 have HX:=Hi (Ext.refl w)
 unfold Does
 by_cases hgt:d + 1 < xs.length
 ·have hz:(xs.take (d + 1)).length = d + 1:=by rw [List.length_take]; omega
  have hcl:=rats_any ao cap (xs.take (d + 1)) w (IntsAt.take h _) (hr.take _) (by omega) (by omega) hcm
  rw [hz] at hcl
  have HC:=Hi hcl
  have Hz:=Hi hz
  obtain ⟨n,hn⟩:∃ n,n = xs.length:=⟨_,rfl⟩
  rw [← hn] at hl hc hgt ⊢
  clear h hr hn hcl hz
  go_enter Tryz.func15,Tryz.ntmps15
  go_wp2_with fail
  refine Calls.mono (HC.out) ?_
  rintro e w1 ⟨x1,rfl,hE,g1⟩
  have G1:=Hi g1
  clear g1
  replace HX:=hE.tr HX
  have hs_w1:=hE.size
  clear hE
  obtain ⟨ra,rn,rc⟩:=x1
  simp only [SH.v]
  have hrn:d + 1 = rn:=by have:=G1.out.len; rw [List.length_map,Hz.out] at this; exact this
  subst hrn
  go_wp2_with fail
  refine Calls.mono (trim5_any ra (d + 1) rc _ _ (G1.out.can.raw (rats_sz _) (by decide)) (by omega)) ?_
  rintro e w2 ⟨x2,rfl,hE,g2⟩
  have G2:=Hi g2
  clear g2
  replace HX:=hE.tr HX
  have hs_w2:=hE.size
  clear hE
  go_wp2
  go_ret
  exact ⟨x2,rfl,HX.out,G2.out.mono hs_w1⟩
 ·have hcl:=rats_any ao cap xs w h hr (by omega) hc hcm
  have HC:=Hi hcl
  have HT:Hid (xs.take (d + 1) = xs):=Hi (List.take_of_length_le (by omega))
  obtain ⟨n,hn⟩:∃ n,n = xs.length:=⟨_,rfl⟩
  have Hn:=Hi hn
  rw [← hn] at hl hc hgt HC ⊢
  clear h hr hn hcl
  go_enter Tryz.func15,Tryz.ntmps15
  go_wp2_with fail
  refine Calls.mono (HC.out) ?_
  rintro e w1 ⟨x1,rfl,hE,g1⟩
  have G1:=Hi g1
  clear g1
  replace HX:=hE.tr HX
  have hs_w1:=hE.size
  clear hE
  obtain ⟨ra,rn,rc⟩:=x1
  simp only [SH.v]
  have hrn:n = rn:=by have:=G1.out.len; rw [List.length_map,← Hn.out] at this; exact this
  subst hrn
  go_wp2_with fail
  refine Calls.mono (trim5_any ra n rc _ _ (G1.out.can.raw (rats_sz _) (by decide)) (by omega)) ?_
  rintro e w2 ⟨x2,rfl,hE,g2⟩
  have G2:=Hi g2
  clear g2
  replace HX:=hE.tr HX
  have hs_w2:=hE.size
  clear hE
  go_wp2
  go_ret
  exact ⟨x2,rfl,HX.out,by unfold polyQ; rw [HT.out]; exact G2.out.mono hs_w1⟩
theorem range_snoc' (g:Nat→Rat) (j:Nat):(List.range (j + 1)).map g = (List.range j).map g ++ [g j]:=by rw [List.range_succ,List.map_append]; rfl
def add5V (ps qs:List Rat):List Rat:=tz ((List.range (max ps.length qs.length)).map (fun i=>ps.getD i 0 + qs.getD i 0))
def OutB (w:World) (L:Nat) (os:List Rat) (b:Nat):Prop:=∃ rs,RBk w L rs #[]∧Vals RawR w rs os∧SzL b os
theorem OutB.ext {w w':World} {L b:Nat} {os:List Rat} (h:OutB w L os b) (he:Ext w w'):OutB w' L os b:=let ⟨rs,h1,h2,h3⟩:=h; ⟨rs,h1.ext he,h2.raw_ext he,h3⟩
theorem OutB.cells {w:World} {L b:Nat} {os:List Rat} (h:OutB w L os b) {k:Nat} (hk:k < os.length):∃ r,RAt w L (k * 3) r∧RawR w r (os.getD k 0):=by
 obtain ⟨rs,h1,h2,h3⟩:=h
 exact ⟨_,h1.at (by rw [h2.1]; exact hk),h2.2 k hk⟩
theorem Vals.rawkeep {w w':World} {rs:List RH} {qs:List Rat} (h:Vals RawR w rs qs) (he:Keep w w'):Vals RawR w' rs qs:=⟨h.1,fun k hk=>(h.2 k hk).keep he⟩
theorem Vals.set {P:World→RH→Rat→Prop} {w:World} {rs:List RH} {qs:List Rat} (h:Vals P w rs qs) {r:RH} {q:Rat} (hr:P w r q) (k:Nat):Vals P w (rs.set k r) (qs.set k q):=by
 refine ⟨by simp [h.1],fun j hj=>?_⟩
 simp only [List.length_set] at hj
 by_cases hjk:k = j
 ·subst hjk
  rw [show (rs.set k r).getD k default = r by simp [show k < rs.length by rw [h.1]; exact hj],show (qs.set k q).getD k 0 = q by simp [hj]]
  exact hr
 ·rw [show (rs.set k r).getD j default = rs.getD j default by rw [List.getD_eq_getElem?_getD,List.getD_eq_getElem?_getD,List.getElem?_set_ne hjk],show (qs.set k q).getD j 0 = qs.getD j 0 by rw [List.getD_eq_getElem?_getD,List.getD_eq_getElem?_getD,List.getElem?_set_ne hjk]]
  exact h.2 j hj
def mul5V (ps qs:List Rat):List Rat:=tz ((List.range ((tz ps).length + (tz qs).length - 1)).map (Stab.ap (tz ps) (Stab.seq (tz qs))))
theorem ap_nil (n:Nat) (p:List Rat):Stab.ap p (Stab.seq []) n = 0:=by
 rw [Stab.ap_sum,Stab.sm_congr (g:=fun _=>0) (fun i _=>?_),Stab.sm_zero]
 have:Stab.shn i (Stab.seq []) n = 0:=by unfold Stab.shn Stab.seq; split <;> rfl
 rw [this]
 grind
theorem OutB.raw {w:World} {L b M:Nat} {os:List Rat} (h:OutB w L os b) (hl:os.length = M) (hM:M≤9223372036854775807):RawL w ⟨some ⟨L,0,none⟩,M,M⟩ os:=by
 obtain ⟨rs,h1,h2,h3⟩:=h
 exact ⟨rs,h1.rs (by rw [h2.1,hl]) (Nat.le_refl _) hM,h2⟩
end Go.Proofs.YtcbgamclcgcodaaGreat
namespace Go.Proofs.YtcbgamclcgcodaaGreat
open Go.RowKit Go.Front Go.Num
theorem ap_over {p q:List Rat} {n:Nat} (h:p.length + q.length≤n + 1):Stab.ap p (Stab.seq q) n = 0:=by
 rw [Stab.ap_sum,Stab.sm_congr (g:=fun _=>0) (fun i hi=>?_),Stab.sm_zero]
 have:Stab.shn i (Stab.seq q) n = 0:=by
  unfold Stab.shn Stab.seq
  split
  ·exact getD_over' (by omega)
  ·rfl
 rw [this]
 grind
theorem mul5_seq (ps qs:List Rat):Stab.seq (mul5V ps qs) = Stab.ap (tz ps) (Stab.seq (tz qs)):=by
 funext n
 unfold Stab.seq mul5V
 rw [tz_getD']
 rcases Nat.lt_or_ge n ((tz ps).length + (tz qs).length - 1) with h | h
 ·rw [List.getD_eq_getElem?_getD,List.getElem?_map,List.getElem?_range h]
  rfl
 ·rw [getD_over' (by simpa using h)]
  exact (ap_over (by omega)).symm
end Go.Proofs.YtcbgamclcgcodaaGreat
