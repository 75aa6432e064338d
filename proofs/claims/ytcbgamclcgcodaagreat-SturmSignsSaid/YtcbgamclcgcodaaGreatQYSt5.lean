/- The chain of remainders: plain facts for the walk of remainders. -/
import Derived.Test.YtcbgamclcgcodaaGreatQYM26
import Derived.Test.YtcbgamclcgcodaaGreatQYSg
set_option linter.unusedVariables false
namespace Go.Proofs.YtcbgamclcgcodaaGreat
open Go.RowKit Go.Front Go.Num Stab
theorem tz_map_nz {c:Rat} (hc:c ≠ 0) (l:List Rat):tz (l.map (· * c)) = (tz l).map (· * c):=by
 induction l using Stab.snoc_ind with
 | h0=>rfl
 | h1 l r ih =>
  by_cases hr:r = 0
  ·subst hr
   rw [List.map_append,List.map_cons,List.map_nil,Rat.zero_mul,tz_snoc0,tz_snoc0,ih]
  ·have h2:r * c ≠ 0:=fun h=>by
    rcases Rat.mul_eq_zero.1 h with h3 | h3
    ·exact hr h3
    ·exact hc h3
   rw [List.map_append,List.map_cons,List.map_nil,tz_snoc _ h2,tz_snoc _ hr,List.map_append,List.map_cons,List.map_nil]
theorem abs_mulp {c:Rat} (hc:0 < c) (a:Rat):(a * c).abs = a.abs * c:=by
 have hc2:=Rat.le_of_lt hc
 unfold Rat.abs
 by_cases h:0≤a
 ·rw [if_pos h,if_pos (Rat.mul_nonneg h hc2)]
 ·rw [if_neg h]
  have h1:0 < -a:=by grind
  have h2:=Rat.mul_pos h1 hc
  rw [if_neg (by grind)]
  grind
theorem div_mulp {c:Rat} (hc:c ≠ 0) (a:Rat) {b:Rat} (hb:b ≠ 0):a * c / (b * c) = a / b:=by
 have hbc:b * c ≠ 0:=fun h=>by rcases Rat.mul_eq_zero.1 h with h | h <;> contradiction
 have h1:=pd_div (a:=a * c) hbc
 have h2:=pd_div (a:=a) hb
 have h3:(a * c / (b * c) - a / b) * (b * c) = 0:=by grind
 rcases Rat.mul_eq_zero.1 h3 with h | h
 ·grind
 ·contradiction
theorem pcm_scale {c:Rat} (hc:0 < c) (a b:Rat):pcmV (a * c) (b * c) = pcmV a b * c:=by
 have hc0:c ≠ 0:=fun h=>by rw [h] at hc; exact absurd hc Rat.lt_irrefl
 have hz:∀ x:Rat,x * c = 0↔x = 0:=fun x=>⟨fun h=>(Rat.mul_eq_zero.1 h).resolve_right hc0,fun h=>by rw [h,Rat.zero_mul]⟩
 unfold pcmV
 by_cases ha:a = 0
 ·rw [if_pos ((hz a).2 ha),if_pos ha,abs_mulp hc]
 ·rw [if_neg (fun h=>ha ((hz a).1 h)),if_neg ha]
  by_cases hb:b = 0
  ·rw [if_pos ((hz b).2 hb),if_pos hb]
  ·rw [if_neg (fun h=>hb ((hz b).1 h)),if_neg hb,div_mulp hc0 a hb,← abs_mulp hc]
   congr 1
   rw [Rat.div_def,Rat.div_def]; grind
theorem meas_scale {c:Rat} (hc:0 < c) (l:List Rat):measV (l.map (· * c)) = measV l * c:=by
 induction l using snoc_ind with
 | h0=>show (0:Rat) = 0 * c; rw [Rat.zero_mul]
 | h1 l r ih =>
  rw [List.map_append,List.map_cons,List.map_nil,meas_snoc,meas_snoc,ih,pcm_scale hc]
theorem spl_scale {p q:List Rat} {c:Rat} (hc:0 < c) (h:∀ n,seq p n = seq q n * c):splL p = splL q:=by
 have hc0:c ≠ 0:=fun h=>by rw [h] at hc; exact absurd hc Rat.lt_irrefl
 have h1:tz p = (tz q).map (· * c):=by
  rw [← tz_map_nz hc0]
  exact pd_ext fun n=>by rw [seq_map]; exact h n
 by_cases h0:tz q = []
 ·unfold splL
  rw [h1,h0]
  rfl
 ·have hm:measV (tz q) ≠ 0:=splM_ne h0
  unfold splL splM
  rw [h1,meas_scale hc,List.map_map]
  refine List.map_congr_left fun x hx=>?_
  exact div_mulp hc0 x hm
theorem rem_plain {a b s r:List Rat} {f:Rat} (hb:tz b ≠ []) (hr:r.length < (tz b).length) (he:∀ n,f * seq a n = cv (seq s) (seq b) n + seq r n) (n:Nat):seq r n = f * seq (remV a b) n :=
 (div_same (p:=a) (q:=b) hb (s:=seq s) (r:=seq r) (F:=f) (N:=s.length) (Bd.seq s) (fun i hi=>by rw [Bd.seq r i (by omega)]) he).2 n
theorem next_plain {a b s r:List Rat} {f:Rat} (hb:tz b ≠ []) (hf:0 < f) (hr:r.length < (tz b).length) (he:∀ n,f * seq a n = cv (seq s) (seq b) n + seq r n):splL (r.map (· * -1)) = splL ((remV a b).map (· * -1)):=by
 refine spl_scale hf fun n=>?_
 rw [seq_map,seq_map,rem_plain hb hr he n]
 grind
def RmI (K:Nat) (a b:List Rat) (X:Nat):Prop:=tz a = a∧tz b = b∧(∀ x ∈ a,Wz X x)∧(∀ x ∈ b,Wz X x)∧1≤X∧(X + 1) * 3 ^ max a.length (b.length + 1)≤K∧(a = [] ∨ b.length < a.length)∧a.length≤100000∧b.length≤100000
theorem RmI.small {K:Nat} {a b:List Rat} {X:Nat} (h:RmI K a b X):X + 1≤K:=by
 have h1:=h.2.2.2.2.2.1
 have:X + 1≤(X + 1) * 3 ^ max a.length (b.length + 1):=Nat.le_mul_of_pos_right _ (Nat.pow_pos (by decide))
 omega
theorem RmI.size {K:Nat} {a b:List Rat} {X:Nat} (h:RmI K a b X) (hb:b ≠ []):X + (a.length + 1 - b.length) * (X + 1)≤K:=gcd_size2 h.2.2.2.2.2.1 (List.length_pos_iff.2 hb)
theorem RmI.next {K:Nat} {a b s r:List Rat} {f:Rat} {X:Nat} (h:RmI K a b X) (hb:b ≠ []) (hf:0 < f) (hd:DvP a b X X s r f):splL (r.map (· * -1)) = splL ((remV a b).map (· * -1))∧RmI K b (splL (r.map (· * -1))) (X + (a.length + 1 - b.length) * (X + 1)):=by
 obtain ⟨h1,h2,h3,h4,h5,h6,h7,h8,h9⟩:=h
 obtain ⟨d0,d1,d2,d3,d4,d5,d6,d7⟩:=hd
 have hm:tz (r.map (· * -1)) = r.map (· * -1):=by rw [tz_map_nz (by decide),d4]
 have hl:(splL (r.map (· * -1))).length = r.length:=by rw [spl_len,hm,List.length_map]
 refine ⟨next_plain (by rw [h2]; exact hb) hf (by rw [h2]; exact d5) d7,h2,spl_tz _,fun x hx=>(h4 x hx).mono (by omega),?_,by omega,?_,Or.inr (by omega),h9,by omega⟩
 ·refine spl_wz (D:=1) (fun x hx=>?_) (by decide)
  rw [hm] at hx
  obtain ⟨y,hy,rfl⟩:=List.mem_map.1 hx
  have hw:=(d3 y hy).neg
  rw [show y * -1 = -y by grind]
  exact Fr.one hw
 ·rw [hl]
  exact gcd_size h6 (by omega)
end Go.Proofs.YtcbgamclcgcodaaGreat
