/- What Rooted makes. Plain facts. -/
import Derived.Test.YtcbgamclcgcodaaGreatQYNc
import Derived.Test.YtcbgamclcgcodaaGreatQYR5b
import Derived.Test.YtcbgamclcgcodaaGreatQYNg
set_option linter.unusedVariables false
namespace Go.Proofs.YtcbgamclcgcodaaGreat
open Go.RowKit Go.Front Go.Num Stab Sg
structure RoF (p rl:List Rat) (b:Option Rat):Prop where
 c:∃ c:Int,c ≠ 0∧c.natAbs≤3∧∀ x,evV p x = (c:Rat) * (Pd rl x * Qd b x)
 sx:Sx b
 tw:∀ a ∈ rl,Tw a
 tz:tz p = p
structure RoD (ds rl:List Rat):Prop where
 nd:ds.Nodup
 mem:∀ x,x ∈ ds↔x ∈ rl
theorem int_ne {c:Int} (h:c ≠ 0):(c:Rat) ≠ 0:=fun h0=>h (Rat.intCast_eq_zero_iff.1 h0)
theorem RoF.fac {p rl:List Rat} {b:Option Rat} (h:RoF p rl b):Fac p rl b:=let ⟨c,h1,_,h3⟩:=h.c; ⟨c,int_ne h1,h3⟩
theorem RoF.ne {p rl:List Rat} {b:Option Rat} (h:RoF p rl b):Go.Proofs.YtcbgamclcgcodaaGreat.tz p ≠ []:=h.fac.ne h.sx.pos
theorem RoF.fr {p rl:List Rat} {b:Option Rat} (h:RoF p rl b) (hl:rl.length≤9):FrL 2 (16 * 12 ^ rl.length) p:=let ⟨c,_,h2,h3⟩:=h.c; fac_fr h.sx h.tw hl h2 h3
theorem RoF.len {p rl:List Rat} {b:Option Rat} (h:RoF p rl b):p.length = rl.length + dg b + 1:=by
 have h1:=(fac_len h.sx h.tw h.fac).1
 rw [h.tz] at h1
 exact h1
theorem dg_le (b:Option Rat):dg b≤2:=by
 cases b with
 | none=>exact Nat.zero_le _
 | some _=>exact Nat.le_refl _
theorem RoF.sz {p rl:List Rat} {b:Option Rat} (h:RoF p rl b) (hl:rl.length≤9):SzL 2 p:=(h.fr hl).sz (by decide) (Nat.mul_pos (by decide) (Nat.pow_pos (by decide))) (pow12 hl)
theorem frk_of {p:List Rat} {n:Nat} (hn:n≤9) (h:FrL 2 (16 * 12 ^ n) p) (hl:p.length≤12):FrK 2125764 p :=
 ⟨2,16 * 12 ^ n,by decide,Nat.mul_pos (by decide) (Nat.pow_pos (by decide)),pow12 hn,h,Nat.le_trans (Nat.mul_le_mul_left _ (Nat.pow_le_pow_right (by decide) hl)) (by decide)⟩
theorem mon_frk {p q rl:List Rat} {b:Option Rat} (h:Fac p rl b) (hb:Sx b) (ha:∀ a ∈ rl,Tw a) (hl:rl.length≤9) (hd:Dv (evV (monV q)) (evV p)):FrK 2125764 (monV q)∧∃ rl' b',rl'.Sublist rl∧Sx b'∧Fac (monV q) rl' b':=by
 obtain ⟨⟨n,hn,h1⟩,rl',b',h2,h3,h4⟩:=mon_fr h hb ha hl hd
 have h5:=(fac_len h3 (fun a k=>ha a (h2.subset k)) h4).1
 rw [monV_tz] at h5
 have:=dg_le b'
 have:=h2.length_le
 exact ⟨frk_of (by omega) h1 (by omega),rl',b',h2,h3,h4⟩
theorem fac_sqf {p rl:List Rat} {b:Option Rat} (h:Fac p rl b) (hb:Sx b) (ha:∀ a ∈ rl,Tw a) (hl:rl.length≤9):FrK 2125764 (sqfV p):=(mon_frk h hb ha hl (sqf_rt (h.ne hb.pos)).dvp).1
theorem okc_fac:∀ (n:Nat) (p rl:List Rat) (b:Option Rat),Fac p rl b→Sx b→(∀ a ∈ rl,Tw a)→rl.length≤9→FrK 2125764 p→OkC 2125764 n p:=by
 intro n
 induction n with
 | zero=>intro p rl b _ _ _ _ _; trivial
 | succ n ih =>
  intro p rl b h hb ha hl hk
  have h1:=mon_frk (q:=gcdV p (derL p)) h hb ha hl (by rw [gcdV_mon]; exact gcd_dv p)
  rw [gcdV_mon] at h1
  obtain ⟨h2,rl',b',h3,h4,h5⟩:=h1
  exact ⟨hk,fac_sqf h hb ha hl,ih _ rl' b' h5 h4 (fun a k=>ha a (h3.subset k)) (Nat.le_trans h3.length_le hl) h2⟩
theorem tz_one {q:Rat} (h:q ≠ 0):tz [q] = [q]:=by
 have h1:tz [q] ≠ []:=fun h0=>by
  have:=ev_tznil.1 h0 0
  rw [show evV [q] 0 = q by show 0 * 0 + q = q; grind] at this
  exact h this
 have h2:=tz_prefix [q]
 have h3:=tz_len_le [q]
 have h4:=List.length_pos_iff.2 h1
 simp only [List.length_cons,List.length_nil] at h3
 rw [h2,show (tz [q]).length = 1 by omega]
 rfl
theorem RoF.start {n:Int} (h:n ≠ 0) (h2:n.natAbs≤3):RoF [(n:Rat)] [] none :=
 ⟨⟨n,h,h2,fun x=>by show 0 * x + (n:Rat) = n * (1 * 1); grind⟩,fun c e=>by (cases e),fun a k=>by simp at k,tz_one (int_ne h)⟩
theorem RoF.neg {p rl:List Rat} {b:Option Rat} (h:RoF p rl b):RoF (scale5V p ((-1:Int):Rat)) rl b:=by
 obtain ⟨c,h1,h2,h3⟩:=h.c
 refine ⟨⟨-c,by omega,by omega,fun x=>?_⟩,h.sx,h.tw,tz_idem _⟩
 have e:evV (scale5V p ((-1:Int):Rat)) x = ((-1:Int):Rat) * evV p x:=ev_seq (fun i=>by
  unfold scale5V
  rw [seq_tz,seq_map]; grind) x
 rw [e,h3 x,Rat.intCast_neg,Rat.intCast_neg]
 grind
theorem RoF.step {p rl:List Rat} (h:RoF p rl none) {x:Rat} (hx:Tw x):RoF (mul5V p [-x,((1:Int):Rat)]) (x :: rl) none:=by
 obtain ⟨c,h1,h2,h3⟩:=h.c
 refine ⟨⟨c,h1,h2,fun y=>?_⟩,h.sx,fun a k=>?_,mul5_tz _ _⟩
 ·rw [ev_mul5,h3 y,show evV [-x,((1:Int):Rat)] y = y - x from lin_ev x y]
  show _ = (c:Rat) * ((y - x) * Pd rl y * Qd none y)
  grind
 ·rcases List.mem_cons.1 k with rfl | k
  ·exact hx
  ·exact h.tw a k
theorem RoF.quad {p rl:List Rat} (h:RoF p rl none) {e:Rat} (he:Sx (some e)):RoF (mul5V p [e,((0:Int):Rat),((1:Int):Rat)]) rl (some e):=by
 obtain ⟨c,h1,h2,h3⟩:=h.c
 refine ⟨⟨c,h1,h2,fun y=>?_⟩,he,h.tw,mul5_tz _ _⟩
 rw [ev_mul5,h3 y]
 show (c:Rat) * (Pd rl y * 1) * (((0 * y + ((1:Int):Rat)) * y + ((0:Int):Rat)) * y + e) = (c:Rat) * (Pd rl y * (y * y + e))
 have e1:((1:Int):Rat) = 1:=rfl
 have e0:((0:Int):Rat) = 0:=rfl
 rw [e1,e0]
 grind
def RooP (p ds:List Rat):Prop:=∃ rl b,RoF p rl b∧RoD ds rl∧rl.length≤9
theorem RooP.frk {p ds:List Rat} (h:RooP p ds):FrK 2125764 p∧FrK 2125764 (sqfV p)∧Go.Proofs.YtcbgamclcgcodaaGreat.tz p ≠ []∧p.length≤12:=by
 obtain ⟨rl,b,h1,-,hl⟩:=h
 have h2:=h1.len
 have:=dg_le b
 exact ⟨frk_of hl (h1.fr hl) (by omega),fac_sqf h1.fac h1.sx h1.tw hl,h1.ne,by omega⟩
theorem RooP.sz {p ds:List Rat} (h:RooP p ds):SzL 2 p:=by
 obtain ⟨rl,b,h1,-,hl⟩:=h
 exact h1.sz hl
theorem RoD.nil:RoD [] []:=⟨List.nodup_nil,fun x=>Iff.rfl⟩
theorem RoD.more {ds rl rl':List Rat} (h:RoD ds rl) {x:Rat} (hx:x ∉ ds) (h1:∀ y ∈ rl',y = x ∨ y ∈ rl) (h2:∀ y ∈ rl,y ∈ rl') (h3:x ∈ rl'):RoD (ds ++ [x]) rl':=by
 refine ⟨?_,fun y=>?_⟩
 ·rw [List.nodup_append]
  exact ⟨h.nd,by simp,fun a ha b hb=>by
   obtain rfl:b = x:=by simpa using hb
   intro e; exact hx (e ▸ ha)⟩
 ·rw [List.mem_append,List.mem_singleton,h.mem]
  constructor
  ·rintro (k | k)
   ·exact h2 y k
   ·rw [k]; exact h3
  ·intro k
   rcases h1 y k with k | k
   ·exact Or.inr k
   ·exact Or.inl k
theorem sx_all:∀ t:Nat,t < 4→0 < ((1 + (t:Int):Int):Rat) / ((16:Int):Rat)∧((1 + (t:Int):Int):Rat) / ((16:Int):Rat) * 16 = ((1 + (t:Int):Int):Rat)∧(((1 + (t:Int):Int):Rat) / ((16:Int):Rat)).num.natAbs < W32∧(((1 + (t:Int):Int):Rat) / ((16:Int):Rat)).den < W32:=by decide +kernel
theorem sx_of {t:Nat} (h:t < 4):Sx (some (((1 + (t:Int):Int):Rat) / ((16:Int):Rat))):=fun c e=>by
 cases e
 have h1:=sx_all t h
 exact ⟨h1.1,1 + (t:Int),h1.2.1,by omega⟩
end Go.Proofs.YtcbgamclcgcodaaGreat
