/- What Rooted makes. Plain facts. -/
import Derived.Test.YtcbgamclcgcodaaGreatQVNc
import Derived.Test.YtcbgamclcgcodaaGreatQVR5b
import Derived.Test.YtcbgamclcgcodaaGreatQVNg
set_option linter.unusedVariables false
namespace Go.Proofs.YtcbgamclcgcodaaGreat
open Go.RowKit Go.Front Go.Num Stab Sg
structure RoF (p rl:List Rat) (b:Option Rat):Prop where
 c:∃ c:Int,c ≠ 0∧c.natAbs≤3∧∀ x,evV p x = (c:Rat) * (Pd rl x * Qd b x)
 sx:Sx b
 tw:∀ a ∈ rl,Tw a
 tz:tz p = p
structure RoD (ds rl:List Rat):Prop where
 nd:ds.Nodup
 mem:∀ x,x ∈ ds↔x ∈ rl
theorem int_ne {c:Int} (h:c ≠ 0):(c:Rat) ≠ 0:=fun h0=>h (Rat.intCast_eq_zero_iff.1 h0)
theorem RoF.fac {p rl:List Rat} {b:Option Rat} (h:RoF p rl b):Fac p rl b:=let ⟨c,h1,_,h3⟩:=h.c; ⟨c,int_ne h1,h3⟩
theorem RoF.ne {p rl:List Rat} {b:Option Rat} (h:RoF p rl b):Go.Proofs.YtcbgamclcgcodaaGreat.tz p ≠ []:=h.fac.ne h.sx.pos
theorem RoF.fr {p rl:List Rat} {b:Option Rat} (h:RoF p rl b) (hl:rl.length≤9):FrL 2 (16 * 12 ^ rl.length) p:=let ⟨c,_,h2,h3⟩:=h.c; fac_fr h.sx h.tw hl h2 h3
theorem RoF.len {p rl:List Rat} {b:Option Rat} (h:RoF p rl b):p.length = rl.length + dg b + 1:=by
 have h1:=(fac_len h.sx h.tw h.fac).1
 rw [h.tz] at h1
 exact h1
theorem dg_le (b:Option Rat):dg b≤2:=by
 cases b with
 | none=>exact Nat.zero_le _
 | some _=>exact Nat.le_refl _
theorem RoF.sz {p rl:List Rat} {b:Option Rat} (h:RoF p rl b) (hl:rl.length≤9):SzL 2 p:=(h.fr hl).sz (by decide) (Nat.mul_pos (by decide) (Nat.pow_pos (by decide))) (pow12 hl)
theorem frk_of {p:List Rat} {n:Nat} (hn:n≤9) (h:FrL 2 (16 * 12 ^ n) p) (hl:p.length≤12):FrK 2125764 p :=
 ⟨2,16 * 12 ^ n,by decide,Nat.mul_pos (by decide) (Nat.pow_pos (by decide)),pow12 hn,h,Nat.le_trans (Nat.mul_le_mul_left _ (Nat.pow_le_pow_right (by decide) hl)) (by decide)⟩
theorem mon_frk {p q rl:List Rat} {b:Option Rat} (h:Fac p rl b) (hb:Sx b) (ha:∀ a ∈ rl,Tw a) (hl:rl.length≤9) (hd:Dv (evV (monV q)) (evV p)):FrK 2125764 (monV q)∧∃ rl' b',rl'.Sublist rl∧Sx b'∧Fac (monV q) rl' b':=by
 obtain ⟨⟨n,hn,h1⟩,rl',b',h2,h3,h4⟩:=mon_fr h hb ha hl hd
 have h5:=(fac_len h3 (fun a k=>ha a (h2.subset k)) h4).1
 rw [monV_tz] at h5
 have:=dg_le b'
 have:=h2.length_le
 exact ⟨frk_of (by omega) h1 (by omega),rl',b',h2,h3,h4⟩
theorem fac_sqf {p rl:List Rat} {b:Option Rat} (h:Fac p rl b) (hb:Sx b) (ha:∀ a ∈ rl,Tw a) (hl:rl.length≤9):FrK 2125764 (sqfV p):=(mon_frk h hb ha hl (sqf_rt (h.ne hb.pos)).dvp).1
theorem okc_fac:∀ (n:Nat) (p rl:List Rat) (b:Option Rat),Fac p rl b→Sx b→(∀ a ∈ rl,Tw a)→rl.length≤9→FrK 2125764 p→OkC 2125764 n p:=by
 intro n
 induction n with
 | zero=>intro p rl b _ _ _ _ _; trivial
 | succ n ih =>
  intro p rl b h hb ha hl hk
  have h1:=mon_frk (q:=gcdV p (derL p)) h hb ha hl (by rw [gcdV_mon]; exact gcd_dv p)
  rw [gcdV_mon] at h1
  obtain ⟨h2,rl',b',h3,h4,h5⟩:=h1
  exact ⟨hk,fac_sqf h hb ha hl,ih _ rl' b' h5 h4 (fun a k=>ha a (h3.subset k)) (Nat.le_trans h3.length_le hl) h2⟩
theorem RoF.neg {p rl:List Rat} {b:Option Rat} (h:RoF p rl b):RoF (scale5V p ((-1:Int):Rat)) rl b:=by
 obtain ⟨c,h1,h2,h3⟩:=h.c
 refine ⟨⟨-c,by omega,by omega,fun x=>?_⟩,h.sx,h.tw,tz_idem _⟩
 have e:evV (scale5V p ((-1:Int):Rat)) x = ((-1:Int):Rat) * evV p x:=ev_seq (fun i=>by
  unfold scale5V
  rw [seq_tz,seq_map]; grind) x
 rw [e,h3 x,Rat.intCast_neg,Rat.intCast_neg]
 grind
def RooP (p ds:List Rat):Prop:=∃ rl b,RoF p rl b∧RoD ds rl∧rl.length≤9
theorem RooP.sz {p ds:List Rat} (h:RooP p ds):SzL 2 p:=by
 obtain ⟨rl,b,h1,-,hl⟩:=h
 exact h1.sz hl
theorem RoD.nil:RoD [] []:=⟨List.nodup_nil,fun x=>Iff.rfl⟩
end Go.Proofs.YtcbgamclcgcodaaGreat
