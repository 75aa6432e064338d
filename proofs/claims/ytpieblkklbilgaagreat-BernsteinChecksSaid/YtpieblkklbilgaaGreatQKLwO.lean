/- BernsteinProves returns true. -/
import Derived.Test.YtpieblkklbilgaaGreatQKBa
import Derived.Test.YtpieblkklbilgaaGreatQKOS
set_option linter.unusedVariables false
namespace Go.Proofs.YtpieblkklbilgaaGreat
open Go.RowKit Go.Front Go.Num Stab
attribute [local go_sem] XW.cell XW.frozen
theorem tps_app {x y:List Rat} (h:x.length % 2=0):tps (x ++ y)=tps x ++ tps y:=by unfold tps;rw [prs_app h,List.map_append]
theorem rcl_tps (d:Nat) {p:List Rat}:∀ {a b:Rat} {x:List Rat},a≤b→rcl d p a b=some x→tps x=prs x:=by
 have h0:∀ {a b:Rat},a≤b→tps [a,b]=prs [a,b]:=fun h=>by simp [tps,prs,lo_of h,hi_of h]
 induction d with
 | zero =>
  intro a b x hab h
  unfold rcl at h
  split at h
  ·cases h;exact h0 hab
  ·cases h
 | succ d ih =>
  intro a b x hab h
  obtain ⟨g1,g2⟩:=md_le hab
  unfold rcl at h
  split at h
  ·cases h;exact h0 hab
  ·rcases h1:rcl d p a (mdV a b) with _ | u
   ·rw [h1] at h;cases h
   ·rw [h1] at h
    rcases h2:rcl d p (mdV a b) b with _ | v
    ·rw [h2] at h;cases h
    ·rw [h2] at h
     cases h
     have e:=(rcl_ck d h1).1
     rw [tps_app e,prs_app e,ih g1 h1,ih g2 h2]
theorem rcl_all {p:List Rat} {a b:Rat} {x:List Rat} (ha:Dyd 0 a) (hb:Dyd 0 b) (hab:a≤b) (h:rcl 12 p a b=some x):ckE p a b (tps x)=0∧SzL 1 x∧x.length≤8192∧x ≠ []∧x.length % 2=0:=by
 obtain ⟨e1,e2,e3⟩:=rcl_ck 12 h
 have e4:=rcl_tps 12 hab h
 refine ⟨?_,fun y hy=>?_,by have:=rcl_len 12 h;omega,e2,e1⟩
 ·rw [e4]
  refine ck_yes (fun e=>?_) e3
  have hl:=prs_len x
  rw [e] at hl
  have:x.length ≠ 0:=fun h=>e2 (List.length_eq_zero_iff.1 h)
  simp only [List.length_nil] at hl
  omega
 ·obtain ⟨k,hk,hd⟩:=rcl_sz 12 rfl ha hb h y hy
  exact hd.sz hk
theorem PvP.ext {B:Nat} {w w':World} {x:((RH × RH) × SH) × Int} {a b:Rat} {r:Option (List Rat)} (h:PvP B w x a b r) (he:Ext w w'):PvP B w' x a b r:=by
 cases r with
 | none=>exact h
 | some qs=>exact ⟨h.1,h.2.1.ext he,h.2.2.ext he⟩
end Go.Proofs.YtpieblkklbilgaaGreat
