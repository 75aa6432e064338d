/- ChebyshevMagnitudes is proved: for every input the law returns true, and each argument reads afterwards as it read before. Conditions: none. -/
import Derived.Test.YtafgmcimcbhhjaaGreatQZK13
import Derived.Test.YtafgmcimcbhhjaaGreatQZJfA
import Derived.Test.YtafgmcimcbhhjaaGreatQZJfB
import Derived.Test.YtafgmcimcbhhjaaGreatQZJfC
import Derived.Test.YtafgmcimcbhhjaaGreatQZJfD
set_option linter.unusedVariables false
set_option maxRecDepth 100000
namespace Go.Proofs.YtafgmcimcbhhjaaGreat.chebyshevMagnitudes
open Go.ChangeShapes Go.WideShapes Go.ChangeAt Go.RowKit Go.Front Go.Joins
theorem lifted(os:Os)(started:os.Started)(H:Type)(enc:TypeId×Value→H) :
  ReturnsInHanded {} Tryz.checked os 3 .any (Rows.chebyshevMagnitudesSpec.pre6 enc Tryz.prog Tryz.f3 Rows.chebyshevMagnitudesRow.domain false) (Rows.chebyshevMagnitudesSpec.post enc Tryz.prog Tryz.f3 false true false false):=by
 refine returnsInHanded_of_change (C:=Tryz.checked) own started (by kernel_rfl) Tryz.func3
  (ChangeSpec.witness6 (enc:=enc) (C:=Tryz.checked) false ⟨#[],#[.slice none 0 0,.slice none 0 0],[]⟩ 8 (by kernel_rfl) (by kernel_rfl) (by kernel_rfl) (by kernel_rfl)) ?_
 intro W base args ds gs before hval0 hW hcnd _;have hval:∀ (j:Nat) t v,Tryz.f3.params[j]?=some t→args[j]?=some v→Value.okWide Tryz.prog W .any base t v:=hval0;have hW':=hW;obtain ⟨p,q,hA0,hV,rfl,hfz,hnd⟩:=hW;have hA:DataW.TrodAll enc Tryz.prog W 0 (fun _=>true) true Tryz.f3.params.toList args.toList ds p:=hA0;rw [Tryz.params3] at hA hval;obtain ⟨v0,vs0,d0,ds0,p0,q0,hargs,rfl,rfl,h0,r0⟩:=trodAll_cons hA;obtain ⟨v1,vs1,d1,ds1,p1,q1,rfl,rfl,rfl,h1,r1⟩:=trodAll_cons r0;obtain ⟨rfl,rfl,rfl⟩:=trodAll_nil r1;obtain rfl:args=#[v0,v1]:=by cases args;simp_all
 obtain ⟨rfl,rfl⟩:=trodVars_none hV;have k0:=h0;have lt0:∀ x ∈ p0,x.block<W.heap.size:=by obtain ⟨m,hm⟩:=k0;exact DataW.trod_lt m _ _ _ hm
 have k1:=h1;have lt1:∀ x ∈ p1,x.block<W.heap.size:=by obtain ⟨m,hm⟩:=k1;exact DataW.trod_lt m _ _ _ hm
 obtain ⟨a0,len0,cap0,rfl⟩:=okWide_slice Tryz.underlying22 (hval 0 22 v0 rfl rfl);obtain ⟨xs0,hI0,hR0,rfl,hl0,hc0,hm0⟩:=ox h0;obtain ⟨a1,len1,cap1,rfl⟩:=okWide_slice Tryz.underlying22 (hval 1 22 v1 rfl rfl);obtain ⟨xs1,hI1,hR1,rfl,hl1,hc1,hm1⟩:=ox h1;clear hA0 hval0;refine (jT a0 a1 cap0 cap1 xs0 xs1 W hI0 hR0 hl0 hc0 hm0 hI1 hR1 hl1 hc1 hm1).mono fun e W' hpost=>?_
 obtain ⟨_,he,bel,-⟩:=hpost;subst he;exact ⟨_,rfl,_,_,_,[],_,[],hW',trodAll_mk1 (shut_bool Tryz.underlying4 _),(trodAll_cons_mk (Below.trod rU (by kernel_rfl) (of_decide_eq_true (by kernel_rfl)) k0 bel lt0) (trodAll_cons_mk (Below.trod rU (by kernel_rfl) (of_decide_eq_true (by kernel_rfl)) k1 bel lt1) trodAll_mk0)),rfl,Below.frame bel _,fun h=>by cases h⟩

theorem jf9:(Rows.chebyshevMagnitudesRow.inPlace == Tryz.pinned.checked.prog.inPlace 3)=true:=by kernel_rfl
theorem AU:(Rows.chebyshevMagnitudesRow.unfollowed == Tryz.pinned.checked.prog.unfollowed 3)=true:=by kernel_rfl
theorem AT:(Rows.chebyshevMagnitudesRow.recurses == Tryz.pinned.checked.prog.recurses 3)=true:=by kernel_rfl
theorem AS:(Rows.chebyshevMagnitudesRow.named == Tryz.pinned.checked.prog.varsNamed 3)=true:=by kernel_rfl
theorem fct:joinedFacts Tryz.pinned.checked.prog 3 Tryz.f3 Rows.chebyshevMagnitudesSpec Rows.chebyshevMagnitudesRow=true:=by
 unfold joinedFacts;refine gb (gb (gb (gb (gb (gb (gb (gb (gb (gb (gb (gb (gb (gb (gb (gb (gb (gb (gb (gb (gb (gb (gb (gb (gb (gb (gb (gb (gb (gb (gb (?_) ?_) ?_) ?_) ?_) ?_) ?_) ?_) ?_) ?_) ?_) ?_) ?_) ?_) ?_) ?_) ?_) ?_) ?_) ?_) ?_) ?_) ?_) ?_) ?_) ?_) ?_) ?_) ?_) ?_) ?_) ?_
 ·kernel_rfl
 ·exact wR
 ·exact wO
 ·kernel_rfl
 ·kernel_rfl
 ·kernel_rfl
 ·kernel_rfl
 ·kernel_rfl
 ·kernel_rfl
 ·exact jf9
 ·exact AU
 ·exact AT
 ·exact AS
 ·kernel_rfl
 ·kernel_rfl
 ·kernel_rfl
 ·kernel_rfl
 ·kernel_rfl
 ·kernel_rfl
 ·kernel_rfl
 ·kernel_rfl
 ·kernel_rfl
 ·kernel_rfl
 ·kernel_rfl
 ·exact t6
 ·exact yT
 ·rw [wQ];kernel_rfl
 ·rw [wP];kernel_rfl
 ·kernel_rfl
 ·kernel_rfl
 ·kernel_rfl
 ·kernel_rfl
theorem over:Rows.chebyshevMagnitudesRow.holds Tryz.pinned (OpenSpec.ofChange Rows.chebyshevMagnitudesSpec) :=
 OpenClaim.holds_of_wide 3 Tryz.f3 rfl rfl rfl rfl rfl rfl rfl ⟨rfl,rfl,rfl,rfl,rfl⟩ rfl rfl rfl rfl rfl (by kernel_rfl) Tryz.func3 fct
  (of_decide_eq_true (by kernel_rfl)) (by unfold Func.isWrapper;first|(rw [if_pos (by decide +kernel)];kernel_rfl)|(rw [if_neg (by decide +kernel)];exact ⟨rfl,rfl⟩))
  (fun os started H enc _=>lifted os started H enc)

theorem proved:Rows.ChebyshevMagnitudesSaid:=over
end Go.Proofs.YtafgmcimcbhhjaaGreat.chebyshevMagnitudes
