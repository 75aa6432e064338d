/- MaskWider is proved: for every input the law returns true, and each argument reads afterwards as it read before. Conditions: none. -/
import Derived.Test.YtkcpmclnocmalaaGreatQMK21
import Derived.Test.YtkcpmclnocmalaaGreatQMJfA
import Derived.Test.YtkcpmclnocmalaaGreatQMJfB
import Derived.Test.YtkcpmclnocmalaaGreatQMJfC
import Derived.Test.YtkcpmclnocmalaaGreatQMJfD
set_option linter.unusedVariables false
set_option maxRecDepth 100000
namespace Go.Proofs.YtkcpmclnocmalaaGreat.maskWider
open Go.ChangeShapes Go.WideShapes Go.ChangeAt Go.RowKit Go.Front Go.Joins
theorem lifted(os:Os)(started:os.Started)(H:Type)(enc:TypeId×Value→H) :
  ReturnsInHanded {} Tryz.checked os 4 .any (Rows.maskWiderSpec.pre6 enc Tryz.prog Tryz.f4 Rows.maskWiderRow.domain false) (Rows.maskWiderSpec.post enc Tryz.prog Tryz.f4 false true false false):=by
 refine returnsInHanded_of_change (C:=Tryz.checked) own started kZ Tryz.func4
  (ChangeSpec.witness6 (enc:=enc) (C:=Tryz.checked) false ⟨#[],#[.slice none 0 0,.slice none 0 0,.slice none 0 0,.int .u8 0],[]⟩ 8 kZ kZ kZ kZ) ?_
 intro W base args ds gs before hval0 hW hcnd _;have hval:∀ (j:Nat) t v,Tryz.f4.params[j]?=some t→args[j]?=some v→Value.okWide Tryz.prog W .any base t v:=hval0;have hW':=hW;obtain ⟨p,q,hA0,hV,rfl,hfz,hnd⟩:=hW;have hA:DataW.TrodAll enc Tryz.prog W 0 (fun _=>true) true Tryz.f4.params.toList args.toList ds p:=hA0;rw [Tryz.params4] at hA hval;obtain ⟨v0,vs0,d0,ds0,p0,q0,hargs,rfl,rfl,h0,r0⟩:=trodAll_cons hA;obtain ⟨v1,vs1,d1,ds1,p1,q1,rfl,rfl,rfl,h1,r1⟩:=trodAll_cons r0;obtain ⟨v2,vs2,d2,ds2,p2,q2,rfl,rfl,rfl,h2,r2⟩:=trodAll_cons r1;obtain ⟨v3,vs3,d3,ds3,p3,q3,rfl,rfl,rfl,h3,r3⟩:=trodAll_cons r2;obtain ⟨rfl,rfl,rfl⟩:=trodAll_nil r3;obtain rfl:args=#[v0,v1,v2,v3]:=by cases args;simp_all
 obtain ⟨rfl,rfl⟩:=trodVars_none hV;have k0:=h0;have lt0:∀ x ∈ p0,x.block<W.heap.size:=by obtain ⟨m,hm⟩:=k0;exact DataW.trod_lt m _ _ _ hm
 have k1:=h1;have lt1:∀ x ∈ p1,x.block<W.heap.size:=by obtain ⟨m,hm⟩:=k1;exact DataW.trod_lt m _ _ _ hm
 have k2:=h2;have lt2:∀ x ∈ p2,x.block<W.heap.size:=by obtain ⟨m,hm⟩:=k2;exact DataW.trod_lt m _ _ _ hm
 have k3:=h3;have lt3:∀ x ∈ p3,x.block<W.heap.size:=by obtain ⟨m,hm⟩:=k3;exact DataW.trod_lt m _ _ _ hm
 obtain ⟨a0,len0,cap0,rfl⟩:=okWide_slice Tryz.underlying22 (hval 0 22 v0 rfl rfl);obtain ⟨xs0,hI0,hR0,rfl,hl0,hc0,hm0⟩:=mQ h0;obtain ⟨a1,len1,cap1,rfl⟩:=okWide_slice Tryz.underlying22 (hval 1 22 v1 rfl rfl);obtain ⟨xs1,hI1,hR1,rfl,hl1,hc1,hm1⟩:=mQ h1;obtain ⟨a2,len2,cap2,rfl⟩:=okWide_slice Tryz.underlying22 (hval 2 22 v2 rfl rfl);obtain ⟨xs2,hI2,hR2,rfl,hl2,hc2,hm2⟩:=mQ h2;obtain ⟨z3,rfl,rfl,rfl,w3⟩:=open_int Tryz.underlying5 (hval 3 5 v3 rfl rfl) h3;have hk3:=xA w3;clear hA0 hval0;refine (tF a0 a1 a2 cap0 cap1 cap2 xs0 xs1 xs2 z3 W hI0 hR0 hl0 hc0 hm0 hI1 hR1 hl1 hc1 hm1 hI2 hR2 hl2 hc2 hm2 hk3).mono fun e W' hpost=>?_
 obtain ⟨_,he,bel,-⟩:=hpost;subst he;exact ⟨_,rfl,_,_,_,[],_,[],hW',trodAll_mk1 (shut_bool Tryz.underlying4 _),(trodAll_cons_mk (Below.trod nb kZ (of_decide_eq_true kZ) k0 bel lt0) (trodAll_cons_mk (Below.trod nb kZ (of_decide_eq_true kZ) k1 bel lt1) (trodAll_cons_mk (Below.trod nb kZ (of_decide_eq_true kZ) k2 bel lt2) (trodAll_cons_mk (Below.trod nb kZ (of_decide_eq_true kZ) k3 bel lt3) trodAll_mk0)))),rfl,Below.frame bel _,fun h=>by cases h⟩

theorem jf9:(Rows.maskWiderRow.inPlace == Tryz.pinned.checked.prog.inPlace 4)=true:=by kernel_rfl
theorem FV:(Rows.maskWiderRow.unfollowed == Tryz.pinned.checked.prog.unfollowed 4)=true:=by kernel_rfl
theorem FU:(Rows.maskWiderRow.recurses == Tryz.pinned.checked.prog.recurses 4)=true:=by kernel_rfl
theorem FT:(Rows.maskWiderRow.named == Tryz.pinned.checked.prog.varsNamed 4)=true:=by kernel_rfl
theorem fct:joinedFacts Tryz.pinned.checked.prog 4 Tryz.f4 Rows.maskWiderSpec Rows.maskWiderRow=true:=by
 unfold joinedFacts;refine iK (iK (iK (iK (iK (iK (iK (iK (iK (iK (iK (iK (iK (iK (iK (iK (iK (iK (iK (iK (iK (iK (iK (iK (iK (iK (iK (iK (iK (iK (iK (?_) ?_) ?_) ?_) ?_) ?_) ?_) ?_) ?_) ?_) ?_) ?_) ?_) ?_) ?_) ?_) ?_) ?_) ?_) ?_) ?_) ?_) ?_) ?_) ?_) ?_) ?_) ?_) ?_) ?_) ?_) ?_
 ·kernel_rfl
 ·exact Bs
 ·exact Bp
 ·kernel_rfl
 ·kernel_rfl
 ·kernel_rfl
 ·kernel_rfl
 ·kernel_rfl
 ·kernel_rfl
 ·exact jf9
 ·exact FV
 ·exact FU
 ·exact FT
 ·kernel_rfl
 ·kernel_rfl
 ·kernel_rfl
 ·kernel_rfl
 ·kernel_rfl
 ·kernel_rfl
 ·kernel_rfl
 ·kernel_rfl
 ·kernel_rfl
 ·kernel_rfl
 ·kernel_rfl
 ·exact yp
 ·exact Dk
 ·rw [Br];kernel_rfl
 ·rw [Bq];kernel_rfl
 ·kernel_rfl
 ·kernel_rfl
 ·kernel_rfl
 ·kernel_rfl
theorem over:Rows.maskWiderRow.holds Tryz.pinned (OpenSpec.ofChange Rows.maskWiderSpec) :=
 OpenClaim.holds_of_wide 4 Tryz.f4 rfl rfl rfl rfl rfl rfl rfl ⟨rfl,rfl,rfl,rfl,rfl⟩ rfl rfl rfl rfl rfl kZ Tryz.func4 fct
  (of_decide_eq_true kZ) (by unfold Func.isWrapper;first|(rw [if_pos (by decide +kernel)];kernel_rfl)|(rw [if_neg (by decide +kernel)];exact ⟨rfl,rfl⟩))
  (fun os started H enc _=>lifted os started H enc)

theorem proved:Rows.MaskWiderSaid:=over
end Go.Proofs.YtkcpmclnocmalaaGreat.maskWider
