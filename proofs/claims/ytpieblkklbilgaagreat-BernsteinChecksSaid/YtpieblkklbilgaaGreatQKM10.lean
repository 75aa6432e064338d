/- Stb4, Stb5, Stb6, StbQ, Awk, Mk3 -/
import Derived.Test.YtpieblkklbilgaaGreatQKM9
import Derived.Test.YtpieblkklbilgaaGreatQKM8
set_option linter.unusedVariables false
namespace Go.Proofs.YtpieblkklbilgaaGreat
open Go.RowKit Go.Front Go.Num
attribute [local go_sem] XW.cell XW.frozen
def TCan (w:World) (ks:List RH) (g:Nat) (tl:List Rat):Prop:=∀ j,j < tl.length→CanR w (ks.getD (g+j) default) (tl.getD j 0)
theorem TCan.ext {w w':World} {ks:List RH} {g:Nat} {tl:List Rat} (h:TCan w ks g tl) (he:Ext w w'):TCan w' ks g tl:=fun j hj=>(h j hj).ext he
theorem TCan.keep {w w':World} {ks:List RH} {g:Nat} {tl:List Rat} (h:TCan w ks g tl) (he:Keep w w'):TCan w' ks g tl:=fun j hj=>(h j hj).keep he
theorem TCan.cons {w:World} {ks:List RH} {g:Nat} {tl:List Rat} (h:TCan w ks (g+1) tl) {x:RH} {v:Rat} (hx:CanR w x v) (hg:g < ks.length):TCan w (ks.set g x) g (v :: tl):=by
 intro j hj
 cases j with
 | zero=>simpa [hg] using hx
 | succ j =>
  have:=h j (by simpa using hj)
  rw [show (ks.set g x).getD (g+(j+1)) default=ks.getD (g+1+j) default by
   rw [List.getD_eq_getElem?_getD,List.getD_eq_getElem?_getD,List.getElem?_set_ne (by omega),show g+(j+1)=g+1+j by omega]]
  simpa using this
theorem LIn.cells {w:World} {ao:Option Addr} {n c:Nat} {qs:List Rat} {lo hi:Nat} (h:LIn w ⟨ao,n,c⟩ qs lo hi) {k:Nat} (hk:k < n):∃ b off r,ao=some ⟨b,off,none⟩∧b < w.heap.size∧RAt w b (off+k * 3) r∧CanR w r (qs.getD k 0):=by
 obtain ⟨b,off,r,h1,h2,h3⟩:=h.can.at hk
 exact ⟨b,off,r,h1,h2.lt,h2,h3⟩
theorem LIn.le {w:World} {s:SH} {qs:List Rat} {lo hi:Nat} (h:LIn w s qs lo hi):s.n≤s.c:=h.can.le
theorem LIn.max {w:World} {s:SH} {qs:List Rat} {lo hi:Nat} (h:LIn w s qs lo hi):s.c≤9223372036854775807:=h.can.max
theorem tz_snoc0 (l:List Rat):tz (l ++ [0])=tz l:=by simp [tz]
theorem tz_snoc (l:List Rat) {r:Rat} (h:r ≠ 0):tz (l ++ [r])=l ++ [r]:=by simp [tz,h]
theorem tz_prefix (l:List Rat):tz l=l.take (tz l).length:=by
 induction l using Stab.snoc_ind with
 | h0=>rfl
 | h1 l r ih =>
  by_cases h:r=0
  ·subst h
   rw [tz_snoc0,List.take_append_of_le_length (tz_len_le l)]
   exact ih
  ·rw [tz_snoc l h,List.take_length]
theorem tz_getD {l:List Rat} {i:Nat} (h:i < (tz l).length):(tz l).getD i 0=l.getD i 0:=by
 rw [tz_prefix l]
 simp [h]
theorem tz_out {l:List Rat} {i:Nat} (h:(tz l).length≤i):l.getD i 0=0:=by
 induction l using Stab.snoc_ind with
 | h0=>rfl
 | h1 l r ih =>
  by_cases hr:r=0
  ·subst hr
   rw [tz_snoc0] at h
   rw [Stab.snoc0_getD]
   exact ih h
  ·rw [tz_snoc l hr] at h
   rw [List.getD_eq_getElem?_getD,List.getElem?_eq_none h]
   rfl
theorem tz_getD' (l:List Rat) (i:Nat):(tz l).getD i 0=l.getD i 0:=by
 rcases Nat.lt_or_ge i (tz l).length with h | h
 ·exact tz_getD h
 ·rw [tz_out h,List.getD_eq_getElem?_getD,List.getElem?_eq_none h]
  rfl
theorem SzL.tz {k:Nat} {qs:List Rat} (h:SzL k qs):SzL k (tz qs):=by
 rw [tz_prefix]
 exact fun q hq=>h q (List.mem_of_mem_take hq)
def BuiltR (w:World) (p:Nat × RH) (q:Rat):Prop:=RBk w p.1 [p.2] #[]∧CanR w p.2 q
theorem BuiltR.ext {w w':World} {p:Nat × RH} {q:Rat} (h:BuiltR w p q) (he:Ext w w'):BuiltR w' p q:=⟨h.1.ext he,h.2.ext he⟩
theorem spec_build {P:Program} {o:Oper} {a:Act} {w:World} {T:TypeId} (x:RH) (q:Rat) (hx:CanR w x q) (hT:T=30)
  (hrun:(execOp a.eval o).run P w=.ok (.value (.slice (some ⟨w.heap.size,0,none⟩) 1 1)) (w.alloc (.cells #[.bool x.neg,.slice x.a x.n x.c,.slice x.b x.m x.d] T))) :
  specAt P o a w (fun p:Nat × RH=>.slice (some ⟨p.1,0,none⟩) 1 1) (fun p w'=>BuiltR w' p q):=by
 subst hT
 unfold specAt
 rw [hrun]
 exact ⟨Ext.alloc _ _,(w.heap.size,x),rfl,rbk_one (heap_alloc_new _ _) rfl,hx.ext (Ext.alloc _ _)⟩
def BF (x:Bool × Int):Value:=.tuple #[.bool x.1,.int .i64 x.2]
theorem Sz.one:Sz 1 1:=Sz.int (z:=1) (by decide)
theorem Sz.pow {k:Nat} {q:Rat} (h:Sz k q) (i:Nat):Sz (k * i+1) (q ^ i):=by
 induction i with
 | zero=>rw [Rat.pow_zero];exact Sz.one.mono (by omega)
 | succ i ih=>rw [Rat.pow_succ];exact (ih.mul h).mono (by rw [Nat.mul_succ];omega)
theorem RS.mods {w w':World} {s:SH} {rs:List RH} {b lo hi:Nat} (h:RS w s rs) (hp:s.n=0 ∨ ∃ b off,s.a=some ⟨b,off,none⟩∧lo≤b∧b < hi) (m:Mods (·=b) w w') (hb:b < lo ∨ hi≤b):RS w' s rs:=by
 refine ⟨h.len,h.le,h.max,?_⟩
 rcases hp with h0 | ⟨x,o,e,h1,h2⟩
 ·exact Or.inl h0
 ·rcases h.at' with h0 | ⟨x',o',e',h3⟩
  ·exact Or.inl h0
  ·rw [e] at e'
   obtain ⟨rfl,rfl⟩:x=x'∧o=o':=by simpa using e'
   refine Or.inr ⟨x,o,e,fun k hk=>?_⟩
   have hc:=h3 k hk
   exact ⟨m.cell (p:=⟨x,_,none⟩) (by show ¬ x=b;omega) hc.1,m.cell (p:=⟨x,_,none⟩) (by show ¬ x=b;omega) hc.2.1,m.cell (p:=⟨x,_,none⟩) (by show ¬ x=b;omega) hc.2.2⟩
end Go.Proofs.YtpieblkklbilgaaGreat
namespace Go.Proofs.YtpieblkklbilgaaGreat
open Go.RowKit Go.Front Go.Num
theorem Sz.zero {k:Nat} (hk:1≤k):Sz k 0:=(Sz.int (z:=0) (by decide)).mono hk
theorem SzL.getD {s:Nat} {c:List Rat} (h:SzL s c) (hs:1≤s) (i:Nat):Sz s (c.getD i 0):=by
 rcases Nat.lt_or_ge i c.length with hi | hi
 ·exact h.at hi
 ·rw [List.getD_eq_getElem?_getD,List.getElem?_eq_none hi];exact Sz.zero hs
def grow:Nat→Nat→Nat
 | 0,s=>s
 | m+1,s=>grow m (5 * s+3)
theorem tz_idem (l:List Rat):tz (tz l)=tz l:=by
 induction l using Stab.snoc_ind with
 | h0=>rfl
 | h1 l r ih =>
  by_cases h:r=0
  ·subst h;rw [tz_snoc0];exact ih
  ·rw [tz_snoc l h,tz_snoc l h]
end Go.Proofs.YtpieblkklbilgaaGreat
namespace Go.Proofs.YtpieblkklbilgaaGreat
open Go.RowKit Go.Front Go.Num
attribute [local go_sem] XW.cell XW.frozen
theorem canL_1 {w:World} {N:Nat} {x:RH} {p:Rat} (h:w.heap[N]?=some (.cells #[.bool x.neg,.slice x.a x.n x.c,.slice x.b x.m x.d] 30 (0,0))) (hx:CanR w x p):CanL w ⟨some ⟨N,0,none⟩,1,1⟩ [p] :=
 ⟨[x],RBk.rs (rs:=[x]) (re:=#[]) h rfl (Nat.le_refl _) (by decide),(Vals.nil _ _).snoc hx⟩
theorem canL_3 {w:World} {N:Nat} {x y z:RH} {p q r:Rat} (h:w.heap[N]?=some (.cells #[.bool x.neg,.slice x.a x.n x.c,.slice x.b x.m x.d,.bool y.neg,.slice y.a y.n y.c,.slice y.b y.m y.d,.bool z.neg,.slice z.a z.n z.c,.slice z.b z.m z.d] 30 (0,0))) (hx:CanR w x p) (hy:CanR w y q) (hz:CanR w z r):CanL w ⟨some ⟨N,0,none⟩,3,3⟩ [p,q,r] :=
 ⟨[x,y,z],RBk.rs (rs:=[x,y,z]) (re:=#[]) h rfl (Nat.le_refl _) (by decide),(((Vals.nil _ _).snoc hx).snoc hy).snoc hz⟩
end Go.Proofs.YtpieblkklbilgaaGreat
