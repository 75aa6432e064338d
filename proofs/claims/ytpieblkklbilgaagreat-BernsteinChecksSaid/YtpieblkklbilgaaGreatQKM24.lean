/- Py3, Py4 -/
import Derived.Test.YtpieblkklbilgaaGreatQKM23
set_option linter.unusedVariables false
namespace Go.Proofs.YtpieblkklbilgaaGreat
open Go.RowKit Go.Front Go.Num Stab
attribute [local go_sem] XW.cell XW.frozen
theorem CanL.celx {w:World} {ao:Option Addr} {n c:Nat} {qs:List Rat} (h:CanL w ⟨ao,n,c⟩ qs) {k:Nat} (hk:k < n):∃ b off r,ao=some ⟨b,off,none⟩∧b < w.heap.size∧RAt w b (off+k * 3) r∧CanR w r (qs.getD k 0):=by
 have hl:=h.len
 obtain ⟨rs,h1,h2⟩:=h
 obtain ⟨b,off,e1,e2⟩:∃ b off,ao=some ⟨b,off,none⟩∧RAt w b (off+k * 3) (rs.getD k default):=by
  rcases h1.at' with h0 | ⟨b,off,e,hc⟩
  ·have h0:n=0:=h0
   omega
  ·exact ⟨b,off,e,hc k hk⟩
 exact ⟨b,off,_,e1,World.block_lt_of_cell? _ _ e2.1,e2,h2.2 k (by rw [hl];exact hk)⟩
theorem LIn.celx {w:World} {ao:Option Addr} {n c lo hi:Nat} {qs:List Rat} (h:LIn w ⟨ao,n,c⟩ qs lo hi) {k:Nat} (hk:k < n):∃ b off r,ao=some ⟨b,off,none⟩∧b < w.heap.size∧RAt w b (off+k * 3) r∧CanR w r (qs.getD k 0):=h.can.celx hk
theorem row_cells {w:World} {b off n:Nat} {rs:List RH} (hl:rs.length=n) (hc:∀ k,k < n→RAt w b (off+k * 3) (rs.getD k default)):∀ j u,(rcells rs)[j]?=some u→w.cell? ((⟨b,off,none⟩:Addr).add j)=some u:=by
 intro j u hj
 have hlt:j < (rcells rs).length:=(List.getElem?_eq_some_iff.1 hj).1
 rw [rcells_length,hl] at hlt
 obtain ⟨k,i,hk,hi,rfl⟩:∃ k i,k < n∧i < 3∧j=k * 3+i:=⟨j / 3,j % 3,by omega,by omega,by omega⟩
 rw [rcells_get rs (by omega) hi] at hj
 obtain ⟨h1,h2,h3⟩:=hc k hk
 rw [add_plain1]
 have hi3:i=0 ∨ i=1 ∨ i=2:=by omega
 rcases hi3 with rfl | rfl | rfl
 ·have:u=.bool (rs.getD k default).neg:=by simpa [rcell] using hj.symm
  rw [this,← h1];congr 2
 ·have:u=.slice (rs.getD k default).a (rs.getD k default).n (rs.getD k default).c:=by simpa [rcell] using hj.symm
  rw [this,← h2];congr 2
 ·have:u=.slice (rs.getD k default).b (rs.getD k default).m (rs.getD k default).d:=by simpa [rcell] using hj.symm
  rw [this,← h3];congr 2
theorem wpList_append_row {w:World} {ops:Array Oper} {rest:List Oper} {o:Oper} {a:Act} {Q:Exit→Act→World→Prop} (hgd:o.guard=none) (s x:Operand) (T:TypeId) (hT:Tryz.prog.underlying T=some (.slice 30))
  (ho:o.op=.call { callee:=.builtin .append,args:=#[s,x],argTypes:=#[T,T] }) (N:Nat) (hs:a.eval s=.slice (some ⟨N,0,none⟩) 0 0) (b off n c:Nat) (rs:List RH) (hx:a.eval x=.slice (some ⟨b,off,none⟩) n c)
  (hl:rs.length=n) (hn0:0 < n) (hn:n≤1073741824) (hc:∀ k,k < n→RAt w b (off+k * 3) (rs.getD k default))
  (h:∀ w' cap re,n≤cap→cap≤9223372036854775807→Ext w w'→RBk w' w.heap.size rs re→re.toList.all nonU=true→wpList Tryz.prog ops Q rest (a.put o.dst (.slice (some ⟨w.heap.size,0,none⟩) n cap)) w'):wpList Tryz.prog ops Q (o :: rest) a w:=by
 obtain ⟨i0,hi0,hz0,hz1,hz2⟩:=info_parts infoR
 have hgc:∀ need old,need≤9223372036854775807→need≤grownCap w need old 30∧grownCap w need old 30≤9223372036854775807:=fun need old h=>⟨grownCap_ge _ _ _ _,by have:=grownCap_le_maxLen w need old 30 (by simpa [maxLen] using h);simpa [maxLen] using this⟩
 have hr:=run_append_grow (P:=Tryz.prog) w T o.type _ i0 _ hT hi0 hz0 ⟨N,0,none⟩ 0 0 [] (by simp) (fun j u hj=>by simp at hj) ⟨b,off,none⟩ n c (rcells rs) (by rw [rcells_length,hl,hz1]) (row_cells hl hc) (by omega) (by omega) (growslice_fits (by omega) (by rw [hz2];omega))
 rw [show ([]:List Value).toArray ++ (rcells rs).toArray=(rcells rs).toArray from by simp] at hr
 simp only [Nat.zero_add] at hr
 obtain ⟨g1,g2⟩:=hgc n 0 (by omega)
 have he:Ext w (w.drew.alloc (.cells ((rcells rs).toArray ++ Builtin.zeroCells (RH.v default).cells (grownCap w n 0 30 - n)) 30)):=(Ext.drew w).trans (Ext.alloc _ _)
 have hb:RBk (w.drew.alloc (.cells ((rcells rs).toArray ++ Builtin.zeroCells (RH.v default).cells (grownCap w n 0 30 - n)) 30)) w.heap.size rs (Builtin.zeroCells (RH.v default).cells (grownCap w n 0 30 - n)):=by
  unfold RBk
  exact heap_alloc_new w.drew _
 have hh:=h _ _ _ g1 g2 he hb (zeroCells_nonU _)
 refine wpList_plain hgd fun K hK=>?_
 unfold Oper.wp
 simp [execOp,ho,resolve,invoke,builtin,hs,hx,hr,Result.andThen]
 exact hK _ _ hh
theorem eql_nilP (w:World) (a:Option Addr) (n c:Nat):(binOp .eql 41 (.slice a n c) (.slice none 0 0)).run Tryz.prog w=.ok (.bool a.isNone) w:=by
 have h:∀ d:Nat,(Op.equalIn (d+1) 41 (.slice a n c) (.slice none 0 0)).run Tryz.prog w=.ok a.isNone w:=fun d=>by
  cases a <;> simp [Op.equalIn,run_underlying Tryz.underlying41]
 simp only [binOp]
 simp [Op.equal,Op.maxDepth,h]
attribute [local go_sem] eql_nilP
end Go.Proofs.YtpieblkklbilgaaGreat
