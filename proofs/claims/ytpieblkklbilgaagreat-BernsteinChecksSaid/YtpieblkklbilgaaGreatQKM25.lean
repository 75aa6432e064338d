/- Py5 -/
import Derived.Test.YtpieblkklbilgaaGreatQKM24
set_option linter.unusedVariables false
namespace Go.Proofs.YtpieblkklbilgaaGreat
open Go.RowKit Go.Front Go.Num Stab
attribute [local go_sem] XW.cell XW.frozen
theorem nm_set3d {w1:World} {b:Nat} {T:TypeId} {c0 c1 c2 v0 v1 v2:Value} {F:World→Prop} (hb:w1.heap[b]?=some (.cells #[c0,c1,c2] T (0,0))) (hn:#[c0,c1,c2].toList.all nonU=true)
  (H:∀ w2 w3,PutB w1 b T #[v0,v1,v2] w2→Ext w2 w3→F w3) :
  F (((w1.setCell ⟨b,0,none⟩ v0).setCell ⟨b,1,none⟩ v1).setCell ⟨b,2,none⟩ v2).drew :=
 nm_set3 (v0:=v0) (v1:=v1) (v2:=v2) (F:=fun W=>F W.drew) hb hn fun w2 T2=>H w2 _ T2 (Ext.drew _)
def DvP (p q:List Rat) (S U:Nat) (s r:List Rat) (f:Rat):Prop :=
 f ≠ 0∧Wz (1+(p.length+1 - q.length) * U) f∧(∀ x ∈ s,Wz (S+(p.length+1 - q.length) * (U+1)) x)∧(∀ x ∈ r,Wz (S+(p.length+1 - q.length) * (U+1)) x)∧tz r=r∧r.length < q.length∧s.length≤p.length∧∀ n,f * seq p n=cv (seq s) (seq q) n+seq r n
theorem DvI.done {p q:List Rat} {S U j:Nat} {sl r:List Rat} {f:Rat} (h:DvI p q S U j sl r f) (hl:r.length < q.length):DvP p q S U sl r f:=by
 have hj:j≤p.length+1 - q.length:=by have:=h.jl;omega
 have h1:j * U≤(p.length+1 - q.length) * U:=Nat.mul_le_mul_right _ hj
 have h2:j * (U+1)≤(p.length+1 - q.length) * (U+1):=Nat.mul_le_mul_right _ hj
 exact ⟨h.fne,h.fw.mono (by omega),fun x hx=>(h.sw x hx).mono (by omega),fun x hx=>(h.rz x hx).mono (by omega),h.tzr,hl,by have:=h.sl;omega,h.eq⟩
theorem DvI.bnd {p q:List Rat} {S U j:Nat} {sl r:List Rat} {f:Rat} (h:DvI p q S U j sl r f):S+j * (U+1)≤S+(p.length+1 - q.length) * (U+1)∧1+j * U≤1+S+(p.length+1 - q.length) * (U+1):=by
 have hj:j≤p.length+1 - q.length:=by have:=h.jl;omega
 have h1:j * U≤(p.length+1 - q.length) * U:=Nat.mul_le_mul_right _ hj
 have h2:j * (U+1)≤(p.length+1 - q.length) * (U+1):=Nat.mul_le_mul_right _ hj
 have h3:(p.length+1 - q.length) * U≤(p.length+1 - q.length) * (U+1):=Nat.mul_le_mul_left _ (by omega)
 omega
end Go.Proofs.YtpieblkklbilgaaGreat
