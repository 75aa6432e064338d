/- Chb1, Chb2, Chb3, Chb4, ChbP -/
import Derived.Test.YtpieblkklbilgaaGreatQKM11
import Derived.Test.YtpieblkklbilgaaGreatQKM10
set_option linter.unusedVariables false
namespace Go.Proofs.YtpieblkklbilgaaGreat
open Go.RowKit Go.Front Go.Num
attribute [local go_sem] XW.cell XW.frozen
theorem Does.weak {f:FuncId} {args:List Value} {w:World} {α:Type} {mk:α→Value} {φ ψ:α→World→Prop} (h:Does f args w mk φ) (hi:∀ x w',Ext w w'→φ x w'→ψ x w'):Does f args w mk ψ:=by
 refine Calls.mono h ?_
 rintro e w' ⟨x,rfl,h1,h2⟩
 exact ⟨x,rfl,h1,hi x w' h1 h2⟩
def PreC (w:World) (rs:List RH) (ts:List Rat):Prop:=∀ j,j < ts.length→CanR w (rs.getD j default) (ts.getD j 0)
theorem PreC.ext {w w':World} {rs:List RH} {ts:List Rat} (h:PreC w rs ts) (he:Ext w w'):PreC w' rs ts:=fun j hj=>(h j hj).ext he
theorem PreC.keep {w w':World} {rs:List RH} {ts:List Rat} (h:PreC w rs ts) (he:Keep w w'):PreC w' rs ts:=fun j hj=>(h j hj).keep he
theorem getD_set_self {rs:List RH} {i:Nat} {x:RH} (h:i < rs.length):(rs.set i x).getD i default=x:=by simp [h]
theorem getD_set_other {rs:List RH} {i j:Nat} {x:RH} (h:i ≠ j):(rs.set i x).getD j default=rs.getD j default:=by
 rw [List.getD_eq_getElem?_getD,List.getD_eq_getElem?_getD,List.getElem?_set_ne h]
theorem PreC.snoc {w:World} {rs:List RH} {ts:List Rat} (h:PreC w rs ts) {x:RH} {q:Rat} {i:Nat} (hl:ts.length=i) (hi:i < rs.length) (hx:CanR w x q):PreC w (rs.set i x) (ts ++ [q]):=by
 intro j hj
 by_cases hji:j < ts.length
 ·rw [getD_set_other (by omega),show (ts ++ [q]).getD j 0=ts.getD j 0 by rw [List.getD_eq_getElem?_getD,List.getElem?_append_left hji,← List.getD_eq_getElem?_getD]]
  exact h j hji
 ·obtain rfl:j=ts.length:=by simp at hj;omega
  subst hl
  rw [getD_set_self hi,show (ts ++ [q]).getD ts.length 0=q by simp]
  exact hx
def nbE (ps qs:List Rat) (i:Nat):Rat:=(if 0 < i∧i≤ps.length then ps.getD (i - 1) 0+ps.getD (i - 1) 0 else 0) - (if i < qs.length then qs.getD i 0 else 0)
def nbV (ps qs:List Rat):List Rat:=tz ((List.range (max (ps.length+1) qs.length)).map (nbE ps qs))
def chP:Nat→List Rat × List Rat
 | 0=>([((1:Int):Rat)],[((0:Int):Rat),((1:Int):Rat)])
 | n+1=>(nbV (chP n).1 (chP n).2,(chP n).1)
theorem CanL.new {w:World} {N n c B:Nat} {qs:List Rat} (h:CanL w ⟨some ⟨N,0,none⟩,n,c⟩ qs) (hB:B≤N) (hN:N < w.heap.size):NewL B w ⟨some ⟨N,0,none⟩,n,c⟩ qs:=let ⟨rs,h1,h2⟩:=h;⟨rs,h1,h2,Or.inr ⟨N,0,rfl,hB,hN⟩⟩
def IntL (b:Nat) (l:List Rat):Prop:=∀ q ∈ l,q.den=1∧q.num.natAbs≤b
theorem IntL.getD {b:Nat} {l:List Rat} (h:IntL b l) (i:Nat):(l.getD i 0).den=1∧(l.getD i 0).num.natAbs≤b:=by
 rcases Nat.lt_or_ge i l.length with hi | hi
 ·exact h _ (getD_mem' hi)
 ·rw [getD_over' hi];exact ⟨rfl,Nat.zero_le _⟩
theorem whole_eq {q:Rat} (h:q.den=1):q=(q.num:Rat):=by
 apply Rat.ext
 ·rw [Rat.num_intCast]
 ·rw [h,Rat.den_intCast]
theorem IntL.nb {b:Nat} {ps qs:List Rat} (h1:IntL b ps) (h2:IntL b qs):IntL (3 * b) (nbV ps qs):=by
 unfold nbV
 rw [tz_prefix]
 intro q hq
 obtain ⟨i,-,rfl⟩:=List.mem_map.1 (List.mem_of_mem_take hq)
 unfold nbE
 have hp:=h1.getD (i - 1)
 have hq:=h2.getD i
 have e1:=whole_eq hp.1
 have e2:=whole_eq hq.1
 rw [e1,e2]
 generalize (ps.getD (i - 1) 0).num=x at *
 generalize (qs.getD i 0).num=y at *
 split <;> split
 ·rw [← Rat.intCast_add,← Rat.intCast_sub]
  exact ⟨Rat.den_intCast _,by rw [Rat.num_intCast];omega⟩
 ·rw [← Rat.intCast_add,show ((x+x:Int):Rat) - 0=((x+x:Int):Rat) by grind]
  exact ⟨Rat.den_intCast _,by rw [Rat.num_intCast];omega⟩
 ·rw [show (0:Rat) - (y:Rat)=((-y:Int):Rat) by rw [Rat.intCast_neg];grind]
  exact ⟨Rat.den_intCast _,by rw [Rat.num_intCast];omega⟩
 ·rw [show (0:Rat) - 0=0 by grind];exact ⟨rfl,Nat.zero_le _⟩
theorem IntL.mono {b c:Nat} {l:List Rat} (h:IntL b l) (hb:b≤c):IntL c l:=fun q hq=>⟨(h q hq).1,Nat.le_trans (h q hq).2 hb⟩
theorem chP_int (n:Nat):IntL (3 ^ n) (chP n).1∧IntL (3 ^ n) (chP n).2:=by
 induction n with
 | zero =>
  constructor
  ·intro q hq
   obtain rfl:q=((1:Int):Rat):=by simpa [chP] using hq
   exact ⟨rfl,by decide⟩
  ·intro q hq
   have:q=((0:Int):Rat) ∨ q=((1:Int):Rat):=by simpa [chP] using hq
   rcases this with rfl | rfl
   ·exact ⟨rfl,by decide⟩
   ·exact ⟨rfl,by decide⟩
 | succ n ih =>
  rw [Nat.pow_succ,Nat.mul_comm]
  exact ⟨ih.1.nb ih.2,ih.1.mono (by omega)⟩
theorem IntL.sz {b k:Nat} {l:List Rat} (h:IntL b l) (hb:b < W32 ^ k) (hk:1≤k):SzL k l:=fun q hq =>
 ⟨Nat.lt_of_le_of_lt (h q hq).2 hb,by rw [(h q hq).1];have:=W32_pow_ge hk;omega⟩
def comS (m x:Rat):Rat:=m * (((m * x).den:Int):Rat)
def comV (l:List Rat):Rat:=l.foldl comS 1
theorem comV_snoc (l:List Rat) (x:Rat):comV (l ++ [x])=comS (comV l) x:=by simp [comV]
def cg (s j:Nat):Nat:=1+j * s
theorem cg_mono {s i j:Nat} (h:i≤j):cg s i≤cg s j:=by
 have:=Nat.mul_le_mul_right s h
 unfold cg
 omega
theorem Sz.den {k:Nat} {q:Rat} (h:Sz k q):Sz k (((q.den:Int)):Rat) :=
 ⟨by rw [Rat.num_intCast,Int.natAbs_natCast];exact h.2,by rw [Rat.den_intCast];have:=W32_pow_ge h.one_le;omega⟩
theorem com_nat {s:Nat} {l:List Rat} (h:SzL s l):∀ j,j≤l.length→∃ m:Nat,0 < m∧comV (l.take j)=((m:Int):Rat)∧m < W32 ^ (cg s j):=by
 intro j
 induction j with
 | zero=>intro _;exact ⟨1,by decide,rfl,by rw [show cg s 0=1 by simp [cg]];decide⟩
 | succ j ih =>
  intro hj
  obtain ⟨m,hm,e,hl⟩:=ih (by omega)
  have hx:=h.at (i:=j) (by omega)
  rw [← take_snoc (by omega),comV_snoc]
  unfold comS
  rw [e]
  have hd:(((m:Int):Rat) * l.getD j 0).den≤(l.getD j 0).den:=by
   rw [Rat.den_mul,Rat.den_intCast,Nat.one_mul]
   exact Nat.div_le_self _ _
  have hp:=(((m:Int):Rat) * l.getD j 0).den_pos
  refine ⟨m * (((m:Int):Rat) * l.getD j 0).den,Nat.mul_pos hm hp,by rw [Int.natCast_mul,Rat.intCast_mul],?_⟩
  have h1:=Nat.lt_of_le_of_lt hd hx.2
  have h2:=Nat.mul_lt_mul_of_lt_of_lt hl h1
  rw [← Nat.pow_add] at h2
  rw [show cg s (j+1)=cg s j+s by unfold cg;rw [Nat.succ_mul];omega]
  exact h2
theorem com_sz {s:Nat} {l:List Rat} (h:SzL s l):∀ j,j≤l.length→Sz (cg s j) (comV (l.take j)):=by
 intro j hj
 obtain ⟨m,hm,e,hl⟩:=com_nat h j hj
 rw [e]
 exact ⟨by rw [Rat.num_intCast,Int.natAbs_natCast];exact hl,by rw [Rat.den_intCast];have:=W32_pow_ge (k:=cg s j) (by unfold cg;omega);omega⟩
theorem CanR.den {w:World} {s:RH} {q:Rat} {k:Nat} {b:Option Addr} {m d:Nat} (h:CanR w s q) (hz:Sz k q) (hk:k≤134217728) (h1:U32 w b m d [1]) (hm:m=1):RawR w ⟨false,s.b,s.m,s.d,b,m,d⟩ (((q.den:Int)):Rat):=by
 refine ⟨_,_,h.2.2,h1,?_,?_,by simp only;omega⟩
 ·rw [val_digs]
  show _=mkRat (q.den:Int) (val [1])
  rw [show val [1]=1 from rfl,Rat.mkRat_one]
 ·simp only
  rw [← h.2.2.len]
  exact Nat.le_trans (digs_len hz.2) hk
def corV (b c:List Rat) (k:Nat):Rat:=Stab.sm (min b.length (c.length - k)) (fun i=>b.getD i 0 * c.getD (i+k) 0)
end Go.Proofs.YtpieblkklbilgaaGreat
namespace Go.Proofs.YtpieblkklbilgaaGreat
open Go.RowKit Go.Front Go.Num
def Tf (k i:Nat):Rat:=(chP k).1.getD i 0
def fbS (c:List Rat) (i:Nat):Rat:=Stab.sm c.length (fun k=>c.getD k 0 * Tf k i)
def fbV (c:List Rat):List Rat:=tz ((List.range c.length).map (fbS c))
end Go.Proofs.YtpieblkklbilgaaGreat
