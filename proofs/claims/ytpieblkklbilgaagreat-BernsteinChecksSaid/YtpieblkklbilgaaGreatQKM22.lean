/- Off, Pd, Pd2, Pd3, Pd4, Pd5, Pd6 -/
import Derived.Test.YtpieblkklbilgaaGreatQKM7
import Derived.Test.YtpieblkklbilgaaGreatQKM11
set_option linter.unusedVariables false
namespace Go.Proofs.YtpieblkklbilgaaGreat
open Go.RowKit Go.Front Go.Num
def Off (b c:Nat) (w:World) (s:SH) (qs:List Rat):Prop:=∃ rs,RS w s rs∧Vals CanR w rs qs∧(s.n=0 ∨ ∃ x off,s.a=some ⟨x,off,none⟩∧x ≠ b∧x < c)
theorem Off.ext {b c:Nat} {w w':World} {s:SH} {qs:List Rat} (h:Off b c w s qs) (he:Ext w w'):Off b c w' s qs:=let ⟨rs,h1,h2,h3⟩:=h;⟨rs,h1.ext he,h2.can_ext he,h3⟩
theorem Off.can {b c:Nat} {w:World} {s:SH} {qs:List Rat} (h:Off b c w s qs):CanL w s qs:=let ⟨rs,h1,h2,_⟩:=h;⟨rs,h1,h2⟩
theorem Off.put {b c k:Nat} {w1 w2:World} {s:SH} {qs:List Rat} {T:TypeId} {cs:Array Value} (h:Off b c w1 s qs) (T2:PutB w1 k T cs w2) (hk:k=b ∨ c≤k):Off b c w2 s qs:=by
 obtain ⟨rs,h1,h2,h3⟩:=h
 refine ⟨rs,?_,h2.keep T2.keep,h3⟩
 rcases h3 with h0 | ⟨x,off,e,h4,h5⟩
 ·exact h1.put (lo:=0) (hi:=0) (Or.inl h0) T2 (Or.inr (Nat.zero_le _))
 ·exact h1.put (lo:=x) (hi:=x+1) (Or.inr ⟨x,off,e,Nat.le_refl _,Nat.lt_succ_self _⟩) T2 (by omega)
theorem NewL.off {b B:Nat} {w:World} {s:SH} {qs:List Rat} (h:NewL B w s qs) (hb:b < B):Off b w.heap.size w s qs:=by
 obtain ⟨rs,h1,h2,h3⟩:=h
 refine ⟨rs,h1,h2,h3.imp id fun ⟨x,off,e,h4,h5⟩=>⟨x,off,e,by omega,h5⟩⟩
theorem LIn.off {b lo hi:Nat} {w:World} {s:SH} {qs:List Rat} (h:LIn w s qs lo hi) (hb:b < lo ∨ hi≤b):Off b w.heap.size w s qs:=by
 obtain ⟨rs,h1,h2,h3⟩:=h
 refine ⟨rs,h1,h2,?_⟩
 rcases h3 with h0 | ⟨x,off,e,h4,h5⟩
 ·exact Or.inl h0
 ·rcases h1.in with h0 | ⟨y,o,e2,-,h6⟩
  ·exact Or.inl h0
  ·rw [e] at e2
   obtain ⟨rfl,rfl⟩:x=y∧off=o:=by simpa using e2
   exact Or.inr ⟨x,off,e,by omega,h6⟩
def OffX (b:Nat) (w:World) (s:SH) (qs:List Rat):Prop:=∃ c,Off b c w s qs
theorem OffX.ext {b:Nat} {w w':World} {s:SH} {qs:List Rat} (h:OffX b w s qs) (he:Ext w w'):OffX b w' s qs:=let ⟨c,h1⟩:=h;⟨c,h1.ext he⟩
theorem CanL.off {w:World} {N n c b:Nat} {qs:List Rat} (h:CanL w ⟨some ⟨N,0,none⟩,n,c⟩ qs) (hb:b < N) (hN:N < w.heap.size):Off b w.heap.size w ⟨some ⟨N,0,none⟩,n,c⟩ qs :=
 let ⟨rs,h1,h2⟩:=h;⟨rs,h1,h2,Or.inr ⟨N,0,rfl,by omega,hN⟩⟩
end Go.Proofs.YtpieblkklbilgaaGreat
namespace Go.Proofs.YtpieblkklbilgaaGreat
open Go.RowKit Go.Front Go.Num Stab
def Bd (n:Nat) (s:Nat→Rat):Prop:=∀ i,n≤i→s i=0
theorem pd_over {l:List Rat} {i:Nat} (h:l.length≤i):l.getD i 0=0:=by
 rw [List.getD_eq_getElem?_getD,List.getElem?_eq_none h];rfl
theorem Bd.seq (l:List Rat):Bd l.length (seq l):=fun i h=>pd_over h
theorem Bd.mono {n m:Nat} {s:Nat→Rat} (h:Bd n s) (hm:n≤m):Bd m s:=fun i hi=>h i (by omega)
theorem pd_single {n k:Nat} {f:Nat→Rat} (hk:k < n) (h:∀ i,i < n→i ≠ k→f i=0):sm n f=f k:=by
 induction n with
 | zero=>omega
 | succ n ih =>
  show sm n f+f n=_
  by_cases hkn:k=n
  ·subst hkn
   rw [sm_congr (g:=fun _=>0) (fun i hi=>h i (by omega) (by omega)),sm_zero]
   grind
  ·rw [ih (by omega) (fun i hi hne=>h i (by omega) hne),h n (by omega) (Ne.symm hkn)]
   grind
theorem cv_top {a b:Nat} {s u:Nat→Rat} (hs:Bd (a+1) s) (hu:Bd (b+1) u):cv s u (a+b)=s a * u b:=by
 unfold cv
 rw [pd_single (k:=a) (by omega),show a+b - a=b by omega]
 intro i hi hne
 rcases Nat.lt_or_ge i a with h | h
 ·rw [hu (a+b - i) (by omega)];grind
 ·rw [hs i (by omega)];grind
theorem cv_bd {a b:Nat} {s u:Nat→Rat} (hs:Bd a s) (hu:Bd b u):Bd (a+b) (cv s u):=by
 intro n hn
 unfold cv
 rw [sm_congr (g:=fun _=>0),sm_zero]
 intro i hi
 rcases Nat.lt_or_ge i a with h | h
 ·rw [hu (n - i) (by omega)];grind
 ·rw [hs i h];grind
def lead (q:List Rat):Rat:=q.getD (q.length - 1) 0
theorem pd_range (n i:Nat) (f:Nat→Rat):((List.range n).map f).getD i 0=if i < n then f i else 0:=by
 by_cases h:i < n
 ·rw [if_pos h];simp [h]
 ·rw [if_neg h];simp [show n≤i by omega]
theorem pd_div {a b:Rat} (h:b ≠ 0):a / b * b=a:=Rat.div_mul_cancel h
theorem cv_unit (k:Nat) (c:Rat) (u:Nat→Rat) (n:Nat):cv (fun i=>if i=k then c else 0) u n=c * shn k u n:=by
 unfold cv shn
 by_cases h:k≤n
 ·rw [pd_single (k:=k) (by omega) (fun i _ hi=>by show (if i=k then c else 0) * _=0;rw [if_neg hi];grind),if_pos h]
  show (if k=k then c else 0) * _=_
  rw [if_pos rfl]
 ·rw [if_neg h,sm_congr (g:=fun _=>0) (fun i hi=>by show (if i=k then c else 0) * _=0;rw [if_neg (by omega)];grind),sm_zero]
  grind
theorem pd_set {l:List Rat} {k:Nat} {x:Rat} (h:k < l.length) (h0:l.getD k 0=0):seq (l.set k x)=fun n=>seq l n+(if n=k then x else 0):=by
 funext n
 unfold seq
 by_cases hn:n=k
 ·subst hn
  rw [if_pos rfl,show (l.set n x).getD n 0=x by simp [h],h0];grind
 ·rw [if_neg hn,show (l.set k x).getD n 0=l.getD n 0 by simp [Ne.symm hn]];grind
theorem tz_last2 {l:List Rat} {n:Nat} (h:(tz l).length=n+1):l.getD n 0 ≠ 0:=by
 intro h0
 have h3:(tz l).getD n 0=0:=by rw [tz_getD',h0]
 have h4:tz ((tz l).take (n+1))=tz ((tz l).take n):=tz_zero (by omega) h3
 rw [← h,List.take_length,tz_idem] at h4
 have h5:=tz_len_le ((tz l).take n)
 rw [← h4,List.length_take] at h5
 omega
theorem seq_tz (l:List Rat):seq (tz l)=seq l:=funext fun n=>tz_getD' l n
theorem pd_ext {a b:List Rat} (h:∀ i,seq a i=seq b i):tz a=tz b:=by
 have hl:∀ a b:List Rat,(∀ i,a.getD i 0=b.getD i 0)→(tz a).length≤(tz b).length:=by
  intro a b h
  rcases Nat.lt_or_ge (tz b).length (tz a).length with h1 | h1
  ·exfalso
   obtain ⟨n,hn⟩:∃ n,(tz a).length=n+1:=⟨(tz a).length - 1,by omega⟩
   have h2:(tz a).getD n 0=0:=by
    rw [tz_getD (by omega),h n,tz_out (by omega)]
   have h3:=tz_idem a
   have h4:tz ((tz a).take (n+1))=tz ((tz a).take n):=tz_zero (by omega) h2
   rw [← hn,List.take_length,h3] at h4
   have h5:=tz_len_le ((tz a).take n)
   rw [← h4,List.length_take] at h5
   omega
  ·exact h1
 apply getD_ext
 ·exact Nat.le_antisymm (hl a b h) (hl b a (fun i=>(h i).symm))
 ·intro i _
  rw [tz_getD',tz_getD']
  exact h i
def Pr (a p:List Rat):Prop:=∃ c:Rat,c ≠ 0∧∀ n,seq a n=c * seq p n
theorem Pr.symm {a p:List Rat} (h:Pr a p):Pr p a:=by
 obtain ⟨c,h1,h2⟩:=h
 refine ⟨c⁻¹,fun h=>h1 (by rw [← Rat.inv_inv c,h,Rat.inv_zero]),fun n=>?_⟩
 have:=Rat.mul_inv_cancel c h1
 rw [h2 n]
 grind
theorem Pr.trans {a b c:List Rat} (h:Pr a b) (k:Pr b c):Pr a c:=by
 obtain ⟨x,h1,h2⟩:=h
 obtain ⟨y,k1,k2⟩:=k
 refine ⟨x * y,fun h=>?_,fun n=>by rw [h2,k2];grind⟩
 rcases Rat.mul_eq_zero.1 h with h3 | h3
 ·exact h1 h3
 ·exact k1 h3
theorem pd_map_ne {c:Rat} (hc:c ≠ 0) (l:List Rat):tz (l.map (· * c))=(tz l).map (· * c):=by
 induction l using snoc_ind with
 | h0=>rfl
 | h1 l r ih =>
  by_cases hr:r=0
  ·subst hr
   rw [List.map_append,List.map_cons,List.map_nil,Rat.zero_mul,tz_snoc0,tz_snoc0,ih]
  ·have h2:r * c ≠ 0:=fun h=>by
    rcases Rat.mul_eq_zero.1 h with h3 | h3
    ·exact hr h3
    ·exact hc h3
   rw [List.map_append,List.map_cons,List.map_nil,tz_snoc _ h2,tz_snoc _ hr,List.map_append,List.map_cons,List.map_nil]
theorem seq_map (l:List Rat) (c:Rat) (n:Nat):seq (l.map (· * c)) n=seq l n * c:=by
 unfold seq
 rcases Nat.lt_or_ge n l.length with h | h
 ·simp [h]
 ·rw [pd_over (by simpa using h),pd_over h];grind
theorem Pr.eq {a p:List Rat} (h:Pr a p):∃ c:Rat,c ≠ 0∧tz a=(tz p).map (· * c):=by
 obtain ⟨c,h1,h2⟩:=h
 refine ⟨c,h1,?_⟩
 rw [← pd_map_ne h1]
 exact pd_ext fun n=>by rw [seq_map,h2 n];grind
theorem Pr.len {a p:List Rat} (h:Pr a p):(tz a).length=(tz p).length:=by
 obtain ⟨c,h1,h2⟩:=h.eq
 rw [h2,List.length_map]
theorem Pr.nil {a p:List Rat} (h:Pr a p):tz a=[]↔tz p=[]:=by
 rw [← List.length_eq_zero_iff,← List.length_eq_zero_iff,h.len]
def Wh (q:Rat):Prop:=q.den=1
theorem Wh.eq {q:Rat} (h:Wh q):q=(q.num:Rat):=by
 apply Rat.ext
 ·rw [Rat.num_intCast]
 ·rw [Rat.den_intCast];exact h
theorem Wh.int (z:Int):Wh (z:Rat):=Rat.den_intCast z
theorem Wh.add {a b:Rat} (h:Wh a) (k:Wh b):Wh (a+b):=by rw [h.eq,k.eq,← Rat.intCast_add];exact Wh.int _
theorem Wh.mul {a b:Rat} (h:Wh a) (k:Wh b):Wh (a * b):=by rw [h.eq,k.eq,← Rat.intCast_mul];exact Wh.int _
theorem Wh.neg {a:Rat} (h:Wh a):Wh (-a):=by rw [h.eq,← Rat.intCast_neg];exact Wh.int _
theorem Wh.zero:Wh 0:=rfl
theorem Wh.abs {a:Rat} (h:Wh a):Wh a.abs:=by
 unfold Rat.abs
 split
 ·exact h
 ·exact h.neg
theorem low (q:Rat):q * (q.den:Rat)=(q.num:Rat):=by
 have h:((q.den:Nat):Rat) ≠ 0:=by
  intro h
  have:=Rat.natCast_eq_zero_iff.1 h
  exact q.den_nz this
 have e:q=(q.num:Rat) / ((q.den:Nat):Rat):=by
  rw [show ((q.num:Rat) / ((q.den:Nat):Rat))=mkRat q.num q.den by rw [Rat.mkRat_eq_div],Rat.mkRat_self]
 have:=pd_div (a:=(q.num:Rat)) h
 rw [← e] at this
 exact this
theorem abs_or (q:Rat):q.abs=q ∨ q.abs=-q:=by
 unfold Rat.abs
 split
 ·exact Or.inl rfl
 ·exact Or.inr rfl
def Mu (g b:Rat):Prop:=∃ z:Rat,Wh z∧b=z * g
theorem Mu.trans {g h b:Rat} (x:Mu g h) (y:Mu h b):Mu g b:=by
 obtain ⟨z,h1,rfl⟩:=x
 obtain ⟨t,h2,rfl⟩:=y
 exact ⟨t * z,h2.mul h1,by grind⟩
theorem Mu.abs {g b:Rat} (h:Mu g b):Mu g.abs b:=by
 obtain ⟨z,h1,h2⟩:=h
 rcases abs_or g with e | e
 ·exact ⟨z,h1,by rw [e];exact h2⟩
 ·exact ⟨-z,h1.neg,by rw [e,h2];grind⟩
theorem Mu.zero (g:Rat):Mu g 0:=⟨0,rfl,by grind⟩
theorem Mu.div {g b:Rat} (h:Mu g b) (h0:g ≠ 0):Wh (b / g):=by
 obtain ⟨z,h1,rfl⟩:=h
 have:=Rat.mul_inv_cancel _ h0
 rw [Rat.div_def,Rat.mul_assoc,this,Rat.mul_one]
 exact h1
theorem Wh.castdiv {q:Rat} {D:Nat} (hD:0 < D) (h:Wh (q * (D:Rat))):q=mkRat (q * (D:Rat)).num D:=by
 have h0:(D:Rat) ≠ 0:=fun h=>by
  have:D=0:=by exact_mod_cast h
  omega
 have h1:=h.eq
 have h2:=Rat.mul_inv_cancel _ h0
 rw [Rat.mkRat_eq_div,← h1,Rat.div_def,Rat.mul_assoc]
 exact (by rw [h2,Rat.mul_one]:q=q * ((D:Rat) * (D:Rat)⁻¹))
def Fr (S D:Nat) (q:Rat):Prop:=Wh (q * (D:Rat))∧(q * (D:Rat)).num.natAbs < W32 ^ S
theorem Fr.sz {S D:Nat} {q:Rat} (h:Fr S D q) (hS:1≤S) (hD:0 < D) (hl:D < W32 ^ S):Sz S q:=by
 rw [h.1.castdiv hD]
 exact Sz.mk hS h.2 hl
theorem Fr.neg {S D:Nat} {q:Rat} (h:Fr S D q):Fr S D (-q):=by
 unfold Fr
 rw [Rat.neg_mul,Rat.neg_num,Int.natAbs_neg]
 exact ⟨h.1.neg,h.2⟩
theorem Fr.abs {S D:Nat} {q:Rat} (h:Fr S D q):Fr S D q.abs:=by
 rcases abs_or q with e | e <;> rw [e]
 ·exact h
 ·exact h.neg
theorem Fr.zero (S D:Nat):Fr S D 0:=by
 unfold Fr
 rw [Rat.zero_mul]
 exact ⟨rfl,Nat.pow_pos W32_pos⟩
theorem Fr.int {S:Nat} {z:Int} (h:z.natAbs < W32 ^ S) {q:Rat} {D:Nat} (hq:q * (D:Rat)=(z:Rat)):Fr S D q:=by
 unfold Fr
 rw [hq,Rat.num_intCast]
 exact ⟨Wh.int z,h⟩
theorem num_dvd {a b:Rat} (hb:b ≠ 0) {A B:Int} {D:Rat} (hA:a * D=(A:Rat)) (hB:b * D=(B:Rat)):∃ t:Int,A=(a / b).num * t:=by
 have e1:=low (a / b)
 have e2:=pd_div (a:=a) hb
 have e3:A * ((a / b).den:Int)=(a / b).num * B:=by
  have:((A * ((a / b).den:Int):Int):Rat)=(((a / b).num * B:Int):Rat):=by
   rw [Rat.intCast_mul,Rat.intCast_mul,← hA,← hB,← e1,show (((a / b).den:Int):Rat)=((a / b).den:Rat) from rfl]
   have:a / b * ((a / b).den:Rat) * (b * D)=(a / b * b) * D * ((a / b).den:Rat):=by grind
   rw [this,e2]
  exact Rat.intCast_inj.1 this
 have hc:(a / b).num.natAbs.Coprime (a / b).den:=(a / b).reduced
 have h4:(a / b).num.natAbs ∣ A.natAbs * (a / b).den:=by
  have:=congrArg Int.natAbs e3
  rw [Int.natAbs_mul,Int.natAbs_mul,Int.natAbs_natCast] at this
  rw [this]
  exact Nat.dvd_mul_right _ _
 have h5:=hc.dvd_of_dvd_mul_right h4
 obtain ⟨t,ht⟩:=Int.natAbs_dvd_natAbs.1 h5
 exact ⟨t,ht⟩
theorem natAbs_le_mul {x t:Int} (h:x * t ≠ 0):t.natAbs≤(x * t).natAbs∧x.natAbs≤(x * t).natAbs:=by
 rw [Int.natAbs_mul]
 have hx:0 < x.natAbs:=Nat.pos_of_ne_zero fun h1=>h (by rw [Int.natAbs_eq_zero.1 h1,Int.zero_mul])
 have ht:0 < t.natAbs:=Nat.pos_of_ne_zero fun h1=>h (by rw [Int.natAbs_eq_zero.1 h1,Int.mul_zero])
 exact ⟨Nat.le_mul_of_pos_left _ hx,Nat.le_mul_of_pos_right _ ht⟩
def Wz (S:Nat) (q:Rat):Prop:=Wh q∧q.num.natAbs < W32 ^ S
theorem Wz.sz {S:Nat} {q:Rat} (h:Wz S q) (hS:1≤S):Sz S q:=⟨h.2,by rw [h.1];exact Nat.one_lt_pow (by omega) (by decide)⟩
theorem Wz.mono {S S':Nat} {q:Rat} (h:Wz S q) (hS:S≤S'):Wz S' q:=⟨h.1,Nat.lt_of_lt_of_le h.2 (Nat.pow_le_pow_right W32_pos hS)⟩
theorem Wz.int {S:Nat} {z:Int} (h:z.natAbs < W32 ^ S):Wz S (z:Rat):=⟨Wh.int z,by rw [Rat.num_intCast];exact h⟩
theorem Wz.zero (S:Nat):Wz S 0:=Wz.int (z:=0) (Nat.pow_pos W32_pos)
theorem Wz.one:Wz 1 1:=Wz.int (z:=1) (by decide)
theorem Wz.neg {S:Nat} {a:Rat} (h:Wz S a):Wz S (-a):=⟨h.1.neg,by rw [Rat.neg_num,Int.natAbs_neg];exact h.2⟩
theorem Wz.mul {S U:Nat} {a b:Rat} (ha:Wz S a) (hb:Wz U b):Wz (S+U) (a * b):=by
 rw [ha.1.eq,hb.1.eq,← Rat.intCast_mul]
 refine Wz.int ?_
 rw [Int.natAbs_mul,Nat.pow_add]
 exact Nat.mul_lt_mul_of_lt_of_lt ha.2 hb.2
theorem Wz.add {S:Nat} {a b:Rat} (ha:Wz S a) (hb:Wz S b):Wz (S+1) (a+b):=by
 rw [ha.1.eq,hb.1.eq,← Rat.intCast_add]
 refine Wz.int ?_
 have:=Int.natAbs_add_le a.num b.num
 have h5:W32 ^ S * 2≤W32 ^ (S+1):=by rw [Nat.pow_succ];exact Nat.mul_le_mul_left _ (by decide)
 have:=ha.2
 have:=hb.2
 omega
theorem Wz.sub {S:Nat} {a b:Rat} (ha:Wz S a) (hb:Wz S b):Wz (S+1) (a - b):=by
 rw [Rat.sub_eq_add_neg];exact ha.add hb.neg
theorem Wz.parts {S U:Nat} {a b:Rat} (ha:Wz S a) (hb:Wz U b) (h0:b ≠ 0):Wz S ((a / b).num:Rat)∧Wz U (((a / b).den:Int):Rat):=by
 have hA:a * 1=(a.num:Rat):=by rw [Rat.mul_one];exact ha.1.eq
 have hB:b * 1=(b.num:Rat):=by rw [Rat.mul_one];exact hb.1.eq
 obtain ⟨t,ht⟩:=num_dvd h0 hA hB
 have e1:=low (a / b)
 have e2:=pd_div (a:=a) h0
 have e3:a.num * ((a / b).den:Int)=(a / b).num * b.num:=by
  have:((a.num * ((a / b).den:Int):Int):Rat)=(((a / b).num * b.num:Int):Rat):=by
   rw [Rat.intCast_mul,Rat.intCast_mul,← hA,← hB,← e1,show (((a / b).den:Int):Rat)=((a / b).den:Rat) from rfl]
   have:a / b * ((a / b).den:Rat) * (b * 1)=(a / b * b) * 1 * ((a / b).den:Rat):=by grind
   rw [this,e2]
  exact Rat.intCast_inj.1 this
 have hbn:b.num ≠ 0:=fun h=>h0 (Rat.num_eq_zero.1 h)
 constructor
 ·refine Wz.int ?_
  by_cases hA0:(a / b).num * t=0
  ·rcases Int.mul_eq_zero.1 hA0 with h | h
   ·rw [h];exact Nat.pow_pos W32_pos
   ·have hz:a.num=0:=by rw [ht,h,Int.mul_zero]
    have:a=0:=Rat.num_eq_zero.1 hz
    rw [this,Rat.div_def,Rat.zero_mul]
    exact Nat.pow_pos W32_pos
  ·have:=(natAbs_le_mul hA0).2
   rw [← ht] at this
   exact Nat.lt_of_le_of_lt this ha.2
 ·refine Wz.int ?_
  rw [Int.natAbs_natCast]
  have hc:(a / b).num.natAbs.Coprime (a / b).den:=(a / b).reduced
  have h4:(a / b).den ∣ (a / b).num.natAbs * b.num.natAbs:=by
   have:=congrArg Int.natAbs e3
   rw [Int.natAbs_mul,Int.natAbs_mul,Int.natAbs_natCast] at this
   rw [← this]
   exact Nat.dvd_mul_left _ _
  have h5:=hc.symm.dvd_of_dvd_mul_left h4
  exact Nat.lt_of_le_of_lt (Nat.le_of_dvd (Nat.pos_of_ne_zero fun h=>hbn (Int.natAbs_eq_zero.1 h)) h5) hb.2
theorem fr_all {k:Nat}:∀ (p:List Rat),(∀ x ∈ p,Sz k x)→∃ D:Nat,0 < D∧D < W32 ^ (k * p.length+1)∧∀ x ∈ p,Fr (k * (p.length+1)+1) D x
 | [],_=>⟨1,by decide,by simp [W32],fun x hx=>by simp at hx⟩
 | q :: p,h=>by
  obtain ⟨D,h1,h2,h3⟩:=fr_all p fun x hx=>h x (List.mem_cons_of_mem _ hx)
  have hq:=h q (List.mem_cons_self ..)
  have hk:=hq.one_le
  have e1:k * ((q :: p).length)+1=(k * p.length+1)+k:=by rw [List.length_cons,Nat.mul_add];omega
  have e2:k * ((q :: p).length+1)+1=(k * (p.length+1)+1)+k:=by rw [List.length_cons,Nat.mul_add,Nat.mul_add];omega
  refine ⟨D * q.den,Nat.mul_pos h1 q.den_pos,?_,fun x hx=>?_⟩
  ·rw [e1,Nat.pow_add];exact Nat.mul_lt_mul_of_lt_of_lt h2 hq.2
  ·rw [e2]
   rcases List.mem_cons.1 hx with rfl | hx
   ·refine Fr.int (z:=x.num * D) ?_ ?_
    ·have e3:k * (p.length+1)+1+k=k+(k * p.length+1)+k:=by rw [Nat.mul_add];omega
     rw [Int.natAbs_mul,Int.natAbs_natCast,e3,Nat.pow_add]
     refine Nat.lt_of_lt_of_le (m:=W32 ^ (k+(k * p.length+1))) ?_ (Nat.le_mul_of_pos_right _ (Nat.pow_pos W32_pos))
     rw [Nat.pow_add]
     exact Nat.mul_lt_mul_of_lt_of_lt hq.1 h2
    ·have:=low x
     have e4:(((D * x.den:Nat)):Rat)=(D:Rat) * (x.den:Rat):=by push_cast;rfl
     rw [e4,Rat.intCast_mul,← this]
     have:(((D:Nat):Int):Rat)=(D:Rat):=rfl
     rw [this]
     grind
   ·obtain ⟨f1,f2⟩:=h3 x hx
    refine Fr.int (z:=(x * (D:Rat)).num * q.den) ?_ ?_
    ·rw [Int.natAbs_mul,Int.natAbs_natCast,Nat.pow_add]
     exact Nat.mul_lt_mul_of_lt_of_lt f2 hq.2
    ·have e4:(((D * q.den:Nat)):Rat)=(D:Rat) * (q.den:Rat):=by push_cast;rfl
     rw [e4,Rat.intCast_mul,← f1.eq]
     have:(((q.den:Nat):Int):Rat)=(q.den:Rat):=rfl
     rw [this]
     grind
theorem getD_set_eq {l:List Rat} {k:Nat} {x:Rat} (h:k < l.length):(l.set k x).getD k 0=x:=by simp [h]
theorem getD_set_ne' {l:List Rat} {k i:Nat} {x:Rat} (h:k ≠ i):(l.set k x).getD i 0=l.getD i 0:=by simp [h]
theorem getD_map_mul (l:List Rat) (c:Rat) (n:Nat):(l.map (· * c)).getD n 0=l.getD n 0 * c:=seq_map l c n
def mulR (os:List Rat) (n:Nat) (q:Rat):List Rat:=(os.take n).map (· * q) ++ os.drop n
theorem mulR_len (os:List Rat) (n:Nat) (q:Rat):(mulR os n q).length=os.length:=by
 unfold mulR
 rw [List.length_append,List.length_map,List.length_take,List.length_drop]
 omega
theorem mulR_take {os:List Rat} {n:Nat} (q:Rat) (h:n≤os.length):(mulR os n q).take n=(os.take n).map (· * q):=by
 unfold mulR
 rw [List.take_append_of_le_length (by rw [List.length_map,List.length_take];omega),List.take_of_length_le (by rw [List.length_map,List.length_take];omega)]
theorem getD_take {os:List Rat} {n i:Nat} (h:i < n):(os.take n).getD i 0=os.getD i 0:=by
 rw [List.getD_eq_getElem?_getD,List.getD_eq_getElem?_getD,List.getElem?_take_of_lt h]
theorem mulR_at {os:List Rat} {n i:Nat} (q:Rat) (h:n≤os.length) (hi:i < n):(mulR os n q).getD i 0=os.getD i 0 * q:=by
 rw [← getD_take hi,mulR_take q h,getD_map_mul,getD_take hi]
def subR (os:List Rat) (a:Nat) (q:List Rat) (c:Rat):Nat→List Rat
 | 0=>os
 | k+1=>(subR os a q c k).set (a+k) ((subR os a q c k).getD (a+k) 0 - c * q.getD k 0)
theorem subR_len (os:List Rat) (a:Nat) (q:List Rat) (c:Rat) (k:Nat):(subR os a q c k).length=os.length:=by
 induction k with
 | zero=>rfl
 | succ k ih=>unfold subR;rw [List.length_set,ih]
theorem subR_at (os:List Rat) (a:Nat) (q:List Rat) (c:Rat) (k:Nat) (h:a+k≤os.length) (i:Nat):(subR os a q c k).getD i 0=os.getD i 0 - if a≤i∧i < a+k then c * q.getD (i - a) 0 else 0:=by
 induction k with
 | zero=>rw [if_neg (by omega)];show os.getD i 0=_;grind
 | succ k ih =>
  have ih:=ih (by omega)
  have hl:=subR_len os a q c k
  unfold subR
  by_cases hi:a+k=i
  ·subst hi
   rw [getD_set_eq (by omega),ih,if_neg (by omega),if_pos (by omega),Nat.add_sub_cancel_left];grind
  ·rw [getD_set_ne' hi,ih]
   congr 1
   by_cases h2:a≤i∧i < a+k
   ·rw [if_pos h2,if_pos (by omega)]
   ·rw [if_neg h2,if_neg (by omega)]
structure DvI (p q:List Rat) (S U j:Nat) (sl r:List Rat) (f:Rat):Prop where
 fne:f ≠ 0
 fw:Wz (1+j * U) f
 sw:∀ x ∈ sl,Wz (S+j * (U+1)) x
 rz:∀ x ∈ r,Wz (S+j * (U+1)) x
 tzr:tz r=r
 eq:∀ n,f * seq p n=cv (seq sl) (seq q) n+seq r n
 lo:∀ i,i+q.length≤r.length→sl.getD i 0=0
 sl:sl.length+q.length=p.length+1
 rl:r.length+j≤p.length
 jl:j+q.length≤p.length+1
theorem mem_getD {l:List Rat} {x:Rat} (h:x ∈ l):∃ i,i < l.length∧l.getD i 0=x:=by
 obtain ⟨i,hi,rfl⟩:=List.getElem_of_mem h
 exact ⟨i,hi,by rw [List.getD_eq_getElem?_getD,List.getElem?_eq_getElem hi];rfl⟩
theorem getD_mem {l:List Rat} {i:Nat} (h:i < l.length):l.getD i 0 ∈ l:=by
 rw [List.getD_eq_getElem?_getD,List.getElem?_eq_getElem h]
 exact List.getElem_mem h
theorem DvI.step {p q:List Rat} {S U j:Nat} {sl r:List Rat} {f:Rat} (h:DvI p q S U j sl r f) (hq:0 < q.length) (h0:lead q ≠ 0) (hw:∀ x ∈ q,Wz U x) (hle:q.length≤r.length) {c:Rat} (hc:c=lead r / lead q)
  {r2:List Rat} (hl2:r2.length=r.length) (hr2:∀ i,i < r.length→r2.getD i 0=r.getD i 0 * ((c.den:Int):Rat) - if r.length - q.length≤i then (c.num:Rat) * q.getD (i - (r.length - q.length)) 0 else 0) :
  DvI p q S U (j+1) ((sl.map (· * ((c.den:Int):Rat))).set (r.length - q.length) (c.num:Rat)) (tz r2) (f * ((c.den:Int):Rat)):=by
 have hlw:Wz (S+j * (U+1)) (lead r):=h.rz _ (getD_mem (by omega))
 have hqw:Wz U (lead q):=hw _ (getD_mem (by omega))
 obtain ⟨wn,wd⟩:=hlw.parts hqw h0
 rw [← hc] at wn wd
 have hcd:=low c
 have hcq:c * lead q=lead r:=by rw [hc];exact pd_div h0
 have hd0:((c.den:Int):Rat) ≠ 0:=fun h1=>by
  have:c.den=0:=by exact_mod_cast h1
  exact c.den_nz this
 have hdd:((c.den:Int):Rat)=(c.den:Rat):=rfl
 have e1:S+(j+1) * (U+1)=(S+j * (U+1)+U)+1:=by rw [Nat.add_mul];omega
 have hsl:sl.length+q.length=p.length+1:=h.sl
 have hrl:=h.rl
 have hseq2:∀ i,seq r2 i=seq r i * ((c.den:Int):Rat) - (c.num:Rat) * shn (r.length - q.length) (seq q) i:=by
  intro i
  unfold shn seq
  rcases Nat.lt_or_ge i r.length with hi | hi
  ·rw [hr2 i hi]
   congr 1
   by_cases h2:r.length - q.length≤i
   ·rw [if_pos h2,if_pos h2]
   ·rw [if_neg h2,if_neg h2];grind
  ·rw [pd_over (l:=r2) (by omega),pd_over hi,if_pos (by omega),pd_over (l:=q) (by omega)];grind
 have htop:r2.getD (r.length - 1) 0=0:=by
  rw [hr2 _ (by omega),if_pos (by omega),show r.length - 1 - (r.length - q.length)=q.length - 1 by omega]
  show lead r * _ - _ * lead q=0
  rw [← hcq,← hcd,hdd];grind
 have hlt:(tz r2).length+1≤r.length:=by
  have h3:=tz_len_le r2
  rcases Nat.lt_or_ge (tz r2).length r.length with h4 | h4
  ·exact h4
  ·exact absurd htop (tz_last2 (by omega))
 refine ⟨?_,?_,?_,?_,tz_idem _,fun n=>?_,fun i hi=>?_,by rw [List.length_set,List.length_map];exact h.sl,by omega,by omega⟩
 ·intro h1
  rcases Rat.mul_eq_zero.1 h1 with h2 | h2
  ·exact h.fne h2
  ·exact hd0 h2
 ·exact (h.fw.mul wd).mono (by rw [Nat.add_mul];omega)
 ·intro x hx
  rcases List.mem_or_eq_of_mem_set hx with hx | rfl
  ·obtain ⟨y,hy,rfl⟩:=List.mem_map.1 hx
   exact ((h.sw y hy).mul wd).mono (by omega)
  ·exact wn.mono (by omega)
 ·intro x hx
  obtain ⟨i,hi,rfl⟩:=mem_getD hx
  rw [tz_getD',hr2 i (by omega),e1]
  refine Wz.sub ((h.rz _ (getD_mem (by omega))).mul wd) ?_
  by_cases h2:r.length - q.length≤i
  ·rw [if_pos h2]
   exact wn.mul (hw _ (getD_mem (by omega)))
  ·rw [if_neg h2];exact Wz.zero _
 ·rw [pd_set (by rw [List.length_map];omega) (by rw [getD_map_mul,h.lo _ (by omega)];grind),cv_add]
  show _=cv (seq (sl.map _)) (seq q) n+cv (fun n=>if n=r.length - q.length then (c.num:Rat) else 0) (seq q) n+_
  have e2:seq (sl.map (· * ((c.den:Int):Rat)))=fun n=>((c.den:Int):Rat) * seq sl n:=funext fun n=>by rw [seq_map];grind
  rw [cv_unit,seq_tz,hseq2,e2,cv_mul]
  have e3:=h.eq n
  show f * _ * seq p n=((c.den:Int):Rat) * cv (seq sl) (seq q) n+_+_
  grind
 ·rw [getD_set_ne' (by omega),getD_map_mul,h.lo i (by omega)];grind
theorem mulR_all {os:List Rat} {n:Nat} (q:Rat) (h:os.length=n):mulR os n q=os.map (· * q):=by
 unfold mulR
 rw [List.take_of_length_le (by omega),List.drop_of_length_le (by omega),List.append_nil]
theorem DvI.row {p q:List Rat} {S U j M m t:Nat} {sl ros:List Rat} {f:Rat} (h:DvI p q S U j sl (ros.take (t+m+1)) f) (hql:q.length=m+1) (hrl:t+m+1≤ros.length) (hsl:sl.length=M) (h0:lead q ≠ 0) (hw:∀ x ∈ q,Wz U x)
  {cq num den:Rat} (hc:cq=lead (ros.take (t+m+1)) / lead q) (hn:num=((cq.num:Int):Rat)) (hd:den=(((cq.den:Nat):Int):Rat)) :
  DvI p q S U (j+1) ((mulR sl M den).set t num) (tz ((subR (mulR ros (t+m+1) den) t q num (m+1)).take (t+m+1))) (f * den)∧(∀ x ∈ (subR (mulR ros (t+m+1) den) t q num (m+1)).take (t+m+1),Wz (S+j * (U+1)+U+1) x):=by
 have hrt:(ros.take (t+m+1)).length=t+m+1:=by rw [List.length_take];omega
 have hl2:((subR (mulR ros (t+m+1) den) t q num (m+1)).take (t+m+1)).length=(ros.take (t+m+1)).length:=by rw [List.length_take,subR_len,mulR_len,hrt];omega
 have hlw:Wz (S+j * (U+1)) (lead (ros.take (t+m+1))):=h.rz _ (getD_mem (by omega))
 have hqw:Wz U (lead q):=hw _ (getD_mem (by omega))
 obtain ⟨wn,wd⟩:=hlw.parts hqw h0
 rw [← hc] at wn wd
 have hr2:∀ i,i < (ros.take (t+m+1)).length→((subR (mulR ros (t+m+1) den) t q num (m+1)).take (t+m+1)).getD i 0=(ros.take (t+m+1)).getD i 0 * (((cq.den:Nat):Int):Rat) - if (ros.take (t+m+1)).length - q.length≤i then ((cq.num:Int):Rat) * q.getD (i - ((ros.take (t+m+1)).length - q.length)) 0 else 0:=by
  intro i hi
  rw [hrt] at hi
  rw [hrt,hql,getD_take hi,getD_take hi,subR_at _ _ _ _ _ (by rw [mulR_len];omega),mulR_at _ (by omega) hi,← hd,← hn,show t+m+1 - (m+1)=t by omega]
  congr 1
  by_cases h2:t≤i
  ·rw [if_pos h2,if_pos (by omega)]
  ·rw [if_neg h2,if_neg (by omega)]
 have h1:=h.step (by omega) h0 hw (by omega) hc hl2 hr2
 rw [hrt,hql,show t+m+1 - (m+1)=t by omega,← hd,← hn,← mulR_all _ hsl] at h1
 refine ⟨h1,fun x hx=>?_⟩
 obtain ⟨i,hi,rfl⟩:=mem_getD hx
 rw [hr2 i (by omega)]
 refine Wz.sub ((h.rz _ (getD_mem (by omega))).mul wd) ?_
 by_cases h2:(ros.take (t+m+1)).length - q.length≤i
 ·rw [if_pos h2]
  exact wn.mul (hw _ (getD_mem (by omega)))
 ·rw [if_neg h2];exact Wz.zero _
end Go.Proofs.YtpieblkklbilgaaGreat
