/- Package bernstein: what Prove finds, in plain words. -/
import Derived.Test.YtpieblkklbilgaaGreatQKBP
import Derived.Test.YtpieblkklbilgaaGreatQKBn8
import Derived.Test.YtpieblkklbilgaaGreatQKOwi
set_option linter.unusedVariables false
namespace Go.Proofs.YtpieblkklbilgaaGreat
open Go.Num Stab
def psV (p:List Rat) (a b:Rat):Bool:=!p.isEmpty && decide (0 < mnL (bcL p a b))
def rcl:Nat→List Rat→Rat→Rat→Option (List Rat)
 | 0,p,a,b=>if psV p a b then some [a,b] else none
 | d+1,p,a,b=>if psV p a b then some [a,b] else
  match rcl d p a (mdV a b) with
  | none=>none
  | some x=>match rcl d p (mdV a b) b with
   | none=>none
   | some y=>some (x ++ y)
theorem posL_iff {l:List Rat} (h:l ≠ []):posL l=decide (0 < mnL l):=by
 have e:posL l=true↔0 < mnL l:=by
  unfold posL
  rw [List.all_eq_true]
  constructor
  ·intro h1;exact of_decide_eq_true (h1 _ (mnL_mem h).1)
  ·intro h1 x hx
   obtain ⟨k,hk,rfl⟩:=List.mem_iff_getElem.1 hx
   have:=(mnL_le (l:=l) hk).1
   rw [List.getD_eq_getElem?_getD,List.getElem?_eq_getElem hk] at this
   exact decide_eq_true (by simp at this;grind)
 by_cases h2:0 < mnL l
 ·rw [decide_eq_true h2];exact e.2 h2
 ·rw [decide_eq_false h2]
  rcases hb:posL l with _ | _
  ·rfl
  ·exact absurd (e.1 hb) h2
theorem bcL_ne {p:List Rat} (hp:p ≠ []) (a b:Rat):bcL p a b ≠ []:=fun h=>by
 have:=bcL_len p a b
 rw [h] at this
 exact hp (List.length_eq_zero_iff.1 this.symm)
theorem psV_ne {p:List Rat} (hp:p ≠ []) (a b:Rat):psV p a b=decide (0 < mnL (bcL p a b)):=by
 unfold psV
 have:p.isEmpty=false:=by rw [List.isEmpty_eq_false_iff];exact hp
 rw [this]
 rfl
theorem psV_pos {p:List Rat} {a b:Rat} (h:psV p a b=true) {x:Rat} (h1:a≤x) (h2:x≤b):0 < evV p x:=by
 have hp:p ≠ []:=fun e=>by rw [e] at h;simp [psV] at h
 rw [psV_ne hp] at h
 have h:=of_decide_eq_true h
 have:=(rb_in hp 0 a b x h1 h2).1
 unfold rbn at this
 grind
theorem posL_lc {p:List Rat} (hp:p ≠ []) {c:Rat} (hc:0 < c) (a b:Rat):posL ((bcL p a b).map (c * ·))=psV p a b:=by
 rw [posL_iff (fun h=>bcL_ne hp a b (List.map_eq_nil_iff.1 h)),psV_ne hp,(mL_mul hc _).1]
 have:(0:Rat) < c * mnL (bcL p a b)↔0 < mnL (bcL p a b):=by
  have:=Rat.mul_lt_mul_left (a:=0) (b:=mnL (bcL p a b)) hc
  rwa [Rat.mul_zero] at this
 exact decide_eq_decide.2 this
theorem rcl_none (d:Nat) {p:List Rat}:∀ {a b:Rat},a≤b→(evV p a≤0 ∨ evV p b≤0)→rcl d p a b=none:=by
 have hps:∀ {a b:Rat},a≤b→(evV p a≤0 ∨ evV p b≤0)→psV p a b=false:=by
  intro a b hab h
  rcases hb:psV p a b with _ | _
  ·rfl
  ·have h1:=psV_pos hb Rat.le_refl hab
   have h2:=psV_pos hb hab Rat.le_refl
   grind
 induction d with
 | zero=>intro a b hab h;unfold rcl;rw [hps hab h];rfl
 | succ d ih =>
  intro a b hab h
  unfold rcl
  rw [hps hab h]
  simp only [Bool.false_eq_true,if_false]
  obtain ⟨g1,g2⟩:=md_le hab
  rcases h1:rcl d p a (mdV a b) with _ | x
  ·rfl
  ·rcases h2:rcl d p (mdV a b) b with _ | y
   ·rfl
   ·exfalso
    rcases h with h | h
    ·rw [ih g1 (Or.inl h)] at h1;cases h1
    ·rw [ih g2 (Or.inr h)] at h2;cases h2
def ckV (p:List Rat):Rat→List (Rat × Rat)→Rat→Bool
 | at',[],hi=>decide (at'=hi)
 | at',(a,b) :: l,hi=>decide (a=at') && psV p a b && ckV p b l hi
def prs:List Rat→List (Rat × Rat)
 | a :: b :: l=>(a,b) :: prs l
 | _=>[]
theorem prs_app {x y:List Rat} (h:x.length % 2=0):prs (x ++ y)=prs x ++ prs y:=by
 induction x using prs.induct with
 | case1 a b l ih =>
  show _ :: prs (l ++ y)=_ :: (prs l ++ prs y)
  rw [ih (by simp only [List.length_cons] at h;omega)]
 | case2 x hx =>
  cases x with
  | nil=>rfl
  | cons a x=>cases x with
   | nil=>simp at h
   | cons b x=>exact absurd rfl (hx a b x)
theorem ck_app {p:List Rat} {x y:List (Rat × Rat)} {a m hi:Rat} (h1:ckV p a x m=true) (h2:ckV p m y hi=true):ckV p a (x ++ y) hi=true:=by
 induction x generalizing a with
 | nil =>
  have:a=m:=of_decide_eq_true h1
  subst this
  exact h2
 | cons c x ih =>
  obtain ⟨u,v⟩:=c
  simp only [ckV,Bool.and_eq_true] at h1
  simp only [List.cons_append,ckV,Bool.and_eq_true]
  exact ⟨h1.1,ih h1.2⟩
theorem rcl_ck (d:Nat) {p:List Rat}:∀ {a b:Rat} {x:List Rat},rcl d p a b=some x→x.length % 2=0∧x ≠ []∧ckV p a (prs x) b=true:=by
 have h0:∀ {a b:Rat},psV p a b=true→ckV p a (prs [a,b]) b=true:=fun h=>by simp [prs,ckV,h]
 induction d with
 | zero =>
  intro a b x h
  unfold rcl at h
  by_cases hps:psV p a b=true
  ·rw [if_pos hps] at h
   cases h
   exact ⟨by simp,by simp,h0 hps⟩
  ·rw [if_neg hps] at h;cases h
 | succ d ih =>
  intro a b x h
  unfold rcl at h
  by_cases hps:psV p a b=true
  ·rw [if_pos hps] at h
   cases h
   exact ⟨by simp,by simp,h0 hps⟩
  ·rw [if_neg hps] at h
   rcases h1:rcl d p a (mdV a b) with _ | u
   ·rw [h1] at h;cases h
   ·rw [h1] at h
    rcases h2:rcl d p (mdV a b) b with _ | v
    ·rw [h2] at h;cases h
    ·rw [h2] at h
     cases h
     obtain ⟨e1,e2,e3⟩:=ih h1
     obtain ⟨f1,f2,f3⟩:=ih h2
     refine ⟨by rw [List.length_append];omega,fun e=>e2 (List.append_eq_nil_iff.1 e).1,?_⟩
     rw [prs_app e1]
     exact ck_app e3 f3
end Go.Proofs.YtpieblkklbilgaaGreat
/- Lists of intervals in any form; what Check says. -/
set_option linter.unusedVariables false
namespace Go.Proofs.YtpieblkklbilgaaGreat
open Go.RowKit Go.Front Go.Num Stab
attribute [local go_sem] XW.cell XW.frozen
structure IvS (w:World) (s:SH) (rs:List RH):Prop where
 len:rs.length=s.n * 2
 le:s.n≤s.c
 max:s.c≤9223372036854775807
 at':s.n=0 ∨ ∃ b off,s.a=some ⟨b,off,none⟩∧∀ k,k < s.n * 2→RAt w b (off+k * 3) (rs.getD k default)
theorem IvS.ext {w w':World} {s:SH} {rs:List RH} (h:IvS w s rs) (he:Ext w w'):IvS w' s rs :=
 ⟨h.len,h.le,h.max,h.at'.imp id fun ⟨b,off,h1,h2⟩=>⟨b,off,h1,fun k hk=>(h2 k hk).ext he⟩⟩
theorem IvS.nil (w:World):IvS w ⟨none,0,0⟩ []:=⟨rfl,Nat.le_refl _,by decide,Or.inl rfl⟩
def RawIL (w:World) (s:SH) (qs:List Rat):Prop:=∃ rs,IvS w s rs∧Vals RawR w rs qs
def CanIL (w:World) (s:SH) (qs:List Rat):Prop:=∃ rs,IvS w s rs∧Vals CanR w rs qs
theorem RawIL.ext {w w':World} {s:SH} {qs:List Rat} (h:RawIL w s qs) (he:Ext w w'):RawIL w' s qs:=let ⟨rs,h1,h2⟩:=h;⟨rs,h1.ext he,h2.raw_ext he⟩
theorem CanIL.ext {w w':World} {s:SH} {qs:List Rat} (h:CanIL w s qs) (he:Ext w w'):CanIL w' s qs:=let ⟨rs,h1,h2⟩:=h;⟨rs,h1.ext he,h2.can_ext he⟩
theorem RawIL.len {w:World} {s:SH} {qs:List Rat} (h:RawIL w s qs):qs.length=s.n * 2:=let ⟨_,h1,h2⟩:=h;h2.1.symm.trans h1.len
theorem CanIL.len {w:World} {s:SH} {qs:List Rat} (h:CanIL w s qs):qs.length=s.n * 2:=let ⟨_,h1,h2⟩:=h;h2.1.symm.trans h1.len
theorem CanIL.nil (w:World):CanIL w ⟨none,0,0⟩ []:=⟨[],IvS.nil _,Vals.nil _ _⟩
theorem CanIL.raw {w:World} {s:SH} {qs:List Rat} {k:Nat} (h:CanIL w s qs) (hs:SzL k qs) (hk:k≤134217728):RawIL w s qs :=
 let ⟨rs,h1,h2⟩:=h;⟨rs,h1,h2.1,fun i hi=>(h2.2 i hi).raw (hs.at hi) hk⟩
theorem OwnI.can {w:World} {D:Nat→Prop} {s:SH} {n:Nat} {qs:List Rat} (h:OwnI w D s.v n qs):s.n=n∧CanIL w s qs:=by
 obtain ⟨rs,h1,h2⟩:=h
 rcases h1 with ⟨e,rfl,rfl⟩ | ⟨L,cap,re,e,h3,h4,h5,h6,h7,h8⟩
 ·obtain ⟨a,m,c⟩:=s
  simp only [SH.v,Value.slice.injEq] at e
  obtain ⟨rfl,rfl,rfl⟩:=e
  exact ⟨rfl,[],IvS.nil _,h2⟩
 ·obtain ⟨a,m,c⟩:=s
  simp only [SH.v,Value.slice.injEq] at e
  obtain ⟨rfl,rfl,rfl⟩:=e
  exact ⟨rfl,rs,⟨h5,h6,h7,Or.inr ⟨L,0,rfl,fun k hk=>by rw [Nat.zero_add];exact h4.at (by rw [h5];exact hk)⟩⟩,h2⟩
def IAt (w:World) (b o:Nat) (r t:RH):Prop:=w.cell? ⟨b,o,none⟩=some (.bool r.neg)∧w.cell? ⟨b,o+1,none⟩=some (.slice r.a r.n r.c)∧w.cell? ⟨b,o+2,none⟩=some (.slice r.b r.m r.d) ∧
 w.cell? ⟨b,o+3,none⟩=some (.bool t.neg)∧w.cell? ⟨b,o+4,none⟩=some (.slice t.a t.n t.c)∧w.cell? ⟨b,o+5,none⟩=some (.slice t.b t.m t.d)
theorem RawIL.at {w:World} {ao:Option Addr} {n c:Nat} {qs:List Rat} (h:RawIL w ⟨ao,n,c⟩ qs) {k:Nat} (hk:k < n) :
  ∃ b off r t,ao=some ⟨b,off,none⟩∧b < w.heap.size∧IAt w b (off+k * 6) r t∧RawR w r (qs.getD (2 * k) 0)∧RawR w t (qs.getD (2 * k+1) 0):=by
 have hl:=h.len
 obtain ⟨rs,h1,h2⟩:=h
 rcases h1.at' with h0 | ⟨b,off,h3,h4⟩
 ·simp only at h0;omega
 ·simp only at h3 h4 hl
  have g1:=h4 (2 * k) (by omega)
  have g2:=h4 (2 * k+1) (by omega)
  rw [show off+2 * k * 3=off+k * 6 by omega] at g1
  rw [show off+(2 * k+1) * 3=off+k * 6+3 by omega] at g2
  exact ⟨b,off,_,_,h3,World.block_lt_of_cell? _ _ g1.1,⟨g1.1,g1.2.1,g1.2.2,g2.1,g2.2.1,g2.2.2⟩,h2.2 (2 * k) (by omega),h2.2 (2 * k+1) (by omega)⟩
theorem CanIL.at {w:World} {ao:Option Addr} {n c:Nat} {qs:List Rat} (h:CanIL w ⟨ao,n,c⟩ qs) {k:Nat} (hk:k < n) :
  ∃ b off r t,ao=some ⟨b,off,none⟩∧b < w.heap.size∧IAt w b (off+k * 6) r t∧CanR w r (qs.getD (2 * k) 0)∧CanR w t (qs.getD (2 * k+1) 0):=by
 have hl:=h.len
 obtain ⟨rs,h1,h2⟩:=h
 rcases h1.at' with h0 | ⟨b,off,h3,h4⟩
 ·simp only at h0;omega
 ·simp only at h3 h4 hl
  have g1:=h4 (2 * k) (by omega)
  have g2:=h4 (2 * k+1) (by omega)
  rw [show off+2 * k * 3=off+k * 6 by omega] at g1
  rw [show off+(2 * k+1) * 3=off+k * 6+3 by omega] at g2
  exact ⟨b,off,_,_,h3,World.block_lt_of_cell? _ _ g1.1,⟨g1.1,g1.2.1,g1.2.2,g2.1,g2.2.1,g2.2.2⟩,h2.2 (2 * k) (by omega),h2.2 (2 * k+1) (by omega)⟩
def tps (qs:List Rat):List (Rat × Rat):=(prs qs).map (fun x=>(loV x.1 x.2,hiV x.1 x.2))
theorem prs_len:∀ qs:List Rat,(prs qs).length=qs.length / 2
 | []=>rfl
 | [a]=>by simp [prs]
 | a :: b :: l=>by
  show (prs l).length+1=_
  rw [prs_len l]
  simp only [List.length_cons]
  omega
theorem prs_at:∀ (qs:List Rat) (k:Nat),2 * k+1 < qs.length→(prs qs)[k]?=some (qs.getD (2 * k) 0,qs.getD (2 * k+1) 0)
 | [],k,h=>by simp at h
 | [_],k,h=>by simp at h
 | a :: b :: l,0,_=>rfl
 | a :: b :: l,k+1,h=>by
  show (prs l)[k]?=_
  rw [prs_at l k (by simp only [List.length_cons] at h;omega)]
  rfl
theorem tps_len (qs:List Rat):(tps qs).length=qs.length / 2:=by unfold tps;rw [List.length_map,prs_len]
theorem tps_drop {qs:List Rat} {k:Nat} (h:2 * k+1 < qs.length):(tps qs).drop k=(loV (qs.getD (2 * k) 0) (qs.getD (2 * k+1) 0),hiV (qs.getD (2 * k) 0) (qs.getD (2 * k+1) 0)) :: (tps qs).drop (k+1):=by
 have hl:k < (tps qs).length:=by rw [tps_len];omega
 rw [List.drop_eq_getElem_cons hl]
 congr 1
 have e:(tps qs)[k]?=some (loV (qs.getD (2 * k) 0) (qs.getD (2 * k+1) 0),hiV (qs.getD (2 * k) 0) (qs.getD (2 * k+1) 0)):=by
  unfold tps
  rw [List.getElem?_map,prs_at qs k h]
  rfl
 rw [List.getElem?_eq_getElem hl] at e
 exact Option.some.inj e
def ckE (p:List Rat) (lo hi:Rat) (l:List (Rat × Rat)):Int:=if l ≠ []∧ckV p lo l hi=true then 0 else 22
theorem ckE_nil (p:List Rat) (lo hi:Rat):ckE p lo hi []=22:=if_neg (fun h=>h.1 rfl)
theorem psV_nil (a b:Rat):psV [] a b=false:=rfl
theorem ckE_zero (lo hi:Rat) (l:List (Rat × Rat)):ckE [] lo hi l=22:=by
 cases l with
 | nil=>exact ckE_nil _ _ _
 | cons x l =>
  refine if_neg (fun h=>?_)
  have h2:=h.2
  unfold ckV at h2
  rw [psV_nil] at h2
  simp at h2
theorem ck_no {p:List Rat} {lo hi:Rat} {l:List (Rat × Rat)} (h:ckV p lo l hi=false):ckE p lo hi l=22:=if_neg (fun h2=>by rw [h] at h2;exact absurd h2.2 (by decide))
theorem ck_yes {p:List Rat} {lo hi:Rat} {l:List (Rat × Rat)} (h0:l ≠ []) (h:ckV p lo l hi=true):ckE p lo hi l=0:=if_pos ⟨h0,h⟩
end Go.Proofs.YtpieblkklbilgaaGreat
