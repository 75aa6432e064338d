/- Py1, Py2 -/
import Derived.Test.YtpieblkklbilgaaGreatQKM7
import Derived.Test.YtpieblkklbilgaaGreatQKM8
import Derived.Test.YtpieblkklbilgaaGreatQKM22
import Derived.Test.YtpieblkklbilgaaGreatQKM12
set_option linter.unusedVariables false
namespace Go.Proofs.YtpieblkklbilgaaGreat
open Go.RowKit Go.Front Go.Num
attribute [local go_sem] XW.cell XW.frozen
def RowC (w:World) (L:Nat) (os:List Rat):Prop:=∃ rs re,RBk w L rs re∧re.toList.all nonU=true∧Vals CanR w rs os
theorem RowC.ext {w w':World} {L:Nat} {os:List Rat} (h:RowC w L os) (he:Ext w w'):RowC w' L os:=let ⟨rs,re,h1,h0,h2⟩:=h;⟨rs,re,h1.ext he,h0,h2.can_ext he⟩
theorem RowC.lt {w:World} {L:Nat} {os:List Rat} (h:RowC w L os):L < w.heap.size:=let ⟨_,_,h1,_⟩:=h;h1.lt
theorem RowC.frozen {w:World} {L:Nat} {os:List Rat} (h:RowC w L os) (i:Nat):w.frozen? ⟨L,i,none⟩=false:=let ⟨_,_,h1,_⟩:=h;h1.frozen i
theorem RowC.cells {w:World} {L:Nat} {os:List Rat} (h:RowC w L os) {k:Nat} (hk:k < os.length):∃ r,RAt w L (k * 3) r∧CanR w r (os.getD k 0):=by
 obtain ⟨rs,re,h1,h0,h2⟩:=h
 exact ⟨_,h1.at (by rw [h2.1];exact hk),h2.2 k hk⟩
theorem RowC.can {w:World} {L M c:Nat} {os:List Rat} (h:RowC w L os) (hl:os.length=M) (hc:M≤c) (hM:c≤9223372036854775807):CanL w ⟨some ⟨L,0,none⟩,M,c⟩ os:=by
 obtain ⟨rs,re,h1,h0,h2⟩:=h
 exact ⟨rs,h1.rs (by rw [h2.1,hl]) hc hM,h2⟩
theorem RowC.put {w1 w2:World} {L b:Nat} {os:List Rat} {T:TypeId} {cs:Array Value} (h:RowC w1 L os) (T2:PutB w1 b T cs w2) (hb:b ≠ L):RowC w2 L os:=by
 obtain ⟨rs,re,h1,h0,h2⟩:=h
 exact ⟨rs,re,T2.rest L _ (Ne.symm hb) h1,h0,h2.keep T2.keep⟩
theorem nm_row {w1:World} {L k:Nat} {os:List Rat} {q:Rat} {F:World→Prop} {x:RH} (h:RowC w1 L os) (hk:k < os.length) (hx:CanR w1 x q)
  (H:∀ w2,(∃ cs,PutB w1 L 30 cs w2)→RowC w2 L (os.set k q)→F w2) :
  F (((w1.setCell ⟨L,k * 3,none⟩ (.bool x.neg)).setCell ⟨L,k * 3+1,none⟩ (.slice x.a x.n x.c)).setCell ⟨L,k * 3+2,none⟩ (.slice x.b x.m x.d)):=by
 obtain ⟨rs,re,h1,h0,h2⟩:=h
 refine nm_rat h1 h0 (by rw [h2.1];exact hk) fun w2 T=>H w2 ⟨_,T⟩ ⟨rs.set k x,re,T.bx,h0,(h2.keep T.keep).set (hx.keep T.keep) k⟩
theorem PreC.row {w:World} {L M:Nat} {rs:List RH} {ts:List Rat} (h:PreC w rs ts) (hb:RBk w L rs #[]) (hl:rs.length=M) (ht:ts.length=M):RowC w L ts:=⟨rs,#[],hb,rfl,by rw [hl,ht],h⟩
def NewRow (B:Nat) (w:World) (x:SH) (os:List Rat):Prop:=∃ L,B≤L∧x=⟨some ⟨L,0,none⟩,os.length,os.length⟩∧RowC w L os
theorem NewRow.ext {B:Nat} {w w':World} {x:SH} {os:List Rat} (h:NewRow B w x os) (he:Ext w w'):NewRow B w' x os:=let ⟨L,h1,h2,h3⟩:=h;⟨L,h1,h2,h3.ext he⟩
theorem NewRow.new {B:Nat} {w:World} {x:SH} {os:List Rat} (h:NewRow B w x os) (hl:os.length≤9223372036854775807):NewL B w x os:=by
 obtain ⟨L,h1,rfl,rs,re,h3,h0,h4⟩:=h
 exact ⟨rs,h3.rs h4.1 (Nat.le_refl _) hl,h4,Or.inr ⟨L,0,rfl,h1,h3.lt⟩⟩
theorem pu32_one {w:World} {L:Nat} {T:TypeId} (h:w.heap[L]?=some (.cells #[.int .u32 1] T (0,0))):U32 w (some ⟨L,0,none⟩) 1 1 (digs 1):=by
 rw [digs_one]
 refine ⟨rfl,Nat.le_refl _,by decide,fun d hd=>?_,Or.inr ⟨L,0,rfl,fun k hk=>?_⟩⟩
 ·obtain rfl:d=1:=by simpa using hd
  decide
 ·obtain rfl:k=0:=by omega
  rw [blk_cell h]
  rfl
theorem nm_twod {w1:World} {b b':Nat} {T T':TypeId} {c0 c1 c2 v0 v1 v2 c0' c1' c2' v0' v1' v2':Value} {F:World→Prop} (hb:w1.heap[b]?=some (.cells #[c0,c1,c2] T (0,0))) (hn:#[c0,c1,c2].toList.all nonU=true)
  (hb':w1.heap[b']?=some (.cells #[c0',c1',c2'] T' (0,0))) (hn':#[c0',c1',c2'].toList.all nonU=true) (hne:b' ≠ b)
  (H:∀ w2 w3 w4,PutB w1 b T #[v0,v1,v2] w2→PutB w2 b' T' #[v0',v1',v2'] w3→Ext w3 w4→F w4) :
  F ((((((w1.setCell ⟨b,0,none⟩ v0).setCell ⟨b,1,none⟩ v1).setCell ⟨b,2,none⟩ v2).setCell ⟨b',0,none⟩ v0').setCell ⟨b',1,none⟩ v1').setCell ⟨b',2,none⟩ v2').drew :=
 nm_set3 (v0:=v0) (v1:=v1) (v2:=v2) (F:=fun W=>F ((((W.setCell ⟨b',0,none⟩ v0').setCell ⟨b',1,none⟩ v1').setCell ⟨b',2,none⟩ v2').drew)) hb hn fun w2 T2 =>
  nm_set3 (v0:=v0') (v1:=v1') (v2:=v2') (F:=fun W=>F W.drew) (T2.rest _ _ hne hb') hn' fun w3 T3=>H w2 w3 _ T2 T3 (Ext.drew _)
abbrev PT (x:RH × RH):Value:=.tuple #[x.1.v,x.2.v]
theorem Sz.denz {k:Nat} {q:Rat} (h:Sz k q):Sz k ((q.den:Int):Rat):=⟨by rw [Rat.num_intCast];simpa using h.2,by rw [Rat.den_intCast];have:=W32_pow_ge h.one_le;omega⟩
structure Mut (L:Nat) (w w':World):Prop where
 keep:Keep w w'
 mods:Mods (·=L) w w'
theorem Mut.of_ext {L:Nat} {w w':World} (h:Ext w w'):Mut L w w':=⟨keep_ext h,Mods.of_ext h⟩
theorem Mut.trans {L:Nat} {a b c:World} (h:Mut L a b) (k:Mut L b c):Mut L a c:=⟨h.keep.trans k.keep,h.mods.trans k.mods⟩
theorem Mut.put {L b:Nat} {w w1 w2:World} {T:TypeId} {cs:Array Value} (h:Mut L w w1) (T2:PutB w1 b T cs w2) (hb:b=L ∨ w.heap.size≤b):Mut L w w2:=⟨h.keep.trans T2.keep,Mods.put h.mods T2 hb⟩
theorem Mut.rest {L:Nat} {w w':World} (h:Mut L w w') (k:Nat) (o:Obj) (hk:k ≠ L) (ho:w.heap[k]?=some o):w'.heap[k]?=some o:=h.mods.blk hk ho
theorem Mut.size {L:Nat} {w w':World} (h:Mut L w w'):w.heap.size≤w'.heap.size:=h.mods.size
theorem Mut.ext {L:Nat} {w0 w w':World} (h:Mut L w w') (hE:Ext w0 w) (hL:w0.heap.size≤L):Ext w0 w' :=
 Ext.of_below (N:=w0.heap.size) hE (h.mods.below hE.size fun k hk=>by have hk:k=L:=hk;omega) (Nat.le_refl _)
theorem RS.mut {w w':World} {M lo hi:Nat} {s:SH} {rs:List RH} (h:RS w s rs) (hp:s.n=0 ∨ ∃ b off,s.a=some ⟨b,off,none⟩∧lo≤b∧b < hi) (T:Mut M w w') (hb:M < lo ∨ hi≤M):RS w' s rs:=by
 refine ⟨h.len,h.le,h.max,?_⟩
 rcases hp with h0 | ⟨x,o,e,h1,h2⟩
 ·exact Or.inl h0
 ·rcases h.at' with h0 | ⟨b,off,e2,hc⟩
  ·exact Or.inl h0
  ·rw [e] at e2
   obtain ⟨rfl,rfl⟩:x=b∧o=off:=by simpa using e2
   refine Or.inr ⟨x,o,e,fun k hk=>?_⟩
   have h3:=hc k hk
   have hl:=World.block_lt_of_cell? _ _ h3.1
   simp only at hl
   have hbk:w'.heap[x]?=w.heap[x]?:=by
    rw [Array.getElem?_eq_getElem hl]
    exact T.rest x _ (by omega) (Array.getElem?_eq_getElem hl)
   have cc:∀ i,w'.cell? ⟨x,i,none⟩=w.cell? ⟨x,i,none⟩:=fun i=>World.cell?_of_block (w:=w) hbk
   exact ⟨(cc _).trans h3.1,(cc _).trans h3.2.1,(cc _).trans h3.2.2⟩
theorem LIn.mut {w w':World} {M lo hi:Nat} {s:SH} {qs:List Rat} (h:LIn w s qs lo hi) (T:Mut M w w') (hb:M < lo ∨ hi≤M):LIn w' s qs lo hi:=by
 obtain ⟨rs,h1,h2,h3⟩:=h
 exact ⟨rs,h1.mut h3 T hb,h2.keep T.keep,h3⟩
theorem mul_step {os:List Rat} {q:Rat} {i:Nat} (hi:i < os.length):(mulR os i q).set i (os.getD i 0 * q)=mulR os (i+1) q:=by
 unfold mulR
 have h1:((os.take i).map (· * q)).length=i:=by rw [List.length_map,List.length_take];omega
 rw [List.set_append_right _ _ (by omega),h1,Nat.sub_self,List.take_add_one,List.map_append,List.append_assoc]
 congr 1
 rw [List.drop_eq_getElem_cons hi,List.set_cons_zero,List.getElem?_eq_getElem hi,List.getD_eq_getElem?_getD,List.getElem?_eq_getElem hi]
 rfl
end Go.Proofs.YtpieblkklbilgaaGreat
