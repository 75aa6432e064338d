/- Package bernstein: the closure of Prove. -/
import Derived.Test.YtpieblkklbilgaaGreatQKBn5
import Derived.Test.YtpieblkklbilgaaGreatQKBn6
import Derived.Test.YtpieblkklbilgaaGreatQKOwi
import Derived.Test.YtpieblkklbilgaaGreatQKIv2
set_option linter.unusedVariables false
namespace Go.Proofs.YtpieblkklbilgaaGreat
open Go.RowKit Go.Front Go.Num Stab
attribute [local go_sem] XW.cell XW.frozen
theorem mods_then {E F:Nat→Prop} {w a b:World} (h:Mods E w a) (m:Mods F a b) (hs:∀ k,k < w.heap.size→F k→E k):Mods E w b :=
 ⟨m.os.trans h.os,m.tape.trans h.tape,m.output.trans h.output,Nat.le_trans h.size m.size,fun k hk he=>(m.block k (Nat.lt_of_lt_of_le hk h.size) (fun hf=>he (hs k hk hf))).trans (h.block k hk he)⟩
def BuiltI (w:World) (p:Nat × (RH × RH)) (a b:Rat):Prop:=IBk w p.1 [p.2.1,p.2.2] #[]∧IvC w p.2 a b
theorem BuiltI.ext {w w':World} {p:Nat × (RH × RH)} {a b:Rat} (h:BuiltI w p a b) (he:Ext w w'):BuiltI w' p a b:=⟨h.1.ext he,h.2.ext he⟩
theorem ibk_one {w:World} {N:Nat} {x:RH × RH} (h:w.heap[N]?=some (.cells #[.bool x.1.neg,.slice x.1.a x.1.n x.1.c,.slice x.1.b x.1.m x.1.d,.bool x.2.neg,.slice x.2.a x.2.n x.2.c,.slice x.2.b x.2.m x.2.d] 44 (0,0))):IBk w N [x.1,x.2] #[]:=by
 unfold IBk
 rw [h]
 rfl
theorem spec_buildI {P:Program} {o:Oper} {a:Act} {w:World} {T:TypeId} (x:RH × RH) (p q:Rat) (hx:IvC w x p q) (hT:T=44)
  (hrun:(execOp a.eval o).run P w=.ok (.value (.slice (some ⟨w.heap.size,0,none⟩) 1 1)) (w.alloc (.cells #[.bool x.1.neg,.slice x.1.a x.1.n x.1.c,.slice x.1.b x.1.m x.1.d,.bool x.2.neg,.slice x.2.a x.2.n x.2.c,.slice x.2.b x.2.m x.2.d] T))) :
  specAt P o a w (fun p:Nat × (RH × RH)=>.slice (some ⟨p.1,0,none⟩) 1 1) (fun y w'=>BuiltI w' y p q):=by
 subst hT
 unfold specAt
 rw [hrun]
 exact ⟨Ext.alloc _ _,(w.heap.size,x),rfl,ibk_one (heap_alloc_new _ _),hx.ext (Ext.alloc _ _)⟩
theorem BuiltI.at {w:World} {p:Nat × (RH × RH)} {a b:Rat} (h:BuiltI w p a b):∀ k,k < 1 * 2→RAt w p.1 (0+k * 3) ([p.2.1,p.2.2].getD k default):=fun k hk=>by
 rw [Nat.zero_add]
 exact h.1.at hk
theorem BuiltI.vals {w:World} {p:Nat × (RH × RH)} {a b:Rat} (h:BuiltI w p a b):Vals CanR w [p.2.1,p.2.2] [a,b]:=⟨rfl,fun k hk=>by
 have hk:k < 2:=hk
 have:k=0 ∨ k=1:=by omega
 rcases this with rfl | rfl
 ·exact h.2.1
 ·exact h.2.2⟩
def CvI (w:World) (bc bf:Nat) (D:Nat→Prop) (n:Nat) (qs:List Rat) (v:Value):Prop :=
 w.heap[bc]?=some (.cells #[v] 46 (0,0)) ∧
 w.heap[bf]?=some (.cells #[.func (.func 87) #[] #[.pointer (some ⟨bc,0,none⟩),.pointer (some ⟨bf,0,none⟩)]] 113 (0,0)) ∧
 OwnI w D v n qs∧(∀ k,D k→k < w.heap.size∧k ≠ bc∧k ≠ bf)∧bc ≠ bf
def CovP (bc bf N d:Nat):Prop :=
 ∀ (e:Nat),d+e=12→∀ (s t:RH) (a b:Rat) (ao:Option Addr) (cap:Nat) (l:List Rat) (T S n:Nat) (v:Value) (D:Nat→Prop) (qs:List Rat) (w:World),
 CanR w s a→CanR w t b→Sz T a→Sz T b→(T+3) * 2 ^ d≤10000000→CanL w ⟨ao,N,cap⟩ l→(∀ x ∈ l,Wz S x)→1≤S→S+9 * d≤900000→CvI w bc bf D n qs v→n+2 ^ d≤10000 →
 Calls Tryz.prog 87 #[s.v,t.v,.slice ao N cap,.int .i64 (e:Nat),.pointer (some ⟨bc,0,none⟩),.pointer (some ⟨bf,0,none⟩)] w (fun r w'=>r=.returned (.bool (cvV d a b l).isSome)∧Mods (fun k=>k=bc ∨ D k) w w'∧Keep w w' ∧
  ∃ v' n' D' qs',CvI w' bc bf D' n' qs' v'∧(∀ k,D' k→D k ∨ w.heap.size≤k)∧n'≤n+2 ^ d∧∀ x,cvV d a b l=some x→qs'=qs ++ x)
theorem CvI.ext {w w':World} {bc bf n:Nat} {D:Nat→Prop} {qs:List Rat} {v:Value} (h:CvI w bc bf D n qs v) (he:Ext w w'):CvI w' bc bf D n qs v :=
 let ⟨h1,h2,h3,h4,h5⟩:=h
 ⟨he.block h1,he.block h2,h3.ext he,fun k hk=>⟨Nat.lt_of_lt_of_le (h4 k hk).1 he.size,(h4 k hk).2⟩,h5⟩
theorem spec_build2b {P:Program} {o:Oper} {a:Act} {w:World} {T:TypeId} (x y:RH) (p q:Rat) (hx:CanR w x p) (hy:CanR w y q) (hT:T=30)
  (hrun:(execOp a.eval o).run P w=.ok (.value (.slice (some ⟨w.heap.size,0,none⟩) 2 2)) (w.alloc (.cells #[.bool x.neg,.slice x.a x.n x.c,.slice x.b x.m x.d,.bool y.neg,.slice y.a y.n y.c,.slice y.b y.m y.d] T))) :
  specAt P o a w (fun b:Nat=>.slice (some ⟨b,0,none⟩) 2 2) (fun b w'=>CanL w' ⟨some ⟨b,0,none⟩,2,2⟩ [p,q]):=by
 subst hT
 unfold specAt
 rw [hrun]
 exact ⟨Ext.alloc _ _,w.heap.size,rfl,can_two (rbk_two (heap_alloc_new _ _) rfl rfl) (hx.ext (Ext.alloc _ _)) (hy.ext (Ext.alloc _ _))⟩
theorem cover_none {bc bf n d:Nat} {D:Nat→Prop} {qs l:List Rat} {v:Value} {a b:Rat} {w wx w':World} (hm:Mods (fun k=>k=bc ∨ D k) w wx) (hk:Keep w wx) (hc:CvI wx bc bf D n qs v) (he:Ext wx w') (hx:cvV d a b l=none) :
  Mods (fun k=>k=bc ∨ D k) w w'∧Keep w w'∧∃ v' n' D' qs',CvI w' bc bf D' n' qs' v'∧(∀ k,D' k→D k ∨ w.heap.size≤k)∧n'≤n+2 ^ d∧∀ x,cvV d a b l=some x→qs'=qs ++ x :=
 ⟨hm.trans (Mods.of_ext he),Keep.trans hk (keep_ext he),v,n,D,qs,hc.ext he,fun k h=>Or.inl h,Nat.le_add_right _ _,fun x h=>by rw [hx] at h;cases h⟩
theorem cv_pos {d:Nat} {a b:Rat} {l:List Rat} (h:posL l=true):cvV d a b l=some [loV a b,hiV a b]:=by cases d <;> simp [cvV,h]
theorem cvv_zero {a b:Rat} {l:List Rat} (h:posL l=false):cvV 0 a b l=none:=by simp [cvV,h]
theorem cv_end {d:Nat} {a b:Rat} {l:List Rat} (h:posL l=false) (h2:posL [l.getD 0 0,l.getD (l.length - 1) 0]=false):cvV d a b l=none:=by
 cases d with
 | zero=>exact cvv_zero h
 | succ d=>unfold cvV;rw [h,h2];rfl
theorem cv_fail1 {d:Nat} {a b:Rat} {l:List Rat} (h:posL l=false) (h2:cvV d a (mdV a b) (hlL l)=none):cvV (d+1) a b l=none:=by
 unfold cvV;rw [h,h2];simp
theorem cv_fail2 {d:Nat} {a b:Rat} {l x:List Rat} (h:posL l=false) (h2:cvV d a (mdV a b) (hlL l)=some x) (h3:cvV d (mdV a b) b (hlR l)=none):cvV (d+1) a b l=none:=by
 unfold cvV;rw [h,h2,h3];simp
theorem cv_ok {d:Nat} {a b:Rat} {l x y:List Rat} (h:posL l=false) (h1:posL [l.getD 0 0,l.getD (l.length - 1) 0]=true) (h2:cvV d a (mdV a b) (hlL l)=some x) (h3:cvV d (mdV a b) b (hlR l)=some y):cvV (d+1) a b l=some (x ++ y):=by
 unfold cvV;rw [h,h1,h2,h3];simp
theorem md_sz {a b:Rat} {T:Nat} (za:Sz T a) (zb:Sz T b):Sz (2 * T+3) (mdV a b) :=
 ((za.add zb).mul ((Sz.int (z:=1) (by decide)).div (Sz.int (z:=2) (by decide)):Sz 2 (((1:Int):Rat) / ((2:Int):Rat)))).mono (by omega)
theorem hl_row {l:List Rat} {N n:Nat} (hl:l.length=N) (hN:N=n+1):hlL l=row N (lff n (fun i=>l.getD i 0))∧hlR l=row N (rtf n (fun i=>l.getD i 0)):=by
 unfold hlL hlR lff rtf
 rw [hl,hN,Nat.add_sub_cancel]
 exact ⟨rfl,rfl⟩
theorem wz_sz {l:List Rat} {S:Nat} (h:∀ x ∈ l,Wz S x) (hS:1≤S):SzL S l:=fun x hx=>(h x hx).sz hS
set_option maxRecDepth 8000 in
set_option maxHeartbeats 16000000 in
theorem cover_step (bc bf N d:Nat) (hN:0 < N) (hN9:N≤9) (ih:∀ d',d=d'+1→CovP bc bf N d'):CovP bc bf N d:=by
 intro e hde s t a b ao cap l T S n v D qs w hs ht za zb hT hl hlz hS1 hS hcv hn
 obtain ⟨hbc,hbf,hown,hD,hbcf⟩:=hcv
 obtain ⟨va,vc,rfl⟩:=hown.sh
 have HM:=Hi (Mods.refl (fun k=>k=bc ∨ D k) w)
 have HK:=Hi (Keep.refl w)
 have HS:=Hi hs
 have HT:=Hi ht
 have LA:=Hi hl
 have BC:=Hi hbc
 have BF:=Hi hbf
 have HO:=Hi hown
 have ZA:=Hi za
 have ZB:=Hi zb
 have HLZ:=Hi hlz
 have HDD:=Hi hD
 have IH:=Hi ih
 have HLl:Hid (l.length=N):=Hi hl.len
 have hTd:T≤10000000:=by have:=Nat.le_mul_of_pos_right (T+3) (Nat.two_pow_pos d);omega
 have hbcl:bc < w.heap.size:=(Array.getElem?_eq_some_iff.1 hbc).1
 have hbfl:bf < w.heap.size:=(Array.getElem?_eq_some_iff.1 hbf).1
 have hcpl:=hl.le
 have hcpm:=hl.max
 simp only at hcpl hcpm
 have h2d:=Nat.two_pow_pos d
 clear hs ht za zb hl hlz hbc hbf hown hD ih
 obtain ⟨sn,sa,sl,sc,sb,sm,sd⟩:=s
 obtain ⟨tn,ta,tl,tc,tb,tm,td⟩:=t
 go_enter Tryz.func87,Tryz.ntmps87
 try clear c_BC f_BC l_BC
 obtain ⟨c_BC,f_BC,l_BC⟩:=blk3 BC.out
 try clear c_BF f_BF l_BF
 obtain ⟨c_BF,f_BF,l_BF⟩:=blk3 BF.out
 go_upto_region 1 with fail
 refine nm_alloc2 ?_
 intro w1 hE hB0 hB1 hz
 have hz_w1:=nle hz
 have hr_w1:=nle hz.symm
 clear hz
 replace HM:=Hi (HM.out.trans (Mods.of_ext hE))
 replace HK:=Hi (Keep.trans HK.out (keep_ext hE))
 replace HS:=Hi (HS.out.ext hE)
 replace HT:=Hi (HT.out.ext hE)
 replace LA:=Hi (LA.out.ext hE)
 replace BC:=hE.bl BC
 replace BF:=hE.bl BF
 replace HO:=Hi (HO.out.ext hE)
 have hs_w1:=hE.size
 clear hE
 try clear c_BC f_BC l_BC
 obtain ⟨c_BC,f_BC,l_BC⟩:=blk3 BC.out
 try clear c_BF f_BF l_BF
 obtain ⟨c_BF,f_BF,l_BF⟩:=blk3 BF.out
 have B6:=Hi hB0
 clear hB0
 obtain ⟨c_B6,f_B6,l_B6⟩:=blk3 B6.out
 have B7:=Hi hB1
 clear hB1
 obtain ⟨c_B7,f_B7,l_B7⟩:=blk3 B7.out
 go_wp2_with fail
 refine Calls.mono (bpos_any ao N cap l S _ LA.out (by omega) (wz_sz HLZ.out hS1) (by omega)) ?_
 rintro e w15 ⟨x15,rfl,hE,-⟩
 replace HM:=Hi (HM.out.trans (Mods.of_ext hE))
 replace HK:=Hi (Keep.trans HK.out (keep_ext hE))
 replace HS:=Hi (HS.out.ext hE)
 replace HT:=Hi (HT.out.ext hE)
 replace LA:=Hi (LA.out.ext hE)
 replace BC:=hE.bl BC
 replace BF:=hE.bl BF
 replace HO:=Hi (HO.out.ext hE)
 replace B6:=hE.bl B6
 replace B7:=hE.bl B7
 have hs_w15:=hE.size
 clear hE
 try clear c_BC f_BC l_BC
 obtain ⟨c_BC,f_BC,l_BC⟩:=blk3 BC.out
 try clear c_BF f_BF l_BF
 obtain ⟨c_BF,f_BF,l_BF⟩:=blk3 BF.out
 try clear c_B6 f_B6 l_B6
 obtain ⟨c_B6,f_B6,l_B6⟩:=blk3 B6.out
 try clear c_B7 f_B7 l_B7
 obtain ⟨c_B7,f_B7,l_B7⟩:=blk3 B7.out
 by_cases hp:posL l=true
 case pos =>
  have HV:=Hi (cv_pos (d:=d) (a:=a) (b:=b) hp)
  rw [hp]
  clear hp
  clear LA
  go_upto_region 2 with fail
  refine wp_region_front 5 (fun opIx=>match opIx with
   | 3=>.spec (RH × RH) (default) (IvV) (fun x w'=>IvC w' x (loV a b) (hiV a b))
   | 4=>.spec (Nat × (RH × RH)) ((0,default)) (fun p=>.slice (some ⟨p.1,0,none⟩) 1 1) (fun p w'=>BuiltI w' p (loV a b) (hiV a b))
   | _=>.quiet) (fun | 4=>[3] | _=>[]) (by kernel_rfl) (by kernel_rfl) (fun w0 he0 hz0 hc0 hf0=>?_)
  replace he0:=Hi he0
  simp only [pT]
  repeat (refine wpq fun K h=>?_;go_big_quiet_op;refine h _ ?_;clear h K)
  refine wps he0.out rfl rfl (fun w1 hW hG=>?_) fun x30=>?_
  ·exact spc [RH.v ⟨sn,sa,sl,sc,sb,sm,sd⟩,RH.v ⟨tn,ta,tl,tc,tb,tm,td⟩] Tryz.func89 (ivmake_any _ _ _ _ _ ((HS.out.ext hW).raw ZA.out (by omega)) ((HT.out.ext hW).raw ZB.out (by omega)))
  simp only [pS]
  repeat (refine wpq fun K h=>?_;go_big_quiet_op;refine h _ ?_;clear h K)
  refine wps he0.out rfl rfl (fun w1 hW hG=>?_) fun x31=>?_
  ·have g30:=(hG 3 (by decide):Since _ _).get fun _ e g=>g.ext e
   exact spec_buildI x30 _ _ g30 rfl (by simp [execOp,go_sem])
  simp only [pS]
  repeat (refine wpq fun K h=>?_;go_big_quiet_op;refine h _ ?_;clear h K)
  refine wpF_nil ?_
  intro w3 hI
  have hE:=he0.out.trans hI.ext
  have G30:=Hi ((hI.facts 3:Since _ _).get fun _ e g=>g.ext e)
  have G31:=Hi ((hI.facts 4:Since _ _).get fun _ e g=>g.ext e)
  clear hI he0 hz0 hc0 hf0
  replace HM:=Hi (HM.out.trans (Mods.of_ext hE))
  replace HK:=Hi (Keep.trans HK.out (keep_ext hE))
  replace HS:=Hi (HS.out.ext hE)
  replace HT:=Hi (HT.out.ext hE)
  replace BC:=hE.bl BC
  replace BF:=hE.bl BF
  replace HO:=Hi (HO.out.ext hE)
  replace B6:=hE.bl B6
  replace B7:=hE.bl B7
  have hs_w3:=hE.size
  clear hE
  try clear c_BC f_BC l_BC
  obtain ⟨c_BC,f_BC,l_BC⟩:=blk3 BC.out
  try clear c_BF f_BF l_BF
  obtain ⟨c_BF,f_BF,l_BF⟩:=blk3 BF.out
  try clear c_B6 f_B6 l_B6
  obtain ⟨c_B6,f_B6,l_B6⟩:=blk3 B6.out
  try clear c_B7 f_B7 l_B7
  obtain ⟨c_B7,f_B7,l_B7⟩:=blk3 B7.out
  simp only [pD]
  go_upto_region 3 with (at_builtin;refine wpList_append_i rfl (.tmp 16) (.tmp 20) 46 Tryz.underlying46 rfl (fun k=>D k ∨ w.heap.size≤k) _ n qs x31.1 0 1 1 [x31.2.1,x31.2.2] [loV a b,hiV a b] rfl (HO.out.mono (fun k _ h=>Or.inl h)) rfl rfl (by decide) G31.out.at G31.out.vals (by omega) (by decide) (fun k hk=>Or.inr (by omega)) ?_;intro s' y3 q1 q2 q3;have hBC:=q2.blk (fun h=>h.elim (fun h=>(HDD.out _ h).2.1 rfl) (fun h=>by omega)) BC.out;have c6:=blk_cell hBC;have f6:=blk_frozen hBC;have l6:=(Array.getElem?_eq_some_iff.1 hBC).1)
  replace HM:Hid (Mods (fun k=>k=bc ∨ D k) w y3):=Hi (mods_then HM.out q2 (fun k hk h=>h.elim (fun h=>Or.inr h) (fun h=>by omega)))
  replace HK:=Hi (Keep.trans HK.out q3)
  replace BF:=Hi (q2.blk (fun h=>h.elim (fun h=>(HDD.out _ h).2.2 rfl) (fun h=>by omega)) BF.out)
  replace HO:=Hi q1
  have hsz3:=q2.size
  refine nm_set1 hBC rfl ?_
  intro y4 T
  replace HM:=Hi (Mods.put HM.out T (Or.inl (Or.inl rfl)))
  replace HK:=Hi (Keep.trans HK.out T.keep)
  replace BF:=Hi (T.rest _ _ (by omega) BF.out)
  replace HO:=Hi (HO.out.put T (fun h=>h.elim (fun h=>(HDD.out _ h).2.1 rfl) (fun h=>by omega)))
  have BC2:=Hi T.bx
  have hsz4:=T.size
  clear q1 q2 q3 hBC c6 f6 l6 T BC c_BC f_BC l_BC B6 B7 c_B6 f_B6 l_B6 c_B7 f_B7 l_B7 c_BF f_BF l_BF HS HT G30 G31
  go_wp2
  go_ret
  refine ⟨by rw [HV.out];rfl,HM.out,HK.out,s'.v,n+1,(fun k=>(D k ∨ w.heap.size≤k)∧k < y4.heap.size),qs ++ [loV a b,hiV a b],⟨BC2.out,BF.out,HO.out.mono (fun k hk h=>⟨h,hk⟩),fun k h=>⟨h.2,?_⟩,hbcf⟩,fun k h=>h.1,by omega,fun x hx=>by rw [HV.out] at hx;rw [← Option.some.inj hx]⟩
  rcases h.1 with h1 | h1
  ·exact (HDD.out k h1).2
  ·omega
 have hpf:posL l=false:=by simpa using hp
 have HPF:=Hi hpf
 rw [hpf]
 clear hp hpf
 have hN1:(0:Int) < (N:Nat):=by omega
 obtain ⟨n1,hn1⟩:∃ n1,N=n1+1:=⟨N - 1,by omega⟩
 have hNs:(N:Int) - 1=(n1:Nat):=by omega
 have hn1N:(n1:Int) < (N:Nat):=by omega
 have HN1:=Hi hn1
 clear hn1
 cases d with
 | zero =>
  obtain rfl:e=12:=by omega
  have HV:Hid (cvV 0 a b l=none):=Hi (cvv_zero HPF.out)
  go_upto_region 4 with fail
  have hcvw:CvI w15 bc bf D n qs (.slice va n vc):=⟨BC.out,BF.out,HO.out,fun k h=>⟨Nat.lt_of_lt_of_le (HDD.out k h).1 (by omega),(HDD.out k h).2⟩,hbcf⟩
  go_quiet (fail)
  go_wp2
  go_ret
  exact ⟨by rw [HV.out];rfl,cover_none HM.out HK.out hcvw (Ext.drewN _ _) HV.out⟩
 | succ d =>
  have he:¬ (e:Int)=12:=by omega
  have heb:((e:Int) == 12)=false:=by rw [beq_eq_false_iff_ne];exact he
  obtain ⟨bw,off,r,hao,hbl,⟨f1,f2,f3⟩,hP⟩:=LA.out.lin.celx (k:=0) (by omega)
  obtain ⟨bw',off',r',hao',hbl',⟨d1,d2,d3⟩,hP'⟩:=LA.out.lin.celx (k:=n1) (by omega)
  subst hao
  obtain ⟨rfl,rfl⟩:bw=bw'∧off=off':=by simpa using hao'
  clear hao'
  obtain ⟨rn,ra,rl,rc,rb,rm,rd⟩:=r
  obtain ⟨r2n,r2a,r2l,r2c,r2b,r2m,r2d⟩:=r'
  simp only [Nat.zero_mul,Nat.add_zero] at f1 f2 f3 d1 d2 d3
  have HP:=Hi hP
  have HP':=Hi hP'
  clear hP hP'
  obtain ⟨pe,hpe⟩:∃ pe,pe=posL [l.getD 0 0,l.getD n1 0]:=⟨_,rfl⟩
  have HPE:Hid (pe=posL [l.getD 0 0,l.getD (l.length - 1) 0]):=Hi (by rw [hpe,HLl.out,HN1.out,Nat.add_sub_cancel])
  have HPE2:=Hi hpe
  have HZ2:Hid (SzL S [l.getD 0 0,l.getD n1 0]):=Hi (by
   have hz:=wz_sz HLZ.out hS1
   intro x hx
   rcases List.mem_cons.1 hx with rfl | h
   ·exact hz.at (by rw [HLl.out];exact hN)
   ·rw [List.mem_singleton.1 h];exact hz.at (by rw [HLl.out];omega))
  clear hpe
  go_upto_region 4 with fail
  refine wp_region_front 14 (fun opIx=>match opIx with
   | 12=>.spec (Nat) (0) (fun b:Nat=>.slice (some ⟨b,0,none⟩) 2 2) (fun b w'=>CanL w' ⟨some ⟨b,0,none⟩,2,2⟩ [l.getD 0 0,l.getD n1 0])
   | 13=>.spec Unit () (fun _=>.bool pe) (fun _ _=>True)
   | _=>.quiet) (fun | 13=>[12] | _=>[]) (by kernel_rfl) (by kernel_rfl) (fun w0 he0 hz0 hc0 hf0=>?_)
  replace he0:=Hi he0
  simp only [pT]
  repeat (refine wpq fun K h=>?_;go_big_quiet_op;refine h _ ?_;clear h K;(try simp only [heb]))
  refine wps he0.out rfl rfl (fun w1 hW hG=>?_) fun x40=>?_
  ·exact spec_build2b ⟨rn,ra,rl,rc,rb,rm,rd⟩ ⟨r2n,r2a,r2l,r2c,r2b,r2m,r2d⟩ _ _ (HP.out.ext hW) (HP'.out.ext hW) rfl (by simp [execOp,go_sem])
  simp only [pS]
  repeat (refine wpq fun K h=>?_;go_big_quiet_op;refine h _ ?_;clear h K;(try simp only [heb]))
  refine wps he0.out rfl rfl (fun w1 hW hG=>?_) fun x41=>?_
  ·have g40:=(hG 12 (by decide):Since _ _).get fun _ e g=>g.ext e
   exact spc [.slice (some ⟨x40,0,none⟩) 2 2] Tryz.func88 ((by rw [HPE2.out];exact bpos_any _ 2 2 _ S _ g40 (by decide) HZ2.out (by omega)))
  simp only [pS]
  repeat (refine wpq fun K h=>?_;go_big_quiet_op;refine h _ ?_;clear h K;(try simp only [heb]))
  refine wpF_nil ?_
  intro w4 hI
  have hE:=he0.out.trans hI.ext
  have G40:=Hi ((hI.facts 12:Since _ _).get fun _ e g=>g.ext e)
  clear hI he0 hz0 hc0 hf0
  replace HM:=Hi (HM.out.trans (Mods.of_ext hE))
  replace HK:=Hi (Keep.trans HK.out (keep_ext hE))
  replace HS:=Hi (HS.out.ext hE)
  replace HT:=Hi (HT.out.ext hE)
  replace LA:=Hi (LA.out.ext hE)
  replace BC:=hE.bl BC
  replace BF:=hE.bl BF
  replace HO:=Hi (HO.out.ext hE)
  replace B6:=hE.bl B6
  replace B7:=hE.bl B7
  have hs_w4:=hE.size
  clear hE
  try clear c_BC f_BC l_BC
  obtain ⟨c_BC,f_BC,l_BC⟩:=blk3 BC.out
  try clear c_BF f_BF l_BF
  obtain ⟨c_BF,f_BF,l_BF⟩:=blk3 BF.out
  try clear c_B6 f_B6 l_B6
  obtain ⟨c_B6,f_B6,l_B6⟩:=blk3 B6.out
  try clear c_B7 f_B7 l_B7
  obtain ⟨c_B7,f_B7,l_B7⟩:=blk3 B7.out
  simp only [pD]
  clear f1 f2 f3 d1 d2 d3
  have hcvw:CvI w4 bc bf D n qs (.slice va n vc):=⟨BC.out,BF.out,HO.out,fun k h=>⟨Nat.lt_of_lt_of_le (HDD.out k h).1 (by omega),(HDD.out k h).2⟩,hbcf⟩
  have HCV:=Hi hcvw
  clear hcvw
  cases pe with
  | false =>
   have HV:Hid (cvV (d+1) a b l=none):=Hi (cv_end HPF.out HPE.out.symm)
   go_wp2
   go_ret
   exact ⟨by rw [HV.out];rfl,cover_none HM.out HK.out HCV.out (Ext.refl _) HV.out⟩
  | true =>
  have HPT:=Hi HPE.out.symm
  go_wp2_with fail
  refine Calls.mono (ivmid_any ⟨sn,sa,sl,sc,sb,sm,sd⟩ ⟨tn,ta,tl,tc,tb,tm,td⟩ a b T _ (HS.out.raw ZA.out (by omega)) (HT.out.raw ZB.out (by omega)) ZA.out ZB.out hTd) ?_
  rintro e w50 ⟨x50,rfl,hE,g50⟩
  have G50:=Hi g50
  clear g50
  replace HM:=Hi (HM.out.trans (Mods.of_ext hE))
  replace HK:=Hi (Keep.trans HK.out (keep_ext hE))
  replace HS:=Hi (HS.out.ext hE)
  replace HT:=Hi (HT.out.ext hE)
  replace LA:=Hi (LA.out.ext hE)
  replace BC:=hE.bl BC
  replace BF:=hE.bl BF
  replace HO:=Hi (HO.out.ext hE)
  replace B6:=hE.bl B6
  replace B7:=hE.bl B7
  have hs_w50:=hE.size
  clear hE
  try clear c_BC f_BC l_BC
  obtain ⟨c_BC,f_BC,l_BC⟩:=blk3 BC.out
  try clear c_BF f_BF l_BF
  obtain ⟨c_BF,f_BF,l_BF⟩:=blk3 BF.out
  try clear c_B6 f_B6 l_B6
  obtain ⟨c_B6,f_B6,l_B6⟩:=blk3 B6.out
  try clear c_B7 f_B7 l_B7
  obtain ⟨c_B7,f_B7,l_B7⟩:=blk3 B7.out
  obtain ⟨mn,ma,ml,mc,mb,mm,md⟩:=x50
  go_upto_region 7 with fail
  refine nm_alloc ?_
  intro w51 hE hB0 hz
  have hz_w51:=nle hz
  have hr_w51:=nle hz.symm
  clear hz
  replace HM:=Hi (HM.out.trans (Mods.of_ext hE))
  replace HK:=Hi (Keep.trans HK.out (keep_ext hE))
  replace HS:=Hi (HS.out.ext hE)
  replace HT:=Hi (HT.out.ext hE)
  replace LA:=Hi (LA.out.ext hE)
  replace BC:=hE.bl BC
  replace BF:=hE.bl BF
  replace HO:=Hi (HO.out.ext hE)
  replace B6:=hE.bl B6
  replace B7:=hE.bl B7
  replace G50:=Hi (G50.out.ext hE)
  have hs_w51:=hE.size
  clear hE
  try clear c_BC f_BC l_BC
  obtain ⟨c_BC,f_BC,l_BC⟩:=blk3 BC.out
  try clear c_BF f_BF l_BF
  obtain ⟨c_BF,f_BF,l_BF⟩:=blk3 BF.out
  try clear c_B6 f_B6 l_B6
  obtain ⟨c_B6,f_B6,l_B6⟩:=blk3 B6.out
  try clear c_B7 f_B7 l_B7
  obtain ⟨c_B7,f_B7,l_B7⟩:=blk3 B7.out
  have B11:=Hi hB0
  clear hB0
  obtain ⟨c_B11,f_B11,l_B11⟩:=blk3 B11.out
  have HLr:Hid (CanL w51 ⟨some ⟨bw,off,none⟩,N,cap⟩ (row N (fun i=>l.getD i 0))):=Hi (by rw [row_eta HLl.out];exact LA.out)
  have HZH:Hid (∀ k,k≤n1→Wz S (l.getD k 0)):=Hi (fun k hk=>by
   have hk2:k < l.length:=by rw [HLl.out,HN1.out];omega
   rw [List.getD_eq_getElem?_getD,List.getElem?_eq_getElem hk2]
   exact HLZ.out _ (List.getElem_mem hk2))
  go_wp2_with fail
  refine Calls.mono (bhalves_any (some ⟨bw,off,none⟩) N n1 cap (fun i=>l.getD i 0) S _ HLr.out HN1.out (by have:=HN1.out;omega) HZH.out hS1 (by omega)) ?_
  rintro e w52 ⟨x52,rfl,hE,g52⟩
  have G52:=Hi g52
  clear g52
  replace HM:=Hi (HM.out.trans (Mods.of_ext hE))
  replace HK:=Hi (Keep.trans HK.out (keep_ext hE))
  replace HS:=Hi (HS.out.ext hE)
  replace HT:=Hi (HT.out.ext hE)
  replace LA:=Hi (LA.out.ext hE)
  replace BC:=hE.bl BC
  replace BF:=hE.bl BF
  replace HO:=Hi (HO.out.ext hE)
  replace B6:=hE.bl B6
  replace B7:=hE.bl B7
  replace G50:=Hi (G50.out.ext hE)
  replace B11:=hE.bl B11
  have hs_w52:=hE.size
  clear hE
  try clear c_BC f_BC l_BC
  obtain ⟨c_BC,f_BC,l_BC⟩:=blk3 BC.out
  try clear c_BF f_BF l_BF
  obtain ⟨c_BF,f_BF,l_BF⟩:=blk3 BF.out
  try clear c_B6 f_B6 l_B6
  obtain ⟨c_B6,f_B6,l_B6⟩:=blk3 B6.out
  try clear c_B7 f_B7 l_B7
  obtain ⟨c_B7,f_B7,l_B7⟩:=blk3 B7.out
  try clear c_B11 f_B11 l_B11
  obtain ⟨c_B11,f_B11,l_B11⟩:=blk3 B11.out
  clear LA
  clear HLr HZH
  obtain ⟨x53,x54⟩:=x52
  obtain ⟨⟨Lp,hLp,hxp,hRp⟩,⟨Lq,hLq,hxq,hRq⟩⟩:=G52.out
  simp only at hxp hxq
  rw [row_len] at hxp hxq
  subst hxp hxq
  have HRW:=Hi (hl_row HLl.out HN1.out)
  have HRp:Hid (RowC w52 Lp (hlL l)):=Hi (by rw [HRW.out.1];exact hRp)
  have HRq:Hid (RowC w52 Lq (hlR l)):=Hi (by rw [HRW.out.2];exact hRq)
  have HLL:Hid ((hlL l).length=N∧(hlR l).length=N):=Hi (by rw [HRW.out.1,HRW.out.2,row_len,row_len];exact ⟨rfl,rfl⟩)
  have HWZ:=Hi (hl_wz (l:=l) (S:=S) (by rw [HLl.out];exact hN9) HLZ.out)
  have hLp2:w51.heap.size≤Lp:=hLp
  have hLq2:w51.heap.size≤Lq:=hLq
  have hLq3:=RowC.lt HRq.out
  clear hRp hRq G52 hLp hLq
  have hb51:w50.heap.size < w51.heap.size:=by omega
  have hcv52:CvI w52 bc bf D n qs (.slice va n vc):=⟨BC.out,BF.out,HO.out,fun k h=>⟨Nat.lt_of_lt_of_le (HDD.out k h).1 (by omega),(HDD.out k h).2⟩,hbcf⟩
  have HC52:=Hi hcv52
  clear hcv52
  have hp2:(T+3) * 2 ^ (d+1)=(2 * T+3+3) * 2 ^ d:=by rw [Nat.pow_succ];rw [show 2 * T+3+3=(T+3) * 2 by omega,Nat.mul_assoc,Nat.mul_comm 2]
  have hn2:2 ^ (d+1)=2 ^ d+2 ^ d:=by rw [Nat.pow_succ];omega
  have HP2:=Hi hp2
  have HN2:=Hi hn2
  clear hp2 hn2
  have he1:(e:Int)+1=((e+1:Nat):Int):=by omega
  have HE1:=Hi he1
  clear he1
  go_wp2_with fail
  rw [HE1.out]
  refine Calls.mono (IH.out d rfl (e+1) (by omega) ⟨sn,sa,sl,sc,sb,sm,sd⟩ ⟨mn,ma,ml,mc,mb,mm,md⟩ a (mdV a b) (some ⟨Lp,0,none⟩) N (hlL l) (2 * T+3) (S+9) n (.slice va n vc) D qs _ HS.out G50.out (ZA.out.mono (by omega)) (md_sz ZA.out ZB.out) (by have:=HP2.out;omega) (RowC.can HRp.out HLL.out.1 (Nat.le_refl _) (by omega)) HWZ.out.1 (by omega) (by omega) HC52.out (by have:=HN2.out;omega)) ?_
  rintro r5 w53 ⟨rfl,m1,k1,v1,n1',D1,qs1,cv1,hD1,hn1',hx1⟩
  have hE6:∀ k,w.heap.size≤k→¬ (k=bc ∨ D k):=fun k hk h=>h.elim (fun h=>by omega) (fun h=>by have:=(HDD.out k h).1;omega)
  have hsz53:=m1.size
  replace HM:Hid (Mods (fun k=>k=bc ∨ D k) w w53):=Hi (mods_then HM.out m1 (fun k _ h=>h))
  replace HK:=Hi (Keep.trans HK.out k1)
  replace HT:=Hi (HT.out.keep k1)
  replace G50:=Hi (G50.out.keep k1)
  replace B6:=Hi (m1.blk (hE6 _ (by omega)) B6.out)
  replace B7:=Hi (m1.blk (hE6 _ (by omega)) B7.out)
  replace B11:=Hi (m1.blk (hE6 _ (by omega)) B11.out)
  replace HRq:=Hi (HRq.out.mods m1 k1 (hE6 _ (by omega)))
  have CV1:=Hi cv1
  have HX1:=Hi hx1
  have HD1:=Hi hD1
  have BF1:=Hi cv1.2.1
  obtain ⟨c_BF1,f_BF1,l_BF1⟩:=blk3 BF1.out
  have c6:=blk_cell B6.out
  have f6:=blk_frozen B6.out
  have l6:=(Array.getElem?_eq_some_iff.1 B6.out).1
  have c7:=blk_cell B7.out
  have f7:=blk_frozen B7.out
  have l7:=(Array.getElem?_eq_some_iff.1 B7.out).1
  have c11:=blk_cell B11.out
  have f11:=blk_frozen B11.out
  have l11:=(Array.getElem?_eq_some_iff.1 B11.out).1
  clear m1 k1 cv1 hx1 hD1 BC BF HO HC52 HCV HS HRp c_BC f_BC l_BC c_BF f_BF l_BF c_B6 f_B6 l_B6 c_B7 f_B7 l_B7 c_B11 f_B11 l_B11
  rcases hc1:cvV d a (mdV a b) (hlL l) with _ | xs
  ·have HV:Hid (cvV (d+1) a b l=none):=Hi (cv_fail1 HPF.out hc1)
   have HD:Hid (∀ k,D1 k→D k ∨ w.heap.size≤k):=Hi (fun k h=>(HD1.out k h).imp id (fun h=>by omega))
   clear hc1
   simp only [Option.isSome]
   go_wp2
   go_ret
   exact ⟨by rw [HV.out];rfl,HM.out,HK.out,v1,n1',D1,qs1,CV1.out,HD.out,by have:=HN2.out;omega,fun x hx=>by rw [HV.out] at hx;cases hx⟩
  have HC1:=Hi hc1
  clear hc1
  simp only [Option.isSome]
  go_wp2_with fail
  rw [HE1.out]
  refine Calls.mono (IH.out d rfl (e+1) (by omega) ⟨mn,ma,ml,mc,mb,mm,md⟩ ⟨tn,ta,tl,tc,tb,tm,td⟩ (mdV a b) b (some ⟨Lq,0,none⟩) N (hlR l) (2 * T+3) (S+9) n1' v1 D1 qs1 _ G50.out HT.out (md_sz ZA.out ZB.out) (ZB.out.mono (by omega)) (by have:=HP2.out;omega) (RowC.can HRq.out HLL.out.2 (Nat.le_refl _) (by omega)) HWZ.out.2 (by omega) (by omega) CV1.out (by have:=HN2.out;omega)) ?_
  rintro r6 w54 ⟨rfl,m1,k1,v2,n2',D2,qs2,cv2,hD2,hn2',hx2⟩
  replace HM:Hid (Mods (fun k=>k=bc ∨ D k) w w54):=Hi (mods_then HM.out m1 (fun k hk h=>h.elim (fun h=>Or.inl h) (fun h=>(HD1.out k h).elim (fun h=>Or.inr h) (fun h=>by omega))))
  replace HK:=Hi (Keep.trans HK.out k1)
  have CV2:=Hi cv2
  have HX2:=Hi hx2
  have HD:Hid (∀ k,D2 k→D k ∨ w.heap.size≤k):=Hi (fun k h=>(hD2 k h).elim (fun h=>(HD1.out k h).imp id (fun h=>by omega)) (fun h=>Or.inr (by omega)))
  clear m1 k1 cv2 hx2 hD2
  rcases hc2:cvV d (mdV a b) b (hlR l) with _ | ys
  ·have HV:Hid (cvV (d+1) a b l=none):=Hi (cv_fail2 HPF.out HC1.out hc2)
   clear hc2
   simp only [Option.isSome]
   go_wp2
   go_ret
   exact ⟨by rw [HV.out];rfl,HM.out,HK.out,v2,n2',D2,qs2,CV2.out,HD.out,by have:=HN2.out;omega,fun x hx=>by rw [HV.out] at hx;cases hx⟩
  have HV:Hid (cvV (d+1) a b l=some (xs ++ ys)):=Hi (cv_ok HPF.out HPT.out HC1.out hc2)
  have HQ:Hid (qs2=qs ++ (xs ++ ys)):=Hi (by rw [HX2.out ys hc2,HX1.out xs HC1.out,List.append_assoc])
  clear hc2
  simp only [Option.isSome]
  go_wp2
  go_ret
  exact ⟨by rw [HV.out];rfl,HM.out,HK.out,v2,n2',D2,qs2,CV2.out,HD.out,by have:=HN2.out;omega,fun x hx=>by rw [HV.out] at hx;rw [← Option.some.inj hx];exact HQ.out⟩
theorem cover_any (bc bf N:Nat) (hN:0 < N) (hN9:N≤9) (d:Nat):CovP bc bf N d:=by
 induction d with
 | zero=>exact cover_step bc bf N 0 hN hN9 (fun d' h=>by omega)
 | succ d ih =>
  refine cover_step bc bf N (d+1) hN hN9 (fun d' h=>?_)
  obtain rfl:d=d':=by omega
  exact ih
end Go.Proofs.YtpieblkklbilgaaGreat
