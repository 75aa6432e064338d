/- Package bernstein: the closure of Prove. -/
import Derived.Test.YtofhkmcllihgmaaGreatQUBn5
import Derived.Test.YtofhkmcllihgmaaGreatQUK6
import Derived.Test.YtofhkmcllihgmaaGreatQUK7
import Derived.Laws.EntriesVeiled
import Derived.Deep.DeepCutAuto
set_option linter.unusedVariables false
namespace Go.Proofs.YtofhkmcllihgmaaGreat
open Go.RowKit Go.Front Go.Num Stab
attribute [local go_sem] XW.cell XW.frozen
theorem j5{E F:Nat→Prop}{w a b:World}(h:aJ E w a)(m:aJ F a b)(hs:∀ k,k<w.heap.size→F k→E k):aJ E w b :=
 ⟨m.os.trans h.os,m.tape.trans h.tape,m.output.trans h.output,Nat.le_trans h.size m.size,fun k hk he=>(m.block k (Nat.lt_of_lt_of_le hk h.size) (fun hf=>he (hs k hk hf))).trans (h.block k hk he)⟩
def ft(w:World)(p:Nat×(RH×RH))(a b:Rat):Prop:=IBk w p.1 [p.2.1,p.2.2] #[]∧IvC w p.2 a b
theorem ft.ext{w w':World}{p:Nat×(RH×RH)}{a b:Rat}(h:ft w p a b)(he:Ext w w'):ft w' p a b:=⟨h.1.ext he,h.2.ext he⟩
instance {w w':World} {p:Nat×(RH×RH)} {a b:Rat}:Go.Front.Mv w w' (ft w p a b) (ft w' p a b):=⟨fun e h=>ft.ext h e⟩

theorem Aj{w:World}{N:Nat}{x:RH×RH}(h:w.heap[N]?=some (.cells #[.bool x.1.neg,.slice x.1.a x.1.n x.1.c,.slice x.1.b x.1.m x.1.d,.bool x.2.neg,.slice x.2.a x.2.n x.2.c,.slice x.2.b x.2.m x.2.d] 49 (0,0))):IBk w N [x.1,x.2] #[]:=by
 unfold IBk;rw [h];rfl
theorem nU{P:Program}{o:Oper}{a:Act}{w:World}{T:TypeId}(x:RH×RH)(p q:Rat)(hx:IvC w x p q)(hT:T=49)
 (hrun:(execOp a.eval o).run P w=.ok (.value (.slice (some ⟨w.heap.size,0,none⟩) 1 1)) (w.alloc (.cells #[.bool x.1.neg,.slice x.1.a x.1.n x.1.c,.slice x.1.b x.1.m x.1.d,.bool x.2.neg,.slice x.2.a x.2.n x.2.c,.slice x.2.b x.2.m x.2.d] T))) :
  cJ P o a w (fun p:Nat×(RH×RH)=>.slice (some ⟨p.1,0,none⟩) 1 1) (fun y w'=>ft w' y p q):=by
 subst hT;unfold cJ;rw [hrun];exact ⟨Ext.alloc _ _,(w.heap.size,x),rfl,Aj (heap_alloc_new _ _),hx.ext (Ext.alloc _ _)⟩
theorem ft.at{w:World}{p:Nat×(RH×RH)}{a b:Rat}(h:ft w p a b):∀ k,k<1*2→RAt w p.1 (0+k*3) ([p.2.1,p.2.2].getD k default):=fun k hk=>by
 rw [Nat.zero_add];exact h.1.at hk
theorem ft.vals{w:World}{p:Nat×(RH×RH)}{a b:Rat}(h:ft w p a b):dT aw w [p.2.1,p.2.2] [a,b]:=⟨rfl,fun k hk=>by
 have hk:k<2:=hk;have:k=0∨k=1:=by omega
 rcases this with rfl|rfl
 ·exact h.2.1
 ·exact h.2.2⟩
def CvI(w:World)(bc bf:Nat)(D:Nat→Prop)(n:Nat)(qs:List Rat)(v:Value):Prop :=
 w.heap[bc]?=some (.cells #[v] 53 (0,0)) ∧
 w.heap[bf]?=some (.cells #[.func (.func 207) #[] #[.pointer (some ⟨bc,0,none⟩),.pointer (some ⟨bf,0,none⟩)]] 208 (0,0)) ∧
 eL w D v n qs∧(∀ k,D k→k<w.heap.size∧k≠bc∧k≠bf)∧bc≠bf
def Dz(bc bf N d:Nat):Prop :=
 ∀ (e:Nat),d+e=12→∀ (s t:RH) (a b:Rat) (ao:Option Addr) (cap:Nat) (l:List Rat) (T S n:Nat) (v:Value) (D:Nat→Prop) (qs:List Rat) (w:World),
 aw w s a→aw w t b→Sz T a→Sz T b→(T+3)*2 ^ d≤10000000→ce w ⟨ao,N,cap⟩ l→(∀ x ∈ l,Wz S x)→1≤S→S+9*d≤900000→CvI w bc bf D n qs v→n+2 ^ d≤10000 →
 Calls Tryz.prog 207 #[s.v,t.v,.slice ao N cap,.int .i64 (e:Nat),.pointer (some ⟨bc,0,none⟩),.pointer (some ⟨bf,0,none⟩)] w (fun r w'=>r=.returned (.bool (cvV d a b l).isSome)∧aJ (fun k=>k=bc∨D k) w w'∧dB w w' ∧
  ∃ v' n' D' qs',CvI w' bc bf D' n' qs' v'∧(∀ k,D' k→D k∨w.heap.size≤k)∧n'≤n+2 ^ d∧∀ x,cvV d a b l=some x→qs'=qs++x)
theorem CvI.ext{w w':World}{bc bf n:Nat}{D:Nat→Prop}{qs:List Rat}{v:Value}(h:CvI w bc bf D n qs v)(he:Ext w w'):CvI w' bc bf D n qs v :=
 let ⟨h1,h2,h3,h4,h5⟩:=h
 ⟨he.block h1,he.block h2,h3.ext he,fun k hk=>⟨Nat.lt_of_lt_of_le (h4 k hk).1 he.size,(h4 k hk).2⟩,h5⟩
instance {w w':World} {bc bf n:Nat} {D:Nat→Prop} {qs:List Rat} {v:Value}:Go.Front.Mv w w' (CvI w bc bf D n qs v) (CvI w' bc bf D n qs v):=⟨fun e h=>CvI.ext h e⟩

theorem i7{P:Program}{o:Oper}{a:Act}{w:World}{T:TypeId}(x y:RH)(p q:Rat)(hx:aw w x p)(hy:aw w y q)(hT:T=30)
 (hrun:(execOp a.eval o).run P w=.ok (.value (.slice (some ⟨w.heap.size,0,none⟩) 2 2)) (w.alloc (.cells #[.bool x.neg,.slice x.a x.n x.c,.slice x.b x.m x.d,.bool y.neg,.slice y.a y.n y.c,.slice y.b y.m y.d] T))) :
  cJ P o a w (fun b:Nat=>.slice (some ⟨b,0,none⟩) 2 2) (fun b w'=>ce w' ⟨some ⟨b,0,none⟩,2,2⟩ [p,q]):=by
 subst hT;unfold cJ;rw [hrun];exact ⟨Ext.alloc _ _,w.heap.size,rfl,uT (sP (heap_alloc_new _ _) rfl rfl) (hx.ext (Ext.alloc _ _)) (hy.ext (Ext.alloc _ _))⟩
theorem k7{bc bf n d:Nat}{D:Nat→Prop}{qs l:List Rat}{v:Value}{a b:Rat}{w wx w':World}(hm:aJ (fun k=>k=bc∨D k) w wx)(hk:dB w wx)(hc:CvI wx bc bf D n qs v)(he:Ext wx w')(hx:cvV d a b l=none) :
  aJ (fun k=>k=bc∨D k) w w'∧dB w w'∧∃ v' n' D' qs',CvI w' bc bf D' n' qs' v'∧(∀ k,D' k→D k∨w.heap.size≤k)∧n'≤n+2 ^ d∧∀ x,cvV d a b l=some x→qs'=qs++x :=
 ⟨hm.trans (aJ.of_ext he),dB.trans hk (bD he),v,n,D,qs,hc.ext he,fun k h=>Or.inl h,Nat.le_add_right _ _,fun x h=>by rw [hx] at h;cases h⟩
theorem Cg{d:Nat}{a b:Rat}{l:List Rat}(h:gR l=true):cvV d a b l=some [loV a b,hiV a b]:=by cases d <;> simp [cvV,h]
theorem qw{a b:Rat}{l:List Rat}(h:gR l=false):cvV 0 a b l=none:=by simp [cvV,h]
theorem Cj{d:Nat}{a b:Rat}{l:List Rat}(h:gR l=false)(h2:gR [l.getD 0 0,l.getD (l.length-1) 0]=false):cvV d a b l=none:=by
 cases d with
 | zero=>exact qw h
 | succ d=>unfold cvV;rw [h,h2];rfl
theorem xH{d:Nat}{a b:Rat}{l:List Rat}(h:gR l=false)(h2:cvV d a (mdV a b) (hlL l)=none):cvV (d+1) a b l=none:=by
 unfold cvV;rw [h,h2];simp
theorem xG{d:Nat}{a b:Rat}{l x:List Rat}(h:gR l=false)(h2:cvV d a (mdV a b) (hlL l)=some x)(h3:cvV d (mdV a b) b (hlR l)=none):cvV (d+1) a b l=none:=by
 unfold cvV;rw [h,h2,h3];simp
theorem Dj{d:Nat}{a b:Rat}{l x y:List Rat}(h:gR l=false)(h1:gR [l.getD 0 0,l.getD (l.length-1) 0]=true)(h2:cvV d a (mdV a b) (hlL l)=some x)(h3:cvV d (mdV a b) b (hlR l)=some y):cvV (d+1) a b l=some (x++y):=by
 unfold cvV;rw [h,h1,h2,h3];simp
theorem BE{a b:Rat}{T:Nat}(za:Sz T a)(zb:Sz T b):Sz (2*T+3) (mdV a b) :=
 ((za.add zb).mul ((Sz.int (z:=1) (by decide)).div (Sz.int (z:=2) (by decide)):Sz 2 (((1:Int):Rat) / ((2:Int):Rat)))).mono (by omega)
theorem BP{l:List Rat}{N n:Nat}(hl:l.length=N)(hN:N=n+1):hlL l=row N (lff n (fun i=>l.getD i 0))∧hlR l=row N (rtf n (fun i=>l.getD i 0)):=by
 unfold hlL hlR lff rtf;rw [hl,hN,Nat.add_sub_cancel];exact ⟨rfl,rfl⟩
theorem A7{l:List Rat}{S:Nat}(h:∀ x ∈ l,Wz S x)(hS:1≤S):SzL S l:=fun x hx=>(h x hx).sz hS
set_option maxRecDepth 8000 in
set_option maxHeartbeats 16000000 in
theorem k6(bc bf N d:Nat)(hN:0<N)(hN9:N≤9)(ih:∀ d',d=d'+1→Dz bc bf N d'):Dz bc bf N d:=by
 intro e hde s t a b ao cap l T S n v D qs w hs ht za zb hT hl hlz hS1 hS hcv hn;obtain ⟨hbc,hbf,hown,hD,hbcf⟩:=hcv;obtain ⟨va,vc,rfl⟩:=hown.sh;have HM:=Hi (aJ.refl (fun k=>k=bc∨D k) w);have HK:=Hi (dB.refl w);have HS:=Hi hs;have HT:=Hi ht;have LA:=Hi hl;have BC:=Hi hbc;have BF:=Hi hbf;have HO:=Hi hown;have ZA:=Hi za;have ZB:=Hi zb;have HLZ:=Hi hlz;have HDD:=Hi hD;have IH:=Hi ih;have HLl:Hid (l.length=N):=Hi hl.len;have hTd:T≤10000000:=by have:=Nat.le_mul_of_pos_right (T+3) (Nat.two_pow_pos d);omega
 have hbcl:bc<w.heap.size:=(Array.getElem?_eq_some_iff.1 hbc).1;have hbfl:bf<w.heap.size:=(Array.getElem?_eq_some_iff.1 hbf).1;have hcpl:=hl.le;have hcpm:=hl.max;simp only at hcpl hcpm;have h2d:=Nat.two_pow_pos d;clear hs ht za zb hl hlz hbc hbf hown hD ih;obtain ⟨sn,sa,sl,sc,sb,sm,sd⟩:=s;obtain ⟨tn,ta,tl,tc,tb,tm,td⟩:=t;go_enter Tryz.func207,Tryz.ntmps207;replace b_BC:=b3 BC;replace b_BF:=b3 BF
 go_upto_region 1 with fail
 refine iK ?_;intro w1 hE B6 B7 hz_w1 hr_w1;replace HM:=Hi (HM.out.trans (aJ.of_ext hE));replace HK:=Hi (dB.trans HK.out (bD hE));refine mV6 hE ?_ HS HT LA BC BF HO;clear HS HT LA BC BF HO;intro HS HT LA BC BF HO;have hs_w1:=hE.size;clear hE;replace b_BC:=b3 BC;replace b_BF:=b3 BF;replace b_B6:=b3 B6;replace b_B7:=b3 B7
 go_wp2_with fail
 refine cM (mp ao N cap l S _ LA.out (by omega) (A7 HLZ.out hS1) (by omega)) fun x15 w15 hE _=>?_
 replace HM:=Hi (HM.out.trans (aJ.of_ext hE));replace HK:=Hi (dB.trans HK.out (bD hE))
 refine mV8 hE ?_ B6 B7 HS HT LA BC BF HO;clear B6 B7 HS HT LA BC BF HO;intro B6 B7 HS HT LA BC BF HO
 have hs_w15:=hE.size;clear hE;replace b_BC:=b3 BC;replace b_BF:=b3 BF;replace b_B6:=b3 B6;replace b_B7:=b3 B7;by_cases hp:gR l=true
 case pos =>
  have HV:=Hi (Cg (d:=d) (a:=a) (b:=b) hp);rw [hp];clear hp;clear LA
  go_upto_region 2 with fail
  refine wpG 5 (fun opIx=>match opIx with
   | 3=>.spec (RH×RH) (default) (IvV) (fun x w'=>IvC w' x (loV a b) (hiV a b))
   | 4=>.spec (Nat×(RH×RH)) ((0,default)) (fun p=>.slice (some ⟨p.1,0,none⟩) 1 1) (fun p w'=>ft w' p (loV a b) (hiV a b))
   | _=>.quiet) (fun|4=>[3]|_=>[]) fun w0 he0 hz0 hc0 hf0=>?_
  refine wps he0.out rfl rfl (fun w1 hW hG=>?_) fun x30=>?_
  ·exact spc [RH.v ⟨sn,sa,sl,sc,sb,sm,sd⟩,RH.v ⟨tn,ta,tl,tc,tb,tm,td⟩] Tryz.func171 (kX _ _ _ _ _ ((HS.out.ext hW).raw ZA.out (by omega)) ((HT.out.ext hW).raw ZB.out (by omega)))
  refine qZ ?_;refine wps he0.out rfl rfl (fun w1 hW hG=>?_) fun x31=>?_
  ·have g30:=(hG 3 (by decide):ay _ _).get fun _ e g=>g.ext e
   exact nU x30 _ _ g30 rfl (by simp [execOp,go_sem])
  refine qZ ?_;refine wpF_nil ?_;intro w3 hI;have hE:=he0.out.trans hI.ext;have G30:=gT (hI.facts 3);have G31:=gT (hI.facts 4);clear hI he0 hz0 hc0 hf0;replace HM:=Hi (HM.out.trans (aJ.of_ext hE));replace HK:=Hi (dB.trans HK.out (bD hE))
  refine mV7 hE ?_ B6 B7 BC BF HO HS HT;clear B6 B7 BC BF HO HS HT;intro B6 B7 BC BF HO HS HT
  have hs_w3:=hE.size;clear hE;replace b_BC:=b3 BC;replace b_BF:=b3 BF;replace b_B6:=b3 B6;replace b_B7:=b3 B7;simp only [pD]
  go_upto_region 3 with (at_builtin;refine ju rfl (.tmp 16) (.tmp 20) 53 Tryz.underlying53 rfl (fun k=>D k∨w.heap.size≤k) _ n qs x31.1 0 1 1 [x31.2.1,x31.2.2] [loV a b,hiV a b] rfl (HO.out.mono (fun k _ h=>Or.inl h)) rfl rfl (by decide) G31.out.at G31.out.vals (by omega) (by decide) (fun k hk=>Or.inr (by omega)) ?_;intro s' y3 q1 q2 q3;have hBC:=q2.blk (fun h=>h.elim (fun h=>(HDD.out _ h).2.1 rfl) (fun h=>by omega)) BC.out;have c6:=ae hBC;have f6:=af hBC;have l6:=(Array.getElem?_eq_some_iff.1 hBC).1)
  replace HM:Hid (aJ (fun k=>k=bc∨D k) w y3):=Hi (j5 HM.out q2 (fun k hk h=>h.elim (fun h=>Or.inr h) (fun h=>by omega)));replace HK:=Hi (dB.trans HK.out q3);replace BF:=Hi (q2.blk (fun h=>h.elim (fun h=>(HDD.out _ h).2.2 rfl) (fun h=>by omega)) BF.out);replace HO:=Hi q1;have hsz3:=q2.size;refine s7 hBC rfl ?_;intro y4 T;replace HM:=Hi (aJ.put HM.out T (Or.inl (Or.inl rfl)));replace HK:=Hi (dB.trans HK.out T.keep);replace BF:=Hi (T.rest _ _ (by omega) BF.out);replace HO:=Hi (HO.out.put T (fun h=>h.elim (fun h=>(HDD.out _ h).2.1 rfl) (fun h=>by omega)));have BC2:=Hi T.bx;have hsz4:=T.size;clear q1 q2 q3 hBC c6 f6 l6 T BC b_BC B6 B7 b_B6 b_B7 b_BF HS HT G30 G31;go_wp2
  go_ret
  refine ⟨by rw [HV.out];rfl,HM.out,HK.out,s'.v,n+1,(fun k=>(D k∨w.heap.size≤k)∧k<y4.heap.size),qs++[loV a b,hiV a b],⟨BC2.out,BF.out,HO.out.mono (fun k hk h=>⟨h,hk⟩),fun k h=>⟨h.2,?_⟩,hbcf⟩,fun k h=>h.1,by omega,fun x hx=>by rw [HV.out] at hx;rw [←Option.some.inj hx]⟩;rcases h.1 with h1|h1
  ·exact (HDD.out k h1).2
  ·omega
 have hpf:gR l=false:=by simpa using hp
 have HPF:=Hi hpf;rw [hpf];clear hp hpf;have hN1:(0:Int)<(N:Nat):=by omega
 obtain ⟨n1,hn1⟩:∃ n1,N=n1+1:=⟨N-1,by omega⟩;have hNs:(N:Int)-1=(n1:Nat):=by omega
 have hn1N:(n1:Int)<(N:Nat):=by omega
 have HN1:=Hi hn1;clear hn1;cases d with
 | zero =>
  obtain rfl:e=12:=by omega
  have HV:Hid (cvV 0 a b l=none):=Hi (qw HPF.out)
  go_upto_region 4 with fail
  have hcvw:CvI w15 bc bf D n qs (.slice va n vc):=⟨BC.out,BF.out,HO.out,fun k h=>⟨Nat.lt_of_lt_of_le (HDD.out k h).1 (by omega),(HDD.out k h).2⟩,hbcf⟩
  go_quiet (fail)
  go_wp2
  go_ret
  exact ⟨by rw [HV.out];rfl,k7 HM.out HK.out hcvw (Ext.drewN _ _) HV.out⟩
 | succ d =>
  have he:¬ (e:Int)=12:=by omega
  have heb:((e:Int) == 12)=false:=by rw [beq_eq_false_iff_ne];exact he
  obtain ⟨bw,off,r,hao,hbl,⟨f1,f2,f3⟩,hP⟩:=LA.out.lin.celx (k:=0) (by omega);obtain ⟨bw',off',r',hao',hbl',⟨d1,d2,d3⟩,hP'⟩:=LA.out.lin.celx (k:=n1) (by omega);subst hao;obtain ⟨rfl,rfl⟩:bw=bw'∧off=off':=by simpa using hao'
  clear hao';obtain ⟨rn,ra,rl,rc,rb,rm,rd⟩:=r;obtain ⟨r2n,r2a,r2l,r2c,r2b,r2m,r2d⟩:=r';simp only [Nat.zero_mul,Nat.add_zero] at f1 f2 f3 d1 d2 d3;have HP:=Hi hP;have HP':=Hi hP';clear hP hP';obtain ⟨pe,hpe⟩:∃ pe,pe=gR [l.getD 0 0,l.getD n1 0]:=⟨_,rfl⟩;have HPE:Hid (pe=gR [l.getD 0 0,l.getD (l.length-1) 0]):=Hi (by rw [hpe,HLl.out,HN1.out,Nat.add_sub_cancel]);have HPE2:=Hi hpe;have HZ2:Hid (SzL S [l.getD 0 0,l.getD n1 0]):=Hi (by
   have hz:=A7 HLZ.out hS1;intro x hx;rcases List.mem_cons.1 hx with rfl|h
   ·exact hz.at (by rw [HLl.out];exact hN)
   ·rw [List.mem_singleton.1 h];exact hz.at (by rw [HLl.out];omega))
  clear hpe
  go_upto_region 4 with fail
  refine ah 14 (fun opIx=>match opIx with
   | 12=>.spec (Nat) (0) (fun b:Nat=>.slice (some ⟨b,0,none⟩) 2 2) (fun b w'=>ce w' ⟨some ⟨b,0,none⟩,2,2⟩ [l.getD 0 0,l.getD n1 0])
   | 13=>.spec Unit () (fun _=>.bool pe) (fun _ _=>True)
   | _=>.quiet) (fun|13=>[12]|_=>[]) (by kernel_rfl) (by kernel_rfl) (fun w0 he0 hz0 hc0 hf0=>?_)
  replace he0:=Hi he0;simp only [pT]
  repeat (refine wpq fun K h=>?_;go_big_quiet_op;refine h _ ?_;clear h K;(try simp only [heb]))
  refine wps he0.out rfl rfl (fun w1 hW hG=>?_) fun x40=>?_
  ·exact i7 ⟨rn,ra,rl,rc,rb,rm,rd⟩ ⟨r2n,r2a,r2l,r2c,r2b,r2m,r2d⟩ _ _ (HP.out.ext hW) (HP'.out.ext hW) rfl (by simp [execOp,go_sem])
  simp only [pS]
  repeat (refine wpq fun K h=>?_;go_big_quiet_op;refine h _ ?_;clear h K;(try simp only [heb]))
  refine wps he0.out rfl rfl (fun w1 hW hG=>?_) fun x41=>?_
  ·have g40:=(hG 12 (by decide):ay _ _).get fun _ e g=>g.ext e
   exact spc [.slice (some ⟨x40,0,none⟩) 2 2] Tryz.func110 ((by rw [HPE2.out];exact mp _ 2 2 _ S _ g40 (by decide) HZ2.out (by omega)))
  simp only [pS]
  repeat (refine wpq fun K h=>?_;go_big_quiet_op;refine h _ ?_;clear h K;(try simp only [heb]))
  refine wpF_nil ?_;intro w4 hI;have hE:=he0.out.trans hI.ext;have G40:=gT (hI.facts 12);clear hI he0 hz0 hc0 hf0;replace HM:=Hi (HM.out.trans (aJ.of_ext hE));replace HK:=Hi (dB.trans HK.out (bD hE));refine mV8 hE ?_ LA B6 B7 BC HS HT BF HO;clear LA B6 B7 BC HS HT BF HO;intro LA B6 B7 BC HS HT BF HO;have hs_w4:=hE.size;clear hE;replace b_BC:=b3 BC;replace b_BF:=b3 BF;replace b_B6:=b3 B6;replace b_B7:=b3 B7;simp only [pD];clear f1 f2 f3 d1 d2 d3;have hcvw:CvI w4 bc bf D n qs (.slice va n vc):=⟨BC.out,BF.out,HO.out,fun k h=>⟨Nat.lt_of_lt_of_le (HDD.out k h).1 (by omega),(HDD.out k h).2⟩,hbcf⟩;have HCV:=Hi hcvw;clear hcvw;cases pe with
  | false =>
   have HV:Hid (cvV (d+1) a b l=none):=Hi (Cj HPF.out HPE.out.symm);go_wp2
   go_ret
   exact ⟨by rw [HV.out];rfl,k7 HM.out HK.out HCV.out (Ext.refl _) HV.out⟩
  | true =>
  have HPT:=Hi HPE.out.symm
  go_wp2_with fail
  refine cM (tF ⟨sn,sa,sl,sc,sb,sm,sd⟩ ⟨tn,ta,tl,tc,tb,tm,td⟩ a b T _ (HS.out.raw ZA.out (by omega)) (HT.out.raw ZB.out (by omega)) ZA.out ZB.out hTd) fun x50 w50 hE G50=>?_
  replace HM:=Hi (HM.out.trans (aJ.of_ext hE));replace HK:=Hi (dB.trans HK.out (bD hE));refine mV8 hE ?_ LA B6 B7 BC HS HT BF HO;clear LA B6 B7 BC HS HT BF HO;intro LA B6 B7 BC HS HT BF HO;have hs_w50:=hE.size;clear hE;replace b_BC:=b3 BC;replace b_BF:=b3 BF;replace b_B6:=b3 B6;replace b_B7:=b3 B7;obtain ⟨mn,ma,ml,mc,mb,mm,md⟩:=x50
  go_upto_region 7 with fail
  refine nmA ?_;intro w51 hE B11 hz_w51 hr_w51;replace HM:=Hi (HM.out.trans (aJ.of_ext hE));replace HK:=Hi (dB.trans HK.out (bD hE));refine mV8 hE ?_ G50 LA B6 B7 BC HS HT BF;clear G50 LA B6 B7 BC HS HT BF;intro G50 LA B6 B7 BC HS HT BF;replace HO:=mV hE HO;have hs_w51:=hE.size;clear hE;replace b_BC:=b3 BC;replace b_BF:=b3 BF;replace b_B6:=b3 B6;replace b_B7:=b3 B7;replace b_B11:=b3 B11;have HLr:Hid (ce w51 ⟨some ⟨bw,off,none⟩,N,cap⟩ (row N (fun i=>l.getD i 0))):=Hi (by rw [zD HLl.out];exact LA.out);have HZH:Hid (∀ k,k≤n1→Wz S (l.getD k 0)):=Hi (fun k hk=>by
   have hk2:k<l.length:=by rw [HLl.out,HN1.out];omega
   rw [List.getD_eq_getElem?_getD,List.getElem?_eq_getElem hk2];exact HLZ.out _ (List.getElem_mem hk2))
  go_wp2_with fail
  refine cM (oR (some ⟨bw,off,none⟩) N n1 cap (fun i=>l.getD i 0) S _ HLr.out HN1.out (by have:=HN1.out;omega) HZH.out hS1 (by omega)) fun x52 w52 hE G52=>?_
  replace HM:=Hi (HM.out.trans (aJ.of_ext hE));replace HK:=Hi (dB.trans HK.out (bD hE))
  refine mV8 hE ?_ B11 G50 LA B6 B7 BC HS HT;clear B11 G50 LA B6 B7 BC HS HT;intro B11 G50 LA B6 B7 BC HS HT
  refine mV2 hE ?_ BF HO;clear BF HO;intro BF HO
  have hs_w52:=hE.size;clear hE;replace b_BC:=b3 BC;replace b_BF:=b3 BF;replace b_B6:=b3 B6;replace b_B7:=b3 B7;replace b_B11:=b3 B11;clear LA;clear HLr HZH;obtain ⟨x53,x54⟩:=x52;obtain ⟨⟨Lp,hLp,hxp,hRp⟩,⟨Lq,hLq,hxq,hRq⟩⟩:=G52.out;simp only at hxp hxq;rw [aF] at hxp hxq;subst hxp hxq;have HRW:=Hi (BP HLl.out HN1.out);have HRp:Hid (aX w52 Lp (hlL l)):=Hi (by rw [HRW.out.1];exact hRp);have HRq:Hid (aX w52 Lq (hlR l)):=Hi (by rw [HRW.out.2];exact hRq);have HLL:Hid ((hlL l).length=N∧(hlR l).length=N):=Hi (by rw [HRW.out.1,HRW.out.2,aF,aF];exact ⟨rfl,rfl⟩);have HWZ:=Hi (De (l:=l) (S:=S) (by rw [HLl.out];exact hN9) HLZ.out);have hLp2:w51.heap.size≤Lp:=hLp;have hLq2:w51.heap.size≤Lq:=hLq;have hLq3:=aX.lt HRq.out;clear hRp hRq G52 hLp hLq;have hb51:w50.heap.size<w51.heap.size:=by omega
  have hcv52:CvI w52 bc bf D n qs (.slice va n vc):=⟨BC.out,BF.out,HO.out,fun k h=>⟨Nat.lt_of_lt_of_le (HDD.out k h).1 (by omega),(HDD.out k h).2⟩,hbcf⟩;have HC52:=Hi hcv52;clear hcv52;have hp2:(T+3)*2 ^ (d+1)=(2*T+3+3)*2 ^ d:=by rw [Nat.pow_succ];rw [show 2*T+3+3=(T+3)*2 by omega,Nat.mul_assoc,Nat.mul_comm 2]
  have hn2:2 ^ (d+1)=2 ^ d+2 ^ d:=by rw [Nat.pow_succ];omega
  have HP2:=Hi hp2;have HN2:=Hi hn2;clear hp2 hn2;have he1:(e:Int)+1=((e+1:Nat):Int):=by omega
  have HE1:=Hi he1;clear he1
  go_wp2_with fail
  rw [HE1.out];refine Calls.mono (IH.out d rfl (e+1) (by omega) ⟨sn,sa,sl,sc,sb,sm,sd⟩ ⟨mn,ma,ml,mc,mb,mm,md⟩ a (mdV a b) (some ⟨Lp,0,none⟩) N (hlL l) (2*T+3) (S+9) n (.slice va n vc) D qs _ HS.out G50.out (ZA.out.mono (by omega)) (BE ZA.out ZB.out) (by have:=HP2.out;omega) (aX.can HRp.out HLL.out.1 (Nat.le_refl _) (by omega)) HWZ.out.1 (by omega) (by omega) HC52.out (by have:=HN2.out;omega)) ?_;rintro r5 w53 ⟨rfl,m1,k1,v1,n1',D1,qs1,cv1,hD1,hn1',hx1⟩;have hE6:∀ k,w.heap.size≤k→¬ (k=bc∨D k):=fun k hk h=>h.elim (fun h=>by omega) (fun h=>by have:=(HDD.out k h).1;omega)
  have hsz53:=m1.size;replace HM:Hid (aJ (fun k=>k=bc∨D k) w w53):=Hi (j5 HM.out m1 (fun k _ h=>h));replace HK:=Hi (dB.trans HK.out k1);replace HT:=Hi (HT.out.keep k1);replace G50:=Hi (G50.out.keep k1);replace B6:=Hi (m1.blk (hE6 _ (by omega)) B6.out);replace B7:=Hi (m1.blk (hE6 _ (by omega)) B7.out);replace B11:=Hi (m1.blk (hE6 _ (by omega)) B11.out);replace HRq:=Hi (HRq.out.mods m1 k1 (hE6 _ (by omega)));have CV1:=Hi cv1;have HX1:=Hi hx1;have HD1:=Hi hD1;have BF1:=Hi cv1.2.1;replace b_BF1:=b3 BF1;have c6:=ae B6.out;have f6:=af B6.out;have l6:=(Array.getElem?_eq_some_iff.1 B6.out).1;have c7:=ae B7.out;have f7:=af B7.out;have l7:=(Array.getElem?_eq_some_iff.1 B7.out).1;have c11:=ae B11.out;have f11:=af B11.out;have l11:=(Array.getElem?_eq_some_iff.1 B11.out).1;clear m1 k1 cv1 hx1 hD1 BC BF HO HC52 HCV HS HRp b_BC b_BF b_B6 b_B7 b_B11;rcases hc1:cvV d a (mdV a b) (hlL l) with _|xs
  ·have HV:Hid (cvV (d+1) a b l=none):=Hi (xH HPF.out hc1);have HD:Hid (∀ k,D1 k→D k∨w.heap.size≤k):=Hi (fun k h=>(HD1.out k h).imp id (fun h=>by omega));clear hc1;simp only [Option.isSome];go_wp2
   go_ret
   exact ⟨by rw [HV.out];rfl,HM.out,HK.out,v1,n1',D1,qs1,CV1.out,HD.out,by have:=HN2.out;omega,fun x hx=>by rw [HV.out] at hx;cases hx⟩
  have HC1:=Hi hc1;clear hc1;simp only [Option.isSome]
  go_wp2_with fail
  rw [HE1.out];refine Calls.mono (IH.out d rfl (e+1) (by omega) ⟨mn,ma,ml,mc,mb,mm,md⟩ ⟨tn,ta,tl,tc,tb,tm,td⟩ (mdV a b) b (some ⟨Lq,0,none⟩) N (hlR l) (2*T+3) (S+9) n1' v1 D1 qs1 _ G50.out HT.out (BE ZA.out ZB.out) (ZB.out.mono (by omega)) (by have:=HP2.out;omega) (aX.can HRq.out HLL.out.2 (Nat.le_refl _) (by omega)) HWZ.out.2 (by omega) (by omega) CV1.out (by have:=HN2.out;omega)) ?_;rintro r6 w54 ⟨rfl,m1,k1,v2,n2',D2,qs2,cv2,hD2,hn2',hx2⟩;replace HM:Hid (aJ (fun k=>k=bc∨D k) w w54):=Hi (j5 HM.out m1 (fun k hk h=>h.elim (fun h=>Or.inl h) (fun h=>(HD1.out k h).elim (fun h=>Or.inr h) (fun h=>by omega))));replace HK:=Hi (dB.trans HK.out k1);have CV2:=Hi cv2;have HX2:=Hi hx2;have HD:Hid (∀ k,D2 k→D k∨w.heap.size≤k):=Hi (fun k h=>(hD2 k h).elim (fun h=>(HD1.out k h).imp id (fun h=>by omega)) (fun h=>Or.inr (by omega)));clear m1 k1 cv2 hx2 hD2;rcases hc2:cvV d (mdV a b) b (hlR l) with _|ys
  ·have HV:Hid (cvV (d+1) a b l=none):=Hi (xG HPF.out HC1.out hc2);clear hc2;simp only [Option.isSome];go_wp2
   go_ret
   exact ⟨by rw [HV.out];rfl,HM.out,HK.out,v2,n2',D2,qs2,CV2.out,HD.out,by have:=HN2.out;omega,fun x hx=>by rw [HV.out] at hx;cases hx⟩
  have HV:Hid (cvV (d+1) a b l=some (xs++ys)):=Hi (Dj HPF.out HPT.out HC1.out hc2);have HQ:Hid (qs2=qs++(xs++ys)):=Hi (by rw [HX2.out ys hc2,HX1.out xs HC1.out,List.append_assoc]);clear hc2;simp only [Option.isSome];go_wp2
  go_ret
  exact ⟨by rw [HV.out];rfl,HM.out,HK.out,v2,n2',D2,qs2,CV2.out,HD.out,by have:=HN2.out;omega,fun x hx=>by rw [HV.out] at hx;rw [←Option.some.inj hx];exact HQ.out⟩
theorem uH(bc bf N:Nat)(hN:0<N)(hN9:N≤9)(d:Nat):Dz bc bf N d:=by
 induction d with
 | zero=>exact k6 bc bf N 0 hN hN9 (fun d' h=>by omega)
 | succ d ih =>
  refine k6 bc bf N (d+1) hN hN9 (fun d' h=>?_);obtain rfl:d=d':=by omega
  exact ih
end Go.Proofs.YtofhkmcllihgmaaGreat
/- Package bernstein: Prove, Coefficients. -/
set_option linter.unusedVariables false
namespace Go.Proofs.YtofhkmcllihgmaaGreat
open Go.RowKit Go.Front Go.Num Stab
attribute [local go_sem] XW.cell XW.frozen
theorem oo{w1:World}{b:Nat}{T:TypeId}{c0 c1 c2 c3 c4 c5 c6 v0 v1 v2 v3 v4 v5 v6:Value}{F:World→Prop}(hb:w1.heap[b]?=some (.cells #[c0,c1,c2,c3,c4,c5,c6] T (0,0)))(hn:#[c0,c1,c2,c3,c4,c5,c6].toList.all eX=true)(h:∀ w2,dN w1 b T #[v0,v1,v2,v3,v4,v5,v6] w2→F w2) :
  F (((((((w1.setCell ⟨b,0,none⟩ v0).setCell ⟨b,1,none⟩ v1).setCell ⟨b,2,none⟩ v2).setCell ⟨b,3,none⟩ v3).setCell ⟨b,4,none⟩ v4).setCell ⟨b,5,none⟩ v5).setCell ⟨b,6,none⟩ v6):=by
 have e0:=aG hb 0 v0;simp only [List.setIfInBounds_toArray,List.set_cons_zero] at e0;have e1:=aG e0 1 v1;simp only [List.setIfInBounds_toArray,List.set_cons_zero,List.set_cons_succ] at e1;have e2:=aG e1 2 v2;simp only [List.setIfInBounds_toArray,List.set_cons_zero,List.set_cons_succ] at e2;have e3:=aG e2 3 v3;simp only [List.setIfInBounds_toArray,List.set_cons_zero,List.set_cons_succ] at e3;have e4:=aG e3 4 v4;simp only [List.setIfInBounds_toArray,List.set_cons_zero,List.set_cons_succ] at e4;have e5:=aG e4 5 v5;simp only [List.setIfInBounds_toArray,List.set_cons_zero,List.set_cons_succ] at e5;have e6:=aG e5 6 v6;simp only [List.setIfInBounds_toArray,List.set_cons_zero,List.set_cons_succ] at e6;exact h _ (dN.of (Array.getElem?_eq_some_iff.1 hb).1 (ai hb hn) (((((((aJ.setCell w1 ⟨b,0,none⟩ v0).trans (aJ.setCell _ ⟨b,1,none⟩ v1)).trans (aJ.setCell _ ⟨b,2,none⟩ v2)).trans (aJ.setCell _ ⟨b,3,none⟩ v3)).trans (aJ.setCell _ ⟨b,4,none⟩ v4)).trans (aJ.setCell _ ⟨b,5,none⟩ v5)).trans (aJ.setCell _ ⟨b,6,none⟩ v6)) (by simp [World.setCell]) e6)
abbrev zR:RH:=⟨false,none,0,0,none,0,0⟩
abbrev SgV(x:(RH×RH)×SH):Value:=.agg #[.bool x.1.1.neg,.slice x.1.1.a x.1.1.n x.1.1.c,.slice x.1.1.b x.1.1.m x.1.1.d,.bool x.1.2.neg,.slice x.1.2.a x.1.2.n x.1.2.c,.slice x.1.2.b x.1.2.m x.1.2.d,.slice x.2.a x.2.n x.2.c]
abbrev PvT(x:((RH×RH)×SH)×Int):Value:=.tuple #[SgV x.1,.int .i64 x.2]
def prV(p:List Rat)(a b:Rat):Option (List Rat):=if p=[] then none else cvV 12 a b (lcW p a b)
def PvP(B:Nat)(w:World)(x:((RH×RH)×SH)×Int)(a b:Rat)(r:Option (List Rat)):Prop :=
 match r with
 | none=>x=(((zR,zR),⟨none,0,0⟩),22)
 | some qs=>x.2=0∧IvC w x.1.1 a b∧eL w (B≤·) x.1.2.v x.1.2.n qs
set_option maxRecDepth 8000 in
set_option maxHeartbeats 16000000 in
theorem lh(ao:Option Addr)(n cap:Nat)(l:List Rat)(s t:RH)(a b:Rat)(S T:Nat)(w:World)(h:dU w ⟨ao,n,cap⟩ l)(hs:aO w s a)(ht:aO w t b)(hn:n≤1000)(h8:(tz l).length≤8)(hz:SzL S (tz l))(za:Sz T a)(zb:Sz T b)(hS:S≤1000)(hT:T≤450) :
  au 113 [.slice ao n cap,IvV (s,t)] w PvT (fun x w'=>PvP w.heap.size w' x (loV a b) (hiV a b) (prV (tz l) (loV a b) (hiV a b))):=by
 have HX:=Hi (Ext.refl w);have HS:=Hi hs;have HT:=Hi ht;have LA:=Hi h;have LA0:=Hi h;have ZA:Hid (Sz T (loV a b)):=Hi (by rcases ox a b with e|e <;> rw [e] <;> assumption);have ZB:Hid (Sz T (hiV a b)):=Hi (by rcases rK a b with e|e <;> rw [e] <;> assumption);have HZ:=Hi hz;have hAB:=kE a b;have HWZ:Hid (∀ x ∈ lcW (tz l) (loV a b) (hiV a b),Wz (9*S+80*T+76) x):=Hi (qf hz h8 ZA.out ZB.out hAB);have HLO:Hid (loV (loV a b) (hiV a b)=loV a b):=Hi (gL hAB);have HHI:Hid (hiV (loV a b) (hiV a b)=hiV a b):=Hi (gN hAB);clear h hs ht za zb hz hAB;obtain ⟨sn,sa,sl,sc,sb,sm,sd⟩:=s;obtain ⟨tn,ta,tl,tc,tb,tm,td⟩:=t;obtain ⟨N,hN⟩:∃ N,N=(tz l).length:=⟨_,rfl⟩;have HN:=Hi hN;unfold au;go_enter Tryz.func113,Tryz.ntmps113
 go_upto_region 1 with fail
 refine iK ?_;intro w1 hE B3 B4 hz_w1 hr_w1;refine mV4 hE ?_ HX HS HT LA;clear HX HS HT LA;intro HX HS HT LA;have hs_w1:=hE.size;clear hE;replace b_B3:=b3 B3;replace b_B4:=b3 B4
 go_wp2_with fail
 refine cM (jU ao n cap l _ LA.out) fun x12 w12 hE _=>?_
 refine mV6 hE ?_ B3 B4 HX HS HT LA;clear B3 B4 HX HS HT LA;intro B3 B4 HX HS HT LA
 have hs_w12:=hE.size;clear hE;replace b_B3:=b3 B3;replace b_B4:=b3 B4;rw [←hN];rw [←hN] at h8;clear hN;have hd1:¬ (48:Int)<(N:Int)-1:=by omega
 by_cases h0:N=0
 case pos =>
  subst h0;have hd2:((0:Nat):Int)-1<0:=by decide
  have HV:Hid (prV (tz l) (loV a b) (hiV a b)=none):=Hi (by unfold prV;rw [if_pos (List.length_eq_zero_iff.1 HN.out.symm)]);clear LA;clear HS;clear HT;go_wp2;refine oo B4.out (by rfl) ?_;intro w2 T;replace HX:=Hi (T.ext HX.out (by omega));replace B3:=Hi (T.rest _ _ (by omega) B3.out);replace B4:=Hi (T.bx);have hs_w2:=nle T.size;have hr_w2:=nle T.size.symm;clear T;replace b_B3:=b3 B3;replace b_B4:=b3 B4;exact bodyPost_ret (v:=PvT (((zR,zR),⟨none,0,0⟩),22)) (by simp [results,Tryz.results113,go_sem,ae B4.out]) rfl ⟨(((zR,zR),⟨none,0,0⟩),22),rfl,HX.out,by rw [HV.out];rfl⟩
 have hd2:¬ (N:Int)-1<0:=by omega
 have HP0:Hid (tz l≠[]):=Hi (fun h=>h0 (by rw [HN.out,h];rfl));clear LA
 go_upto_region 8 with fail
 refine iK ?_;intro w13 hE B7 B8 hz_w13 hr_w13;refine mV5 hE ?_ HS HT HX B3 B4;clear HS HT HX B3 B4;intro HS HT HX B3 B4;have hs_w13:=hE.size;clear hE;replace b_B3:=b3 B3;replace b_B4:=b3 B4;replace b_B7:=b3 B7;replace b_B8:=b3 B8
 go_upto_region 9 with fail
 refine s7 B8.out rfl ?_;intro w14 T;replace HX:=Hi (T.ext HX.out (by omega));replace HS:=Hi (HS.out.keep T.keep);replace HT:=Hi (HT.out.keep T.keep);replace B3:=Hi (T.rest _ _ (by omega) B3.out);replace B4:=Hi (T.rest _ _ (by omega) B4.out);replace B7:=Hi (T.rest _ _ (by omega) B7.out);replace B8:=Hi (T.bx);have hs_w14:=nle T.size;have hr_w14:=nle T.size.symm;clear T;replace b_B3:=b3 B3;replace b_B4:=b3 B4;replace b_B7:=b3 B7;replace b_B8:=b3 B8
 go_wp2_with fail
 refine cM (eU ⟨sn,sa,sl,sc,sb,sm,sd⟩ ⟨tn,ta,tl,tc,tb,tm,td⟩ a b _ HS.out HT.out) fun x23 w23 hE G23=>?_
 refine mV7 hE ?_ HX HS HT B3 B4 B7 B8;clear HX HS HT B3 B4 B7 B8;intro HX HS HT B3 B4 B7 B8
 have hs_w23:=hE.size;clear hE;replace b_B3:=b3 B3;replace b_B4:=b3 B4;replace b_B7:=b3 B7;replace b_B8:=b3 B8;clear HS;clear HT;obtain ⟨⟨ln,la,ll,lc,lb,lm,ld⟩,⟨hn',ha,hl,hcc,hb,hm,hd⟩⟩:=x23;have HL:=Hi G23.out.1;have HH:=Hi G23.out.2;clear G23;simp only at HL HH
 go_upto_region 10 with fail
 refine bK B3.out rfl ?_;intro w24 T;replace HX:=Hi (T.ext HX.out (by omega));replace B3:=Hi (T.bx);replace B4:=Hi (T.rest _ _ (by omega) B4.out);replace B7:=Hi (T.rest _ _ (by omega) B7.out);replace B8:=Hi (T.rest _ _ (by omega) B8.out);replace HL:=Hi (HL.out.keep T.keep);replace HH:=Hi (HH.out.keep T.keep);have hs_w24:=nle T.size;have hr_w24:=nle T.size.symm;clear T;replace b_B3:=b3 B3;replace b_B4:=b3 B4;replace b_B7:=b3 B7;replace b_B8:=b3 B8;have LA1:=Hi (LA0.out.ext HX.out)
 go_wp2_with fail
 refine cM (iT ao n cap l ⟨ln,la,ll,lc,lb,lm,ld⟩ ⟨hn',ha,hl,hcc,hb,hm,hd⟩ (loV a b) (hiV a b) S T _ LA1.out (HL.out.raw ZA.out (by omega)) (HH.out.raw ZB.out (by omega)) hn HP0.out (by rw [←HN.out];exact h8) HZ.out ZA.out ZB.out hS hT) fun x27 w27 hE G27=>?_
 refine mV7 hE ?_ HX B3 B4 B7 B8 HL HH;clear HX B3 B4 B7 B8 HL HH;intro HX B3 B4 B7 B8 HL HH
 have hs_w27:=hE.size;clear hE;replace b_B3:=b3 B3;replace b_B4:=b3 B4;replace b_B7:=b3 B7;replace b_B8:=b3 B8;rw [HLO.out,HHI.out] at G27;obtain ⟨x28,⟨zn,za,zl,zc,zb,zm,zd⟩⟩:=x27;obtain ⟨⟨Lw,hLw,hxw,hRw⟩,hz27⟩:=G27.out;simp only at hxw;rw [kS,←HN.out] at hxw;subst hxw;have HR:=Hi hRw;clear hRw hz27 G27 LA1
 go_upto_region 11 with fail
 refine nmA ?_;intro w30 hE B10 hz_w30 hr_w30;refine mV8 hE ?_ HX B3 B4 B7 B8 HL HH HR;clear HX B3 B4 B7 B8 HL HH HR;intro HX B3 B4 B7 B8 HL HH HR;have hs_w30:=hE.size;clear hE;replace b_B3:=b3 B3;replace b_B4:=b3 B4;replace b_B7:=b3 B7;replace b_B8:=b3 B8;replace b_B10:=b3 B10
 go_wp2_with fail
 have hcv:CvI w30 w12.heap.size (w12.heap.size+1) (fun _=>False) 0 [] (.slice none 0 0):=⟨B7.out,B8.out,eL.nil _ _,fun k h=>h.elim,by omega⟩;refine Calls.mono (uH w12.heap.size (w12.heap.size+1) N (by omega) (by omega) 12 0 rfl ⟨ln,la,ll,lc,lb,lm,ld⟩ ⟨hn',ha,hl,hcc,hb,hm,hd⟩ (loV a b) (hiV a b) (some ⟨Lw,0,none⟩) N (lcW (tz l) (loV a b) (hiV a b)) T (9*S+80*T+76) 0 (.slice none 0 0) (fun _=>False) [] _ HL.out HH.out ZA.out ZB.out (by omega) (aX.can HR.out (by rw [kS,←HN.out]) (Nat.le_refl _) (by omega)) HWZ.out (by omega) (by omega) hcv (by decide)) ?_;rintro r5 w31 ⟨rfl,m1,k1,v1,n1',D1,qs1,⟨cb,cf,co,cD,-⟩,hD1,hn1',hx1⟩;have hE7:∀ k,k≠w12.heap.size→¬ (k=w12.heap.size∨False):=fun k hk h=>h.elim hk id
 obtain ⟨va,vc,rfl⟩:=co.sh;replace HX:=Hi (Ext.mods HX.out m1 (fun k h=>h.elim (fun h=>by omega) (fun h=>h.elim)));replace B3:=Hi (m1.blk (hE7 _ (by omega)) B3.out);replace B4:=Hi (m1.blk (hE7 _ (by omega)) B4.out);replace HL:=Hi (HL.out.keep k1);replace HH:=Hi (HH.out.keep k1);have HO:Hid (eL w31 (fun k=>w30.heap.size≤k) (.slice va n1' vc) n1' qs1):=Hi (co.mono (fun k _ h=>(hD1 k h).resolve_left id));replace B7:=Hi cb;have hsz31:=m1.size;have HX1:=Hi hx1;have HPV:Hid (prV (tz l) (loV a b) (hiV a b)=cvV 12 (loV a b) (hiV a b) (lcW (tz l) (loV a b) (hiV a b))):=Hi (if_neg HP0.out);clear m1 k1 cb cf co cD hD1 hx1 hcv B8 B10 HR b_B3 b_B4 b_B7 b_B8 b_B10;replace b_B3:=b3 B3;replace b_B4:=b3 B4;replace b_B7:=b3 B7;rcases hc1:cvV 12 (loV a b) (hiV a b) (lcW (tz l) (loV a b) (hiV a b)) with _|xs
 case none =>
  have HV:Hid (prV (tz l) (loV a b) (hiV a b)=none):=Hi (by rw [HPV.out,hc1]);clear hc1;simp only [Option.isSome];go_wp2;refine oo B4.out (by rfl) ?_;intro w40 T;replace HX:=Hi (T.ext HX.out (by omega));replace HL:=Hi (HL.out.keep T.keep);replace HH:=Hi (HH.out.keep T.keep);replace B3:=Hi (T.rest _ _ (by omega) B3.out);replace B4:=Hi (T.bx);replace B7:=Hi (T.rest _ _ (by omega) B7.out);replace HO:=Hi (HO.out.put T (by intro h;(try dsimp only at h);omega));have hs_w40:=nle T.size;have hr_w40:=nle T.size.symm;clear T;replace b_B3:=b3 B3;replace b_B4:=b3 B4;replace b_B7:=b3 B7;exact bodyPost_ret (v:=PvT (((zR,zR),⟨none,0,0⟩),22)) (by simp [results,Tryz.results113,go_sem,ae B4.out]) rfl ⟨(((zR,zR),⟨none,0,0⟩),22),rfl,HX.out,by rw [HV.out];rfl⟩
 case some =>
 have HV:Hid (prV (tz l) (loV a b) (hiV a b)=some xs):=Hi (by rw [HPV.out,hc1]);have HQ:Hid (qs1=xs):=Hi (HX1.out xs hc1);clear hc1;simp only [Option.isSome];go_wp2;refine oo B4.out (by rfl) ?_;intro w40 T;replace HX:=Hi (T.ext HX.out (by omega));replace HL:=Hi (HL.out.keep T.keep);replace HH:=Hi (HH.out.keep T.keep);replace B3:=Hi (T.rest _ _ (by omega) B3.out);replace B4:=Hi (T.bx);replace B7:=Hi (T.rest _ _ (by omega) B7.out);replace HO:=Hi (HO.out.put T (by intro h;(try dsimp only at h);omega));have hs_w40:=nle T.size;have hr_w40:=nle T.size.symm;clear T;replace b_B3:=b3 B3;replace b_B4:=b3 B4;replace b_B7:=b3 B7;exact bodyPost_ret (v:=PvT (((⟨ln,la,ll,lc,lb,lm,ld⟩,⟨hn',ha,hl,hcc,hb,hm,hd⟩),⟨va,n1',vc⟩),0)) (by simp [results,Tryz.results113,go_sem,ae B4.out]) rfl
  ⟨(((⟨ln,la,ll,lc,lb,lm,ld⟩,⟨hn',ha,hl,hcc,hb,hm,hd⟩),⟨va,n1',vc⟩),0),rfl,HX.out,by
   rw [HV.out];exact ⟨rfl,⟨HL.out,HH.out⟩,by rw [←HQ.out];exact HO.out.mono (fun k _ h=>by have h:w30.heap.size≤k:=h;omega)⟩⟩
end Go.Proofs.YtofhkmcllihgmaaGreat
/- Package bernstein: extremes, Range, Coefficients. -/
set_option linter.unusedVariables false
namespace Go.Proofs.YtofhkmcllihgmaaGreat
open Go.RowKit Go.Front Go.Num Stab
attribute [local go_sem] XW.cell XW.frozen
def mnF(m x:Rat):Rat:=if x<m then x else m
def mxF(m x:Rat):Rat:=if m<x then x else m
def mnA(l:List Rat)(j:Nat):Rat:=(l.take j).foldl mnF (l.getD 0 0)
def mxA(l:List Rat)(j:Nat):Rat:=(l.take j).foldl mxF (l.getD 0 0)
def mnL(l:List Rat):Rat:=l.foldl mnF (l.getD 0 0)
def mxL(l:List Rat):Rat:=l.foldl mxF (l.getD 0 0)
theorem lR{l:List Rat}{j:Nat}(h:j<l.length):mnA l (j+1)=mnF (mnA l j) (l.getD j 0):=by
 unfold mnA;rw [←cT h,List.foldl_append];rfl
theorem lN{l:List Rat}{j:Nat}(h:j<l.length):mxA l (j+1)=mxF (mxA l j) (l.getD j 0):=by
 unfold mxA;rw [←cT h,List.foldl_append];rfl
theorem ov{l:List Rat}{j:Nat}(h:l.length≤j):mnA l j=mnL l:=by unfold mnA mnL;rw [List.take_of_length_le h]
theorem ou{l:List Rat}{j:Nat}(h:l.length≤j):mxA l j=mxL l:=by unfold mxA mxL;rw [List.take_of_length_le h]
theorem yD{l:List Rat}(h:l≠[])(j:Nat)(hj:j≤l.length):mnA l j ∈ l∧mxA l j ∈ l:=by
 have hl:=List.length_pos_iff.2 h;have hm:∀ k,k<l.length→l.getD k 0 ∈ l:=fun k hk=>by rw [List.getD_eq_getElem?_getD,List.getElem?_eq_getElem hk];exact List.getElem_mem hk
 induction j with
 | zero=>exact ⟨hm 0 hl,hm 0 hl⟩
 | succ j ih =>
  have ih:=ih (by omega);rw [lR (by omega),lN (by omega)];unfold mnF mxF;constructor
  ·split
   ·exact hm j (by omega)
   ·exact ih.1
  ·split
   ·exact hm j (by omega)
   ·exact ih.2
theorem BH{l:List Rat}(j:Nat)(hj:j≤l.length):∀ k,k<j→mnA l j≤l.getD k 0∧l.getD k 0≤mxA l j:=by
 induction j with
 | zero=>intro k hk;omega
 | succ j ih =>
  intro k hk;rw [lR (by omega),lN (by omega)];by_cases h:k=j
  ·subst h;unfold mnF mxF;constructor <;> split <;> grind
  ·have h1:=ih (by omega) k (by omega);unfold mnF mxF;constructor <;> split <;> grind
theorem lQ{l:List Rat}(h:l≠[]):mnL l ∈ l∧mxL l ∈ l:=by
 have:=yD h l.length (Nat.le_refl _)
 rwa [ov (Nat.le_refl _),ou (Nat.le_refl _)] at this
theorem yC{l:List Rat}{k:Nat}(hk:k<l.length):mnL l≤l.getD k 0∧l.getD k 0≤mxL l:=by
 have:=BH (l:=l) l.length (Nat.le_refl _) k hk
 rwa [ov (Nat.le_refl _),ou (Nat.le_refl _)] at this
theorem xK{a b:Rat}:0<dM a b↔b<a:=by
 constructor
 ·intro h;by_cases h2:b<a
  ·exact h2
  ·have:=oM h2;omega
 ·intro h;rw [oN h];decide
end Go.Proofs.YtofhkmcllihgmaaGreat
/- Package bernstein: Range, Coefficients. -/
set_option linter.unusedVariables false
namespace Go.Proofs.YtofhkmcllihgmaaGreat
open Go.RowKit Go.Front Go.Num Stab
attribute [local go_sem] XW.cell XW.frozen
theorem yF(a b:Rat):lcW [] a b=[]∧((1:Int):Rat) / lcK [] a b=1:=by
 refine ⟨rfl,?_⟩;have:lcK [] a b=1:=by
  unfold lcK;show (1:Rat)*grV a b ^ 0*((1:Nat):Rat)=1;rw [Rat.pow_zero];decide +kernel
 rw [this];decide +kernel
theorem au.imp{f:FuncId}{args:List Value}{w:World}{α:Type}{mk:α→Value}{φ ψ:α→World→Prop}(h:au f args w mk φ)(hi:∀ x w',φ x w'→ψ x w'):au f args w mk ψ:=h.weak (fun x w' _ hx=>hi x w' hx)
theorem rT(ao:Option Addr)(n cap:Nat)(l:List Rat)(s t:RH)(a b:Rat)(S T:Nat)(w:World)(h:dU w ⟨ao,n,cap⟩ l)(hs:aO w s a)(ht:aO w t b)(hn:n≤1000)(h8:(tz l).length≤8)(hz:SzL S (tz l))(za:Sz T a)(zb:Sz T b)(hS:S≤1000)(hT:T≤450) :
  au 109 [.slice ao n cap,IvV (s,t)] w LT (fun x w'=>dA w.heap.size w' x.1 (lcW (tz l) (loV a b) (hiV a b))∧aw w' x.2 (((1:Int):Rat) / lcK (tz l) (loV a b) (hiV a b))):=by
 by_cases h0:tz l=[]
 ·refine (rS ao n cap l s t a b w h hs ht hn h0).imp (fun x w' hx=>?_);obtain ⟨h1,h2⟩:=hx;obtain ⟨x1,x2⟩:=x;simp only at h1 h2;subst h1;rw [h0,(yF _ _).1,(yF _ _).2];exact ⟨dA.nil _ _,h2⟩
 ·exact (iT ao n cap l s t a b S T w h hs ht hn h0 h8 hz za zb hS hT).imp (fun x w' hx=>⟨hx.1.new (by rw [kS];omega),hx.2⟩)
theorem kT{p:List Rat}{a b:Rat}{S T:Nat}(hp:SzL S p)(h8:p.length≤8)(za:Sz T a)(zb:Sz T b):Sz (8*S+32*T+40) (((1:Int):Rat) / lcK p a b):=by
 obtain ⟨g1,g2,g3⟩:=Ah za zb;have h1:=(C7 hp h8 g1).1;have h2:Wz (32*T+25) (grV a b ^ (p.length-1)):=(g1.pow (p.length-1)).mono (by have:=Nat.mul_le_mul_right (4*T+3) (show p.length-1≤8 by omega);omega);have h3:Wz (8*S+32*T+27) (lcK p a b):=by
  unfold lcK;exact ((h1.mul h2).mul (oE (by omega))).mono (by omega)
 exact ((Sz.int (z:=1) (by decide)).div (h3.sz (by omega))).mono (by omega)
theorem C6{l:List Rat}{S:Nat}(h:SzL S l)(hS:1≤S):Sz S (mnL l)∧Sz S (mxL l):=by
 by_cases h0:l=[]
 ·subst h0;exact ⟨Sz.zero hS,Sz.zero hS⟩
 ·have:=lQ h0;exact ⟨h _ this.1,h _ this.2⟩
def cfV(p:List Rat)(a b:Rat):List Rat:=(lcW p a b).map (·*(((1:Int):Rat) / lcK p a b))
set_option maxRecDepth 8000 in
set_option maxHeartbeats 8000000 in
theorem uY(ao:Option Addr)(n cap:Nat)(l:List Rat)(s t:RH)(a b:Rat)(S T:Nat)(w:World)(h:dU w ⟨ao,n,cap⟩ l)(hs:aO w s a)(ht:aO w t b)(hn:n≤1000)(h0:tz l≠[])(h8:(tz l).length≤8)(hz:SzL S (tz l))(za:Sz T a)(zb:Sz T b)(hS:S≤1000)(hT:T≤450) :
  au 111 [.slice ao n cap,IvV (s,t)] w SH.v (fun x w'=>dA w.heap.size w' x (cfV (tz l) (loV a b) (hiV a b))):=by
 have HX:=Hi (Ext.refl w);have HS:=Hi hs;have HT:=Hi ht;have LA:=Hi h;have hAB:=kE a b;have ZA:=Hi za;have ZB:=Hi zb;have ZA':Sz T (loV a b):=by rcases ox a b with e|e <;> rw [e] <;> assumption
 have ZB':Sz T (hiV a b):=by rcases rK a b with e|e <;> rw [e] <;> assumption
 have HZ:=Hi hz;have HWZ:Hid (SzL (9*S+80*T+76) (lcW (tz l) (loV a b) (hiV a b))):=Hi (fun x hx=>(qf hz h8 ZA' ZB' hAB x hx).sz (by omega));have HKZ:=Hi (kT hz h8 ZA' ZB');have H0:=Hi h0;have HCF:Hid (cfV (tz l) (loV a b) (hiV a b)=(lcW (tz l) (loV a b) (hiV a b)).map (·*(((1:Int):Rat) / lcK (tz l) (loV a b) (hiV a b)))):=Hi rfl;have HLN:=Hi (kS (tz l) (loV a b) (hiV a b));clear h hs ht za zb hz ZA' ZB' hAB h0;obtain ⟨sn,sa,sl,sc,sb,sm,sd⟩:=s;obtain ⟨tn,ta,tl,tc,tb,tm,td⟩:=t;obtain ⟨N,hN⟩:∃ N,N=(tz l).length:=⟨_,rfl⟩;have HN:=Hi hN;have hN8:N≤8:=by omega
 unfold au;go_enter Tryz.func111,Tryz.ntmps111
 go_upto_region 1 with fail
 refine nmA ?_;intro w1 hE B3 hz_w1 hr_w1;refine mV4 hE ?_ HX HS HT LA;clear HX HS HT LA;intro HX HS HT LA;have hs_w1:=hE.size;clear hE;replace b_B3:=b3 B3
 go_wp2_with fail
 refine cM (iT ao n cap l ⟨sn,sa,sl,sc,sb,sm,sd⟩ ⟨tn,ta,tl,tc,tb,tm,td⟩ a b S T _ LA.out HS.out HT.out hn H0.out h8 HZ.out ZA.out ZB.out hS hT) fun x12 w12 hE G12=>?_
 refine mV5 hE ?_ B3 HX HS HT LA;clear B3 HX HS HT LA;intro B3 HX HS HT LA
 have hs_w12:=hE.size;clear hE;replace b_B3:=b3 B3;obtain ⟨⟨xa,xn,xc⟩,⟨zn,za,zl,zc,zb,zm,zd⟩⟩:=x12;obtain ⟨⟨L,hLw,hxw,hRw⟩,hk12⟩:=G12.out;simp only at hxw hk12;obtain ⟨os,hos⟩:∃ os,os=lcW (tz l) (loV a b) (hiV a b):=⟨_,rfl⟩;obtain ⟨q,hq⟩:∃ q,q=((1:Int):Rat) / lcK (tz l) (loV a b) (hiV a b):=⟨_,rfl⟩;rw [←hos] at hxw hRw HWZ HCF HLN;rw [←hq] at hk12 HKZ HCF;rw [HLN.out,←hN] at hxw;obtain ⟨e1,e2,e3⟩:xa=some ⟨L,0,none⟩∧xn=N∧xc=N:=by simpa using hxw
 have e2':=e2.symm;have e3':=e3.symm;subst e1;clear e2 e3;subst e2' e3';have HR0:=Hi hRw;have HK:=Hi hk12;have hLlt:L<w12.heap.size:=aX.lt hRw;have hLw':w1.heap.size≤L:=hLw;have HOL:Hid (os.length=N):=Hi (by rw [HLN.out,hN]);clear G12 hos hq hxw hRw hk12 hN;clear LA;clear HS;clear HT
 go_upto_region 2 with fail
 refine nmA ?_;intro w13 hE B6 hz_w13 hr_w13;refine mV4 hE ?_ B3 HX HR0 HK;clear B3 HX HR0 HK;intro B3 HX HR0 HK;have hs_w13:=hE.size;clear hE;replace b_B3:=b3 B3;replace b_B6:=b3 B6;simp only [SH.v];obtain ⟨b6,hb6⟩:∃ b,b=w12.heap.size:=⟨_,rfl⟩;have q6:w.heap.size≤b6:=by omega
 have n6:L<b6:=by omega
 rw [←hb6] at B6 ⊢;have HR:Hid (aX w13 L (rY os 0 q)):=Hi (by simpa [rY] using HR0.out);clear hb6 HR0 b_B3 B3 b_B6;go_wp2
 go_loopg [17] N (fun g v wr=>∃ (i:Nat),i+g=N∧v=.int .i64 (i:Nat)∧Ext w wr∧aw wr ⟨zn,za,zl,zc,zb,zm,zd⟩ q∧wr.heap[b6]?=some (.cells #[.bool zn,.slice za zl zc,.slice zb zm zd] 30 (0,0))∧aX wr L (rY os i q))
 case atStart=>exact ⟨0,by omega,rfl,HX.out,HK.out,B6.out,HR.out⟩
 case round =>
  obtain ⟨i,hi,rfl,g1,g2,g3,g4⟩:=hrel;clear HX HK B6 HR;have HX:=Hi g1;have HK:=Hi g2;have B6:=Hi g3;have HR:=Hi g4;clear g1 g2 g3 g4;replace b_B6:=b3 B6;by_cases h0:gk=0
  case neg =>
   have hin:(i:Int)<N:=by omega
   have HL:Hid ((rY os i q).length=os.length):=Hi (by unfold rY;have:=HOL.out;rw [List.length_append,List.length_map,List.length_take,List.length_drop];omega);have HV:Hid ((rY os i q).getD i 0=os.getD i 0):=Hi (by
    unfold rY;have:=HOL.out;have h1:((os.take i).map (·*q)).length=i:=by rw [List.length_map,List.length_take];omega
    rw [List.getD_eq_getElem?_getD,List.getElem?_append_right (by omega),h1,Nat.sub_self,List.getElem?_drop,Nat.add_zero,←List.getD_eq_getElem?_getD])
   obtain ⟨r,⟨f1,f2,f3⟩,hrc⟩:=aX.cells HR.out (k:=i) (by rw [HL.out,HOL.out];omega);rw [HV.out] at hrc;have HRC:=Hi hrc;clear hrc;have hfz:=aX.frozen HR.out;have hLl:=aX.lt HR.out;have Zi:Hid (Sz (9*S+80*T+76) (os.getD i 0)):=Hi (HWZ.out.at (by rw [HOL.out];omega));obtain ⟨rn,ra,rl,rc,rb,rm,rd⟩:=r;simp only at f1 f2 f3
   go_upto_region 5 with fail
   clear f1 f2 f3 hfz hLl;have hLr:L<wr.heap.size:=aX.lt HR.out;refine nmA ?_;intro w20 hE B8 hz_w20 hr_w20;refine mV5 hE ?_ HX HK B6 HR HRC;clear HX HK B6 HR HRC;intro HX HK B6 HR HRC;have hs_w20:=hE.size;clear hE;replace b_B6:=b3 B6;replace b_B8:=b3 B8
   go_wp2_with fail
   refine cM (bj ⟨rn,ra,rl,rc,rb,rm,rd⟩ ⟨zn,za,zl,zc,zb,zm,zd⟩ _ _ _ (HRC.out.raw Zi.out (by omega)) (HK.out.raw HKZ.out (by omega))) fun x26 w26 hE G26=>?_
   refine mV6 hE ?_ B8 HX HK B6 HR HRC;clear B8 HX HK B6 HR HRC;intro B8 HX HK B6 HR HRC
   have hs_w26:=hE.size;clear hE;replace b_B6:=b3 B6;replace b_B8:=b3 B8;obtain ⟨r2,⟨f1,f2,f3⟩,-⟩:=aX.cells HR.out (k:=i) (by rw [HL.out,HOL.out];omega);have hfz:=aX.frozen HR.out;have hLl:=aX.lt HR.out
   go_upto_region 6 with fail
   refine j1 (k:=i) HR.out (by rw [HL.out,HOL.out];omega) G26.out ?_;rintro y6 ⟨cs,T⟩ TN;rw [wF (by rw [HOL.out];omega)] at TN;clear f1 f2 f3 hfz hLl HL HV;clear HR;replace HX:=Hi (T.ext HX.out (by omega));replace HK:=Hi (HK.out.keep T.keep);replace B6:=Hi (T.rest _ _ (by omega) B6.out);replace HRC:=Hi (HRC.out.keep T.keep);replace B8:=Hi (T.rest _ _ (by omega) B8.out);replace G26:=Hi (G26.out.keep T.keep);have hs_y6:=nle T.size;have hr_y6:=nle T.size.symm;clear T;replace b_B6:=b3 B6;replace b_B8:=b3 B8;have HR:=Hi TN;clear TN;go_wp2
   go_roundg (gk-1)
   case measure=>omega
   case rel=>exact ⟨i+1,by omega,by go_num,HX.out,HK.out,B6.out,HR.out⟩
  subst h0;obtain rfl:i=N:=by omega
  have hin:¬ (i:Int)<(i:Int):=by omega
  have HRF:Hid (aX wr L (cfV (tz l) (loV a b) (hiV a b))):=Hi (by
   rw [HCF.out,show os.map (·*q)=rY os i q by unfold rY;rw [List.take_of_length_le (by rw [HOL.out];exact Nat.le_refl _),List.drop_eq_nil_of_le (by rw [HOL.out];exact Nat.le_refl _),List.append_nil]];exact HR.out)
  have HLC:Hid ((cfV (tz l) (loV a b) (hiV a b)).length=i):=Hi (by rw [HCF.out,List.length_map,HOL.out]);go_wp2
  go_ret
  exact ⟨⟨some ⟨L,0,none⟩,i,i⟩,rfl,HX.out,ls.new ⟨L,by omega,by rw [HLC.out],HRF.out⟩ (by rw [HLC.out];omega)⟩
end Go.Proofs.YtofhkmcllihgmaaGreat
