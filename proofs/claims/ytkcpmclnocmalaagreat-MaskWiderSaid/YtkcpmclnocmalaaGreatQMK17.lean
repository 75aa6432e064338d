import Derived.Test.YtkcpmclnocmalaaGreatQMBn5
import Derived.Test.YtkcpmclnocmalaaGreatQMK16
import Derived.Laws.EntriesVeiled
import Derived.Deep.DeepCutAuto
set_option linter.unusedVariables false
set_option maxHeartbeats 16000000
set_option maxRecDepth 8000
namespace Go.Proofs.YtkcpmclnocmalaaGreat
open Go.RowKit Go.Front Go.Num Stab
attribute [local go_sem] XW.cell XW.frozen
def CvI(w:World)(bc bf:Nat)(D:Nat→Prop)(n:Nat)(qs:List Rat)(v:Value):Prop :=
 w.heap[bc]?=some (.cells #[v] 40 (0,0)) ∧
 w.heap[bf]?=some (.cells #[.func (.func 241) #[] #[.pointer (some ⟨bc,0,none⟩),.pointer (some ⟨bf,0,none⟩)]] 242 (0,0)) ∧
 iP w D v n qs∧(∀ k,D k→k<w.heap.size∧k≠bc∧k≠bf)∧bc≠bf
def FH(bc bf N d:Nat):Prop :=
 ∀ (e:Nat),d+e=12→∀ (s t:RH) (a b:Rat) (ao:Option Addr) (cap:Nat) (l:List Rat) (T S n:Nat) (v:Value) (D:Nat→Prop) (qs:List Rat) (w:World),
 aA w s a→aA w t b→Sz T a→Sz T b→(T+3)*2 ^ d≤10000000→bg w ⟨ao,N,cap⟩ l→(∀ x ∈ l,Wz S x)→1≤S→S+9*d≤900000→CvI w bc bf D n qs v→n+2 ^ d≤10000 →
 Calls Tryz.prog 241 #[s.v,t.v,.slice ao N cap,.int .i64 (e:Nat),.pointer (some ⟨bc,0,none⟩),.pointer (some ⟨bf,0,none⟩)] w (fun r w'=>r=.returned (.bool (cvV d a b l).isSome)∧aL (fun k=>k=bc∨D k) w w'∧dJ w w' ∧
  ∃ v' n' D' qs',CvI w' bc bf D' n' qs' v'∧(∀ k,D' k→D k∨w.heap.size≤k)∧n'≤n+2 ^ d∧∀ x,cvV d a b l=some x→qs'=qs++x)
theorem CvI.ext{w w':World}{bc bf n:Nat}{D:Nat→Prop}{qs:List Rat}{v:Value}(h:CvI w bc bf D n qs v)(he:Ext w w'):CvI w' bc bf D n qs v :=
 let ⟨h1,h2,h3,h4,h5⟩:=h
 ⟨he.block h1,he.block h2,h3.ext he,fun k hk=>⟨nXn (h4 k hk).1 he.size,(h4 k hk).2⟩,h5⟩
instance {w w':World} {bc bf n:Nat} {D:Nat→Prop} {qs:List Rat} {v:Value}:Go.Front.Mv w w' (CvI w bc bf D n qs v) (CvI w' bc bf D n qs v):=⟨fun e h=>CvI.ext h e⟩

theorem nS{P:Program}{o:Oper}{a:Act}{w:World}{T:TypeId}(x y:RH)(p q:Rat)(hx:aA w x p)(hy:aA w y q)(hT:T=37)
 (hrun:(execOp a.eval o).run P w=.ok (.value (.slice (some ⟨w.heap.size,0,none⟩) 2 2)) (w.alloc (.cells #[.bool x.neg,.slice x.a x.n x.c,.slice x.b x.m x.d,.bool y.neg,.slice y.a y.n y.c,.slice y.b y.m y.d] T))) :
  bV P o a w (fun b:Nat=>.slice (some ⟨b,0,none⟩) 2 2) (fun b w'=>bg w' ⟨some ⟨b,0,none⟩,2,2⟩ [p,q]):=by
 subst hT;unfold bV;rw [hrun];exact ⟨Ext.alloc _ _,w.heap.size,rfl,wO (uz (heap_alloc_new _ _) rfl rfl) (hx.ext (Ext.alloc _ _)) (hy.ext (Ext.alloc _ _))⟩
theorem mp{bc bf n d:Nat}{D:Nat→Prop}{qs l:List Rat}{v:Value}{a b:Rat}{w wx w':World}(hm:aL (fun k=>k=bc∨D k) w wx)(hk:dJ w wx)(hc:CvI wx bc bf D n qs v)(he:Ext wx w')(hx:cvV d a b l=none) :
  aL (fun k=>k=bc∨D k) w w'∧dJ w w'∧∃ v' n' D' qs',CvI w' bc bf D' n' qs' v'∧(∀ k,D' k→D k∨w.heap.size≤k)∧n'≤n+2 ^ d∧∀ x,cvV d a b l=some x→qs'=qs++x :=
 ⟨hm.trans (aL.of_ext he),dJ.trans hk (br he),v,n,D,qs,hc.ext he,fun k h=>Or.inl h,Nat.le_add_right _ _,fun x h=>by rw [hx] at h;cases h⟩
theorem Ed{d:Nat}{a b:Rat}{l:List Rat}(h:iN l=true):cvV d a b l=some [loV a b,hiV a b]:=by cases d <;> simp [cvV,h]
theorem rR{a b:Rat}{l:List Rat}(h:iN l=false):cvV 0 a b l=none:=by simp [cvV,h]
theorem Ef{d:Nat}{a b:Rat}{l:List Rat}(h:iN l=false)(h2:iN [l.getD 0 0,l.getD (l.length-1) 0]=false):cvV d a b l=none:=by
 cases d with
 | zero=>exact rR h
 | succ d=>unfold cvV;rw [h,h2];rfl
theorem zD{d:Nat}{a b:Rat}{l:List Rat}(h:iN l=false)(h2:cvV d a (mdV a b) (hlL l)=none):cvV (d+1) a b l=none:=by
 unfold cvV;rw [h,h2];simp
theorem zC{d:Nat}{a b:Rat}{l x:List Rat}(h:iN l=false)(h2:cvV d a (mdV a b) (hlL l)=some x)(h3:cvV d (mdV a b) b (hlR l)=none):cvV (d+1) a b l=none:=by
 unfold cvV;rw [h,h2,h3];simp
theorem Fq{d:Nat}{a b:Rat}{l x y:List Rat}(h:iN l=false)(h1:iN [l.getD 0 0,l.getD (l.length-1) 0]=true)(h2:cvV d a (mdV a b) (hlL l)=some x)(h3:cvV d (mdV a b) b (hlR l)=some y):cvV (d+1) a b l=some (x++y):=by
 unfold cvV;rw [h,h1,h2,h3];simp
theorem Dy{a b:Rat}{T:Nat}(za:Sz T a)(zb:Sz T b):Sz (2*T+3) (mdV a b) :=
 ((za.add zb).mul ((Sz.int (z:=1) dZ).div (Sz.int (z:=2) dZ):Sz 2 (((1:Int):Rat) / ((2:Int):Rat)))).mono zo
theorem DJ{l:List Rat}{N n:Nat}(hl:l.length=N)(hN:N=n+1):hlL l=row N (lff n (fun i=>l.getD i 0))∧hlR l=row N (rtf n (fun i=>l.getD i 0)):=by
 unfold hlL hlR lff rtf;rw [hl,hN,Nat.add_sub_cancel];exact ⟨rfl,rfl⟩
theorem CY{l:List Rat}{S:Nat}(h:∀ x ∈ l,Wz S x)(hS:1≤S):SzL S l:=fun x hx=>(h x hx).sz hS
theorem mo(bc bf N d:Nat)(hN:0<N)(hN9:N≤9)(ih:∀ d',d=d'+1→FH bc bf N d'):FH bc bf N d:=by
 intro e hde s t a b ao cap l T S n v D qs w hs ht za zb hT hl hlz hS1 hS hcv hn;obtain ⟨hbc,hbf,hown,hD,hbcf⟩:=hcv;obtain ⟨va,vc,rfl⟩:=hown.sh;have HM:=Hi (aL.refl (fun k=>k=bc∨D k) w);have HK:=Hi (dJ.refl w);have HS:=Hi hs;have HT:=Hi ht;have LA:=Hi hl;have BC:=Hi hbc;have BF:=Hi hbf;have HO:=Hi hown;have ZA:=Hi za;have ZB:=Hi zb;have HLZ:=Hi hlz;have HDD:=Hi hD;have IH:=Hi ih;have HLl:Hid (l.length=N):=Hi hl.len;have hTd:T≤10000000:=by have:=Nat.le_mul_of_pos_right (T+3) (Nat.two_pow_pos d);omega
 have hbcl:bc<w.heap.size:=(nXb.1 hbc).1;have hbfl:bf<w.heap.size:=(nXb.1 hbf).1;have hcpl:=hl.le;have hcpm:=hl.max;simp only at hcpl hcpm;have h2d:=Nat.two_pow_pos d;clear hs ht za zb hl hlz hbc hbf hown hD ih;obtain ⟨sn,sa,sl,sc,sb,sm,sd⟩:=s;obtain ⟨tn,ta,tl,tc,tb,tm,td⟩:=t;go_enter Tryz.func241,Tryz.ntmps241;replace b_BC:=bX3 BC;replace b_BF:=bX3 BF
 go_upto_region 1 with fail
 refine eX ?_;intro w1 hE B6 B7 hz_w1 hr_w1;replace HM:=Hi (HM.out.trans (aL.of_ext hE));replace HK:=Hi (dJ.trans HK.out (br hE));refine mV6 hE ?_ HS HT LA BC BF HO;clear HS HT LA BC BF HO;intro HS HT LA BC BF HO;have hs_w1:=hE.size;replace b_BC:=bX3 BC;replace b_BF:=bX3 BF;replace b_B6:=bX3 B6;replace b_B7:=bX3 B7
 go_wp2_with fail
 refine cM (nC ao N cap l S _ LA.out zo (CY HLZ.out hS1) zo) fun x15 w15 hE _=>?_
 replace HM:=Hi (HM.out.trans (aL.of_ext hE));replace HK:=Hi (dJ.trans HK.out (br hE));refine mV8 hE ?_ B6 B7 HS HT LA BC BF HO;clear B6 B7 HS HT LA BC BF HO;intro B6 B7 HS HT LA BC BF HO;have hs_w15:=hE.size;replace b_BC:=bX3 BC;replace b_BF:=bX3 BF;replace b_B6:=bX3 B6;replace b_B7:=bX3 B7;by_cases hp:iN l=true
 case pos =>
  have HV:=Hi (Ed (d:=d) (a:=a) (b:=b) hp);rw [hp];clear hp;clear LA
  go_upto_region 2 with fail
  refine wpG 5 (fun opIx=>match opIx with
   | 3=>.spec (RH×RH) (default) (IvV) (fun x w'=>IvC w' x (loV a b) (hiV a b))
   | 4=>.spec (Nat×(RH×RH)) ((0,default)) (fun p=>.slice (some ⟨p.1,0,none⟩) 1 1) (fun p w'=>fW w' p (loV a b) (hiV a b))
   | _=>.quiet) (fun|4=>[3]|_=>[]) fun w0 he0 hz0 hc0 hf0=>?_
  refine wps he0 (fun w1 hW hG=>?_) fun x30=>?_
  ·exact spc [RH.v ⟨sn,sa,sl,sc,sb,sm,sd⟩,RH.v ⟨tn,ta,tl,tc,tb,tm,td⟩] Tryz.func124 (gW _ _ _ _ _ ((HS.out.ext hW).raw ZA.out zo) ((HT.out.ext hW).raw ZB.out zo))
  refine qZ ?_;refine wps he0 (fun w1 hW hG=>?_) fun x31=>?_
  ·have g30:=gS (hG 3 dZ);exact o9 x30 _ _ g30 rfl (by simp [execOp,go_sem])
  refine qZ ?_;refine aq ?_;intro w3 hI;have hE:=he0.out.trans hI.ext;have G30:=gT (hI.facts 3);have G31:=gT (hI.facts 4);clear hI he0 hz0 hc0 hf0;replace HM:=Hi (HM.out.trans (aL.of_ext hE));replace HK:=Hi (dJ.trans HK.out (br hE));refine mV7 hE ?_ B6 B7 BC BF HO HS HT;clear B6 B7 BC BF HO HS HT;intro B6 B7 BC BF HO HS HT;have hs_w3:=hE.size;replace b_BC:=bX3 BC;replace b_BF:=bX3 BF;replace b_B6:=bX3 B6;replace b_B7:=bX3 B7;simp only [pD]
  go_upto_region 3 with (at_builtin;refine j6 rfl (.tmp 16) (.tmp 20) 40 Tryz.underlying40 rfl (fun k=>D k∨w.heap.size≤k) _ n qs x31.1 0 1 1 [x31.2.1,x31.2.2] [loV a b,hiV a b] rfl (HO.out.mono (fun k _ h=>Or.inl h)) rfl rfl dZ G31.out.at G31.out.vals zo dZ (fun k hk=>Or.inr zo) ?_;intro s' y3 q1 q2 q3;have hBC:=q2.blk (fun h=>h.elim (fun h=>(HDD.out _ h).2.1 rfl) (fun h=>by omega)) BC.out;have c6:=ae hBC;have f6:=af hBC;have l6:=(nXb.1 hBC).1)
  replace HM:Hid (aL (fun k=>k=bc∨D k) w y3):=Hi (kQ HM.out q2 (fun k hk h=>h.elim (fun h=>Or.inr h) (fun h=>by omega)));replace HK:=Hi (dJ.trans HK.out q3);replace BF:=Hi (q2.blk (fun h=>h.elim (fun h=>(HDD.out _ h).2.2 rfl) (fun h=>by omega)) BF.out);replace HO:=Hi q1;have hsz3:=q2.size;refine iC hBC rfl ?_;intro y4 T;replace HM:=Hi (aL.put HM.out T (Or.inl (Or.inl rfl)));replace HK:=Hi (dJ.trans HK.out T.keep);replace BF:=Hi (T.rest _ _ zo BF.out);replace HO:=Hi (HO.out.put T (fun h=>h.elim (fun h=>(HDD.out _ h).2.1 rfl) (fun h=>by omega)));have BC2:=Hi T.bx;have hsz4:=T.size;clear q1 q2 q3 hBC c6 f6 l6 T BC b_BC B6 B7 b_B6 b_B7 b_BF HS HT G30 G31;go_wp2
  go_ret
  refine ⟨by rw [HV.out];rfl,HM.out,HK.out,s'.v,n+1,(fun k=>(D k∨w.heap.size≤k)∧k<y4.heap.size),qs++[loV a b,hiV a b],⟨BC2.out,BF.out,HO.out.mono (fun k hk h=>⟨h,hk⟩),fun k h=>⟨h.2,?_⟩,hbcf⟩,fun k h=>h.1,zo,fun x hx=>by rw [HV.out] at hx;rw [←Option.some.inj hx]⟩;rcases h.1 with h1|h1
  ·exact (HDD.out k h1).2
  ·omega
 have hpf:iN l=false:=by simpa using hp
 have HPF:=Hi hpf;rw [hpf];clear hp hpf;have hN1:(0:Int)<(N:Nat):=zo;obtain ⟨n1,hn1⟩:∃ n1,N=n1+1:=⟨N-1,zo⟩;have hNs:(N:Int)-1=(n1:Nat):=zo;have hn1N:(n1:Int)<(N:Nat):=zo;have HN1:=Hi hn1;clear hn1;cases d with
 | zero =>
  obtain rfl:e=12:=by omega
  have HV:Hid (cvV 0 a b l=none):=Hi (rR HPF.out)
  go_upto_region 4 with fail
  have hcvw:CvI w15 bc bf D n qs (.slice va n vc):=⟨BC.out,BF.out,HO.out,fun k h=>⟨nXn (HDD.out k h).1 zo,(HDD.out k h).2⟩,hbcf⟩
  go_quiet (fail)
  go_wp2
  go_ret
  exact ⟨by rw [HV.out];rfl,mp HM.out HK.out hcvw (Ext.drewN _ _) HV.out⟩
 | succ d =>
  have he:¬ (e:Int)=12:=by omega
  have heb:((e:Int) == 12)=false:=by rw [nXs];exact he
  obtain ⟨bw,off,r,hao,hbl,⟨f1,f2,f3⟩,hP⟩:=LA.out.lin.celx (k:=0) zo;obtain ⟨bw',off',r',hao',hbl',⟨d1,d2,d3⟩,hP'⟩:=LA.out.lin.celx (k:=n1) zo;subst hao;obtain ⟨rfl,rfl⟩:bw=bw'∧off=off':=by simpa using hao'
  clear hao';obtain ⟨rn,ra,rl,rc,rb,rm,rd⟩:=r;obtain ⟨r2n,r2a,r2l,r2c,r2b,r2m,r2d⟩:=r';simp only [Nat.zero_mul,Nat.add_zero] at f1 f2 f3 d1 d2 d3;have HP:=Hi hP;have HP':=Hi hP';clear hP hP';obtain ⟨pe,hpe⟩:∃ pe,pe=iN [l.getD 0 0,l.getD n1 0]:=⟨_,rfl⟩;have HPE:Hid (pe=iN [l.getD 0 0,l.getD (l.length-1) 0]):=Hi (by rw [hpe,HLl.out,HN1.out,Nat.add_sub_cancel]);have HPE2:=Hi hpe;have HZ2:Hid (SzL S [l.getD 0 0,l.getD n1 0]):=Hi (by
   have hz:=CY HLZ.out hS1;intro x hx;rcases List.mem_cons.1 hx with rfl|h
   ·exact hz.at (by rw [HLl.out];exact hN)
   ·rw [nXv.1 h];exact hz.at (by rw [HLl.out];omega))
  clear hpe
  go_upto_region 4 with fail
  refine ah 14 (fun opIx=>match opIx with
   | 12=>.spec (Nat) (0) (fun b:Nat=>.slice (some ⟨b,0,none⟩) 2 2) (fun b w'=>bg w' ⟨some ⟨b,0,none⟩,2,2⟩ [l.getD 0 0,l.getD n1 0])
   | 13=>sU (.bool pe)
   | _=>.quiet) (fun|13=>[12]|_=>[]) kZ kZ (fun w0 he0 hz0 hc0 hf0=>?_)
  replace he0:=Hi he0;simp only [pT]
  repeat (refine wpq fun K h=>?_;go_big_quiet_op;refine h _ ?_;clear h K;(try simp only [heb]))
  refine wps he0 (fun w1 hW hG=>?_) fun x40=>?_
  ·exact nS ⟨rn,ra,rl,rc,rb,rm,rd⟩ ⟨r2n,r2a,r2l,r2c,r2b,r2m,r2d⟩ _ _ (HP.out.ext hW) (HP'.out.ext hW) rfl (by simp [execOp,go_sem])
  simp only [pS]
  repeat (refine wpq fun K h=>?_;go_big_quiet_op;refine h _ ?_;clear h K;(try simp only [heb]))
  refine wps he0 (fun w1 hW hG=>?_) fun x41=>?_
  ·have g40:=gS (hG 12 dZ);exact spc [.slice (some ⟨x40,0,none⟩) 2 2] Tryz.func240 ((by rw [HPE2.out];exact nC _ 2 2 _ S _ g40 dZ HZ2.out zo))
  simp only [pS]
  repeat (refine wpq fun K h=>?_;go_big_quiet_op;refine h _ ?_;clear h K;(try simp only [heb]))
  refine aq ?_;intro w4 hI;have hE:=he0.out.trans hI.ext;have G40:=gT (hI.facts 12);clear hI he0 hz0 hc0 hf0;replace HM:=Hi (HM.out.trans (aL.of_ext hE));replace HK:=Hi (dJ.trans HK.out (br hE));refine mV8 hE ?_ LA B6 B7 BC HS HT BF HO;clear LA B6 B7 BC HS HT BF HO;intro LA B6 B7 BC HS HT BF HO;have hs_w4:=hE.size;replace b_BC:=bX3 BC;replace b_BF:=bX3 BF;replace b_B6:=bX3 B6;replace b_B7:=bX3 B7;simp only [pD];clear f1 f2 f3 d1 d2 d3;have hcvw:CvI w4 bc bf D n qs (.slice va n vc):=⟨BC.out,BF.out,HO.out,fun k h=>⟨nXn (HDD.out k h).1 zo,(HDD.out k h).2⟩,hbcf⟩;have HCV:=Hi hcvw;clear hcvw;cases pe with
  | false =>
   have HV:Hid (cvV (d+1) a b l=none):=Hi (Ef HPF.out HPE.out.symm);go_wp2
   go_ret
   exact ⟨by rw [HV.out];rfl,mp HM.out HK.out HCV.out (Ext.refl _) HV.out⟩
  | true =>
  have HPT:=Hi HPE.out.symm
  go_wp2_with fail
  refine cM (vq ⟨sn,sa,sl,sc,sb,sm,sd⟩ ⟨tn,ta,tl,tc,tb,tm,td⟩ a b T _ (HS.out.raw ZA.out zo) (HT.out.raw ZB.out zo) ZA.out ZB.out hTd) fun x50 w50 hE G50=>?_
  replace HM:=Hi (HM.out.trans (aL.of_ext hE));replace HK:=Hi (dJ.trans HK.out (br hE));refine mV8 hE ?_ LA B6 B7 BC HS HT BF HO;clear LA B6 B7 BC HS HT BF HO;intro LA B6 B7 BC HS HT BF HO;have hs_w50:=hE.size;replace b_BC:=bX3 BC;replace b_BF:=bX3 BF;replace b_B6:=bX3 B6;replace b_B7:=bX3 B7;obtain ⟨mn,ma,ml,mc,mb,mm,md⟩:=x50
  go_upto_region 7 with fail
  refine nmA ?_;intro w51 hE B11 hz_w51 hr_w51;replace HM:=Hi (HM.out.trans (aL.of_ext hE));replace HK:=Hi (dJ.trans HK.out (br hE));refine mV8 hE ?_ G50 LA B6 B7 BC HS HT BF;clear G50 LA B6 B7 BC HS HT BF;intro G50 LA B6 B7 BC HS HT BF;replace HO:=mV hE HO;have hs_w51:=hE.size;replace b_BC:=bX3 BC;replace b_BF:=bX3 BF;replace b_B6:=bX3 B6;replace b_B7:=bX3 B7;replace b_B11:=bX3 B11;have HLr:Hid (bg w51 ⟨some ⟨bw,off,none⟩,N,cap⟩ (row N (fun i=>l.getD i 0))):=Hi (by rw [Bh HLl.out];exact LA.out);have HZH:Hid (∀ k,k≤n1→Wz S (l.getD k 0)):=Hi (fun k hk=>by
   have hk2:k<l.length:=by rw [HLl.out,HN1.out];omega
   rw [nXd,List.getElem?_eq_getElem hk2];exact HLZ.out _ (List.getElem_mem hk2))
  go_wp2_with fail
  refine cM (pZ (some ⟨bw,off,none⟩) N n1 cap (fun i=>l.getD i 0) S _ HLr.out HN1.out (by have:=HN1.out;omega) HZH.out hS1 zo) fun x52 w52 hE G52=>?_
  replace HM:=Hi (HM.out.trans (aL.of_ext hE));replace HK:=Hi (dJ.trans HK.out (br hE));refine mV8 hE ?_ B11 G50 LA B6 B7 BC HS HT;clear B11 G50 LA B6 B7 BC HS HT;intro B11 G50 LA B6 B7 BC HS HT;refine mV2 hE ?_ BF HO;clear BF HO;intro BF HO;have hs_w52:=hE.size;replace b_BC:=bX3 BC;replace b_BF:=bX3 BF;replace b_B6:=bX3 B6;replace b_B7:=bX3 B7;replace b_B11:=bX3 B11;clear LA;clear HLr HZH;obtain ⟨x53,x54⟩:=x52;obtain ⟨⟨Lp,hLp,hxp,hRp⟩,⟨Lq,hLq,hxq,hRq⟩⟩:=G52.out;simp only at hxp hxq;rw [aM] at hxp hxq;subst hxp hxq;have HRW:=Hi (DJ HLl.out HN1.out);have HRp:Hid (aH w52 Lp (hlL l)):=Hi (by rw [HRW.out.1];exact hRp);have HRq:Hid (aH w52 Lq (hlR l)):=Hi (by rw [HRW.out.2];exact hRq);have HLL:Hid ((hlL l).length=N∧(hlR l).length=N):=Hi (by rw [HRW.out.1,HRW.out.2,aM,aM];exact ⟨rfl,rfl⟩);have HWZ:=Hi (Fi (l:=l) (S:=S) (by rw [HLl.out];exact hN9) HLZ.out);have hLp2:w51.heap.size≤Lp:=hLp;have hLq2:w51.heap.size≤Lq:=hLq;have hLq3:=aH.lt HRq.out;clear hRp hRq G52 hLp hLq;have hb51:w50.heap.size<w51.heap.size:=zo;have hcv52:CvI w52 bc bf D n qs (.slice va n vc):=⟨BC.out,BF.out,HO.out,fun k h=>⟨nXn (HDD.out k h).1 zo,(HDD.out k h).2⟩,hbcf⟩;have HC52:=Hi hcv52;clear hcv52;have hp2:(T+3)*2 ^ (d+1)=(2*T+3+3)*2 ^ d:=by rw [nXu];rw [show 2*T+3+3=(T+3)*2 by omega,Nat.mul_assoc,nYf 2]
  have hn2:2 ^ (d+1)=2 ^ d+2 ^ d:=by rw [nXu];omega
  have HP2:=Hi hp2;have HN2:=Hi hn2;clear hp2 hn2;have he1:(e:Int)+1=((e+1:Nat):Int):=zo;have HE1:=Hi he1;clear he1
  go_wp2_with fail
  rw [HE1.out];refine Calls.mono (IH.out d rfl (e+1) zo ⟨sn,sa,sl,sc,sb,sm,sd⟩ ⟨mn,ma,ml,mc,mb,mm,md⟩ a (mdV a b) (some ⟨Lp,0,none⟩) N (hlL l) (2*T+3) (S+9) n (.slice va n vc) D qs _ HS.out G50.out (ZA.out.mono zo) (Dy ZA.out ZB.out) (by have:=HP2.out;omega) (aH.can HRp.out HLL.out.1 (nXe _) zo) HWZ.out.1 zo zo HC52.out (by have:=HN2.out;omega)) ?_;rintro r5 w53 ⟨rfl,m1,k1,v1,n1',D1,qs1,cv1,hD1,hn1',hx1⟩;have hE6:∀ k,w.heap.size≤k→¬ (k=bc∨D k):=fun k hk h=>h.elim (fun h=>by omega) (fun h=>by have:=(HDD.out k h).1;omega)
  have hsz53:=m1.size;replace HM:Hid (aL (fun k=>k=bc∨D k) w w53):=Hi (kQ HM.out m1 (fun k _ h=>h));replace HK:=Hi (dJ.trans HK.out k1);replace HT:=Hi (HT.out.keep k1);replace G50:=Hi (G50.out.keep k1);replace B6:=Hi (m1.blk (hE6 _ zo) B6.out);replace B7:=Hi (m1.blk (hE6 _ zo) B7.out);replace B11:=Hi (m1.blk (hE6 _ zo) B11.out);replace HRq:=Hi (HRq.out.mods m1 k1 (hE6 _ zo));have CV1:=Hi cv1;have HX1:=Hi hx1;have HD1:=Hi hD1;have BF1:=Hi cv1.2.1;replace b_BF1:=bX3 BF1;have c6:=ae B6.out;have f6:=af B6.out;have l6:=(nXb.1 B6.out).1;have c7:=ae B7.out;have f7:=af B7.out;have l7:=(nXb.1 B7.out).1;have c11:=ae B11.out;have f11:=af B11.out;have l11:=(nXb.1 B11.out).1;clear m1 k1 cv1 hx1 hD1 BC BF HO HC52 HCV HS HRp b_BC b_BF b_B6 b_B7 b_B11;rcases hc1:cvV d a (mdV a b) (hlL l) with _|xs
  ·have HV:Hid (cvV (d+1) a b l=none):=Hi (zD HPF.out hc1);have HD:Hid (∀ k,D1 k→D k∨w.heap.size≤k):=Hi (fun k h=>(HD1.out k h).imp id (fun h=>by omega));clear hc1;simp only [Option.isSome];go_wp2
   go_ret
   exact ⟨by rw [HV.out];rfl,HM.out,HK.out,v1,n1',D1,qs1,CV1.out,HD.out,by have:=HN2.out;omega,fun x hx=>by rw [HV.out] at hx;cases hx⟩
  have HC1:=Hi hc1;clear hc1;simp only [Option.isSome]
  go_wp2_with fail
  rw [HE1.out];refine Calls.mono (IH.out d rfl (e+1) zo ⟨mn,ma,ml,mc,mb,mm,md⟩ ⟨tn,ta,tl,tc,tb,tm,td⟩ (mdV a b) b (some ⟨Lq,0,none⟩) N (hlR l) (2*T+3) (S+9) n1' v1 D1 qs1 _ G50.out HT.out (Dy ZA.out ZB.out) (ZB.out.mono zo) (by have:=HP2.out;omega) (aH.can HRq.out HLL.out.2 (nXe _) zo) HWZ.out.2 zo zo CV1.out (by have:=HN2.out;omega)) ?_;rintro r6 w54 ⟨rfl,m1,k1,v2,n2',D2,qs2,cv2,hD2,hn2',hx2⟩;replace HM:Hid (aL (fun k=>k=bc∨D k) w w54):=Hi (kQ HM.out m1 (fun k hk h=>h.elim (fun h=>Or.inl h) (fun h=>(HD1.out k h).elim (fun h=>Or.inr h) (fun h=>by omega))));replace HK:=Hi (dJ.trans HK.out k1);have CV2:=Hi cv2;have HX2:=Hi hx2;have HD:Hid (∀ k,D2 k→D k∨w.heap.size≤k):=Hi (fun k h=>(hD2 k h).elim (fun h=>(HD1.out k h).imp id (fun h=>by omega)) (fun h=>Or.inr zo));clear m1 k1 cv2 hx2 hD2;rcases hc2:cvV d (mdV a b) b (hlR l) with _|ys
  ·have HV:Hid (cvV (d+1) a b l=none):=Hi (zC HPF.out HC1.out hc2);clear hc2;simp only [Option.isSome];go_wp2
   go_ret
   exact ⟨by rw [HV.out];rfl,HM.out,HK.out,v2,n2',D2,qs2,CV2.out,HD.out,by have:=HN2.out;omega,fun x hx=>by rw [HV.out] at hx;cases hx⟩
  have HV:Hid (cvV (d+1) a b l=some (xs++ys)):=Hi (Fq HPF.out HPT.out HC1.out hc2);have HQ:Hid (qs2=qs++(xs++ys)):=Hi (by rw [HX2.out ys hc2,HX1.out xs HC1.out,List.append_assoc]);clear hc2;simp only [Option.isSome];go_wp2
  go_ret
  exact ⟨by rw [HV.out];rfl,HM.out,HK.out,v2,n2',D2,qs2,CV2.out,HD.out,by have:=HN2.out;omega,fun x hx=>by rw [HV.out] at hx;rw [←Option.some.inj hx];exact HQ.out⟩
theorem wC(bc bf N:Nat)(hN:0<N)(hN9:N≤9)(d:Nat):FH bc bf N d:=by
 induction d with
 | zero=>exact mo bc bf N 0 hN hN9 (fun d' h=>by omega)
 | succ d ih =>
  refine mo bc bf N (d+1) hN hN9 (fun d' h=>?_);obtain rfl:d=d':=by omega
  exact ih
theorem jB{w1:World}{b:Nat}{T:TypeId}{c0 c1 c2 c3 c4 c5 c6 v0 v1 v2 v3 v4 v5 v6:Value}{F:World→Prop}(hb:w1.heap[b]?=some (.cells #[c0,c1,c2,c3,c4,c5,c6] T (0,0)))(hn:#[c0,c1,c2,c3,c4,c5,c6].toList.all dL=true)(h:∀ w2,cT w1 b T #[v0,v1,v2,v3,v4,v5,v6] w2→F w2) :
  F (((((((w1.setCell ⟨b,0,none⟩ v0).setCell ⟨b,1,none⟩ v1).setCell ⟨b,2,none⟩ v2).setCell ⟨b,3,none⟩ v3).setCell ⟨b,4,none⟩ v4).setCell ⟨b,5,none⟩ v5).setCell ⟨b,6,none⟩ v6):=by
 have e0:=ax hb 0 v0;simp only [List.setIfInBounds_toArray,List.set_cons_zero] at e0;have e1:=ax e0 1 v1;simp only [List.setIfInBounds_toArray,List.set_cons_zero,List.set_cons_succ] at e1;have e2:=ax e1 2 v2;simp only [List.setIfInBounds_toArray,List.set_cons_zero,List.set_cons_succ] at e2;have e3:=ax e2 3 v3;simp only [List.setIfInBounds_toArray,List.set_cons_zero,List.set_cons_succ] at e3;have e4:=ax e3 4 v4;simp only [List.setIfInBounds_toArray,List.set_cons_zero,List.set_cons_succ] at e4;have e5:=ax e4 5 v5;simp only [List.setIfInBounds_toArray,List.set_cons_zero,List.set_cons_succ] at e5;have e6:=ax e5 6 v6;simp only [List.setIfInBounds_toArray,List.set_cons_zero,List.set_cons_succ] at e6;exact h _ (cT.of (nXb.1 hb).1 (ai hb hn) (((((((aL.setCell w1 ⟨b,0,none⟩ v0).trans (aL.setCell _ ⟨b,1,none⟩ v1)).trans (aL.setCell _ ⟨b,2,none⟩ v2)).trans (aL.setCell _ ⟨b,3,none⟩ v3)).trans (aL.setCell _ ⟨b,4,none⟩ v4)).trans (aL.setCell _ ⟨b,5,none⟩ v5)).trans (aL.setCell _ ⟨b,6,none⟩ v6)) (by simp [World.setCell]) e6)
abbrev zR:RH:=⟨false,none,0,0,none,0,0⟩
abbrev SgV(x:(RH×RH)×SH):Value:=.agg #[.bool x.1.1.neg,.slice x.1.1.a x.1.1.n x.1.1.c,.slice x.1.1.b x.1.1.m x.1.1.d,.bool x.1.2.neg,.slice x.1.2.a x.1.2.n x.1.2.c,.slice x.1.2.b x.1.2.m x.1.2.d,.slice x.2.a x.2.n x.2.c]
abbrev PvT(x:((RH×RH)×SH)×Int):Value:=.tuple #[SgV x.1,.int .i64 x.2]
def prV(p:List Rat)(a b:Rat):Option (List Rat):=if p=[] then none else cvV 12 a b (lcW p a b)
def PvP(B:Nat)(w:World)(x:((RH×RH)×SH)×Int)(a b:Rat)(r:Option (List Rat)):Prop :=
 match r with
 | none=>x=(((zR,zR),⟨none,0,0⟩),22)
 | some qs=>x.2=0∧IvC w x.1.1 a b∧iP w (B≤·) x.1.2.v x.1.2.n qs
theorem tj(ao:Option Addr)(n cap:Nat)(l:List Rat)(s t:RH)(a b:Rat)(S T:Nat)(w:World)(h:cN w ⟨ao,n,cap⟩ l)(hs:aX w s a)(ht:aX w t b)(hn:n≤1000)(h8:(tz l).length≤8)(hz:SzL S (tz l))(za:Sz T a)(zb:Sz T b)(hS:S≤1000)(hT:T≤450) :
  ar 238 [.slice ao n cap,IvV (s,t)] w PvT (fun x w'=>PvP w.heap.size w' x (loV a b) (hiV a b) (prV (tz l) (loV a b) (hiV a b))):=by
 have HX:=Hi (Ext.refl w);have HS:=Hi hs;have HT:=Hi ht;have LA:=Hi h;have LA0:=Hi h;have ZA:Hid (Sz T (loV a b)):=Hi (by rcases oo a b with e|e <;> rw [e] <;> assumption);have ZB:Hid (Sz T (hiV a b)):=Hi (by rcases oD a b with e|e <;> rw [e] <;> assumption);have HZ:=Hi hz;have hAB:=sV a b;have HWZ:Hid (∀ x ∈ lcW (tz l) (loV a b) (hiV a b),Wz (9*S+80*T+76) x):=Hi (AD hz h8 ZA.out ZB.out hAB);have HLO:Hid (loV (loV a b) (hiV a b)=loV a b):=Hi (jD hAB);have HHI:Hid (hiV (loV a b) (hiV a b)=hiV a b):=Hi (je hAB);clear h hs ht za zb hz hAB;obtain ⟨sn,sa,sl,sc,sb,sm,sd⟩:=s;obtain ⟨tn,ta,tl,tc,tb,tm,td⟩:=t;obtain ⟨N,hN⟩:∃ N,N=(tz l).length:=⟨_,rfl⟩;have HN:=Hi hN;unfold ar;go_enter Tryz.func238,Tryz.ntmps238
 go_upto_region 1 with fail
 refine eX ?_;intro w1 hE B3 B4 hz_w1 hr_w1;refine mV4 hE ?_ HX HS HT LA;clear HX HS HT LA;intro HX HS HT LA;have hs_w1:=hE.size;replace b_B3:=bX3 B3;replace b_B4:=bX3 B4
 go_wp2_with fail
 refine cM (cV ao n cap l _ LA.out) fun x12 w12 hE _=>?_
 refine mV6 hE ?_ B3 B4 HX HS HT LA;clear B3 B4 HX HS HT LA;intro B3 B4 HX HS HT LA;have hs_w12:=hE.size;replace b_B3:=bX3 B3;replace b_B4:=bX3 B4;rw [←hN];rw [←hN] at h8;clear hN;have hd1:¬ (48:Int)<(N:Int)-1:=zo;by_cases h0:N=0
 case pos =>
  subst h0;have hd2:((0:Nat):Int)-1<0:=by decide
  have HV:Hid (prV (tz l) (loV a b) (hiV a b)=none):=Hi (by unfold prV;rw [if_pos (nXj.1 HN.out.symm)]);clear LA;clear HS;clear HT;go_wp2;refine jB B4.out (by rfl) ?_;intro w2 T;replace HX:=Hi (T.ext HX.out zo);replace B3:=Hi (T.rest _ _ zo B3.out);replace B4:=Hi (T.bx);have hs_w2:=nle T.size;have hr_w2:=nle T.size.symm;clear T;replace b_B3:=bX3 B3;replace b_B4:=bX3 B4;exact nXa (v:=PvT (((zR,zR),⟨none,0,0⟩),22)) (by simp [results,Tryz.results238,go_sem,ae B4.out]) rfl ⟨(((zR,zR),⟨none,0,0⟩),22),rfl,HX.out,by rw [HV.out];rfl⟩
 have hd2:¬ (N:Int)-1<0:=zo;have HP0:Hid (tz l≠[]):=Hi (fun h=>h0 (by rw [HN.out,h];rfl));clear LA
 go_upto_region 8 with fail
 refine eX ?_;intro w13 hE B7 B8 hz_w13 hr_w13;refine mV5 hE ?_ HS HT HX B3 B4;clear HS HT HX B3 B4;intro HS HT HX B3 B4;have hs_w13:=hE.size;replace b_B3:=bX3 B3;replace b_B4:=bX3 B4;replace b_B7:=bX3 B7;replace b_B8:=bX3 B8
 go_upto_region 9 with fail
 refine iC B8.out rfl ?_;intro w14 T;replace HX:=Hi (T.ext HX.out zo);replace HS:=Hi (HS.out.keep T.keep);replace HT:=Hi (HT.out.keep T.keep);replace B3:=Hi (T.rest _ _ zo B3.out);replace B4:=Hi (T.rest _ _ zo B4.out);replace B7:=Hi (T.rest _ _ zo B7.out);replace B8:=Hi (T.bx);have hs_w14:=nle T.size;have hr_w14:=nle T.size.symm;clear T;replace b_B3:=bX3 B3;replace b_B4:=bX3 B4;replace b_B7:=bX3 B7;replace b_B8:=bX3 B8
 go_wp2_with fail
 refine cM (cE ⟨sn,sa,sl,sc,sb,sm,sd⟩ ⟨tn,ta,tl,tc,tb,tm,td⟩ a b _ HS.out HT.out) fun x23 w23 hE G23=>?_
 refine mV7 hE ?_ HX HS HT B3 B4 B7 B8;clear HX HS HT B3 B4 B7 B8;intro HX HS HT B3 B4 B7 B8;have hs_w23:=hE.size;replace b_B3:=bX3 B3;replace b_B4:=bX3 B4;replace b_B7:=bX3 B7;replace b_B8:=bX3 B8;clear HS;clear HT;obtain ⟨⟨ln,la,ll,lc,lb,lm,ld⟩,⟨hn',ha,hl,hcc,hb,hm,hd⟩⟩:=x23;have HL:=Hi G23.out.1;have HH:=Hi G23.out.2;clear G23;simp only at HL HH
 go_upto_region 10 with fail
 refine dC B3.out rfl ?_;intro w24 T;replace HX:=Hi (T.ext HX.out zo);replace B3:=Hi (T.bx);replace B4:=Hi (T.rest _ _ zo B4.out);replace B7:=Hi (T.rest _ _ zo B7.out);replace B8:=Hi (T.rest _ _ zo B8.out);replace HL:=Hi (HL.out.keep T.keep);replace HH:=Hi (HH.out.keep T.keep);have hs_w24:=nle T.size;have hr_w24:=nle T.size.symm;clear T;replace b_B3:=bX3 B3;replace b_B4:=bX3 B4;replace b_B7:=bX3 B7;replace b_B8:=bX3 B8;have LA1:=Hi (LA0.out.ext HX.out)
 go_wp2_with fail
 refine cM (mq ao n cap l ⟨ln,la,ll,lc,lb,lm,ld⟩ ⟨hn',ha,hl,hcc,hb,hm,hd⟩ (loV a b) (hiV a b) S T _ LA1.out (HL.out.raw ZA.out zo) (HH.out.raw ZB.out zo) hn HP0.out (by rw [←HN.out];exact h8) HZ.out ZA.out ZB.out hS hT) fun x27 w27 hE G27=>?_
 refine mV7 hE ?_ HX B3 B4 B7 B8 HL HH;clear HX B3 B4 B7 B8 HL HH;intro HX B3 B4 B7 B8 HL HH;have hs_w27:=hE.size;replace b_B3:=bX3 B3;replace b_B4:=bX3 B4;replace b_B7:=bX3 B7;replace b_B8:=bX3 B8;rw [HLO.out,HHI.out] at G27;obtain ⟨x28,⟨zn,za,zl,zc,zb,zm,zd⟩⟩:=x27;obtain ⟨⟨Lw,hLw,hxw,hRw⟩,hz27⟩:=G27.out;simp only at hxw;rw [ow,←HN.out] at hxw;subst hxw;have HR:=Hi hRw;clear hRw hz27 G27 LA1
 go_upto_region 11 with fail
 refine nmA ?_;intro w30 hE B10 hz_w30 hr_w30;refine mV8 hE ?_ HX B3 B4 B7 B8 HL HH HR;clear HX B3 B4 B7 B8 HL HH HR;intro HX B3 B4 B7 B8 HL HH HR;have hs_w30:=hE.size;replace b_B3:=bX3 B3;replace b_B4:=bX3 B4;replace b_B7:=bX3 B7;replace b_B8:=bX3 B8;replace b_B10:=bX3 B10
 go_wp2_with fail
 have hcv:CvI w30 w12.heap.size (w12.heap.size+1) (fun _=>False) 0 [] (.slice none 0 0):=⟨B7.out,B8.out,iP.nil _ _,fun k h=>h.elim,zo⟩;refine Calls.mono (wC w12.heap.size (w12.heap.size+1) N zo zo 12 0 rfl ⟨ln,la,ll,lc,lb,lm,ld⟩ ⟨hn',ha,hl,hcc,hb,hm,hd⟩ (loV a b) (hiV a b) (some ⟨Lw,0,none⟩) N (lcW (tz l) (loV a b) (hiV a b)) T (9*S+80*T+76) 0 (.slice none 0 0) (fun _=>False) [] _ HL.out HH.out ZA.out ZB.out zo (aH.can HR.out (by rw [ow,←HN.out]) (nXe _) zo) HWZ.out zo zo hcv dZ) ?_;rintro r5 w31 ⟨rfl,m1,k1,v1,n1',D1,qs1,⟨cb,cf,co,cD,-⟩,hD1,hn1',hx1⟩;have hE7:∀ k,k≠w12.heap.size→¬ (k=w12.heap.size∨False):=fun k hk h=>h.elim hk id
 obtain ⟨va,vc,rfl⟩:=co.sh;replace HX:=Hi (Ext.mods HX.out m1 (fun k h=>h.elim (fun h=>by omega) (fun h=>h.elim)));replace B3:=Hi (m1.blk (hE7 _ zo) B3.out);replace B4:=Hi (m1.blk (hE7 _ zo) B4.out);replace HL:=Hi (HL.out.keep k1);replace HH:=Hi (HH.out.keep k1);have HO:Hid (iP w31 (fun k=>w30.heap.size≤k) (.slice va n1' vc) n1' qs1):=Hi (co.mono (fun k _ h=>(hD1 k h).resolve_left id));replace B7:=Hi cb;have hsz31:=m1.size;have HX1:=Hi hx1;have HPV:Hid (prV (tz l) (loV a b) (hiV a b)=cvV 12 (loV a b) (hiV a b) (lcW (tz l) (loV a b) (hiV a b))):=Hi (if_neg HP0.out);clear m1 k1 cb cf co cD hD1 hx1 hcv B8 B10 HR b_B3 b_B4 b_B7 b_B8 b_B10;replace b_B3:=bX3 B3;replace b_B4:=bX3 B4;replace b_B7:=bX3 B7;rcases hc1:cvV 12 (loV a b) (hiV a b) (lcW (tz l) (loV a b) (hiV a b)) with _|xs
 case none =>
  have HV:Hid (prV (tz l) (loV a b) (hiV a b)=none):=Hi (by rw [HPV.out,hc1]);clear hc1;simp only [Option.isSome];go_wp2;refine jB B4.out (by rfl) ?_;intro w40 T;replace HX:=Hi (T.ext HX.out zo);replace HL:=Hi (HL.out.keep T.keep);replace HH:=Hi (HH.out.keep T.keep);replace B3:=Hi (T.rest _ _ zo B3.out);replace B4:=Hi (T.bx);replace B7:=Hi (T.rest _ _ zo B7.out);replace HO:=Hi (HO.out.put T (by intro h;(try dsimp only at h);omega));have hs_w40:=nle T.size;have hr_w40:=nle T.size.symm;clear T;replace b_B3:=bX3 B3;replace b_B4:=bX3 B4;replace b_B7:=bX3 B7;exact nXa (v:=PvT (((zR,zR),⟨none,0,0⟩),22)) (by simp [results,Tryz.results238,go_sem,ae B4.out]) rfl ⟨(((zR,zR),⟨none,0,0⟩),22),rfl,HX.out,by rw [HV.out];rfl⟩
 case some =>
 have HV:Hid (prV (tz l) (loV a b) (hiV a b)=some xs):=Hi (by rw [HPV.out,hc1]);have HQ:Hid (qs1=xs):=Hi (HX1.out xs hc1);clear hc1;simp only [Option.isSome];go_wp2;refine jB B4.out (by rfl) ?_;intro w40 T;replace HX:=Hi (T.ext HX.out zo);replace HL:=Hi (HL.out.keep T.keep);replace HH:=Hi (HH.out.keep T.keep);replace B3:=Hi (T.rest _ _ zo B3.out);replace B4:=Hi (T.bx);replace B7:=Hi (T.rest _ _ zo B7.out);replace HO:=Hi (HO.out.put T (by intro h;(try dsimp only at h);omega));have hs_w40:=nle T.size;have hr_w40:=nle T.size.symm;clear T;replace b_B3:=bX3 B3;replace b_B4:=bX3 B4;replace b_B7:=bX3 B7;exact nXa (v:=PvT (((⟨ln,la,ll,lc,lb,lm,ld⟩,⟨hn',ha,hl,hcc,hb,hm,hd⟩),⟨va,n1',vc⟩),0)) (by simp [results,Tryz.results238,go_sem,ae B4.out]) rfl
  ⟨(((⟨ln,la,ll,lc,lb,lm,ld⟩,⟨hn',ha,hl,hcc,hb,hm,hd⟩),⟨va,n1',vc⟩),0),rfl,HX.out,by
   rw [HV.out];exact ⟨rfl,⟨HL.out,HH.out⟩,by rw [←HQ.out];exact HO.out.mono (fun k _ h=>by have h:w30.heap.size≤k:=h;omega)⟩⟩
def mnF(m x:Rat):Rat:=if x<m then x else m
def mxF(m x:Rat):Rat:=if m<x then x else m
def mnA(l:List Rat)(j:Nat):Rat:=(l.take j).foldl mnF (l.getD 0 0)
def mxA(l:List Rat)(j:Nat):Rat:=(l.take j).foldl mxF (l.getD 0 0)
def mnL(l:List Rat):Rat:=l.foldl mnF (l.getD 0 0)
def mxL(l:List Rat):Rat:=l.foldl mxF (l.getD 0 0)
theorem rx{l:List Rat}{j:Nat}(h:j<l.length):mnA l (j+1)=mnF (mnA l j) (l.getD j 0):=by
 unfold mnA;rw [←cO h,List.foldl_append];rfl
theorem rk{l:List Rat}{j:Nat}(h:j<l.length):mxA l (j+1)=mxF (mxA l j) (l.getD j 0):=by
 unfold mxA;rw [←cO h,List.foldl_append];rfl
theorem uV{l:List Rat}{j:Nat}(h:l.length≤j):mnA l j=mnL l:=by unfold mnA mnL;rw [nXm h]
theorem uQ{l:List Rat}{j:Nat}(h:l.length≤j):mxA l j=mxL l:=by unfold mxA mxL;rw [nXm h]
theorem DA{l:List Rat}(h:l≠[])(j:Nat)(hj:j≤l.length):mnA l j ∈ l∧mxA l j ∈ l:=by
 have hl:=nYh.2 h;have hm:∀ k,k<l.length→l.getD k 0 ∈ l:=fun k hk=>by rw [nXd,List.getElem?_eq_getElem hk];exact List.getElem_mem hk
 induction j with
 | zero=>exact ⟨hm 0 hl,hm 0 hl⟩
 | succ j ih =>
  have ih:=ih zo;rw [rx zo,rk zo];unfold mnF mxF;constructor
  ·split
   ·exact hm j zo
   ·exact ih.1
  ·split
   ·exact hm j zo
   ·exact ih.2
theorem Fd{l:List Rat}(j:Nat)(hj:j≤l.length):∀ k,k<j→mnA l j≤l.getD k 0∧l.getD k 0≤mxA l j:=by
 induction j with
 | zero=>intro k hk;omega
 | succ j ih =>
  intro k hk;rw [rx zo,rk zo];by_cases h:k=j
  ·subst h;unfold mnF mxF;constructor <;> split <;> grind
  ·have h1:=ih zo k zo;unfold mnF mxF;constructor <;> split <;> grind
theorem BU{l:List Rat}(h:l≠[]):mnL l ∈ l∧mxL l ∈ l:=by
 have:=DA h l.length (nXe _)
 rwa [uV (nXe _),uQ (nXe _)] at this
theorem Dw{l:List Rat}{k:Nat}(hk:k<l.length):mnL l≤l.getD k 0∧l.getD k 0≤mxL l:=by
 have:=Fd (l:=l) l.length (nXe _) k hk
 rwa [uV (nXe _),uQ (nXe _)] at this
theorem AC(a b:Rat):lcW [] a b=[]∧((1:Int):Rat) / lcK [] a b=1:=by
 refine ⟨rfl,?_⟩;have:lcK [] a b=1:=by
  unfold lcK;show (1:Rat)*grV a b ^ 0*((1:Nat):Rat)=1;rw [Rat.pow_zero];decide +kernel
 rw [this];decide +kernel
theorem ar.imp{f:FuncId}{args:List Value}{w:World}{α:Type}{mk:α→Value}{φ ψ:α→World→Prop}(h:ar f args w mk φ)(hi:∀ x w',φ x w'→ψ x w'):ar f args w mk ψ:=h.weak (fun x w' _ hx=>hi x w' hx)
theorem tp(ao:Option Addr)(n cap:Nat)(l:List Rat)(s t:RH)(a b:Rat)(S T:Nat)(w:World)(h:cN w ⟨ao,n,cap⟩ l)(hs:aX w s a)(ht:aX w t b)(hn:n≤1000)(h8:(tz l).length≤8)(hz:SzL S (tz l))(za:Sz T a)(zb:Sz T b)(hS:S≤1000)(hT:T≤450) :
  ar 239 [.slice ao n cap,IvV (s,t)] w LT (fun x w'=>ct w.heap.size w' x.1 (lcW (tz l) (loV a b) (hiV a b))∧aA w' x.2 (((1:Int):Rat) / lcK (tz l) (loV a b) (hiV a b))):=by
 by_cases h0:tz l=[]
 ·refine (tk ao n cap l s t a b w h hs ht hn h0).imp (fun x w' hx=>?_);obtain ⟨h1,h2⟩:=hx;obtain ⟨x1,x2⟩:=x;simp only at h1 h2;subst h1;rw [h0,(AC _ _).1,(AC _ _).2];exact ⟨ct.nil _ _,h2⟩
 ·exact (mq ao n cap l s t a b S T w h hs ht hn h0 h8 hz za zb hS hT).imp (fun x w' hx=>⟨hx.1.new (by rw [ow];omega),hx.2⟩)
end Go.Proofs.YtkcpmclnocmalaaGreat
/- Package bernstein: what Range and Bound find, in plain words. -/
namespace Go.Proofs.YtkcpmclnocmalaaGreat
open Go.Num Stab
def bcL(p:List Rat)(a b:Rat):List Rat:=row p.length (bcV p a (b-a))
theorem CK(p:List Rat)(a b:Rat):(bcL p a b).length=p.length:=aM _ _
theorem Bg(n:Nat)(f:Nat→Rat)(c:Rat):(row n f).map (c*·)=row n (fun i=>c*f i):=by unfold row;rw [List.map_map];rfl
theorem DF(p:List Rat)(a b:Rat):lcW p a b=(bcL p a b).map (lcK p a b*·):=by rw [Fe];unfold bcL;rw [Bg]
theorem uU{c:Rat}(hc:0<c)(m x:Rat):mnF (c*m) (c*x)=c*mnF m x∧mxF (c*m) (c*x)=c*mxF m x:=by
 have key:∀ u v:Rat,c*u<c*v↔u<v:=fun u v=>Rat.mul_lt_mul_left hc
 unfold mnF mxF;constructor
 ·by_cases h:x<m
  ·rw [if_pos h,if_pos ((key _ _).2 h)]
  ·rw [if_neg h,if_neg (fun h2=>h ((key _ _).1 h2))]
 ·by_cases h:m<x
  ·rw [if_pos h,if_pos ((key _ _).2 h)]
  ·rw [if_neg h,if_neg (fun h2=>h ((key _ _).1 h2))]
theorem yZ{c:Rat}(hc:0<c)(l:List Rat):∀ m,(l.map (c*·)).foldl mnF (c*m)=c*l.foldl mnF m∧(l.map (c*·)).foldl mxF (c*m)=c*l.foldl mxF m:=by
 induction l with
 | nil=>intro m;exact ⟨rfl,rfl⟩
 | cons x l ih =>
  intro m;simp only [List.map_cons,List.foldl_cons];rw [(uU hc m x).1,(uU hc m x).2];exact ⟨(ih _).1,(ih _).2⟩
theorem yS(c:Rat)(l:List Rat)(i:Nat):(l.map (c*·)).getD i 0=c*l.getD i 0:=by
 by_cases h:i<l.length
 ·simp [h]
 ·rw [eB (by rw [nXl];omega),eB zo];grind
theorem Dz{c:Rat}(hc:0<c)(l:List Rat):mnL (l.map (c*·))=c*mnL l∧mxL (l.map (c*·))=c*mxL l:=by
 unfold mnL mxL;rw [yS];exact yZ hc l _
def psV(p:List Rat)(a b:Rat):Bool:=!p.isEmpty && decide (0<mnL (bcL p a b))
theorem yg{l:List Rat}(h:l≠[]):iN l=decide (0<mnL l):=by
 have e:iN l=true↔0<mnL l:=by
  unfold iN;rw [List.all_eq_true];constructor
  ·intro h1;exact of_decide_eq_true (h1 _ (BU h).1)
  ·intro h1 x hx;obtain ⟨k,hk,rfl⟩:=List.mem_iff_getElem.1 hx;have:=(Dw (l:=l) hk).1;rw [nXd,List.getElem?_eq_getElem hk] at this;exact decide_eq_true (by simp at this;grind)
 by_cases h2:0<mnL l
 ·rw [decide_eq_true h2];exact e.2 h2
 ·rw [decide_eq_false h2];rcases hb:iN l with _|_
  ·rfl
  ·exact absurd (e.1 hb) h2
theorem Ew{p:List Rat}(hp:p≠[])(a b:Rat):bcL p a b≠[]:=fun h=>by
 have:=CK p a b;rw [h] at this;exact hp (nXj.1 this.symm)
theorem Dh{p:List Rat}(hp:p≠[])(a b:Rat):psV p a b=decide (0<mnL (bcL p a b)):=by
 unfold psV;have:p.isEmpty=false:=by rw [List.isEmpty_eq_false_iff];exact hp
 rw [this];rfl
theorem Bn{p:List Rat}(hp:p≠[]){c:Rat}(hc:0<c)(a b:Rat):iN ((bcL p a b).map (c*·))=psV p a b:=by
 rw [yg (fun h=>Ew hp a b (List.map_eq_nil_iff.1 h)),Dh hp,(Dz hc _).1];have:(0:Rat)<c*mnL (bcL p a b)↔0<mnL (bcL p a b):=by
  have:=Rat.mul_lt_mul_left (a:=0) (b:=mnL (bcL p a b)) hc
  rwa [nYc] at this
 exact decide_eq_decide.2 this
def ckV(p:List Rat):Rat→List (Rat×Rat)→Rat→Bool
 | at',[],hi=>decide (at'=hi)
 | at',(a,b) :: l,hi=>decide (a=at') && psV p a b && ckV p b l hi
def prs:List Rat→List (Rat×Rat)
 | a :: b :: l=>(a,b) :: prs l
 | _=>[]
open Go.RowKit Go.Front
attribute [local go_sem] XW.cell XW.frozen
structure IvS (w:World) (s:SH) (rs:List RH):Prop where
 len:rs.length=s.n*2
 le:s.n≤s.c
 max:s.c≤9223372036854775807
 at':s.n=0∨∃ b off,s.a=some ⟨b,off,none⟩∧∀ k,k<s.n*2→RAt w b (off+k*3) (rs.getD k default)
theorem IvS.ext{w w':World}{s:SH}{rs:List RH}(h:IvS w s rs)(he:Ext w w'):IvS w' s rs :=
 ⟨h.len,h.le,h.max,h.at'.imp id fun ⟨b,off,h1,h2⟩=>⟨b,off,h1,fun k hk=>(h2 k hk).ext he⟩⟩
instance {w w':World} {s:SH} {rs:List RH}:Go.Front.Mv w w' (IvS w s rs) (IvS w' s rs):=⟨fun e h=>IvS.ext h e⟩

theorem IvS.nil(w:World):IvS w ⟨none,0,0⟩ []:=⟨rfl,nXe _,dZ,Or.inl rfl⟩
def jR(w:World)(s:SH)(qs:List Rat):Prop:=∃ rs,IvS w s rs∧dk aX w rs qs
def jq(w:World)(s:SH)(qs:List Rat):Prop:=∃ rs,IvS w s rs∧dk aA w rs qs
theorem jR.ext{w w':World}{s:SH}{qs:List Rat}(h:jR w s qs)(he:Ext w w'):jR w' s qs:=let ⟨rs,h1,h2⟩:=h;⟨rs,h1.ext he,h2.raw_ext he⟩
instance {w w':World} {s:SH} {qs:List Rat}:Go.Front.Mv w w' (jR w s qs) (jR w' s qs):=⟨fun e h=>jR.ext h e⟩

theorem jq.ext{w w':World}{s:SH}{qs:List Rat}(h:jq w s qs)(he:Ext w w'):jq w' s qs:=let ⟨rs,h1,h2⟩:=h;⟨rs,h1.ext he,h2.can_ext he⟩
instance {w w':World} {s:SH} {qs:List Rat}:Go.Front.Mv w w' (jq w s qs) (jq w' s qs):=⟨fun e h=>jq.ext h e⟩

theorem jR.len{w:World}{s:SH}{qs:List Rat}(h:jR w s qs):qs.length=s.n*2:=let ⟨_,h1,h2⟩:=h;h2.1.symm.trans h1.len
theorem jq.len{w:World}{s:SH}{qs:List Rat}(h:jq w s qs):qs.length=s.n*2:=let ⟨_,h1,h2⟩:=h;h2.1.symm.trans h1.len
theorem jq.raw{w:World}{s:SH}{qs:List Rat}{k:Nat}(h:jq w s qs)(hs:SzL k qs)(hk:k≤134217728):jR w s qs :=
 let ⟨rs,h1,h2⟩:=h;⟨rs,h1,h2.1,fun i hi=>(h2.2 i hi).raw (hs.at hi) hk⟩
theorem iP.can{w:World}{D:Nat→Prop}{s:SH}{n:Nat}{qs:List Rat}(h:iP w D s.v n qs):s.n=n∧jq w s qs:=by
 obtain ⟨rs,h1,h2⟩:=h;rcases h1 with ⟨e,rfl,rfl⟩|⟨L,cap,re,e,h3,h4,h5,h6,h7,h8⟩
 ·obtain ⟨a,m,c⟩:=s;simp only [SH.v,Value.slice.injEq] at e;obtain ⟨rfl,rfl,rfl⟩:=e;exact ⟨rfl,[],IvS.nil _,h2⟩
 ·obtain ⟨a,m,c⟩:=s;simp only [SH.v,Value.slice.injEq] at e;obtain ⟨rfl,rfl,rfl⟩:=e;exact ⟨rfl,rs,⟨h5,h6,h7,Or.inr ⟨L,0,rfl,fun k hk=>by rw [Nat.zero_add];exact h4.at (by rw [h5];exact hk)⟩⟩,h2⟩
def IAt(w:World)(b o:Nat)(r t:RH):Prop:=w.cell? ⟨b,o,none⟩=some (.bool r.neg)∧w.cell? ⟨b,o+1,none⟩=some (.slice r.a r.n r.c)∧w.cell? ⟨b,o+2,none⟩=some (.slice r.b r.m r.d) ∧
 w.cell? ⟨b,o+3,none⟩=some (.bool t.neg)∧w.cell? ⟨b,o+4,none⟩=some (.slice t.a t.n t.c)∧w.cell? ⟨b,o+5,none⟩=some (.slice t.b t.m t.d)
theorem jR.at{w:World}{ao:Option Addr}{n c:Nat}{qs:List Rat}(h:jR w ⟨ao,n,c⟩ qs){k:Nat}(hk:k<n) :
  ∃ b off r t,ao=some ⟨b,off,none⟩∧b<w.heap.size∧IAt w b (off+k*6) r t∧aX w r (qs.getD (2*k) 0)∧aX w t (qs.getD (2*k+1) 0):=by
 have hl:=h.len;obtain ⟨rs,h1,h2⟩:=h;rcases h1.at' with h0|⟨b,off,h3,h4⟩
 ·simp only at h0;omega
 ·simp only at h3 h4 hl;have g1:=h4 (2*k) zo;have g2:=h4 (2*k+1) zo;rw [show off+2*k*3=off+k*6 by omega] at g1;rw [show off+(2*k+1)*3=off+k*6+3 by omega] at g2;exact ⟨b,off,_,_,h3,nXq _ _ g1.1,⟨g1.1,g1.2.1,g1.2.2,g2.1,g2.2.1,g2.2.2⟩,h2.2 (2*k) zo,h2.2 (2*k+1) zo⟩
def tps(qs:List Rat):List (Rat×Rat):=(prs qs).map (fun x=>(loV x.1 x.2,hiV x.1 x.2))
theorem uC:∀ qs:List Rat,(prs qs).length=qs.length / 2
 | []=>rfl
 | [a]=>by simp [prs]
 | a :: b :: l=>by
  show (prs l).length+1=_;rw [uC l];simp only [List.length_cons];omega
theorem Ap:∀ (qs:List Rat) (k:Nat),2*k+1<qs.length→(prs qs)[k]?=some (qs.getD (2*k) 0,qs.getD (2*k+1) 0)
 | [],k,h=>by simp at h
 | [_],k,h=>by simp at h
 | a :: b :: l,0,_=>rfl
 | a :: b :: l,k+1,h=>by
  show (prs l)[k]?=_;rw [Ap l k (by simp only [List.length_cons] at h;omega)];rfl
theorem tM(qs:List Rat):(tps qs).length=qs.length / 2:=by unfold tps;rw [nXl,uC]
theorem xC{qs:List Rat}{k:Nat}(h:2*k+1<qs.length):(tps qs).drop k=(loV (qs.getD (2*k) 0) (qs.getD (2*k+1) 0),hiV (qs.getD (2*k) 0) (qs.getD (2*k+1) 0)) :: (tps qs).drop (k+1):=by
 have hl:k<(tps qs).length:=by rw [tM];omega
 rw [List.drop_eq_getElem_cons hl]
 congr 1
 have e:(tps qs)[k]?=some (loV (qs.getD (2*k) 0) (qs.getD (2*k+1) 0),hiV (qs.getD (2*k) 0) (qs.getD (2*k+1) 0)):=by
  unfold tps;rw [nXw,Ap qs k h];rfl
 rw [List.getElem?_eq_getElem hl] at e;exact Option.some.inj e
def ckE(p:List Rat)(lo hi:Rat)(l:List (Rat×Rat)):Int:=if l≠[]∧ckV p lo l hi=true then 0 else 22
theorem wJ(p:List Rat)(lo hi:Rat):ckE p lo hi []=22:=if_neg (fun h=>h.1 rfl)
theorem Bm(a b:Rat):psV [] a b=false:=rfl
theorem zK(lo hi:Rat)(l:List (Rat×Rat)):ckE [] lo hi l=22:=by
 cases l with
 | nil=>exact wJ _ _ _
 | cons x l =>
  refine if_neg (fun h=>?_);have h2:=h.2;unfold ckV at h2;rw [Bm] at h2;simp at h2
theorem CF{p:List Rat}{lo hi:Rat}{l:List (Rat×Rat)}(h:ckV p lo l hi=false):ckE p lo hi l=22:=if_neg (fun h2=>by rw [h] at h2;exact absurd h2.2 dZ)
theorem Em{p:List Rat}{lo hi:Rat}{l:List (Rat×Rat)}(h0:l≠[])(h:ckV p lo l hi=true):ckE p lo hi l=0:=if_pos ⟨h0,h⟩
theorem DC{T:Nat}{a b:Rat}(za:Sz T a)(zb:Sz T b):Sz T (loV a b):=by rcases oo a b with e|e <;> rw [e] <;> assumption
theorem DK{T:Nat}{a b:Rat}(za:Sz T a)(zb:Sz T b):Sz T (hiV a b):=by rcases oD a b with e|e <;> rw [e] <;> assumption
end Go.Proofs.YtkcpmclnocmalaaGreat
