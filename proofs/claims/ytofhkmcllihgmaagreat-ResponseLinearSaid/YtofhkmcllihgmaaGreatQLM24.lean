/- Py3, Py4 -/
import Derived.Test.YtofhkmcllihgmaaGreatQLK2
set_option linter.unusedVariables false
set_option maxRecDepth 8000
set_option maxHeartbeats 4000000
namespace Go.Proofs.YtofhkmcllihgmaaGreat
open Go.RowKit Go.Front Go.Num Stab
attribute [local go_sem] XW.cell XW.frozen
theorem aI.celx{w:World}{ao:Option Addr}{n c:Nat}{qs:List Rat}(h:aI w ⟨ao,n,c⟩ qs){k:Nat}(hk:k<n):∃ b off r,ao=some ⟨b,off,none⟩∧b<w.heap.size∧RAt w b (off+k*3) r∧au w r (qs.getD k 0):=by
 have hl:=h.len;obtain ⟨rs,h1,h2⟩:=h;obtain ⟨b,off,e1,e2⟩:∃ b off,ao=some ⟨b,off,none⟩∧RAt w b (off+k*3) (rs.getD k default):=by
  rcases h1.at' with h0|⟨b,off,e,hc⟩
  ·have h0:n=0:=h0;omega
  ·exact ⟨b,off,e,hc k hk⟩
 exact ⟨b,off,_,e1,World.block_lt_of_cell? _ _ e2.1,e2,h2.2 k (by rw [hl];exact hk)⟩
theorem LIn.celx{w:World}{ao:Option Addr}{n c lo hi:Nat}{qs:List Rat}(h:LIn w ⟨ao,n,c⟩ qs lo hi){k:Nat}(hk:k<n):∃ b off r,ao=some ⟨b,off,none⟩∧b<w.heap.size∧RAt w b (off+k*3) r∧au w r (qs.getD k 0):=h.can.celx hk
abbrev MT(x:RH×SH):Value:=.tuple #[x.1.v,x.2.v]
theorem fN{S D:Nat}{p:List Rat}(hS:1≤S)(hD:0<D)(hl:D<W32 ^ S)(h:∀ x ∈ p,Fr S D x):SzL S p:=fun x hx=>(h x hx).sz hS hD hl
theorem i5{p:List Rat}{i:Nat}(hi:i<p.length):p.take (i+1)=p.take i++[p.getD i 0]:=by
 rw [List.take_add_one,List.getElem?_eq_getElem hi,List.getD_eq_getElem?_getD,List.getElem?_eq_getElem hi];rfl
theorem eC(ao:Option Addr)(n cap:Nat)(l:List Rat)(S D:Nat)(w:World)(h:bW w ⟨ao,n,cap⟩ l)(hn:n≤1000000)(hS:1≤S)(hS2:S≤30000000)(hD:0<D)(hl:D<W32 ^ S)(hf:∀ x ∈ l,Fr S D x) :
  aq 234 [.slice ao n cap] w MT (fun x w'=>au w' x.1 (aO l)∧fQ w.heap.size w' x.2 (aM l)):=by
 obtain ⟨i0,hi0,hz0,hz1,hz2⟩:=info_parts eN;have HX:=Hi (Ext.refl w);have LP:=Hi h;have hle:=h.le;have hmx:=h.max;have Hlen:=Hi h.len;simp only at hle hmx Hlen;have HSz:=Hi (fN hS hD hl hf);clear h;unfold aq;go_enter Tryz.func234,Tryz.ntmps234
 go_upto_region 1 with fail
 refine nmA ?_;intro w1 hE B2 hz_w1 hr_w1;replace HX:=hE.tr HX;have hs_w1:=hE.size;clear hE;replace b_B2:=bX3 B2
 go_wp2_with fail
 refine cM (cN ao n cap l _ (LP.out.ext HX.out)) fun x2 w2 hE G2=>?_
 refine mV2 hE ?_ B2 HX;clear B2 HX;intro B2 HX;have hs_w2:=hE.size;clear hE;replace b_B2:=bX3 B2;obtain ⟨q1,q2⟩:=G2.out;obtain ⟨P,hP⟩:∃ P,P=(tz l).length:=⟨_,rfl⟩;obtain ⟨p,hp⟩:∃ p,p=tz l:=⟨_,rfl⟩;have LQ:Hid (bW w ⟨ao,P,cap⟩ p):=Hi (by rw [hp,q1,hP];exact LP.out.take q2);have HPl:Hid (p.length=P):=Hi (by rw [hp,hP]);have HM:Hid (aO l=bN p):=Hi (by rw [hp];rfl);have HSL:Hid (aM l=p.map (· / bN p)):=Hi (by rw [hp];rfl);have HM0:Hid (p≠[]→bN p≠0):=Hi (fun h0=>by
  rw [hp] at h0 ⊢;have:=d9 h0;exact fun h1=>by rw [show aO l=0 from h1] at this;exact absurd this Rat.lt_irrefl)
 have HFp:Hid (∀ x ∈ p,Fr S D x):=Hi (fun x hx=>hf x (by rw [hp,q1] at hx;exact List.mem_of_mem_take hx));have hPn:P≤n:=by omega
 rw [←hP];clear hP hp q1 q2 G2 hf HSz Hlen;clear LP
 go_wp2_with fail
 refine cM (aW 0 _ (by decide) (by decide)) fun x3 w3 hE G3=>?_
 refine mV2 hE ?_ B2 HX;clear B2 HX;intro B2 HX;have hs_w3:=hE.size;clear hE;replace b_B2:=bX3 B2
 go_upto_region 3 with fail
 refine nmA ?_;intro w4 hE B4 hz_w4 hr_w4;refine mV3 hE ?_ G3 B2 HX;clear G3 B2 HX;intro G3 B2 HX;have hs_w4:=hE.size;clear hE;replace b_B2:=bX3 B2;replace b_B4:=bX3 B4;obtain ⟨b2,hb2⟩:∃ b2,b2=w.heap.size:=⟨_,rfl⟩;obtain ⟨b4,hb4⟩:∃ b4,b4=w3.heap.size:=⟨_,rfl⟩;have hbw:w.heap.size≤b2:=by omega
 have hb24:b2≠b4:=by omega
 have hb4w:w.heap.size≤b4:=by omega
 rw [←hb2] at B2 ⊢;rw [←hb4] at B4 ⊢;clear hb2 hb4 b_B2 b_B4;go_wp2
 go_loopg [15] P (fun g v wr=>∃ (i:Nat) (m:RH),i+g=P∧v=.int .i64 (i:Nat)∧Ext w wr∧wr.heap[b2]?=some (.cells #[.bool false,.slice none 0 0,.slice none 0 0] 30 (0,0))∧wr.heap[b4]?=some (.cells #[.bool m.neg,.slice m.a m.n m.c,.slice m.b m.m m.d] 30 (0,0))∧au wr m (bN (p.take i)))
 case atStart=>exact ⟨0,x3,by omega,rfl,HX.out,B2.out,B4.out,G3.out⟩
 case round =>
  obtain ⟨i,m,hi,rfl,g1,g3,g4,g5⟩:=hrel;obtain ⟨mn,ma,ml,mc,mb,mm,md⟩:=m;clear HX B2 B4 G3;have HX:=Hi g1;have B2:=Hi g3;have B4:=Hi g4;have HM2:=Hi g5;clear g1 g3 g4 g5;replace b_B2:=bX3 B2;replace b_B4:=bX3 B4;by_cases h0:gk=0
  case neg =>
   have hin:(i:Int)<P:=by omega
   obtain ⟨b,off,r,hao,hbl,⟨hc1,hc2,hc3⟩,hPc⟩:=(LQ.out.ext HX.out).cells' (k:=i) (by omega);obtain ⟨rneg,ra,rn,rc,rb,rm,rd⟩:=r;simp only at hc1 hc2 hc3;have HC:=Hi hPc;clear hPc;have HAO:=Hi hao;subst hao
   go_upto_region 6 with fail
   clear hc1 hc2 hc3;have hb4r:b4<wr.heap.size:=b_B4.2.2;refine nmA ?_;intro w6 hE B6 hz_w6 hr_w6;refine mV5 hE ?_ HX B2 B4 HM2 HC;clear HX B2 B4 HM2 HC;intro HX B2 B4 HM2 HC;have hs_w6:=hE.size;clear hE;replace b_B2:=bX3 B2;replace b_B4:=bX3 B4;replace b_B6:=bX3 B6;have Zm:Hid (Sz S (bN (p.take i))):=Hi ((dQ fun x hx=>HFp.out x (List.mem_of_mem_take hx)).sz hS hD hl);have Zc:Hid (Sz S (p.getD i 0)):=Hi ((fN hS hD hl HFp.out).at (by rw [HPl.out];omega))
   go_wp2_with fail
   refine cM (k7 ⟨mn,ma,ml,mc,mb,mm,md⟩ ⟨rneg,ra,rn,rc,rb,rm,rd⟩ (bN (p.take i)) (p.getD i 0) S _ HM2.out HC.out Zm.out Zc.out (by omega)) fun x7 w7 hE G7=>?_
   refine mV6 hE ?_ B6 HX B2 B4 HM2 HC;clear B6 HX B2 B4 HM2 HC;intro B6 HX B2 B4 HM2 HC;have hs_w7:=hE.size;clear hE;replace b_B2:=bX3 B2;replace b_B4:=bX3 B4;replace b_B6:=bX3 B6
   go_upto_region 7 with fail
   refine bm B4.out rfl ?_;intro w8 T;replace HX:=Hi (T.ext HX.out (by omega));replace B2:=Hi (T.rest _ _ (by omega) B2.out);replace B4:=Hi (T.bx);replace HM2:=Hi (HM2.out.keep T.keep);replace HC:=Hi (HC.out.keep T.keep);replace B6:=Hi (T.rest _ _ (by omega) B6.out);replace G7:=Hi (G7.out.keep T.keep);have hs_w8:=nle T.size;have hr_w8:=nle T.size.symm;clear T;replace b_B2:=bX3 B2;replace b_B4:=bX3 B4;replace b_B6:=bX3 B6;have HMn:Hid (au w8 x7 (bN (p.take (i+1)))):=Hi (by rw [i5 (by rw [HPl.out];omega),em];exact G7.out);go_wp2
   go_roundg (gk-1)
   case measure=>omega
   case rel=>exact ⟨i+1,x7,by omega,by go_num,HX.out,B2.out,B4.out,HMn.out⟩
  subst h0;obtain rfl:i=P:=by omega
  have hin:¬ (i:Int)<i:=by omega
  have HM3:Hid (au wr ⟨mn,ma,ml,mc,mb,mm,md⟩ (bN p)):=Hi (by
   have:=HM2.out;rw [List.take_of_length_le (by rw [HPl.out];exact Nat.le_refl _)] at this;exact this)
  clear HM2;have hXr:=HX.out.size;have hb2r:b2<wr.heap.size:=b_B2.2.2;have hb4r:b4<wr.heap.size:=b_B4.2.2
  go_upto_region 9 with (refine ar rfl (.tmp 24) (.tmp 24) 41 rfl 30 i0 (RH.v default) 3 Tryz.underlying41 hi0 hz0 hz1 _ _ i rfl rfl (by omega) (by omega) (by rw [hz2];omega) (by omega) ?_;intro y1 hnew hE)
  have KB:=Hi (RBk.make rfl hnew);clear hnew;refine mV4 hE ?_ HX B2 B4 HM3;clear HX B2 B4 HM3;intro HX B2 B4 HM3;have hs_y1:=hE.size;clear hE;replace b_B2:=bX3 B2;replace b_B4:=bX3 B4;obtain ⟨L,hL⟩:∃ L,L=wr.heap.size:=⟨_,rfl⟩;have hLw:w.heap.size≤L:=by omega
  have hL2:b2≠L:=by omega
  have hL4:b4≠L:=by omega
  rw [←hL] at KB ⊢;clear hL hs_y1 b_B2 b_B4;go_wp2
  go_loopg [28] i (fun g v wr=>∃ (j:Nat) (rs:List RH),j+g=i∧v=.int .i64 (j:Nat)∧Ext w wr∧wr.heap[b2]?=some (.cells #[.bool false,.slice none 0 0,.slice none 0 0] 30 (0,0))∧wr.heap[b4]?=some (.cells #[.bool mn,.slice ma ml mc,.slice mb mm md] 30 (0,0))∧au wr ⟨mn,ma,ml,mc,mb,mm,md⟩ (bN p)∧RBk wr L rs #[]∧rs.length=i∧dJ wr rs ((p.take j).map (· / bN p)))
  case atStart=>exact ⟨0,_,by omega,rfl,HX.out,B2.out,B4.out,HM3.out,KB.out,by simp,fun j hj=>by simp at hj⟩
  case round =>
   obtain ⟨j,rs,hj,rfl,g1,g3,g4,g5,g6,g7,g8⟩:=hrel;clear HX B2 B4 HM3 KB;have HX:=Hi g1;have B2:=Hi g3;have B4:=Hi g4;have HM3:=Hi g5;have KB:=Hi g6;have HRl:=Hi g7;have PC:=Hi g8;clear g1 g3 g4 g5 g6 g7 g8;replace b_B2:=bX3 B2;replace b_B4:=bX3 B4
   try clear f_KB l_KB
   have f_KB:=ab KB.out;have l_KB:=(Array.getElem?_eq_some_iff.1 KB.out).1;by_cases h0:gk=0
   case neg =>
    have hin2:(j:Int)<i:=by omega
    obtain ⟨b,off,r,hao,hbl,⟨hc1,hc2,hc3⟩,hPc⟩:=(LQ.out.ext HX.out).cells' (k:=j) (by omega);obtain ⟨rneg,ra,rn,rc,rb,rm,rd⟩:=r;simp only at hc1 hc2 hc3;have HC:=Hi hPc;clear hPc;subst hao
    go_upto_region 12 with fail
    clear hc1 hc2 hc3;have hLr:L<wr.heap.size:=l_KB;refine nmA ?_;intro y6 hE B9 hz_y6 hr_y6;refine mV7 hE ?_ HX B2 B4 HM3 KB PC HC;clear HX B2 B4 HM3 KB PC HC;intro HX B2 B4 HM3 KB PC HC;have hs_y6:=hE.size;clear hE;replace b_B2:=bX3 B2;replace b_B4:=bX3 B4
    try clear f_KB l_KB
    have f_KB:=ab KB.out;have l_KB:=(Array.getElem?_eq_some_iff.1 KB.out).1;replace b_B9:=bX3 B9;have Zm:Hid (Sz S (bN p)):=Hi ((dQ HFp.out).sz hS hD hl);have Zc:Hid (Sz S (p.getD j 0)):=Hi ((fN hS hD hl HFp.out).at (by rw [HPl.out];omega));have Hm0:Hid (bN p≠0):=Hi (HM0.out fun h=>by have:=HPl.out;rw [h] at this;simp at this;omega)
    go_wp2_with fail
    refine cM (cL ⟨rneg,ra,rn,rc,rb,rm,rd⟩ ⟨mn,ma,ml,mc,mb,mm,md⟩ (p.getD j 0) (bN p) _ HC.out (HM3.out.raw Zm.out (by omega)) Hm0.out) fun x7 w7 hE G7=>?_
    refine mV8 hE ?_ B9 HX B2 B4 HM3 KB PC HC;clear B9 HX B2 B4 HM3 KB PC HC;intro B9 HX B2 B4 HM3 KB PC HC;have hs_w7:=hE.size;clear hE;replace b_B2:=bX3 B2;replace b_B4:=bX3 B4
    try clear f_KB l_KB
    have f_KB:=ab KB.out;have l_KB:=(Array.getElem?_eq_some_iff.1 KB.out).1;replace b_B9:=bX3 B9;obtain ⟨f1,f2,f3⟩:=RBk.at (re:=#[]) KB.out (k:=j) (by rw [HRl.out];omega)
    go_upto_region 13 with fail
    refine bT (k:=j) KB.out rfl (by rw [HRl.out];omega) ?_;intro y8 T;clear f1 f2 f3;replace HX:=Hi (T.ext HX.out (by omega));replace B2:=Hi (T.rest _ _ (by omega) B2.out);replace B4:=Hi (T.rest _ _ (by omega) B4.out);replace HM3:=Hi (HM3.out.keep T.keep);replace PC:=Hi (PC.out.keep T.keep);replace KB:=Hi (T.bx);replace HC:=Hi (HC.out.keep T.keep);replace B9:=Hi (T.rest _ _ (by omega) B9.out);replace G7:=Hi (G7.out.keep T.keep);have hs_y8:=nle T.size;have hr_y8:=nle T.size.symm;clear T;replace b_B2:=bX3 B2;replace b_B4:=bX3 B4
    try clear f_KB l_KB
    have f_KB:=ab KB.out;have l_KB:=(Array.getElem?_eq_some_iff.1 KB.out).1;replace b_B9:=bX3 B9;replace PC:=Hi (PC.out.snoc (x:=x7) (i:=j) (by rw [List.length_map,List.length_take,HPl.out];omega) (by rw [HRl.out];omega) G7.out);have HRp:Hid ((p.take j).map (· / bN p)++[p.getD j 0 / bN p]=(p.take (j+1)).map (· / bN p)):=Hi (by rw [i5 (by rw [HPl.out];omega),List.map_append];rfl);rw [HRp.out] at PC;go_wp2
    go_roundg (gk-1)
    case measure=>omega
    case rel=>exact ⟨j+1,_,by omega,by go_num,HX.out,B2.out,B4.out,HM3.out,KB.out,by rw [List.length_set];exact HRl.out,PC.out⟩
   subst h0;obtain rfl:j=i:=by omega
   have hin:¬ (j:Int)<j:=by omega
   have HO:Hid (bB wr L (aM l)):=Hi (by
    have:=PC.out;rw [List.take_of_length_le (by rw [HPl.out];exact Nat.le_refl _),←HSL.out] at this;exact this.row KB.out HRl.out (by rw [HSL.out,List.length_map,HPl.out]))
   have HOl:Hid ((aM l).length=j):=Hi (by rw [HSL.out,List.length_map,HPl.out]);clear KB;clear PC;go_wp2;refine bm (F:=fun W=>bodyPost _ _ _ _ _ W) B2.out rfl ?_;intro y9 T;replace HX:=Hi (T.ext HX.out (by omega));replace B2:=Hi (T.bx);replace B4:=Hi (T.rest _ _ (by omega) B4.out);replace HM3:=Hi (HM3.out.keep T.keep);replace HO:=Hi (HO.out.put T (by omega));have hs_y9:=nle T.size;have hr_y9:=nle T.size.symm;clear T;replace b_B2:=bX3 B2;replace b_B4:=bX3 B4;exact bodyPost_ret (v:=MT (⟨mn,ma,ml,mc,mb,mm,md⟩,⟨some ⟨L,0,none⟩,j,j⟩)) (by simp [results,Tryz.results234,go_sem,MT,b_B2.1]) rfl
    ⟨(⟨mn,ma,ml,mc,mb,mm,md⟩,⟨some ⟨L,0,none⟩,j,j⟩),rfl,HX.out,by rw [HM.out];exact HM3.out,L,hLw,by rw [HOl.out],HO.out⟩
theorem dF(ao:Option Addr)(n cap:Nat)(l:List Rat)(S D:Nat)(w:World)(h:aI w ⟨ao,n,cap⟩ l)(hn:n≤1000000)(hS:1≤S)(hS2:S≤30000000)(hD:0<D)(hl:D<W32 ^ S)(hf:∀ x ∈ l,Fr S D x) :
  aq 234 [.slice ao n cap] w MT (fun x w'=>au w' x.1 (aO l)∧fQ w.heap.size w' x.2 (aM l)):=eC ao n cap l S D w (h.raw (fN hS hD hl hf) (by omega)) hn hS hS2 hD hl hf
theorem nU{w:World}{b off n:Nat}{rs:List RH}(hl:rs.length=n)(hc:∀ k,k<n→RAt w b (off+k*3) (rs.getD k default)):∀ j u,(aA rs)[j]?=some u→w.cell? ((⟨b,off,none⟩:Addr).add j)=some u:=by
 intro j u hj;have hlt:j<(aA rs).length:=(List.getElem?_eq_some_iff.1 hj).1;rw [aY,hl] at hlt;obtain ⟨k,i,hk,hi,rfl⟩:∃ k i,k<n∧i<3∧j=k*3+i:=⟨j / 3,j % 3,by omega,by omega,by omega⟩;rw [f5 rs (by omega) hi] at hj;obtain ⟨h1,h2,h3⟩:=hc k hk;rw [eI];have hi3:i=0∨i=1∨i=2:=by omega
 rcases hi3 with rfl|rfl|rfl
 ·have:u=.bool (rs.getD k default).neg:=by simpa [ie] using hj.symm
  rw [this,←h1];congr 2
 ·have:u=.slice (rs.getD k default).a (rs.getD k default).n (rs.getD k default).c:=by simpa [ie] using hj.symm
  rw [this,←h2];congr 2
 ·have:u=.slice (rs.getD k default).b (rs.getD k default).m (rs.getD k default).d:=by simpa [ie] using hj.symm
  rw [this,←h3];congr 2
theorem fW{w:World}{ops:Array Oper}{rest:List Oper}{o:Oper}{a:Act}{Q:Exit→Act→World→Prop}(hgd:o.guard=none)(s x:Operand)(T:TypeId)(hT:Tryz.prog.underlying T=some (.slice 30))
 (ho:o.op=.call { callee:=.builtin .append,args:=#[s,x],argTypes:=#[T,T] })(N:Nat)(hs:a.eval s=.slice (some ⟨N,0,none⟩) 0 0)(b off n c:Nat)(rs:List RH)(hx:a.eval x=.slice (some ⟨b,off,none⟩) n c)
 (hl:rs.length=n)(hn0:0<n)(hn:n≤1073741824)(hc:∀ k,k<n→RAt w b (off+k*3) (rs.getD k default))
 (h:∀ w' cap re,n≤cap→cap≤9223372036854775807→Ext w w'→RBk w' w.heap.size rs re→re.toList.all gH=true→wpList Tryz.prog ops Q rest (a.put o.dst (.slice (some ⟨w.heap.size,0,none⟩) n cap)) w'):wpList Tryz.prog ops Q (o :: rest) a w:=by
 obtain ⟨i0,hi0,hz0,hz1,hz2⟩:=info_parts eN;have hgc:∀ need old,need≤9223372036854775807→need≤grownCap w need old 30∧grownCap w need old 30≤9223372036854775807:=fun need old h=>⟨grownCap_ge _ _ _ _,by have:=grownCap_le_maxLen w need old 30 (by simpa [maxLen] using h);simpa [maxLen] using this⟩
 have hr:=run_append_grow (P:=Tryz.prog) w T o.type _ i0 _ hT hi0 hz0 ⟨N,0,none⟩ 0 0 [] (by simp) (fun j u hj=>by simp at hj) ⟨b,off,none⟩ n c (aA rs) (by rw [aY,hl,hz1]) (nU hl hc) (by omega) (by omega) (growslice_fits (by omega) (by rw [hz2];omega));rw [show ([]:List Value).toArray++(aA rs).toArray=(aA rs).toArray from by simp] at hr;simp only [Nat.zero_add] at hr;obtain ⟨g1,g2⟩:=hgc n 0 (by omega);have he:Ext w (w.drew.alloc (.cells ((aA rs).toArray++Builtin.zeroCells (RH.v default).cells (grownCap w n 0 30-n)) 30)):=(Ext.drew w).trans (Ext.alloc _ _);have hb:RBk (w.drew.alloc (.cells ((aA rs).toArray++Builtin.zeroCells (RH.v default).cells (grownCap w n 0 30-n)) 30)) w.heap.size rs (Builtin.zeroCells (RH.v default).cells (grownCap w n 0 30-n)):=by
  unfold RBk;exact heap_alloc_new w.drew _
 have hh:=h _ _ _ g1 g2 he hb (dt _);refine wpList_plain hgd fun K hK=>?_
 unfold Oper.wp;simp [execOp,ho,resolve,invoke,builtin,hs,hx,hr,Result.andThen];exact hK _ _ hh
theorem vk(w:World)(a:Option Addr)(n c:Nat):(binOp .eql 41 (.slice a n c) (.slice none 0 0)).run Tryz.prog w=.ok (.bool a.isNone) w:=by
 have h:∀ d:Nat,(Op.equalIn (d+1) 41 (.slice a n c) (.slice none 0 0)).run Tryz.prog w=.ok a.isNone w:=fun d=>by
  cases a <;> simp [Op.equalIn,run_underlying Tryz.underlying41]
 simp only [binOp];simp [Op.equal,Op.maxDepth,h]
attribute [local go_sem] vk
theorem m7(ao:Option Addr)(n cap:Nat)(l:List Rat)(w:World)(h:aI w ⟨ao,n,cap⟩ l)(hn:n≤1000000)(h0:0<n) :
  aq 280 [.slice ao n cap] w SH.v (fun x w'=>∃ L c,w.heap.size≤L∧n≤c∧c≤9223372036854775807∧x=⟨some ⟨L,0,none⟩,n,c⟩∧bB w' L l):=by
 obtain ⟨rs,h1,h2⟩:=h;have hl:rs.length=n:=h1.len;have H2:=Hi h2;obtain ⟨b,off,rfl,hc⟩:∃ b off,ao=some ⟨b,off,none⟩∧∀ k,k<n→RAt w b (off+k*3) (rs.getD k default):=by
  rcases h1.at' with h3|⟨b,off,e,hc⟩
  ·have h3:n=0:=h3;omega
  ·exact ⟨b,off,e,hc⟩
 have HC:=Hi hc;have hE:Hid (Ext w (w.alloc (.cells #[] 30))):=Hi (Ext.alloc _ _);clear h1 h2 hc;unfold aq;go_enter Tryz.func280,Tryz.ntmps280
 go_wp2_with (at_builtin;refine fW rfl (.tmp 5) (.tmp 6) 41 Tryz.underlying41 rfl w.heap.size rfl b off n cap rs rfl hl h0 (by omega) (fun k hk=>(HC.out k hk).ext hE.out) ?_;intro w' c re g1 g2 g3 g4 g5)
 rw [World.size_alloc] at g4
 go_ret
 exact ⟨⟨some ⟨w.heap.size+1,0,none⟩,n,c⟩,rfl,hE.out.trans g3,_,c,Nat.le_succ _,g1,g2,rfl,rs,re,g4,g5,H2.out.can_ext (hE.out.trans g3)⟩
end Go.Proofs.YtofhkmcllihgmaaGreat
