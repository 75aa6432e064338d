import Derived.Test.YtkcpmclnocmalaaGreatQMK2
set_option linter.unusedVariables false
set_option maxHeartbeats 4000000
set_option maxRecDepth 8000
namespace Go.Proofs.YtkcpmclnocmalaaGreat
open Go.RowKit Go.Front Go.Num Stab
attribute [local go_sem] XW.cell XW.frozen
theorem bg.celx{w:World}{ao:Option Addr}{n c:Nat}{qs:List Rat}(h:bg w ⟨ao,n,c⟩ qs){k:Nat}(hk:k<n):∃ b off r,ao=some ⟨b,off,none⟩∧b<w.heap.size∧RAt w b (off+k*3) r∧aA w r (qs.getD k 0):=by
 have hl:=h.len;obtain ⟨rs,h1,h2⟩:=h;obtain ⟨b,off,e1,e2⟩:∃ b off,ao=some ⟨b,off,none⟩∧RAt w b (off+k*3) (rs.getD k default):=by
  rcases h1.at' with h0|⟨b,off,e,hc⟩
  ·have h0:n=0:=h0;omega
  ·exact ⟨b,off,e,hc k hk⟩
 exact ⟨b,off,_,e1,nXq _ _ e2.1,e2,h2.2 k (by rw [hl];exact hk)⟩
theorem LIn.celx{w:World}{ao:Option Addr}{n c lo hi:Nat}{qs:List Rat}(h:LIn w ⟨ao,n,c⟩ qs lo hi){k:Nat}(hk:k<n):∃ b off r,ao=some ⟨b,off,none⟩∧b<w.heap.size∧RAt w b (off+k*3) r∧aA w r (qs.getD k 0):=h.can.celx hk
abbrev MT(x:RH×SH):Value:=.tuple #[x.1.v,x.2.v]
theorem ck{S D:Nat}{p:List Rat}(hS:1≤S)(hD:0<D)(hl:D<W32 ^ S)(h:∀ x ∈ p,Fr S D x):SzL S p:=fun x hx=>(h x hx).sz hS hD hl
theorem gR{p:List Rat}{i:Nat}(hi:i<p.length):p.take (i+1)=p.take i++[p.getD i 0]:=by
 rw [List.take_add_one,List.getElem?_eq_getElem hi,nXd,List.getElem?_eq_getElem hi];rfl
theorem jz(ao:Option Addr)(n cap:Nat)(l:List Rat)(S D:Nat)(w:World)(h:cN w ⟨ao,n,cap⟩ l)(hn:n≤1000000)(hS:1≤S)(hS2:S≤30000000)(hD:0<D)(hl:D<W32 ^ S)(hf:∀ x ∈ l,Fr S D x) :
  ar 172 [.slice ao n cap] w MT (fun x w'=>aA w' x.1 (aR l)∧cJ w.heap.size w' x.2 (ay l)):=by
 obtain ⟨i0,hi0,hz0,hz1,hz2⟩:=info_parts ii;have HX:=Hi (Ext.refl w);have LP:=Hi h;have hle:=h.le;have hmx:=h.max;have Hlen:=Hi h.len;simp only at hle hmx Hlen;have HSz:=Hi (ck hS hD hl hf);clear h;unfold ar;go_enter Tryz.func172,Tryz.ntmps172
 go_upto_region 1 with fail
 refine nmA ?_;intro w1 hE B2 hz_w1 hr_w1;replace HX:=hE.tr HX;have hs_w1:=hE.size;replace b_B2:=bX3 B2
 go_wp2_with fail
 refine cM (dS ao n cap l _ (LP.out.ext HX.out)) fun x2 w2 hE G2=>?_
 refine mV2 hE ?_ B2 HX;clear B2 HX;intro B2 HX;have hs_w2:=hE.size;replace b_B2:=bX3 B2;obtain ⟨q1,q2⟩:=G2.out;obtain ⟨P,hP⟩:∃ P,P=(tz l).length:=⟨_,rfl⟩;obtain ⟨p,hp⟩:∃ p,p=tz l:=⟨_,rfl⟩;have LQ:Hid (cN w ⟨ao,P,cap⟩ p):=Hi (by rw [hp,q1,hP];exact LP.out.take q2);have HPl:Hid (p.length=P):=Hi (by rw [hp,hP]);have HM:Hid (aR l=bj p):=Hi (by rw [hp];rfl);have HSL:Hid (ay l=p.map (· / bj p)):=Hi (by rw [hp];rfl);have HM0:Hid (p≠[]→bj p≠0):=Hi (fun h0=>by
  rw [hp] at h0 ⊢;have:=bs h0;exact fun h1=>by rw [show aR l=0 from h1] at this;exact absurd this Rat.lt_irrefl)
 have HFp:Hid (∀ x ∈ p,Fr S D x):=Hi (fun x hx=>hf x (by rw [hp,q1] at hx;exact List.mem_of_mem_take hx));have hPn:P≤n:=zo;rw [←hP];clear hP hp q1 q2 G2 hf HSz Hlen;clear LP
 go_wp2_with fail
 refine cM (bO 0 _ dZ dZ) fun x3 w3 hE G3=>?_
 refine mV2 hE ?_ B2 HX;clear B2 HX;intro B2 HX;have hs_w3:=hE.size;replace b_B2:=bX3 B2
 go_upto_region 3 with fail
 refine nmA ?_;intro w4 hE B4 hz_w4 hr_w4;refine mV3 hE ?_ G3 B2 HX;clear G3 B2 HX;intro G3 B2 HX;have hs_w4:=hE.size;replace b_B2:=bX3 B2;replace b_B4:=bX3 B4;obtain ⟨b2,hb2⟩:∃ b2,b2=w.heap.size:=⟨_,rfl⟩;obtain ⟨b4,hb4⟩:∃ b4,b4=w3.heap.size:=⟨_,rfl⟩;have hbw:w.heap.size≤b2:=zo;have hb24:b2≠b4:=zo;have hb4w:w.heap.size≤b4:=zo;rw [←hb2] at B2 ⊢;rw [←hb4] at B4 ⊢;clear hb2 hb4 b_B2 b_B4;go_wp2
 go_loopg [15] P (fun g v wr=>∃ (i:Nat) (m:RH),i+g=P∧v=.int .i64 (i:Nat)∧Ext w wr∧wr.heap[b2]?=some (.cells #[.bool false,.slice none 0 0,.slice none 0 0] 37 (0,0))∧wr.heap[b4]?=some (.cells #[.bool m.neg,.slice m.a m.n m.c,.slice m.b m.m m.d] 37 (0,0))∧aA wr m (bj (p.take i)))
 case atStart=>exact ⟨0,x3,zo,rfl,HX.out,B2.out,B4.out,G3.out⟩
 case round =>
  obtain ⟨i,m,hi,rfl,g1,g3,g4,g5⟩:=hrel;obtain ⟨mn,ma,ml,mc,mb,mm,md⟩:=m;clear HX B2 B4 G3;have HX:=Hi g1;have B2:=Hi g3;have B4:=Hi g4;have HM2:=Hi g5;clear g1 g3 g4 g5;replace b_B2:=bX3 B2;replace b_B4:=bX3 B4;by_cases h0:gk=0
  case neg =>
   have hin:(i:Int)<P:=zo;obtain ⟨b,off,r,hao,hbl,⟨hc1,hc2,hc3⟩,hPc⟩:=(LQ.out.ext HX.out).cells' (k:=i) zo;obtain ⟨rneg,ra,rn,rc,rb,rm,rd⟩:=r;simp only at hc1 hc2 hc3;have HC:=Hi hPc;clear hPc;have HAO:=Hi hao;subst hao
   go_upto_region 6 with fail
   clear hc1 hc2 hc3;have hb4r:b4<wr.heap.size:=b_B4.2.2;refine nmA ?_;intro w6 hE B6 hz_w6 hr_w6;refine mV5 hE ?_ HX B2 B4 HM2 HC;clear HX B2 B4 HM2 HC;intro HX B2 B4 HM2 HC;have hs_w6:=hE.size;replace b_B2:=bX3 B2;replace b_B4:=bX3 B4;replace b_B6:=bX3 B6;have Zm:Hid (Sz S (bj (p.take i))):=Hi ((iE fun x hx=>HFp.out x (List.mem_of_mem_take hx)).sz hS hD hl);have Zc:Hid (Sz S (p.getD i 0)):=Hi ((ck hS hD hl HFp.out).at (by rw [HPl.out];omega))
   go_wp2_with fail
   refine cM (pA ⟨mn,ma,ml,mc,mb,mm,md⟩ ⟨rneg,ra,rn,rc,rb,rm,rd⟩ (bj (p.take i)) (p.getD i 0) S _ HM2.out HC.out Zm.out Zc.out zo) fun x7 w7 hE G7=>?_
   refine mV6 hE ?_ B6 HX B2 B4 HM2 HC;clear B6 HX B2 B4 HM2 HC;intro B6 HX B2 B4 HM2 HC;have hs_w7:=hE.size;replace b_B2:=bX3 B2;replace b_B4:=bX3 B4;replace b_B6:=bX3 B6
   go_upto_region 7 with fail
   refine aN B4.out rfl ?_;intro w8 T;replace HX:=Hi (T.ext HX.out zo);replace B2:=Hi (T.rest _ _ zo B2.out);replace B4:=Hi (T.bx);replace HM2:=Hi (HM2.out.keep T.keep);replace HC:=Hi (HC.out.keep T.keep);replace B6:=Hi (T.rest _ _ zo B6.out);replace G7:=Hi (G7.out.keep T.keep);have hs_w8:=nle T.size;have hr_w8:=nle T.size.symm;clear T;replace b_B2:=bX3 B2;replace b_B4:=bX3 B4;replace b_B6:=bX3 B6;have HMn:Hid (aA w8 x7 (bj (p.take (i+1)))):=Hi (by rw [gR (by rw [HPl.out];omega),eN];exact G7.out);go_wp2
   go_roundg (gk-1)
   case measure=>omega
   case rel=>exact ⟨i+1,x7,zo,by go_num,HX.out,B2.out,B4.out,HMn.out⟩
  subst h0;obtain rfl:i=P:=by omega
  have hin:¬ (i:Int)<i:=zo;have HM3:Hid (aA wr ⟨mn,ma,ml,mc,mb,mm,md⟩ (bj p)):=Hi (by
   have:=HM2.out;rw [nXm (by rw [HPl.out];exact nXe _)] at this;exact this)
  clear HM2;have hXr:=HX.out.size;have hb2r:b2<wr.heap.size:=b_B2.2.2;have hb4r:b4<wr.heap.size:=b_B4.2.2
  go_upto_region 9 with (refine aB rfl (.tmp 24) (.tmp 24) 24 rfl 37 i0 (RH.v default) 3 Tryz.underlying24 hi0 hz0 hz1 _ _ i rfl rfl zo zo (by rw [hz2];omega) zo ?_;intro y1 hnew hE)
  have KB:=Hi (RBk.make rfl hnew);clear hnew;refine mV4 hE ?_ HX B2 B4 HM3;clear HX B2 B4 HM3;intro HX B2 B4 HM3;have hs_y1:=hE.size;replace b_B2:=bX3 B2;replace b_B4:=bX3 B4;obtain ⟨L,hL⟩:∃ L,L=wr.heap.size:=⟨_,rfl⟩;have hLw:w.heap.size≤L:=zo;have hL2:b2≠L:=zo;have hL4:b4≠L:=zo;rw [←hL] at KB ⊢;clear hL hs_y1 b_B2 b_B4;go_wp2
  go_loopg [28] i (fun g v wr=>∃ (j:Nat) (rs:List RH),j+g=i∧v=.int .i64 (j:Nat)∧Ext w wr∧wr.heap[b2]?=some (.cells #[.bool false,.slice none 0 0,.slice none 0 0] 37 (0,0))∧wr.heap[b4]?=some (.cells #[.bool mn,.slice ma ml mc,.slice mb mm md] 37 (0,0))∧aA wr ⟨mn,ma,ml,mc,mb,mm,md⟩ (bj p)∧RBk wr L rs #[]∧rs.length=i∧iq wr rs ((p.take j).map (· / bj p)))
  case atStart=>exact ⟨0,_,zo,rfl,HX.out,B2.out,B4.out,HM3.out,KB.out,by simp,fun j hj=>by simp at hj⟩
  case round =>
   obtain ⟨j,rs,hj,rfl,g1,g3,g4,g5,g6,g7,g8⟩:=hrel;clear HX B2 B4 HM3 KB;have HX:=Hi g1;have B2:=Hi g3;have B4:=Hi g4;have HM3:=Hi g5;have KB:=Hi g6;have HRl:=Hi g7;have PC:=Hi g8;clear g1 g3 g4 g5 g6 g7 g8;replace b_B2:=bX3 B2;replace b_B4:=bX3 B4
   try clear f_KB l_KB
   have f_KB:=af KB.out;have l_KB:=(nXb.1 KB.out).1;by_cases h0:gk=0
   case neg =>
    have hin2:(j:Int)<i:=zo;obtain ⟨b,off,r,hao,hbl,⟨hc1,hc2,hc3⟩,hPc⟩:=(LQ.out.ext HX.out).cells' (k:=j) zo;obtain ⟨rneg,ra,rn,rc,rb,rm,rd⟩:=r;simp only at hc1 hc2 hc3;have HC:=Hi hPc;clear hPc;subst hao
    go_upto_region 12 with fail
    clear hc1 hc2 hc3;have hLr:L<wr.heap.size:=l_KB;refine nmA ?_;intro y6 hE B9 hz_y6 hr_y6;refine mV7 hE ?_ HX B2 B4 HM3 KB PC HC;clear HX B2 B4 HM3 KB PC HC;intro HX B2 B4 HM3 KB PC HC;have hs_y6:=hE.size;replace b_B2:=bX3 B2;replace b_B4:=bX3 B4
    try clear f_KB l_KB
    have f_KB:=af KB.out;have l_KB:=(nXb.1 KB.out).1;replace b_B9:=bX3 B9;have Zm:Hid (Sz S (bj p)):=Hi ((iE HFp.out).sz hS hD hl);have Zc:Hid (Sz S (p.getD j 0)):=Hi ((ck hS hD hl HFp.out).at (by rw [HPl.out];omega));have Hm0:Hid (bj p≠0):=Hi (HM0.out fun h=>by have:=HPl.out;rw [h] at this;simp at this;omega)
    go_wp2_with fail
    refine cM (cx ⟨rneg,ra,rn,rc,rb,rm,rd⟩ ⟨mn,ma,ml,mc,mb,mm,md⟩ (p.getD j 0) (bj p) _ HC.out (HM3.out.raw Zm.out zo) Hm0.out) fun x7 w7 hE G7=>?_
    refine mV8 hE ?_ B9 HX B2 B4 HM3 KB PC HC;clear B9 HX B2 B4 HM3 KB PC HC;intro B9 HX B2 B4 HM3 KB PC HC;have hs_w7:=hE.size;replace b_B2:=bX3 B2;replace b_B4:=bX3 B4
    try clear f_KB l_KB
    have f_KB:=af KB.out;have l_KB:=(nXb.1 KB.out).1;replace b_B9:=bX3 B9;obtain ⟨f1,f2,f3⟩:=RBk.at (re:=#[]) KB.out (k:=j) (by rw [HRl.out];omega)
    go_upto_region 13 with fail
    refine eK (k:=j) KB.out rfl (by rw [HRl.out];omega) ?_;intro y8 T;clear f1 f2 f3;replace HX:=Hi (T.ext HX.out zo);replace B2:=Hi (T.rest _ _ zo B2.out);replace B4:=Hi (T.rest _ _ zo B4.out);replace HM3:=Hi (HM3.out.keep T.keep);replace PC:=Hi (PC.out.keep T.keep);replace KB:=Hi (T.bx);replace HC:=Hi (HC.out.keep T.keep);replace B9:=Hi (T.rest _ _ zo B9.out);replace G7:=Hi (G7.out.keep T.keep);have hs_y8:=nle T.size;have hr_y8:=nle T.size.symm;clear T;replace b_B2:=bX3 B2;replace b_B4:=bX3 B4
    try clear f_KB l_KB
    have f_KB:=af KB.out;have l_KB:=(nXb.1 KB.out).1;replace b_B9:=bX3 B9;replace PC:=Hi (PC.out.snoc (x:=x7) (i:=j) (by rw [nXl,nXk,HPl.out];omega) (by rw [HRl.out];omega) G7.out);have HRp:Hid ((p.take j).map (· / bj p)++[p.getD j 0 / bj p]=(p.take (j+1)).map (· / bj p)):=Hi (by rw [gR (by rw [HPl.out];omega),List.map_append];rfl);rw [HRp.out] at PC;go_wp2
    go_roundg (gk-1)
    case measure=>omega
    case rel=>exact ⟨j+1,_,zo,by go_num,HX.out,B2.out,B4.out,HM3.out,KB.out,by rw [nXo];exact HRl.out,PC.out⟩
   subst h0;obtain rfl:j=i:=by omega
   have hin:¬ (j:Int)<j:=zo;have HO:Hid (aH wr L (ay l)):=Hi (by
    have:=PC.out;rw [nXm (by rw [HPl.out];exact nXe _),←HSL.out] at this;exact this.row KB.out HRl.out (by rw [HSL.out,nXl,HPl.out]))
   have HOl:Hid ((ay l).length=j):=Hi (by rw [HSL.out,nXl,HPl.out]);clear KB;clear PC;go_wp2;refine aN (F:=fun W=>bodyPost _ _ _ _ _ W) B2.out rfl ?_;intro y9 T;replace HX:=Hi (T.ext HX.out zo);replace B2:=Hi (T.bx);replace B4:=Hi (T.rest _ _ zo B4.out);replace HM3:=Hi (HM3.out.keep T.keep);replace HO:=Hi (HO.out.put T zo);have hs_y9:=nle T.size;have hr_y9:=nle T.size.symm;clear T;replace b_B2:=bX3 B2;replace b_B4:=bX3 B4;exact nXa (v:=MT (⟨mn,ma,ml,mc,mb,mm,md⟩,⟨some ⟨L,0,none⟩,j,j⟩)) (by simp [results,Tryz.results172,go_sem,MT,b_B2.1]) rfl
    ⟨(⟨mn,ma,ml,mc,mb,mm,md⟩,⟨some ⟨L,0,none⟩,j,j⟩),rfl,HX.out,by rw [HM.out];exact HM3.out,L,hLw,by rw [HOl.out],HO.out⟩
theorem jA(ao:Option Addr)(n cap:Nat)(l:List Rat)(S D:Nat)(w:World)(h:bg w ⟨ao,n,cap⟩ l)(hn:n≤1000000)(hS:1≤S)(hS2:S≤30000000)(hD:0<D)(hl:D<W32 ^ S)(hf:∀ x ∈ l,Fr S D x) :
  ar 172 [.slice ao n cap] w MT (fun x w'=>aA w' x.1 (aR l)∧cJ w.heap.size w' x.2 (ay l)):=jz ao n cap l S D w (h.raw (ck hS hD hl hf) zo) hn hS hS2 hD hl hf
theorem ky{w:World}{b off n:Nat}{rs:List RH}(hl:rs.length=n)(hc:∀ k,k<n→RAt w b (off+k*3) (rs.getD k default)):∀ j u,(av rs)[j]?=some u→w.cell? ((⟨b,off,none⟩:Addr).add j)=some u:=by
 intro j u hj;have hlt:j<(av rs).length:=(List.getElem?_eq_some_iff.1 hj).1;rw [aC,hl] at hlt;obtain ⟨k,i,hk,hi,rfl⟩:∃ k i,k<n∧i<3∧j=k*3+i:=⟨j / 3,j % 3,zo,zo,zo⟩;rw [fv rs zo hi] at hj;obtain ⟨h1,h2,h3⟩:=hc k hk;rw [ie];have hi3:i=0∨i=1∨i=2:=by omega
 rcases hi3 with rfl|rfl|rfl
 ·have:u=.bool (rs.getD k default).neg:=by simpa [jy] using hj.symm
  rw [this,←h1];congr 2
 ·have:u=.slice (rs.getD k default).a (rs.getD k default).n (rs.getD k default).c:=by simpa [jy] using hj.symm
  rw [this,←h2];congr 2
 ·have:u=.slice (rs.getD k default).b (rs.getD k default).m (rs.getD k default).d:=by simpa [jy] using hj.symm
  rw [this,←h3];congr 2
theorem fs{w:World}{ops:Array Oper}{rest:List Oper}{o:Oper}{a:Act}{Q:Exit→Act→World→Prop}(hgd:o.guard=none)(s x:Operand)(T:TypeId)(hT:Tryz.prog.underlying T=some (.slice 37))
 (ho:o.op=.call { callee:=.builtin .append,args:=#[s,x],argTypes:=#[T,T] })(N:Nat)(hs:a.eval s=.slice (some ⟨N,0,none⟩) 0 0)(b off n c:Nat)(rs:List RH)(hx:a.eval x=.slice (some ⟨b,off,none⟩) n c)
 (hl:rs.length=n)(hn0:0<n)(hn:n≤1073741824)(hc:∀ k,k<n→RAt w b (off+k*3) (rs.getD k default))
 (h:∀ w' cap re,n≤cap→cap≤9223372036854775807→Ext w w'→RBk w' w.heap.size rs re→re.toList.all dL=true→wpList Tryz.prog ops Q rest (a.put o.dst (.slice (some ⟨w.heap.size,0,none⟩) n cap)) w'):wpList Tryz.prog ops Q (o :: rest) a w:=by
 obtain ⟨i0,hi0,hz0,hz1,hz2⟩:=info_parts ii;have hgc:∀ need old,need≤9223372036854775807→need≤grownCap w need old 37∧grownCap w need old 37≤9223372036854775807:=fun need old h=>⟨grownCap_ge _ _ _ _,by have:=grownCap_le_maxLen w need old 37 (by simpa [maxLen] using h);simpa [maxLen] using this⟩
 have hr:=run_append_grow (P:=Tryz.prog) w T o.type _ i0 _ hT hi0 hz0 ⟨N,0,none⟩ 0 0 [] (by simp) (fun j u hj=>by simp at hj) ⟨b,off,none⟩ n c (av rs) (by rw [aC,hl,hz1]) (ky hl hc) zo zo (growslice_fits zo (by rw [hz2];omega));rw [show ([]:List Value).toArray++(av rs).toArray=(av rs).toArray from by simp] at hr;simp only [Nat.zero_add] at hr;obtain ⟨g1,g2⟩:=hgc n 0 zo;have he:Ext w (w.drew.alloc (.cells ((av rs).toArray++Builtin.zeroCells (RH.v default).cells (grownCap w n 0 37-n)) 37)):=(Ext.drew w).trans (Ext.alloc _ _);have hb:RBk (w.drew.alloc (.cells ((av rs).toArray++Builtin.zeroCells (RH.v default).cells (grownCap w n 0 37-n)) 37)) w.heap.size rs (Builtin.zeroCells (RH.v default).cells (grownCap w n 0 37-n)):=by
  unfold RBk;exact heap_alloc_new w.drew _
 have hh:=h _ _ _ g1 g2 he hb (fe _);refine wpList_plain hgd fun K hK=>?_
 unfold Oper.wp;simp [execOp,ho,resolve,invoke,builtin,hs,hx,hr,Result.andThen];exact hK _ _ hh
theorem EI(w:World)(a:Option Addr)(n c:Nat):(binOp .eql 24 (.slice a n c) (.slice none 0 0)).run Tryz.prog w=.ok (.bool a.isNone) w:=by
 have h:∀ d:Nat,(Op.equalIn (d+1) 24 (.slice a n c) (.slice none 0 0)).run Tryz.prog w=.ok a.isNone w:=fun d=>by
  cases a <;> simp [Op.equalIn,run_underlying Tryz.underlying24]
 simp only [binOp];simp [Op.equal,Op.maxDepth,h]
attribute [local go_sem] EI
theorem l8(ao:Option Addr)(n cap:Nat)(l:List Rat)(w:World)(h:bg w ⟨ao,n,cap⟩ l)(hn:n≤1000000)(h0:0<n) :
  ar 200 [.slice ao n cap] w SH.v (fun x w'=>∃ L c,w.heap.size≤L∧n≤c∧c≤9223372036854775807∧x=⟨some ⟨L,0,none⟩,n,c⟩∧aH w' L l):=by
 obtain ⟨rs,h1,h2⟩:=h;have hl:rs.length=n:=h1.len;have H2:=Hi h2;obtain ⟨b,off,rfl,hc⟩:∃ b off,ao=some ⟨b,off,none⟩∧∀ k,k<n→RAt w b (off+k*3) (rs.getD k default):=by
  rcases h1.at' with h3|⟨b,off,e,hc⟩
  ·have h3:n=0:=h3;omega
  ·exact ⟨b,off,e,hc⟩
 have HC:=Hi hc;have hE:Hid (Ext w (w.alloc (.cells #[] 37))):=Hi (Ext.alloc _ _);clear h1 h2 hc;unfold ar;go_enter Tryz.func200,Tryz.ntmps200
 go_wp2_with (at_builtin;refine fs rfl (.tmp 5) (.tmp 6) 24 Tryz.underlying24 rfl w.heap.size rfl b off n cap rs rfl hl h0 zo (fun k hk=>(HC.out k hk).ext hE.out) ?_;intro w' c re g1 g2 g3 g4 g5)
 rw [nXc] at g4
 go_ret
 exact ⟨⟨some ⟨w.heap.size+1,0,none⟩,n,c⟩,rfl,hE.out.trans g3,_,c,Nat.le_succ _,g1,g2,rfl,rs,re,g4,g5,H2.out.can_ext (hE.out.trans g3)⟩
theorem mH(ao:Option Addr)(n cap:Nat)(qs:List Rat)(w:World)(h:cN w ⟨ao,n,cap⟩ qs) :
  ar 126 [.slice ao n cap] w (fun _:Unit=>.slice ao (tz qs).length cap) (fun _ _=>tz qs=qs.take (tz qs).length∧(tz qs).length≤n):=by
 have H:=Hi h;have hle:=h.le;have hmx:=h.max;have Hlen:=Hi h.len;simp only at hle hmx Hlen;clear h;unfold ar
 change Calls Tryz.prog _ #[.slice ao n cap] w _
 go_enter Tryz.func126,Tryz.ntmps126;go_wp2
 go_loopg [3] n (fun g nv wr=>nv=.int .i64 (g:Nat)∧g≤n∧tz qs=tz (qs.take g)∧Ext w wr)
 case atStart=>exact ⟨rfl,nXe _,by rw [nXm (by rw [Hlen.out];exact nXe _)],Ext.refl _⟩
 case round =>
  obtain ⟨rfl,hg,hs,hE⟩:=hrel;have Hs:=Hi hs;have HE:=Hi hE;clear hs hE;by_cases h0:gk=0
  ·subst h0;go_wp2
   go_ret
   have e:tz qs=[]:=by rw [Hs.out];rfl
   refine ⟨(),?_,HE.out,?_,?_⟩
   ·rw [e];simp
   ·rw [e];simp
   ·rw [e];simp
  ·obtain ⟨k,rfl⟩:∃ m,gk=m+1:=⟨gk-1,zo⟩;obtain ⟨b,off,r,hao,⟨hc1,hc2,hc3⟩,hP⟩:=(H.out.ext HE.out).at (k:=k) zo;subst hao;have hbl:b<wr.heap.size:=nXq _ _ hc1;obtain ⟨rneg,ra,rn,rc,rb,rm,rd⟩:=r;simp only at hc1 hc2 hc3;have HP:=Hi hP;clear hP h0
   go_wp2_with fail
   refine Calls.mono (dV ⟨rneg,ra,rn,rc,rb,rm,rd⟩ _ _ HP.out) ?_;rintro e w1 ⟨x1,rfl,hE1,-⟩;replace HE:=Hi (HE.out.trans hE1);have HZ:=Hi (fF (qs.getD k 0));obtain ⟨c,hc⟩:∃ c,c=cG (qs.getD k 0) 0:=⟨_,rfl⟩;rw [←hc] at HZ ⊢;clear hc hE1 HP hc1 hc2 hc3 hbl;by_cases hz:c=0
   ·subst hz;have Hz0:=Hi (HZ.out.1 rfl);clear HZ;go_wp2
    go_roundg k
    case measure=>omega
    case rel=>exact ⟨by go_num,zo,by rw [Hs.out,ju (by rw [Hlen.out];omega) Hz0.out],HE.out⟩
   ·have hzb:(c == 0)=false:=by simpa using hz
    have HF:Hid (tz qs=qs.take (k+1)):=Hi (by rw [Hs.out,o3 (by rw [Hlen.out];omega) (fun h=>hz (HZ.out.2 h))]);clear HZ hz;go_wp2
    go_ret
    have e:(tz qs).length=k+1:=by rw [HF.out,nXk,Hlen.out];omega
    refine ⟨(),?_,HE.out,?_,?_⟩
    ·rw [e];rfl
    ·rw [e];exact HF.out
    ·omega
theorem jw(t:RH)(q:Rat)(w:World)(h:aA w t q):ar 125 [t.v] w PT (fun x w'=>aA w' x.1 (q.num:Rat)∧aA w' x.2 ((q.den:Int):Rat)):=by
 obtain ⟨neg,a,n,c,b,m,d⟩:=t;have H:=Hi h;have HX:=Hi (Ext.refl w);clear h;unfold ar;go_enter Tryz.func125,Tryz.ntmps125
 go_upto_region 1 with fail
 refine sO ?_;intro w1 hE B1 B2 B3 hz_w1 hr_w1;replace HX:=hE.tr HX;have hs_w1:=hE.size;replace b_B1:=bX3 B1;replace b_B2:=bX3 B2;replace b_B3:=bX3 B3
 go_upto_region 2 with fail
 refine nmA ?_;intro w2 hE BO hz_w2 hr_w2;refine mV4 hE ?_ B1 B2 B3 HX;clear B1 B2 B3 HX;intro B1 B2 B3 HX;have hs_w2:=hE.size;replace b_B1:=bX3 B1;replace b_B2:=bX3 B2;replace b_B3:=bX3 B3;replace b_BO:=bX3 BO
 go_region
 refine mT B2.out rfl B3.out rfl zo ?_;intro y3 y4 y5 T3 T4 E5;have HY:Hid (Ext w y5):=Hi ((T4.ext (T3.ext HX.out zo) zo).trans E5);have HO:=Hi (E5.block (T4.rest _ _ zo (T3.rest _ _ zo BO.out)));have HA:=Hi (H.out.ext HY.out);have C2:=Hi (E5.block (T4.rest _ _ zo T3.bx));have C3:=Hi (E5.block T4.bx);have c_C2:=ae C2.out;have c_C3:=ae C3.out;have f_C2:=af C2.out;have f_C3:=af C3.out;clear T3 T4 E5 b_B1 b_B2 b_B3 b_BO;go_wp2;exact nXa (v:=PT (⟨neg,a,n,c,some ⟨w1.heap.size,0,none⟩,1,1⟩,⟨false,b,m,d,some ⟨w1.heap.size,0,none⟩,1,1⟩)) (by simp [results,Tryz.results125,go_sem,PT,c_C2,c_C3]) rfl
  ⟨(⟨neg,a,n,c,some ⟨w1.heap.size,0,none⟩,1,1⟩,⟨false,b,m,d,some ⟨w1.heap.size,0,none⟩,1,1⟩),rfl,HY.out,
   ⟨by rw [Rat.num_intCast];exact HA.out.1,by rw [Rat.num_intCast];exact HA.out.2.1,by rw [Rat.den_intCast];exact i7 HO.out⟩,
   ⟨by rw [Rat.num_intCast];exact (decide_eq_false zo).symm,by rw [Rat.num_intCast];exact HA.out.2.2,by rw [Rat.den_intCast];exact i7 HO.out⟩⟩
abbrev IvV(x:RH×RH):Value:=.agg #[.bool x.1.neg,.slice x.1.a x.1.n x.1.c,.slice x.1.b x.1.m x.1.d,.bool x.2.neg,.slice x.2.a x.2.n x.2.c,.slice x.2.b x.2.m x.2.d]
def IvC(w:World)(x:RH×RH)(a b:Rat):Prop:=aA w x.1 a∧aA w x.2 b
theorem IvC.ext{w w':World}{x:RH×RH}{a b:Rat}(h:IvC w x a b)(he:Ext w w'):IvC w' x a b:=⟨h.1.ext he,h.2.ext he⟩
instance {w w':World} {x:RH×RH} {a b:Rat}:Go.Front.Mv w w' (IvC w x a b) (IvC w' x a b):=⟨fun e h=>IvC.ext h e⟩

def loV(a b:Rat):Rat:=if b<a then b else a
def hiV(a b:Rat):Rat:=if b<a then a else b
theorem sV(a b:Rat):loV a b≤hiV a b:=by
 unfold loV hiV;by_cases h:b<a
 ·rw [if_pos h,if_pos h];grind
 ·rw [if_neg h,if_neg h];grind
theorem jD{a b:Rat}(h:a≤b):loV a b=a:=if_neg (by grind)
theorem je{a b:Rat}(h:a≤b):hiV a b=b:=if_neg (by grind)
theorem oo(a b:Rat):loV a b=a∨loV a b=b:=by unfold loV;split <;> simp
theorem oD(a b:Rat):hiV a b=a∨hiV a b=b:=by unfold hiV;split <;> simp
theorem pX{a b:Rat}(h:b<a):cG a b=1:=by unfold cG;rw [if_neg (by grind),if_neg (by grind)]
theorem iI{a b:Rat}(h:¬ b<a):cG a b≤0:=by
 unfold cG;split
 ·omega
 ·split
  ·omega
  ·exfalso;grind
theorem dC{w1:World}{b:Nat}{T:TypeId}{c0 c1 c2 c3 c4 c5 v0 v1 v2 v3 v4 v5:Value}{F:World→Prop}(hb:w1.heap[b]?=some (.cells #[c0,c1,c2,c3,c4,c5] T (0,0)))(hn:#[c0,c1,c2,c3,c4,c5].toList.all dL=true)(h:∀ w2,cT w1 b T #[v0,v1,v2,v3,v4,v5] w2→F w2) :
  F ((((((w1.setCell ⟨b,0,none⟩ v0).setCell ⟨b,1,none⟩ v1).setCell ⟨b,2,none⟩ v2).setCell ⟨b,3,none⟩ v3).setCell ⟨b,4,none⟩ v4).setCell ⟨b,5,none⟩ v5) :=
 h _ (cT.of (nXb.1 hb).1 (ai hb hn) ((((((aL.setCell w1 ⟨b,0,none⟩ v0).trans (aL.setCell _ ⟨b,1,none⟩ v1)).trans (aL.setCell _ ⟨b,2,none⟩ v2)).trans (aL.setCell _ ⟨b,3,none⟩ v3)).trans (aL.setCell _ ⟨b,4,none⟩ v4)).trans (aL.setCell _ ⟨b,5,none⟩ v5)) (by simp [World.setCell])
  (ax (ax (ax (ax (ax (ax hb 0 v0) 1 v1) 2 v2) 3 v3) 4 v4) 5 v5))
theorem gX(s t:RH)(a b:Rat)(w:World)(hs:aX w s a)(ht:aX w t b):ar 141 [IvV (s,t)] w PT (fun x w'=>aX w' x.1 (loV a b)∧aX w' x.2 (hiV a b)):=by
 have HX:=Hi (Ext.refl w);have HS:=Hi hs;have HT:=Hi ht;clear hs ht;unfold ar;go_enter Tryz.func141,Tryz.ntmps141;obtain ⟨sn,sa,sl,sc,sb,sm,sd⟩:=s;obtain ⟨tn,ta,tl,tc,tb,tm,td⟩:=t
 go_upto_region 1 with fail
 refine sO ?_;intro w1 hE B1 B2 B3 hz_w1 hr_w1;refine mV3 hE ?_ HX HS HT;clear HX HS HT;intro HX HS HT;have hs_w1:=hE.size;replace b_B1:=bX3 B1;replace b_B2:=bX3 B2;replace b_B3:=bX3 B3
 go_wp2_with fail
 refine cM (bS ⟨sn,sa,sl,sc,sb,sm,sd⟩ ⟨tn,ta,tl,tc,tb,tm,td⟩ a b _ HS.out HT.out) fun x8 w8 hE _=>?_
 refine mV6 hE ?_ B1 B2 B3 HX HS HT;clear B1 B2 B3 HX HS HT;intro B1 B2 B3 HX HS HT;have hs_w8:=hE.size;replace b_B1:=bX3 B1;replace b_B2:=bX3 B2;replace b_B3:=bX3 B3;by_cases h:b<a
 ·have hlo:Hid (loV a b=b∧hiV a b=a):=Hi ⟨if_pos h,if_pos h⟩;rw [pX h];clear h
  go_upto_region 2 with fail
  go_region
  refine mT B2.out rfl B3.out rfl zo ?_;intro y3 y4 y5 T3 T4 E5;have HY:Hid (Ext w y5):=Hi ((T4.ext (T3.ext HX.out zo) zo).trans E5);have HS5:=Hi (((HS.out.keep T3.keep).keep T4.keep).ext E5);have HT5:=Hi (((HT.out.keep T3.keep).keep T4.keep).ext E5);have C2:=Hi (E5.block (T4.rest _ _ zo T3.bx));have C3:=Hi (E5.block T4.bx);have c_C2:=ae C2.out;have c_C3:=ae C3.out;clear T3 T4 E5 b_B1 b_B2 b_B3;go_wp2;exact nXa (v:=PT (⟨tn,ta,tl,tc,tb,tm,td⟩,⟨sn,sa,sl,sc,sb,sm,sd⟩)) (by simp [results,Tryz.results141,go_sem,PT,c_C2,c_C3]) rfl
   ⟨(⟨tn,ta,tl,tc,tb,tm,td⟩,⟨sn,sa,sl,sc,sb,sm,sd⟩),rfl,HY.out,by rw [hlo.out.1];exact HT5.out,by rw [hlo.out.2];exact HS5.out⟩
 ·have hlo:Hid (loV a b=a∧hiV a b=b):=Hi ⟨if_neg h,if_neg h⟩;have hc:=iI h;obtain ⟨c,e⟩:∃ c,c=cG a b:=⟨_,rfl⟩;rw [←e] at hc ⊢;have hc2:¬ 0<c:=zo;clear h e
  go_upto_region 3 with fail
  go_region
  refine mT B2.out rfl B3.out rfl zo ?_;intro y3 y4 y5 T3 T4 E5;have HY:Hid (Ext w y5):=Hi ((T4.ext (T3.ext HX.out zo) zo).trans E5);have HS5:=Hi (((HS.out.keep T3.keep).keep T4.keep).ext E5);have HT5:=Hi (((HT.out.keep T3.keep).keep T4.keep).ext E5);have C2:=Hi (E5.block (T4.rest _ _ zo T3.bx));have C3:=Hi (E5.block T4.bx);have c_C2:=ae C2.out;have c_C3:=ae C3.out;clear T3 T4 E5 b_B1 b_B2 b_B3;go_wp2;exact nXa (v:=PT (⟨sn,sa,sl,sc,sb,sm,sd⟩,⟨tn,ta,tl,tc,tb,tm,td⟩)) (by simp [results,Tryz.results141,go_sem,PT,c_C2,c_C3]) rfl
   ⟨(⟨sn,sa,sl,sc,sb,sm,sd⟩,⟨tn,ta,tl,tc,tb,tm,td⟩),rfl,HY.out,by rw [hlo.out.1];exact HS5.out,by rw [hlo.out.2];exact HT5.out⟩
theorem gW(s t:RH)(a b:Rat)(w:World)(hs:aX w s a)(ht:aX w t b):ar 124 [s.v,t.v] w IvV (fun x w'=>aA w' x.1 (loV a b)∧aA w' x.2 (hiV a b)):=by
 have HX:=Hi (Ext.refl w);have HS:=Hi hs;have HT:=Hi ht;clear hs ht;unfold ar;go_enter Tryz.func124,Tryz.ntmps124;obtain ⟨sn,sa,sl,sc,sb,sm,sd⟩:=s;obtain ⟨tn,ta,tl,tc,tb,tm,td⟩:=t
 go_upto_region 1 with fail
 refine sO ?_;intro w1 hE B2 B3 B4 hz_w1 hr_w1;refine mV3 hE ?_ HX HS HT;clear HX HS HT;intro HX HS HT;have hs_w1:=hE.size;replace b_B2:=bX3 B2;replace b_B3:=bX3 B3;replace b_B4:=bX3 B4
 go_wp2_with fail
 refine cM (gX ⟨sn,sa,sl,sc,sb,sm,sd⟩ ⟨tn,ta,tl,tc,tb,tm,td⟩ a b _ HS.out HT.out) fun x7 w7 hE G7=>?_
 refine mV6 hE ?_ B2 B3 B4 HX HS HT;clear B2 B3 B4 HX HS HT;intro B2 B3 B4 HX HS HT;have hs_w7:=hE.size;replace b_B2:=bX3 B2;replace b_B3:=bX3 B3;replace b_B4:=bX3 B4;obtain ⟨⟨ln,la,ll,lc,lb,lm,ld⟩,⟨hn,ha,hl,hc,hb,hm,hd⟩⟩:=x7;have HL:=Hi G7.out.1;have HH:=Hi G7.out.2;clear G7
 (try clear b_B2);clear B2
 (try clear b_B3);clear B3
 clear HS;clear HT
 go_upto_region 2 with fail
 refine eX ?_;intro w8 hE B5 B6 hz_w8 hr_w8;refine mV4 hE ?_ B4 HX HL HH;clear B4 HX HL HH;intro B4 HX HL HH;have hs_w8:=hE.size;replace b_B4:=bX3 B4;replace b_B5:=bX3 B5;replace b_B6:=bX3 B6;refine wpG 5 (fun opIx=>match opIx with
  | 1=>sR (loV a b)
  | 3=>sR (hiV a b)
  | _=>.quiet) (fun _=>[]) fun w0 he0 hz0 hc0 hf0=>?_
 refine wps he0 (fun w1 hW hG=>?_) fun x20=>?_
 ·exact spc [RH.v ⟨ln,la,ll,lc,lb,lm,ld⟩] Tryz.func145 (eG _ _ _ (HL.out.ext hW))
 refine qZ ?_;refine wps he0 (fun w1 hW hG=>?_) fun x21=>?_
 ·exact spc [RH.v ⟨hn,ha,hl,hc,hb,hm,hd⟩] Tryz.func145 (eG _ _ _ (HH.out.ext hW))
 refine qZ ?_;refine aq ?_;intro w9 hI;have hE:=he0.out.trans hI.ext;have G20:=gT (hI.facts 1);have G21:=gT (hI.facts 3);clear hI he0 hz0 hc0 hf0;refine mV6 hE ?_ B5 B6 B4 HX HL HH;clear B5 B6 B4 HX HL HH;intro B5 B6 B4 HX HL HH;have hs_w9:=hE.size;replace b_B4:=bX3 B4;replace b_B5:=bX3 B5;replace b_B6:=bX3 B6;simp only [pD];go_wp2;refine dC (F:=fun W=>bodyPost _ _ _ _ _ W) B4.out rfl ?_;intro w10 T;replace HX:=Hi (T.ext HX.out zo);replace B4:=Hi (T.bx);replace HL:=Hi (HL.out.keep T.keep);replace HH:=Hi (HH.out.keep T.keep);replace B5:=Hi (T.rest _ _ zo B5.out);replace B6:=Hi (T.rest _ _ zo B6.out);replace G20:=Hi (G20.out.keep T.keep);replace G21:=Hi (G21.out.keep T.keep);have hs_w10:=nle T.size;have hr_w10:=nle T.size.symm;clear T;replace b_B4:=bX3 B4;replace b_B5:=bX3 B5;replace b_B6:=bX3 B6;exact nXa (v:=IvV (x20,x21)) (by simp [results,Tryz.results124,go_sem,b_B4.1]) rfl ⟨(x20,x21),rfl,HX.out,G20.out,G21.out⟩
theorem cE(s t:RH)(a b:Rat)(w:World)(hs:aX w s a)(ht:aX w t b):ar 77 [IvV (s,t)] w IvV (fun x w'=>aA w' x.1 (loV a b)∧aA w' x.2 (hiV a b)):=by
 have HX:=Hi (Ext.refl w);have HS:=Hi hs;have HT:=Hi ht;clear hs ht;unfold ar;go_enter Tryz.func77,Tryz.ntmps77;obtain ⟨sn,sa,sl,sc,sb,sm,sd⟩:=s;obtain ⟨tn,ta,tl,tc,tb,tm,td⟩:=t
 go_upto_region 1 with fail
 refine eX ?_;intro w1 hE B1 B2 hz_w1 hr_w1;refine mV3 hE ?_ HX HS HT;clear HX HS HT;intro HX HS HT;have hs_w1:=hE.size;replace b_B1:=bX3 B1;replace b_B2:=bX3 B2
 go_wp2_with fail
 refine cM (gW ⟨sn,sa,sl,sc,sb,sm,sd⟩ ⟨tn,ta,tl,tc,tb,tm,td⟩ a b _ HS.out HT.out) fun x7 w7 hE G7=>?_
 refine mV5 hE ?_ B1 B2 HX HS HT;clear B1 B2 HX HS HT;intro B1 B2 HX HS HT;have hs_w7:=hE.size;replace b_B1:=bX3 B1;replace b_B2:=bX3 B2;have HL:=Hi G7.out.1;have HH:=Hi G7.out.2;clear G7;go_wp2;refine dC (F:=fun W=>bodyPost _ _ _ _ _ W) B2.out rfl ?_;intro w10 T;replace HX:=Hi (T.ext HX.out zo);replace HS:=Hi (HS.out.keep T.keep);replace HT:=Hi (HT.out.keep T.keep);replace B1:=Hi (T.rest _ _ zo B1.out);replace B2:=Hi (T.bx);replace HL:=Hi (HL.out.keep T.keep);replace HH:=Hi (HH.out.keep T.keep);have hs_w10:=nle T.size;have hr_w10:=nle T.size.symm;clear T;replace b_B1:=bX3 B1;replace b_B2:=bX3 B2;exact nXa (v:=IvV x7) (by simp [results,Tryz.results77,go_sem,b_B2.1]) rfl ⟨x7,rfl,HX.out,HL.out,HH.out⟩
theorem Fg:(Tryz.prog.info? 39).map (fun i=>(i.zero,i.size,i.bytes))=some (some (IvV (default,default)),6,112):=by kernel_rfl
def IBk(w:World)(L:Nat)(rs:List RH)(re:Array Value):Prop:=w.heap[L]?=some (.cells ((av rs).toArray++re) 39 (0,0))
theorem IBk.ext{w w':World}{L:Nat}{rs:List RH}{re:Array Value}(h:IBk w L rs re)(he:Ext w w'):IBk w' L rs re:=he.block h
instance {w w':World} {L:Nat} {rs:List RH} {re:Array Value}:Go.Front.Mv w w' (IBk w L rs re) (IBk w' L rs re):=⟨fun e h=>IBk.ext h e⟩

theorem IBk.lt{w:World}{L:Nat}{rs:List RH}{re:Array Value}(h:IBk w L rs re):L<w.heap.size:=(nXb.1 h).1
theorem IBk.noU{w:World}{L:Nat}{rs:List RH}{re:Array Value}(h:IBk w L rs re)(hre:re.toList.all dL=true):NoU w L :=
 ai h (by rw [Array.toList_append,List.all_append,hre,iA];rfl)
theorem IBk.cell{w:World}{L:Nat}{rs:List RH}{re:Array Value}(h:IBk w L rs re){k j:Nat}(hk:k<rs.length)(hj:j<3):w.cell? ⟨L,k*3+j,none⟩=(jy (rs.getD k default))[j]?:=by
 rw [ae h,←fv rs hk hj,Array.getElem?_append_left (by rw [List.size_toArray,aC];omega),List.getElem?_toArray]
theorem IBk.at{w:World}{L:Nat}{rs:List RH}{re:Array Value}(h:IBk w L rs re){k:Nat}(hk:k<rs.length):RAt w L (k*3) (rs.getD k default) :=
 ⟨h.cell (j:=0) hk dZ,h.cell (j:=1) hk dZ,h.cell (j:=2) hk dZ⟩
theorem lL(n:Nat):(Builtin.zeroCells (IvV (default,default)).cells n).toList.all dL=true:=by
 rw [List.all_eq_true];intro x hx;have h0:(IvV (default,default)).cells=#[.bool false,.slice none 0 0,.slice none 0 0,.bool false,.slice none 0 0,.slice none 0 0]:=by rfl
 rw [h0] at hx;simp [Builtin.zeroCells] at hx;obtain ⟨a,-,rfl⟩:=hx;have h7:a % 6=0∨a % 6=1∨a % 6=2∨a % 6=3∨a % 6=4∨a % 6=5:=by omega
 rcases h7 with h7|h7|h7|h7|h7|h7 <;> rw [h7] <;> rfl
def iL(w:World)(D:Nat→Prop)(v:Value)(n:Nat)(rs:List RH):Prop:=(v=.slice none 0 0∧rs=[]∧n=0)∨∃ L cap re,v=.slice (some ⟨L,0,none⟩) n cap∧D L∧IBk w L rs re∧rs.length=n*2∧n≤cap∧cap≤9223372036854775807∧rs.length*3+re.size=cap*6∧re.toList.all dL=true
theorem iL.nil(w:World)(D:Nat→Prop):iL w D (.slice none 0 0) 0 []:=Or.inl ⟨rfl,rfl,rfl⟩
theorem iL.ext{w w':World}{D:Nat→Prop}{v:Value}{n:Nat}{rs:List RH}(h:iL w D v n rs)(he:Ext w w'):iL w' D v n rs :=
 h.imp id fun ⟨L,cap,re,h1,h2,h3,h4⟩=>⟨L,cap,re,h1,h2,h3.ext he,h4⟩
instance {w w':World} {D:Nat→Prop} {v:Value} {n:Nat} {rs:List RH}:Go.Front.Mv w w' (iL w D v n rs) (iL w' D v n rs):=⟨fun e h=>iL.ext h e⟩

theorem iL.mono{w:World}{D D':Nat→Prop}{v:Value}{n:Nat}{rs:List RH}(h:iL w D v n rs)(hD:∀ k,k<w.heap.size→D k→D' k):iL w D' v n rs :=
 h.imp id fun ⟨L,cap,re,h1,h2,h3,h4⟩=>⟨L,cap,re,h1,hD _ h3.lt h2,h3,h4⟩
theorem mK(T ty:TypeId)(hT:Tryz.prog.underlying T=some (.slice 39))(w:World)(D:Nat→Prop)(v:Value)(n:Nat)(rs:List RH)(b off m c:Nat)(ns:List RH)(hown:iL w D v n rs)
   (hm:ns.length=m*2)(h0:0<m)(hN:∀ k,k<m*2→RAt w b (off+k*3) (ns.getD k default))(hl:n≤536870912)(hlm:m≤536870912)(hD:∀ k,w.heap.size≤k→D k) :
    ∃ L cap w',(Builtin.append_ #[T,T] ty #[v,.slice (some ⟨b,off,none⟩) m c]).run Tryz.prog w=.ok (.slice (some ⟨L,0,none⟩) (n+m) cap) w'∧iL w' D (.slice (some ⟨L,0,none⟩) (n+m) cap) (n+m) (rs++ns)∧aL D w w'∧dJ w w':=by
  obtain ⟨i0,hi0,hz0,hz1,hz2⟩:=info_parts Fg;have hnl:(av ns).length=m*i0.size:=by rw [aC,hz1,hm];omega
  have hcs:=ky (w:=w) (b:=b) (off:=off) hm hN;have hgc:∀ need old,need≤9223372036854775807→need≤grownCap w need old 39∧grownCap w need old 39≤9223372036854775807:=fun need old h=>⟨grownCap_ge _ _ _ _,by have:=grownCap_le_maxLen w need old 39 (by simpa [maxLen] using h);simpa [maxLen] using this⟩
  have hzs:(IvV (default,default)).cells.size=6:=by rfl
  rcases hown with ⟨rfl,rfl,rfl⟩|⟨L,cap,re,rfl,h1,h2,hlen,h3,h4,h5,h6⟩
  · have hr:=run_append_nil (P:=Tryz.prog) w T ty _ i0 _ hT hi0 hz0 ⟨b,off,none⟩ m c (av ns) hnl hcs h0 zo (by rw [hz2];omega)
    obtain ⟨g1,g2⟩:=hgc m 0 zo;have he:Ext w (w.drew.alloc (.cells ((av ns).toArray++Builtin.zeroCells (IvV (default,default)).cells (grownCap w m 0 39-m)) 39)):=(Ext.drew w).trans (Ext.alloc _ _);rw [Nat.zero_add,List.nil_append];refine ⟨_,_,_,hr,Or.inr ⟨_,_,_,rfl,hD _ (nXe _),heap_alloc_new w.drew _,hm,g1,g2,?_,lL _⟩,aL.of_ext he,br he⟩;rw [size_zeroCells,hzs,hm];omega
  · by_cases hroom:n+m≤cap
    · have hcz:((av rs).toArray++re).size=cap*6:=by rw [Array.size_append,List.size_toArray,aC,h5]
      have hr:=run_append_room (P:=Tryz.prog) w T ty _ i0 hT hi0 L n cap _ h2 ⟨b,off,none⟩ m c (av ns) hnl hcs (jx _) hroom (by rw [hcz,hz1,hnl,hz1];omega);have hnr:n*i0.size=(av rs).length:=by rw [aC,hz1,hlen];omega
      have e:(((av rs).toArray++re).toList.take (n*i0.size)++av ns++((av rs).toArray++re).toList.drop (n*i0.size+(av ns).length)).toArray=(av (rs++ns)).toArray++(re.toList.drop (av ns).length).toArray:=by
        rw [hnr,Array.toList_append,cz,List.take_left,←List.drop_drop,List.drop_left];apply Array.ext';simp
      rw [e] at hr;refine ⟨_,_,_,hr,Or.inr ⟨L,cap,_,rfl,h1,setRow_heap w L _ _ _ _ h2,by rw [nXi,hlen,hm];omega,hroom,h4,?_,?_⟩,⟨rfl,rfl,rfl,by simp,fun k hk hnd=>setRow_other w L k _ (fun e=>hnd (e ▸ h1))⟩,gV (h2.noU h6) fun k _ hk=>setRow_other w L k _ hk⟩
      · simp only [nXi,List.size_toArray,nYa,Array.length_toList]
        rw [hnl,hz1,hlen,hm];rw [hlen] at h5;omega
      · rw [List.all_eq_true] at h6 ⊢
        intro x hx;exact h6 x (List.mem_of_mem_drop (by simpa using hx))
    · have hr := run_append_grow (P := Tryz.prog) w T ty _ i0 _ hT hi0 hz0 ⟨L, 0, none⟩ n cap (av rs) (by rw [aC, hz1, hlen]; omega) (fun j u hj => by
          have hlt:j<(av rs).length:=(List.getElem?_eq_some_iff.1 hj).1;rw [cH,ae h2,Array.getElem?_append_left (by rw [List.size_toArray];exact hlt),List.getElem?_toArray];exact hj) ⟨b,off,none⟩ m c (av ns) hnl hcs zo zo (growslice_fits zo (by rw [hz2];omega))
      obtain ⟨g1,g2⟩:=hgc (n+m) cap zo;have he:Ext w (w.drew.alloc (.cells ((av rs).toArray++(av ns).toArray++Builtin.zeroCells (IvV (default,default)).cells (grownCap w (n+m) cap 39-(n+m))) 39)):=(Ext.drew w).trans (Ext.alloc _ _);refine ⟨_,_,_,hr,Or.inr ⟨w.heap.size,_,Builtin.zeroCells (IvV (default,default)).cells (grownCap w (n+m) cap 39-(n+m)),rfl,hD _ (nXe _),?_,by rw [nXi,hlen,hm];omega,g1,g2,?_,lL _⟩,aL.of_ext he,br he⟩
      · unfold IBk
        rw [cz];have e2:(av rs++av ns).toArray=(av rs).toArray++(av ns).toArray:=by simp
        rw [e2];exact heap_alloc_new w.drew _
      · rw [size_zeroCells,hzs,nXi,hlen,hm]
        omega
def iP(w:World)(D:Nat→Prop)(v:Value)(n:Nat)(qs:List Rat):Prop:=∃ rs,iL w D v n rs∧dk aA w rs qs
theorem iP.nil(w:World)(D:Nat→Prop):iP w D (.slice none 0 0) 0 []:=⟨[],iL.nil _ _,dk.nil _ _⟩
theorem iP.ext{w w':World}{D:Nat→Prop}{v:Value}{n:Nat}{qs:List Rat}(h:iP w D v n qs)(he:Ext w w'):iP w' D v n qs:=let ⟨rs,h1,h2⟩:=h;⟨rs,h1.ext he,h2.can_ext he⟩
instance {w w':World} {D:Nat→Prop} {v:Value} {n:Nat} {qs:List Rat}:Go.Front.Mv w w' (iP w D v n qs) (iP w' D v n qs):=⟨fun e h=>iP.ext h e⟩

theorem iP.mono{w:World}{D D':Nat→Prop}{v:Value}{n:Nat}{qs:List Rat}(h:iP w D v n qs)(hD:∀ k,k<w.heap.size→D k→D' k):iP w D' v n qs:=let ⟨rs,h1,h2⟩:=h;⟨rs,h1.mono hD,h2⟩
theorem iP.put{w1 w2:World}{D:Nat→Prop}{v:Value}{n:Nat}{qs:List Rat}{b:Nat}{T:TypeId}{cs:Array Value}(h:iP w1 D v n qs)(T2:cT w1 b T cs w2)(hb:¬ D b):iP w2 D v n qs:=by
 obtain ⟨rs,h1,h2⟩:=h;exact ⟨rs,h1.imp id fun ⟨L,cap,re,g1,g2,g3,g4⟩=>⟨L,cap,re,g1,g2,T2.rest L _ (fun e=>hb (e ▸ g2)) g3,g4⟩,h2.keep T2.keep⟩
theorem iP.sh{w:World}{D:Nat→Prop}{v:Value}{n:Nat}{qs:List Rat}(h:iP w D v n qs):∃ a c,v=.slice a n c:=by
 obtain ⟨rs,⟨rfl,rfl,rfl⟩|⟨L,cap,re,rfl,_⟩,h2⟩:=h
 ·exact ⟨none,0,rfl⟩
 ·exact ⟨_,_,rfl⟩
theorem dk.app{P:World→RH→Rat→Prop}{w:World}{rs ns:List RH}{qs ps:List Rat}(h:dk P w rs qs)(k:dk P w ns ps):dk P w (rs++ns) (qs++ps):=by
 refine ⟨by simp [h.1,k.1],fun i hi=>?_⟩;have h1:=h.1;by_cases hlt:i<qs.length
 ·rw [show (rs++ns).getD i default=rs.getD i default by rw [nXd,List.getElem?_append_left zo,←nXd],show (qs++ps).getD i 0=qs.getD i 0 by rw [nXd,List.getElem?_append_left hlt,←nXd]];exact h.2 i hlt
 ·rw [show (rs++ns).getD i default=ns.getD (i-qs.length) default by rw [nXd,List.getElem?_append_right zo,←nXd,h1],show (qs++ps).getD i 0=ps.getD (i-qs.length) 0 by rw [nXd,List.getElem?_append_right zo,←nXd]];exact k.2 _ (by rw [nXi] at hi;omega)
theorem j6{w:World}{ops:Array Oper}{rest:List Oper}{o:Oper}{a:Act}{Q:Exit→Act→World→Prop}(hgd:o.guard=none)(s x:Operand)(T:TypeId)(hT:Tryz.prog.underlying T=some (.slice 39))
 (ho:o.op=.call { callee:=.builtin .append,args:=#[s,x],argTypes:=#[T,T] })(D:Nat→Prop)(v:Value)(n:Nat)(qs:List Rat)(b off m c:Nat)(ns:List RH)(ps:List Rat)(hs:a.eval s=v)(hown:iP w D v n qs)
 (hx:a.eval x=.slice (some ⟨b,off,none⟩) m c)(hm:ns.length=m*2)(h0:0<m)(hN:∀ k,k<m*2→RAt w b (off+k*3) (ns.getD k default))(hr:dk aA w ns ps)(hl:n≤536870912)(hlm:m≤536870912)(hD:∀ k,w.heap.size≤k→D k)
 (h:∀ (s':SH) w',iP w' D s'.v (n+m) (qs++ps)→aL D w w'→dJ w w'→wpList Tryz.prog ops Q rest (a.put o.dst s'.v) w'):wpList Tryz.prog ops Q (o :: rest) a w:=by
 obtain ⟨rs,h1,h2⟩:=hown;refine wpList_plain hgd fun K hK=>?_
 obtain ⟨L,cap,w',hrun,g1,g2,g3⟩:=mK T o.type hT w D v n rs b off m c ns h1 hm h0 hN hl hlm hD;unfold Oper.wp;simp [execOp,ho,resolve,invoke,builtin,hs,hx,hrun,Result.andThen];exact hK _ _ (h ⟨some ⟨L,0,none⟩,n+m,cap⟩ w' ⟨_,g1,(h2.app hr).keep g3⟩ g2 g3)
end Go.Proofs.YtkcpmclnocmalaaGreat
