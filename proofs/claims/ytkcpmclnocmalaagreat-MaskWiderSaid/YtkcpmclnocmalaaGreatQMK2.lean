import Derived.Test.YtkcpmclnocmalaaGreatQMM22
set_option linter.unusedVariables false
set_option maxHeartbeats 4000000
set_option maxRecDepth 8000
namespace Go.Proofs.YtkcpmclnocmalaaGreat
open Go.RowKit Go.Front Go.Num
attribute [local go_sem] XW.cell XW.frozen
theorem ar.weak{f:FuncId}{args:List Value}{w:World}{α:Type}{mk:α→Value}{φ ψ:α→World→Prop}(h:ar f args w mk φ)(hi:∀ x w',Ext w w'→φ x w'→ψ x w'):ar f args w mk ψ:=by
 refine Calls.mono h ?_;rintro e w' ⟨x,rfl,h1,h2⟩;exact ⟨x,rfl,h1,hi x w' h1 h2⟩
def iq(w:World)(rs:List RH)(ts:List Rat):Prop:=∀ j,j<ts.length→aA w (rs.getD j default) (ts.getD j 0)
theorem iq.ext{w w':World}{rs:List RH}{ts:List Rat}(h:iq w rs ts)(he:Ext w w'):iq w' rs ts:=fun j hj=>(h j hj).ext he
instance {w w':World} {rs:List RH} {ts:List Rat}:Go.Front.Mv w w' (iq w rs ts) (iq w' rs ts):=⟨fun e h=>iq.ext h e⟩

theorem iq.keep{w w':World}{rs:List RH}{ts:List Rat}(h:iq w rs ts)(he:dJ w w'):iq w' rs ts:=fun j hj=>(h j hj).keep he
theorem nh{rs:List RH}{i:Nat}{x:RH}(h:i<rs.length):(rs.set i x).getD i default=x:=by simp [h]
theorem lG{rs:List RH}{i j:Nat}{x:RH}(h:i≠j):(rs.set i x).getD j default=rs.getD j default:=by
 rw [nXd,nXd,List.getElem?_set_ne h]
theorem iq.snoc{w:World}{rs:List RH}{ts:List Rat}(h:iq w rs ts){x:RH}{q:Rat}{i:Nat}(hl:ts.length=i)(hi:i<rs.length)(hx:aA w x q):iq w (rs.set i x) (ts++[q]):=by
 intro j hj;by_cases hji:j<ts.length
 ·rw [lG zo,show (ts++[q]).getD j 0=ts.getD j 0 by rw [nXd,List.getElem?_append_left hji,←nXd]];exact h j hji
 ·obtain rfl:j=ts.length:=by simp at hj;omega
  subst hl;rw [nh hi,show (ts++[q]).getD ts.length 0=q by simp];exact hx
theorem iq.list{w:World}{L M:Nat}{rs:List RH}{ts:List Rat}{B:Nat}(h:iq w rs ts)(hb:RBk w L rs #[])(hl:rs.length=M)(ht:ts.length=M)(hB:B≤L)(hM:M≤9223372036854775807):ct B w ⟨some ⟨L,0,none⟩,M,M⟩ ts :=
 ⟨rs,hb.rs hl (nXe _) hM,⟨zo,h⟩,Or.inr ⟨L,0,rfl,hB,hb.lt⟩⟩
def CW(m x:Rat):Rat:=m*(((m*x).den:Int):Rat)
def fX(l:List Rat):Rat:=l.foldl CW 1
theorem jm(l:List Rat)(x:Rat):fX (l++[x])=CW (fX l) x:=by simp [fX]
def cg(s j:Nat):Nat:=1+j*s
theorem CI{s i j:Nat}(h:i≤j):cg s i≤cg s j:=by
 have:=nXh s h;unfold cg;omega
theorem Cz{s:Nat}{l:List Rat}(h:SzL s l):∀ j,j≤l.length→∃ m:Nat,0<m∧fX (l.take j)=((m:Int):Rat)∧m<W32 ^ (cg s j):=by
 intro j;induction j with
 | zero=>intro _;exact ⟨1,dZ,rfl,by rw [show cg s 0=1 by simp [cg]];decide⟩
 | succ j ih =>
  intro hj;obtain ⟨m,hm,e,hl⟩:=ih zo;have hx:=h.at (i:=j) zo;rw [←cO zo,jm];unfold CW;rw [e];have hd:(((m:Int):Rat)*l.getD j 0).den≤(l.getD j 0).den:=by
   rw [Rat.den_mul,Rat.den_intCast,Nat.one_mul];exact Nat.div_le_self _ _
  have hp:=(((m:Int):Rat)*l.getD j 0).den_pos;refine ⟨m*(((m:Int):Rat)*l.getD j 0).den,Nat.mul_pos hm hp,by rw [Int.natCast_mul,Rat.intCast_mul],?_⟩;have h1:=nYl hd hx.2;have h2:=Nat.mul_lt_mul_of_lt_of_lt hl h1;rw [←Nat.pow_add] at h2;rw [show cg s (j+1)=cg s j+s by unfold cg;rw [nXz];omega];exact h2
theorem wF{s:Nat}{l:List Rat}(h:SzL s l):∀ j,j≤l.length→Sz (cg s j) (fX (l.take j)):=by
 intro j hj;obtain ⟨m,hm,e,hl⟩:=Cz h j hj;rw [e];exact ⟨by rw [Rat.num_intCast,nYi];exact hl,by rw [Rat.den_intCast];have:=ig (k:=cg s j) (by unfold cg;omega);omega⟩
theorem Cr(ao:Option Addr)(n cap:Nat)(l:List Rat)(t:RH)(c:Rat)(w:World)(h:cN w ⟨ao,n,cap⟩ l)(ht:aX w t c)(hcz:c≠0)(hn:n≤1073741824) :
  ar 159 [.slice ao n cap,t.v] w SH.v (fun s w'=>ct w.heap.size w' s (l.map (· / c))):=by
 obtain ⟨i0,hi0,hz0,hz1,hz2⟩:=info_parts ii;obtain ⟨tn,ta,tl,tc,tb,tm,td⟩:=t;have H:=Hi h;have HR:=Hi ht;have HX:=Hi (Ext.refl w);have hle:=h.le;have hmx:=h.max;have Hlen:=Hi h.len;simp only at hle hmx Hlen;clear h ht;unfold ar;go_enter Tryz.func159,Tryz.ntmps159
 go_upto_region 1 with fail
 refine nmA ?_;intro w1 hE B3 hz_w1 hr_w1;refine mV2 hE ?_ HR HX;clear HR HX;intro HR HX;have hs_w1:=hE.size;replace b_B3:=bX3 B3
 go_upto_region 2 with (refine aB rfl (.tmp 8) (.tmp 8) 23 rfl 37 i0 (RH.v default) 3 Tryz.underlying23 hi0 hz0 hz1 _ _ n rfl rfl zo zo (by rw [hz2];omega) zo ?_;intro w2 hnew hE)
 have KB:=Hi (RBk.make rfl hnew);clear hnew;refine mV3 hE ?_ B3 HR HX;clear B3 HR HX;intro B3 HR HX;have hs_w2:=hE.size;replace b_B3:=bX3 B3;obtain ⟨b3,hb3⟩:∃ b3,b3=w.heap.size:=⟨_,rfl⟩;obtain ⟨L,hL⟩:∃ L,L=w1.heap.size:=⟨_,rfl⟩;have hLw:w.heap.size≤L:=zo;have hbw:w.heap.size≤b3:=zo;have hne:b3≠L:=zo;rw [←hb3] at B3 ⊢;rw [←hL] at KB ⊢;clear hb3 hL b_B3;go_wp2
 go_loopg [12] n (fun g v wr=>∃ (i:Nat) (rs:List RH),i+g=n∧v=.int .i64 (i:Nat)∧Ext w wr∧aX wr ⟨tn,ta,tl,tc,tb,tm,td⟩ c∧wr.heap[b3]?=some (.cells #[.bool tn,.slice ta tl tc,.slice tb tm td] 37 (0,0))∧RBk wr L rs #[]∧rs.length=n∧iq wr rs ((l.take i).map (· / c)))
 case atStart=>exact ⟨0,_,zo,rfl,HX.out,HR.out,B3.out,KB.out,by simp,fun j hj=>by simp at hj⟩
 case round =>
  obtain ⟨i,rs,hi,rfl,g1,g2,g3,g4,g5,g6⟩:=hrel;clear HX HR B3 KB;have HX:=Hi g1;have HR:=Hi g2;have B3:=Hi g3;have KB:=Hi g4;have HRl:=Hi g5;have PC:=Hi g6;clear g1 g2 g3 g4 g5 g6;have HTl:Hid (((l.take i).map (· / c)).length=i):=Hi (by rw [nXl,nXk,Hlen.out];omega);replace b_B3:=bX3 B3
  try clear f_KB l_KB
  have f_KB:=af KB.out;have l_KB:=(nXb.1 KB.out).1;by_cases h0:gk=0
  ·subst h0;obtain rfl:i=n:=by omega
   have HE:Hid (l.take i=l):=Hi (nXm (by rw [Hlen.out];exact nXe _));rw [HE.out] at PC HTl;go_wp2
   go_ret
   exact ⟨⟨some ⟨L,0,none⟩,i,i⟩,rfl,HX.out,iq.list PC.out KB.out HRl.out HTl.out hLw zo⟩
  ·obtain ⟨b,off,r,hao,hbl,⟨hc1,hc2,hc3⟩,hP⟩:=(H.out.ext HX.out).cells' (k:=i) zo;obtain ⟨rneg,ra,rn,rc,rb,rm,rd⟩:=r;simp only at hc1 hc2 hc3;subst hao;have RP:=Hi hP;clear hP;have hin:(i:Int)<n:=zo
   go_upto_region 5 with fail
   refine bv [(12,10)] _ (by simp only [jG,mu,List.push_toArray,List.cons_append,List.nil_append];exact rfl) (by intro c a d v w h;cases d <;> exact h) 12 (fun opIx=>match opIx with
    | 7=>.spec (RH) (default) (fun s=>.tuple #[s.v,.int .i64 0]) (fun x w'=>aA w' x (l.getD i 0 / c))
    | _=>.quiet) (fun _=>[]) kZ kZ kZ (fun w0 he0 hz0 hc0 hf0=>?_)
   replace he0:=Hi he0;simp only [pT];refine qQ ?_;refine wps he0 (fun w1 hW hG=>?_) fun x7=>?_
   ·exact spc [RH.v ⟨rneg,ra,rn,rc,rb,rm,rd⟩,RH.v ⟨tn,ta,tl,tc,tb,tm,td⟩] Tryz.func128 (cx _ _ _ _ _ (RP.out.ext hW) (HR.out.ext hW) hcz)
   refine qZ ?_;refine aq ?_;intro w5 hI;have hE:=he0.out.trans hI.ext;have G7:=gT (hI.facts 7);clear hI he0 hz0 hc0 hf0;refine mV5 hE ?_ HX B3 KB PC HR;clear HX B3 KB PC HR;intro HX B3 KB PC HR;have hs_w5:=hE.size;replace b_B3:=bX3 B3
   try clear f_KB l_KB
   have f_KB:=af KB.out;have l_KB:=(nXb.1 KB.out).1;simp only [pD];obtain ⟨f1,f2,f3⟩:=RBk.at (re:=#[]) KB.out (k:=i) (by rw [HRl.out];omega)
   go_upto_region 6 with fail
   refine eK (k:=i) KB.out rfl (by rw [HRl.out];omega) ?_;intro y6 T;clear f1 f2 f3 hc1 hc2 hc3;replace HX:=Hi (T.ext HX.out zo);replace HR:=Hi (HR.out.keep T.keep);replace PC:=Hi (PC.out.keep T.keep);replace B3:=Hi (T.rest _ _ zo B3.out);replace KB:=Hi (T.bx);replace G7:=Hi (G7.out.keep T.keep);have hs_y6:=nle T.size;have hr_y6:=nle T.size.symm;clear T;replace b_B3:=bX3 B3
   try clear f_KB l_KB
   have f_KB:=af KB.out;have l_KB:=(nXb.1 KB.out).1;replace PC:=Hi (PC.out.snoc (x:=x7) (i:=i) HTl.out (by rw [HRl.out];omega) G7.out);have HMp:Hid ((l.take i).map (· / c)++[l.getD i 0 / c]=(l.take (i+1)).map (· / c)):=Hi (by rw [←cO (by rw [Hlen.out];omega),List.map_append];rfl);rw [HMp.out] at PC;go_wp2
   go_roundg (gk-1)
   case measure=>omega
   case rel=>exact ⟨i+1,_,zo,by go_num,HX.out,HR.out,B3.out,KB.out,by rw [nXo];exact HRl.out,PC.out⟩
theorem sN(ao:Option Addr)(n cap:Nat)(l:List Rat)(t:RH)(c:Rat)(w:World)(h:cN w ⟨ao,n,cap⟩ l)(ht:aX w t c)(hn:n≤1073741824)(hz:SzL 33554432 l)(hzc:Sz 33554432 c) :
  ar 85 [.slice ao n cap,t.v] w SH.v (fun s w'=>ct w.heap.size w' s (tz (l.map (·*c)))∧s.c=n∧∃ L,s.a=some ⟨L,0,none⟩∧w.heap.size≤L∧lC w' L (l.map (·*c)) 67108864):=by
 obtain ⟨i0,hi0,hz0,hz1,hz2⟩:=info_parts ii;obtain ⟨tn,ta,tl,tc,tb,tm,td⟩:=t;have H:=Hi h;have HR:=Hi ht;have HX:=Hi (Ext.refl w);have hle:=h.le;have hmx:=h.max;have Hlen:=Hi h.len;simp only at hle hmx Hlen;have HZ:=Hi hz;have HZc:=Hi hzc;clear h ht hz hzc;unfold ar;go_enter Tryz.func85,Tryz.ntmps85
 go_upto_region 1 with fail
 refine nmA ?_;intro w1 hE B3 hz_w1 hr_w1;refine mV2 hE ?_ HR HX;clear HR HX;intro HR HX;have hs_w1:=hE.size;replace b_B3:=bX3 B3
 go_upto_region 2 with (refine aB rfl (.tmp 8) (.tmp 8) 24 rfl 37 i0 (RH.v default) 3 Tryz.underlying24 hi0 hz0 hz1 _ _ n rfl rfl zo zo (by rw [hz2];omega) zo ?_;intro w2 hnew hE)
 have KB:=Hi (RBk.make rfl hnew);clear hnew;refine mV3 hE ?_ B3 HR HX;clear B3 HR HX;intro B3 HR HX;have hs_w2:=hE.size;replace b_B3:=bX3 B3;obtain ⟨b3,hb3⟩:∃ b3,b3=w.heap.size:=⟨_,rfl⟩;obtain ⟨L,hL⟩:∃ L,L=w1.heap.size:=⟨_,rfl⟩;have hLw:w.heap.size≤L:=zo;have hbw:w.heap.size≤b3:=zo;have hne:b3≠L:=zo;rw [←hb3] at B3 ⊢;rw [←hL] at KB ⊢;clear hb3 hL b_B3;go_wp2
 go_loopg [12] n (fun g v wr=>∃ (i:Nat) (rs:List RH),i+g=n∧v=.int .i64 (i:Nat)∧Ext w wr∧aX wr ⟨tn,ta,tl,tc,tb,tm,td⟩ c∧wr.heap[b3]?=some (.cells #[.bool tn,.slice ta tl tc,.slice tb tm td] 37 (0,0))∧RBk wr L rs #[]∧rs.length=n∧iq wr rs ((l.take i).map (·*c)))
 case atStart=>exact ⟨0,_,zo,rfl,HX.out,HR.out,B3.out,KB.out,by simp,fun j hj=>by simp at hj⟩
 case round =>
  obtain ⟨i,rs,hi,rfl,g1,g2,g3,g4,g5,g6⟩:=hrel;clear HX HR B3 KB;have HX:=Hi g1;have HR:=Hi g2;have B3:=Hi g3;have KB:=Hi g4;have HRl:=Hi g5;have PC:=Hi g6;clear g1 g2 g3 g4 g5 g6;have HTl:Hid (((l.take i).map (·*c)).length=i):=Hi (by rw [nXl,nXk,Hlen.out];omega);replace b_B3:=bX3 B3
  try clear f_KB l_KB
  have f_KB:=af KB.out;have l_KB:=(nXb.1 KB.out).1;by_cases h0:gk=0
  ·subst h0;obtain rfl:i=n:=by omega
   have HE:Hid (l.take i=l):=Hi (nXm (by rw [Hlen.out];exact nXe _));rw [HE.out] at PC HTl;have LL:Hid (ct w.heap.size wr ⟨some ⟨L,0,none⟩,i,i⟩ (l.map (·*c))):=Hi (iq.list PC.out KB.out HRl.out HTl.out hLw zo);have HSz:Hid (SzL 67108864 (l.map (·*c))):=Hi (by
    intro q hq;obtain ⟨y,hy,rfl⟩:=nYg.1 hq;exact ((HZ.out y hy).mul HZc.out).mono dZ)
   have OB:Hid (lC wr L (l.map (·*c)) 67108864):=Hi ⟨rs,KB.out,⟨by rw [HRl.out,HTl.out],fun k hk=>(PC.out k hk).raw (HSz.out.at hk) dZ⟩,HSz.out⟩
   (try clear b_B3);clear B3
   clear KB;clear PC;clear HR
   go_wp2_with fail
   refine cM (dS (some ⟨L,0,none⟩) i i (l.map (·*c)) _ (LL.out.can.raw HSz.out dZ)) fun x1 w1 hE G1=>?_
   refine mV3 hE ?_ HX LL OB;clear HX LL OB;intro HX LL OB;have hs_w1:=hE.size;obtain ⟨q1,q2⟩:=G1.out;have HQ1:=Hi q1;have HQ2:=Hi q2;clear q1 q2 G1;go_wp2
   go_ret
   refine ⟨⟨some ⟨L,0,none⟩,(tz (l.map (·*c))).length,i⟩,rfl,HX.out,?_⟩;have:=LIn.take LL.out HQ2.out;rw [←HQ1.out] at this;exact ⟨this,rfl,L,rfl,hLw,OB.out⟩
  ·obtain ⟨b,off,r,hao,hbl,⟨hc1,hc2,hc3⟩,hP⟩:=(H.out.ext HX.out).cells' (k:=i) zo;obtain ⟨rneg,ra,rn,rc,rb,rm,rd⟩:=r;simp only at hc1 hc2 hc3;subst hao;have RP:=Hi hP;clear hP;have hin:(i:Int)<n:=zo
   go_upto_region 5 with fail
   refine wpG 9 (fun opIx=>match opIx with
    | 7=>sR (l.getD i 0*c)
    | _=>.quiet) (fun _=>[]) fun w0 he0 hz0 hc0 hf0=>?_
   refine wps he0 (fun w1 hW hG=>?_) fun x7=>?_
   ·exact spc [RH.v ⟨rneg,ra,rn,rc,rb,rm,rd⟩,RH.v ⟨tn,ta,tl,tc,tb,tm,td⟩] Tryz.func108 (aK _ _ _ _ _ (RP.out.ext hW) (HR.out.ext hW))
   refine qZ ?_;refine aq ?_;intro w5 hI;have hE:=he0.out.trans hI.ext;have G7:=gT (hI.facts 7);clear hI he0 hz0 hc0 hf0;refine mV5 hE ?_ B3 KB PC HX HR;clear B3 KB PC HX HR;intro B3 KB PC HX HR;have hs_w5:=hE.size;replace b_B3:=bX3 B3
   try clear f_KB l_KB
   have f_KB:=af KB.out;have l_KB:=(nXb.1 KB.out).1;simp only [pD];obtain ⟨f1,f2,f3⟩:=RBk.at (re:=#[]) KB.out (k:=i) (by rw [HRl.out];omega)
   go_upto_region 6 with fail
   refine eK (k:=i) KB.out rfl (by rw [HRl.out];omega) ?_;intro y6 T;clear f1 f2 f3 hc1 hc2 hc3;replace HX:=Hi (T.ext HX.out zo);replace HR:=Hi (HR.out.keep T.keep);replace PC:=Hi (PC.out.keep T.keep);replace B3:=Hi (T.rest _ _ zo B3.out);replace KB:=Hi (T.bx);replace G7:=Hi (G7.out.keep T.keep);have hs_y6:=nle T.size;have hr_y6:=nle T.size.symm;clear T;replace b_B3:=bX3 B3
   try clear f_KB l_KB
   have f_KB:=af KB.out;have l_KB:=(nXb.1 KB.out).1;replace PC:=Hi (PC.out.snoc (x:=x7) (i:=i) HTl.out (by rw [HRl.out];omega) G7.out);have HMp:Hid ((l.take i).map (·*c)++[l.getD i 0*c]=(l.take (i+1)).map (·*c)):=Hi (by rw [←cO (by rw [Hlen.out];omega),List.map_append];rfl);rw [HMp.out] at PC;go_wp2
   go_roundg (gk-1)
   case measure=>omega
   case rel=>exact ⟨i+1,_,zo,by go_num,HX.out,HR.out,B3.out,KB.out,by rw [nXo];exact HRl.out,PC.out⟩
theorem fx(ao:Option Addr)(n cap:Nat)(l:List Rat)(t:RH)(c:Rat)(w:World)(h:cN w ⟨ao,n,cap⟩ l)(ht:aX w t c)(hn:n≤1073741824)(hz:SzL 33554432 l)(hzc:Sz 33554432 c) :
  ar 85 [.slice ao n cap,t.v] w SH.v (fun s w'=>ct w.heap.size w' s (tz (l.map (·*c)))):=(sN ao n cap l t c w h ht hn hz hzc).weak (fun _ _ _ h=>h.1)
theorem C4{a b:List Rat}(h:∀ i,a.getD i 0=b.getD i 0):tz a=tz b:=by
 have hl:∀ a b:List Rat,(∀ i,a.getD i 0=b.getD i 0)→(tz a).length≤(tz b).length:=by
  intro a b h;rcases Nat.lt_or_ge (tz b).length (tz a).length with h1|h1
  ·exfalso;obtain ⟨n,hn⟩:∃ n,(tz a).length=n+1:=⟨(tz a).length-1,zo⟩;have h2:(tz a).getD n 0=0:=by
    rw [o4 zo,h n,tK zo]
   have h3:=bQ a;have h4:tz ((tz a).take (n+1))=tz ((tz a).take n):=ju zo h2;rw [←hn,List.take_length,h3] at h4;have h5:=aj ((tz a).take n);rw [←h4,nXk] at h5;omega
  ·exact h1
 apply Stab.getD_ext
 ·exact Nat.le_antisymm (hl a b h) (hl b a (fun i=>(h i).symm))
 ·intro i _;rw [bC,bC,h]
def aH(w:World)(L:Nat)(os:List Rat):Prop:=∃ rs re,RBk w L rs re∧re.toList.all dL=true∧dk aA w rs os
theorem aH.ext{w w':World}{L:Nat}{os:List Rat}(h:aH w L os)(he:Ext w w'):aH w' L os:=let ⟨rs,re,h1,h0,h2⟩:=h;⟨rs,re,h1.ext he,h0,h2.can_ext he⟩
instance {w w':World} {L:Nat} {os:List Rat}:Go.Front.Mv w w' (aH w L os) (aH w' L os):=⟨fun e h=>aH.ext h e⟩

theorem aH.lt{w:World}{L:Nat}{os:List Rat}(h:aH w L os):L<w.heap.size:=let ⟨_,_,h1,_⟩:=h;h1.lt
theorem aH.frozen{w:World}{L:Nat}{os:List Rat}(h:aH w L os)(i:Nat):w.frozen? ⟨L,i,none⟩=false:=let ⟨_,_,h1,_⟩:=h;h1.frozen i
theorem aH.cells{w:World}{L:Nat}{os:List Rat}(h:aH w L os){k:Nat}(hk:k<os.length):∃ r,RAt w L (k*3) r∧aA w r (os.getD k 0):=by
 obtain ⟨rs,re,h1,h0,h2⟩:=h;exact ⟨_,h1.at (by rw [h2.1];exact hk),h2.2 k hk⟩
theorem aH.can{w:World}{L M c:Nat}{os:List Rat}(h:aH w L os)(hl:os.length=M)(hc:M≤c)(hM:c≤9223372036854775807):bg w ⟨some ⟨L,0,none⟩,M,c⟩ os:=by
 obtain ⟨rs,re,h1,h0,h2⟩:=h;exact ⟨rs,h1.rs (by rw [h2.1,hl]) hc hM,h2⟩
theorem aH.put{w1 w2:World}{L b:Nat}{os:List Rat}{T:TypeId}{cs:Array Value}(h:aH w1 L os)(T2:cT w1 b T cs w2)(hb:b≠L):aH w2 L os:=by
 obtain ⟨rs,re,h1,h0,h2⟩:=h;exact ⟨rs,re,T2.rest L _ (Ne.symm hb) h1,h0,h2.keep T2.keep⟩
theorem eW{w1:World}{L k:Nat}{os:List Rat}{q:Rat}{F:World→Prop}{x:RH}(h:aH w1 L os)(hk:k<os.length)(hx:aA w1 x q)
 (H:∀ w2,(∃ cs,cT w1 L 37 cs w2)→aH w2 L (os.set k q)→F w2) :
  F (((w1.setCell ⟨L,k*3,none⟩ (.bool x.neg)).setCell ⟨L,k*3+1,none⟩ (.slice x.a x.n x.c)).setCell ⟨L,k*3+2,none⟩ (.slice x.b x.m x.d)):=by
 obtain ⟨rs,re,h1,h0,h2⟩:=h;refine eK h1 h0 (by rw [h2.1];exact hk) fun w2 T=>H w2 ⟨_,T⟩ ⟨rs.set k x,re,T.bx,h0,(h2.keep T.keep).set (hx.keep T.keep) k⟩
theorem iq.row{w:World}{L M:Nat}{rs:List RH}{ts:List Rat}(h:iq w rs ts)(hb:RBk w L rs #[])(hl:rs.length=M)(ht:ts.length=M):aH w L ts:=⟨rs,#[],hb,rfl,by rw [hl,ht],h⟩
def cJ(B:Nat)(w:World)(x:SH)(os:List Rat):Prop:=∃ L,B≤L∧x=⟨some ⟨L,0,none⟩,os.length,os.length⟩∧aH w L os
theorem cJ.ext{B:Nat}{w w':World}{x:SH}{os:List Rat}(h:cJ B w x os)(he:Ext w w'):cJ B w' x os:=let ⟨L,h1,h2,h3⟩:=h;⟨L,h1,h2,h3.ext he⟩
instance {B:Nat} {w w':World} {x:SH} {os:List Rat}:Go.Front.Mv w w' (cJ B w x os) (cJ B w' x os):=⟨fun e h=>cJ.ext h e⟩

theorem cJ.new{B:Nat}{w:World}{x:SH}{os:List Rat}(h:cJ B w x os)(hl:os.length≤9223372036854775807):ct B w x os:=by
 obtain ⟨L,h1,rfl,rs,re,h3,h0,h4⟩:=h;exact ⟨rs,h3.rs h4.1 (nXe _) hl,h4,Or.inr ⟨L,0,rfl,h1,h3.lt⟩⟩
theorem tC(M:Nat)(w:World)(hM:M≤1000000):ar 199 [.int .i64 (M:Nat)] w SH.v (fun x w'=>cJ w.heap.size w' x (List.replicate M 0)):=by
 obtain ⟨i0,hi0,hz0,hz1,hz2⟩:=info_parts ii;have HX:=Hi (Ext.refl w);unfold ar;go_enter Tryz.func199,Tryz.ntmps199
 go_upto_region 2 with (refine aB rfl (.tmp 5) (.tmp 5) 24 rfl 37 i0 (RH.v default) 3 Tryz.underlying24 hi0 hz0 hz1 _ _ M rfl rfl zo zo (by rw [hz2];omega) zo ?_;intro w3 hnew hE)
 have KB:=Hi (RBk.make rfl hnew);clear hnew;replace HX:=hE.tr HX;have hs_w3:=hE.size;obtain ⟨L,hL⟩:∃ L,L=w.heap.size:=⟨_,rfl⟩;have hLw:w.heap.size≤L:=zo;rw [←hL] at KB ⊢;clear hL;go_wp2
 go_loopg [9] M (fun g v wr=>∃ (i:Nat) (rs:List RH),i+g=M∧v=.int .i64 (i:Nat)∧Ext w wr∧RBk wr L rs #[]∧rs.length=M∧iq wr rs (List.replicate i 0))
 case atStart=>exact ⟨0,_,zo,rfl,HX.out,KB.out,by simp,fun j hj=>by simp at hj⟩
 case round =>
  obtain ⟨i,rs,hi,rfl,g1,g4,g5,g6⟩:=hrel;clear HX KB;have HX:=Hi g1;have KB:=Hi g4;have HRl:=Hi g5;have PC:=Hi g6;clear g1 g4 g5 g6
  try clear f_KB l_KB
  have f_KB:=af KB.out;have l_KB:=(nXb.1 KB.out).1;by_cases h0:gk=0
  case neg =>
   have hin:(i:Int)<M:=zo
   go_wp2_with fail
   refine cM (bO 0 _ dZ dZ) fun x2 w2 hE G2=>?_
   refine mV3 hE ?_ HX KB PC;clear HX KB PC;intro HX KB PC;have hs_w2:=hE.size
   try clear f_KB l_KB
   have f_KB:=af KB.out;have l_KB:=(nXb.1 KB.out).1;obtain ⟨f1,f2,f3⟩:=RBk.at (re:=#[]) KB.out (k:=i) (by rw [HRl.out];omega)
   go_upto_region 6 with fail
   refine eK (k:=i) KB.out rfl (by rw [HRl.out];omega) ?_;intro y6 T;clear f1 f2 f3;replace HX:=Hi (T.ext HX.out zo);replace KB:=Hi (T.bx);replace PC:=Hi (PC.out.keep T.keep);replace G2:=Hi (G2.out.keep T.keep);have hs_y6:=nle T.size;have hr_y6:=nle T.size.symm;clear T
   try clear f_KB l_KB
   have f_KB:=af KB.out;have l_KB:=(nXb.1 KB.out).1;replace PC:=Hi (PC.out.snoc (x:=x2) (i:=i) (by simp) (by rw [HRl.out];omega) G2.out);have HRp:Hid (List.replicate i (0:Rat)++[((0:Int):Rat)]=List.replicate (i+1) 0):=Hi (by rw [List.replicate_succ'];rfl);rw [HRp.out] at PC;go_wp2
   go_roundg (gk-1)
   case measure=>omega
   case rel=>exact ⟨i+1,_,zo,by go_num,HX.out,KB.out,by rw [nXo];exact HRl.out,PC.out⟩
  subst h0;obtain rfl:i=M:=by omega
  have hin:¬ (i:Int)<i:=zo;have HO:Hid (aH wr L (List.replicate i 0)):=Hi (PC.out.row KB.out HRl.out (by simp));go_wp2
  go_ret
  exact ⟨⟨some ⟨L,0,none⟩,i,i⟩,rfl,HX.out,L,hLw,by simp,HO.out⟩
theorem i7{w:World}{L:Nat}{T:TypeId}(h:w.heap[L]?=some (.cells #[.int .u32 1] T (0,0))):U32 w (some ⟨L,0,none⟩) 1 1 (digs 1):=by
 rw [jZ];refine ⟨rfl,nXe _,dZ,fun d hd=>?_,Or.inr ⟨L,0,rfl,fun k hk=>?_⟩⟩
 ·obtain rfl:d=1:=by simpa using hd
  decide
 ·obtain rfl:k=0:=by omega
  rw [ae h];rfl
theorem mT{w1:World}{b b':Nat}{T T':TypeId}{c0 c1 c2 v0 v1 v2 c0' c1' c2' v0' v1' v2':Value}{F:World→Prop}(hb:w1.heap[b]?=some (.cells #[c0,c1,c2] T (0,0)))(hn:#[c0,c1,c2].toList.all dL=true)
 (hb':w1.heap[b']?=some (.cells #[c0',c1',c2'] T' (0,0)))(hn':#[c0',c1',c2'].toList.all dL=true)(hne:b'≠b)
 (H:∀ w2 w3 w4,cT w1 b T #[v0,v1,v2] w2→cT w2 b' T' #[v0',v1',v2'] w3→Ext w3 w4→F w4) :
  F ((((((w1.setCell ⟨b,0,none⟩ v0).setCell ⟨b,1,none⟩ v1).setCell ⟨b,2,none⟩ v2).setCell ⟨b',0,none⟩ v0').setCell ⟨b',1,none⟩ v1').setCell ⟨b',2,none⟩ v2').drew :=
 aN (v0:=v0) (v1:=v1) (v2:=v2) (F:=fun W=>F ((((W.setCell ⟨b',0,none⟩ v0').setCell ⟨b',1,none⟩ v1').setCell ⟨b',2,none⟩ v2').drew)) hb hn fun w2 T2 =>
  aN (v0:=v0') (v1:=v1') (v2:=v2') (F:=fun W=>F W.drew) (T2.rest _ _ hne hb') hn' fun w3 T3=>H w2 w3 _ T2 T3 (Ext.drew _)
abbrev PT(x:RH×RH):Value:=.tuple #[x.1.v,x.2.v]
theorem lX(t:RH)(q:Rat)(w:World)(h:aA w t q):ar 201 [t.v] w PT (fun x w'=>aA w' x.1 (q.num:Rat)∧aA w' x.2 ((q.den:Int):Rat)):=by
 obtain ⟨neg,a,n,c,b,m,d⟩:=t;have H:=Hi h;have HX:=Hi (Ext.refl w);clear h;unfold ar;go_enter Tryz.func201,Tryz.ntmps201
 go_upto_region 1 with fail
 refine sO ?_;intro w1 hE B1 B2 B3 hz_w1 hr_w1;replace HX:=hE.tr HX;have hs_w1:=hE.size;replace b_B1:=bX3 B1;replace b_B2:=bX3 B2;replace b_B3:=bX3 B3
 go_upto_region 2 with fail
 refine nmA ?_;intro w2 hE BO hz_w2 hr_w2;refine mV4 hE ?_ B1 B2 B3 HX;clear B1 B2 B3 HX;intro B1 B2 B3 HX;have hs_w2:=hE.size;replace b_B1:=bX3 B1;replace b_B2:=bX3 B2;replace b_B3:=bX3 B3;replace b_BO:=bX3 BO
 go_region
 refine mT B2.out rfl B3.out rfl zo ?_;intro y3 y4 y5 T3 T4 E5;have HY:Hid (Ext w y5):=Hi ((T4.ext (T3.ext HX.out zo) zo).trans E5);have HO:=Hi (E5.block (T4.rest _ _ zo (T3.rest _ _ zo BO.out)));have HA:=Hi (H.out.ext HY.out);have C2:=Hi (E5.block (T4.rest _ _ zo T3.bx));have C3:=Hi (E5.block T4.bx);have c_C2:=ae C2.out;have c_C3:=ae C3.out;have f_C2:=af C2.out;have f_C3:=af C3.out;clear T3 T4 E5 b_B1 b_B2 b_B3 b_BO;go_wp2;exact nXa (v:=PT (⟨neg,a,n,c,some ⟨w1.heap.size,0,none⟩,1,1⟩,⟨false,b,m,d,some ⟨w1.heap.size,0,none⟩,1,1⟩)) (by simp [results,Tryz.results201,go_sem,PT,c_C2,c_C3]) rfl
  ⟨(⟨neg,a,n,c,some ⟨w1.heap.size,0,none⟩,1,1⟩,⟨false,b,m,d,some ⟨w1.heap.size,0,none⟩,1,1⟩),rfl,HY.out,
   ⟨by rw [Rat.num_intCast];exact HA.out.1,by rw [Rat.num_intCast];exact HA.out.2.1,by rw [Rat.den_intCast];exact i7 HO.out⟩,
   ⟨by rw [Rat.num_intCast];exact (decide_eq_false zo).symm,by rw [Rat.num_intCast];exact HA.out.2.2,by rw [Rat.den_intCast];exact i7 HO.out⟩⟩
theorem Sz.numz{k:Nat}{q:Rat}(h:Sz k q):Sz k (q.num:Rat):=⟨by rw [Rat.num_intCast];exact h.1,by rw [Rat.den_intCast];exact Nat.one_lt_pow (by have:=h.one_le;omega) dZ⟩
theorem Sz.denz{k:Nat}{q:Rat}(h:Sz k q):Sz k ((q.den:Int):Rat):=⟨by rw [Rat.num_intCast];simpa using h.2,by rw [Rat.den_intCast];have:=ig h.one_le;omega⟩
theorem pA(s t:RH)(a b:Rat)(K:Nat)(w:World)(h:aA w s a)(k:aX w t b)(ha:Sz K a)(hb:Sz K b)(hK:K≤30000000):ar 198 [s.v,t.v] w RH.v (fun x w'=>aA w' x (iB a b)):=by
 obtain ⟨sneg,sa,sn,sc,sb,sm,sd⟩:=s;obtain ⟨tneg,ta,tn,tc,tb,tm,td⟩:=t;have H:=Hi h;have K2:=Hi k;have HX:=Hi (Ext.refl w);have ZA:=Hi ha;have ZB:=Hi hb;clear h k ha hb;unfold ar;go_enter Tryz.func198,Tryz.ntmps198
 go_upto_region 1 with fail
 refine sO ?_;intro w1 hE B2 B3 B4 hz_w1 hr_w1;refine mV3 hE ?_ H K2 HX;clear H K2 HX;intro H K2 HX;have hs_w1:=hE.size;replace b_B2:=bX3 B2;replace b_B3:=bX3 B3;replace b_B4:=bX3 B4
 go_wp2_with fail
 refine cM (dV ⟨sneg,sa,sn,sc,sb,sm,sd⟩ a _ (H.out.raw ZA.out zo)) fun x2 w2 hE _=>?_
 refine mV6 hE ?_ B2 B3 B4 H K2 HX;clear B2 B3 B4 H K2 HX;intro B2 B3 B4 H K2 HX;have hs_w2:=hE.size;replace b_B2:=bX3 B2;replace b_B3:=bX3 B3;replace b_B4:=bX3 B4;have HZ:=Hi (fF a);obtain ⟨cc,hcc⟩:∃ cc,cc=cG a 0:=⟨_,rfl⟩;rw [←hcc] at HZ ⊢;clear hcc;by_cases hz:cc=0
 case pos =>
  subst hz;have HV:Hid (iB a b=b.abs):=Hi (by unfold iB;rw [if_pos (HZ.out.1 rfl)]);clear HZ
  go_wp2_with fail
  refine cM (i5 ⟨tneg,ta,tn,tc,tb,tm,td⟩ b _ K2.out) fun x3 w3 hE G3=>?_
  refine mV6 hE ?_ B2 B3 B4 H K2 HX;clear B2 B3 B4 H K2 HX;intro B2 B3 B4 H K2 HX;have hs_w3:=hE.size;replace b_B2:=bX3 B2;replace b_B3:=bX3 B3;replace b_B4:=bX3 B4;go_wp2;have hF:=((((Fin.start (L:=w.heap.size+2) HX.out (ai B4.out rfl)).set zo (i:=0) (v:=.bool x3.neg) rfl).set zo (i:=1) (v:=.slice x3.a x3.n x3.c) rfl).set zo (i:=2) (v:=.slice x3.b x3.m x3.d) rfl);exact nXa (v:=x3.v) (by simp [results,Tryz.results198,go_sem,ae B4.out]) rfl ⟨x3,rfl,hF.ext,(by rw [HV.out];exact G3.out.keep hF.keep)⟩
 have hzb:(cc == 0)=false:=by simpa using hz
 have Ha0:Hid (a≠0):=Hi (fun h=>hz (HZ.out.2 h));clear hz HZ;by_cases hb0:b=0
 case pos =>
  have HV:Hid (iB a b=a):=Hi (by unfold iB;rw [if_neg Ha0.out,if_pos hb0]);have Hb0:=Hi hb0;clear hb0
  go_wp2_with fail
  refine cM (nZ ⟨sneg,sa,sn,sc,sb,sm,sd⟩ ⟨tneg,ta,tn,tc,tb,tm,td⟩ a b _ (H.out.raw ZA.out zo) K2.out Hb0.out) fun x3 w3 hE _=>?_
  refine mV6 hE ?_ B2 B3 B4 H K2 HX;clear B2 B3 B4 H K2 HX;intro B2 B3 B4 H K2 HX;have hs_w3:=hE.size;replace b_B2:=bX3 B2;replace b_B3:=bX3 B3;replace b_B4:=bX3 B4
  go_upto_region 4 with fail
  refine nmA ?_;intro y4 hE B5 hz_y4 hr_y4;refine mV6 hE ?_ B2 B3 B4 H K2 HX;clear B2 B3 B4 H K2 HX;intro B2 B3 B4 H K2 HX;have hs_y4:=hE.size;replace b_B2:=bX3 B2;replace b_B3:=bX3 B3;replace b_B4:=bX3 B4;replace b_B5:=bX3 B5;go_wp2;have hF:=((((Fin.start (L:=w.heap.size+2) HX.out (ai B4.out rfl)).set zo (i:=0) (v:=.bool (⟨sneg,sa,sn,sc,sb,sm,sd⟩:RH).neg) rfl).set zo (i:=1) (v:=.slice (⟨sneg,sa,sn,sc,sb,sm,sd⟩:RH).a (⟨sneg,sa,sn,sc,sb,sm,sd⟩:RH).n (⟨sneg,sa,sn,sc,sb,sm,sd⟩:RH).c) rfl).set zo (i:=2) (v:=.slice (⟨sneg,sa,sn,sc,sb,sm,sd⟩:RH).b (⟨sneg,sa,sn,sc,sb,sm,sd⟩:RH).m (⟨sneg,sa,sn,sc,sb,sm,sd⟩:RH).d) rfl);exact nXa (v:=(⟨sneg,sa,sn,sc,sb,sm,sd⟩:RH).v) (by simp [results,Tryz.results198,go_sem,ae B4.out]) rfl ⟨(⟨sneg,sa,sn,sc,sb,sm,sd⟩:RH),rfl,hF.ext,(by rw [HV.out];exact H.out.keep hF.keep)⟩
 have Hb0:=Hi hb0;clear hb0;obtain ⟨q,hq⟩:∃ q,q=a / b:=⟨_,rfl⟩;have Hq0:Hid (q≠0):=Hi (fun h=>by
  have h1:=cQ (a:=a) Hb0.out;rw [←hq,h] at h1;exact Ha0.out (by rw [←h1];grind))
 have ZQ:Hid (Sz (K+K) q):=Hi (by rw [hq];exact ZA.out.div ZB.out);have HV:Hid (iB a b=(a / (q.num:Rat)).abs):=Hi (by unfold iB;rw [if_neg Ha0.out,if_neg Hb0.out,←hq])
 go_wp2_with fail
 refine cM (cx ⟨sneg,sa,sn,sc,sb,sm,sd⟩ ⟨tneg,ta,tn,tc,tb,tm,td⟩ a b _ (H.out.raw ZA.out zo) K2.out Hb0.out) fun x3 w3 hE G3=>?_
 refine mV6 hE ?_ B2 B3 B4 H K2 HX;clear B2 B3 B4 H K2 HX;intro B2 B3 B4 H K2 HX;have hs_w3:=hE.size;replace b_B2:=bX3 B2;replace b_B3:=bX3 B3;replace b_B4:=bX3 B4;rw [←hq] at G3;clear hq
 go_upto_region 4 with fail
 refine nmA ?_;intro y4 hE B5 hz_y4 hr_y4;refine mV7 hE ?_ G3 B2 B3 B4 H K2 HX;clear G3 B2 B3 B4 H K2 HX;intro G3 B2 B3 B4 H K2 HX;have hs_y4:=hE.size;replace b_B2:=bX3 B2;replace b_B3:=bX3 B3;replace b_B4:=bX3 B4;replace b_B5:=bX3 B5
 go_wp2_with fail
 refine cM (lX x3 q _ G3.out) fun x5 w5 hE G5=>?_
 refine mV8 hE ?_ B5 G3 B2 B3 B4 H K2 HX;clear B5 G3 B2 B3 B4 H K2 HX;intro B5 G3 B2 B3 B4 H K2 HX;have hs_w5:=hE.size;replace b_B2:=bX3 B2;replace b_B3:=bX3 B3;replace b_B4:=bX3 B4;replace b_B5:=bX3 B5;obtain ⟨x5,x6⟩:=x5;have G5a:=Hi G5.out.1;have G5b:=Hi G5.out.2;clear G5;simp only [PT]
 go_upto_region 7 with fail
 refine eX ?_;intro y6 hE B7 B8 hz_y6 hr_y6;refine mV8 hE ?_ B5 G3 B2 B3 B4 H K2 HX;clear B5 G3 B2 B3 B4 H K2 HX;intro B5 G3 B2 B3 B4 H K2 HX;refine mV2 hE ?_ G5a G5b;clear G5a G5b;intro G5a G5b;have hs_y6:=hE.size;replace b_B2:=bX3 B2;replace b_B3:=bX3 B3;replace b_B4:=bX3 B4;replace b_B5:=bX3 B5;replace b_B7:=bX3 B7;replace b_B8:=bX3 B8
 go_wp2_with fail
 refine cM (cx ⟨sneg,sa,sn,sc,sb,sm,sd⟩ x5 a (q.num:Rat) _ (H.out.raw ZA.out zo) (G5a.out.raw ZQ.out.numz zo) (me Hq0.out)) fun x7 w7 hE G7=>?_
 refine mV8 hE ?_ B7 B8 B5 G3 B2 B3 B4 H;clear B7 B8 B5 G3 B2 B3 B4 H;intro B7 B8 B5 G3 B2 B3 B4 H;refine mV4 hE ?_ K2 HX G5a G5b;clear K2 HX G5a G5b;intro K2 HX G5a G5b;have hs_w7:=hE.size;replace b_B2:=bX3 B2;replace b_B3:=bX3 B3;replace b_B4:=bX3 B4;replace b_B5:=bX3 B5;replace b_B7:=bX3 B7;replace b_B8:=bX3 B8
 go_upto_region 8 with fail
 refine nmA ?_;intro y8 hE B9 hz_y8 hr_y8;refine mV8 hE ?_ G7 B7 B8 B5 G3 B2 B3 B4;clear G7 B7 B8 B5 G3 B2 B3 B4;intro G7 B7 B8 B5 G3 B2 B3 B4;refine mV5 hE ?_ H K2 HX G5a G5b;clear H K2 HX G5a G5b;intro H K2 HX G5a G5b;have hs_y8:=hE.size;replace b_B2:=bX3 B2;replace b_B3:=bX3 B3;replace b_B4:=bX3 B4;replace b_B5:=bX3 B5;replace b_B7:=bX3 B7;replace b_B8:=bX3 B8;replace b_B9:=bX3 B9
 go_wp2_with fail
 refine cM (i5 x7 _ _ (G7.out.raw (ZA.out.div ZQ.out.numz) zo)) fun x9 w9 hE G9=>?_
 refine mV8 hE ?_ B9 G7 B7 B8 B5 G3 B2 B3;clear B9 G7 B7 B8 B5 G3 B2 B3;intro B9 G7 B7 B8 B5 G3 B2 B3;refine mV6 hE ?_ B4 H K2 HX G5a G5b;clear B4 H K2 HX G5a G5b;intro B4 H K2 HX G5a G5b;have hs_w9:=hE.size;replace b_B2:=bX3 B2;replace b_B3:=bX3 B3;replace b_B4:=bX3 B4;replace b_B5:=bX3 B5;replace b_B7:=bX3 B7;replace b_B8:=bX3 B8;replace b_B9:=bX3 B9;go_wp2;have hF:=((((Fin.start (L:=w.heap.size+2) HX.out (ai B4.out rfl)).set zo (i:=0) (v:=.bool x9.neg) rfl).set zo (i:=1) (v:=.slice x9.a x9.n x9.c) rfl).set zo (i:=2) (v:=.slice x9.b x9.m x9.d) rfl);exact nXa (v:=x9.v) (by simp [results,Tryz.results198,go_sem,ae B4.out]) rfl ⟨x9,rfl,hF.ext,(by rw [HV.out];exact G9.out.keep hF.keep)⟩
structure Mut (L:Nat) (w w':World):Prop where
 keep:dJ w w'
 mods:aL (·=L) w w'
theorem Mut.refl(L:Nat)(w:World):Mut L w w:=⟨dJ.refl w,aL.refl _ w⟩
theorem Mut.of_ext{L:Nat}{w w':World}(h:Ext w w'):Mut L w w':=⟨br h,aL.of_ext h⟩
theorem Mut.trans{L:Nat}{a b c:World}(h:Mut L a b)(k:Mut L b c):Mut L a c:=⟨h.keep.trans k.keep,h.mods.trans k.mods⟩
theorem Mut.put{L b:Nat}{w w1 w2:World}{T:TypeId}{cs:Array Value}(h:Mut L w w1)(T2:cT w1 b T cs w2)(hb:b=L∨w.heap.size≤b):Mut L w w2:=⟨h.keep.trans T2.keep,aL.put h.mods T2 hb⟩
theorem Mut.rest{L:Nat}{w w':World}(h:Mut L w w')(k:Nat)(o:Obj)(hk:k≠L)(ho:w.heap[k]?=some o):w'.heap[k]?=some o:=h.mods.blk hk ho
theorem Mut.size{L:Nat}{w w':World}(h:Mut L w w'):w.heap.size≤w'.heap.size:=h.mods.size
theorem Mut.ext{L:Nat}{w0 w w':World}(h:Mut L w w')(hE:Ext w0 w)(hL:w0.heap.size≤L):Ext w0 w' :=
 Ext.of_below (N:=w0.heap.size) hE (h.mods.below hE.size fun k hk=>by have hk:k=L:=hk;omega) (nXe _)
theorem aH.mut{w w':World}{L M:Nat}{os:List Rat}(h:aH w L os)(T:Mut M w w')(hb:M≠L):aH w' L os:=by
 obtain ⟨rs,re,h1,h0,h2⟩:=h;exact ⟨rs,re,T.rest L _ (Ne.symm hb) h1,h0,h2.keep T.keep⟩
theorem RS.mut{w w':World}{M lo hi:Nat}{s:SH}{rs:List RH}(h:RS w s rs)(hp:s.n=0∨∃ b off,s.a=some ⟨b,off,none⟩∧lo≤b∧b<hi)(T:Mut M w w')(hb:M<lo∨hi≤M):RS w' s rs:=by
 refine ⟨h.len,h.le,h.max,?_⟩;rcases hp with h0|⟨x,o,e,h1,h2⟩
 ·exact Or.inl h0
 ·rcases h.at' with h0|⟨b,off,e2,hc⟩
  ·exact Or.inl h0
  ·rw [e] at e2;obtain ⟨rfl,rfl⟩:x=b∧o=off:=by simpa using e2
   refine Or.inr ⟨x,o,e,fun k hk=>?_⟩;have h3:=hc k hk;have hl:=nXq _ _ h3.1;simp only at hl;have hbk:w'.heap[x]?=w.heap[x]?:=by
    rw [Array.getElem?_eq_getElem hl];exact T.rest x _ zo (Array.getElem?_eq_getElem hl)
   have cc:∀ i,w'.cell? ⟨x,i,none⟩=w.cell? ⟨x,i,none⟩:=fun i=>World.cell?_of_block (w:=w) hbk
   exact ⟨(cc _).trans h3.1,(cc _).trans h3.2.1,(cc _).trans h3.2.2⟩
theorem LIn.mut{w w':World}{M lo hi:Nat}{s:SH}{qs:List Rat}(h:LIn w s qs lo hi)(T:Mut M w w')(hb:M<lo∨hi≤M):LIn w' s qs lo hi:=by
 obtain ⟨rs,h1,h2,h3⟩:=h;exact ⟨rs,h1.mut h3 T hb,h2.keep T.keep,h3⟩
theorem mW{os:List Rat}{q:Rat}{i:Nat}(hi:i<os.length):(cL os i q).set i (os.getD i 0*q)=cL os (i+1) q:=by
 unfold cL;have h1:((os.take i).map (·*q)).length=i:=by rw [nXl,nXk];omega
 rw [List.set_append_right _ _ zo,h1,Nat.sub_self,List.take_add_one,List.map_append,List.append_assoc]
 congr 1
 rw [List.drop_eq_getElem_cons hi,List.set_cons_zero,List.getElem?_eq_getElem hi,nXd,List.getElem?_eq_getElem hi];rfl
theorem qW(L n cp:Nat)(os:List Rat)(t:RH)(q:Rat)(S U:Nat)(w:World)(h:aH w L os)(hn:n≤os.length)(ht:aA w t q)(hM:os.length≤1000000)(hz:SzL S (os.take n))(hzq:Sz U q)(hSU:S≤60000000∧U≤60000000) :
  Calls Tryz.prog 202 #[.slice (some ⟨L,0,none⟩) n cp,t.v] w (fun e w'=>e=.returned (.tuple #[])∧Mut L w w'∧aH w' L (cL os n q)):=by
 obtain ⟨tn,ta,tl,tc,tb,tm,td⟩:=t;have HX:=Hi (Mut.refl L w);have HR:=Hi h;have HT:=Hi ht;have HZ:=Hi hz;have ZQ:=Hi hzq;have hLw:=h.lt;clear h ht hz hzq;go_enter Tryz.func202,Tryz.ntmps202
 go_upto_region 1 with fail
 refine nmA ?_;intro w1 hE B3 hz_w1 hr_w1;replace HX:=Hi (Mut.trans HX.out (Mut.of_ext hE));refine mV2 hE ?_ HR HT;clear HR HT;intro HR HT;have hs_w1:=hE.size;replace b_B3:=bX3 B3;obtain ⟨b3,hb3⟩:∃ b3,b3=w.heap.size:=⟨_,rfl⟩;have hbw:w.heap.size≤b3:=zo;rw [←hb3] at B3 ⊢;clear hb3 b_B3;go_wp2
 go_loopg [7] n (fun g v wr=>∃ (i:Nat),i+g=n∧v=.int .i64 (i:Nat)∧Mut L w wr∧aA wr ⟨tn,ta,tl,tc,tb,tm,td⟩ q∧wr.heap[b3]?=some (.cells #[.bool tn,.slice ta tl tc,.slice tb tm td] 37 (0,0))∧aH wr L (cL os i q))
 case atStart=>exact ⟨0,zo,rfl,HX.out,HT.out,B3.out,by simpa [cL] using HR.out⟩
 case round =>
  obtain ⟨i,hi,rfl,g1,g2,g3,g4⟩:=hrel;clear HX HR HT B3;have HX:=Hi g1;have HT:=Hi g2;have B3:=Hi g3;have HR:=Hi g4;clear g1 g2 g3 g4;replace b_B3:=bX3 B3;by_cases h0:gk=0
  case neg =>
   have hin:(i:Int)<n:=zo;have HL:Hid ((cL os i q).length=os.length):=Hi (by unfold cL;rw [nXi,nXl,nXk,nYa];omega);have HV:Hid ((cL os i q).getD i 0=os.getD i 0):=Hi (by
    unfold cL;have h1:((os.take i).map (·*q)).length=i:=by rw [nXl,nXk];omega
    rw [nXd,List.getElem?_append_right zo,h1,Nat.sub_self,List.getElem?_drop,Nat.add_zero,←nXd])
   obtain ⟨r,⟨f1,f2,f3⟩,hrc⟩:=aH.cells HR.out (k:=i) (by rw [HL.out];omega);rw [HV.out] at hrc;have HRC:=Hi hrc;clear hrc;have hfz:=aH.frozen HR.out;have hLl:=aH.lt HR.out;have Zi:Hid (Sz S (os.getD i 0)):=Hi (by have:=HZ.out.at (i:=i) (by rw [nXk];omega);rwa [cS zo] at this);obtain ⟨rn,ra,rl,rc,rb,rm,rd⟩:=r;simp only at f1 f2 f3
   go_upto_region 4 with fail
   refine wpG 8 (fun opIx=>match opIx with
    | 7=>sR (os.getD i 0*q)
    | _=>.quiet) (fun _=>[]) fun w0 he0 hz0 hc0 hf0=>?_
   refine wps he0 (fun w1 hW hG=>?_) fun x7=>?_
   ·exact spc [RH.v ⟨rn,ra,rl,rc,rb,rm,rd⟩,RH.v ⟨tn,ta,tl,tc,tb,tm,td⟩] Tryz.func108 (aK _ _ _ _ _ ((HRC.out.ext hW).raw Zi.out zo) ((HT.out.ext hW).raw ZQ.out zo))
   refine qZ ?_;refine aq ?_;intro w5 hI;have hE:=he0.out.trans hI.ext;have G7:=gT (hI.facts 7);clear hI he0 hz0 hc0 hf0;replace HX:=Hi (Mut.trans HX.out (Mut.of_ext hE));refine mV3 hE ?_ B3 HR HT;clear B3 HR HT;intro B3 HR HT;have hs_w5:=hE.size;replace b_B3:=bX3 B3;simp only [pD];clear f1 f2 f3 hfz hLl;obtain ⟨r2,⟨f1,f2,f3⟩,-⟩:=aH.cells HR.out (k:=i) (by rw [HL.out];omega);have hfz:=aH.frozen HR.out
   go_upto_region 5 with fail
   refine eW (k:=i) HR.out (by rw [HL.out];omega) G7.out ?_;rintro y6 ⟨cs,T⟩ TN;rw [mW zo] at TN;clear f1 f2 f3 hfz HL HV;clear HR;replace HX:=Hi (Mut.put HX.out T (by first|exact Or.inl rfl|exact Or.inr zo));replace HT:=Hi (HT.out.keep T.keep);replace B3:=Hi (T.rest _ _ zo B3.out);replace G7:=Hi (G7.out.keep T.keep);have hs_y6:=nle T.size;have hr_y6:=nle T.size.symm;clear T;replace b_B3:=bX3 B3;have HR:=Hi TN;clear TN;go_wp2
   go_roundg (gk-1)
   case measure=>omega
   case rel=>exact ⟨i+1,zo,by go_num,HX.out,HT.out,B3.out,HR.out⟩
  subst h0;obtain rfl:i=n:=by omega
  have hin:¬ (i:Int)<i:=zo;go_wp2;exact bodyPost_end (results_none rfl _ _ _) rfl ⟨rfl,HX.out,HR.out⟩
end Go.Proofs.YtkcpmclnocmalaaGreat
