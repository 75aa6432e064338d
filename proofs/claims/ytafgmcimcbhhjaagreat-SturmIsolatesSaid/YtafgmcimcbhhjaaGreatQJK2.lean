import Derived.Test.YtafgmcimcbhhjaaGreatQJM22
set_option linter.unusedVariables false
set_option maxRecDepth 8000
set_option maxHeartbeats 4000000
namespace Go.Proofs.YtafgmcimcbhhjaaGreat
open Go.RowKit Go.Front Go.Num
attribute [local go_sem] XW.cell XW.frozen
theorem au.weak{f:FuncId}{args:List Value}{w:World}{α:Type}{mk:α→Value}{φ ψ:α→World→Prop}(h:au f args w mk φ)(hi:∀ x w',Ext w w'→φ x w'→ψ x w'):au f args w mk ψ:=by
 refine Calls.mono h ?_;rintro e w' ⟨x,rfl,h1,h2⟩;exact ⟨x,rfl,h1,hi x w' h1 h2⟩
def jV(w:World)(rs:List RH)(ts:List Rat):Prop:=∀ j,j<ts.length→aB w (rs.getD j default) (ts.getD j 0)
theorem jV.ext{w w':World}{rs:List RH}{ts:List Rat}(h:jV w rs ts)(he:Ext w w'):jV w' rs ts:=fun j hj=>(h j hj).ext he
instance {w w':World} {rs:List RH} {ts:List Rat}:Go.Front.Mv w w' (jV w rs ts) (jV w' rs ts):=⟨fun e h=>jV.ext h e⟩

theorem jV.keep{w w':World}{rs:List RH}{ts:List Rat}(h:jV w rs ts)(he:gP w w'):jV w' rs ts:=fun j hj=>(h j hj).keep he
theorem na{rs:List RH}{i:Nat}{x:RH}(h:i<rs.length):(rs.set i x).getD i default=x:=by simp [h]
theorem lG{rs:List RH}{i j:Nat}{x:RH}(h:i≠j):(rs.set i x).getD j default=rs.getD j default:=by
 rw [nXd,nXd,List.getElem?_set_ne h]
theorem jV.snoc{w:World}{rs:List RH}{ts:List Rat}(h:jV w rs ts){x:RH}{q:Rat}{i:Nat}(hl:ts.length=i)(hi:i<rs.length)(hx:aB w x q):jV w (rs.set i x) (ts++[q]):=by
 intro j hj;by_cases hji:j<ts.length
 ·rw [lG zo,show (ts++[q]).getD j 0=ts.getD j 0 by rw [nXd,List.getElem?_append_left hji,←nXd]];exact h j hji
 ·obtain rfl:j=ts.length:=by simp at hj;omega
  subst hl;rw [na hi,show (ts++[q]).getD ts.length 0=q by simp];exact hx
theorem jV.list{w:World}{L M:Nat}{rs:List RH}{ts:List Rat}{B:Nat}(h:jV w rs ts)(hb:RBk w L rs #[])(hl:rs.length=M)(ht:ts.length=M)(hB:B≤L)(hM:M≤9223372036854775807):eL B w ⟨some ⟨L,0,none⟩,M,M⟩ ts :=
 ⟨rs,hb.rs hl (nXe _) hM,⟨zo,h⟩,Or.inr ⟨L,0,rfl,hB,hb.lt⟩⟩
theorem oR{w:World}{N:Nat}{T:TypeId}(h:w.heap[N]?=some (.cells #[.int .u32 1] T (0,0))):U32 w (some ⟨N,0,none⟩) 1 1 [1]:=by
 refine ⟨rfl,dZ,dZ,Dig.cons dZ Dig.nil,Or.inr ⟨N,0,rfl,fun k hk=>?_⟩⟩;obtain rfl:k=0:=by simp at hk;omega
 rw [ae h];rfl
theorem AE(ao:Option Addr)(n cap:Nat)(l:List Rat)(t:RH)(c:Rat)(w:World)(h:cD w ⟨ao,n,cap⟩ l)(ht:aS w t c)(hcz:c≠0)(hn:n≤1073741824) :
  au 127 [.slice ao n cap,t.v] w SH.v (fun s w'=>eL w.heap.size w' s (l.map (· / c))):=by
 obtain ⟨i0,hi0,hz0,hz1,hz2⟩:=info_parts k9;obtain ⟨tn,ta,tl,tc,tb,tm,td⟩:=t;have H:=Hi h;have HR:=Hi ht;have HX:=Hi (Ext.refl w);have hle:=h.le;have hmx:=h.max;have Hlen:=Hi h.len;simp only at hle hmx Hlen;clear h ht;unfold au;go_enter Tryz.func127,Tryz.ntmps127
 go_upto_region 1 with fail
 refine nmA ?_;intro w1 hE B3 hz_w1 hr_w1;refine mV2 hE ?_ HR HX;clear HR HX;intro HR HX;have hs_w1:=hE.size;replace b_B3:=bX3 B3
 go_upto_region 2 with (refine aF rfl (.tmp 8) (.tmp 8) 23 rfl 34 i0 (RH.v default) 3 Tryz.underlying23 hi0 hz0 hz1 _ _ n rfl rfl zo zo (by rw [hz2];omega) zo ?_;intro w2 hnew hE)
 have KB:=Hi (RBk.make rfl hnew);clear hnew;refine mV3 hE ?_ B3 HR HX;clear B3 HR HX;intro B3 HR HX;have hs_w2:=hE.size;replace b_B3:=bX3 B3;obtain ⟨b3,hb3⟩:∃ b3,b3=w.heap.size:=⟨_,rfl⟩;obtain ⟨L,hL⟩:∃ L,L=w1.heap.size:=⟨_,rfl⟩;have hLw:w.heap.size≤L:=zo;have hbw:w.heap.size≤b3:=zo;have hne:b3≠L:=zo;rw [←hb3] at B3 ⊢;rw [←hL] at KB ⊢;clear hb3 hL b_B3;go_wp2
 go_loopg [12] n (fun g v wr=>∃ (i:Nat) (rs:List RH),i+g=n∧v=.int .i64 (i:Nat)∧Ext w wr∧aS wr ⟨tn,ta,tl,tc,tb,tm,td⟩ c∧wr.heap[b3]?=some (.cells #[.bool tn,.slice ta tl tc,.slice tb tm td] 34 (0,0))∧RBk wr L rs #[]∧rs.length=n∧jV wr rs ((l.take i).map (· / c)))
 case atStart=>exact ⟨0,_,zo,rfl,HX.out,HR.out,B3.out,KB.out,by simp,fun j hj=>by simp at hj⟩
 case round =>
  obtain ⟨i,rs,hi,rfl,g1,g2,g3,g4,g5,g6⟩:=hrel;clear HX HR B3 KB;have HX:=Hi g1;have HR:=Hi g2;have B3:=Hi g3;have KB:=Hi g4;have HRl:=Hi g5;have PC:=Hi g6;clear g1 g2 g3 g4 g5 g6;have HTl:Hid (((l.take i).map (· / c)).length=i):=Hi (by rw [nXl,nXk,Hlen.out];omega);replace b_B3:=bX3 B3
  try clear f_KB l_KB
  have f_KB:=af KB.out;have l_KB:=(nXb.1 KB.out).1;by_cases h0:gk=0
  ·subst h0;obtain rfl:i=n:=by omega
   have HE:Hid (l.take i=l):=Hi (nXm (by rw [Hlen.out];exact nXe _));rw [HE.out] at PC HTl;go_wp2
   go_ret
   exact ⟨⟨some ⟨L,0,none⟩,i,i⟩,rfl,HX.out,jV.list PC.out KB.out HRl.out HTl.out hLw zo⟩
  ·obtain ⟨b,off,r,hao,hbl,⟨hc1,hc2,hc3⟩,hP⟩:=(H.out.ext HX.out).cells' (k:=i) zo;obtain ⟨rneg,ra,rn,rc,rb,rm,rd⟩:=r;simp only at hc1 hc2 hc3;subst hao;have RP:=Hi hP;clear hP;have hin:(i:Int)<n:=zo
   go_upto_region 5 with fail
   refine bG [(12,10)] _ (by simp only [fx,gR,List.push_toArray,List.cons_append,List.nil_append];exact rfl) (by intro c a d v w h;cases d <;> exact h) 12 (fun opIx=>match opIx with
    | 7=>.spec (RH) (default) (fun s=>.tuple #[s.v,.int .i64 0]) (fun x w'=>aB w' x (l.getD i 0 / c))
    | _=>.quiet) (fun _=>[]) kZ kZ kZ (fun w0 he0 hz0 hc0 hf0=>?_)
   replace he0:=Hi he0;simp only [pT];refine qQ ?_;refine wps he0 (fun w1 hW hG=>?_) fun x7=>?_
   ·exact spc [RH.v ⟨rneg,ra,rn,rc,rb,rm,rd⟩,RH.v ⟨tn,ta,tl,tc,tb,tm,td⟩] Tryz.func121 (cF _ _ _ _ _ (RP.out.ext hW) (HR.out.ext hW) hcz)
   refine qZ ?_;refine aq ?_;intro w5 hI;have hE:=he0.out.trans hI.ext;have G7:=gT (hI.facts 7);clear hI he0 hz0 hc0 hf0;refine mV5 hE ?_ HX B3 KB PC HR;clear HX B3 KB PC HR;intro HX B3 KB PC HR;have hs_w5:=hE.size;replace b_B3:=bX3 B3
   try clear f_KB l_KB
   have f_KB:=af KB.out;have l_KB:=(nXb.1 KB.out).1;simp only [pD];obtain ⟨f1,f2,f3⟩:=RBk.at (re:=#[]) KB.out (k:=i) (by rw [HRl.out];omega)
   go_upto_region 6 with fail
   refine jc (k:=i) KB.out rfl (by rw [HRl.out];omega) ?_;intro y6 T;clear f1 f2 f3 hc1 hc2 hc3;replace HX:=Hi (T.ext HX.out zo);replace HR:=Hi (HR.out.keep T.keep);replace PC:=Hi (PC.out.keep T.keep);replace B3:=Hi (T.rest _ _ zo B3.out);replace KB:=Hi (T.bx);replace G7:=Hi (G7.out.keep T.keep);have hs_y6:=nle T.size;have hr_y6:=nle T.size.symm;clear T;replace b_B3:=bX3 B3
   try clear f_KB l_KB
   have f_KB:=af KB.out;have l_KB:=(nXb.1 KB.out).1;replace PC:=Hi (PC.out.snoc (x:=x7) (i:=i) HTl.out (by rw [HRl.out];omega) G7.out);have HMp:Hid ((l.take i).map (· / c)++[l.getD i 0 / c]=(l.take (i+1)).map (· / c)):=Hi (by rw [←iQ (by rw [Hlen.out];omega),List.map_append];rfl);rw [HMp.out] at PC;go_wp2
   go_roundg (gk-1)
   case measure=>omega
   case rel=>exact ⟨i+1,_,zo,by go_num,HX.out,HR.out,B3.out,KB.out,by rw [nXo];exact HRl.out,PC.out⟩
theorem rV(ao:Option Addr)(n cap:Nat)(l:List Rat)(t:RH)(c:Rat)(w:World)(h:cD w ⟨ao,n,cap⟩ l)(ht:aS w t c)(hn:n≤1073741824)(hz:SzL 33554432 l)(hzc:Sz 33554432 c) :
  au 102 [.slice ao n cap,t.v] w SH.v (fun s w'=>eL w.heap.size w' s (tz (l.map (·*c)))∧s.c=n∧∃ L,s.a=some ⟨L,0,none⟩∧w.heap.size≤L∧lB w' L (l.map (·*c)) 67108864):=by
 obtain ⟨i0,hi0,hz0,hz1,hz2⟩:=info_parts k9;obtain ⟨tn,ta,tl,tc,tb,tm,td⟩:=t;have H:=Hi h;have HR:=Hi ht;have HX:=Hi (Ext.refl w);have hle:=h.le;have hmx:=h.max;have Hlen:=Hi h.len;simp only at hle hmx Hlen;have HZ:=Hi hz;have HZc:=Hi hzc;clear h ht hz hzc;unfold au;go_enter Tryz.func102,Tryz.ntmps102
 go_upto_region 1 with fail
 refine nmA ?_;intro w1 hE B3 hz_w1 hr_w1;refine mV2 hE ?_ HR HX;clear HR HX;intro HR HX;have hs_w1:=hE.size;replace b_B3:=bX3 B3
 go_upto_region 2 with (refine aF rfl (.tmp 8) (.tmp 8) 24 rfl 34 i0 (RH.v default) 3 Tryz.underlying24 hi0 hz0 hz1 _ _ n rfl rfl zo zo (by rw [hz2];omega) zo ?_;intro w2 hnew hE)
 have KB:=Hi (RBk.make rfl hnew);clear hnew;refine mV3 hE ?_ B3 HR HX;clear B3 HR HX;intro B3 HR HX;have hs_w2:=hE.size;replace b_B3:=bX3 B3;obtain ⟨b3,hb3⟩:∃ b3,b3=w.heap.size:=⟨_,rfl⟩;obtain ⟨L,hL⟩:∃ L,L=w1.heap.size:=⟨_,rfl⟩;have hLw:w.heap.size≤L:=zo;have hbw:w.heap.size≤b3:=zo;have hne:b3≠L:=zo;rw [←hb3] at B3 ⊢;rw [←hL] at KB ⊢;clear hb3 hL b_B3;go_wp2
 go_loopg [12] n (fun g v wr=>∃ (i:Nat) (rs:List RH),i+g=n∧v=.int .i64 (i:Nat)∧Ext w wr∧aS wr ⟨tn,ta,tl,tc,tb,tm,td⟩ c∧wr.heap[b3]?=some (.cells #[.bool tn,.slice ta tl tc,.slice tb tm td] 34 (0,0))∧RBk wr L rs #[]∧rs.length=n∧jV wr rs ((l.take i).map (·*c)))
 case atStart=>exact ⟨0,_,zo,rfl,HX.out,HR.out,B3.out,KB.out,by simp,fun j hj=>by simp at hj⟩
 case round =>
  obtain ⟨i,rs,hi,rfl,g1,g2,g3,g4,g5,g6⟩:=hrel;clear HX HR B3 KB;have HX:=Hi g1;have HR:=Hi g2;have B3:=Hi g3;have KB:=Hi g4;have HRl:=Hi g5;have PC:=Hi g6;clear g1 g2 g3 g4 g5 g6;have HTl:Hid (((l.take i).map (·*c)).length=i):=Hi (by rw [nXl,nXk,Hlen.out];omega);replace b_B3:=bX3 B3
  try clear f_KB l_KB
  have f_KB:=af KB.out;have l_KB:=(nXb.1 KB.out).1;by_cases h0:gk=0
  ·subst h0;obtain rfl:i=n:=by omega
   have HE:Hid (l.take i=l):=Hi (nXm (by rw [Hlen.out];exact nXe _));rw [HE.out] at PC HTl;have LL:Hid (eL w.heap.size wr ⟨some ⟨L,0,none⟩,i,i⟩ (l.map (·*c))):=Hi (jV.list PC.out KB.out HRl.out HTl.out hLw zo);have HSz:Hid (SzL 67108864 (l.map (·*c))):=Hi (by
    intro q hq;obtain ⟨y,hy,rfl⟩:=nYf.1 hq;exact ((HZ.out y hy).mul HZc.out).mono dZ)
   have OB:Hid (lB wr L (l.map (·*c)) 67108864):=Hi ⟨rs,KB.out,⟨by rw [HRl.out,HTl.out],fun k hk=>(PC.out k hk).raw (HSz.out.at hk) dZ⟩,HSz.out⟩
   (try clear b_B3);clear B3
   clear KB;clear PC;clear HR
   go_wp2_with fail
   refine cM (fi (some ⟨L,0,none⟩) i i (l.map (·*c)) _ (LL.out.can.raw HSz.out dZ)) fun x1 w1 hE G1=>?_
   refine mV3 hE ?_ HX LL OB;clear HX LL OB;intro HX LL OB;have hs_w1:=hE.size;obtain ⟨q1,q2⟩:=G1.out;have HQ1:=Hi q1;have HQ2:=Hi q2;clear q1 q2 G1;go_wp2
   go_ret
   refine ⟨⟨some ⟨L,0,none⟩,(tz (l.map (·*c))).length,i⟩,rfl,HX.out,?_⟩;have:=LIn.take LL.out HQ2.out;rw [←HQ1.out] at this;exact ⟨this,rfl,L,rfl,hLw,OB.out⟩
  ·obtain ⟨b,off,r,hao,hbl,⟨hc1,hc2,hc3⟩,hP⟩:=(H.out.ext HX.out).cells' (k:=i) zo;obtain ⟨rneg,ra,rn,rc,rb,rm,rd⟩:=r;simp only at hc1 hc2 hc3;subst hao;have RP:=Hi hP;clear hP;have hin:(i:Int)<n:=zo
   go_upto_region 5 with fail
   refine wpG 9 (fun opIx=>match opIx with
    | 7=>sR (l.getD i 0*c)
    | _=>.quiet) (fun _=>[]) fun w0 he0 hz0 hc0 hf0=>?_
   refine wps he0 (fun w1 hW hG=>?_) fun x7=>?_
   ·exact spc [RH.v ⟨rneg,ra,rn,rc,rb,rm,rd⟩,RH.v ⟨tn,ta,tl,tc,tb,tm,td⟩] Tryz.func85 (bQ _ _ _ _ _ (RP.out.ext hW) (HR.out.ext hW))
   refine qZ ?_;refine aq ?_;intro w5 hI;have hE:=he0.out.trans hI.ext;have G7:=gT (hI.facts 7);clear hI he0 hz0 hc0 hf0;refine mV5 hE ?_ B3 KB PC HX HR;clear B3 KB PC HX HR;intro B3 KB PC HX HR;have hs_w5:=hE.size;replace b_B3:=bX3 B3
   try clear f_KB l_KB
   have f_KB:=af KB.out;have l_KB:=(nXb.1 KB.out).1;simp only [pD];obtain ⟨f1,f2,f3⟩:=RBk.at (re:=#[]) KB.out (k:=i) (by rw [HRl.out];omega)
   go_upto_region 6 with fail
   refine jc (k:=i) KB.out rfl (by rw [HRl.out];omega) ?_;intro y6 T;clear f1 f2 f3 hc1 hc2 hc3;replace HX:=Hi (T.ext HX.out zo);replace HR:=Hi (HR.out.keep T.keep);replace PC:=Hi (PC.out.keep T.keep);replace B3:=Hi (T.rest _ _ zo B3.out);replace KB:=Hi (T.bx);replace G7:=Hi (G7.out.keep T.keep);have hs_y6:=nle T.size;have hr_y6:=nle T.size.symm;clear T;replace b_B3:=bX3 B3
   try clear f_KB l_KB
   have f_KB:=af KB.out;have l_KB:=(nXb.1 KB.out).1;replace PC:=Hi (PC.out.snoc (x:=x7) (i:=i) HTl.out (by rw [HRl.out];omega) G7.out);have HMp:Hid ((l.take i).map (·*c)++[l.getD i 0*c]=(l.take (i+1)).map (·*c)):=Hi (by rw [←iQ (by rw [Hlen.out];omega),List.map_append];rfl);rw [HMp.out] at PC;go_wp2
   go_roundg (gk-1)
   case measure=>omega
   case rel=>exact ⟨i+1,_,zo,by go_num,HX.out,HR.out,B3.out,KB.out,by rw [nXo];exact HRl.out,PC.out⟩
theorem jE(ao:Option Addr)(n cap:Nat)(l:List Rat)(t:RH)(c:Rat)(w:World)(h:cD w ⟨ao,n,cap⟩ l)(ht:aS w t c)(hn:n≤1073741824)(hz:SzL 33554432 l)(hzc:Sz 33554432 c) :
  au 102 [.slice ao n cap,t.v] w SH.v (fun s w'=>eL w.heap.size w' s (tz (l.map (·*c)))):=(rV ao n cap l t c w h ht hn hz hzc).weak (fun _ _ _ h=>h.1)
theorem sO{a b:List Rat}(h:∀ i,a.getD i 0=b.getD i 0):tz a=tz b:=by
 have hl:∀ a b:List Rat,(∀ i,a.getD i 0=b.getD i 0)→(tz a).length≤(tz b).length:=by
  intro a b h;rcases Nat.lt_or_ge (tz b).length (tz a).length with h1|h1
  ·exfalso;obtain ⟨n,hn⟩:∃ n,(tz a).length=n+1:=⟨(tz a).length-1,zo⟩;have h2:(tz a).getD n 0=0:=by
    rw [oT zo,h n,sN zo]
   have h3:=aM a;have h4:tz ((tz a).take (n+1))=tz ((tz a).take n):=ju zo h2;rw [←hn,List.take_length,h3] at h4;have h5:=ah ((tz a).take n);rw [←h4,nXk] at h5;omega
  ·exact h1
 apply Stab.getD_ext
 ·exact Nat.le_antisymm (hl a b h) (hl b a (fun i=>(h i).symm))
 ·intro i _;rw [bp,bp,h]
theorem s7{n m:Nat}{f:Nat→Rat}(h:n≤m)(h0:∀ i,n≤i→i<m→f i=0):Stab.sm n f=Stab.sm m f:=by
 obtain ⟨d,rfl⟩:∃ d,m=n+d:=⟨m-n,zo⟩;rw [Stab.sm_split,Stab.sm_congr (n:=d) (g:=fun _=>0) (fun i hi=>h0 (n+i) zo zo),Stab.sm_zero];grind
theorem CL{w:World}{N:Nat}{x y z t:RH}{p q r s:Rat}(h:w.heap[N]?=some (.cells #[.bool x.neg,.slice x.a x.n x.c,.slice x.b x.m x.d,.bool y.neg,.slice y.a y.n y.c,.slice y.b y.m y.d,.bool z.neg,.slice z.a z.n z.c,.slice z.b z.m z.d,.bool t.neg,.slice t.a t.n t.c,.slice t.b t.m t.d] 34 (0,0)))(hx:aB w x p)(hy:aB w y q)(hz:aB w z r)(ht:aB w t s):bw w ⟨some ⟨N,0,none⟩,4,4⟩ [p,q,r,s] :=
 ⟨[x,y,z,t],RBk.rs (rs:=[x,y,z,t]) (re:=#[]) h rfl (nXe _) dZ,((((dX.nil _ _).snoc hx).snoc hy).snoc hz).snoc ht⟩
open Stab
theorem Fr.mono{S S' D:Nat}{q:Rat}(h:Fr S D q)(hS:S≤S'):Fr S' D q:=Wz.mono (q:=q*(D:Rat)) h hS
theorem Fr.add{S D:Nat}{a b:Rat}(ha:Fr S D a)(hb:Fr S D b):Fr (S+1) D (a+b):=by
 have:=Wz.add (a:=a*(D:Rat)) (b:=b*(D:Rat)) ha hb;rw [←Rat.add_mul] at this;exact this
theorem Fr.mul{S U D E:Nat}{a b:Rat}(ha:Fr S D a)(hb:Fr U E b):Fr (S+U) (D*E) (a*b):=by
 have:=Wz.mul (a:=a*(D:Rat)) (b:=b*(E:Rat)) ha hb;have e:a*b*((D*E:Nat):Rat)=a*(D:Rat)*(b*(E:Rat)):=by rw [Rat.natCast_mul];grind
 unfold Fr;rw [e];exact this
theorem Fr.one{S:Nat}{q:Rat}(h:Wz S q):Fr S 1 q:=by
 unfold Fr;rw [show q*((1:Nat):Rat)=q from Rat.mul_one q];exact h
def FrL(S D:Nat)(l:List Rat):Prop:=∀ x ∈ l,Fr S D x
theorem FrL.mono{S S' D:Nat}{l:List Rat}(h:FrL S D l)(hS:S≤S'):FrL S' D l:=fun x hx=>(h x hx).mono hS
theorem FrL.at{S D:Nat}{l:List Rat}(h:FrL S D l)(i:Nat):Fr S D (l.getD i 0):=by
 rcases Nat.lt_or_ge i l.length with hi|hi
 ·exact h _ (lj hi)
 ·rw [bh hi];exact Fr.zero _ _
theorem FrL.of{S D:Nat}{l:List Rat}(h:∀ i,Fr S D (l.getD i 0)):FrL S D l:=fun x hx=>by
 obtain ⟨i,-,rfl⟩:=cT hx;exact h i
theorem FrL.tz{S D:Nat}{l:List Rat}(h:FrL S D l):FrL S D (tz l):=FrL.of fun i=>by rw [bp];exact h.at i
theorem FrL.sz{S D:Nat}{l:List Rat}(h:FrL S D l)(hS:1≤S)(hD:0<D)(hl:D<W32 ^ S):SzL S l:=fun x hx=>(h x hx).sz hS hD hl
theorem FrL.range{S D n:Nat}{f:Nat→Rat}(h:∀ i,i<n→Fr S D (f i)):FrL S D ((List.range n).map f):=fun x hx=>by
 obtain ⟨i,hi,rfl⟩:=nYf.1 hx;exact h i (List.mem_range.1 hi)
theorem yP{S U D:Nat}{L x:Rat}(hL:Wz U L)(h:Wz S (x*(D:Rat)*L)):Fr S (D*L.num.natAbs) x:=by
 have e0:x*((D*L.num.natAbs:Nat):Rat)=x*(D:Rat)*((L.num.natAbs:Nat):Rat):=by rw [Rat.natCast_mul,nYd]
 unfold Fr;rw [e0];have e1:=hL.1.eq;have e2:((L.num.natAbs:Nat):Rat)=(((L.num.natAbs:Nat):Int):Rat):=rfl;rcases Int.natAbs_eq L.num with h1|h1
 ·rw [e2,←h1,←e1];exact h
 ·have e3:(((L.num.natAbs:Nat):Int):Rat)=-L:=by
   have:((L.num.natAbs:Nat):Int)=-L.num:=by omega
   rw [this,Rat.intCast_neg,←e1]
  rw [e2,e3,Rat.mul_neg];exact h.neg
theorem ki{U E:Nat}{q:List Rat}(hq:FrL U E q):Wz U (aJ q*(E:Rat)):=hq.at _
def ldD(q:List Rat)(E:Nat):Nat:=(aJ q*(E:Rat)).num.natAbs
theorem qL{U E:Nat}{q:List Rat}(hq:FrL U E q):ldD q E<W32 ^ U:=(ki hq).2
theorem m7{U E:Nat}{q:List Rat}(hq:FrL U E q)(h0:aJ q≠0)(hE:0<E):0<ldD q E:=by
 rcases Nat.eq_zero_or_pos (ldD q E) with h|h
 ·exfalso;have h1:(aJ q*(E:Rat)).num=0:=by unfold ldD at h;omega
  have h2:=(ki hq).1.eq;rw [h1] at h2;rcases nXr.1 h2 with h3|h3
  ·exact h0 h3
  ·have:((E:Nat):Rat)=(((E:Nat):Int):Rat):=rfl;rw [this] at h3;have h4:=congrArg Rat.num h3;rw [Rat.num_intCast] at h4;have:((0:Rat)).num=0:=rfl;omega
 ·exact h
theorem qi{S U D E:Nat}{p q:List Rat}(hp:FrL S D p)(hq:FrL U E q)(h0:aJ q≠0):FrL (S+U+1) (D*ldD q E) (dC p q):=by
 unfold dC;refine FrL.tz (FrL.range fun i _=>?_);refine yP (ki hq) ?_;have h1:Wz (S+U) (p.getD i 0*(D:Rat)*(aJ q*(E:Rat))):=Wz.mul (hp.at i) (ki hq);have h2:Wz (S+U) (aJ p*(D:Rat)*(q.getD (i-(p.length-q.length)) 0*(E:Rat))):=Wz.mul (hp.at _) (hq.at _);have h3:=cm (a:=aJ p) h0;split
 ·have e:(p.getD i 0-aJ p / aJ q*q.getD (i-(p.length-q.length)) 0)*(D:Rat)*(aJ q*(E:Rat))=p.getD i 0*(D:Rat)*(aJ q*(E:Rat))-aJ p*(D:Rat)*(q.getD (i-(p.length-q.length)) 0*(E:Rat)):=by
   generalize aJ p / aJ q=c at *
   rw [←h3];grind
  rw [e];exact h1.sub h2
 ·have e:(p.getD i 0-0)*(D:Rat)*(aJ q*(E:Rat))=p.getD i 0*(D:Rat)*(aJ q*(E:Rat)):=by grind
  rw [e];exact h1.mono zo
theorem t7{S D:Nat}{p:List Rat}(hp:FrL S D p):FrL S (ldD (tz p) D) (bq p):=by
 unfold bq;split
 ·intro x hx;simp at hx
 ·next h =>
  refine FrL.tz fun x hx=>?_
  obtain ⟨y,hy,rfl⟩:=nYf.1 hx;have h1:=yP (S:=S) (D:=1) (x:=y*(((1:Int):Rat) / aJ (tz p))) (ki hp.tz) (by
   have h2:=cm (a:=((1:Int):Rat)) (bT h);have e:y*(((1:Int):Rat) / aJ (tz p))*((1:Nat):Rat)*(aJ (tz p)*(D:Rat))=y*(D:Rat):=by
    have h3:((1:Int):Rat)=1:=rfl;have h4:((1:Nat):Rat)=1:=rfl;rw [h4];rw [h3] at h2 ⊢;generalize 1 / aJ (tz p)=c at *
    grind
   rw [e];exact hp.tz y hy)
  rwa [Nat.one_mul] at h1
theorem Dx(p:List Rat)(u:Nat→Rat):ap (tz p) u=ap p u:=by rw [iC,iC,aT]
theorem dH(p q:List Rat):seq (aI p q)=ap p (seq q):=by rw [wW,Dx,aT]
def FrB(S:Nat)(l:List Rat):Prop:=1≤S∧∃ D,0<D∧D<W32 ^ S∧FrL S D l
theorem rC{S U:Nat}(h:S≤U):W32 ^ S≤W32 ^ U:=nXp ay h
theorem FrB.mono{S U:Nat}{l:List Rat}(h:FrB S l)(hS:S≤U):FrB U l:=by
 obtain ⟨h0,D,h1,h2,h3⟩:=h;exact ⟨zo,D,h1,nXn h2 (rC hS),h3.mono hS⟩
theorem FrB.tz{S:Nat}{l:List Rat}(h:FrB S l):FrB S (tz l):=by
 obtain ⟨h0,D,h1,h2,h3⟩:=h;exact ⟨h0,D,h1,h2,h3.tz⟩
theorem FrB.of{k n:Nat}{p:List Rat}(h:SzL k p)(hl:p.length≤n):FrB (k*(n+1)+1) p:=by
 obtain ⟨D,h1,h2,h3⟩:=yO p h;have e:=nXg k (show p.length+1≤n+1 by omega);have e2:=nXg k (show p.length≤n+1 by omega);exact ⟨zo,D,h1,nXn h2 (rC zo),FrL.mono h3 zo⟩
def evV(p:List Rat)(x:Rat):Rat:=p.foldr (fun c y=>y*x+c) 0
theorem iw(c:Rat)(p:List Rat)(x:Rat):evV (c :: p) x=evV p x*x+c:=rfl
theorem Dq(p:List Rat)(x:Rat):evV p x=sm p.length (fun i=>p.getD i 0*x ^ i):=by
 induction p with
 | nil=>rfl
 | cons c p ih =>
  rw [iw,ih,List.length_cons,iU,nYc,←lO];rw [sm_congr (f:=fun i=>(c :: p).getD (i+1) 0*x ^ (i+1)) (g:=fun i=>x*(p.getD i 0*x ^ i)) (fun i _=>by rw [List.getD_cons_succ,Rat.pow_succ];grind)];rw [List.getD_cons_zero,Rat.pow_zero];grind
theorem oy{p:List Rat}{N:Nat}(h:p.length≤N)(x:Rat):evV p x=sm N (fun i=>seq p i*x ^ i):=by
 rw [Dq];exact s7 h (fun i h1 h2=>by rw [bh h1];grind)
theorem eC{p q:List Rat}{c:Rat}(h:∀ i,seq p i=c*seq q i)(x:Rat):evV p x=c*evV q x:=by
 rw [oy (Nat.le_max_left p.length q.length),oy (Nat.le_max_right p.length q.length),←lO];exact sm_congr (fun i _=>by rw [h];grind)
theorem Aw(p:List Rat)(x:Rat):evV (tz p) x=evV p x:=by
 rw [eC (p:=tz p) (q:=p) (c:=1) (fun i=>by rw [aT];grind) x];grind
theorem uO{p:List Rat}{i:Nat}(h:i<p.length):p.drop i=p.getD i 0 :: p.drop (i+1):=by
 rw [List.drop_eq_getElem_cons h,nXd,List.getElem?_eq_getElem h];rfl
theorem Ay{p:List Rat}{i:Nat}(h:i<p.length)(x:Rat):evV (p.drop i) x=evV (p.drop (i+1)) x*x+p.getD i 0:=by rw [uO h,iw]
def ehS(a:List Rat)(x:Rat)(i:Nat):Rat:=if i=0 then 0 else ((x.den:Int):Rat) ^ (i-1)*evV (a.drop (a.length-i)) x
def ehP(x:Rat)(i:Nat):Rat:=((x.den:Int):Rat) ^ (i-1)
theorem CA(x:Rat):((x.den:Int):Rat)≠0:=fun h=>by
 have h1:=congrArg Rat.num h;rw [Rat.num_intCast] at h1;have:=x.den_nz;have h2:((0:Rat)).num=0:=rfl;omega
theorem uK{a:List Rat}{i:Nat}(x:Rat)(h:i<a.length):ehS a x i*(x.num:Rat)+a.getD (a.length-1-i) 0*ehP x (i+1)=ehS a x (i+1):=by
 have hx:x*((x.den:Int):Rat)=(x.num:Rat):=low x;have e1:=Ay (p:=a) (i:=a.length-1-i) zo x;rw [show a.length-1-i+1=a.length-i by omega] at e1;unfold ehS ehP;rw [if_neg (Nat.succ_ne_zero i),Nat.add_sub_cancel,show a.length-(i+1)=a.length-1-i by omega,e1];rcases Nat.eq_zero_or_pos i with h0|h0
 ·subst h0;rw [if_pos rfl];simp only [Nat.sub_zero,Rat.pow_zero];rw [List.drop_of_length_le (nXe _)];show (0:Rat)*_+_=1*(0*x+_);grind
 ·rw [if_neg zo];obtain ⟨j,rfl⟩:∃ j,i=j+1:=⟨i-1,zo⟩;rw [Nat.add_sub_cancel,Rat.pow_succ,←hx];grind
theorem xM(x:Rat){i:Nat}(h:0<i):ehP x i*((x.den:Int):Rat)=ehP x (i+1):=by
 unfold ehP;obtain ⟨j,rfl⟩:∃ j,i=j+1:=⟨i-1,zo⟩;rw [Nat.add_sub_cancel,Nat.add_sub_cancel,Rat.pow_succ]
theorem BJ{x:Rat}(h:x≠0)(n:Nat):x ^ n≠0:=by
 induction n with
 | zero=>rw [Rat.pow_zero];decide
 | succ n ih =>
  rw [Rat.pow_succ];intro h1;rcases nXr.1 h1 with h2|h2
  ·exact ih h2
  ·exact h h2
theorem Cs(a:List Rat)(x:Rat):ehS a x a.length / ehP x a.length=evV a x:=by
 unfold ehS ehP;split
 ·next h =>
  rw [nXj.1 h,Rat.div_def,nYa];rfl
 ·rw [Nat.sub_self,List.drop_zero,nYc,Rat.div_def,nYd,nYj _ (BJ (CA x) _),Rat.mul_one]
theorem qB{t:Nat}{x:Rat}(h:Sz t x)(ht:1≤t):Sz t (x.num:Rat):=⟨by rw [Rat.num_intCast];exact h.1,by rw [Rat.den_intCast];exact Nat.one_lt_pow zo dZ⟩
theorem Cz{t:Nat}{x:Rat}(h:Sz t x)(ht:1≤t):Sz t ((x.den:Int):Rat):=⟨by rw [Rat.num_intCast];exact h.2,by rw [Rat.den_intCast];exact Nat.one_lt_pow zo dZ⟩
theorem Fr.up{S U D E:Nat}{a:Rat}(ha:Fr S D a)(hE:E≤W32 ^ U)(h0:0<E):Fr (S+U) (D*E) a:=by
 have e:a*((D*E:Nat):Rat)=a*(D:Rat)*(((E:Nat):Int):Rat):=by rw [Rat.natCast_mul];show _=a*(D:Rat)*(E:Rat);grind
 have h1:Wz S (a*(D:Rat)):=ha;unfold Fr;rw [e];refine ⟨h1.1.mul (Wh.int _),?_⟩;rw [h1.1.eq,←Rat.intCast_mul,Rat.num_intCast,Int.natAbs_mul,nYh,Nat.pow_add];exact Nat.mul_lt_mul_of_lt_of_le h1.2 hE (nYm ay)
theorem uL{t i:Nat}{x:Rat}(h:Sz t x):Wz (t*i+1) (ehP x i):=by
 unfold ehP;have h1:∀ j,Wz (t*j+1) (((x.den:Int):Rat) ^ j):=by
  intro j;induction j with
  | zero=>rw [Rat.pow_zero];exact Wz.one.mono zo
  | succ j ih =>
   rw [Rat.pow_succ];refine (ih.mul (Wz.int (S:=t) (z:=(x.den:Int)) (by simpa using h.2))).mono (by rw [Nat.mul_succ];omega)
 exact (h1 (i-1)).mono (by have:=nXg t (show i-1≤i by omega);omega)
theorem Ct{S t:Nat}{a:List Rat}{x:Rat}(ha:∀ y ∈ a,Wz S y)(h:Sz t x):∀ i,i≤a.length→Wz (S+t+(t+1)*i+1) (ehS a x i):=by
 intro i;induction i with
 | zero=>intro _;unfold ehS;rw [if_pos rfl];exact Wz.zero _
 | succ i ih =>
  intro hi;rw [←uK x zo];have h1:=(ih zo).mul (Wz.int (S:=t) (z:=x.num) h.1);have h2:Wz (S+(t*(i+1)+1)) (a.getD (a.length-1-i) 0*ehP x (i+1)):=(ha _ (lj zo)).mul (uL h);have e:(t+1)*(i+1)=(t+1)*i+t+1:=by rw [Nat.mul_succ];omega
  have e2:t*(i+1)=t*i+t:=by rw [Nat.mul_succ]
  have e3:(t+1)*i=t*i+i:=nXy t i;exact ((h1.mono (S':=S+t+(t+1)*i+1+t) zo).add (h2.mono zo)).mono zo
end Go.Proofs.YtafgmcimcbhhjaaGreat
/- Sturm's theorem over the rationals: on a fine enough grid the changes of sign in a chain fall by one where the first member changes its sign. Plain facts. -/
namespace Go.Proofs.YtafgmcimcbhhjaaGreat.Sg
def sg(q:Rat):Int:=if q<0 then -1 else if q=0 then 0 else 1
theorem cZ{q:Rat}(h:q<0):sg q=-1:=if_pos h
theorem il:sg 0=0:=by decide
theorem fD{q:Rat}(h:0<q):sg q=1:=by unfold sg;rw [if_neg (by grind),if_neg (by grind)]
theorem tri(a b:Rat):a<b∨a=b∨b<a:=by grind
theorem tot(a b:Rat):a≤b∨b≤a:=by grind
theorem bY(q:Rat):(q<0∧sg q=-1)∨(q=0∧sg q=0)∨(0<q∧sg q=1):=by
 rcases tri q 0 with h|h|h
 ·exact Or.inl ⟨h,cZ h⟩
 ·subst h;exact Or.inr (Or.inl ⟨rfl,il⟩)
 ·exact Or.inr (Or.inr ⟨h,fD h⟩)
theorem cL{q:Rat}:sg q=0↔q=0:=by rcases bY q with ⟨h,e⟩|⟨h,e⟩|⟨h,e⟩ <;> rw [e] <;> constructor <;> intro k <;> first|omega|grind
def vr:Int→List Int→Nat
 | _,[]=>0
 | last,s :: l=>if s=0 then vr last l else (if last≠0∧s≠last then 1 else 0)+vr s l
def IsS(x:Int):Prop:=x=-1∨x=0∨x=1
theorem nH(q:Rat):IsS (sg q):=by rcases bY q with ⟨h,e⟩|⟨h,e⟩|⟨h,e⟩ <;> rw [e] <;> unfold IsS <;> omega
inductive Rl:Int→List Int→List Int→Prop
 | nil (p:Int):Rl p [] []
 | big {p x:Int} {a b:List Int} (hx:x≠0) (h:Rl x a b):Rl p (x :: a) (x :: b)
 | small {p x y z:Int} {a b:List Int} (hp:p≠0) (hz:z=-p) (ip:IsS p) (ix:IsS x) (iy:IsS y) (h:Rl z a b):Rl p (x :: z :: a) (y :: z :: b)
theorem pQ{p x z:Int}{a:List Int}(hp:p≠0)(hz:z=-p)(ip:IsS p)(ix:IsS x):vr p (x :: z :: a)=1+vr z a:=by
 have hz0:z≠0:=zo;have hzp:z≠p:=zo;by_cases h0:x=0
 ·subst h0;simp [vr,hz0,hp,hzp]
 ·by_cases h1:x=p
  ·subst h1;simp [vr,h0,hz0,hzp]
  ·have h2:x=z:=by unfold IsS at ip ix;omega
   subst h2;simp [vr,h0,hp,h1]
theorem Rl.vr{p:Int}{a b:List Int}(h:Rl p a b):vr p a=vr p b:=by
 induction h with
 | nil p=>rfl
 | big hx h ih=>simp [Sg.vr,hx,ih]
 | small hp hz ip ix iy h ih=>rw [pQ hp hz ip ix,pQ hp hz ip iy,ih]
def Bd(M x:Rat):Prop:=-M≤x∧x≤M
theorem Bd.mono{M N x:Rat}(h:Bd M x)(k:M≤N):Bd N x:=by have h1:=h.1;have h2:=h.2;exact ⟨by grind,by grind⟩
theorem Bd.add{M N x y:Rat}(h:Bd M x)(k:Bd N y):Bd (M+N) (x+y):=by have h1:=h.1;have h2:=h.2;have h3:=k.1;have h4:=k.2;exact ⟨by grind,by grind⟩
theorem Bd.sub{M N x y:Rat}(h:Bd M x)(k:Bd N y):Bd (M+N) (x-y):=by have h1:=h.1;have h2:=h.2;have h3:=k.1;have h4:=k.2;exact ⟨by grind,by grind⟩
theorem Bd.neg{M x:Rat}(h:Bd M x):Bd M (-x):=by have h1:=h.1;have h2:=h.2;exact ⟨by grind,by grind⟩
theorem Bd.mul{M N x y:Rat}(h:Bd M x)(k:Bd N y):Bd (M*N) (x*y):=by
 have h1:=h.1;have h2:=h.2;have h3:=k.1;have h4:=k.2;have e1:=Rat.mul_nonneg (a:=M-x) (b:=N+y) (by grind) (by grind);have e2:=Rat.mul_nonneg (a:=M+x) (b:=N-y) (by grind) (by grind);have e3:=Rat.mul_nonneg (a:=M-x) (b:=N-y) (by grind) (by grind);have e4:=Rat.mul_nonneg (a:=M+x) (b:=N+y) (by grind) (by grind);exact ⟨by grind,by grind⟩
theorem Bd.self{x:Rat}(h:0≤x):Bd x x:=⟨by grind,by grind⟩
theorem Bd.ex(x:Rat):∃ M,0≤M∧Bd M x:=by
 rcases tot 0 x with h|h
 ·exact ⟨x,h,by grind,by grind⟩
 ·exact ⟨-x,by grind,by grind,by grind⟩
theorem fv{A B x:Rat}:∃ R,0≤R∧∀ x,A≤x→x≤B→Bd R x:=by
 obtain ⟨M,h1,h2⟩:=Bd.ex A;obtain ⟨N,h3,h4⟩:=Bd.ex B;refine ⟨M+N,by grind,fun x hA hB=>?_⟩;have h5:=h2.1;have h6:=h2.2;have h7:=h4.1;have h8:=h4.2;exact ⟨by grind,by grind⟩
theorem mX{a b:Rat}(h:0≤a)(k:0≤b):0≤a*b:=Rat.mul_nonneg h k
theorem wV{a b:Rat}(h:0<a)(k:0<b):0<a*b:=Rat.mul_pos h k
theorem uV{a b:Rat}(h:0<a)(k:0<b):0<a / b:=by rw [Rat.div_def];exact Rat.mul_pos h (Rat.inv_pos.2 k)
theorem aw{a b:Rat}(k:b≠0):a / b*b=a:=by rw [Rat.div_def,nYd,Rat.inv_mul_cancel _ k,Rat.mul_one]
theorem cz{a b c:Rat}(h:a≤b)(k:0≤c):a*c≤b*c:=Rat.mul_le_mul_of_nonneg_right h k
theorem aY{a b c:Rat}(h:a≤b)(k:0≤c):c*a≤c*b:=Rat.mul_le_mul_of_nonneg_left h k
theorem eS{a b c:Rat}(h:a<b)(k:0<c):a*c<b*c:=by
 have:=Rat.mul_pos (show 0<b-a by grind) k;grind
theorem thr{c m x:Rat}(hc:0<c)(hm:0<m)(h:m*3≤c*x*4):m / (2*c)≤x:=by
 apply Classical.byContradiction;intro hn;have h1:=eS (show x<m / (2*c) by grind) hc;have h2:m / (2*c)*(2*c)=m:=aw (by grind);grind
def Lip(A B K:Rat)(f:Rat→Rat):Prop:=∀ s t,A≤s→s≤t→t≤B→Bd (K*(t-s)) (f t-f s)
theorem Lip.mono{A B K L:Rat}{f:Rat→Rat}(h:Lip A B K f)(k:K≤L):Lip A B L f:=fun s t h1 h2 h3=>(h s t h1 h2 h3).mono (cz k (by grind))
def On(A B M:Rat)(f:Rat→Rat):Prop:=∀ x,A≤x→x≤B→Bd M (f x)
def Big(r x:Rat):Prop:=r≤x∨x≤-r
theorem jG{r x:Rat}(h:¬ Big r x):-r<x∧x<r:=by
 unfold Big at h;exact ⟨by grind,by grind⟩
theorem Big.sign{A B K r s t:Rat}{f:Rat→Rat}(hf:Lip A B K f)(hb:Big r (f s))(h1:A≤s)(h2:s≤t)(h3:t≤B)(h4:K*(t-s)<r):sg (f t)=sg (f s)∧sg (f s)≠0:=by
 obtain ⟨e1,e2⟩:=hf s t h1 h2 h3;have hr:0<r:=by grind
 rcases hb with h|h
 ·rw [fD (show 0<f s by grind),fD (show 0<f t by grind)];exact ⟨rfl,dZ⟩
 ·rw [cZ (show f s<0 by grind),cZ (show f t<0 by grind)];exact ⟨rfl,dZ⟩
def Row(A B:Rat)(f g h:Rat→Rat):Prop:=∃ c d Q:Rat,0<c∧0<d∧0≤Q∧∃ q:Rat→Rat,On A B Q q∧∀ x,c*f x+d*h x=q x*g x
def Ch(A B:Rat):(Rat→Rat)→List (Rat→Rat)→Prop
 | f,[]=>∃ r,0<r∧∀ x,A≤x→x≤B→Big r (f x)
 | f,[g]=>Ch A B g []
 | f,g :: h :: l=>Row A B f g h∧Ch A B g (h :: l)
def sgs(l:List (Rat→Rat))(x:Rat):List Int:=l.map (fun f=>sg (f x))
def Ec(f:Rat→Rat)(l:List (Rat→Rat))(b r s t:Rat):Prop :=
 (Big r (f s)→sg (f s)≠0∧sg (f t)=sg (f s)∧Rl (sg (f s)) (sgs l s) (sgs l t)) ∧
 (¬ Big r (f s)→∃ g l',l=g :: l'∧Big b (g s)∧sg (g s)≠0∧sg (g t)=sg (g s)∧Rl (sg (g s)) (sgs l' s) (sgs l' t))
def St(A B:Rat)(f:Rat→Rat)(l:List (Rat→Rat)):Prop :=
 ∃ b,0<b∧∃ r0,0<r0∧∀ r,0<r→r≤r0→∃ e,0<e∧∀ s t,A≤s→s≤t→t≤B→t-s≤e→Ec f l b r s t
theorem fP{K r:Rat}(hK:0≤K)(hr:0<r):∃ e,0<e∧∀ d,d≤e→K*d<r:=by
 refine ⟨r / (K+1),uV hr (by grind),fun d hd=>?_⟩;have h1:=aY hd hK;have h2:r / (K+1)*(K+1)=r:=aw (by grind);have h3:=uV hr (show 0<K+1 by grind);grind
theorem ib{a b:Rat}(ha:0<a)(hb:0<b):∃ c,0<c∧c≤a∧c≤b:=by
 rcases tot a b with h|h
 ·exact ⟨a,ha,Rat.le_refl,h⟩
 ·exact ⟨b,hb,h,Rat.le_refl⟩
theorem tt{A B b r s c d Q:Rat}{f g h q:Rat→Rat}(hc:0<c)(hd:0<d)(hQ:0≤Q)(hq:On A B Q q)(he:∀ x,c*f x+d*h x=q x*g x)(h1:A≤s)(h2:s≤B)(hg:¬ Big r (g s))(hr:Q*r*4≤d*b)(hb0:0<b)(hb:Big b (h s)) :
  (f s<0∧0<h s∧d*b*3≤-(c*f s)*4)∨(0<f s∧h s<0∧d*b*3≤c*f s*4):=by
 obtain ⟨g1,g2⟩:=jG hg;obtain ⟨k1,k2⟩:=(hq s h1 h2).mul (show Bd r (g s) from ⟨by grind,by grind⟩);have e:=he s;have hdb:=wV hd hb0;rcases hb with h3|h3
 ·left
  have h4:=aY h3 (Rat.le_of_lt hd);have h5:c*f s<0:=by grind
  refine ⟨?_,by grind,by grind⟩;rcases tri (f s) 0 with h6|h6|h6
  ·exact h6
  ·rw [h6] at h5;grind
  ·have:=wV hc h6;grind
 ·right
  have h4:=aY (show b≤-h s by grind) (Rat.le_of_lt hd);have h5:0<c*f s:=by grind
  refine ⟨?_,by grind,by grind⟩;rcases tri (f s) 0 with h6|h6|h6
  ·have:=wV hc (show 0 < -f s by grind);grind
  ·rw [h6] at h5;grind
  ·exact h6
theorem Du{A B:Rat}:∀ (l:List (Rat→Rat)) (f:Rat→Rat),Ch A B f l→(∃ K,0≤K∧Lip A B K f)→(∀ g ∈ l,∃ K,0≤K∧Lip A B K g)→St A B f l:=by
 intro l;induction l with
 | nil =>
  intro f ⟨d,hd,hb⟩ ⟨K,hK,hL⟩ _;refine ⟨1,dZ,d,hd,fun r hr hrd=>?_⟩;obtain ⟨e,he,h⟩:=fP hK hr;refine ⟨e,he,fun s t h1 h2 h3 h4=>⟨fun h5=>?_,fun h5=>?_⟩⟩
  ·obtain ⟨g1,g2⟩:=h5.sign hL h1 h2 h3 (h _ h4);exact ⟨g2,g1,Rl.nil _⟩
  ·refine absurd ?_ h5;rcases hb s h1 (by grind) with h6|h6
   ·exact Or.inl (by grind)
   ·exact Or.inr (by grind)
 | cons g l ih =>
  intro f hc ⟨K,hK,hL⟩ hl;have hg:Ch A B g l:=by
   cases l with
   | nil=>exact hc
   | cons h l=>exact hc.2
  obtain ⟨b,hb,r0,hr0,hst⟩:=ih g hg (hl g List.mem_cons_self) (fun x hx=>hl x (List.mem_cons_of_mem _ hx))
  -- the threshold of g and that of f
  obtain ⟨rg,hrg,hrg0,rf,hrf,hsm⟩:∃ rg,0<rg∧rg≤r0∧∃ rf,0<rf∧∀ s,A≤s→s≤B→∀ h l',l=h :: l'→¬ Big rg (g s)→Big b (h s)→sg (h s)=-sg (f s)∧sg (f s)≠0∧Big rf (f s):=by
   cases l with
   | nil=>exact ⟨r0,hr0,Rat.le_refl,1,dZ,fun s _ _ h l' e=>by cases e⟩
   | cons h l =>
    obtain ⟨⟨c,d,Q,hc,hd,hQ,q,hq,he⟩,-⟩:=hc;obtain ⟨e,he0,hee⟩:=fP (K:=Q*4) (r:=d*b) (by grind) (wV hd hb);obtain ⟨rg,h1,h2,h3⟩:=ib hr0 he0;have hp:=uV (wV hd hb) (show 0<2*c by grind);refine ⟨rg,h1,h2,d*b / (2*c),hp,fun s k1 k2 h' l' e k3 k4=>?_⟩;cases e;have hr4:=hee rg h3;rcases tt hc hd hQ hq he k1 k2 k3 (by grind) hb k4 with ⟨m1,m2,m3⟩|⟨m1,m2,m3⟩
    ·rw [fD m2,cZ m1];refine ⟨rfl,dZ,Or.inr ?_⟩;have:=thr (x:=-f s) hc (wV hd hb) (by grind);grind
    ·rw [cZ m2,fD m1];exact ⟨rfl,dZ,Or.inl (thr hc (wV hd hb) m3)⟩
  obtain ⟨eg,heg,hcell⟩:=hst rg hrg hrg0;refine ⟨rg,hrg,rf,hrf,fun r hr hrf'=>?_⟩;obtain ⟨ef,hef,hstep⟩:=fP hK hr;obtain ⟨e,he,he1,he2⟩:=ib heg hef;refine ⟨e,he,fun s t h1 h2 h3 h4=>?_⟩;have hg:=hcell s t h1 h2 h3 (by grind);refine ⟨fun h5=>?_,fun h5=>?_⟩
  ·obtain ⟨g1,g2⟩:=h5.sign hL h1 h2 h3 (hstep _ (by grind));refine ⟨g2,g1,?_⟩;by_cases hb':Big rg (g s)
   ·obtain ⟨k1,k2,k3⟩:=hg.1 hb';show Rl _ (sg (g s) :: sgs l s) (sg (g t) :: sgs l t);rw [k2];exact Rl.big k1 k3
   ·obtain ⟨h,l',rfl,k1,k2,k3,k4⟩:=hg.2 hb';obtain ⟨m1,m2,m3⟩:=hsm s h1 (by grind) h l' rfl hb' k1;show Rl _ (sg (g s) :: sg (h s) :: sgs l' s) (sg (g t) :: sg (h t) :: sgs l' t);rw [k3];exact Rl.small g2 m1 (nH _) (nH _) (nH _) k4
  ·refine ⟨g,l,rfl,?_⟩;by_cases hb':Big rg (g s)
   ·obtain ⟨k1,k2,k3⟩:=hg.1 hb';exact ⟨hb',k1,k2,k3⟩
   ·obtain ⟨h,l',rfl,k1,k2,k3,k4⟩:=hg.2 hb';obtain ⟨m1,m2,m3⟩:=hsm s h1 (by grind) h l' rfl hb' k1;refine absurd ?_ h5;rcases m3 with m|m
    ·exact Or.inl (by grind)
    ·exact Or.inr (by grind)
def V(f:Rat→Rat)(l:List (Rat→Rat))(x:Rat):Nat:=vr 0 (sgs (f :: l) x)
theorem gt{x:Int}{a:List Int}(h:x≠0):vr 0 (x :: a)=vr x a:=by simp [vr,h]
theorem pR{a:List Int}:vr 0 (0 :: a)=vr 0 a:=by simp [vr]
def CS(A B:Rat)(f g:Rat→Rat):Prop:=∃ k K,0<k∧0≤K∧∀ s t,A≤s→s≤t→t≤B→Bd (K*(t-s)*(t-s)) (f t-f s-k*g s*(t-s))
def iA(f:Rat→Rat)(s t:Rat):Nat:=if sg (f s)≠0∧sg (f t)≠sg (f s) then 1 else 0
theorem rH{A B:Rat}{f:Rat→Rat}{l:List (Rat→Rat)}(hc:Ch A B f l)(hf:∃ K,0≤K∧Lip A B K f)(hl:∀ g ∈ l,∃ K,0≤K∧Lip A B K g)(hs:∀ g l',l=g :: l'→CS A B f g) :
  ∃ e,0<e∧∀ s t,A≤s→s<t→t≤B→t-s≤e→V f l s=V f l t+iA f s t∧(f s=0→f t≠0):=by
 obtain ⟨b,hb,r0,hr0,hst⟩:=Du l f hc hf hl;obtain ⟨e1,he1,hcell⟩:=hst r0 hr0 Rat.le_refl;obtain ⟨e2,he2,hsl⟩:∃ e2,0<e2∧∀ g l',l=g :: l'→∀ s t,A≤s→s<t→t≤B→t-s≤e2→(b≤g s→f s<f t)∧(g s≤-b→f t<f s):=by
  cases l with
  | nil=>exact ⟨1,dZ,fun g l' e=>by cases e⟩
  | cons g l =>
   obtain ⟨k,K,hk,hK,h⟩:=hs g l rfl;obtain ⟨e,he,h2⟩:=fP hK (wV hk hb);refine ⟨e,he,fun g' l' ee s t h3 h4 h5 h6=>?_⟩;cases ee;obtain ⟨m1,m2⟩:=h s t h3 (by grind) h5;have h7:=eS (h2 _ h6) (show 0<t-s by grind);refine ⟨fun h8=>?_,fun h8=>?_⟩
   ·have h9:=cz (aY h8 (Rat.le_of_lt hk)) (show 0≤t-s by grind);grind
   ·have h9:=cz (aY h8 (Rat.le_of_lt hk)) (show 0≤t-s by grind);grind
 obtain ⟨e,he,hm1,hm2⟩:=ib he1 he2;refine ⟨e,he,fun s t h1 h2 h3 h4=>?_⟩;obtain ⟨c1,c2⟩:=hcell s t h1 (by grind) h3 (by grind);by_cases h5:Big r0 (f s)
 ·obtain ⟨k1,k2,k3⟩:=c1 h5;refine ⟨?_,fun h=>absurd (cL.2 h) k1⟩;unfold V iA;show vr 0 (sg (f s) :: sgs l s)=vr 0 (sg (f t) :: sgs l t)+_;rw [k2,gt k1,gt k1,k3.vr,if_neg (by simp)];rfl
 ·obtain ⟨g,l',rfl,k1,k2,k3,k4⟩:=c2 h5;obtain ⟨s1,s2⟩:=hsl g l' rfl s t h1 h2 h3 (by grind);have e0:V f (g :: l') s=(if sg (f s)≠0∧sg (g s)≠sg (f s) then 1 else 0)+vr (sg (g s)) (sgs l' s):=by
   show vr 0 (sg (f s) :: sg (g s) :: sgs l' s)=_;by_cases h0:sg (f s)=0
   ·rw [h0,pR,gt k2];simp
   ·rw [gt h0];simp [vr,k2,h0]
  have e1:V f (g :: l') t=(if sg (f t)≠0∧sg (g s)≠sg (f t) then 1 else 0)+vr (sg (g s)) (sgs l' s):=by
   show vr 0 (sg (f t) :: sg (g t) :: sgs l' t)=_;rw [k3,k4.vr];by_cases h0:sg (f t)=0
   ·rw [h0,pR,gt k2];simp
   ·rw [gt h0];simp [vr,k2,h0]
  rw [e0,e1];unfold iA;rcases k1 with k|k
  ·have hlt:=s1 k;rw [fD (show 0<g s by grind)];clear hc hf hl hs hst hcell hsl c1 c2 k3 k4 s1 s2 e0 e1;rcases bY (f s) with ⟨a1,a2⟩|⟨a1,a2⟩|⟨a1,a2⟩ <;> rcases bY (f t) with ⟨b1,b2⟩|⟨b1,b2⟩|⟨b1,b2⟩ <;> rw [a2,b2] <;> first|(exfalso;grind)|(refine ⟨by simp <;> omega,?_⟩;grind)
  ·have hlt:=s2 k;rw [cZ (show g s<0 by grind)];clear hc hf hl hs hst hcell hsl c1 c2 k3 k4 s1 s2 e0 e1;rcases bY (f s) with ⟨a1,a2⟩|⟨a1,a2⟩|⟨a1,a2⟩ <;> rcases bY (f t) with ⟨b1,b2⟩|⟨b1,b2⟩|⟨b1,b2⟩ <;> rw [a2,b2] <;> first|(exfalso;grind)|(refine ⟨by simp <;> omega,?_⟩;grind)
theorem jf{A B e:Rat}{P:Rat→Rat→Prop}(he:0<e)(h1:∀ s t,A≤s→s<t→t≤B→t-s≤e→P s t)(h2:∀ s t u,A≤s→s<t→t<u→u≤B→P s t→P t u→P s u):∀ s t,A≤s→s<t→t≤B→P s t:=by
  have key:∀ n:Nat,∀ s t,A≤s→s<t→t≤B→t-s≤(n:Rat)*e→P s t:=by
    intro n;induction n with
    | zero => intro s t a b c d; exfalso; have : ((0 : Nat) : Rat) * e = 0 := by rw [show ((0 : Nat) : Rat) = 0 from rfl]; grind
              grind
    | succ n ih =>
      intro s t a b c d;rcases tot (t-s) e with h|h
      · exact h1 s t a b c h
      · by_cases hq:t-s=e
        · exact h1 s t a b c (by grind)
        · have e1:((n+1:Nat):Rat)*e=(n:Rat)*e+e:=by rw [Rat.natCast_add,show ((1:Nat):Rat)=1 from rfl];grind
          exact h2 s (s+e) t a (by grind) (by grind) c (h1 s (s+e) a (by grind) (by grind) (by grind)) (ih (s+e) t (by grind) (by grind) c (by grind))
  intro s t a b c;have hx:0<(t-s) / e:=uV (by grind) he;obtain ⟨n,hn⟩:∃ n:Nat,(t-s) / e≤(n:Rat):=by
    have h3:=Rat.lt_floor_add_one ((t-s) / e);refine ⟨((t-s) / e).floor.toNat+1,?_⟩;have h4:(((t-s) / e).floor+1:Int)≤((((t-s) / e).floor.toNat+1:Nat):Int):=zo;have h5:=Rat.intCast_le_intCast.2 h4;rw [Rat.intCast_natCast] at h5;grind
  refine key n s t a b c ?_;have h8:=cz hn (Rat.le_of_lt he);rw [aw (by grind)] at h8;exact h8
theorem Ax(p:List Rat)(A B:Rat):∃ M,0≤M∧On A B M (evV p):=by
 obtain ⟨R,hR,hb⟩:=fv (A:=A) (B:=B) (x:=0);induction p with
 | nil=>exact ⟨0,Rat.le_refl,fun x _ _=>⟨by show -0≤(0:Rat);decide,by show (0:Rat)≤0;decide⟩⟩
 | cons c p ih =>
  obtain ⟨M,hM,h⟩:=ih;obtain ⟨N,hN,k⟩:=Bd.ex c;exact ⟨M*R+N,by have:=mX hM hR;grind,fun x h1 h2=>((h x h1 h2).mul (hb x h1 h2)).add k⟩
theorem qU(p:List Rat)(A B:Rat):∃ K,0≤K∧Lip A B K (evV p):=by
 obtain ⟨R,hR,hb⟩:=fv (A:=A) (B:=B) (x:=0);induction p with
 | nil=>exact ⟨0,Rat.le_refl,fun s t _ h _=>⟨by show -(0*(t-s))≤(0:Rat)-0;grind,by show (0:Rat)-0≤0*(t-s);grind⟩⟩
 | cons c p ih =>
  obtain ⟨K,hK,h⟩:=ih;obtain ⟨M,hM,k⟩:=Ax p A B;refine ⟨K*R+M,by have:=mX hK hR;grind,fun s t h1 h2 h3=>?_⟩;have a:=(h s t h1 h2 h3).mul (hb t (by grind) h3);have b:=(k s h1 (by grind)).mul (Bd.self (show 0≤t-s by grind));have e:evV (c :: p) t-evV (c :: p) s=(evV p t-evV p s)*t+evV p s*(t-s):=by
   show evV p t*t+c-(evV p s*s+c)=_;grind
  rw [e,show (K*R+M)*(t-s)=K*(t-s)*R+M*(t-s) by grind];exact a.add b
def evD:List Rat→Rat→Rat
 | [],_=>0
 | _ :: p,x=>evD p x*x+evV p x
theorem Cq(p:List Rat)(A B:Rat):∃ M,0≤M∧On A B M (evD p):=by
 obtain ⟨R,hR,hb⟩:=fv (A:=A) (B:=B) (x:=0);induction p with
 | nil=>exact ⟨0,Rat.le_refl,fun x _ _=>⟨by show -0≤(0:Rat);decide,by show (0:Rat)≤0;decide⟩⟩
 | cons c p ih =>
  obtain ⟨M,hM,h⟩:=ih;obtain ⟨N,hN,k⟩:=Ax p A B;exact ⟨M*R+N,by have:=mX hM hR;grind,fun x h1 h2=>((h x h1 h2).mul (hb x h1 h2)).add (k x h1 h2)⟩
theorem qT(p:List Rat)(A B:Rat):∃ K,0≤K∧∀ s t,A≤s→s≤t→t≤B→Bd (K*(t-s)*(t-s)) (evV p t-evV p s-evD p s*(t-s)):=by
 obtain ⟨R,hR,hb⟩:=fv (A:=A) (B:=B) (x:=0);induction p with
 | nil=>exact ⟨0,Rat.le_refl,fun s t _ h _=>⟨by show -(0*(t-s)*(t-s))≤(0:Rat)-0-0*(t-s);grind,by show (0:Rat)-0-0*(t-s)≤0*(t-s)*(t-s);grind⟩⟩
 | cons c p ih =>
  obtain ⟨K,hK,h⟩:=ih;obtain ⟨M,hM,k⟩:=Cq p A B;refine ⟨K*R+M,by have:=mX hK hR;grind,fun s t h1 h2 h3=>?_⟩;have a:=(h s t h1 h2 h3).mul (hb t (by grind) h3);have h0:0≤t-s:=by grind
  have b:=((k s h1 (by grind)).mul (Bd.self h0)).mul (Bd.self h0);have e:evV (c :: p) t-evV (c :: p) s-evD (c :: p) s*(t-s)=(evV p t-evV p s-evD p s*(t-s))*t+evD p s*(t-s)*(t-s):=by
   show evV p t*t+c-(evV p s*s+c)-(evD p s*s+evV p s)*(t-s)=_;grind
  rw [e,show (K*R+M)*(t-s)*(t-s)=K*(t-s)*(t-s)*R+M*(t-s)*(t-s) by grind];exact a.add b
structure Fit (A B:Rat) (f:Rat→Rat) (l:List (Rat→Rat)):Prop where
 ch:Ch A B f l
 lf:∃ K,0≤K∧Lip A B K f
 ll:∀ g ∈ l,∃ K,0≤K∧Lip A B K g
 sl:∀ g l',l=g :: l'→CS A B f g
theorem Fit.cell{A B:Rat}{f:Rat→Rat}{l:List (Rat→Rat)}(h:Fit A B f l):∃ e,0<e∧∀ s t,A≤s→s<t→t≤B→t-s≤e→V f l s=V f l t+iA f s t∧(f s=0→f t≠0):=rH h.ch h.lf h.ll h.sl
theorem Fit.mono{A B:Rat}{f:Rat→Rat}{l:List (Rat→Rat)}(h:Fit A B f l):∀ s t,A≤s→s<t→t≤B→V f l t≤V f l s:=by
 obtain ⟨e,he,hc⟩:=h.cell;refine jf he (fun s t h1 h2 h3 h4=>?_) (fun s t u _ _ _ _ h1 h2=>by omega);have:=(hc s t h1 h2 h3 h4).1;omega
theorem Fit.same{A B:Rat}{f:Rat→Rat}{l:List (Rat→Rat)}(h:Fit A B f l)(hV:V f l A=V f l B):∀ s t,A≤s→s<t→t≤B→(f s≠0→sg (f t)=sg (f s))∧(f s=0→f t≠0):=by
 obtain ⟨e,he,hc⟩:=h.cell;have hm:=h.mono;refine jf he (fun s t h1 h2 h3 h4=>?_) (fun s t u _ _ _ _ h1 h2=>?_)
 ·obtain ⟨k1,k2⟩:=hc s t h1 h2 h3 h4;refine ⟨fun h5=>?_,k2⟩;have m1:V f l s≤V f l A:=by
   rcases (Rat.le_iff_lt_or_eq.1 h1) with h6|h6
   ·exact hm A s Rat.le_refl h6 (by grind)
   ·rw [h6];exact nXe _
  have m2:V f l B≤V f l t:=by
   rcases (Rat.le_iff_lt_or_eq.1 h3) with h6|h6
   ·exact hm t B (by grind) h6 Rat.le_refl
   ·rw [h6];exact nXe _
  have h0:iA f s t=0:=by omega
  unfold iA at h0;apply Classical.byContradiction;intro hn;rw [if_pos ⟨fun h=>h5 (cL.1 h),hn⟩] at h0;omega
 ·refine ⟨fun h5=>?_,fun h5=>?_⟩
  ·have h6:=h1.1 h5;have h7:f t≠0:=fun h8=>h5 (cL.1 (by rw [←h6];exact cL.2 h8))
   rw [h2.1 h7,h6]
  ·have h7:=h1.2 h5;intro h8;have h9:=h2.1 h7;exact h7 (cL.1 (by rw [←h9];exact cL.2 h8))
theorem Fit.calm{A B:Rat}{f:Rat→Rat}{l:List (Rat→Rat)}(h:Fit A B f l){x y:Rat}(hx:A≤x)(hxy:x<y)(hy:y≤B)(hs:∀ s t,x≤s→s<t→t≤y→f s≠0→sg (f t)=sg (f s)):V f l x=V f l y:=by
 obtain ⟨e,he,hc⟩:=h.cell;refine jf (A:=x) (B:=y) (P:=fun s t=>V f l s=V f l t) he (fun s t h1 h2 h3 h4=>?_) (fun s t u _ _ _ _ h1 h2=>h1.trans h2) x y Rat.le_refl hxy Rat.le_refl;rw [(hc s t (by grind) h2 (by grind) h4).1];unfold iA;rw [if_neg (fun h5=>h5.2 (hs s t h1 h2 h3 (fun h=>h5.1 (cL.2 h))))];rfl
end Go.Proofs.YtafgmcimcbhhjaaGreat.Sg
