import Derived.Test.YtafgmcimcbhhjaaGreatQBK21
set_option linter.unusedVariables false
set_option maxHeartbeats 16000000
set_option maxRecDepth 8000
namespace Go.Proofs.YtafgmcimcbhhjaaGreat
open Go.RowKit Go.Front Go.Num Stab
attribute [local go_sem] XW.cell XW.frozen
theorem vi(a:SH)(ds:List Nat)(n:Nat)(w:World)(ha:a.U w ds)(hm:a.n≤1073741824)(hn:n≤65536):ak 93 [a.v,.int .i64 (n:Nat)] w SH.v (fun x w'=>U32 w' x.a x.n x.c (digs (val ds*2 ^ n))):=by
 have key:Calls Tryz.prog 93 #[.slice a.a a.n a.c,.int .i64 (n:Nat)] w (rY (digs (val ds*2 ^ n)) w):=jI a.a a.n a.c ds n w ha hm hn;refine key.mono ?_;intro e w' hp;obtain ⟨ao,m,c,rfl,h1,h2⟩:=hp.dpost (cz _);exact ⟨⟨ao,m,c⟩,rfl,h2,h1⟩
theorem tY(n:Nat)(w:World)(hn:n≤65536):ak 37 [.int .i64 (n:Nat)] w RH.v (fun r w'=>aA w' r ((2 ^ n:Nat):Rat)):=by
 have HX:=Hi (Ext.refl w);obtain ⟨Q,hQ⟩:∃ Q:Rat,Q=((2 ^ n:Nat):Rat):=⟨_,rfl⟩;have HQN:Hid (Q.num=((2 ^ n:Nat):Int)):=Hi (by rw [hQ];exact Rat.num_natCast _);have HQD:Hid (Q.den=1):=Hi (by rw [hQ];exact Rat.den_natCast _);rw [←hQ];clear hQ;unfold ak;go_enter Tryz.func37,Tryz.ntmps37
 go_upto_region 1 with fail
 refine nmA ?_;intro w1 hE B2 hz_w1 hr_w1;replace HX:=hE.tr HX
 go_wp2_with fail
 refine nmA (F:=fun W=>Calls _ _ _ W _) ?_;intro w2 hE B3 hz_w2 hr_w2;refine mV2 hE ?_ B2 HX;clear B2 HX;intro B2 HX
 change Calls _ _ _ _ _
 refine cM (vi ⟨some ⟨w1.heap.size,0,none⟩,1,1⟩ [1] n _ (qG B3.out) (show (1:Nat)≤1073741824 by decide) hn) fun x5 w5 hE G5=>?_
 refine mV2 hE ?_ B2 HX;clear B2 HX;intro B2 HX;replace b_B2:=bX3 B2;have hv:val [1]*2 ^ n=2 ^ n:=by show (1+W32*0)*2 ^ n=_;rw [Nat.mul_zero,Nat.add_zero,Nat.one_mul]
 have GU:Hid (U32 w5 x5.a x5.n x5.c (digs (2 ^ n))):=Hi (by have h:=G5.out;rw [hv] at h;exact h);clear G5 hv;obtain ⟨ua,un,uc⟩:=x5;simp only [SH.v];go_wp2;obtain ⟨w9,hw9,T9⟩:=kt HX.out B2.out (nXe _) rfl ⟨false,ua,un,uc,some ⟨w5.heap.size,0,none⟩,1,1⟩;have hU1:=ez w9 1 dZ;rw [T9.size] at hU1
 change bodyPost _ _ _ _ _ ((stR w5 w.heap.size ⟨false,ua,un,uc,some ⟨w5.heap.size,0,none⟩,1,1⟩).alloc (.cells #[.int .u32 1] 116))
 rw [←hw9];exact nXa (v:=RH.v ⟨false,ua,un,uc,some ⟨w5.heap.size,0,none⟩,1,1⟩) (by simp [results,Tryz.results37,go_sem,ab (Ext.nw1.block T9.bx)]) rfl ⟨⟨false,ua,un,uc,some ⟨w5.heap.size,0,none⟩,1,1⟩,rfl,T9.ext.trans Ext.nw1,by rw [HQN.out];exact (decide_eq_false (Int.not_lt.2 (Int.natCast_nonneg _))).symm,by rw [HQN.out,nYi];exact (T9.keep _ _ _ _ GU.out).ext Ext.nw1,by rw [HQD.out,iV];exact hU1⟩
open Sg
def Bs(q:List Rat)(wd:Rat)(E:Nat)(lo hi:Rat):List Rat:=(if evV q lo=0 then [lo,lo] else [])++spV q wd E lo hi
theorem EZ{q:List Rat}{wd:Rat}{E:Nat}{lo hi:Rat}(h:lo≤hi):∀ y ∈ Bs q wd E lo hi,lo≤y∧y≤hi:=fun y hy=>by
 unfold Bs at hy;rcases List.mem_append.1 hy with k|k
 ·split at k
  ·simp only [List.mem_cons,List.not_mem_nil,or_false] at k;rcases k with rfl|rfl <;> exact ⟨Rat.le_refl,h⟩
  ·simp at k
 ·exact Ge E h y k
def wd6(k:Nat):Rat:=((1:Int):Rat) / ((2 ^ k:Nat):Rat)
theorem uK{k:Nat}(h:k≤256):Sz 9 ((2 ^ k:Nat):Rat):=by
 have h1:(2:Nat) ^ k≤2 ^ 256:=nXp dZ h;have h2:(2:Nat) ^ 256<W32 ^ 9:=by decide
 exact ⟨by rw [Rat.num_natCast,nYi];omega,by rw [Rat.den_natCast];decide⟩
theorem Ed{k:Nat}(h:k≤256):Sz 10 (wd6 k):=((Sz.int (z:=1) dZ:Sz 1 ((1:Int):Rat)).div (uK h)).mono dZ
def IsE(q:List Rat)(wd:Rat)(E:Nat)(lo hi:Rat)(l:List Rat):Prop:=Unit→Bs q wd E lo hi=l
structure Is6 (l:List Rat) (K P:Nat) (a b:Rat) (bits T m Y E D:Nat):Prop where
 hP:P≤49
 ne:tz l≠[]
 fk:FrK K (tz l)
 k1:K≤3900000
 k2:(P+1)*(K / 3)≤25000000
 fs:FrK K (sqfV (tz l))
 za:Sz T a
 zb:Sz T b
 t3:T≤1000
 sp:Sp6 (sqfV (tz l)) (wd6 bits) D T m Y
 sz:SpZ (sqfV (tz l)) (wd6 bits) T m E
 bt:bits≤256
 dl:Dy D (W32 ^ T) 0 (loV a b)
 dh:Dy D (W32 ^ T) 0 (hiV a b)
 hd:(hiV a b-loV a b)*((W32 ^ Y:Nat):Rat)≤((2 ^ E:Nat):Rat)
theorem Br{w:World}{x y:RH}{a b:Rat}(hx:aA w x a)(hy:aA w y b) :
  (∀ k,k<1*2→RAt (w.alloc (.cells #[.bool x.neg,.slice x.a x.n x.c,.slice x.b x.m x.d,.bool y.neg,.slice y.a y.n y.c,.slice y.b y.m y.d] 38)) w.heap.size (0+k*3) ([x,y].getD k default))∧fh aA (w.alloc (.cells #[.bool x.neg,.slice x.a x.n x.c,.slice x.b x.m x.d,.bool y.neg,.slice y.a y.n y.c,.slice y.b y.m y.d] 38)) [x,y] [a,b]:=by
 obtain ⟨w',hw'⟩:∃ w',w'=w.alloc (.cells #[.bool x.neg,.slice x.a x.n x.c,.slice x.b x.m x.d,.bool y.neg,.slice y.a y.n y.c,.slice y.b y.m y.d] 38):=⟨_,rfl⟩;have he:Ext w w':=by rw [hw'];exact Ext.alloc _ _
 have hb:IBk w' w.heap.size [x,y] #[]:=by
  unfold IBk;rw [hw',heap_alloc_new];rfl
 rw [←hw'];refine ⟨fun k hk=>by rw [Nat.zero_add];exact hb.at hk,rfl,fun k hk=>?_⟩;have hk:k<2:=hk;have:k=0∨k=1:=by omega
 rcases this with rfl|rfl
 ·exact hx.ext he
 ·exact hy.ext he
theorem pN(pa:Option Addr)(P pc:Nat)(l:List Rat)(K:Nat)(s t:RH)(a b:Rat)(bits T m Y E D:Nat)(w:World)(h:ct w ⟨pa,P,pc⟩ l)(hs:aP w s a)(ht:aP w t b)(H:Is6 l K P a b bits T m Y E D) :
  ak 63 [.slice pa P pc,IvV (s,t),.int .i64 (bits:Nat)] w (fun x:SH=>.tuple #[x.v,.int .i64 0]) (fun x w'=>gR w' (w.heap.size≤·) x.v x.n (Bs (sqfV (tz l)) (wd6 bits) E (loV a b) (hiV a b))∧x.n≤100000):=by
 obtain ⟨sn,sa,sl,sc,sb,sm,sd⟩:=s;obtain ⟨tn,ta,tl,tc,tb,tm,td⟩:=t;have HX:=Hi (Ext.refl w);have LP:=Hi h;have LPw:=Hi h;have hb1:¬ ((bits:Nat):Int)<0:=zo;have hb2:¬ (256:Int)<((bits:Nat):Int):=by have:=H.bt;omega
 have HS:=Hi hs;have HT:=Hi ht;have HH0:=Hi H;have hbt:=H.bt;have hT3:=H.t3;have hP:=H.hP;have h00:tz (tz l)≠[]:=by rw [aI];exact H.ne
 have ZA:Hid (Sz T (loV a b)):=Hi (by rcases Ac a b with e|e <;> rw [e] <;> first|exact H.za|exact H.zb);have ZB:Hid (Sz T (hiV a b)):=Hi (by rcases Ak a b with e|e <;> rw [e] <;> first|exact H.za|exact H.zb);have HLE:=Hi (Ad a b);obtain ⟨q,hq⟩:∃ q,q=sqfV (tz l):=⟨_,rfl⟩;have hql:q.length≤49:=by rw [hq];have:=lG h00;have:=ae l;have:=h.len;simp only at this;omega
 have HSP:Hid (Sp6 q (wd6 bits) D T m Y):=Hi (by rw [hq];exact H.sp);have HSZ:Hid (SpZ q (wd6 bits) T m E):=Hi (by rw [hq];exact H.sz);have hfs:=H.fs;rw [←hq] at hfs;obtain ⟨U,F,hU,hF,hF2,hfU,hUK⟩:=hfs;have hUs:=KZ.small hUK;have hk1:=H.k1;have HFU:=Hi hfU;have HUK:=Hi hUK;have HQ0:Hid (tz q≠[]):=Hi (HSP.out.ne);obtain ⟨lo,hlo⟩:∃ lo,lo=loV a b:=⟨_,rfl⟩;obtain ⟨hi,hhi⟩:∃ hi,hi=hiV a b:=⟨_,rfl⟩;have DL:Hid (Dy D (W32 ^ T) 0 lo):=Hi (by rw [hlo];exact H.dl);have DH:Hid (Dy D (W32 ^ T) 0 hi):=Hi (by rw [hhi];exact H.dh);have HD:Hid ((hi-lo)*((W32 ^ Y:Nat):Rat)≤((2 ^ E:Nat):Rat)):=Hi (by rw [hlo,hhi];exact H.hd);have HCT:=Hi (show qA (tz l) lo hi=(v6 q lo:Int)-(v6 q hi:Int)+(if Sg.sg (evV q lo)=0 then 1 else 0) by rw [hq];rfl);rw [←hlo] at ZA HLE;rw [←hhi] at ZB HLE;have MA:=Hi (HSZ.out.mz lo (ZA.out.mono zo));have hv1:=BX q lo;have hv2:=MA.out.ln;have hvm:=kf HSP.out.ne HSP.out.cp HLE.out;obtain ⟨r,hr⟩:∃ r:Int,r=(v6 q lo:Int)-(v6 q hi:Int):=⟨_,rfl⟩;have hr1:0≤r∧r≤1000:=zo;have HR:=Hi hr;have HSQ:Hid (SzL 40000000 q):=Hi ((hfU.sz hU hF hF2).mono zo);have HEV:Hid (∀ k,k≤q.length→Sz 40000000 (evV (q.drop k) lo)):=Hi (fun k hk=>(nw hfU ZA.out hU hF hF2 k).mono (by
  have:q.length*(T+1)≤49*1001:=nXy hql zo;omega))
 have HQE:=Hi hq;have HLO:=Hi hlo;have HHI:=Hi hhi;have HLn:=Hi (ve HSP.out.ne HSP.out.cp (wd:=wd6 bits) E HLE.out);have HVL:Hid (v6 q lo≤1000):=Hi zo;have ZU:=Hi (uK hbt);have Z1:Hid (Sz 1 ((1:Int):Rat)):=Hi (Sz.int dZ);clear h hs ht H h00 hq hlo hhi hv1 hv2 hvm hr hfU hUK;unfold ak;go_enter Tryz.func63,Tryz.ntmps63
 go_upto_region 1 with fail
 refine nmA ?_;intro w1 hE B4 hz_w1 hr_w1;refine mV4 hE ?_ HX LP HS HT;clear HX LP HS HT;intro HX LP HS HT;replace b_B4:=bX3 B4
 go_wp2_with fail
 refine cM (nB pa P pc l K ⟨sn,sa,sl,sc,sb,sm,sd⟩ ⟨tn,ta,tl,tc,tb,tm,td⟩ a b T _ LP.out HH0.out.hP HH0.out.ne HH0.out.fk HH0.out.k1 HH0.out.k2 HH0.out.fs HS.out HT.out HH0.out.za HH0.out.zb hT3) fun x22 w22 hE _=>?_
 refine mV4 hE ?_ B4 HX HS HT;clear B4 HX HS HT;intro B4 HX HS HT;replace b_B4:=bX3 B4;rw [←HLO.out,←HHI.out];obtain ⟨n,hn⟩:∃ n,n=qA (tz l) lo hi:=⟨_,rfl⟩;have HNN:Hid (n=r+(if Sg.sg (evV q lo)=0 then 1 else 0)):=Hi (by rw [hn,HCT.out,HR.out]);have hn1:0≤n∧n≤1001:=by have:=HNN.out;split at this <;> omega
 rw [←hn];clear hn HCT
 go_wp2_with fail
 refine cM (eV ⟨sn,sa,sl,sc,sb,sm,sd⟩ ⟨tn,ta,tl,tc,tb,tm,td⟩ a b _ HS.out HT.out) fun x29 w29 hE G29=>?_
 refine mV2 hE ?_ B4 HX;clear B4 HX;intro B4 HX;replace b_B4:=bX3 B4;obtain ⟨⟨ln,la,ll,lc,lb,lm,ld⟩,⟨hn',ha,hl,hc,hb,hm,hd⟩⟩:=x29;rw [←HLO.out,←HHI.out] at G29;have HL:=Hi G29.out.1;have HH:=Hi G29.out.2;clear G29;clear HS;clear HT;clear LP
 go_upto_region 7 with fail
 refine bh B4.out rfl ?_;intro w30 T;replace HX:=Hi (T.ext HX.out zo);replace B4:=Hi (T.bx);replace HL:=Hi (HL.out.keep T.keep);replace HH:=Hi (HH.out.keep T.keep);clear T
 go_wp2_with fail
 refine cM (pu pa P pc l K _ (LPw.out.ext HX.out) zo (by rw [aI];exact HH0.out.ne) HH0.out.fk HH0.out.k1 HH0.out.k2 HH0.out.fs) fun x31 w31 hE G31=>?_
 refine mV4 hE ?_ HX B4 HL HH;clear HX B4 HL HH;intro HX B4 HL HH;obtain ⟨qa,qn,qc⟩:=x31;rw [←HQE.out] at G31;have LQ:=Hi G31.out.lin;have hqn:qn≤49:=by have h1:=G31.out.len;simp only at h1;omega
 have HQl:Hid (q.length=qn):=Hi G31.out.len;clear G31;simp only [SH.v];have HUK2:Hid (KZ K U qn):=Hi (by rw [←HQl.out];exact HUK.out)
 go_wp2_with fail
 refine cM (nC qa qn qc q U F K _ LQ.out.can zo HQ0.out hU hF hF2 HFU.out HUK2.out zo) fun x33 w33 hE G33=>?_
 refine mV5 hE ?_ HX B4 HL HH LQ;clear HX B4 HL HH LQ;intro HX B4 HL HH LQ;replace b_B4:=bX3 B4;obtain ⟨va,vn,vc⟩:=x33;have HC:=Hi G33.out;clear G33;simp only [SH.v]
 go_wp2_with fail
 refine cM (jZ qa qn qc q ⟨ln,la,ll,lc,lb,lm,ld⟩ lo _ LQ.out.can HL.out zo HSQ.out (ZA.out.mono zo) HEV.out) fun x37 w37 hE G37=>?_
 refine mV5 hE ?_ HX B4 HL HH HC;clear HX B4 HL HH HC;intro HX B4 HL HH HC
 go_wp2_with fail
 refine cM (cf x37 (evV q lo) _ (G37.out.raw (HEV.out 0 (Nat.zero_le _)) dZ)) fun x38 w38 hE _=>?_
 refine mV5 hE ?_ HX B4 HL HH HC;clear HX B4 HL HH HC;intro HX B4 HL HH HC;replace b_B4:=bX3 B4;rw [iF];clear G37;obtain ⟨y,hy⟩:∃ y,y=Sg.sg (evV q lo):=⟨_,rfl⟩;have HY:=Hi hy;rw [←hy] at HNN ⊢;clear hy;have HW1:=Hi (Ext.refl w38)
 go_upto_if 39 with fail
 go_cut [12,8] (fun u z wc=>∃ x:SH,u=x.v∧z=.int .i64 r∧Ext w38 wc∧gR wc (w.heap.size≤·) x.v x.n (if y=0 then [lo,lo] else [])∧x.n≤1)
 case first =>
  by_cases hy0:y=0
  case pos =>
   have HRN:Hid (n-1=r):=Hi (by have h:=HNN.out;rw [if_pos hy0] at h;omega);subst hy0
   go_wp2_with (at_builtin;refine lj rfl (.tmp 40) (.tmp 46) 54 Tryz.underlying54 rfl (w38.heap.size≤·) (.slice none 0 0) 0 [] w38.heap.size 0 1 1 [⟨ln,la,ll,lc,lb,lm,ld⟩,⟨ln,la,ll,lc,lb,lm,ld⟩] [lo,lo] rfl (gR.nil _ _) rfl rfl dZ (Br HL.out HL.out).1 (Br HL.out HL.out).2 dZ dZ (fun k hk=>nXf (by simp) hk) ?_;intro s' y3 q1 q2 q3)
   go_wp2_with fail
   go_meet
   case rel=>exact ⟨s',rfl,by rw [HRN.out],Ext.mods (HW1.out.trans (Ext.alloc _ _)) q2 (fun k h=>h),by
    have h1:=(gR.can q1).1;rw [show (if True then [lo,lo] else ([]:List Rat))=[lo,lo] from if_pos trivial,h1];exact q1.mono (fun k _ h=>nXf zo h),by have h1:=(gR.can q1).1;omega⟩
  case neg =>
   have hyb:(y == 0)=false:=by rw [nXs];exact hy0
   have HRN:Hid (n=r):=Hi (by have h:=HNN.out;rw [if_neg hy0] at h;omega);go_wp2
   go_meet
   case rel=>exact ⟨⟨none,0,0⟩,rfl,by rw [HRN.out],HW1.out,by rw [if_neg hy0];exact gR.nil _ _,dZ⟩
 case rest =>
  obtain ⟨⟨oa,on,oc⟩,rfl,rfl,hE,go,hon⟩:=hcut;have HO:=Hi go;clear go;simp only at hon;refine mV5 hE ?_ HX B4 HL HH HC;clear HX B4 HL HH HC;intro HX B4 HL HH HC;replace b_B4:=bX3 B4
  go_upto_region 12 with fail
  refine wpG 12 (fun opIx=>match opIx with
   | 6=>sR (((1:Int):Rat))
   | 8=>sR (((2 ^ bits:Nat):Rat))
   | 9=>sR (wd6 bits)
   | 11=>.spec (SH) (default) (SH.v) (fun x w'=>gR w' (w.heap.size≤·) x.v x.n (spV q (wd6 bits) E lo hi))
   | _=>.quiet) (fun|9=>[6,8]|11=>[9]|_=>[]) fun w0 he0 hz0 hc0 hf0=>?_
  refine wps he0 (fun w1 hW hG=>?_) fun x50=>?_
  ·exact spc [.int .i64 1] Tryz.func36 (ck 1 _ dZ dZ)
  refine qZ ?_;refine wps he0 (fun w1 hW hG=>?_) fun x51=>?_
  ·exact spc [.int .i64 (bits:Nat)] Tryz.func37 (tY bits _ zo)
  refine qZ ?_;refine wps he0 (fun w1 hW hG=>?_) fun x52=>?_
  ·have g50:=gS (hG 6 dZ);have g51:=gS (hG 8 dZ);exact spc [x50.v,x51.v] Tryz.func35 (iM x50 x51 ((1:Int):Rat) ((2 ^ bits:Nat):Rat) _ (g50.raw Z1.out dZ) (g51.raw ZU.out dZ))
  refine qZ ?_;refine wps he0 (fun w1 hW hG=>?_) fun x53=>?_
  ·have g52:=gS (hG 9 dZ);exact spc [.slice va vn vc,RH.v ⟨ln,la,ll,lc,lb,lm,ld⟩,RH.v ⟨hn',ha,hl,hc,hb,hm,hd⟩,x52.v,.int .i64 r] Tryz.func129 ((uW HSP.out HSZ.out E 0 zo ⟨va,vn,vc⟩ ⟨ln,la,ll,lc,lb,lm,ld⟩ ⟨hn',ha,hl,hc,hb,hm,hd⟩ x52 lo hi r _ (HC.out.ext hW) (HL.out.ext hW) (HH.out.ext hW) g52 DL.out DH.out HLE.out HD.out HR.out).weak (fun _ _ _ h=>h.mono (fun j _ hj=>by have h2:=hW.size;show w.heap.size≤j;have hj:_≤j:=hj;omega)))
  refine qZ ?_;refine aj ?_;intro w40 hI;have hE:=he0.out.trans hI.ext;have G53:=gT (hI.facts 11);clear hI he0 hz0 hc0 hf0;refine mV3 hE ?_ HO HX B4;clear HO HX B4;intro HO HX B4;replace b_B4:=bX3 B4;simp only [pD];have hn2:=G53.out.len;have hb2:x53.n≤1000:=by have:=HLn.out;have:=HVL.out;omega
  clear hn2;have HIV:Hid (IsE q (wd6 bits) E lo hi ((if y=0 then [lo,lo] else [])++spV q (wd6 bits) E lo hi)):=Hi (fun _=>by
   unfold Bs;have h:=lL (q:=evV q lo);rw [←HY.out] at h;by_cases h0:y=0
   ·rw [if_pos h0,if_pos (h.1 h0)]
   ·rw [if_neg h0,if_neg (fun k=>h0 (h.2 k))])
  go_wp2_with (at_builtin;refine gJ rfl (.tmp 50) (.tmp 61) 54 Tryz.underlying54 rfl (w.heap.size≤·) _ on _ x53 _ rfl HO.out rfl (gR.can G53.out).2 zo zo (fun j hj=>by show w.heap.size≤j;omega) ?_;intro s' y3 q1 q2 q3)
  have HX3:=Hi (Ext.mods HX.out q2 (fun k h=>h));have HO3:=Hi q1;clear q1 q2 q3;go_wp2;have hn':s'.n=on+x53.n:=(gR.can HO3.out).1;exact nXa (v:=.tuple #[SH.v s',.int .i64 0]) (by simp [results,Tryz.results63,go_sem]) rfl ⟨s',rfl,HX3.out,by rw [←HQE.out,←HLO.out,←HHI.out,HIV.out ()];have h:=HO3.out;rw [←hn'] at h;exact h,zo⟩
def AfZ(S D T n:Nat)(p:List Rat):Prop:=1≤S∧0<D∧D<W32 ^ S∧FrL S D p∧p.length≤n∧n≤100∧S+n+n*(T+1)≤8000000
theorem nE(pa:Option Addr)(P pc:Nat)(l:List Rat)(t:RH)(x:Rat)(S D T n:Nat)(w:World)(h:ct w ⟨pa,P,pc⟩ l)(hP:P≤1000)(hz:AfZ S D T n (tz l))(ht:aP w t x)(hx:Sz T x)(hT:T≤8000000) :
  ak 62 [.slice pa P pc,t.v] w (fun _:Unit=>.int .i64 (kj ((tz l).length+1) (tz l) x)) (fun _ _=>True):=by
 obtain ⟨tn,ta,tl,tc,tb,tm,td⟩:=t;have HX:=Hi (Ext.refl w);have LP:=Hi h;have HT:=Hi ht;have ZX:=Hi hx;obtain ⟨z1,z2,z3,z4,z5,z6,z7⟩:=hz;obtain ⟨N,hN⟩:∃ N,N=(tz l).length:=⟨_,rfl⟩;rw [←hN] at z5 ⊢;have HN:=Hi hN;have HF:=Hi z4;have HD:=Hi z2;have HD2:=Hi z3;clear h ht hx hN z2 z3 z4;unfold ak;go_enter Tryz.func62,Tryz.ntmps62
 go_upto_region 1 with fail
 refine nmA ?_;intro w1 hE B3 hz_w1 hr_w1;refine mV3 hE ?_ HX LP HT;clear HX LP HT;intro HX LP HT
 go_wp2_with fail
 refine cM (ce pa P pc l _ LP.out zo) fun x7 w7 hE G7=>?_
 refine mV3 hE ?_ B3 HX HT;clear B3 HX HT;intro B3 HX HT;obtain ⟨qa0,Q0,qc0⟩:=x7;have LQ:=Hi G7.out.can.lin;have HQ0:Hid (Q0=N):=Hi (by have h:=G7.out.can.len;simp only at h;rw [HN.out];exact h.symm);clear G7;clear LP;have h0q:=HQ0.out;subst h0q;obtain ⟨b3,hb3⟩:∃ b,b=w.heap.size:=⟨_,rfl⟩;rw [←hb3] at B3 ⊢;clear hb3;simp only [SH.v];go_wp2
 go_loopg [0] Q0 (fun g v wr=>∃ (qa:Option Addr) (qn qc i:Nat) (q:List Rat),v=.slice qa qn qc∧Ext w wr∧aD wr ⟨qa,qn,qc⟩ q∧aP wr ⟨tn,ta,tl,tc,tb,tm,td⟩ x∧wr.heap[b3]?=some (.cells #[.bool tn,.slice ta tl tc,.slice tb tm td] 34 (0,0))∧tz q=q∧i+g=Q0∧qn≤g∧FrL (S+i) D q∧kj (g+1) q x=kj (Q0+1) (tz l) x)
 case atStart=>exact ⟨qa0,Q0,qc0,0,tz l,rfl,HX.out,LQ.out.can,HT.out,B3.out,aI l,zo,nXe _,HF.out,rfl⟩
 case round =>
  obtain ⟨qa,qn,qc,i,q,rfl,g1,g2,g3,g4,g5,g6,g7,g8,g9⟩:=hrel;clear HX LQ HT B3;have HX:=Hi g1;have LQ:=Hi g2.lin;have HT:=Hi g3;have B3:=Hi g4;have HQZ:=Hi g5;have HQF:=Hi g8;have HV:=Hi g9;have HQl:=Hi g2.len;simp only at HQl;clear g1 g2 g3 g4 g5 g8 g9;replace b_B3:=bX3 B3;by_cases h0:qn=0
  case pos =>
   subst h0;have HE:Hid (kj (Q0+1) (tz l) x=0):=Hi (by rw [←HV.out,nXj.1 HQl.out,Cg]);go_wp2
   go_ret
   exact ⟨(),by rw [HE.out];rfl,HX.out,trivial⟩
  obtain ⟨m,rfl⟩:∃ m,qn=m+1:=⟨qn-1,zo⟩;have hpos:(0:Int)<(m:Int)+1:=zo;have Hne:Hid (q≠[]):=Hi (fun h=>by have:=HQl.out;rw [h] at this;simp at this);have hmul:(m+1)*(T+1)≤n*(T+1):=nXh _ zo;have hD3:Hid (D<W32 ^ (S+i)):=Hi (nXn HD2.out (nXp aw zo));have HSZ:Hid (SzL 8000000 q):=Hi ((HQF.out.sz zo HD.out hD3.out).mono zo);have HEV:Hid (∀ k,k≤q.length→Sz 40000000 (evV (q.drop k) x)):=Hi (fun k _=>(nw HQF.out ZX.out zo HD.out hD3.out k).mono (by rw [HQl.out];omega))
  go_wp2_with fail
  refine cM (gi qa (m+1) qc q ⟨tn,ta,tl,tc,tb,tm,td⟩ x _ (LQ.out.can.raw HSZ.out dZ) HT.out zo (HSZ.out.mono dZ) (ZX.out.mono zo) HEV.out) fun x13 w13 hE G13=>?_
  refine mV4 hE ?_ HX LQ HT B3;clear HX LQ HT B3;intro HX LQ HT B3
  go_wp2_with fail
  refine cM (cf x13 (evV q x) _ (G13.out.raw (HEV.out 0 (Nat.zero_le _)) dZ)) fun x14 w14 hE _=>?_
  refine mV4 hE ?_ HX LQ HT B3;clear HX LQ HT B3;intro HX LQ HT B3;rw [iF];clear G13;obtain ⟨s,hs⟩:∃ s,s=Sg.sg (evV q x):=⟨_,rfl⟩;have HS:=Hi hs;rw [←hs];clear hs hmul;obtain ⟨g0,rfl⟩:∃ g0,gk=g0+1:=⟨gk-1,zo⟩;have HST:Hid (kj (g0+1+1) q x=if s≠0 then s else kj (g0+1) (tz (derL q)) x):=Hi (by
   rw [show kj (g0+1+1) q x=if q=[] then 0 else if Sg.sg (evV q x)≠0 then Sg.sg (evV q x) else kj (g0+1) (tz (derL q)) x from rfl,if_neg Hne.out,←HS.out])
  by_cases hs0:s=0
  case neg =>
   have hsb:(s == 0)=false:=by rw [nXs];exact hs0
   have hsb2:(s != 0)=true:=by rw [bne,hsb];rfl
   have HE:Hid (kj (Q0+1) (tz l) x=s):=Hi (by rw [←HV.out,HST.out,if_pos hs0]);go_wp2
   go_ret
   exact ⟨(),by rw [HE.out];rfl,HX.out,trivial⟩
  have HE:Hid (kj (g0+1) (tz (derL q)) x=kj (Q0+1) (tz l) x):=Hi (by rw [←HV.out,HST.out,if_neg (fun h=>h hs0)]);subst hs0;have HQ2:Hid ((tz (derL q)).length+1≤m+1):=Hi (by have:=j1 (p:=q) (by rw [HQZ.out];exact Hne.out);have:=HQl.out;omega)
  go_wp2_with fail
  refine cM (oL qa (m+1) qc q _ LQ.out.can zo (HSZ.out.mono dZ)) fun x19 w19 hE G19=>?_
  refine mV3 hE ?_ HX HT B3;clear HX HT B3;intro HX HT B3;obtain ⟨da,dn,dc⟩:=x19;have HDD:Hid (aD w19 ⟨da,dn,dc⟩ (tz (derL q))):=Hi G19.out.can;have hdn:=HDD.out.len;simp only at hdn;have hd2:=HQ2.out;simp only [SH.v];go_wp2
  go_roundg g0
  case measure=>omega
  case rel=>exact ⟨da,dn,dc,i+1,_,rfl,HX.out,HDD.out,HT.out,B3.out,aI _,zo,zo,jo HQF.out (by have:=HQl.out;omega),HE.out⟩
theorem AfZ.tz{S D T n:Nat}{l:List Rat}(h:AfZ S D T n l):AfZ S D T n (tz l) :=
 ⟨h.1,h.2.1,h.2.2.1,fun x hx=>h.2.2.2.1 x (gO hx),nXf (ae l) h.2.2.2.2.1,h.2.2.2.2.2.1,h.2.2.2.2.2.2⟩
theorem AfZ.sz{S D T n:Nat}{l:List Rat}(h:AfZ S D T n l):SzL 8000000 l:=(h.2.2.2.1.sz h.1 h.2.1 h.2.2.1).mono (by have:=h.2.2.2.2.2.2;omega)
theorem AfZ.ev{S D T n:Nat}{l:List Rat}(h:AfZ S D T n l){x:Rat}(hx:Sz T x):∀ k,k≤l.length→Sz 40000000 (evV (l.drop k) x):=fun k _=>(nw h.2.2.2.1 hx h.1 h.2.1 h.2.2.1 k).mono (by
 have h1:=h.2.2.2.2.2.2;have h2:l.length*(T+1)≤n*(T+1):=nXh _ h.2.2.2.2.1;omega)
theorem qW:∀ qs:List Rat,(prp qs).length=qs.length / 2
 | []=>rfl
 | [a]=>by simp [prp]
 | a :: b :: l=>by
  show (prp l).length+1=_;rw [qW l];simp only [List.length_cons];omega
theorem Be:∀ (qs:List Rat) (k:Nat),2*k+1<qs.length→(prp qs)[k]?=some (qs.getD (2*k) 0,qs.getD (2*k+1) 0)
 | [],k,h=>by simp at h
 | [_],k,h=>by simp at h
 | a :: b :: l,0,_=>rfl
 | a :: b :: l,k+1,h=>by
  show (prp l)[k]?=_;rw [Be l k (by simp only [List.length_cons] at h;omega)];rfl
theorem zB{qs:List Rat}{k:Nat}(h:2*k+1<qs.length):(prp qs).drop k=(qs.getD (2*k) 0,qs.getD (2*k+1) 0) :: (prp qs).drop (k+1):=by
 have hl:k<(prp qs).length:=by rw [qW];omega
 rw [List.drop_eq_getElem_cons hl]
 congr 1
 have e:=Be qs k h;rw [List.getElem?_eq_getElem hl] at e;exact Option.some.inj e
theorem pR{qs:List Rat}{k:Nat}(h:k<qs.length):qs.getD k 0 ∈ qs:=by
 rw [nXd,List.getElem?_eq_getElem h];exact List.getElem_mem _
def NnE(r:Bool)(p:List Rat)(hi:Rat)(L:List Rat)(j:Nat):Prop:=Unit→r=((prp L).drop j).all (ok6 p hi)
theorem xY{a b:Rat}:dq a b=0↔a=b:=by
 unfold dq;by_cases h:a<b
 ·rw [if_pos h];exact ⟨fun k=>absurd k dZ,fun k=>by exfalso;grind⟩
 ·rw [if_neg h];by_cases h2:a=b
  ·rw [if_pos h2];exact ⟨fun _=>h2,fun _=>rfl⟩
  ·rw [if_neg h2];exact ⟨fun k=>absurd k dZ,fun k=>absurd k h2⟩
theorem vZ{p:List Rat}{hi:Rat}{x:Rat×Rat}(h:Sg.sg (evV p x.1)<0):ok6 p hi x=false:=by unfold ok6;rw [decide_eq_true h,Bool.or_true];rfl
theorem CD{p:List Rat}{hi:Rat}{x:Rat×Rat}(h:x.2<hi)(k:kj (p.length+1) p x.2<0):ok6 p hi x=false:=by unfold ok6;rw [decide_eq_true h,decide_eq_true k];rfl
theorem vY{p:List Rat}{hi:Rat}{x:Rat×Rat}(h:(decide (x.2<hi) && decide (kj (p.length+1) p x.2<0))=false)(k:¬ Sg.sg (evV p x.1)<0):ok6 p hi x=true:=by unfold ok6;rw [h,decide_eq_false k];rfl
theorem rt(pa:Option Addr)(P pc:Nat)(l:List Rat)(s t:RH)(a b:Rat)(w:World)(h:ct w ⟨pa,P,pc⟩ l)(hP:P≤1000000)(hs:aP w s a)(ht:aP w t b)(h0:tz l=[]) :
  ak 14 [.slice pa P pc,IvV (s,t)] w (fun _:Unit=>.tuple #[.bool true,.int .i64 0]) (fun _ _=>True):=by
 obtain ⟨sn,sa,sl,sc,sb,sm,sd⟩:=s;obtain ⟨tn,ta,tl,tc,tb,tm,td⟩:=t;have HX:=Hi (Ext.refl w);have LP:=Hi h;have LPw:=Hi h;have HS:=Hi hs;have HT:=Hi ht;have H0:=Hi h0;clear h hs ht h0;unfold ak;go_enter Tryz.func14,Tryz.ntmps14
 go_upto_region 1 with fail
 refine nmA ?_;intro w1 hE B3 hz_w1 hr_w1;refine mV4 hE ?_ HX LP HS HT;clear HX LP HS HT;intro HX LP HS HT
 go_wp2_with fail
 refine cM (dw pa P pc l _ LP.out zo) fun x11 w11 hE _=>?_
 refine mV4 hE ?_ B3 HX HS HT;clear B3 HX HS HT;intro B3 HX HS HT;replace b_B3:=bX3 B3;rw [H0.out];simp only [List.length_nil]
 go_wp2_with fail
 refine cM (eV ⟨sn,sa,sl,sc,sb,sm,sd⟩ ⟨tn,ta,tl,tc,tb,tm,td⟩ a b _ HS.out HT.out) fun x14 w14 hE G14=>?_
 refine mV2 hE ?_ B3 HX;clear B3 HX;intro B3 HX;replace b_B3:=bX3 B3;obtain ⟨⟨ln,la,ll,lc,lb,lm,ld⟩,⟨hn',ha,hl,hc,hb,hm,hd⟩⟩:=x14;clear LP
 go_upto_region 4 with fail
 refine bh B3.out rfl ?_;intro w15 T;replace HX:=Hi (T.ext HX.out zo);clear T
 go_wp2_with fail
 refine cM (dw pa P pc l _ (LPw.out.ext HX.out) zo) fun x16 w16 hE _=>?_
 replace HX:=hE.tr HX;rw [H0.out];simp only [List.length_nil];go_wp2;exact nXa (v:=.tuple #[.bool true,.int .i64 0]) (by simp [results,Tryz.results14,go_sem]) rfl ⟨(),rfl,HX.out,trivial⟩
theorem ru(pa:Option Addr)(P pc:Nat)(l:List Rat)(K:Nat)(s t:RH)(a b:Rat)(T m Y E D S2 D2 n2:Nat)(w:World)(h:ct w ⟨pa,P,pc⟩ l)(hs:aP w s a)(ht:aP w t b)(H:Is6 l K P (loV a b) (hiV a b) 0 T m Y E D)(Z:AfZ S2 D2 (3*T+m+1) n2 l) :
  ak 14 [.slice pa P pc,IvV (s,t)] w (fun _:Unit=>.tuple #[.bool (ER (tz l) (loV a b) (hiV a b) (Bs (sqfV (tz l)) (wd6 0) E (loV a b) (hiV a b))),.int .i64 0]) (fun _ _=>True):=by
 obtain ⟨sn,sa,sl,sc,sb,sm,sd⟩:=s;obtain ⟨tn,ta,tl,tc,tb,tm,td⟩:=t;have HX:=Hi (Ext.refl w);have LP:=Hi h;have LPw:=Hi h;have HS:=Hi hs;have HT:=Hi ht;have HH0:=Hi H;have HAZ:=Hi Z;have hP:=H.hP;have hT3:=H.t3;have hT2:=H.sz.t;have HLE:=Hi (Ad a b);obtain ⟨lo,hlo⟩:∃ lo,lo=loV a b:=⟨_,rfl⟩;obtain ⟨hi,hhi⟩:∃ hi,hi=hiV a b:=⟨_,rfl⟩;have HLO:=Hi hlo;have HHI:=Hi hhi;rw [←hlo,←hhi] at HLE HH0 ⊢;have ZA:=Hi HH0.out.za;have ZB:=Hi HH0.out.zb;obtain ⟨L,hL⟩:∃ L,L=Bs (sqfV (tz l)) (wd6 0) E lo hi:=⟨_,rfl⟩;have HLL:=Hi hL;have ZL:Hid (∀ y ∈ L,Sz (3*T+m+1) y):=Hi (fun y hy=>by
  rw [hL] at hy;unfold Bs at hy;rcases List.mem_append.1 hy with k|k
  ·split at k
   ·simp only [List.mem_cons,List.not_mem_nil,or_false] at k;rcases k with rfl|rfl <;> exact ZA.out.mono zo
   ·simp at k
  ·have d1:=HH0.out.dl;have d2:=HH0.out.dh;rw [mL HLE.out] at d1;rw [mM HLE.out] at d2;exact Gd (P:=fun x=>Sz (3*T+m+1) x) (E:=E) (fun e x he hx=>hx.sz HH0.out.sp.dp HH0.out.sp.dl (by have:=HH0.out.sz.e;omega)) E (e:=0) zo d1 d2 y k)
 rw [←hL];obtain ⟨r,hr⟩:∃ r,r=ER (tz l) lo hi L:=⟨_,rfl⟩;have HR:=Hi hr;rw [←hr];obtain ⟨p,hp⟩:∃ p,p=tz l:=⟨_,rfl⟩;rw [←hp] at HR;have HP:=Hi hp;have HPN:Hid (p≠[]):=Hi (by rw [hp];exact H.ne);obtain ⟨N,hN⟩:∃ N,N=(tz l).length:=⟨_,rfl⟩;have hN1:1≤N:=by rw [hN];exact nYh.2 H.ne
 have hN2:N≤49:=by rw [hN];have:=ae l;have:=h.len;simp only at this;omega
 have HN:=Hi hN;obtain ⟨y1,hy1⟩:∃ y,y=Sg.sg (evV l lo):=⟨_,rfl⟩;obtain ⟨y2,hy2⟩:∃ y,y=Sg.sg (evV l hi):=⟨_,rfl⟩;obtain ⟨y3,hy3⟩:∃ y,y=kj (p.length+1) p lo:=⟨_,rfl⟩;have HY1:=Hi hy1;have HY2:=Hi hy2;have HY3:=Hi hy3;have HVR:Hid (Fn (r=if y1<0∨y2<0 then false else if lo=hi then true else if y3<0 then false else (prp L).all (ok6 p hi))):=Hi (fun _=>by
  rw [HR.out];unfold ER;rw [if_neg HPN.out,hy1,hy2,hy3,hp,dN,dN])
 clear h hs ht H Z hlo hhi hL hr hp hN hy1 hy2 hy3 HR;unfold ak;go_enter Tryz.func14,Tryz.ntmps14
 go_upto_region 1 with fail
 refine nmA ?_;intro w1 hE B3 hz_w1 hr_w1;refine mV4 hE ?_ HX LP HS HT;clear HX LP HS HT;intro HX LP HS HT
 go_wp2_with fail
 refine cM (dw pa P pc l _ LP.out zo) fun x11 w11 hE _=>?_
 refine mV4 hE ?_ B3 HX HS HT;clear B3 HX HS HT;intro B3 HX HS HT;replace b_B3:=bX3 B3;rw [←HN.out]
 go_wp2_with fail
 refine cM (eV ⟨sn,sa,sl,sc,sb,sm,sd⟩ ⟨tn,ta,tl,tc,tb,tm,td⟩ a b _ HS.out HT.out) fun x14 w14 hE G14=>?_
 refine mV2 hE ?_ B3 HX;clear B3 HX;intro B3 HX;replace b_B3:=bX3 B3;obtain ⟨⟨ln,la,ll,lc,lb,lm,ld⟩,⟨hn',ha,hl,hc,hb,hm,hd⟩⟩:=x14;rw [←HLO.out,←HHI.out] at G14;have HL:=Hi G14.out.1;have HH:=Hi G14.out.2;clear G14;clear HS;clear HT;clear LP
 go_upto_region 4 with fail
 refine bh B3.out rfl ?_;intro w15 T;replace HX:=Hi (T.ext HX.out zo);replace B3:=Hi (T.bx);replace HL:=Hi (HL.out.keep T.keep);replace HH:=Hi (HH.out.keep T.keep);clear T;have LP:=Hi (LPw.out.ext HX.out)
 go_wp2_with fail
 refine cM (dw pa P pc l _ LP.out zo) fun x16 w16 hE _=>?_
 refine mV5 hE ?_ HX B3 HL HH LP;clear HX B3 HL HH LP;intro HX B3 HL HH LP;replace b_B3:=bX3 B3;rw [←HN.out]
 go_wp2_with fail
 refine cM (gi pa P pc l ⟨ln,la,ll,lc,lb,lm,ld⟩ lo _ LP.out (HL.out.raw ZA.out zo) zo (HAZ.out.sz.mono dZ) (ZA.out.mono zo) (HAZ.out.ev (ZA.out.mono zo))) fun x21 w21 hE G21=>?_
 refine mV5 hE ?_ HX B3 HL HH LP;clear HX B3 HL HH LP;intro HX B3 HL HH LP
 go_wp2_with fail
 refine cM (cf x21 (evV l lo) _ (G21.out.raw (HAZ.out.ev (ZA.out.mono zo) 0 (Nat.zero_le _)) dZ)) fun x22 w22 hE _=>?_
 refine mV5 hE ?_ HX B3 HL HH LP;clear HX B3 HL HH LP;intro HX B3 HL HH LP;replace b_B3:=bX3 B3;rw [iF,←HY1.out];clear G21;by_cases h1:y1<0
 case pos =>
  have HV:Hid (r=false):=Hi (by rw [HVR.out (),if_pos (Or.inl h1)]);go_wp2;exact nXa (v:=.tuple #[.bool r,.int .i64 0]) (by rw [HV.out];simp [results,Tryz.results14,go_sem]) rfl ⟨(),rfl,HX.out,trivial⟩
 have HN1:Hid (Fn (¬ y1<0)):=Hi (fun _=>h1)
 go_wp2_with fail
 refine cM (gi pa P pc l ⟨hn',ha,hl,hc,hb,hm,hd⟩ hi _ LP.out (HH.out.raw ZB.out zo) zo (HAZ.out.sz.mono dZ) (ZB.out.mono zo) (HAZ.out.ev (ZB.out.mono zo))) fun x28 w28 hE G28=>?_
 refine mV5 hE ?_ HX B3 HL HH LP;clear HX B3 HL HH LP;intro HX B3 HL HH LP
 go_wp2_with fail
 refine cM (cf x28 (evV l hi) _ (G28.out.raw (HAZ.out.ev (ZB.out.mono zo) 0 (Nat.zero_le _)) dZ)) fun x29 w29 hE _=>?_
 refine mV5 hE ?_ HX B3 HL HH LP;clear HX B3 HL HH LP;intro HX B3 HL HH LP;replace b_B3:=bX3 B3;rw [iF,←HY2.out];clear G28;by_cases h2:y2<0
 case pos =>
  have HV:Hid (r=false):=Hi (by rw [HVR.out (),if_pos (Or.inr h2)]);go_wp2;exact nXa (v:=.tuple #[.bool r,.int .i64 0]) (by rw [HV.out];simp [results,Tryz.results14,go_sem]) rfl ⟨(),rfl,HX.out,trivial⟩
 have HN2:Hid (Fn (¬ y2<0)):=Hi (fun _=>h2)
 go_wp2_with fail
 refine cM (jN ⟨ln,la,ll,lc,lb,lm,ld⟩ ⟨hn',ha,hl,hc,hb,hm,hd⟩ lo hi _ (HL.out.raw ZA.out zo) (HH.out.raw ZB.out zo)) fun x36 w36 hE _=>?_
 refine mV5 hE ?_ HX B3 HL HH LP;clear HX B3 HL HH LP;intro HX B3 HL HH LP;replace b_B3:=bX3 B3;obtain ⟨c,hc0⟩:∃ c,c=dq lo hi:=⟨_,rfl⟩;have HC0:=Hi hc0;rw [←hc0];clear hc0;by_cases h3:c=0
 case pos =>
  have HV:Hid (r=true):=Hi (by rw [HVR.out (),if_neg (fun k=>by have a1:=HN1.out ();have a2:=HN2.out ();omega),if_pos (xY.1 (by rw [←HC0.out];exact h3))]);subst h3;go_wp2;exact nXa (v:=.tuple #[.bool r,.int .i64 0]) (by rw [HV.out];simp [results,Tryz.results14,go_sem]) rfl ⟨(),rfl,HX.out,trivial⟩
 have h3b:(c == 0)=false:=by rw [nXs];exact h3
 have HNEQ:Hid (lo≠hi):=Hi (fun k=>h3 (by rw [HC0.out];exact xY.2 k))
 go_wp2_with fail
 refine cM ((by have h:=nE pa P pc l ⟨ln,la,ll,lc,lb,lm,ld⟩ lo S2 D2 (3*T+m+1) n2 _ LP.out zo HAZ.out.tz (HL.out.raw ZA.out zo) (ZA.out.mono zo) zo;rw [←HP.out,←HY3.out] at h;exact h)) fun x41 w41 hE _=>?_
 refine mV5 hE ?_ HX B3 HL HH LP;clear HX B3 HL HH LP;intro HX B3 HL HH LP;replace b_B3:=bX3 B3;by_cases h4:y3<0
 case pos =>
  have HV:Hid (r=false):=Hi (by rw [HVR.out (),if_neg (fun k=>by have a1:=HN1.out ();have a2:=HN2.out ();omega),if_neg HNEQ.out,if_pos h4]);go_wp2;exact nXa (v:=.tuple #[.bool r,.int .i64 0]) (by rw [HV.out];simp [results,Tryz.results14,go_sem]) rfl ⟨(),rfl,HX.out,trivial⟩
 have HNE0:Hid (NnE r p hi L 0):=Hi (fun _=>by rw [HVR.out (),if_neg (fun k=>by have a1:=HN1.out ();have a2:=HN2.out ();omega),if_neg HNEQ.out,if_neg h4,List.drop_zero]);clear h1 h2 h3 h3b
 go_wp2_with fail
 refine cM ((by have h:=pN pa P pc l K ⟨ln,la,ll,lc,lb,lm,ld⟩ ⟨hn',ha,hl,hc,hb,hm,hd⟩ lo hi 0 T m Y E D _ LP.out (HL.out.raw ZA.out zo) (HH.out.raw ZB.out zo) HH0.out;rw [mL HLE.out,mM HLE.out,←HLL.out,show ((0:Nat):Int)=0 from rfl] at h;exact h)) fun x46 w46 hE G46=>?_
 refine mV4 hE ?_ HX B3 HH LP;clear HX B3 HH LP;intro HX B3 HH LP;obtain ⟨xo,xn,xc⟩:=x46;have LX:=Hi (gR.can G46.out.1).2;have hxn:=G46.out.2;simp only at hxn;have HQl:Hid (L.length=xn*2):=Hi G46.out.1.len;clear G46;obtain ⟨b3,hb3⟩:∃ x,x=w.heap.size:=⟨_,rfl⟩;rw [←hb3] at B3 ⊢;clear hb3;have LP9:=LP;have LX9:=LX;have HH9:=HH;have HX9:=HX;have B39:=B3;have HXA:=Hi (Ext.refl w46);simp only [SH.v];go_wp2
 go_loopg [51] xn (fun g i wr=>∃ j:Nat,j+g=xn∧i=.int .i64 (j:Nat)∧Ext w46 wr∧NnE r p hi L j)
 case atStart=>exact ⟨0,zo,rfl,HXA.out,HNE0.out⟩
 case round =>
  obtain ⟨j,hj,rfl,g1,g2⟩:=hrel;clear HXA B3 HL HH HX LP LX;have HXA:=Hi g1;have B3:=Hi (g1.block B39.out);have HH:=Hi (HH9.out.ext g1);have HX:=Hi (HX9.out.trans g1);have LP:=Hi (LP9.out.ext g1);have LX:=Hi (LX9.out.ext g1);have HNE:=Hi g2;clear g1 g2;by_cases h1:gk=0
  case pos =>
   subst h1;obtain rfl:j=xn:=by omega
   have HV:Hid (r=true):=Hi (by rw [HNE.out (),List.drop_eq_nil_of_le (by rw [qW,HQl.out];omega)];rfl);go_wp2;exact nXa (v:=.tuple #[.bool r,.int .i64 0]) (by rw [HV.out];simp [results,Tryz.results14,go_sem]) rfl ⟨(),rfl,HX.out,trivial⟩
  have hin:(j:Int)<xn:=zo;obtain ⟨bw,off,r1,t1,hao,hbl,⟨f1,f2,f3,f4,f5,f6⟩,R1,R2⟩:=LX.out.at (k:=j) zo;have ZX1:Hid (Sz (3*T+m+1) (L.getD (2*j) 0)):=Hi (ZL.out _ (pR (by rw [HQl.out];omega)));have ZX2:Hid (Sz (3*T+m+1) (L.getD (2*j+1) 0)):=Hi (ZL.out _ (pR (by rw [HQl.out];omega)));have HDR:=Hi (show Fn ((prp L).drop j=(L.getD (2*j) 0,L.getD (2*j+1) 0) :: (prp L).drop (j+1)) from fun _=>zB (by rw [HQl.out];omega));obtain ⟨x1,hx1⟩:∃ x,x=L.getD (2*j) 0:=⟨_,rfl⟩;obtain ⟨x2,hx2⟩:∃ x,x=L.getD (2*j+1) 0:=⟨_,rfl⟩;rw [←hx1] at R1 ZX1 HDR;rw [←hx2] at R2 ZX2 HDR;obtain ⟨rn,ra,rl,rc,rb,rm,rd⟩:=r1;obtain ⟨kn,ka,kl,kc,kb,km,kd⟩:=t1;simp only at f1 f2 f3 f4 f5 f6;have RP:=Hi R1;have RK:=Hi R2;subst hao;clear R1 R2 hx1 hx2
  go_upto_region 16 with fail
  refine nmA ?_;intro w52 hE B9 hz_w52 hr_w52;refine mV7 hE ?_ HXA B3 HH HX LP RP RK;clear HXA B3 HH HX LP RP RK;intro HXA B3 HH HX LP RP RK;clear f1 f2 f3 f4 f5 f6;obtain ⟨b9,hb9⟩:∃ x,x=wr.heap.size:=⟨_,rfl⟩;rw [←hb9] at B9 ⊢;clear hb9;replace b_B3:=bX3 B3;replace b_B9:=bX3 B9
  (try simp only at B9)
  go_wp2_with fail
  refine cM (kk ⟨kn,ka,kl,kc,kb,km,kd⟩ ⟨hn',ha,hl,hc,hb,hm,hd⟩ x2 hi _ (RK.out.raw ZX2.out zo) (HH.out.raw ZB.out zo)) fun x59 w59 hE _=>?_
  refine mV6 hE ?_ B9 HXA HX LP RP RK;clear B9 HXA HX LP RP RK;intro B9 HXA HX LP RP RK;replace b_B9:=bX3 B9;by_cases h2:x2<hi
  case neg =>
   rw [decide_eq_false h2];have HOK:Hid ((decide (x2<hi) && decide (kj (p.length+1) p x2<0))=false):=Hi (by rw [decide_eq_false h2];rfl);clear h2
   go_wp2_with fail
   refine cM (gi pa P pc l ⟨rn,ra,rl,rc,rb,rm,rd⟩ x1 _ LP.out (RP.out.raw ZX1.out zo) zo (HAZ.out.sz.mono dZ) (ZX1.out.mono zo) (HAZ.out.ev ZX1.out)) fun x71 w71 hE G71=>?_
   refine mV2 hE ?_ HXA HX;clear HXA HX;intro HXA HX
   go_wp2_with fail
   refine cM (cf x71 (evV l x1) _ (G71.out.raw (HAZ.out.ev ZX1.out 0 (Nat.zero_le _)) dZ)) fun x72 w72 hE _=>?_
   refine mV2 hE ?_ HXA HX;clear HXA HX;intro HXA HX;rw [iF];obtain ⟨y,hy⟩:∃ y,y=Sg.sg (evV l x1):=⟨_,rfl⟩;rw [←hy];by_cases hy0:y<0
   case pos =>
    have HV:Hid (r=false):=Hi (by rw [HNE.out (),HDR.out (),List.all_cons,vZ (hi:=hi) (x:=(x1,x2)) (show Sg.sg (evV p x1)<0 by rw [HP.out,dN,←hy];exact hy0),Bool.false_and]);clear hy;go_wp2;exact nXa (v:=.tuple #[.bool r,.int .i64 0]) (by rw [HV.out];simp [results,Tryz.results14,go_sem]) rfl ⟨(),rfl,HX.out,trivial⟩
   have HNN2:Hid (NnE r p hi L (j+1)):=Hi (fun _=>by rw [HNE.out (),HDR.out (),List.all_cons,vY (x:=(x1,x2)) HOK.out (show ¬ Sg.sg (evV p x1)<0 by rw [HP.out,dN,←hy];exact hy0),Bool.true_and]);clear hy;go_wp2
   go_roundg (gk-1)
   case measure=>omega
   case rel=>exact ⟨j+1,zo,by go_num,HXA.out,HNN2.out⟩
  rw [decide_eq_true h2]
  go_wp2_with fail
  refine cM ((by have h:=nE pa P pc l ⟨kn,ka,kl,kc,kb,km,kd⟩ x2 S2 D2 (3*T+m+1) n2 _ LP.out zo HAZ.out.tz (RK.out.raw ZX2.out zo) ZX2.out zo;rw [←HP.out] at h;exact h)) fun x64 w64 hE _=>?_
  refine mV5 hE ?_ B9 LP RP HXA HX;clear B9 LP RP HXA HX;intro B9 LP RP HXA HX;replace b_B9:=bX3 B9;obtain ⟨y4,hy4⟩:∃ y,y=kj (p.length+1) p x2:=⟨_,rfl⟩;rw [←hy4];by_cases h5:y4<0
  case pos =>
   have HV:Hid (r=false):=Hi (by rw [HNE.out (),HDR.out (),List.all_cons,CD (x:=(x1,x2)) h2 (by rw [←hy4];exact h5),Bool.false_and]);clear hy4 h2;go_wp2;exact nXa (v:=.tuple #[.bool r,.int .i64 0]) (by rw [HV.out];simp [results,Tryz.results14,go_sem]) rfl ⟨(),rfl,HX.out,trivial⟩
  have HOK:Hid ((decide (x2<hi) && decide (kj (p.length+1) p x2<0))=false):=Hi (by rw [←hy4,decide_eq_false h5,Bool.and_false]);clear h2 hy4
  go_wp2_with fail
  refine cM (gi pa P pc l ⟨rn,ra,rl,rc,rb,rm,rd⟩ x1 _ LP.out (RP.out.raw ZX1.out zo) zo (HAZ.out.sz.mono dZ) (ZX1.out.mono zo) (HAZ.out.ev ZX1.out)) fun x71 w71 hE G71=>?_
  refine mV2 hE ?_ HXA HX;clear HXA HX;intro HXA HX
  go_wp2_with fail
  refine cM (cf x71 (evV l x1) _ (G71.out.raw (HAZ.out.ev ZX1.out 0 (Nat.zero_le _)) dZ)) fun x72 w72 hE _=>?_
  refine mV2 hE ?_ HXA HX;clear HXA HX;intro HXA HX;rw [iF];obtain ⟨y,hy⟩:∃ y,y=Sg.sg (evV l x1):=⟨_,rfl⟩;rw [←hy];by_cases hy0:y<0
  case pos =>
   have HV:Hid (r=false):=Hi (by rw [HNE.out (),HDR.out (),List.all_cons,vZ (hi:=hi) (x:=(x1,x2)) (show Sg.sg (evV p x1)<0 by rw [HP.out,dN,←hy];exact hy0),Bool.false_and]);clear hy;go_wp2;exact nXa (v:=.tuple #[.bool r,.int .i64 0]) (by rw [HV.out];simp [results,Tryz.results14,go_sem]) rfl ⟨(),rfl,HX.out,trivial⟩
  have HNN2:Hid (NnE r p hi L (j+1)):=Hi (fun _=>by rw [HNE.out (),HDR.out (),List.all_cons,vY (x:=(x1,x2)) HOK.out (show ¬ Sg.sg (evV p x1)<0 by rw [HP.out,dN,←hy];exact hy0),Bool.true_and]);clear hy;go_wp2
  go_roundg (gk-1)
  case measure=>omega
  case rel=>exact ⟨j+1,zo,by go_num,HXA.out,HNN2.out⟩
theorem AG{K S D T n:Nat}{p:List Rat}{x:Rat}(hS:1≤S)(hD:0<D)(hf:FrL S D p)(hl:p.length≤n)(hn:n≤100)(h0:tz p≠[])(hK:KZ K S p.length)(hK2:K≤10000000)(hx:Sz T x)(hT:n*(T+1)≤20000000):Mz (jp p) x:=by
 have h1:=vD hS hD hf zo h0 hK;have h2:=jM p;have h3:=nY h0;have hK1:1≤K:=by have:=hK.small;omega
 rw [oR];refine ⟨by rw [nXl];omega,fun k hk=>?_⟩;rw [nXl] at hk;have hm:(remsV p).getD k [] ∈ remsV p:=by
  rw [nXd,List.getElem?_eq_getElem hk];exact List.getElem_mem _
 have e:((remsV p).map bg).getD k []=bg ((remsV p).getD k []):=by
  rw [nXd,nXd,nXw,List.getElem?_eq_getElem hk];rfl
 have ht:tz ((remsV p).getD k [])=(remsV p).getD k []:=BI _ _ _ (bj _) (bj _) _ hm;have hml:=h3 _ hm;obtain ⟨E,e1,e2,e3⟩:=nI (h1 _ hm) ht hK1;rw [e];have hul:(bg ((remsV p).getD k [])).length≤n:=by rw [kg,ht];omega
 refine ⟨zo,(e3.sz hK1 e1 e2).mono zo,fun j hj=>(nw e3 hx hK1 e1 e2 j).mono ?_⟩;have h5:(bg ((remsV p).getD k [])).length*(T+1)≤n*(T+1):=nXh _ hul;omega
def isS(S n:Nat):Nat:=(S+1)*(2*n+1)
def isY(S n T:Nat):Nat:=Cf (isS S n) n T+8
def isM(S n T:Nat):Nat:=isY S n T+T+1
def isT(S n T:Nat):Nat:=3*T+isM S n T+1
theorem Ek{T:Nat}{x:Rat}(h:Sz T x):-((W32 ^ T:Nat):Rat)≤x∧x≤((W32 ^ T:Nat):Rat):=(oK h (Nat.dvd_refl _)).bd x.den_pos
theorem uV{K S n:Nat}{l:List Rat}(hf:FrB S l)(hl:l.length≤n)(hn:n≤1000)(h0:tz l≠[])(hK:KN K S n):FrK K (tz l)∧FrK K (sqfV (tz l)):=by
 obtain ⟨h1,D,h2,h3,h4⟩:=hf.tz;have h5:=ae l;exact ⟨te h1 h2 h3 h4 zo hK,xi h2 h4 (by rw [aI];exact h0) zo hn hK⟩
theorem En{S n:Nat}{l:List Rat}(hf:FrB S l)(hl:l.length≤n)(hn:n≤1000)(h0:tz l≠[]):∀ y ∈ av (sqfV (tz l)),Wz (isS S n) y:=by
 obtain ⟨h1,D,h2,h3,h4⟩:=hf.tz;have h5:=ae l;have h00:tz (tz l)≠[]:=by rw [aI];exact h0
 have hsl:(av (tz l)).length≤n:=by rw [ay,aI];omega
 have:=tu (q:=av (tz l)) (d:=sqfV (tz l)) (S:=S) (em (fun x hx=>h4 x (gO hx)) h2) (by rw [bj];exact fun k=>h00 (cu.1 k)) (BD h00 (AU h00)) zo;exact fun y hy=>(this y hy).mono (nXg _ zo)
theorem E0{l:List Rat}{S n T bits K P:Nat}{lo hi:Rat}(hf:FrB S l)(hl:l.length≤n)(hP:P≤n)(hn:n≤49)(h0:tz l≠[])(za:Sz T lo)(zb:Sz T hi)(hlh:lo≤hi)(hT:T≤1000)(hb:bits≤256)(hK:KN K S n)(hK1:K≤3900000)(hK2:(n+1)*(K / 3)≤25000000)(hT2:isT S n T≤150000) :
  Is6 l K P lo hi bits T (isM S n T) (isY S n T) (32*isM S n T) (lo.den*hi.den):=by
 have h00:tz (tz l)≠[]:=by rw [aI];exact h0
 have hrt:=kB h00;obtain ⟨k1,k2⟩:=uV hf hl zo h0 hK;have hql:(sqfV (tz l)).length≤n:=by have:=lG h00;have:=ae l;omega
 have hw:=En hf hl zo h0;have hwl:(av (sqfV (tz l))).length≤n:=by rw [ay];have:=ae (sqfV (tz l));omega
 obtain ⟨b1,b2⟩:=Ek za;obtain ⟨b3,b4⟩:=Ek zb;have hnT:n*(isT S n T+1)≤49*150001:=nXy hn zo;have hYY:W32 ^ Cf (isS S n) n T≤W32 ^ isY S n T:=nXp aw (by unfold isY;omega);have hYr:((W32 ^ Cf (isS S n) n T:Nat):Rat)≤((W32 ^ isY S n T:Nat):Rat):=by exact_mod_cast hYY
 refine ⟨zo,h0,k1,hK1,?_,k2,za,zb,hT,⟨hrt.ne,hrt.cp,Nat.mul_pos lo.den_pos hi.den_pos,?_,fun a b h1 h2 h3 h4=>?_,?_⟩,⟨nXe _,?_,(Ed hb).mono dZ,fun x hx=>?_⟩,hb,?_,?_,?_⟩
 ·exact nXf (nXh _ zo) hK2
 ·rw [show 2*T=T+T by omega,Nat.pow_add];exact nXy (nYm za.2) (nYm zb.2)
 ·refine sep hrt.ne hrt.cp hw hwl zo h1 h2 h3 ?_;have:=aY hYr (show 0≤b-a by grind);grind
 ·unfold wd6;have e1:((1:Int):Rat)=1:=rfl;rw [e1];have hp:(0:Rat)<((2 ^ bits:Nat):Rat):=by exact_mod_cast Nat.two_pow_pos bits
  have h1:=aK (a:=1) (b:=((2 ^ bits:Nat):Rat)) (by grind);have h2:((2 ^ bits:Nat):Rat)≤((W32 ^ isY S n T:Nat):Rat):=by
   have a1:(2:Nat) ^ bits≤2 ^ 256:=nXp dZ hb;have a2:(2:Nat) ^ 256≤W32 ^ 8:=by decide
   have a3:W32 ^ 8≤W32 ^ isY S n T:=nXp aw (by unfold isY;omega)
   exact_mod_cast nXf a1 (nXf a2 a3)
  have h3:=tw (show (0:Rat)<1 by decide) hp;generalize 1 / ((2 ^ bits:Nat):Rat)=c at *
  have h4:=aY h2 (Rat.le_of_lt h3);grind
 ·have:isT S n T=3*T+isM S n T+1:=rfl;omega
 ·obtain ⟨U,F,u1,u2,u3,u4,u5⟩:=k2;have:isT S n T=3*T+isM S n T+1:=rfl;rw [←this] at hx;exact AG u1 u2 u4 hql zo hrt.ne u5 zo hx zo
 ·rw [mL hlh];exact oK za (Nat.dvd_mul_right _ _)
 ·rw [mM hlh];exact oK zb (Nat.dvd_mul_left _ _)
 ·rw [mL hlh,mM hlh,EM];have e:((W32 ^ isM S n T:Nat):Rat)=((W32 ^ isY S n T:Nat):Rat)*((W32 ^ T:Nat):Rat)*((W32 ^ 1:Nat):Rat):=by
   unfold isM;rw [Nat.pow_add,Nat.pow_add,Rat.natCast_mul,Rat.natCast_mul]
  have h2:(2:Rat)≤((W32 ^ 1:Nat):Rat):=by decide +kernel
  have hY0:(0:Rat)≤((W32 ^ isY S n T:Nat):Rat):=by exact_mod_cast Nat.zero_le _
  have hT0:(0:Rat)≤((W32 ^ T:Nat):Rat):=by exact_mod_cast Nat.zero_le _
  rw [e];generalize ((W32 ^ isY S n T:Nat):Rat)=y at *
  generalize ((W32 ^ T:Nat):Rat)=t at *
  generalize ((W32 ^ 1:Nat):Rat)=u at *
  have a1:=cP (show hi-lo≤2*t by grind) hY0;have a2:=aY h2 (gu hY0 hT0);grind
theorem BN{l:List Rat}{S n T:Nat}(hf:FrB S l)(hl:l.length≤n)(hn:n≤49)(hS:S≤500000)(hT2:T≤150000):∃ D,AfZ S D T n l:=by
 obtain ⟨h1,D,h2,h3,h4⟩:=hf;have hnT:n*(T+1)≤49*150001:=nXy hn zo;exact ⟨D,h1,h2,h3,h4,hl,zo,zo⟩
theorem mg(pa:Option Addr)(P pc:Nat)(l:List Rat)(S n T K:Nat)(s t:RH)(lo hi:Rat)(w:World)(h:ct w ⟨pa,P,pc⟩ l)(hs:aP w s lo)(ht:aP w t hi)(hf:FrB S l)(hl:l.length≤n)(hn:n≤49)(za:Sz T lo)(zb:Sz T hi)(hlh:lo≤hi)(hT:T≤1000)(hK:KN K S n)(hK1:K≤3900000)(hK2:(n+1)*(K / 3)≤25000000)(hT2:isT S n T≤150000)(hS:S≤500000)
 (hnn:∀ x,lo≤x→x≤hi→0≤evV l x) :
  ak 14 [.slice pa P pc,IvV (s,t)] w (fun _:Unit=>.tuple #[.bool true,.int .i64 0]) (fun _ _=>True):=by
 have hP:P≤n:=by have:=h.len;simp only at this;omega
 by_cases h0:tz l=[]
 ·exact rt pa P pc l s t lo hi w h zo hs ht h0
 ·obtain ⟨D2,hA⟩:=BN (T:=isT S n T) hf hl hn hS hT2;have hI:Is6 l K P (loV lo hi) (hiV lo hi) 0 T (isM S n T) (isY S n T) (32*isM S n T) (lo.den*hi.den):=by
   rw [mL hlh,mM hlh];exact E0 hf hl hP hn h0 za zb hlh hT dZ hK hK1 hK2 hT2
  have hR:=ru pa P pc l K s t lo hi T (isM S n T) (isY S n T) (32*isM S n T) (lo.den*hi.den) S D2 n w h hs ht hI hA;rw [mL hlh,mM hlh] at hR;rw [zS (aI l) hlh (fun x h1 h2=>by rw [dN];exact hnn x h1 h2) (EZ hlh)] at hR;exact hR
end Go.Proofs.YtafgmcimcbhhjaaGreat
