import Derived.Test.YtafgmcimcbhhjaaGreatQCK7
set_option linter.unusedVariables false
set_option maxHeartbeats 8000000
set_option maxRecDepth 8000
namespace Go.Proofs.YtafgmcimcbhhjaaGreat
open Go.RowKit Go.Front Go.Num Stab
attribute [local go_sem] XW.cell XW.frozen
theorem sP(s:RH)(q:Rat)(w:World)(h:aQ w s q):ak 178 [s.v] w RH.v (fun r w'=>aB w' r (-q)):=by
 have HR:=Hi h;have HX:=Hi (Ext.refl w);obtain ⟨neg,ao,n,c,bo,m,d⟩:=s;clear h;unfold ak;go_enter Tryz.func178,Tryz.ntmps178
 go_upto_region 1 with fail
 refine kQ ?_;intro w1 hE B1 B2 hz_w1 hr_w1;replace HX:=hE.tr HX;replace b_B1:=bX3 B1
 go_wp2_with fail
 refine cM (tB ⟨neg,ao,n,c,bo,m,d⟩ _) fun x1 w1 hE _=>?_
 refine mV2 hE ?_ B2 HX;clear B2 HX;intro B2 HX
 go_wp2_with fail
 refine cM (cH ⟨!neg,ao,n,c,bo,m,d⟩ _ _ (HR.out.neg.ext HX.out)) fun x2 w2 hE G2=>?_
 refine mV2 hE ?_ B2 HX;clear B2 HX;intro B2 HX;replace b_B2:=bX3 B2;go_wp2;have hF:=((((Fin.start (L:=w.heap.size+1) HX.out (ai B2.out rfl)).set zo (i:=0) (v:=.bool x2.neg) rfl).set zo (i:=1) (v:=.slice x2.a x2.n x2.c) rfl).set zo (i:=2) (v:=.slice x2.b x2.m x2.d) rfl);exact nXa (v:=x2.v) (by simp [results,Tryz.results178,go_sem,ab B2.out]) rfl ⟨x2,rfl,hF.ext,G2.out.keep hF.keep⟩
theorem CM(ao bo:Option Addr)(n c m d:Nat)(p q:List Rat)(w:World)(h:cx w ⟨ao,n,c⟩ p)(k:cx w ⟨bo,m,d⟩ q)(hmn:m≤n)(hn:n≤1000000)(hz:SzL 33554432 p)(kz:SzL 33554432 q) :
  ak 119 [.slice ao n c,.slice bo m d] w SH.v (fun s w'=>bU w.heap.size w' s (bA p q)):=by
 obtain ⟨i0,hi0,hz0,hz1,hz2⟩:=info_parts ju;have H:=Hi h;have K:=Hi k;have HX:=Hi (Ext.refl w);have hle:=h.le;have hmx:=h.max;have kle:=k.le;have kmx:=k.max;have Hn:=Hi h.len;have Hm:=Hi k.len;simp only at hle hmx kle kmx Hn Hm;have HZ:=Hi hz;have KZ:=Hi kz;have hlt:¬ (n:Int)<m:=zo;clear h k hz kz;unfold ak;go_enter Tryz.func119,Tryz.ntmps119
 go_upto_region 4 with (refine aA rfl (.tmp 15) (.tmp 15) 24 rfl 34 i0 (RH.v default) 3 Tryz.underlying24 hi0 hz0 hz1 _ _ n rfl rfl zo zo (by rw [hz2];omega) zo ?_;intro w2 hnew hE)
 have KB:=Hi (RBk.make rfl hnew);clear hnew;replace HX:=hE.tr HX;obtain ⟨L,hL⟩:∃ L,L=w.heap.size:=⟨_,rfl⟩;have hLw:w.heap.size≤L:=zo;rw [←hL] at KB ⊢;clear hL;go_wp2
 go_loopg [19] n (fun g v wr=>∃ (i:Nat) (rs:List RH),i+g=n∧v=.int .i64 (i:Nat)∧Ext w wr∧RBk wr L rs #[]∧rs.length=n∧i6 wr rs ((List.range i).map (fun i=>p.getD i 0+q.getD i 0)))
 case atStart=>exact ⟨0,_,zo,rfl,HX.out,KB.out,by simp,fun j hj=>by simp at hj⟩
 case round =>
  obtain ⟨i,rs,hi,rfl,g1,g4,g5,g6⟩:=hrel;clear HX KB;have HX:=Hi g1;have KB:=Hi g4;have HRl:=Hi g5;have PC:=Hi g6;clear g1 g4 g5 g6;have HTl:Hid (((List.range i).map (fun i=>p.getD i 0+q.getD i 0)).length=i):=Hi (by simp);by_cases h0:gk=0
  case pos =>
   subst h0;obtain rfl:i=n:=by omega
   have hin:¬ (i:Int)<i:=zo;have HV:Hid (bA p q=tz ((List.range i).map (fun i=>p.getD i 0+q.getD i 0))):=Hi (by unfold bA;rw [Hn.out,Hm.out,show max i m=i by omega]);obtain ⟨ts,hts⟩:∃ ts,ts=(List.range i).map (fun i=>p.getD i 0+q.getD i 0):=⟨_,rfl⟩;have HSz:Hid (SzL 67108865 ts):=Hi (by
    intro x hx;rw [hts] at hx;obtain ⟨y,hy,rfl⟩:=nYg.1 hx;exact ((HZ.out.getD dZ y).add (KZ.out.getD dZ y)).mono dZ)
   rw [←hts] at PC HTl HV;clear hts;have LL:Hid (bU w.heap.size wr ⟨some ⟨L,0,none⟩,i,i⟩ ts):=Hi (i6.list PC.out KB.out HRl.out HTl.out hLw zo);clear KB;clear PC
   go_wp2_with fail
   refine cM (ek (some ⟨L,0,none⟩) i i ts _ (LL.out.can.raw HSz.out dZ)) fun x1 w1 hE G1=>?_
   refine mV2 hE ?_ HX LL;clear HX LL;intro HX LL;obtain ⟨q1,q2⟩:=G1.out;have HQ1:=Hi q1;have HQ2:=Hi q2;clear q1 q2 G1;go_wp2
   go_ret
   refine ⟨⟨some ⟨L,0,none⟩,(tz ts).length,i⟩,rfl,HX.out,?_⟩;have:=LIn.take LL.out HQ2.out;rw [←HQ1.out] at this;rw [HV.out];exact this
  have hin:(i:Int)<n:=zo;obtain ⟨b,off,r,hao,hbl,⟨hc1,hc2,hc3⟩,hP⟩:=(H.out.ext HX.out).cells' (k:=i) zo;obtain ⟨rneg,ra,rn,rc,rb,rm,rd⟩:=r;simp only at hc1 hc2 hc3;subst hao;have RP:=Hi hP;clear hP;have HMp:Hid ((List.range i).map (fun i=>p.getD i 0+q.getD i 0)++[p.getD i 0+q.getD i 0]=(List.range (i+1)).map (fun i=>p.getD i 0+q.getD i 0)):=Hi (bG (fun i=>p.getD i 0+q.getD i 0) i).symm;by_cases hm1:i<m
  case pos =>
   have him:(i:Int)<m:=zo;obtain ⟨b',off',r',hbo,hbl',⟨kc1,kc2,kc3⟩,hQ⟩:=(K.out.ext HX.out).cells' (k:=i) zo;obtain ⟨sneg,sa,sn,sc,sb,sm,sd⟩:=r';simp only at kc1 kc2 kc3;subst hbo;have RQ:=Hi hQ;clear hQ
   go_upto_region 8 with fail
   refine wpG 12 (fun opIx=>match opIx with
    | 10=>sR (p.getD i 0+q.getD i 0)
    | _=>.quiet) (fun _=>[]) fun w0 he0 hz0 hc0 hf0=>?_
   refine wps he0 (fun w1 hW hG=>?_) fun x10=>?_
   ·exact spc [RH.v ⟨rneg,ra,rn,rc,rb,rm,rd⟩,RH.v ⟨sneg,sa,sn,sc,sb,sm,sd⟩] Tryz.func118 (df _ _ _ _ _ (RP.out.ext hW) (RQ.out.ext hW))
   refine qZ ?_;refine aj ?_;intro w5 hI;have hE:=he0.out.trans hI.ext;have G10:=gT (hI.facts 10);clear hI he0 hz0 hc0 hf0;refine mV3 hE ?_ KB PC HX;clear KB PC HX;intro KB PC HX
   try clear f_KB l_KB
   have f_KB:=ah KB.out;have l_KB:=(nXb.1 KB.out).1;simp only [pD];obtain ⟨f1,f2,f3⟩:=RBk.at (re:=#[]) KB.out (k:=i) (by rw [HRl.out];omega)
   go_upto_region 10 with fail
   refine dQ (k:=i) KB.out rfl (by rw [HRl.out];omega) ?_;intro y6 T;clear f1 f2 f3 hc1 hc2 hc3 kc1 kc2 kc3;replace HX:=Hi (T.ext HX.out zo);replace PC:=Hi (PC.out.keep T.keep);replace KB:=Hi (T.bx);replace G10:=Hi (G10.out.keep T.keep);clear T;replace PC:=Hi (PC.out.snoc (x:=x10) (i:=i) HTl.out (by rw [HRl.out];omega) G10.out);rw [HMp.out] at PC;go_wp2
   go_roundg (gk-1)
   case measure=>omega
   case rel=>exact ⟨i+1,_,zo,by go_num,HX.out,KB.out,by rw [nXo];exact HRl.out,PC.out⟩
  have him:¬ (i:Int)<m:=zo;have HQ0:Hid (p.getD i 0+q.getD i 0=p.getD i 0):=Hi (by rw [bK (l:=q) (by rw [Hm.out];omega)];exact Rat.add_zero _)
  go_wp2_with fail
  refine cM (cH ⟨rneg,ra,rn,rc,rb,rm,rd⟩ (p.getD i 0) _ RP.out) fun x4 w4 hE G4=>?_
  refine mV3 hE ?_ HX KB PC;clear HX KB PC;intro HX KB PC
  try clear f_KB l_KB
  have f_KB:=ah KB.out;have l_KB:=(nXb.1 KB.out).1;obtain ⟨f1,f2,f3⟩:=RBk.at (re:=#[]) KB.out (k:=i) (by rw [HRl.out];omega)
  go_upto_region 10 with fail
  refine dQ (k:=i) KB.out rfl (by rw [HRl.out];omega) ?_;intro y6 T;clear f1 f2 f3 hc1 hc2 hc3;replace HX:=Hi (T.ext HX.out zo);replace PC:=Hi (PC.out.keep T.keep);replace KB:=Hi (T.bx);replace G4:=Hi (G4.out.keep T.keep);clear T;replace PC:=Hi (PC.out.snoc (x:=x4) (q:=p.getD i 0+q.getD i 0) (i:=i) HTl.out (by rw [HRl.out];omega) (by rw [HQ0.out];exact G4.out));rw [HMp.out] at PC;go_wp2
  go_roundg (gk-1)
  case measure=>omega
  case rel=>exact ⟨i+1,_,zo,by go_num,HX.out,KB.out,by rw [nXo];exact HRl.out,PC.out⟩
theorem CL(ao bo:Option Addr)(n c m d:Nat)(p q:List Rat)(w:World)(h:cx w ⟨ao,n,c⟩ p)(k:cx w ⟨bo,m,d⟩ q)(hmn:m<n)(hn:n≤1000000)(hz:SzL 33554432 p)(kz:SzL 33554432 q) :
  ak 119 [.slice bo m d,.slice ao n c] w SH.v (fun s w'=>bU w.heap.size w' s (bA q p)):=by
 obtain ⟨i0,hi0,hz0,hz1,hz2⟩:=info_parts ju;have H:=Hi h;have K:=Hi k;have HX:=Hi (Ext.refl w);have hle:=h.le;have hmx:=h.max;have kle:=k.le;have kmx:=k.max;have Hn:=Hi h.len;have Hm:=Hi k.len;simp only at hle hmx kle kmx Hn Hm;have HZ:=Hi hz;have KZ:=Hi kz;have hlt:(m:Int)<n:=zo;clear h k hz kz;unfold ak;go_enter Tryz.func119,Tryz.ntmps119
 go_upto_region 4 with (refine aA rfl (.tmp 15) (.tmp 15) 24 rfl 34 i0 (RH.v default) 3 Tryz.underlying24 hi0 hz0 hz1 _ _ n rfl rfl zo zo (by rw [hz2];omega) zo ?_;intro w2 hnew hE)
 have KB:=Hi (RBk.make rfl hnew);clear hnew;replace HX:=hE.tr HX;obtain ⟨L,hL⟩:∃ L,L=w.heap.size:=⟨_,rfl⟩;have hLw:w.heap.size≤L:=zo;rw [←hL] at KB ⊢;clear hL;go_wp2
 go_loopg [19] n (fun g v wr=>∃ (i:Nat) (rs:List RH),i+g=n∧v=.int .i64 (i:Nat)∧Ext w wr∧RBk wr L rs #[]∧rs.length=n∧i6 wr rs ((List.range i).map (fun i=>p.getD i 0+q.getD i 0)))
 case atStart=>exact ⟨0,_,zo,rfl,HX.out,KB.out,by simp,fun j hj=>by simp at hj⟩
 case round =>
  obtain ⟨i,rs,hi,rfl,g1,g4,g5,g6⟩:=hrel;clear HX KB;have HX:=Hi g1;have KB:=Hi g4;have HRl:=Hi g5;have PC:=Hi g6;clear g1 g4 g5 g6;have HTl:Hid (((List.range i).map (fun i=>p.getD i 0+q.getD i 0)).length=i):=Hi (by simp);by_cases h0:gk=0
  case pos =>
   subst h0;obtain rfl:i=n:=by omega
   have hin:¬ (i:Int)<i:=zo;have HV:Hid (bA q p=tz ((List.range i).map (fun i=>p.getD i 0+q.getD i 0))):=Hi (by unfold bA;rw [Hn.out,Hm.out,show max m i=i by omega];congr 2;funext j;exact Rat.add_comm _ _);obtain ⟨ts,hts⟩:∃ ts,ts=(List.range i).map (fun i=>p.getD i 0+q.getD i 0):=⟨_,rfl⟩;have HSz:Hid (SzL 67108865 ts):=Hi (by
    intro x hx;rw [hts] at hx;obtain ⟨y,hy,rfl⟩:=nYg.1 hx;exact ((HZ.out.getD dZ y).add (KZ.out.getD dZ y)).mono dZ)
   rw [←hts] at PC HTl HV;clear hts;have LL:Hid (bU w.heap.size wr ⟨some ⟨L,0,none⟩,i,i⟩ ts):=Hi (i6.list PC.out KB.out HRl.out HTl.out hLw zo);clear KB;clear PC
   go_wp2_with fail
   refine cM (ek (some ⟨L,0,none⟩) i i ts _ (LL.out.can.raw HSz.out dZ)) fun x1 w1 hE G1=>?_
   refine mV2 hE ?_ HX LL;clear HX LL;intro HX LL;obtain ⟨q1,q2⟩:=G1.out;have HQ1:=Hi q1;have HQ2:=Hi q2;clear q1 q2 G1;go_wp2
   go_ret
   refine ⟨⟨some ⟨L,0,none⟩,(tz ts).length,i⟩,rfl,HX.out,?_⟩;have:=LIn.take LL.out HQ2.out;rw [←HQ1.out] at this;rw [HV.out];exact this
  have hin:(i:Int)<n:=zo;obtain ⟨b,off,r,hao,hbl,⟨hc1,hc2,hc3⟩,hP⟩:=(H.out.ext HX.out).cells' (k:=i) zo;obtain ⟨rneg,ra,rn,rc,rb,rm,rd⟩:=r;simp only at hc1 hc2 hc3;subst hao;have RP:=Hi hP;clear hP;have HMp:Hid ((List.range i).map (fun i=>p.getD i 0+q.getD i 0)++[p.getD i 0+q.getD i 0]=(List.range (i+1)).map (fun i=>p.getD i 0+q.getD i 0)):=Hi (bG (fun i=>p.getD i 0+q.getD i 0) i).symm;by_cases hm1:i<m
  case pos =>
   have him:(i:Int)<m:=zo;obtain ⟨b',off',r',hbo,hbl',⟨kc1,kc2,kc3⟩,hQ⟩:=(K.out.ext HX.out).cells' (k:=i) zo;obtain ⟨sneg,sa,sn,sc,sb,sm,sd⟩:=r';simp only at kc1 kc2 kc3;subst hbo;have RQ:=Hi hQ;clear hQ
   go_upto_region 8 with fail
   refine wpG 12 (fun opIx=>match opIx with
    | 10=>sR (p.getD i 0+q.getD i 0)
    | _=>.quiet) (fun _=>[]) fun w0 he0 hz0 hc0 hf0=>?_
   refine wps he0 (fun w1 hW hG=>?_) fun x10=>?_
   ·exact spc [RH.v ⟨rneg,ra,rn,rc,rb,rm,rd⟩,RH.v ⟨sneg,sa,sn,sc,sb,sm,sd⟩] Tryz.func118 (df _ _ _ _ _ (RP.out.ext hW) (RQ.out.ext hW))
   refine qZ ?_;refine aj ?_;intro w5 hI;have hE:=he0.out.trans hI.ext;have G10:=gT (hI.facts 10);clear hI he0 hz0 hc0 hf0;refine mV3 hE ?_ KB PC HX;clear KB PC HX;intro KB PC HX
   try clear f_KB l_KB
   have f_KB:=ah KB.out;have l_KB:=(nXb.1 KB.out).1;simp only [pD];obtain ⟨f1,f2,f3⟩:=RBk.at (re:=#[]) KB.out (k:=i) (by rw [HRl.out];omega)
   go_upto_region 10 with fail
   refine dQ (k:=i) KB.out rfl (by rw [HRl.out];omega) ?_;intro y6 T;clear f1 f2 f3 hc1 hc2 hc3 kc1 kc2 kc3;replace HX:=Hi (T.ext HX.out zo);replace PC:=Hi (PC.out.keep T.keep);replace KB:=Hi (T.bx);replace G10:=Hi (G10.out.keep T.keep);clear T;replace PC:=Hi (PC.out.snoc (x:=x10) (i:=i) HTl.out (by rw [HRl.out];omega) G10.out);rw [HMp.out] at PC;go_wp2
   go_roundg (gk-1)
   case measure=>omega
   case rel=>exact ⟨i+1,_,zo,by go_num,HX.out,KB.out,by rw [nXo];exact HRl.out,PC.out⟩
  have him:¬ (i:Int)<m:=zo;have HQ0:Hid (p.getD i 0+q.getD i 0=p.getD i 0):=Hi (by rw [bK (l:=q) (by rw [Hm.out];omega)];exact Rat.add_zero _)
  go_wp2_with fail
  refine cM (cH ⟨rneg,ra,rn,rc,rb,rm,rd⟩ (p.getD i 0) _ RP.out) fun x4 w4 hE G4=>?_
  refine mV3 hE ?_ HX KB PC;clear HX KB PC;intro HX KB PC
  try clear f_KB l_KB
  have f_KB:=ah KB.out;have l_KB:=(nXb.1 KB.out).1;obtain ⟨f1,f2,f3⟩:=RBk.at (re:=#[]) KB.out (k:=i) (by rw [HRl.out];omega)
  go_upto_region 10 with fail
  refine dQ (k:=i) KB.out rfl (by rw [HRl.out];omega) ?_;intro y6 T;clear f1 f2 f3 hc1 hc2 hc3;replace HX:=Hi (T.ext HX.out zo);replace PC:=Hi (PC.out.keep T.keep);replace KB:=Hi (T.bx);replace G4:=Hi (G4.out.keep T.keep);clear T;replace PC:=Hi (PC.out.snoc (x:=x4) (q:=p.getD i 0+q.getD i 0) (i:=i) HTl.out (by rw [HRl.out];omega) (by rw [HQ0.out];exact G4.out));rw [HMp.out] at PC;go_wp2
  go_roundg (gk-1)
  case measure=>omega
  case rel=>exact ⟨i+1,_,zo,by go_num,HX.out,KB.out,by rw [nXo];exact HRl.out,PC.out⟩
theorem eK(ao bo:Option Addr)(n c m d:Nat)(p q:List Rat)(w:World)(h:cx w ⟨ao,n,c⟩ p)(k:cx w ⟨bo,m,d⟩ q)(hn:n≤1000000)(hm:m≤1000000)(hz:SzL 33554432 p)(kz:SzL 33554432 q) :
  ak 119 [.slice ao n c,.slice bo m d] w SH.v (fun s w'=>bU w.heap.size w' s (bA p q)):=by
 rcases Nat.lt_or_ge n m with h1|h1
 ·exact CL bo ao m d n c q p w k h h1 hm kz hz
 ·exact CM ao bo n c m d p q w h k h1 hn hz kz
def subV(p q:List Rat):List Rat:=bA p (q.map (fun x=>-x))
theorem zF(ao bo:Option Addr)(n c m d:Nat)(p q:List Rat)(w:World)(h:cx w ⟨ao,n,c⟩ p)(k:cx w ⟨bo,m,d⟩ q)(hn:n≤1000000)(hm:m≤1000000)(hz:SzL 33554432 p)(kz:SzL 33554432 q) :
  ak 116 [.slice ao n c,.slice bo m d] w SH.v (fun s w'=>bU w.heap.size w' s (subV p q)):=by
 obtain ⟨i0,hi0,hz0,hz1,hz2⟩:=info_parts ju;have H:=Hi h;have K:=Hi k;have HX:=Hi (Ext.refl w);have kle:=k.le;have kmx:=k.max;have Hm:=Hi k.len;simp only at kle kmx Hm;have HZ:=Hi hz;have KZ:=Hi kz;clear h k hz kz;unfold ak;go_enter Tryz.func116,Tryz.ntmps116
 go_upto_region 2 with (refine aA rfl (.tmp 8) (.tmp 8) 24 rfl 34 i0 (RH.v default) 3 Tryz.underlying24 hi0 hz0 hz1 _ _ m rfl rfl zo zo (by rw [hz2];omega) zo ?_;intro w2 hnew hE)
 have KB:=Hi (RBk.make rfl hnew);clear hnew;replace HX:=hE.tr HX;obtain ⟨L,hL⟩:∃ L,L=w.heap.size:=⟨_,rfl⟩;have hLw:w.heap.size≤L:=zo;rw [←hL] at KB ⊢;clear hL;go_wp2
 go_loopg [12] m (fun g v wr=>∃ (i:Nat) (rs:List RH),i+g=m∧v=.int .i64 (i:Nat)∧Ext w wr∧RBk wr L rs #[]∧rs.length=m∧i6 wr rs ((q.take i).map (fun x=>-x)))
 case atStart=>exact ⟨0,_,zo,rfl,HX.out,KB.out,by simp,fun j hj=>by simp at hj⟩
 case round =>
  obtain ⟨i,rs,hi,rfl,g1,g4,g5,g6⟩:=hrel;clear HX KB;have HX:=Hi g1;have KB:=Hi g4;have HRl:=Hi g5;have PC:=Hi g6;clear g1 g4 g5 g6;have HTl:Hid (((q.take i).map (fun x=>-x)).length=i):=Hi (by rw [nXl,nXk,Hm.out];omega)
  try clear f_KB l_KB
  have f_KB:=ah KB.out;have l_KB:=(nXb.1 KB.out).1;by_cases h0:gk=0
  case pos =>
   subst h0;obtain rfl:i=m:=by omega
   have hin:¬ (i:Int)<i:=zo;have HE:Hid (q.take i=q):=Hi (nXm (by rw [Hm.out];exact nXe _));rw [HE.out] at PC HTl;obtain ⟨ts,hts⟩:∃ ts,ts=q.map (fun x=>-x):=⟨_,rfl⟩;have HSz:Hid (SzL 33554432 ts):=Hi (by
    intro x hx;rw [hts] at hx;obtain ⟨y,hy,rfl⟩:=nYg.1 hx;exact (KZ.out y hy).neg)
   have HV:Hid (subV p q=bA p ts):=Hi (by rw [hts];rfl);rw [←hts] at PC HTl;clear hts;have LL:Hid (bU w.heap.size wr ⟨some ⟨L,0,none⟩,i,i⟩ ts):=Hi (i6.list PC.out KB.out HRl.out HTl.out hLw zo);clear KB;clear PC
   go_wp2_with fail
   refine cM (eK ao (some ⟨L,0,none⟩) n c i i p ts _ (H.out.ext HX.out) (LL.out.can.raw HSz.out dZ) hn hm HZ.out HSz.out) fun x1 w1 hE G1=>?_
   replace HX:=hE.tr HX;go_wp2
   go_ret
   exact ⟨x1,rfl,HX.out,by rw [HV.out];exact G1.out.mono zo⟩
  have hin:(i:Int)<m:=zo;obtain ⟨b,off,r,hao,hbl,⟨hc1,hc2,hc3⟩,hP⟩:=(K.out.ext HX.out).cells' (k:=i) zo;obtain ⟨rneg,ra,rn,rc,rb,rm,rd⟩:=r;simp only at hc1 hc2 hc3;subst hao;have RP:=Hi hP;clear hP
  go_wp2_with fail
  refine cM (sP ⟨rneg,ra,rn,rc,rb,rm,rd⟩ (q.getD i 0) _ RP.out) fun x4 w4 hE G4=>?_
  refine mV3 hE ?_ KB PC HX;clear KB PC HX;intro KB PC HX
  try clear f_KB l_KB
  have f_KB:=ah KB.out;have l_KB:=(nXb.1 KB.out).1;obtain ⟨f1,f2,f3⟩:=RBk.at (re:=#[]) KB.out (k:=i) (by rw [HRl.out];omega)
  go_upto_region 6 with fail
  refine dQ (k:=i) KB.out rfl (by rw [HRl.out];omega) ?_;intro y6 T;clear f1 f2 f3 hc1 hc2 hc3;replace HX:=Hi (T.ext HX.out zo);replace PC:=Hi (PC.out.keep T.keep);replace KB:=Hi (T.bx);replace G4:=Hi (G4.out.keep T.keep);clear T;replace PC:=Hi (PC.out.snoc (x:=x4) (i:=i) HTl.out (by rw [HRl.out];omega) G4.out);have HMp:Hid ((q.take i).map (fun x=>-x)++[-(q.getD i 0)]=(q.take (i+1)).map (fun x=>-x)):=Hi (by rw [←fW (by rw [Hm.out];omega),List.map_append];rfl);rw [HMp.out] at PC;go_wp2
  go_roundg (gk-1)
  case measure=>omega
  case rel=>exact ⟨i+1,_,zo,by go_num,HX.out,KB.out,by rw [nXo];exact HRl.out,PC.out⟩
theorem Bk{S U:Nat}{a b:List Rat}(ha:∀ x ∈ a,Wz S x)(hb:∀ x ∈ b,Wz U x)(hl:a.length≤W32){i k:Nat}(hi:i≤a.length)(n:Nat):Wz (S+U+2) (pmS a b i k n):=by
 have ga:∀ i,Wz S (a.getD i 0):=fun i=>(FrL.at (D:=1) (fun x hx=>Fr.one (ha x hx)) i).wz
 have gb:∀ i,Wz U (b.getD i 0):=fun i=>(FrL.at (D:=1) (fun x hx=>Fr.one (hb x hx)) i).wz
 unfold pmS;refine Wz.add (S:=S+U+1) (Wz.sm (fun j _=>(ga j).mul ?_) zo) ?_
 ·unfold shn;split
  ·exact gb _
  ·exact Wz.zero _
 ·split
  ·exact ((ga _).mul (gb _)).mono zo
  ·exact Wz.zero _
theorem CU{p q:List Rat}{P Q:Nat}(hP:(av p).length=P)(hQ:(av q).length=Q):tz (((List.range (P+Q-1)).map (ap (av p) (seq (av q)))).map (·*(aN p*aN q)))=aq p q:=by
 unfold aq;rw [←hP,←hQ,ay,ay,List.map_map]
 congr 2
 funext i
 show ap (av p) (seq (av q)) i*(aN p*aN q)=ap (tz p) (seq (tz q)) i;have e1:seq p=fun n=>aN p*seq (av p) n:=funext (cS p)
 have e2:seq q=fun n=>aN q*seq (av q) n:=funext (cS q)
 rw [iH,iH,bf,bf,e1,e2,fG,DD];grind
theorem vZ(ao bo:Option Addr)(n c m d:Nat)(p q:List Rat)(S U D E:Nat)(w:World)(h:cx w ⟨ao,n,c⟩ p)(k:cx w ⟨bo,m,d⟩ q)(hn:n≤1000)(hm:m≤1000)
 (hS:1≤S)(hU:1≤U)(hD:0<D)(hD2:D<W32 ^ S)(hEn:0<E)(hE2:E<W32 ^ U)(hp:FrL S D p)(hq:FrL U E q)(hSU:S+U≤8000000) :
  ak 100 [.slice ao n c,.slice bo m d] w SH.v (fun s w'=>bU w.heap.size w' s (aq p q)):=by
 have H:=Hi h;have K:=Hi k;have HX:=Hi (Ext.refl w);have HPF:=Hi hp;have HQF:=Hi hq;have hn2:(tz p).length≤n:=by have:=h.len;have h2:=ae p;simp only at this;omega
 have hm2:(tz q).length≤m:=by have:=k.len;have h2:=ae q;simp only at this;omega
 clear h k hp hq;unfold ak;go_enter Tryz.func100,Tryz.ntmps100
 go_wp2_with fail
 refine cM (f9 ao n c p S D _ (H.out.ext HX.out) zo hS zo hD hD2 HPF.out) fun x1 w1 hE G1=>?_
 replace HX:=hE.tr HX;have hs_w1:=hE.size;obtain ⟨xs,xa⟩:=x1;have HXS:=Hi G1.out.1;have HXA:=Hi G1.out.2;clear G1;simp only [MT] at *
 go_upto_region 2 with fail
 refine nmA ?_;intro w2 hE B5 hz_w2 hr_w2;refine mV3 hE ?_ HX HXS HXA;clear HX HXS HXA;intro HX HXS HXA
 go_wp2_with fail
 refine cM (f9 bo m d q U E _ (K.out.ext HX.out) zo hU zo hEn hE2 HQF.out) fun x3 w3 hE G3=>?_
 refine mV4 hE ?_ B5 HX HXS HXA;clear B5 HX HXS HXA;intro B5 HX HXS HXA;have hs_w3:=hE.size;obtain ⟨ys,ya⟩:=x3;have HYS:=Hi G3.out.1;have HYA:=Hi G3.out.2;clear G3;simp only [MT] at *
 go_upto_region 3 with fail
 refine nmA ?_;intro w4 hE B7 hz_w4 hr_w4;refine mV6 hE ?_ B5 HX HXS HXA HYS HYA;clear B5 HX HXS HXA HYS HYA;intro B5 HX HXS HXA HYS HYA;obtain ⟨La,hLa,rfl,hra⟩:=HXA.out;obtain ⟨Lb,hLb,rfl,hrb⟩:=HYA.out;obtain ⟨P,hP⟩:∃ P,(av p).length=P:=⟨_,rfl⟩;obtain ⟨Q,hQ⟩:∃ Q,(av q).length=Q:=⟨_,rfl⟩;have hPn:P≤n:=by rw [←hP,ay];exact hn2
 have hQm:Q≤m:=by rw [←hQ,ay];exact hm2
 rw [hP,hQ];have LA:=Hi (hra.can hP (nXe _) zo);have LB:=Hi (hrb.can hQ (nXe _) zo);have WA:Hid (∀ x ∈ av p,Wz S x):=Hi (eo (fun x hx=>HPF.out.tz x hx) hD);have WB:Hid (∀ x ∈ av q,Wz U x):=Hi (eo (fun x hx=>HQF.out.tz x hx) hEn);have ZS:Hid (Sz S (aN p)):=Hi ((gG (fun x hx=>HPF.out.tz x hx)).sz hS hD hD2);have ZT:Hid (Sz U (aN q)):=Hi ((gG (fun x hx=>HQF.out.tz x hx)).sz hU hEn hE2);have HV:Hid (aq p q=tz (((List.range (P+Q-1)).map (ap (av p) (seq (av q)))).map (·*(aN p*aN q)))):=Hi (CU hP hQ).symm;obtain ⟨a,ha⟩:∃ a,a=av p:=⟨_,rfl⟩;obtain ⟨b,hb⟩:∃ b,b=av q:=⟨_,rfl⟩;have HN1:Hid (P=0∨Q=0→aq p q=[]):=Hi (fun h=>Ae (by
  rcases h with h|h
  ·left;rw [h,ay] at hP;exact nXj.1 hP
  ·right;rw [h,ay] at hQ;exact nXj.1 hQ))
 rw [←ha] at LA WA HV hP;rw [←hb] at LB WB HV hQ;have HPl:=Hi hP;have HQl:=Hi hQ;clear hra hrb hLa hLb ha hb hP hQ HPF HQF;clear HXA;clear HYA;by_cases hP0:P=0
 case pos =>
  subst hP0;have hv:aq p q=[]:=HN1.out (Or.inl rfl);go_wp2
  go_ret
  exact ⟨⟨none,0,0⟩,rfl,HX.out,bU.nil _ _⟩
 have hPb:((P:Int) == 0)=false:=by rw [nXs];omega
 by_cases hQ0:Q=0
 case pos =>
  subst hQ0;have hv:aq p q=[]:=HN1.out (Or.inr rfl);go_wp2
  go_ret
  exact ⟨⟨none,0,0⟩,rfl,HX.out,bU.nil _ _⟩
 have hQb:((Q:Int) == 0)=false:=by rw [nXs];omega
 obtain ⟨M,hM⟩:∃ M,P+Q=M+1:=⟨P+Q-1,zo⟩;rw [show P+Q-1=M by omega] at HV;have hMi:(P:Int)+Q-1=M:=by omega
 obtain ⟨b5,hb5⟩:∃ b5,b5=w1.heap.size:=⟨_,rfl⟩;obtain ⟨b7,hb7⟩:∃ b7,b7=w3.heap.size:=⟨_,rfl⟩;rw [←hb5] at B5 ⊢;rw [←hb7] at B7 ⊢;clear hb5 hb7;obtain ⟨aa,haa⟩:∃ aa,aa=some (⟨La,0,none⟩:Addr):=⟨_,rfl⟩;obtain ⟨bb,hbb⟩:∃ bb,bb=some (⟨Lb,0,none⟩:Addr):=⟨_,rfl⟩;rw [←haa] at LA ⊢;rw [←hbb] at LB ⊢;have LA4:=LA;have LB4:=LB;have XS4:=HXS;have YS4:=HYS;have B54:=B5;have B74:=B7;have HX0:=HX;have HX4:=Hi (Ext.refl w4);simp only [SH.v];clear haa hbb;clear LA;clear LB;clear HXS;clear HYS
 (try clear b_B5);(try clear B5)
 (try clear b_B7);(try clear B7)
 clear HX
 go_wp2_with fail
 refine cM (pf M _ zo) fun x5 w5 hE G5=>?_
 replace HX4:=hE.tr HX4;obtain ⟨L,hL,rfl,hrl⟩:=G5.out;have HL:Hid (bT w5 L (List.replicate M 0)):=Hi hrl;have hL4:w4.heap.size≤L:=hL;clear G5 hrl hL;rw [nXx];simp only [SH.v];go_wp2
 go_loopg [41] P (fun g v wr=>∃ (i:Nat) (os:List Rat),i+g=P∧v=.int .i64 (i:Nat)∧Ext w4 wr∧bT wr L os∧os.length=M∧∀ n,n<M→os.getD n 0=pmS a b i 0 n)
 case atStart=>exact ⟨0,_,zo,rfl,HX4.out,HL.out,by simp,fun n hn=>by rw [zM];simp [hn]⟩
 case round =>
  obtain ⟨i,os,hi,rfl,g1,g2,g3,g4⟩:=hrel;clear HX4 HL;have HX4:=Hi g1;have HL:=Hi g2;have HOl:=Hi g3;have HOv:=Hi g4;have hLlt:=g2.lt;clear g1 g2 g3 g4;by_cases h0:gk=0
  case pos =>
   subst h0;obtain rfl:i=P:=by omega
   have hin:¬ (i:Int)<i:=zo;have HXw:=Hi (HX0.out.trans HX4.out);have B5:=Hi (HX4.out.block B54.out);have B7:=Hi (HX4.out.block B74.out);have HOe:Hid (os=(List.range M).map (ap a (seq b))):=Hi (Gq HOl.out (fun n hn=>by rw [HOv.out n hn,←HPl.out,CE]));have HSz:Hid (SzL 8000002 os):=Hi (fun x hx=>by
    obtain ⟨n,hn,rfl⟩:=dK hx;rw [HOv.out n (by rw [←HOl.out];exact hn)];exact ((Bk WA.out WB.out (by rw [HPl.out];exact nXf zo (show 1000≤W32 by decide)) (by rw [HPl.out];exact nXe _) n).mono zo).sz dZ)
   replace b_B5:=bX3 B5;replace b_B7:=bX3 B7
   go_wp2_with fail
   refine cM (aW xs ys (aN p) (aN q) _ ((XS4.out.ext HX4.out).raw ZS.out zo) ((YS4.out.ext HX4.out).raw ZT.out zo)) fun x20 w20 hE G20=>?_
   refine mV2 hE ?_ HL HXw;clear HL HXw;intro HL HXw;have hs_w20:=hE.size
   go_wp2_with fail
   refine cM (bO (some ⟨L,0,none⟩) M M os x20 (aN p*aN q) _ ((HL.out.can HOl.out (nXe _) zo).raw HSz.out dZ) (G20.out.raw (ZS.out.mul ZT.out) zo) zo (HSz.out.mono dZ) ((ZS.out.mul ZT.out).mono zo)) fun x21 w21 hE G21=>?_
   replace HXw:=hE.tr HXw;go_wp2
   go_ret
   exact ⟨x21,rfl,HXw.out,by rw [HV.out,←HOe.out];exact G21.out.mono zo⟩
  obtain ⟨g0,rfl⟩:∃ g0,gk=g0+1:=⟨gk-1,zo⟩;have hin:(i:Int)<P:=zo;obtain ⟨ba,oa,r,hao,hbl,⟨hc1,hc2,hc3⟩,hPc⟩:=(LA4.out.ext HX4.out).celx (k:=i) zo;obtain ⟨rneg,ra,rn,rc,rb,rm,rd⟩:=r;simp only at hc1 hc2 hc3;have HC:=Hi hPc;clear hPc h0;subst hao
  go_upto_region 9 with fail
  clear hc1 hc2 hc3;refine nmA ?_;intro y8 hE B11 hz_y8 hr_y8;refine mV3 hE ?_ HX4 HL HC;clear HX4 HL HC;intro HX4 HL HC;obtain ⟨b11,hb11⟩:∃ b11,b11=wr.heap.size:=⟨_,rfl⟩;have hbL:b11≠L:=zo;rw [←hb11] at B11 ⊢;clear hb11 hbl;go_wp2
  go_loopg [48] Q (fun g v wr=>∃ (k:Nat) (os:List Rat),k+g=Q∧v=.int .i64 (k:Nat)∧Ext w4 wr∧bT wr L os∧os.length=M∧(∀ n,n<M→os.getD n 0=pmS a b i k n)∧aB wr ⟨rneg,ra,rn,rc,rb,rm,rd⟩ (a.getD i 0)∧wr.heap[b11]?=some (.cells #[.bool rneg,.slice ra rn rc,.slice rb rm rd] 34 (0,0)))
  case atStart=>exact ⟨0,os,zo,rfl,HX4.out,HL.out,HOl.out,HOv.out,HC.out,B11.out⟩
  case round =>
   obtain ⟨k,os,hk,rfl,g1,g2,g3,g4,g5,g6⟩:=hrel;clear HX4 HL HOl HOv HC B11;have HX4:=Hi g1;have HL:=Hi g2;have HOl:=Hi g3;have HOv:=Hi g4;have HC:=Hi g5;have B11:=Hi g6;clear g1 g2 g3 g4 g5 g6;by_cases h1:gk=0
   case pos =>
    subst h1;obtain rfl:k=Q:=by omega
    have hkn:¬ (k:Int)<k:=zo;go_wp2
    go_roundg g0
    case measure=>omega
    case rel=>exact ⟨i+1,os,zo,by go_num,HX4.out,HL.out,HOl.out,fun n hn=>by rw [zN HQl.out];exact HOv.out n hn⟩
   have hkQ:(k:Int)<Q:=zo;obtain ⟨bb',ob,s,hbo,hbl,⟨kc1,kc2,kc3⟩,hQc⟩:=(LB4.out.ext HX4.out).celx (k:=k) zo;obtain ⟨sneg,sa,sn,sc,sb,sm',sd⟩:=s;simp only at kc1 kc2 kc3;have HD':=Hi hQc;clear hQc h1;subst hbo
   go_upto_region 12 with fail
   clear kc1 kc2 kc3;refine nmA ?_;intro y11 hE B13 hz_y11 hr_y11;refine mV5 hE ?_ HD' HX4 HL HC B11;clear HD' HX4 HL HC B11;intro HD' HX4 HL HC B11;obtain ⟨b13,hb13⟩:∃ b13,b13=wr.heap.size:=⟨_,rfl⟩;rw [←hb13] at B13 ⊢;clear hb13 hbl;replace b_B11:=bX3 B11;replace b_B13:=bX3 B13;obtain ⟨j,hj⟩:∃ j,j=i+k:=⟨_,rfl⟩;have hjM:j<M:=zo;have hji:(i:Int)+k=j:=by omega
   obtain ⟨v,hv⟩:∃ v,v=os.getD j 0:=⟨_,rfl⟩;have Hv:=Hi hv;have Hj:=Hi hj;have hlW:a.length≤W32:=by rw [HPl.out];exact nXf zo (show 1000≤W32 by decide)
   have ZO:Hid (Sz (S+U+2) v):=Hi (by rw [hv,HOv.out j hjM];exact (Bk WA.out WB.out hlW (by rw [HPl.out];omega) j).sz zo);have ZP:Hid (Sz S (a.getD i 0)):=Hi ((WA.out _ (fj (by rw [HPl.out];omega))).sz hS);have ZQ:Hid (Sz U (b.getD k 0)):=Hi ((WB.out _ (fj (by rw [HQl.out];omega))).sz hU);obtain ⟨ro,⟨f1,f2,f3⟩,hro⟩:=bT.cells HL.out (k:=j) (by rw [HOl.out];exact hjM);rw [←hv] at hro;have RO:=Hi hro;have hLl:=bT.lt HL.out;obtain ⟨on,oa',ol,oc,ob',om,od⟩:=ro;simp only at f1 f2 f3;clear hj hv hro
   go_upto_region 12 with fail
   refine wpG 15 (fun opIx=>match opIx with
    | 12=>sR (a.getD i 0*b.getD k 0)
    | 13=>sR (v+a.getD i 0*b.getD k 0)
    | _=>.quiet) (fun|13=>[12]|_=>[]) fun w0 he0 hz0 hc0 hf0=>?_
   refine wps he0 (fun w1 hW hG=>?_) fun x20=>?_
   ·exact spc [RH.v ⟨rneg,ra,rn,rc,rb,rm,rd⟩,RH.v ⟨sneg,sa,sn,sc,sb,sm',sd⟩] Tryz.func85 (aW _ _ _ _ _ ((HC.out.ext hW).raw ZP.out zo) ((HD'.out.ext hW).raw ZQ.out zo))
   refine qZ ?_;refine wps he0 (fun w1 hW hG=>?_) fun x21=>?_
   ·have g20:=gS (hG 12 dZ);exact spc [RH.v ⟨on,oa',ol,oc,ob',om,od⟩,x20.v] Tryz.func118 (df _ x20 _ _ _ ((RO.out.ext hW).raw ZO.out zo) (g20.raw (ZP.out.mul ZQ.out) zo))
   refine qZ ?_;refine aj ?_;intro w12 hI;have hE:=he0.out.trans hI.ext;have G21:=gT (hI.facts 13);clear hI he0 hz0 hc0 hf0;refine mV4 hE ?_ HX4 HL B11 HC;clear HX4 HL B11 HC;intro HX4 HL B11 HC;simp only [pD];clear f1 f2 f3 hLl;obtain ⟨r2,⟨f1,f2,f3⟩,-⟩:=bT.cells HL.out (k:=j) (by rw [HOl.out];exact hjM);have hfz:=bT.frozen HL.out
   go_upto_region 13 with fail
   refine iA (k:=j) HL.out (by rw [HOl.out];exact hjM) G21.out ?_;rintro y13 ⟨cs,T⟩ TN;have HOv2:=Hi (zy HOl.out HOv.out (by rw [←Hj.out];exact hjM));rw [←Hj.out,←Hv.out] at HOv2;clear f1 f2 f3 hfz;clear HL;replace HX4:=Hi (T.ext HX4.out zo);replace HC:=Hi (HC.out.keep T.keep);replace B11:=Hi (T.rest _ _ zo B11.out);clear T;have HL:=Hi TN;clear TN;go_wp2
   go_roundg (gk-1)
   case measure=>omega
   case rel=>exact ⟨k+1,_,zo,by go_num,HX4.out,HL.out,by rw [nXo];exact HOl.out,HOv2.out,HC.out,B11.out⟩
theorem eW(ao bo:Option Addr)(n c m d:Nat)(p q:List Rat)(S U:Nat)(w:World)(h:cx w ⟨ao,n,c⟩ p)(k:cx w ⟨bo,m,d⟩ q)(hn:n≤1000)(hm:m≤1000)(hp:FrB S p)(hq:FrB U q)(hSU:S+U≤8000000) :
  ak 100 [.slice ao n c,.slice bo m d] w SH.v (fun s w'=>bU w.heap.size w' s (aq p q)):=by
 obtain ⟨h0,D,h1,h2,h3⟩:=hp;obtain ⟨k0,E,k1,k2,k3⟩:=hq;exact vZ ao bo n c m d p q S U D E w h k hn hm h0 k0 h1 h2 k1 k2 h3 k3 hSU
structure FH where
 b:SH
 a:SH
abbrev FH.v(f:FH):Value:=.agg #[f.b.v,f.a.v]
def Ih(w:World)(f:FH)(b a:List Rat):Prop:=aD w f.b b∧aD w f.a a
theorem wB{w1:World}{b:Nat}{T:TypeId}{c0 c1 v0 v1:Value}{F:World→Prop}(hb:w1.heap[b]?=some (.cells #[c0,c1] T (0,0)))(hn:#[c0,c1].toList.all gP=true)(h:∀ w2,gy w1 b T #[v0,v1] w2→F w2) :
  F ((w1.setCell ⟨b,0,none⟩ v0).setCell ⟨b,1,none⟩ v1) :=
 h _ (gy.of (nXb.1 hb).1 (ai hb hn) ((bj.setCell w1 ⟨b,0,none⟩ v0).trans (bj.setCell _ ⟨b,1,none⟩ v1)) (by simp [World.setCell]) (aS (aS hb 0 v0) 1 v1))
abbrev FE(x:FH×Int):Value:=.tuple #[x.1.v,.int .i64 x.2]
def FEP(v:Int×List Rat×List Rat)(x:FH×Int)(w:World):Prop:=x.2=v.1∧Ih w x.1 v.2.1 v.2.2
theorem AO(w:World):Ih w ⟨⟨none,0,0⟩,⟨none,0,0⟩⟩ [] []:=⟨(bU.nil 0 w).can,(bU.nil 0 w).can⟩
theorem aD.put2{w1 w2:World}{s:SH}{qs:List Rat}{B:Nat}{T T':TypeId}{a a':Option Addr}{n c n' c':Nat}{cs:Array Value}(h:aD w1 s qs)(hB:w1.heap[B]?=some (.cells #[.slice a n c,.slice a' n' c'] T' (0,0)))(T2:gy w1 B T cs w2):aD w2 s qs:=by
 obtain ⟨rs,h1,h2⟩:=h;refine ⟨rs,⟨h1.len,h1.le,h1.max,?_⟩,h2.keep T2.keep⟩;rcases h1.at' with h0|⟨b,off,e,hc⟩
 ·exact Or.inl h0
 ·rcases Nat.eq_zero_or_pos s.n with h0|h0
  ·exact Or.inl h0
  ·have hb:b≠B:=by
    intro hb;subst hb;have h3:=(hc 0 h0).1;rw [Nat.zero_mul,Nat.add_zero,ab hB] at h3;rcases off with _|_|off <;> simp at h3
   exact Or.inr ⟨b,off,e,fun k hk=>⟨T2.cell hb (hc k hk).1,T2.cell hb (hc k hk).2.1,T2.cell hb (hc k hk).2.2⟩⟩
theorem bg{p q:List Rat}{n m:Nat}(hp:p.length≤n)(hq:q.length≤m):(aq p q).length≤n+m-1:=by
 unfold aq;refine nXf (ae _) ?_;have:=ae p;have:=ae q;rw [nXl,nXt];omega
theorem cO{p q:List Rat}{n:Nat}(hp:p.length≤n)(hq:q.length≤n):(bA p q).length≤n:=by
 unfold bA;refine nXf (ae _) ?_;rw [nXl,nXt];omega
theorem sub_len{p q:List Rat}{n:Nat}(hp:p.length≤n)(hq:q.length≤n):(subV p q).length≤n:=cO hp (by rw [nXl];exact hq)
theorem kB(s t:SH)(p q:List Rat)(S U:Nat)(w:World)(h:aD w s p)(k:aD w t q)(hp:FrB S p)(hq:FrB U q)(hn:p.length≤100)(hm:q.length≤100)(hSU:S+U≤8000000) :
  ak 100 [s.v,t.v] w SH.v (fun s w'=>bU w.heap.size w' s (aq p q)):=by
 obtain ⟨ao,n,c⟩:=s;obtain ⟨bo,m,d⟩:=t;have e1:=h.len;have e2:=k.len;simp only at e1 e2;exact eW ao bo n c m d p q S U w (h.raw hp.sz zo) (k.raw hq.sz zo) zo zo hp hq hSU
theorem rv(s t:SH)(p q:List Rat)(S:Nat)(w:World)(h:aD w s p)(k:aD w t q)(zp:SzL S p)(zq:SzL S q)(hn:p.length≤200)(hm:q.length≤200)(hS:S≤8000000) :
  ak 116 [s.v,t.v] w SH.v (fun s w'=>bU w.heap.size w' s (subV p q)):=by
 obtain ⟨ao,n,c⟩:=s;obtain ⟨bo,m,d⟩:=t;have e1:=h.len;have e2:=k.len;simp only at e1 e2;exact zF ao bo n c m d p q w (h.raw zp zo) (k.raw zq zo) zo zo (zp.mono zo) (zq.mono zo)
def bF(p:List Rat):Nat→List Rat
 | 0=>[((1:Int):Rat)]
 | k+1=>aq (bF p k) p
theorem dI{p:List Rat}(hl:p.length≤2)(k:Nat):(bF p k).length≤k+1:=by
 induction k with
 | zero=>exact nXe _
 | succ k ih=>exact nXf (bg ih hl) zo
theorem iQ:FrB 3 [((1:Int):Rat)]:=FrB.of (k:=1) (n:=1) (fun x hx=>by rw [nXv.1 hx];exact Sz.int (z:=1) dZ) dZ
theorem cN{S:Nat}{p:List Rat}(hf:FrB S p)(hl:p.length≤2)(k:Nat)(hk:k≤1000):FrB (3+k*(S+1)) (bF p k):=by
 induction k with
 | zero=>rw [Nat.zero_mul];exact iQ
 | succ k ih =>
  have h:=(ih zo).mul hf (by have:=dI hl k;omega);exact h.mono (by rw [nXz];omega)
theorem CB(p:List Rat)(k:Nat):tz (bF p k)=bF p k:=by
 cases k with
 | zero=>show tz [((1:Int):Rat)]=[((1:Int):Rat)];decide
 | succ k=>exact CW _ _
theorem sY(s:SH)(p:List Rat)(k S:Nat)(w:World)(h:aD w s p)(hk:k≤48)(hl:p.length≤2)(hf:FrB S p)(hS:S≤10000) :
  ak 166 [s.v,.int .i64 (k:Nat)] w RF (fun x w'=>x.2=0∧aD w' x.1 (bF p k)):=by
 obtain ⟨pa,pn,pc⟩:=s;have H:=Hi h;have HX:=Hi (Ext.refl w);have hpn:=h.len;simp only at hpn;have hpn2:pn≤2:=zo;have HF:=Hi hf;have HL:=Hi hl;have h1:¬ (k:Int)<0:=zo;have h2:¬ (48:Int)<k:=zo;have htl:(tz p).length≤2:=nXf (ae p) hl;obtain ⟨dg,hdg⟩:∃ dg:Int,dg=((tz p).length:Int)-1:=⟨_,rfl⟩;obtain ⟨pr,hpr⟩:∃ pr:Int,(k:Int)*dg=pr:=⟨_,rfl⟩;have hp1:pr≤48∧-48≤pr:=by
  rcases (show dg=-1∨dg=0∨dg=1 by omega) with h|h|h <;> rw [h] at hpr <;> omega
 obtain ⟨hp1,hp2⟩:=hp1;have HD:=Hi hdg;clear h hpn hf hl htl hdg;unfold ak;simp only [SH.v];go_enter Tryz.func166,Tryz.ntmps166
 go_wp2_with fail
 refine cM (dr pa pn pc p _ (H.out.raw HF.out.sz zo)) fun x2 w2 hE _=>?_
 refine mV2 hE ?_ H HX;clear H HX;intro H HX;rw [←HD.out]
 go_wp2_with fail
 refine cM (aL 1 _ dZ dZ) fun x3 w3 hE G3=>?_
 refine mV2 hE ?_ H HX;clear H HX;intro H HX
 go_upto_region 4 with fail
 refine nmA ?_;intro w4 hE B4 hz_w4 hr_w4;refine mV3 hE ?_ G3 H HX;clear G3 H HX;intro G3 H HX;have L0:Hid (aD w4 ⟨some ⟨w3.heap.size,0,none⟩,1,1⟩ (bF p 0)):=Hi (qI B4.out G3.out)
 (try clear c_B4 f_B4 l_B4);(try clear B4)
 clear G3;clear HD hpr hp1 hp2;go_wp2
 go_loopg [6,23] k (fun g r i wr=>∃ (j:Nat) (s:SH),j+g=k∧r=s.v∧i=.int .i64 (j:Nat)∧Ext w wr∧aD wr ⟨pa,pn,pc⟩ p∧aD wr s (bF p j))
 case atStart=>exact ⟨0,⟨_,_,_⟩,zo,rfl,rfl,HX.out,H.out,L0.out⟩
 case round =>
  obtain ⟨j,⟨sa,sn,sc⟩,hj,rfl,rfl,g1,g2,g3⟩:=hrel;clear HX H L0;have HX:=Hi g1;have H:=Hi g2;have L0:=Hi g3;have hsn:=g3.len;have hsl:=dI HL.out j;simp only at hsn;have hsn2:sn≤49:=zo;clear g1 g2 g3 hsn hsl;simp only [SH.v];by_cases h0:gk=0
  case pos =>
   subst h0;obtain rfl:j=k:=by omega
   go_wp2;exact nXa (v:=RF (⟨sa,sn,sc⟩,0)) (by simp [results,Tryz.results166,go_sem,RF]) rfl ⟨(⟨sa,sn,sc⟩,0),rfl,HX.out,rfl,L0.out⟩
  have hjk:(j:Int)<k:=zo;have FJ:Hid (FrB 600000 (bF p j)):=Hi ((cN HF.out HL.out j zo).mono (by have:=nXy (show j≤48 by omega) (show S+1≤10001 by omega);omega))
  go_wp2_with fail
  refine cM ((eW sa pa sn sc pn pc (bF p j) p 600000 S _ (L0.out.raw FJ.out.sz dZ) (H.out.raw HF.out.sz zo) zo zo FJ.out HF.out zo).weak (ψ:=fun x w'=>aD w' x (bF p (j+1))) (fun _ _ _ h=>h.can)) fun x5 w5 hE G5=>?_
  refine mV2 hE ?_ HX H;clear HX H;intro HX H;obtain ⟨xa,xn,xc⟩:=x5;simp only [SH.v];go_wp2
  go_roundg (gk-1)
  case measure=>omega
  case rel=>exact ⟨j+1,⟨xa,xn,xc⟩,zo,rfl,by go_num,HX.out,H.out,G5.out⟩
def oU(p q:List Rat):Nat→List Rat
 | 0=>[]
 | j+1=>bA (aq (oU p q j) q) [p.getD (p.length-1-j) 0]
theorem iJ.can{w:World}{x:Nat×RH}{q:Rat}(h:iJ w x q):aD w ⟨some ⟨x.1,0,none⟩,1,1⟩ [q] :=
 ⟨[x.2],RBk.rs (rs:=[x.2]) (re:=#[]) h.1 rfl (nXe _) dZ,(fu.nil _ _).snoc h.2⟩
theorem SzL.one'{s:Nat}{q:Rat}(h:Sz s q):SzL s [q]:=by
 intro x hx;obtain rfl:x=q:=by simpa using hx
 exact h
def Ii:List (List (List Int)):=[[[],[1]],
 [[],[1]],
 [[],[1]],
 [[],[1]],
 [[],[1]],
 [[],[1]],
 [[],[1],[1]],
 [[],[1],[0,1]],
 [[],[1],[-1,0,2]],
 [[],[1],[0,-3,0,4]],
 [[],[1],[1,0,-8,0,8]],
 [[],[1],[0,5,0,-20,0,16]],
 [[],[2],[2],[1]],
 [[],[2],[0,2],[-1,0,2]],
 [[],[2],[-2,0,4],[1,0,-8,0,8]],
 [[],[2],[0,-6,0,8],[-1,0,18,0,-48,0,32]],
 [[],[2],[2,0,-16,0,16],[1,0,-32,0,160,0,-256,0,128]],
 [[],[2],[0,10,0,-40,0,32],[-1,0,50,0,-400,0,1120,0,-1280,0,512]],
 [[],[4],[4],[1],[1]],
 [[],[4],[0,4],[-3,0,4],[0,-3,0,4]],
 [[],[4],[-4,0,8],[1,0,-16,0,16],[-1,0,18,0,-48,0,32]],
 [[],[4],[0,-12,0,16],[-3,0,36,0,-96,0,64],[0,9,0,-120,0,432,0,-576,0,256]],
 [[],[4],[4,0,-32,0,32],[1,0,-64,0,320,0,-512,0,256],[1,0,-72,0,840,0,-3584,0,6912,0,-6144,0,2048]],
 [[],[4],[0,20,0,-80,0,64],[-3,0,100,0,-800,0,2240,0,-2560,0,1024],[0,-15,0,560,0,-6048,0,28800,0,-70400,0,92160,0,-61440,0,16384]],
 [[],[8],[8],[],[],[1]],
 [[],[8],[0,8],[-8,0,8],[0,-8,0,8],[1,0,-8,0,8]],
 [[],[8],[-8,0,16],[0,0,-32,0,32],[0,0,32,0,-96,0,64],[1,0,-32,0,160,0,-256,0,128]],
 [[],[8],[0,-24,0,32],[-8,0,72,0,-192,0,128],[0,24,0,-248,0,864,0,-1152,0,512],[1,0,-72,0,840,0,-3584,0,6912,0,-6144,0,2048]],
 [[],[8],[8,0,-64,0,64],[0,0,-128,0,640,0,-1024,0,512],[0,0,-128,0,1664,0,-7168,0,13824,0,-12288,0,4096],[1,0,-128,0,2688,0,-21504,0,84480,0,-180224,0,212992,0,-131072,0,32768]],
 [[],[8],[0,40,0,-160,0,128],[-8,0,200,0,-1600,0,4480,0,-5120,0,2048],[0,-40,0,1160,0,-12128,0,57600,0,-140800,0,184320,0,-122880,0,32768],[1,0,-200,0,6600,0,-84480,0,549120,0,-2050048,0,4659200,0,-6553600,0,5570560,0,-2621440,0,524288]],
 [[],[16],[16],[-4],[-4],[1],[1]],
 [[],[16],[0,16],[-20,0,16],[0,-20,0,16],[5,0,-20,0,16],[0,5,0,-20,0,16]],
 [[],[16],[-16,0,32],[-4,0,-64,0,64],[4,0,56,0,-192,0,128],[1,0,-48,0,304,0,-512,0,256],[-1,0,50,0,-400,0,1120,0,-1280,0,512]],
 [[],[16],[0,-48,0,64],[-20,0,144,0,-384,0,256],[0,60,0,-512,0,1728,0,-2304,0,1024],[5,0,-180,0,1776,0,-7232,0,13824,0,-12288,0,4096],[0,-15,0,560,0,-6048,0,28800,0,-70400,0,92160,0,-61440,0,16384]],
 [[],[16],[16,0,-128,0,128],[-4,0,-256,0,1280,0,-2048,0,1024],[-4,0,-224,0,3296,0,-14336,0,27648,0,-24576,0,8192],[1,0,-192,0,5056,0,-42496,0,168704,0,-360448,0,425984,0,-262144,0,65536],[1,0,-200,0,6600,0,-84480,0,549120,0,-2050048,0,4659200,0,-6553600,0,5570560,0,-2621440,0,524288]],
 [[],[16],[0,80,0,-320,0,256],[-20,0,400,0,-3200,0,8960,0,-10240,0,4096],[0,-100,0,2400,0,-24320,0,115200,0,-281600,0,368640,0,-245760,0,65536],[5,0,-500,0,14000,0,-171200,0,1100800,0,-4101120,0,9318400,0,-13107200,0,11141120,0,-5242880,0,1048576],[0,25,0,-2600,0,80080,0,-1144000,0,9152000,0,-45260800,0,146227200,0,-317521920,0,466944000,0,-458752000,0,288358400,0,-104857600,0,16777216]]]
def hh(m n j:Nat):List Int:=(Ii.getD (m*6+n) []).getD j []
end Go.Proofs.YtafgmcimcbhhjaaGreat
