import Derived.Test.YtkcpmclnocmalaaGreatQMK8
set_option linter.unusedVariables false
set_option maxHeartbeats 8000000
set_option maxRecDepth 8000
namespace Go.Proofs.YtkcpmclnocmalaaGreat
open Go.RowKit Go.Front Go.Num Stab
attribute [local go_sem] XW.cell XW.frozen
theorem qL(s:RH)(q:Rat)(w:World)(h:aX w s q):ar 139 [s.v] w RH.v (fun r w'=>aA w' r (-q)):=by
 have HR:=Hi h;have HX:=Hi (Ext.refl w);obtain ⟨neg,ao,n,c,bo,m,d⟩:=s;clear h;unfold ar;go_enter Tryz.func139,Tryz.ntmps139
 go_upto_region 1 with fail
 refine eX ?_;intro w1 hE B1 B2 hz_w1 hr_w1;replace HX:=hE.tr HX;have hs_w1:=hE.size;replace b_B1:=bX3 B1;replace b_B2:=bX3 B2
 go_wp2_with fail
 refine cM (rJ ⟨neg,ao,n,c,bo,m,d⟩ _) fun x1 w1 hE _=>?_
 refine mV3 hE ?_ B1 B2 HX;clear B1 B2 HX;intro B1 B2 HX;have hs_w1:=hE.size;replace b_B1:=bX3 B1;replace b_B2:=bX3 B2
 go_wp2_with fail
 refine cM (eG ⟨!neg,ao,n,c,bo,m,d⟩ _ _ (HR.out.neg.ext HX.out)) fun x2 w2 hE G2=>?_
 refine mV3 hE ?_ B1 B2 HX;clear B1 B2 HX;intro B1 B2 HX;have hs_w2:=hE.size;replace b_B1:=bX3 B1;replace b_B2:=bX3 B2;go_wp2;have hF:=((((Fin.start (L:=w.heap.size+1) HX.out (ai B2.out rfl)).set zo (i:=0) (v:=.bool x2.neg) rfl).set zo (i:=1) (v:=.slice x2.a x2.n x2.c) rfl).set zo (i:=2) (v:=.slice x2.b x2.m x2.d) rfl);exact nXa (v:=x2.v) (by simp [results,Tryz.results139,go_sem,ae B2.out]) rfl ⟨x2,rfl,hF.ext,G2.out.keep hF.keep⟩
theorem Bu(ao bo:Option Addr)(n c m d:Nat)(p q:List Rat)(w:World)(h:cN w ⟨ao,n,c⟩ p)(k:cN w ⟨bo,m,d⟩ q)(hmn:m≤n)(hn:n≤1000000)(hz:SzL 33554432 p)(kz:SzL 33554432 q) :
  ar 140 [.slice ao n c,.slice bo m d] w SH.v (fun s w'=>ct w.heap.size w' s (cY p q)):=by
 obtain ⟨i0,hi0,hz0,hz1,hz2⟩:=info_parts ii;have H:=Hi h;have K:=Hi k;have HX:=Hi (Ext.refl w);have hle:=h.le;have hmx:=h.max;have kle:=k.le;have kmx:=k.max;have Hn:=Hi h.len;have Hm:=Hi k.len;simp only at hle hmx kle kmx Hn Hm;have HZ:=Hi hz;have KZ:=Hi kz;have hlt:¬ (n:Int)<m:=zo;clear h k hz kz;unfold ar;go_enter Tryz.func140,Tryz.ntmps140
 go_upto_region 4 with (refine aB rfl (.tmp 15) (.tmp 15) 24 rfl 37 i0 (RH.v default) 3 Tryz.underlying24 hi0 hz0 hz1 _ _ n rfl rfl zo zo (by rw [hz2];omega) zo ?_;intro w2 hnew hE)
 have KB:=Hi (RBk.make rfl hnew);clear hnew;replace HX:=hE.tr HX;have hs_w2:=hE.size;obtain ⟨L,hL⟩:∃ L,L=w.heap.size:=⟨_,rfl⟩;have hLw:w.heap.size≤L:=zo;rw [←hL] at KB ⊢;clear hL;go_wp2
 go_loopg [19] n (fun g v wr=>∃ (i:Nat) (rs:List RH),i+g=n∧v=.int .i64 (i:Nat)∧Ext w wr∧RBk wr L rs #[]∧rs.length=n∧iq wr rs ((List.range i).map (fun i=>p.getD i 0+q.getD i 0)))
 case atStart=>exact ⟨0,_,zo,rfl,HX.out,KB.out,by simp,fun j hj=>by simp at hj⟩
 case round =>
  obtain ⟨i,rs,hi,rfl,g1,g4,g5,g6⟩:=hrel;clear HX KB;have HX:=Hi g1;have KB:=Hi g4;have HRl:=Hi g5;have PC:=Hi g6;clear g1 g4 g5 g6;have HTl:Hid (((List.range i).map (fun i=>p.getD i 0+q.getD i 0)).length=i):=Hi (by simp)
  try clear f_KB l_KB
  have f_KB:=af KB.out;have l_KB:=(nXb.1 KB.out).1;by_cases h0:gk=0
  case pos =>
   subst h0;obtain rfl:i=n:=by omega
   have hin:¬ (i:Int)<i:=zo;have HV:Hid (cY p q=tz ((List.range i).map (fun i=>p.getD i 0+q.getD i 0))):=Hi (by unfold cY;rw [Hn.out,Hm.out,show max i m=i by omega]);obtain ⟨ts,hts⟩:∃ ts,ts=(List.range i).map (fun i=>p.getD i 0+q.getD i 0):=⟨_,rfl⟩;have HSz:Hid (SzL 67108865 ts):=Hi (by
    intro x hx;rw [hts] at hx;obtain ⟨y,hy,rfl⟩:=nYg.1 hx;exact ((HZ.out.getD dZ y).add (KZ.out.getD dZ y)).mono dZ)
   rw [←hts] at PC HTl HV;clear hts;have LL:Hid (ct w.heap.size wr ⟨some ⟨L,0,none⟩,i,i⟩ ts):=Hi (iq.list PC.out KB.out HRl.out HTl.out hLw zo);clear KB;clear PC
   go_wp2_with fail
   refine cM (dS (some ⟨L,0,none⟩) i i ts _ (LL.out.can.raw HSz.out dZ)) fun x1 w1 hE G1=>?_
   refine mV2 hE ?_ HX LL;clear HX LL;intro HX LL;have hs_w1:=hE.size;obtain ⟨q1,q2⟩:=G1.out;have HQ1:=Hi q1;have HQ2:=Hi q2;clear q1 q2 G1;go_wp2
   go_ret
   refine ⟨⟨some ⟨L,0,none⟩,(tz ts).length,i⟩,rfl,HX.out,?_⟩;have:=LIn.take LL.out HQ2.out;rw [←HQ1.out] at this;rw [HV.out];exact this
  have hin:(i:Int)<n:=zo;obtain ⟨b,off,r,hao,hbl,⟨hc1,hc2,hc3⟩,hP⟩:=(H.out.ext HX.out).cells' (k:=i) zo;obtain ⟨rneg,ra,rn,rc,rb,rm,rd⟩:=r;simp only at hc1 hc2 hc3;subst hao;have RP:=Hi hP;clear hP;have HMp:Hid ((List.range i).map (fun i=>p.getD i 0+q.getD i 0)++[p.getD i 0+q.getD i 0]=(List.range (i+1)).map (fun i=>p.getD i 0+q.getD i 0)):=Hi (eI (fun i=>p.getD i 0+q.getD i 0) i).symm;by_cases hm1:i<m
  case pos =>
   have him:(i:Int)<m:=zo;obtain ⟨b',off',r',hbo,hbl',⟨kc1,kc2,kc3⟩,hQ⟩:=(K.out.ext HX.out).cells' (k:=i) zo;obtain ⟨sneg,sa,sn,sc,sb,sm,sd⟩:=r';simp only at kc1 kc2 kc3;subst hbo;have RQ:=Hi hQ;clear hQ
   go_upto_region 8 with fail
   refine wpG 12 (fun opIx=>match opIx with
    | 10=>sR (p.getD i 0+q.getD i 0)
    | _=>.quiet) (fun _=>[]) fun w0 he0 hz0 hc0 hf0=>?_
   refine wps he0 (fun w1 hW hG=>?_) fun x10=>?_
   ·exact spc [RH.v ⟨rneg,ra,rn,rc,rb,rm,rd⟩,RH.v ⟨sneg,sa,sn,sc,sb,sm,sd⟩] Tryz.func104 (dw _ _ _ _ _ (RP.out.ext hW) (RQ.out.ext hW))
   refine qZ ?_;refine aq ?_;intro w5 hI;have hE:=he0.out.trans hI.ext;have G10:=gT (hI.facts 10);clear hI he0 hz0 hc0 hf0;refine mV3 hE ?_ KB PC HX;clear KB PC HX;intro KB PC HX;have hs_w5:=hE.size
   try clear f_KB l_KB
   have f_KB:=af KB.out;have l_KB:=(nXb.1 KB.out).1;simp only [pD];obtain ⟨f1,f2,f3⟩:=RBk.at (re:=#[]) KB.out (k:=i) (by rw [HRl.out];omega)
   go_upto_region 10 with fail
   refine eK (k:=i) KB.out rfl (by rw [HRl.out];omega) ?_;intro y6 T;clear f1 f2 f3 hc1 hc2 hc3 kc1 kc2 kc3;replace HX:=Hi (T.ext HX.out zo);replace PC:=Hi (PC.out.keep T.keep);replace KB:=Hi (T.bx);replace G10:=Hi (G10.out.keep T.keep);have hs_y6:=nle T.size;have hr_y6:=nle T.size.symm;clear T
   try clear f_KB l_KB
   have f_KB:=af KB.out;have l_KB:=(nXb.1 KB.out).1;replace PC:=Hi (PC.out.snoc (x:=x10) (i:=i) HTl.out (by rw [HRl.out];omega) G10.out);rw [HMp.out] at PC;go_wp2
   go_roundg (gk-1)
   case measure=>omega
   case rel=>exact ⟨i+1,_,zo,by go_num,HX.out,KB.out,by rw [nXo];exact HRl.out,PC.out⟩
  have him:¬ (i:Int)<m:=zo;have HQ0:Hid (p.getD i 0+q.getD i 0=p.getD i 0):=Hi (by rw [bu (l:=q) (by rw [Hm.out];omega)];exact Rat.add_zero _)
  go_wp2_with fail
  refine cM (eG ⟨rneg,ra,rn,rc,rb,rm,rd⟩ (p.getD i 0) _ RP.out) fun x4 w4 hE G4=>?_
  refine mV3 hE ?_ HX KB PC;clear HX KB PC;intro HX KB PC;have hs_w4:=hE.size
  try clear f_KB l_KB
  have f_KB:=af KB.out;have l_KB:=(nXb.1 KB.out).1;obtain ⟨f1,f2,f3⟩:=RBk.at (re:=#[]) KB.out (k:=i) (by rw [HRl.out];omega)
  go_upto_region 10 with fail
  refine eK (k:=i) KB.out rfl (by rw [HRl.out];omega) ?_;intro y6 T;clear f1 f2 f3 hc1 hc2 hc3;replace HX:=Hi (T.ext HX.out zo);replace PC:=Hi (PC.out.keep T.keep);replace KB:=Hi (T.bx);replace G4:=Hi (G4.out.keep T.keep);have hs_y6:=nle T.size;have hr_y6:=nle T.size.symm;clear T
  try clear f_KB l_KB
  have f_KB:=af KB.out;have l_KB:=(nXb.1 KB.out).1;replace PC:=Hi (PC.out.snoc (x:=x4) (q:=p.getD i 0+q.getD i 0) (i:=i) HTl.out (by rw [HRl.out];omega) (by rw [HQ0.out];exact G4.out));rw [HMp.out] at PC;go_wp2
  go_roundg (gk-1)
  case measure=>omega
  case rel=>exact ⟨i+1,_,zo,by go_num,HX.out,KB.out,by rw [nXo];exact HRl.out,PC.out⟩
theorem Bt(ao bo:Option Addr)(n c m d:Nat)(p q:List Rat)(w:World)(h:cN w ⟨ao,n,c⟩ p)(k:cN w ⟨bo,m,d⟩ q)(hmn:m<n)(hn:n≤1000000)(hz:SzL 33554432 p)(kz:SzL 33554432 q) :
  ar 140 [.slice bo m d,.slice ao n c] w SH.v (fun s w'=>ct w.heap.size w' s (cY q p)):=by
 obtain ⟨i0,hi0,hz0,hz1,hz2⟩:=info_parts ii;have H:=Hi h;have K:=Hi k;have HX:=Hi (Ext.refl w);have hle:=h.le;have hmx:=h.max;have kle:=k.le;have kmx:=k.max;have Hn:=Hi h.len;have Hm:=Hi k.len;simp only at hle hmx kle kmx Hn Hm;have HZ:=Hi hz;have KZ:=Hi kz;have hlt:(m:Int)<n:=zo;clear h k hz kz;unfold ar;go_enter Tryz.func140,Tryz.ntmps140
 go_upto_region 4 with (refine aB rfl (.tmp 15) (.tmp 15) 24 rfl 37 i0 (RH.v default) 3 Tryz.underlying24 hi0 hz0 hz1 _ _ n rfl rfl zo zo (by rw [hz2];omega) zo ?_;intro w2 hnew hE)
 have KB:=Hi (RBk.make rfl hnew);clear hnew;replace HX:=hE.tr HX;have hs_w2:=hE.size;obtain ⟨L,hL⟩:∃ L,L=w.heap.size:=⟨_,rfl⟩;have hLw:w.heap.size≤L:=zo;rw [←hL] at KB ⊢;clear hL;go_wp2
 go_loopg [19] n (fun g v wr=>∃ (i:Nat) (rs:List RH),i+g=n∧v=.int .i64 (i:Nat)∧Ext w wr∧RBk wr L rs #[]∧rs.length=n∧iq wr rs ((List.range i).map (fun i=>p.getD i 0+q.getD i 0)))
 case atStart=>exact ⟨0,_,zo,rfl,HX.out,KB.out,by simp,fun j hj=>by simp at hj⟩
 case round =>
  obtain ⟨i,rs,hi,rfl,g1,g4,g5,g6⟩:=hrel;clear HX KB;have HX:=Hi g1;have KB:=Hi g4;have HRl:=Hi g5;have PC:=Hi g6;clear g1 g4 g5 g6;have HTl:Hid (((List.range i).map (fun i=>p.getD i 0+q.getD i 0)).length=i):=Hi (by simp)
  try clear f_KB l_KB
  have f_KB:=af KB.out;have l_KB:=(nXb.1 KB.out).1;by_cases h0:gk=0
  case pos =>
   subst h0;obtain rfl:i=n:=by omega
   have hin:¬ (i:Int)<i:=zo;have HV:Hid (cY q p=tz ((List.range i).map (fun i=>p.getD i 0+q.getD i 0))):=Hi (by unfold cY;rw [Hn.out,Hm.out,show max m i=i by omega];congr 2;funext j;exact Rat.add_comm _ _);obtain ⟨ts,hts⟩:∃ ts,ts=(List.range i).map (fun i=>p.getD i 0+q.getD i 0):=⟨_,rfl⟩;have HSz:Hid (SzL 67108865 ts):=Hi (by
    intro x hx;rw [hts] at hx;obtain ⟨y,hy,rfl⟩:=nYg.1 hx;exact ((HZ.out.getD dZ y).add (KZ.out.getD dZ y)).mono dZ)
   rw [←hts] at PC HTl HV;clear hts;have LL:Hid (ct w.heap.size wr ⟨some ⟨L,0,none⟩,i,i⟩ ts):=Hi (iq.list PC.out KB.out HRl.out HTl.out hLw zo);clear KB;clear PC
   go_wp2_with fail
   refine cM (dS (some ⟨L,0,none⟩) i i ts _ (LL.out.can.raw HSz.out dZ)) fun x1 w1 hE G1=>?_
   refine mV2 hE ?_ HX LL;clear HX LL;intro HX LL;have hs_w1:=hE.size;obtain ⟨q1,q2⟩:=G1.out;have HQ1:=Hi q1;have HQ2:=Hi q2;clear q1 q2 G1;go_wp2
   go_ret
   refine ⟨⟨some ⟨L,0,none⟩,(tz ts).length,i⟩,rfl,HX.out,?_⟩;have:=LIn.take LL.out HQ2.out;rw [←HQ1.out] at this;rw [HV.out];exact this
  have hin:(i:Int)<n:=zo;obtain ⟨b,off,r,hao,hbl,⟨hc1,hc2,hc3⟩,hP⟩:=(H.out.ext HX.out).cells' (k:=i) zo;obtain ⟨rneg,ra,rn,rc,rb,rm,rd⟩:=r;simp only at hc1 hc2 hc3;subst hao;have RP:=Hi hP;clear hP;have HMp:Hid ((List.range i).map (fun i=>p.getD i 0+q.getD i 0)++[p.getD i 0+q.getD i 0]=(List.range (i+1)).map (fun i=>p.getD i 0+q.getD i 0)):=Hi (eI (fun i=>p.getD i 0+q.getD i 0) i).symm;by_cases hm1:i<m
  case pos =>
   have him:(i:Int)<m:=zo;obtain ⟨b',off',r',hbo,hbl',⟨kc1,kc2,kc3⟩,hQ⟩:=(K.out.ext HX.out).cells' (k:=i) zo;obtain ⟨sneg,sa,sn,sc,sb,sm,sd⟩:=r';simp only at kc1 kc2 kc3;subst hbo;have RQ:=Hi hQ;clear hQ
   go_upto_region 8 with fail
   refine wpG 12 (fun opIx=>match opIx with
    | 10=>sR (p.getD i 0+q.getD i 0)
    | _=>.quiet) (fun _=>[]) fun w0 he0 hz0 hc0 hf0=>?_
   refine wps he0 (fun w1 hW hG=>?_) fun x10=>?_
   ·exact spc [RH.v ⟨rneg,ra,rn,rc,rb,rm,rd⟩,RH.v ⟨sneg,sa,sn,sc,sb,sm,sd⟩] Tryz.func104 (dw _ _ _ _ _ (RP.out.ext hW) (RQ.out.ext hW))
   refine qZ ?_;refine aq ?_;intro w5 hI;have hE:=he0.out.trans hI.ext;have G10:=gT (hI.facts 10);clear hI he0 hz0 hc0 hf0;refine mV3 hE ?_ KB PC HX;clear KB PC HX;intro KB PC HX;have hs_w5:=hE.size
   try clear f_KB l_KB
   have f_KB:=af KB.out;have l_KB:=(nXb.1 KB.out).1;simp only [pD];obtain ⟨f1,f2,f3⟩:=RBk.at (re:=#[]) KB.out (k:=i) (by rw [HRl.out];omega)
   go_upto_region 10 with fail
   refine eK (k:=i) KB.out rfl (by rw [HRl.out];omega) ?_;intro y6 T;clear f1 f2 f3 hc1 hc2 hc3 kc1 kc2 kc3;replace HX:=Hi (T.ext HX.out zo);replace PC:=Hi (PC.out.keep T.keep);replace KB:=Hi (T.bx);replace G10:=Hi (G10.out.keep T.keep);have hs_y6:=nle T.size;have hr_y6:=nle T.size.symm;clear T
   try clear f_KB l_KB
   have f_KB:=af KB.out;have l_KB:=(nXb.1 KB.out).1;replace PC:=Hi (PC.out.snoc (x:=x10) (i:=i) HTl.out (by rw [HRl.out];omega) G10.out);rw [HMp.out] at PC;go_wp2
   go_roundg (gk-1)
   case measure=>omega
   case rel=>exact ⟨i+1,_,zo,by go_num,HX.out,KB.out,by rw [nXo];exact HRl.out,PC.out⟩
  have him:¬ (i:Int)<m:=zo;have HQ0:Hid (p.getD i 0+q.getD i 0=p.getD i 0):=Hi (by rw [bu (l:=q) (by rw [Hm.out];omega)];exact Rat.add_zero _)
  go_wp2_with fail
  refine cM (eG ⟨rneg,ra,rn,rc,rb,rm,rd⟩ (p.getD i 0) _ RP.out) fun x4 w4 hE G4=>?_
  refine mV3 hE ?_ HX KB PC;clear HX KB PC;intro HX KB PC;have hs_w4:=hE.size
  try clear f_KB l_KB
  have f_KB:=af KB.out;have l_KB:=(nXb.1 KB.out).1;obtain ⟨f1,f2,f3⟩:=RBk.at (re:=#[]) KB.out (k:=i) (by rw [HRl.out];omega)
  go_upto_region 10 with fail
  refine eK (k:=i) KB.out rfl (by rw [HRl.out];omega) ?_;intro y6 T;clear f1 f2 f3 hc1 hc2 hc3;replace HX:=Hi (T.ext HX.out zo);replace PC:=Hi (PC.out.keep T.keep);replace KB:=Hi (T.bx);replace G4:=Hi (G4.out.keep T.keep);have hs_y6:=nle T.size;have hr_y6:=nle T.size.symm;clear T
  try clear f_KB l_KB
  have f_KB:=af KB.out;have l_KB:=(nXb.1 KB.out).1;replace PC:=Hi (PC.out.snoc (x:=x4) (q:=p.getD i 0+q.getD i 0) (i:=i) HTl.out (by rw [HRl.out];omega) (by rw [HQ0.out];exact G4.out));rw [HMp.out] at PC;go_wp2
  go_roundg (gk-1)
  case measure=>omega
  case rel=>exact ⟨i+1,_,zo,by go_num,HX.out,KB.out,by rw [nXo];exact HRl.out,PC.out⟩
theorem yq(ao bo:Option Addr)(n c m d:Nat)(p q:List Rat)(w:World)(h:cN w ⟨ao,n,c⟩ p)(k:cN w ⟨bo,m,d⟩ q)(hn:n≤1000000)(hm:m≤1000000)(hz:SzL 33554432 p)(kz:SzL 33554432 q) :
  ar 140 [.slice ao n c,.slice bo m d] w SH.v (fun s w'=>ct w.heap.size w' s (cY p q)):=by
 rcases Nat.lt_or_ge n m with h1|h1
 ·exact Bt bo ao m d n c q p w k h h1 hm kz hz
 ·exact Bu ao bo n c m d p q w h k h1 hn hz kz
def fY(p q:List Rat):List Rat:=cY p (q.map (fun x=>-x))
theorem qS(ao bo:Option Addr)(n c m d:Nat)(p q:List Rat)(w:World)(h:cN w ⟨ao,n,c⟩ p)(k:cN w ⟨bo,m,d⟩ q)(hn:n≤1000000)(hm:m≤1000000)(hz:SzL 33554432 p)(kz:SzL 33554432 q) :
  ar 84 [.slice ao n c,.slice bo m d] w SH.v (fun s w'=>ct w.heap.size w' s (fY p q)):=by
 obtain ⟨i0,hi0,hz0,hz1,hz2⟩:=info_parts ii;have H:=Hi h;have K:=Hi k;have HX:=Hi (Ext.refl w);have kle:=k.le;have kmx:=k.max;have Hm:=Hi k.len;simp only at kle kmx Hm;have HZ:=Hi hz;have KZ:=Hi kz;clear h k hz kz;unfold ar;go_enter Tryz.func84,Tryz.ntmps84
 go_upto_region 2 with (refine aB rfl (.tmp 8) (.tmp 8) 24 rfl 37 i0 (RH.v default) 3 Tryz.underlying24 hi0 hz0 hz1 _ _ m rfl rfl zo zo (by rw [hz2];omega) zo ?_;intro w2 hnew hE)
 have KB:=Hi (RBk.make rfl hnew);clear hnew;replace HX:=hE.tr HX;have hs_w2:=hE.size;obtain ⟨L,hL⟩:∃ L,L=w.heap.size:=⟨_,rfl⟩;have hLw:w.heap.size≤L:=zo;rw [←hL] at KB ⊢;clear hL;go_wp2
 go_loopg [12] m (fun g v wr=>∃ (i:Nat) (rs:List RH),i+g=m∧v=.int .i64 (i:Nat)∧Ext w wr∧RBk wr L rs #[]∧rs.length=m∧iq wr rs ((q.take i).map (fun x=>-x)))
 case atStart=>exact ⟨0,_,zo,rfl,HX.out,KB.out,by simp,fun j hj=>by simp at hj⟩
 case round =>
  obtain ⟨i,rs,hi,rfl,g1,g4,g5,g6⟩:=hrel;clear HX KB;have HX:=Hi g1;have KB:=Hi g4;have HRl:=Hi g5;have PC:=Hi g6;clear g1 g4 g5 g6;have HTl:Hid (((q.take i).map (fun x=>-x)).length=i):=Hi (by rw [nXl,nXk,Hm.out];omega)
  try clear f_KB l_KB
  have f_KB:=af KB.out;have l_KB:=(nXb.1 KB.out).1;by_cases h0:gk=0
  case pos =>
   subst h0;obtain rfl:i=m:=by omega
   have hin:¬ (i:Int)<i:=zo;have HE:Hid (q.take i=q):=Hi (nXm (by rw [Hm.out];exact nXe _));rw [HE.out] at PC HTl;obtain ⟨ts,hts⟩:∃ ts,ts=q.map (fun x=>-x):=⟨_,rfl⟩;have HSz:Hid (SzL 33554432 ts):=Hi (by
    intro x hx;rw [hts] at hx;obtain ⟨y,hy,rfl⟩:=nYg.1 hx;exact (KZ.out y hy).neg)
   have HV:Hid (fY p q=cY p ts):=Hi (by rw [hts];rfl);rw [←hts] at PC HTl;clear hts;have LL:Hid (ct w.heap.size wr ⟨some ⟨L,0,none⟩,i,i⟩ ts):=Hi (iq.list PC.out KB.out HRl.out HTl.out hLw zo);clear KB;clear PC
   go_wp2_with fail
   refine cM (yq ao (some ⟨L,0,none⟩) n c i i p ts _ (H.out.ext HX.out) (LL.out.can.raw HSz.out dZ) hn hm HZ.out HSz.out) fun x1 w1 hE G1=>?_
   refine mV2 hE ?_ HX LL;clear HX LL;intro HX LL;have hs_w1:=hE.size;go_wp2
   go_ret
   exact ⟨x1,rfl,HX.out,by rw [HV.out];exact G1.out.mono zo⟩
  have hin:(i:Int)<m:=zo;obtain ⟨b,off,r,hao,hbl,⟨hc1,hc2,hc3⟩,hP⟩:=(K.out.ext HX.out).cells' (k:=i) zo;obtain ⟨rneg,ra,rn,rc,rb,rm,rd⟩:=r;simp only at hc1 hc2 hc3;subst hao;have RP:=Hi hP;clear hP
  go_wp2_with fail
  refine cM (qL ⟨rneg,ra,rn,rc,rb,rm,rd⟩ (q.getD i 0) _ RP.out) fun x4 w4 hE G4=>?_
  refine mV3 hE ?_ KB PC HX;clear KB PC HX;intro KB PC HX;have hs_w4:=hE.size
  try clear f_KB l_KB
  have f_KB:=af KB.out;have l_KB:=(nXb.1 KB.out).1;obtain ⟨f1,f2,f3⟩:=RBk.at (re:=#[]) KB.out (k:=i) (by rw [HRl.out];omega)
  go_upto_region 6 with fail
  refine eK (k:=i) KB.out rfl (by rw [HRl.out];omega) ?_;intro y6 T;clear f1 f2 f3 hc1 hc2 hc3;replace HX:=Hi (T.ext HX.out zo);replace PC:=Hi (PC.out.keep T.keep);replace KB:=Hi (T.bx);replace G4:=Hi (G4.out.keep T.keep);have hs_y6:=nle T.size;have hr_y6:=nle T.size.symm;clear T
  try clear f_KB l_KB
  have f_KB:=af KB.out;have l_KB:=(nXb.1 KB.out).1;replace PC:=Hi (PC.out.snoc (x:=x4) (i:=i) HTl.out (by rw [HRl.out];omega) G4.out);have HMp:Hid ((q.take i).map (fun x=>-x)++[-(q.getD i 0)]=(q.take (i+1)).map (fun x=>-x)):=Hi (by rw [←cO (by rw [Hm.out];omega),List.map_append];rfl);rw [HMp.out] at PC;go_wp2
  go_roundg (gk-1)
  case measure=>omega
  case rel=>exact ⟨i+1,_,zo,by go_num,HX.out,KB.out,by rw [nXo];exact HRl.out,PC.out⟩
theorem El(q:Rat):cG q 0=Sg.sg q:=by
 unfold cG Sg.sg;rfl
theorem CE{a b:Rat}(hb:0<b):cG a 0=cG (a / b) 0:=by
 have h1:a=a / b*b:=(cQ (fun h=>by rw [h] at hb;exact absurd hb Rat.lt_irrefl)).symm;have hb2:=Rat.le_of_lt hb;unfold cG;by_cases hz:a=0
 ·subst hz;rw [show (0:Rat) / b=0 by rw [Rat.div_def,nYb]]
 ·have hz2:a / b≠0:=fun h=>hz (by rw [h1,h,nYb])
  rw [if_neg hz,if_neg hz2];by_cases hn:a<0
  ·rw [if_pos hn,if_pos];by_cases h:a / b<0
   ·exact h
   ·have h0:0<a / b:=by grind
    have:=Rat.mul_pos h0 hb;rw [←h1] at this;grind
  ·rw [if_neg hn,if_neg];intro h;have h2:0 < -(a / b):=by grind
   have:=Rat.mul_pos h2 hb;have h3:-(a / b)*b=-a:=by rw [Rat.neg_mul,←h1]
   rw [h3] at this;exact hn (by grind)
theorem Cl(x:Rat)(i:Nat):0<ehP x i:=by
 unfold ehP;exact Rat.pow_pos (rP x)
theorem iW(ao:Option Addr)(n c:Nat)(a:List Rat)(t:RH)(x:Rat)(S T:Nat)(w:World)(h:bg w ⟨ao,n,c⟩ a)(ht:aA w t x)(hn:n≤1000)(hwa:∀ y ∈ a,Wz S y)(hx:Sz T x)(hT:1≤T)(hS:1≤S)(hS3:S≤30000000)(hT4:T≤500000)(hT3:T*n≤1000000) :
  ar 78 [.slice ao n c,t.v] w (fun _:Unit=>.int .i64 (Sg.sg (evV a x))) (fun _ _=>True):=by
 have LA:=Hi h.lin;have HT:=Hi ht;have HX:=Hi (Ext.refl w);have WA:=Hi hwa;have ZX:=Hi hx;have HPl:=Hi h.len;simp only at HPl;obtain ⟨tn,ta,tl,tc,tb,tm,td⟩:=t;clear h ht hwa hx;obtain ⟨P,hP⟩:∃ P,P=n:=⟨_,rfl⟩;rw [←hP] at LA HPl hn hT3 ⊢;clear hP;have ZA:Hid (SzL S a):=Hi (fun y hy=>(WA.out y hy).sz hS);have hP1:=LA.out.can.le;have hP2:=LA.out.can.max;simp only at hP1 hP2;unfold ar;go_enter Tryz.func78,Tryz.ntmps78
 go_upto_region 1 with fail
 refine nmA ?_;intro w1 hE B3 hz_w1 hr_w1;refine mV3 hE ?_ LA HT HX;clear LA HT HX;intro LA HT HX;have hs_w1:=hE.size;replace b_B3:=bX3 B3
 go_wp2_with fail
 refine cM (jw ⟨tn,ta,tl,tc,tb,tm,td⟩ x _ HT.out) fun x6 w6 hE G6=>?_
 refine mV4 hE ?_ B3 LA HT HX;clear B3 LA HT HX;intro B3 LA HT HX;have hs_w6:=hE.size;replace b_B3:=bX3 B3;obtain ⟨xn,xd⟩:=x6;have HN:=Hi G6.out.1;have HD:=Hi G6.out.2;clear G6;simp only [PT] at *
 go_upto_region 2 with fail
 refine eX ?_;intro w7 hE B7 B8 hz_w7 hr_w7;refine mV6 hE ?_ B3 LA HT HX HN HD;clear B3 LA HT HX HN HD;intro B3 LA HT HX HN HD;have hs_w7:=hE.size;replace b_B3:=bX3 B3;replace b_B7:=bX3 B7;replace b_B8:=bX3 B8;obtain ⟨b7,hb7⟩:∃ b7,b7=w6.heap.size:=⟨_,rfl⟩;obtain ⟨b8,hb8⟩:∃ b8,b8=w6.heap.size+1:=⟨_,rfl⟩;have hb7w:b7<w7.heap.size:=zo;have hb8w:b8<w7.heap.size:=zo;rw [←hb8] at B8 ⊢;rw [←hb7] at B7 ⊢;clear hb7 hb8;have LA7:=LA;have HN7:=HN;have HD7:=HD;have B77:=B7;have B87:=B8;have HX0:=HX;have HX7:=Hi (Ext.refl w7);have hw7:w.heap.size≤w7.heap.size:=zo;clear LA;clear HN;clear HD;clear HT
 (try clear b_B3);clear B3
 (try clear b_B7);clear B7
 (try clear b_B8);clear B8
 clear HX
 go_wp2_with fail
 refine cM (bO 0 _ dZ dZ) fun x8 w8 hE G8=>?_
 replace HX7:=hE.tr HX7;have hs_w8:=hE.size
 go_wp2_with fail
 refine cM (bO 1 _ dZ dZ) fun x9 w9 hE G9=>?_
 refine mV2 hE ?_ G8 HX7;clear G8 HX7;intro G8 HX7;have hs_w9:=hE.size
 go_upto_region 3 with fail
 refine eX ?_;intro w10 hE B9 B10 hz_w10 hr_w10;refine mV3 hE ?_ G9 G8 HX7;clear G9 G8 HX7;intro G9 G8 HX7;have hs_w10:=hE.size;replace b_B9:=bX3 B9;replace b_B10:=bX3 B10;have HS0:Hid (aA w10 x8 (ehS a x 0)):=Hi (by unfold ehS;rw [if_pos rfl];exact G8.out);have HP0:Hid (aA w10 x9 (ehP x 0)):=Hi (by unfold ehP;rw [Nat.zero_sub,Rat.pow_zero];exact G9.out);obtain ⟨b9,hb9⟩:∃ b9,b9=w9.heap.size:=⟨_,rfl⟩;obtain ⟨b10,hb10⟩:∃ b10,b10=w9.heap.size+1:=⟨_,rfl⟩;have hw9:w7.heap.size≤b9:=zo;have hw10:w7.heap.size≤b10:=zo;have h910:b9≠b10:=zo;rw [←hb10] at B10 ⊢;rw [←hb9] at B9 ⊢;clear hb9 hb10 b_B9 b_B10;go_wp2
 go_loopg [19] P (fun g v wr=>∃ (i:Nat) (u y:RH),i+g=P∧v=.int .i64 (i:Nat)∧Ext w7 wr∧wr.heap[b9]?=some (.cells #[.bool u.neg,.slice u.a u.n u.c,.slice u.b u.m u.d] 37 (0,0))∧wr.heap[b10]?=some (.cells #[.bool y.neg,.slice y.a y.n y.c,.slice y.b y.m y.d] 37 (0,0))∧aA wr u (ehS a x i)∧aA wr y (ehP x i))
 case atStart=>exact ⟨0,x8,x9,zo,rfl,HX7.out,B9.out,B10.out,HS0.out,HP0.out⟩
 case round =>
  obtain ⟨i,⟨un,ua,ul,uc,ub,um,ud⟩,⟨yn,ya,yl,yc,yb,ym,yd⟩,hi,rfl,g1,g2,g3,g4,g5⟩:=hrel;clear HX7 B9 B10 HS0 HP0 G8 G9;have HX7:=Hi g1;have B9:=Hi g2;have B10:=Hi g3;have HU:=Hi g4;have HY:=Hi g5;have hw7r:=g1.size;clear g1 g2 g3 g4 g5;have hTi:T*i≤1000000:=nXf (nXg T (show i≤P by omega)) hT3;have hTi2:(T+1)*i=T*i+i:=nXz T i;have hTi3:T*(i+1)=T*i+T:=Nat.mul_succ T i;have ZU:Hid (Sz 32000000 (ehS a x i)):=Hi (((D5 WA.out ZX.out i (by rw [HPl.out];omega)).mono zo).sz dZ);have ZY:Hid (Sz 2000000 (ehP x i)):=Hi (((vW ZX.out).mono zo).sz dZ);replace b_B9:=bX3 B9;replace b_B10:=bX3 B10;by_cases h0:gk=0
  case pos =>
   subst h0;obtain rfl:i=P:=by omega
   have hin:¬ (i:Int)<i:=zo;have HXw:=Hi (HX0.out.trans HX7.out);have HE:Hid (cG (ehS a x i) 0=Sg.sg (evV a x)):=Hi (by have:=D4 a x;rw [HPl.out] at this;rw [CE (Cl x i),this,El])
   go_wp2_with fail
   refine cM (dV ⟨un,ua,ul,uc,ub,um,ud⟩ (ehS a x i) _ (HU.out.raw ZU.out zo)) fun x20 w20 hE _=>?_
   refine mV6 hE ?_ HX7 B9 B10 HU HY HXw;clear HX7 B9 B10 HU HY HXw;intro HX7 B9 B10 HU HY HXw;have hs_w20:=hE.size;replace b_B9:=bX3 B9;replace b_B10:=bX3 B10;rw [HE.out];go_wp2
   go_ret
   exact ⟨(),rfl,HXw.out,trivial⟩
  have hin:(i:Int)<P:=zo;have B7:=Hi (HX7.out.block B77.out);have B8:=Hi (HX7.out.block B87.out);replace b_B9:=bX3 B9;replace b_B10:=bX3 B10;replace b_B7:=bX3 B7;replace b_B8:=bX3 B8;obtain ⟨k,hk⟩:∃ k,k=P-1-i:=⟨_,rfl⟩;have hkP:k<P:=zo;have hki:(P:Int)-1-i=k:=by omega
  have HST:Hid (ehS a x i*(x.num:Rat)+a.getD k 0*ehP x (i+1)=ehS a x (i+1)):=Hi (by rw [hk,←HPl.out];exact vV x (by rw [HPl.out];omega));have ZY1:Hid (Sz 2003000 (ehP x (i+1))):=Hi (((vW ZX.out).mono zo).sz dZ);have ZK:Hid (Sz S (a.getD k 0)):=Hi (ZA.out.at (by rw [HPl.out];exact hkP));clear hk;by_cases hi0:i=0
  case pos =>
   subst hi0;have hk0:(P:Int)-1=k:=by omega
   clear hki;have HY1:Hid (aA wr ⟨yn,ya,yl,yc,yb,ym,yd⟩ (ehP x (0+1))):=HY;clear HY;obtain ⟨ba,oa,r,hao,hbl,⟨hc1,hc2,hc3⟩,hPc⟩:=(LA7.out.ext HX7.out).celx (k:=k) hkP;obtain ⟨rneg,ra,rn,rc,rb,rm,rd⟩:=r;simp only at hc1 hc2 hc3;have HC:=Hi hPc;clear hPc;subst hao
   go_upto_region 8 with fail
   refine wpG 14 (fun opIx=>match opIx with
    | 2=>sR (ehS a x 0*(x.num:Rat))
    | 12=>sR (a.getD k 0*ehP x (0+1))
    | 13=>sR (ehS a x 0*(x.num:Rat)+a.getD k 0*ehP x (0+1))
    | _=>.quiet) (fun|13=>[2,12]|_=>[]) fun w0 he0 hz0 hc0 hf0=>?_
   refine wps he0 (fun w1 hW hG=>?_) fun x30=>?_
   ·exact spc [RH.v ⟨un,ua,ul,uc,ub,um,ud⟩,xn.v] Tryz.func108 (aK _ xn _ _ _ ((HU.out.ext hW).raw ZU.out zo) (((HN7.out.ext HX7.out).ext hW).raw (rh ZX.out hT) zo))
   refine qZ ?_;refine wps he0 (fun w1 hW hG=>?_) fun x31=>?_
   ·exact spc [RH.v ⟨rneg,ra,rn,rc,rb,rm,rd⟩,RH.v ⟨yn,ya,yl,yc,yb,ym,yd⟩] Tryz.func108 (aK _ _ _ _ _ ((HC.out.ext hW).raw ZK.out zo) ((HY1.out.ext hW).raw ZY1.out zo))
   refine qZ ?_;refine wps he0 (fun w1 hW hG=>?_) fun x32=>?_
   ·have g30:=gS (hG 2 dZ);have g31:=gS (hG 12 dZ);exact spc [x30.v,x31.v] Tryz.func104 (dw x30 x31 _ _ _ (g30.raw (ZU.out.mul (rh ZX.out hT)) zo) (g31.raw (ZK.out.mul ZY1.out) zo))
   refine qZ ?_;refine aq ?_;intro w14 hI;have hE:=he0.out.trans hI.ext;have G30:=gT (hI.facts 2);have G31:=gT (hI.facts 12);have G32:=gT (hI.facts 13);clear hI he0 hz0 hc0 hf0;refine mV8 hE ?_ B9 B10 B7 B8 HU HX7 HC HY1;clear B9 B10 B7 B8 HU HX7 HC HY1;intro B9 B10 B7 B8 HU HX7 HC HY1;have hs_w14:=hE.size;replace b_B9:=bX3 B9;replace b_B10:=bX3 B10;replace b_B7:=bX3 B7;replace b_B8:=bX3 B8;simp only [pD];clear hc1 hc2 hc3;rw [HST.out] at G32
   go_upto_region 9 with fail
   refine aN B9.out rfl ?_;intro w15 T;replace HX7:=Hi (T.ext HX7.out zo);replace HU:=Hi (HU.out.keep T.keep);replace B9:=Hi (T.bx);replace B10:=Hi (T.rest _ _ zo B10.out);replace B7:=Hi (T.rest _ _ zo B7.out);replace B8:=Hi (T.rest _ _ zo B8.out);replace HY1:=Hi (HY1.out.keep T.keep);replace HC:=Hi (HC.out.keep T.keep);replace G30:=Hi (G30.out.keep T.keep);replace G31:=Hi (G31.out.keep T.keep);replace G32:=Hi (G32.out.keep T.keep);have hs_w15:=nle T.size;have hr_w15:=nle T.size.symm;clear T;replace b_B9:=bX3 B9;replace b_B10:=bX3 B10;replace b_B7:=bX3 B7;replace b_B8:=bX3 B8;go_wp2
   go_roundg (gk-1)
   case measure=>omega
   case rel=>exact ⟨0+1,x32,⟨yn,ya,yl,yc,yb,ym,yd⟩,zo,by go_num,HX7.out,B9.out,B10.out,G32.out,HY1.out⟩
  have hi0':(0:Int)<i:=zo
  go_wp2_with fail
  refine cM (aK ⟨yn,ya,yl,yc,yb,ym,yd⟩ xd (ehP x i) ((x.den:Int):Rat) _ (HY.out.raw ZY.out zo) ((HD7.out.ext HX7.out).raw (Ea ZX.out hT) zo)) fun x11 w11 hE G11=>?_
  refine mV7 hE ?_ HY HX7 HU B9 B10 B7 B8;clear HY HX7 HU B9 B10 B7 B8;intro HY HX7 HU B9 B10 B7 B8;have hs_w11:=hE.size;replace b_B9:=bX3 B9;replace b_B10:=bX3 B10;replace b_B7:=bX3 B7;replace b_B8:=bX3 B8
  go_upto_region 8 with fail
  refine aN B10.out rfl ?_;intro w12 T;replace HX7:=Hi (T.ext HX7.out zo);replace HU:=Hi (HU.out.keep T.keep);replace HY:=Hi (HY.out.keep T.keep);replace B9:=Hi (T.rest _ _ zo B9.out);replace B10:=Hi (T.bx);replace B7:=Hi (T.rest _ _ zo B7.out);replace B8:=Hi (T.rest _ _ zo B8.out);replace G11:=Hi (G11.out.keep T.keep);have hs_w12:=nle T.size;have hr_w12:=nle T.size.symm;clear T;replace b_B9:=bX3 B9;replace b_B10:=bX3 B10;replace b_B7:=bX3 B7;replace b_B8:=bX3 B8;have HY1:Hid (aA w12 x11 (ehP x (i+1))):=Hi (by rw [←zk x zo];exact G11.out);obtain ⟨zn,za,zl,zc,zb,zm,zd⟩:=x11;clear HY;clear G11;obtain ⟨ba,oa,r,hao,hbl,⟨hc1,hc2,hc3⟩,hPc⟩:=(LA7.out.ext HX7.out).celx (k:=k) hkP;obtain ⟨rneg,ra,rn,rc,rb,rm,rd⟩:=r;simp only at hc1 hc2 hc3;have HC:=Hi hPc;clear hPc;subst hao
  go_upto_region 8 with fail
  refine wpG 14 (fun opIx=>match opIx with
   | 2=>sR (ehS a x i*(x.num:Rat))
   | 12=>sR (a.getD k 0*ehP x (i+1))
   | 13=>sR (ehS a x i*(x.num:Rat)+a.getD k 0*ehP x (i+1))
   | _=>.quiet) (fun|13=>[2,12]|_=>[]) fun w0 he0 hz0 hc0 hf0=>?_
  refine wps he0 (fun w1 hW hG=>?_) fun x30=>?_
  ·exact spc [RH.v ⟨un,ua,ul,uc,ub,um,ud⟩,xn.v] Tryz.func108 (aK _ xn _ _ _ ((HU.out.ext hW).raw ZU.out zo) (((HN7.out.ext HX7.out).ext hW).raw (rh ZX.out hT) zo))
  refine qZ ?_;refine wps he0 (fun w1 hW hG=>?_) fun x31=>?_
  ·exact spc [RH.v ⟨rneg,ra,rn,rc,rb,rm,rd⟩,RH.v ⟨zn,za,zl,zc,zb,zm,zd⟩] Tryz.func108 (aK _ _ _ _ _ ((HC.out.ext hW).raw ZK.out zo) ((HY1.out.ext hW).raw ZY1.out zo))
  refine qZ ?_;refine wps he0 (fun w1 hW hG=>?_) fun x32=>?_
  ·have g30:=gS (hG 2 dZ);have g31:=gS (hG 12 dZ);exact spc [x30.v,x31.v] Tryz.func104 (dw x30 x31 _ _ _ (g30.raw (ZU.out.mul (rh ZX.out hT)) zo) (g31.raw (ZK.out.mul ZY1.out) zo))
  refine qZ ?_;refine aq ?_;intro w14 hI;have hE:=he0.out.trans hI.ext;have G30:=gT (hI.facts 2);have G31:=gT (hI.facts 12);have G32:=gT (hI.facts 13);clear hI he0 hz0 hc0 hf0;refine mV8 hE ?_ B9 B10 B7 B8 HU HX7 HC HY1;clear B9 B10 B7 B8 HU HX7 HC HY1;intro B9 B10 B7 B8 HU HX7 HC HY1;have hs_w14:=hE.size;replace b_B9:=bX3 B9;replace b_B10:=bX3 B10;replace b_B7:=bX3 B7;replace b_B8:=bX3 B8;simp only [pD];clear hc1 hc2 hc3;rw [HST.out] at G32
  go_upto_region 9 with fail
  refine aN B9.out rfl ?_;intro w15 T;replace HX7:=Hi (T.ext HX7.out zo);replace HU:=Hi (HU.out.keep T.keep);replace B9:=Hi (T.bx);replace B10:=Hi (T.rest _ _ zo B10.out);replace B7:=Hi (T.rest _ _ zo B7.out);replace B8:=Hi (T.rest _ _ zo B8.out);replace HY1:=Hi (HY1.out.keep T.keep);replace HC:=Hi (HC.out.keep T.keep);replace G30:=Hi (G30.out.keep T.keep);replace G31:=Hi (G31.out.keep T.keep);replace G32:=Hi (G32.out.keep T.keep);have hs_w15:=nle T.size;have hr_w15:=nle T.size.symm;clear T;replace b_B9:=bX3 B9;replace b_B10:=bX3 B10;replace b_B7:=bX3 B7;replace b_B8:=bX3 B8;go_wp2
  go_roundg (gk-1)
  case measure=>omega
  case rel=>exact ⟨i+1,x32,⟨zn,za,zl,zc,zb,zm,zd⟩,zo,by go_num,HX7.out,B9.out,B10.out,G32.out,HY1.out⟩
theorem kj(ao:Option Addr)(n c:Nat)(a:List Rat)(t:RH)(x:Rat)(S T:Nat)(w:World)(h:bg w ⟨ao,n,c⟩ a)(ht:aA w t x)(hn:n≤1000)(hwa:∀ y ∈ a,Wz S y)(hx:Sz T x)(hT:1≤T)(hS:1≤S)(hS3:S≤30000000)(hT3:T≤1000) :
  ar 78 [.slice ao n c,t.v] w (fun _:Unit=>.int .i64 (Sg.sg (evV a x))) (fun _ _=>True) :=
 iW ao n c a t x S T w h ht hn hwa hx hT hS hS3 zo (nXy hT3 hn)
open Sg
abbrev Cu(l:List Rat)(i:Nat):Rat:=l.getD (i+1) 0*(((i+1:Nat):Int):Rat)
theorem zA(l:List Rat){m:Nat}(h:l.length=m+1):tz ((List.range m).map (Cu l))=tz (derL l):=by
 apply C4;intro i;have h2:=gM l i;unfold seq at h2;rw [h2];by_cases hi:i<m
 ·rw [nXd,nXw,List.getElem?_range hi];show l.getD (i+1) 0*(((i+1:Nat):Int):Rat)=_;rw [Rat.intCast_natCast,nYd]
 ·rw [nXd,List.getElem?_eq_none (by simp;omega)];rw [nXd,List.getElem?_eq_none zo];show (0:Rat)=_*(0:Rat);rw [nYc]
theorem i9(ao:Option Addr)(n cap:Nat)(l:List Rat)(w:World)(h:cN w ⟨ao,n,cap⟩ l)(hn:n≤1000000)(hz:SzL 16777216 l) :
  ar 136 [.slice ao n cap] w SH.v (fun s w'=>ct w.heap.size w' s (tz (derL l))):=by
 obtain ⟨i0,hi0,hz0,hz1,hz2⟩:=info_parts ii;have H:=Hi h;have HX:=Hi (Ext.refl w);have hle:=h.le;have hmx:=h.max;have Hlen:=Hi h.len;simp only at hle hmx Hlen;have HZ:=Hi hz;clear h hz;unfold ar;go_enter Tryz.func136,Tryz.ntmps136;by_cases h0:n=0
 ·subst h0;have HV:Hid (tz (derL l)=[]):=Hi (by rw [nXj.1 Hlen.out];rfl);go_wp2
  go_ret
  exact ⟨⟨none,0,0⟩,rfl,HX.out,by rw [HV.out];exact ct.nil _ _⟩
 obtain ⟨m,rfl⟩:∃ m,n=m+1:=⟨n-1,zo⟩;clear h0;have hz0':((m:Int)+1 == 0)=false:=by rw [nXs];omega
 go_upto_region 4 with (refine aB rfl (.tmp 10) (.tmp 10) 24 rfl 37 i0 (RH.v default) 3 Tryz.underlying24 hi0 hz0 hz1 _ _ m rfl rfl zo zo (by rw [hz2];omega) zo ?_;intro w2 hnew hE)
 have KB:=Hi (RBk.make rfl hnew);clear hnew;replace HX:=hE.tr HX;have hs_w2:=hE.size;obtain ⟨L,hL⟩:∃ L,L=w.heap.size:=⟨_,rfl⟩;have hLw:w.heap.size≤L:=zo;rw [←hL] at KB ⊢;clear hL;go_wp2
 go_loopg [14] m (fun g v wr=>∃ (i:Nat) (rs:List RH),i+g=m∧v=.int .i64 (i:Nat)∧Ext w wr∧RBk wr L rs #[]∧rs.length=m∧iq wr rs ((List.range i).map (Cu l)))
 case atStart=>exact ⟨0,_,zo,rfl,HX.out,KB.out,by simp,fun j hj=>by simp at hj⟩
 case round =>
  obtain ⟨i,rs,hi,rfl,g1,g4,g5,g6⟩:=hrel;clear HX KB;have HX:=Hi g1;have KB:=Hi g4;have HRl:=Hi g5;have PC:=Hi g6;clear g1 g4 g5 g6;have HTl:Hid (((List.range i).map (Cu l)).length=i):=Hi (by simp)
  try clear f_KB l_KB
  have f_KB:=af KB.out;have l_KB:=(nXb.1 KB.out).1;by_cases h0:gk=0
  ·subst h0;obtain rfl:i=m:=by omega
   have hin:¬ (i:Int)<i:=zo;obtain ⟨ts,hts⟩:∃ ts,ts=(List.range i).map (Cu l):=⟨_,rfl⟩;have HV:Hid (tz ts=tz (derL l)):=Hi (by rw [hts];exact zA l Hlen.out);have HSz:Hid (SzL 33554432 ts):=Hi (by
    intro q hq;rw [hts] at hq;obtain ⟨k,hk,rfl⟩:=nYg.1 hq;have hk:=List.mem_range.1 hk;have h1:Sz 16777216 (l.getD (k+1) 0):=HZ.out.at (by rw [Hlen.out];omega);exact (h1.mul (Sz.int (z:=((k+1:Nat):Int)) (by rw [nYi];show _<4294967296;omega))).mono dZ)
   rw [←hts] at PC HTl;clear hts;have LL:Hid (ct w.heap.size wr ⟨some ⟨L,0,none⟩,i,i⟩ ts):=Hi (iq.list PC.out KB.out HRl.out HTl.out hLw zo);clear KB;clear PC
   go_wp2_with fail
   refine cM (dS (some ⟨L,0,none⟩) i i ts _ (LL.out.can.raw HSz.out dZ)) fun x1 w1 hE G1=>?_
   refine mV2 hE ?_ HX LL;clear HX LL;intro HX LL;have hs_w1:=hE.size;obtain ⟨q1,q2⟩:=G1.out;have HQ1:=Hi q1;have HQ2:=Hi q2;clear q1 q2 G1;go_wp2
   go_ret
   refine ⟨⟨some ⟨L,0,none⟩,(tz ts).length,i⟩,rfl,HX.out,?_⟩;have:=LIn.take LL.out HQ2.out;rw [←HQ1.out] at this;rw [←HV.out];exact this
  ·have hin:(i:Int)<m:=zo;have hin1:(i:Int)+1<(m:Int)+1:=zo;obtain ⟨b,off,r,hao,hbl,⟨hc1,hc2,hc3⟩,hP⟩:=(H.out.ext HX.out).cells' (k:=i+1) zo;obtain ⟨rneg,ra,rn,rc,rb,rm,rd⟩:=r;simp only at hc1 hc2 hc3;subst hao;have RP:=Hi hP;clear hP;have HMp:Hid ((List.range i).map (Cu l)++[l.getD (i+1) 0*(((i+1:Nat):Int):Rat)]=(List.range (i+1)).map (Cu l)):=Hi (eI (Cu l) i).symm
   go_upto_region 7 with fail
   refine wpG 11 (fun opIx=>match opIx with
    | 9=>sR ((((i+1:Nat):Int):Rat))
    | 10=>sR (l.getD (i+1) 0*(((i+1:Nat):Int):Rat))
    | _=>.quiet) (fun|10=>[9]|_=>[]) fun w0 he0 hz0 hc0 hf0=>?_
   refine wps he0 (fun w1 hW hG=>?_) fun x9=>?_
   ·exact spc [.int .i64 ((i+1:Nat):Int)] Tryz.func63 (bO ((i+1:Nat):Int) _ zo zo)
   refine qZ ?_;refine wps he0 (fun w1 hW hG=>?_) fun x10=>?_
   ·have g9:=gS (hG 9 dZ);exact spc [RH.v ⟨rneg,ra,rn,rc,rb,rm,rd⟩,x9.v] Tryz.func108 (aK _ _ _ _ _ (RP.out.ext hW) (g9.raw (Sz.int (by rw [nYi];show _<4294967296;omega)) dZ))
   refine qZ ?_;refine aq ?_;intro w5 hI;have hE:=he0.out.trans hI.ext;have G9:=gT (hI.facts 9);have G10:=gT (hI.facts 10);clear hI he0 hz0 hc0 hf0;refine mV3 hE ?_ KB PC HX;clear KB PC HX;intro KB PC HX;have hs_w5:=hE.size
   try clear f_KB l_KB
   have f_KB:=af KB.out;have l_KB:=(nXb.1 KB.out).1;simp only [pD];obtain ⟨f1,f2,f3⟩:=RBk.at (re:=#[]) KB.out (k:=i) (by rw [HRl.out];omega)
   go_upto_region 8 with fail
   refine eK (k:=i) KB.out rfl (by rw [HRl.out];omega) ?_;intro y6 T;clear f1 f2 f3 hc1 hc2 hc3;replace HX:=Hi (T.ext HX.out zo);replace PC:=Hi (PC.out.keep T.keep);replace KB:=Hi (T.bx);replace G9:=Hi (G9.out.keep T.keep);replace G10:=Hi (G10.out.keep T.keep);have hs_y6:=nle T.size;have hr_y6:=nle T.size.symm;clear T
   try clear f_KB l_KB
   have f_KB:=af KB.out;have l_KB:=(nXb.1 KB.out).1;replace PC:=Hi (PC.out.snoc (x:=x10) (i:=i) HTl.out (by rw [HRl.out];omega) G10.out);rw [HMp.out] at PC;go_wp2
   go_roundg (gk-1)
   case measure=>omega
   case rel=>exact ⟨i+1,_,zo,by go_num,HX.out,KB.out,by rw [nXo];exact HRl.out,PC.out⟩
end Go.Proofs.YtkcpmclnocmalaaGreat
