/- Neg of package rational; Add, Sub of package poly. -/
import Derived.Test.YtohahgiidooijaaGreatQDK7
import Derived.Test.YtohahgiidooijaaGreatQDK2
set_option linter.unusedVariables false
set_option maxHeartbeats 8000000
set_option maxRecDepth 8000
namespace Go.Proofs.YtohahgiidooijaaGreat
open Go.RowKit Go.Front Go.Num Stab
attribute [local go_sem] XW.cell XW.frozen
theorem yz(s:RH)(q:Rat)(w:World)(h:bp w s q):au 124 [s.v] w RH.v (fun r w'=>ay w' r (-q)):=by
 have HR:=Hi h;have HX:=Hi (Ext.refl w);obtain ⟨neg,ao,n,c,bo,m,d⟩:=s;clear h;unfold au;go_enter Tryz.func124,Tryz.ntmps124
 go_upto_region 1 with fail
 refine jV ?_;intro w1 hE B1 B2 hz_w1 hr_w1;replace HX:=hE.tr HX;have hs_w1:=hE.size;clear hE;replace b_B1:=bX3 B1;replace b_B2:=bX3 B2
 go_wp2_with fail
 refine cM (rW ⟨neg,ao,n,c,bo,m,d⟩ _) fun x1 w1 hE _=>?_
 refine mV3 hE ?_ B1 B2 HX;clear B1 B2 HX;intro B1 B2 HX;have hs_w1:=hE.size;clear hE;replace b_B1:=bX3 B1;replace b_B2:=bX3 B2
 go_wp2_with fail
 refine cM (fy ⟨!neg,ao,n,c,bo,m,d⟩ _ _ (HR.out.neg.ext HX.out)) fun x2 w2 hE G2=>?_
 refine mV3 hE ?_ B1 B2 HX;clear B1 B2 HX;intro B1 B2 HX;have hs_w2:=hE.size;clear hE;replace b_B1:=bX3 B1;replace b_B2:=bX3 B2;go_wp2;have hF:=((((Fin.start (L:=w.heap.size+1) HX.out (ak B2.out rfl)).set (by omega) (i:=0) (v:=.bool x2.neg) rfl).set (by omega) (i:=1) (v:=.slice x2.a x2.n x2.c) rfl).set (by omega) (i:=2) (v:=.slice x2.b x2.m x2.d) rfl);exact bodyPost_ret (v:=x2.v) (by simp [results,Tryz.results124,go_sem,ae B2.out]) rfl ⟨x2,rfl,hF.ext,G2.out.keep hF.keep⟩
theorem BB(ao bo:Option Addr)(n c m d:Nat)(p q:List Rat)(w:World)(h:bX w ⟨ao,n,c⟩ p)(k:bX w ⟨bo,m,d⟩ q)(hmn:m≤n)(hn:n≤1000000)(hz:SzL 33554432 p)(kz:SzL 33554432 q) :
  au 125 [.slice ao n c,.slice bo m d] w SH.v (fun s w'=>bj w.heap.size w' s (aS p q)):=by
 obtain ⟨i0,hi0,hz0,hz1,hz2⟩:=info_parts fk;have H:=Hi h;have K:=Hi k;have HX:=Hi (Ext.refl w);have hle:=h.le;have hmx:=h.max;have kle:=k.le;have kmx:=k.max;have Hn:=Hi h.len;have Hm:=Hi k.len;simp only at hle hmx kle kmx Hn Hm;have HZ:=Hi hz;have KZ:=Hi kz;have hlt:¬ (n:Int)<m:=by omega
 clear h k hz kz;unfold au;go_enter Tryz.func125,Tryz.ntmps125
 go_upto_region 4 with (refine aA rfl (.tmp 15) (.tmp 15) 41 rfl 30 i0 (RH.v default) 3 Tryz.underlying41 hi0 hz0 hz1 _ _ n rfl rfl (by omega) (by omega) (by rw [hz2];omega) (by omega) ?_;intro w2 hnew hE)
 have KB:=Hi (RBk.make rfl hnew);clear hnew;replace HX:=hE.tr HX;have hs_w2:=hE.size;clear hE;obtain ⟨L,hL⟩:∃ L,L=w.heap.size:=⟨_,rfl⟩;have hLw:w.heap.size≤L:=by omega
 rw [←hL] at KB ⊢;clear hL;go_wp2
 go_loopg [19] n (fun g v wr=>∃ (i:Nat) (rs:List RH),i+g=n∧v=.int .i64 (i:Nat)∧Ext w wr∧RBk wr L rs #[]∧rs.length=n∧fo wr rs ((List.range i).map (fun i=>p.getD i 0+q.getD i 0)))
 case atStart=>exact ⟨0,_,by omega,rfl,HX.out,KB.out,by simp,fun j hj=>by simp at hj⟩
 case round =>
  obtain ⟨i,rs,hi,rfl,g1,g4,g5,g6⟩:=hrel;clear HX KB;have HX:=Hi g1;have KB:=Hi g4;have HRl:=Hi g5;have PC:=Hi g6;clear g1 g4 g5 g6;have HTl:Hid (((List.range i).map (fun i=>p.getD i 0+q.getD i 0)).length=i):=Hi (by simp)
  try clear f_KB l_KB
  have f_KB:=ab KB.out;have l_KB:=(nXa.1 KB.out).1;by_cases h0:gk=0
  case pos =>
   subst h0;obtain rfl:i=n:=by omega
   have hin:¬ (i:Int)<i:=by omega
   have HV:Hid (aS p q=tz ((List.range i).map (fun i=>p.getD i 0+q.getD i 0))):=Hi (by unfold aS;rw [Hn.out,Hm.out,show max i m=i by omega]);obtain ⟨ts,hts⟩:∃ ts,ts=(List.range i).map (fun i=>p.getD i 0+q.getD i 0):=⟨_,rfl⟩;have HSz:Hid (SzL 67108865 ts):=Hi (by
    intro x hx;rw [hts] at hx;obtain ⟨y,hy,rfl⟩:=nYe.1 hx;exact ((HZ.out.getD (by decide) y).add (KZ.out.getD (by decide) y)).mono (by decide))
   rw [←hts] at PC HTl HV;clear hts;have LL:Hid (bj w.heap.size wr ⟨some ⟨L,0,none⟩,i,i⟩ ts):=Hi (fo.list PC.out KB.out HRl.out HTl.out hLw (by omega));clear KB;clear PC
   go_wp2_with fail
   refine cM (eo (some ⟨L,0,none⟩) i i ts _ (LL.out.can.raw HSz.out (by decide))) fun x1 w1 hE G1=>?_
   refine mV2 hE ?_ HX LL;clear HX LL;intro HX LL;have hs_w1:=hE.size;clear hE;obtain ⟨q1,q2⟩:=G1.out;have HQ1:=Hi q1;have HQ2:=Hi q2;clear q1 q2 G1;go_wp2
   go_ret
   refine ⟨⟨some ⟨L,0,none⟩,(tz ts).length,i⟩,rfl,HX.out,?_⟩;have:=LIn.take LL.out HQ2.out;rw [←HQ1.out] at this;rw [HV.out];exact this
  have hin:(i:Int)<n:=by omega
  obtain ⟨b,off,r,hao,hbl,⟨hc1,hc2,hc3⟩,hP⟩:=(H.out.ext HX.out).cells' (k:=i) (by omega);obtain ⟨rneg,ra,rn,rc,rb,rm,rd⟩:=r;simp only at hc1 hc2 hc3;subst hao;have RP:=Hi hP;clear hP;have HMp:Hid ((List.range i).map (fun i=>p.getD i 0+q.getD i 0)++[p.getD i 0+q.getD i 0]=(List.range (i+1)).map (fun i=>p.getD i 0+q.getD i 0)):=Hi (bg (fun i=>p.getD i 0+q.getD i 0) i).symm;by_cases hm1:i<m
  case pos =>
   have him:(i:Int)<m:=by omega
   obtain ⟨b',off',r',hbo,hbl',⟨kc1,kc2,kc3⟩,hQ⟩:=(K.out.ext HX.out).cells' (k:=i) (by omega);obtain ⟨sneg,sa,sn,sc,sb,sm,sd⟩:=r';simp only at kc1 kc2 kc3;subst hbo;have RQ:=Hi hQ;clear hQ
   go_upto_region 8 with fail
   refine wpG 12 (fun opIx=>match opIx with
    | 10=>.spec RH default RH.v (fun s w'=>ay w' s (p.getD i 0+q.getD i 0))
    | _=>.quiet) (fun _=>[]) fun w0 he0 hz0 hc0 hf0=>?_
   refine wps he0.out rfl rfl (fun w1 hW hG=>?_) fun x10=>?_
   ·exact spc [RH.v ⟨rneg,ra,rn,rc,rb,rm,rd⟩,RH.v ⟨sneg,sa,sn,sc,sb,sm,sd⟩] Tryz.func102 (dp _ _ _ _ _ (RP.out.ext hW) (RQ.out.ext hW))
   refine qZ ?_;refine aq ?_;intro w5 hI;have hE:=he0.out.trans hI.ext;have G10:=gT (hI.facts 10);clear hI he0 hz0 hc0 hf0;refine mV3 hE ?_ KB PC HX;clear KB PC HX;intro KB PC HX;have hs_w5:=hE.size;clear hE
   try clear f_KB l_KB
   have f_KB:=ab KB.out;have l_KB:=(nXa.1 KB.out).1;simp only [pD];obtain ⟨f1,f2,f3⟩:=RBk.at (re:=#[]) KB.out (k:=i) (by rw [HRl.out];omega)
   go_upto_region 10 with fail
   refine cl (k:=i) KB.out rfl (by rw [HRl.out];omega) ?_;intro y6 T;clear f1 f2 f3 hc1 hc2 hc3 kc1 kc2 kc3;replace HX:=Hi (T.ext HX.out (by omega));replace PC:=Hi (PC.out.keep T.keep);replace KB:=Hi (T.bx);replace G10:=Hi (G10.out.keep T.keep);have hs_y6:=nle T.size;have hr_y6:=nle T.size.symm;clear T
   try clear f_KB l_KB
   have f_KB:=ab KB.out;have l_KB:=(nXa.1 KB.out).1;replace PC:=Hi (PC.out.snoc (x:=x10) (i:=i) HTl.out (by rw [HRl.out];omega) G10.out);rw [HMp.out] at PC;go_wp2
   go_roundg (gk-1)
   case measure=>omega
   case rel=>exact ⟨i+1,_,by omega,by go_num,HX.out,KB.out,by rw [nXn];exact HRl.out,PC.out⟩
  have him:¬ (i:Int)<m:=by omega
  have HQ0:Hid (p.getD i 0+q.getD i 0=p.getD i 0):=Hi (by rw [aG (l:=q) (by rw [Hm.out];omega)];exact Rat.add_zero _)
  go_wp2_with fail
  refine cM (fy ⟨rneg,ra,rn,rc,rb,rm,rd⟩ (p.getD i 0) _ RP.out) fun x4 w4 hE G4=>?_
  refine mV3 hE ?_ HX KB PC;clear HX KB PC;intro HX KB PC;have hs_w4:=hE.size;clear hE
  try clear f_KB l_KB
  have f_KB:=ab KB.out;have l_KB:=(nXa.1 KB.out).1;obtain ⟨f1,f2,f3⟩:=RBk.at (re:=#[]) KB.out (k:=i) (by rw [HRl.out];omega)
  go_upto_region 10 with fail
  refine cl (k:=i) KB.out rfl (by rw [HRl.out];omega) ?_;intro y6 T;clear f1 f2 f3 hc1 hc2 hc3;replace HX:=Hi (T.ext HX.out (by omega));replace PC:=Hi (PC.out.keep T.keep);replace KB:=Hi (T.bx);replace G4:=Hi (G4.out.keep T.keep);have hs_y6:=nle T.size;have hr_y6:=nle T.size.symm;clear T
  try clear f_KB l_KB
  have f_KB:=ab KB.out;have l_KB:=(nXa.1 KB.out).1;replace PC:=Hi (PC.out.snoc (x:=x4) (q:=p.getD i 0+q.getD i 0) (i:=i) HTl.out (by rw [HRl.out];omega) (by rw [HQ0.out];exact G4.out));rw [HMp.out] at PC;go_wp2
  go_roundg (gk-1)
  case measure=>omega
  case rel=>exact ⟨i+1,_,by omega,by go_num,HX.out,KB.out,by rw [nXn];exact HRl.out,PC.out⟩
theorem BA(ao bo:Option Addr)(n c m d:Nat)(p q:List Rat)(w:World)(h:bX w ⟨ao,n,c⟩ p)(k:bX w ⟨bo,m,d⟩ q)(hmn:m<n)(hn:n≤1000000)(hz:SzL 33554432 p)(kz:SzL 33554432 q) :
  au 125 [.slice bo m d,.slice ao n c] w SH.v (fun s w'=>bj w.heap.size w' s (aS q p)):=by
 obtain ⟨i0,hi0,hz0,hz1,hz2⟩:=info_parts fk;have H:=Hi h;have K:=Hi k;have HX:=Hi (Ext.refl w);have hle:=h.le;have hmx:=h.max;have kle:=k.le;have kmx:=k.max;have Hn:=Hi h.len;have Hm:=Hi k.len;simp only at hle hmx kle kmx Hn Hm;have HZ:=Hi hz;have KZ:=Hi kz;have hlt:(m:Int)<n:=by omega
 clear h k hz kz;unfold au;go_enter Tryz.func125,Tryz.ntmps125
 go_upto_region 4 with (refine aA rfl (.tmp 15) (.tmp 15) 41 rfl 30 i0 (RH.v default) 3 Tryz.underlying41 hi0 hz0 hz1 _ _ n rfl rfl (by omega) (by omega) (by rw [hz2];omega) (by omega) ?_;intro w2 hnew hE)
 have KB:=Hi (RBk.make rfl hnew);clear hnew;replace HX:=hE.tr HX;have hs_w2:=hE.size;clear hE;obtain ⟨L,hL⟩:∃ L,L=w.heap.size:=⟨_,rfl⟩;have hLw:w.heap.size≤L:=by omega
 rw [←hL] at KB ⊢;clear hL;go_wp2
 go_loopg [19] n (fun g v wr=>∃ (i:Nat) (rs:List RH),i+g=n∧v=.int .i64 (i:Nat)∧Ext w wr∧RBk wr L rs #[]∧rs.length=n∧fo wr rs ((List.range i).map (fun i=>p.getD i 0+q.getD i 0)))
 case atStart=>exact ⟨0,_,by omega,rfl,HX.out,KB.out,by simp,fun j hj=>by simp at hj⟩
 case round =>
  obtain ⟨i,rs,hi,rfl,g1,g4,g5,g6⟩:=hrel;clear HX KB;have HX:=Hi g1;have KB:=Hi g4;have HRl:=Hi g5;have PC:=Hi g6;clear g1 g4 g5 g6;have HTl:Hid (((List.range i).map (fun i=>p.getD i 0+q.getD i 0)).length=i):=Hi (by simp)
  try clear f_KB l_KB
  have f_KB:=ab KB.out;have l_KB:=(nXa.1 KB.out).1;by_cases h0:gk=0
  case pos =>
   subst h0;obtain rfl:i=n:=by omega
   have hin:¬ (i:Int)<i:=by omega
   have HV:Hid (aS q p=tz ((List.range i).map (fun i=>p.getD i 0+q.getD i 0))):=Hi (by unfold aS;rw [Hn.out,Hm.out,show max m i=i by omega];congr 2;funext j;exact Rat.add_comm _ _);obtain ⟨ts,hts⟩:∃ ts,ts=(List.range i).map (fun i=>p.getD i 0+q.getD i 0):=⟨_,rfl⟩;have HSz:Hid (SzL 67108865 ts):=Hi (by
    intro x hx;rw [hts] at hx;obtain ⟨y,hy,rfl⟩:=nYe.1 hx;exact ((HZ.out.getD (by decide) y).add (KZ.out.getD (by decide) y)).mono (by decide))
   rw [←hts] at PC HTl HV;clear hts;have LL:Hid (bj w.heap.size wr ⟨some ⟨L,0,none⟩,i,i⟩ ts):=Hi (fo.list PC.out KB.out HRl.out HTl.out hLw (by omega));clear KB;clear PC
   go_wp2_with fail
   refine cM (eo (some ⟨L,0,none⟩) i i ts _ (LL.out.can.raw HSz.out (by decide))) fun x1 w1 hE G1=>?_
   refine mV2 hE ?_ HX LL;clear HX LL;intro HX LL;have hs_w1:=hE.size;clear hE;obtain ⟨q1,q2⟩:=G1.out;have HQ1:=Hi q1;have HQ2:=Hi q2;clear q1 q2 G1;go_wp2
   go_ret
   refine ⟨⟨some ⟨L,0,none⟩,(tz ts).length,i⟩,rfl,HX.out,?_⟩;have:=LIn.take LL.out HQ2.out;rw [←HQ1.out] at this;rw [HV.out];exact this
  have hin:(i:Int)<n:=by omega
  obtain ⟨b,off,r,hao,hbl,⟨hc1,hc2,hc3⟩,hP⟩:=(H.out.ext HX.out).cells' (k:=i) (by omega);obtain ⟨rneg,ra,rn,rc,rb,rm,rd⟩:=r;simp only at hc1 hc2 hc3;subst hao;have RP:=Hi hP;clear hP;have HMp:Hid ((List.range i).map (fun i=>p.getD i 0+q.getD i 0)++[p.getD i 0+q.getD i 0]=(List.range (i+1)).map (fun i=>p.getD i 0+q.getD i 0)):=Hi (bg (fun i=>p.getD i 0+q.getD i 0) i).symm;by_cases hm1:i<m
  case pos =>
   have him:(i:Int)<m:=by omega
   obtain ⟨b',off',r',hbo,hbl',⟨kc1,kc2,kc3⟩,hQ⟩:=(K.out.ext HX.out).cells' (k:=i) (by omega);obtain ⟨sneg,sa,sn,sc,sb,sm,sd⟩:=r';simp only at kc1 kc2 kc3;subst hbo;have RQ:=Hi hQ;clear hQ
   go_upto_region 8 with fail
   refine wpG 12 (fun opIx=>match opIx with
    | 10=>.spec RH default RH.v (fun s w'=>ay w' s (p.getD i 0+q.getD i 0))
    | _=>.quiet) (fun _=>[]) fun w0 he0 hz0 hc0 hf0=>?_
   refine wps he0.out rfl rfl (fun w1 hW hG=>?_) fun x10=>?_
   ·exact spc [RH.v ⟨rneg,ra,rn,rc,rb,rm,rd⟩,RH.v ⟨sneg,sa,sn,sc,sb,sm,sd⟩] Tryz.func102 (dp _ _ _ _ _ (RP.out.ext hW) (RQ.out.ext hW))
   refine qZ ?_;refine aq ?_;intro w5 hI;have hE:=he0.out.trans hI.ext;have G10:=gT (hI.facts 10);clear hI he0 hz0 hc0 hf0;refine mV3 hE ?_ KB PC HX;clear KB PC HX;intro KB PC HX;have hs_w5:=hE.size;clear hE
   try clear f_KB l_KB
   have f_KB:=ab KB.out;have l_KB:=(nXa.1 KB.out).1;simp only [pD];obtain ⟨f1,f2,f3⟩:=RBk.at (re:=#[]) KB.out (k:=i) (by rw [HRl.out];omega)
   go_upto_region 10 with fail
   refine cl (k:=i) KB.out rfl (by rw [HRl.out];omega) ?_;intro y6 T;clear f1 f2 f3 hc1 hc2 hc3 kc1 kc2 kc3;replace HX:=Hi (T.ext HX.out (by omega));replace PC:=Hi (PC.out.keep T.keep);replace KB:=Hi (T.bx);replace G10:=Hi (G10.out.keep T.keep);have hs_y6:=nle T.size;have hr_y6:=nle T.size.symm;clear T
   try clear f_KB l_KB
   have f_KB:=ab KB.out;have l_KB:=(nXa.1 KB.out).1;replace PC:=Hi (PC.out.snoc (x:=x10) (i:=i) HTl.out (by rw [HRl.out];omega) G10.out);rw [HMp.out] at PC;go_wp2
   go_roundg (gk-1)
   case measure=>omega
   case rel=>exact ⟨i+1,_,by omega,by go_num,HX.out,KB.out,by rw [nXn];exact HRl.out,PC.out⟩
  have him:¬ (i:Int)<m:=by omega
  have HQ0:Hid (p.getD i 0+q.getD i 0=p.getD i 0):=Hi (by rw [aG (l:=q) (by rw [Hm.out];omega)];exact Rat.add_zero _)
  go_wp2_with fail
  refine cM (fy ⟨rneg,ra,rn,rc,rb,rm,rd⟩ (p.getD i 0) _ RP.out) fun x4 w4 hE G4=>?_
  refine mV3 hE ?_ HX KB PC;clear HX KB PC;intro HX KB PC;have hs_w4:=hE.size;clear hE
  try clear f_KB l_KB
  have f_KB:=ab KB.out;have l_KB:=(nXa.1 KB.out).1;obtain ⟨f1,f2,f3⟩:=RBk.at (re:=#[]) KB.out (k:=i) (by rw [HRl.out];omega)
  go_upto_region 10 with fail
  refine cl (k:=i) KB.out rfl (by rw [HRl.out];omega) ?_;intro y6 T;clear f1 f2 f3 hc1 hc2 hc3;replace HX:=Hi (T.ext HX.out (by omega));replace PC:=Hi (PC.out.keep T.keep);replace KB:=Hi (T.bx);replace G4:=Hi (G4.out.keep T.keep);have hs_y6:=nle T.size;have hr_y6:=nle T.size.symm;clear T
  try clear f_KB l_KB
  have f_KB:=ab KB.out;have l_KB:=(nXa.1 KB.out).1;replace PC:=Hi (PC.out.snoc (x:=x4) (q:=p.getD i 0+q.getD i 0) (i:=i) HTl.out (by rw [HRl.out];omega) (by rw [HQ0.out];exact G4.out));rw [HMp.out] at PC;go_wp2
  go_roundg (gk-1)
  case measure=>omega
  case rel=>exact ⟨i+1,_,by omega,by go_num,HX.out,KB.out,by rw [nXn];exact HRl.out,PC.out⟩
theorem yL(ao bo:Option Addr)(n c m d:Nat)(p q:List Rat)(w:World)(h:bX w ⟨ao,n,c⟩ p)(k:bX w ⟨bo,m,d⟩ q)(hn:n≤1000000)(hm:m≤1000000)(hz:SzL 33554432 p)(kz:SzL 33554432 q) :
  au 125 [.slice ao n c,.slice bo m d] w SH.v (fun s w'=>bj w.heap.size w' s (aS p q)):=by
 rcases Nat.lt_or_ge n m with h1|h1
 ·exact BA bo ao m d n c q p w k h h1 hm kz hz
 ·exact BB ao bo n c m d p q w h k h1 hn hz kz
def subV(p q:List Rat):List Rat:=aS p (q.map (fun x=>-x))
theorem yE(ao bo:Option Addr)(n c m d:Nat)(p q:List Rat)(w:World)(h:bX w ⟨ao,n,c⟩ p)(k:bX w ⟨bo,m,d⟩ q)(hn:n≤1000000)(hm:m≤1000000)(hz:SzL 33554432 p)(kz:SzL 33554432 q) :
  au 70 [.slice ao n c,.slice bo m d] w SH.v (fun s w'=>bj w.heap.size w' s (subV p q)):=by
 obtain ⟨i0,hi0,hz0,hz1,hz2⟩:=info_parts fk;have H:=Hi h;have K:=Hi k;have HX:=Hi (Ext.refl w);have kle:=k.le;have kmx:=k.max;have Hm:=Hi k.len;simp only at kle kmx Hm;have HZ:=Hi hz;have KZ:=Hi kz;clear h k hz kz;unfold au;go_enter Tryz.func70,Tryz.ntmps70
 go_upto_region 2 with (refine aA rfl (.tmp 8) (.tmp 8) 41 rfl 30 i0 (RH.v default) 3 Tryz.underlying41 hi0 hz0 hz1 _ _ m rfl rfl (by omega) (by omega) (by rw [hz2];omega) (by omega) ?_;intro w2 hnew hE)
 have KB:=Hi (RBk.make rfl hnew);clear hnew;replace HX:=hE.tr HX;have hs_w2:=hE.size;clear hE;obtain ⟨L,hL⟩:∃ L,L=w.heap.size:=⟨_,rfl⟩;have hLw:w.heap.size≤L:=by omega
 rw [←hL] at KB ⊢;clear hL;go_wp2
 go_loopg [12] m (fun g v wr=>∃ (i:Nat) (rs:List RH),i+g=m∧v=.int .i64 (i:Nat)∧Ext w wr∧RBk wr L rs #[]∧rs.length=m∧fo wr rs ((q.take i).map (fun x=>-x)))
 case atStart=>exact ⟨0,_,by omega,rfl,HX.out,KB.out,by simp,fun j hj=>by simp at hj⟩
 case round =>
  obtain ⟨i,rs,hi,rfl,g1,g4,g5,g6⟩:=hrel;clear HX KB;have HX:=Hi g1;have KB:=Hi g4;have HRl:=Hi g5;have PC:=Hi g6;clear g1 g4 g5 g6;have HTl:Hid (((q.take i).map (fun x=>-x)).length=i):=Hi (by rw [nXk,nXj,Hm.out];omega)
  try clear f_KB l_KB
  have f_KB:=ab KB.out;have l_KB:=(nXa.1 KB.out).1;by_cases h0:gk=0
  case pos =>
   subst h0;obtain rfl:i=m:=by omega
   have hin:¬ (i:Int)<i:=by omega
   have HE:Hid (q.take i=q):=Hi (nXl (by rw [Hm.out];exact nXd _));rw [HE.out] at PC HTl;obtain ⟨ts,hts⟩:∃ ts,ts=q.map (fun x=>-x):=⟨_,rfl⟩;have HSz:Hid (SzL 33554432 ts):=Hi (by
    intro x hx;rw [hts] at hx;obtain ⟨y,hy,rfl⟩:=nYe.1 hx;exact (KZ.out y hy).neg)
   have HV:Hid (subV p q=aS p ts):=Hi (by rw [hts];rfl);rw [←hts] at PC HTl;clear hts;have LL:Hid (bj w.heap.size wr ⟨some ⟨L,0,none⟩,i,i⟩ ts):=Hi (fo.list PC.out KB.out HRl.out HTl.out hLw (by omega));clear KB;clear PC
   go_wp2_with fail
   refine cM (yL ao (some ⟨L,0,none⟩) n c i i p ts _ (H.out.ext HX.out) (LL.out.can.raw HSz.out (by decide)) hn hm HZ.out HSz.out) fun x1 w1 hE G1=>?_
   refine mV2 hE ?_ HX LL;clear HX LL;intro HX LL;have hs_w1:=hE.size;clear hE;go_wp2
   go_ret
   exact ⟨x1,rfl,HX.out,by rw [HV.out];exact G1.out.mono (by omega)⟩
  have hin:(i:Int)<m:=by omega
  obtain ⟨b,off,r,hao,hbl,⟨hc1,hc2,hc3⟩,hP⟩:=(K.out.ext HX.out).cells' (k:=i) (by omega);obtain ⟨rneg,ra,rn,rc,rb,rm,rd⟩:=r;simp only at hc1 hc2 hc3;subst hao;have RP:=Hi hP;clear hP
  go_wp2_with fail
  refine cM (yz ⟨rneg,ra,rn,rc,rb,rm,rd⟩ (q.getD i 0) _ RP.out) fun x4 w4 hE G4=>?_
  refine mV3 hE ?_ KB PC HX;clear KB PC HX;intro KB PC HX;have hs_w4:=hE.size;clear hE
  try clear f_KB l_KB
  have f_KB:=ab KB.out;have l_KB:=(nXa.1 KB.out).1;obtain ⟨f1,f2,f3⟩:=RBk.at (re:=#[]) KB.out (k:=i) (by rw [HRl.out];omega)
  go_upto_region 6 with fail
  refine cl (k:=i) KB.out rfl (by rw [HRl.out];omega) ?_;intro y6 T;clear f1 f2 f3 hc1 hc2 hc3;replace HX:=Hi (T.ext HX.out (by omega));replace PC:=Hi (PC.out.keep T.keep);replace KB:=Hi (T.bx);replace G4:=Hi (G4.out.keep T.keep);have hs_y6:=nle T.size;have hr_y6:=nle T.size.symm;clear T
  try clear f_KB l_KB
  have f_KB:=ab KB.out;have l_KB:=(nXa.1 KB.out).1;replace PC:=Hi (PC.out.snoc (x:=x4) (i:=i) HTl.out (by rw [HRl.out];omega) G4.out);have HMp:Hid ((q.take i).map (fun x=>-x)++[-(q.getD i 0)]=(q.take (i+1)).map (fun x=>-x)):=Hi (by rw [←cQ (by rw [Hm.out];omega),List.map_append];rfl);rw [HMp.out] at PC;go_wp2
  go_roundg (gk-1)
  case measure=>omega
  case rel=>exact ⟨i+1,_,by omega,by go_num,HX.out,KB.out,by rw [nXn];exact HRl.out,PC.out⟩
theorem Ao{S U:Nat}{a b:List Rat}(ha:∀ x ∈ a,Wz S x)(hb:∀ x ∈ b,Wz U x)(hl:a.length≤W32){i k:Nat}(hi:i≤a.length)(n:Nat):Wz (S+U+2) (pmS a b i k n):=by
 have ga:∀ i,Wz S (a.getD i 0):=fun i=>(FrL.at (D:=1) (fun x hx=>Fr.one (ha x hx)) i).wz
 have gb:∀ i,Wz U (b.getD i 0):=fun i=>(FrL.at (D:=1) (fun x hx=>Fr.one (hb x hx)) i).wz
 unfold pmS;refine Wz.add (S:=S+U+1) (Wz.sm (fun j _=>(ga j).mul ?_) (by omega)) ?_
 ·unfold shn;split
  ·exact gb _
  ·exact Wz.zero _
 ·split
  ·exact ((ga _).mul (gb _)).mono (by omega)
  ·exact Wz.zero _
theorem BJ{p q:List Rat}{P Q:Nat}(hP:(aB p).length=P)(hQ:(aB q).length=Q):tz (((List.range (P+Q-1)).map (ap (aB p) (seq (aB q)))).map (·*(aO p*aO q)))=ag p q:=by
 unfold ag;rw [←hP,←hQ,aE,aE,List.map_map]
 congr 2
 funext i
 show ap (aB p) (seq (aB q)) i*(aO p*aO q)=ap (tz p) (seq (tz q)) i;have e1:seq p=fun n=>aO p*seq (aB p) n:=funext (cL p)
 have e2:seq q=fun n=>aO q*seq (aB q) n:=funext (cL q)
 rw [cK,cK,aW,aW,e1,e2,dZ,qi];grind
theorem uI(ao bo:Option Addr)(n c m d:Nat)(p q:List Rat)(S U D E:Nat)(w:World)(h:bX w ⟨ao,n,c⟩ p)(k:bX w ⟨bo,m,d⟩ q)(hn:n≤1000)(hm:m≤1000)
 (hS:1≤S)(hU:1≤U)(hD:0<D)(hD2:D<W32 ^ S)(hE:0<E)(hE2:E<W32 ^ U)(hp:FrL S D p)(hq:FrL U E q)(hSU:S+U≤8000000) :
  au 66 [.slice ao n c,.slice bo m d] w SH.v (fun s w'=>bj w.heap.size w' s (ag p q)):=by
 have H:=Hi h;have K:=Hi k;have HX:=Hi (Ext.refl w);have HPF:=Hi hp;have HQF:=Hi hq;have hn2:(tz p).length≤n:=by have:=h.len;have h2:=af p;simp only at this;omega
 have hm2:(tz q).length≤m:=by have:=k.len;have h2:=af q;simp only at this;omega
 clear h k hp hq;unfold au;go_enter Tryz.func66,Tryz.ntmps66
 go_wp2_with fail
 refine cM (gL ao n c p S D _ (H.out.ext HX.out) (by omega) hS (by omega) hD hD2 HPF.out) fun x1 w1 hE G1=>?_
 replace HX:=hE.tr HX;have hs_w1:=hE.size;clear hE;obtain ⟨xs,xa⟩:=x1;have HXS:=Hi G1.out.1;have HXA:=Hi G1.out.2;clear G1;simp only [MT] at *
 go_upto_region 2 with fail
 refine nmA ?_;intro w2 hE B5 hz_w2 hr_w2;refine mV3 hE ?_ HX HXS HXA;clear HX HXS HXA;intro HX HXS HXA;have hs_w2:=hE.size;clear hE;replace b_B5:=bX3 B5
 go_wp2_with fail
 refine cM (gL bo m d q U E _ (K.out.ext HX.out) (by omega) hU (by omega) hE hE2 HQF.out) fun x3 w3 hE G3=>?_
 refine mV4 hE ?_ B5 HX HXS HXA;clear B5 HX HXS HXA;intro B5 HX HXS HXA;have hs_w3:=hE.size;clear hE;replace b_B5:=bX3 B5;obtain ⟨ys,ya⟩:=x3;have HYS:=Hi G3.out.1;have HYA:=Hi G3.out.2;clear G3;simp only [MT] at *
 go_upto_region 3 with fail
 refine nmA ?_;intro w4 hE B7 hz_w4 hr_w4;refine mV6 hE ?_ B5 HX HXS HXA HYS HYA;clear B5 HX HXS HXA HYS HYA;intro B5 HX HXS HXA HYS HYA;have hs_w4:=hE.size;clear hE;replace b_B5:=bX3 B5;replace b_B7:=bX3 B7;obtain ⟨La,hLa,rfl,hra⟩:=HXA.out;obtain ⟨Lb,hLb,rfl,hrb⟩:=HYA.out;obtain ⟨P,hP⟩:∃ P,(aB p).length=P:=⟨_,rfl⟩;obtain ⟨Q,hQ⟩:∃ Q,(aB q).length=Q:=⟨_,rfl⟩;have hPn:P≤n:=by rw [←hP,aE];exact hn2
 have hQm:Q≤m:=by rw [←hQ,aE];exact hm2
 rw [hP,hQ];have LA:=Hi (hra.can hP (nXd _) (by omega));have LB:=Hi (hrb.can hQ (nXd _) (by omega));have WA:Hid (∀ x ∈ aB p,Wz S x):=Hi (dC (fun x hx=>HPF.out.tz x hx) hD);have WB:Hid (∀ x ∈ aB q,Wz U x):=Hi (dC (fun x hx=>HQF.out.tz x hx) hE);have ZS:Hid (Sz S (aO p)):=Hi ((fP (fun x hx=>HPF.out.tz x hx)).sz hS hD hD2);have ZT:Hid (Sz U (aO q)):=Hi ((fP (fun x hx=>HQF.out.tz x hx)).sz hU hE hE2);have HV:Hid (ag p q=tz (((List.range (P+Q-1)).map (ap (aB p) (seq (aB q)))).map (·*(aO p*aO q)))):=Hi (BJ hP hQ).symm;obtain ⟨a,ha⟩:∃ a,a=aB p:=⟨_,rfl⟩;obtain ⟨b,hb⟩:∃ b,b=aB q:=⟨_,rfl⟩;have HN1:Hid (P=0∨Q=0→ag p q=[]):=Hi (fun h=>m8 (by
  rcases h with h|h
  ·left;rw [h,aE] at hP;exact nXi.1 hP
  ·right;rw [h,aE] at hQ;exact nXi.1 hQ))
 rw [←ha] at LA WA HV hP;rw [←hb] at LB WB HV hQ;have HPl:=Hi hP;have HQl:=Hi hQ;clear hra hrb hLa hLb ha hb hP hQ HPF HQF;clear HXA;clear HYA;by_cases hP0:P=0
 case pos =>
  subst hP0;have hv:ag p q=[]:=HN1.out (Or.inl rfl);go_wp2
  go_ret
  exact ⟨⟨none,0,0⟩,rfl,HX.out,bj.nil _ _⟩
 have hPb:((P:Int) == 0)=false:=by rw [nXr];omega
 by_cases hQ0:Q=0
 case pos =>
  subst hQ0;have hv:ag p q=[]:=HN1.out (Or.inr rfl);go_wp2
  go_ret
  exact ⟨⟨none,0,0⟩,rfl,HX.out,bj.nil _ _⟩
 have hQb:((Q:Int) == 0)=false:=by rw [nXr];omega
 obtain ⟨M,hM⟩:∃ M,P+Q=M+1:=⟨P+Q-1,by omega⟩;rw [show P+Q-1=M by omega] at HV;have hMi:(P:Int)+Q-1=M:=by omega
 obtain ⟨b5,hb5⟩:∃ b5,b5=w1.heap.size:=⟨_,rfl⟩;obtain ⟨b7,hb7⟩:∃ b7,b7=w3.heap.size:=⟨_,rfl⟩;rw [←hb5] at B5 ⊢;rw [←hb7] at B7 ⊢;have hw4:w.heap.size≤w4.heap.size:=by omega
 clear hb5 hb7 b_B5 b_B7;obtain ⟨aa,haa⟩:∃ aa,aa=some (⟨La,0,none⟩:Addr):=⟨_,rfl⟩;obtain ⟨bb,hbb⟩:∃ bb,bb=some (⟨Lb,0,none⟩:Addr):=⟨_,rfl⟩;rw [←haa] at LA ⊢;rw [←hbb] at LB ⊢;have LA4:=LA;have LB4:=LB;have XS4:=HXS;have YS4:=HYS;have B54:=B5;have B74:=B7;have HX0:=HX;have HX4:=Hi (Ext.refl w4);simp only [SH.v];clear haa hbb;clear LA;clear LB;clear HXS;clear HYS
 (try clear b_B5);clear B5
 (try clear b_B7);clear B7
 clear HX
 go_wp2_with fail
 refine cM (nK M _ (by omega)) fun x5 w5 hE G5=>?_
 replace HX4:=hE.tr HX4;have hs_w5:=hE.size;clear hE;obtain ⟨L,hL,rfl,hrl⟩:=G5.out;have HL:Hid (cj w5 L (List.replicate M 0)):=Hi hrl;have hL4:w4.heap.size≤L:=hL;clear G5 hrl hL;rw [nXv];simp only [SH.v];go_wp2
 go_loopg [41] P (fun g v wr=>∃ (i:Nat) (os:List Rat),i+g=P∧v=.int .i64 (i:Nat)∧Ext w4 wr∧cj wr L os∧os.length=M∧∀ n,n<M→os.getD n 0=pmS a b i 0 n)
 case atStart=>exact ⟨0,_,by omega,rfl,HX4.out,HL.out,by simp,fun n hn=>by rw [rD];simp [hn]⟩
 case round =>
  obtain ⟨i,os,hi,rfl,g1,g2,g3,g4⟩:=hrel;clear HX4 HL;have HX4:=Hi g1;have HL:=Hi g2;have HOl:=Hi g3;have HOv:=Hi g4;have hLlt:=g2.lt;have hw4r:=g1.size;clear g1 g2 g3 g4;by_cases h0:gk=0
  case pos =>
   subst h0;obtain rfl:i=P:=by omega
   have hin:¬ (i:Int)<i:=by omega
   have HXw:=Hi (HX0.out.trans HX4.out);have B5:=Hi (HX4.out.block B54.out);have B7:=Hi (HX4.out.block B74.out);have HOe:Hid (os=(List.range M).map (ap a (seq b))):=Hi (DW HOl.out (fun n hn=>by rw [HOv.out n hn,←HPl.out,uJ]));have HSz:Hid (SzL 8000002 os):=Hi (fun x hx=>by
    obtain ⟨n,hn,rfl⟩:=dr hx;rw [HOv.out n (by rw [←HOl.out];exact hn)];exact ((Ao WA.out WB.out (by rw [HPl.out];exact nXe (by omega) (show 1000≤W32 by decide)) (by rw [HPl.out];exact nXd _) n).mono (by omega)).sz (by decide))
   replace b_B5:=bX3 B5;replace b_B7:=bX3 B7
   go_wp2_with fail
   refine cM (aY xs ys (aO p) (aO q) _ ((XS4.out.ext HX4.out).raw ZS.out (by omega)) ((YS4.out.ext HX4.out).raw ZT.out (by omega))) fun x20 w20 hE G20=>?_
   refine mV5 hE ?_ HX4 HL HXw B5 B7;clear HX4 HL HXw B5 B7;intro HX4 HL HXw B5 B7;have hs_w20:=hE.size;clear hE;replace b_B5:=bX3 B5;replace b_B7:=bX3 B7
   go_wp2_with fail
   refine cM (c9 (some ⟨L,0,none⟩) M M os x20 (aO p*aO q) _ ((HL.out.can HOl.out (nXd _) (by omega)).raw HSz.out (by decide)) (G20.out.raw (ZS.out.mul ZT.out) (by omega)) (by omega) (HSz.out.mono (by decide)) ((ZS.out.mul ZT.out).mono (by omega))) fun x21 w21 hE G21=>?_
   refine mV6 hE ?_ G20 HX4 HL HXw B5 B7;clear G20 HX4 HL HXw B5 B7;intro G20 HX4 HL HXw B5 B7;have hs_w21:=hE.size;clear hE;replace b_B5:=bX3 B5;replace b_B7:=bX3 B7;go_wp2
   go_ret
   exact ⟨x21,rfl,HXw.out,by rw [HV.out,←HOe.out];exact G21.out.mono (by omega)⟩
  obtain ⟨g0,rfl⟩:∃ g0,gk=g0+1:=⟨gk-1,by omega⟩;have hin:(i:Int)<P:=by omega
  obtain ⟨ba,oa,r,hao,hbl,⟨hc1,hc2,hc3⟩,hPc⟩:=(LA4.out.ext HX4.out).celx (k:=i) (by omega);obtain ⟨rneg,ra,rn,rc,rb,rm,rd⟩:=r;simp only at hc1 hc2 hc3;have HC:=Hi hPc;clear hPc h0;subst hao
  go_upto_region 9 with fail
  clear hc1 hc2 hc3;refine nmA ?_;intro y8 hE B11 hz_y8 hr_y8;refine mV3 hE ?_ HX4 HL HC;clear HX4 HL HC;intro HX4 HL HC;have hs_y8:=hE.size;clear hE;replace b_B11:=bX3 B11;obtain ⟨b11,hb11⟩:∃ b11,b11=wr.heap.size:=⟨_,rfl⟩;have hbL:b11≠L:=by omega
  have hb4:w4.heap.size≤b11:=by omega
  rw [←hb11] at B11 ⊢;clear hb11 b_B11 hbl;go_wp2
  go_loopg [48] Q (fun g v wr=>∃ (k:Nat) (os:List Rat),k+g=Q∧v=.int .i64 (k:Nat)∧Ext w4 wr∧cj wr L os∧os.length=M∧(∀ n,n<M→os.getD n 0=pmS a b i k n)∧ay wr ⟨rneg,ra,rn,rc,rb,rm,rd⟩ (a.getD i 0)∧wr.heap[b11]?=some (.cells #[.bool rneg,.slice ra rn rc,.slice rb rm rd] 30 (0,0)))
  case atStart=>exact ⟨0,os,by omega,rfl,HX4.out,HL.out,HOl.out,HOv.out,HC.out,B11.out⟩
  case round =>
   obtain ⟨k,os,hk,rfl,g1,g2,g3,g4,g5,g6⟩:=hrel;clear HX4 HL HOl HOv HC B11;have HX4:=Hi g1;have HL:=Hi g2;have HOl:=Hi g3;have HOv:=Hi g4;have HC:=Hi g5;have B11:=Hi g6;have hLlt:=g2.lt;have hw4r:=g1.size;clear g1 g2 g3 g4 g5 g6;replace b_B11:=bX3 B11;by_cases h1:gk=0
   case pos =>
    subst h1;obtain rfl:k=Q:=by omega
    have hkn:¬ (k:Int)<k:=by omega
    go_wp2
    go_roundg g0
    case measure=>omega
    case rel=>exact ⟨i+1,os,by omega,by go_num,HX4.out,HL.out,HOl.out,fun n hn=>by rw [rE HQl.out];exact HOv.out n hn⟩
   have hkQ:(k:Int)<Q:=by omega
   obtain ⟨bb',ob,s,hbo,hbl,⟨kc1,kc2,kc3⟩,hQc⟩:=(LB4.out.ext HX4.out).celx (k:=k) (by omega);obtain ⟨sneg,sa,sn,sc,sb,sm',sd⟩:=s;simp only at kc1 kc2 kc3;have HD':=Hi hQc;clear hQc h1;subst hbo
   go_upto_region 12 with fail
   clear kc1 kc2 kc3;refine nmA ?_;intro y11 hE B13 hz_y11 hr_y11;refine mV5 hE ?_ HD' HX4 HL HC B11;clear HD' HX4 HL HC B11;intro HD' HX4 HL HC B11;have hs_y11:=hE.size;clear hE;replace b_B11:=bX3 B11;replace b_B13:=bX3 B13;obtain ⟨b13,hb13⟩:∃ b13,b13=wr.heap.size:=⟨_,rfl⟩;have hb13L:b13≠L:=by omega
   have hb134:w4.heap.size≤b13:=by omega
   rw [←hb13] at B13 ⊢;clear hb13 b_B13 hbl;replace b_B11:=bX3 B11;replace b_B13:=bX3 B13;obtain ⟨j,hj⟩:∃ j,j=i+k:=⟨_,rfl⟩;have hjM:j<M:=by omega
   have hji:(i:Int)+k=j:=by omega
   obtain ⟨v,hv⟩:∃ v,v=os.getD j 0:=⟨_,rfl⟩;have Hv:=Hi hv;have Hj:=Hi hj;have hlW:a.length≤W32:=by rw [HPl.out];exact nXe (by omega) (show 1000≤W32 by decide)
   have ZO:Hid (Sz (S+U+2) v):=Hi (by rw [hv,HOv.out j hjM];exact (Ao WA.out WB.out hlW (by rw [HPl.out];omega) j).sz (by omega));have ZP:Hid (Sz S (a.getD i 0)):=Hi ((WA.out _ (eP (by rw [HPl.out];omega))).sz hS);have ZQ:Hid (Sz U (b.getD k 0)):=Hi ((WB.out _ (eP (by rw [HQl.out];omega))).sz hU);obtain ⟨ro,⟨f1,f2,f3⟩,hro⟩:=cj.cells HL.out (k:=j) (by rw [HOl.out];exact hjM);rw [←hv] at hro;have RO:=Hi hro;have hfz:=cj.frozen HL.out;have hLl:=cj.lt HL.out;obtain ⟨on,oa',ol,oc,ob',om,od⟩:=ro;simp only at f1 f2 f3;clear hj hv hro
   go_upto_region 12 with fail
   refine wpG 15 (fun opIx=>match opIx with
    | 12=>.spec RH default RH.v (fun s w'=>ay w' s (a.getD i 0*b.getD k 0))
    | 13=>.spec RH default RH.v (fun s w'=>ay w' s (v+a.getD i 0*b.getD k 0))
    | _=>.quiet) (fun|13=>[12]|_=>[]) fun w0 he0 hz0 hc0 hf0=>?_
   refine wps he0.out rfl rfl (fun w1 hW hG=>?_) fun x20=>?_
   ·exact spc [RH.v ⟨rneg,ra,rn,rc,rb,rm,rd⟩,RH.v ⟨sneg,sa,sn,sc,sb,sm',sd⟩] Tryz.func100 (aY _ _ _ _ _ ((HC.out.ext hW).raw ZP.out (by omega)) ((HD'.out.ext hW).raw ZQ.out (by omega)))
   refine qZ ?_;refine wps he0.out rfl rfl (fun w1 hW hG=>?_) fun x21=>?_
   ·have g20:=(hG 12 (by decide):aD _ _).get fun _ e g=>g.ext e
    exact spc [RH.v ⟨on,oa',ol,oc,ob',om,od⟩,x20.v] Tryz.func102 (dp _ x20 _ _ _ ((RO.out.ext hW).raw ZO.out (by omega)) (g20.raw (ZP.out.mul ZQ.out) (by omega)))
   refine qZ ?_;refine aq ?_;intro w12 hI;have hE:=he0.out.trans hI.ext;have G20:=gT (hI.facts 12);have G21:=gT (hI.facts 13);clear hI he0 hz0 hc0 hf0;refine mV7 hE ?_ B13 HX4 HL B11 HC HD' RO;clear B13 HX4 HL B11 HC HD' RO;intro B13 HX4 HL B11 HC HD' RO;have hs_w12:=hE.size;clear hE;replace b_B11:=bX3 B11;replace b_B13:=bX3 B13;simp only [pD];clear f1 f2 f3 hfz hLl;obtain ⟨r2,⟨f1,f2,f3⟩,-⟩:=cj.cells HL.out (k:=j) (by rw [HOl.out];exact hjM);have hfz:=cj.frozen HL.out
   go_upto_region 13 with fail
   refine kY (k:=j) HL.out (by rw [HOl.out];exact hjM) G21.out ?_;rintro y13 ⟨cs,T⟩ TN;have HOv2:=Hi (qR HOl.out HOv.out (by rw [←Hj.out];exact hjM));rw [←Hj.out,←Hv.out] at HOv2;clear f1 f2 f3 hfz;clear HL;replace HX4:=Hi (T.ext HX4.out (by omega));replace HC:=Hi (HC.out.keep T.keep);replace B11:=Hi (T.rest _ _ (by omega) B11.out);replace HD':=Hi (HD'.out.keep T.keep);replace B13:=Hi (T.rest _ _ (by omega) B13.out);replace RO:=Hi (RO.out.keep T.keep);replace G20:=Hi (G20.out.keep T.keep);replace G21:=Hi (G21.out.keep T.keep);have hs_y13:=nle T.size;have hr_y13:=nle T.size.symm;clear T;replace b_B11:=bX3 B11;replace b_B13:=bX3 B13;have HL:=Hi TN;clear TN;go_wp2
   go_roundg (gk-1)
   case measure=>omega
   case rel=>exact ⟨k+1,_,by omega,by go_num,HX4.out,HL.out,by rw [nXn];exact HOl.out,HOv2.out,HC.out,B11.out⟩
theorem kL(ao bo:Option Addr)(n c m d:Nat)(p q:List Rat)(S U:Nat)(w:World)(h:bX w ⟨ao,n,c⟩ p)(k:bX w ⟨bo,m,d⟩ q)(hn:n≤1000)(hm:m≤1000)(hp:FrB S p)(hq:FrB U q)(hSU:S+U≤8000000) :
  au 66 [.slice ao n c,.slice bo m d] w SH.v (fun s w'=>bj w.heap.size w' s (ag p q)):=by
 obtain ⟨h0,D,h1,h2,h3⟩:=hp;obtain ⟨k0,E,k1,k2,k3⟩:=hq;exact uI ao bo n c m d p q S U D E w h k hn hm h0 k0 h1 h2 k1 k2 h3 k3 hSU
end Go.Proofs.YtohahgiidooijaaGreat
