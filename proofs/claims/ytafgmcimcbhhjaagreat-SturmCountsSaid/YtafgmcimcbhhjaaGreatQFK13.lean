import Derived.Test.YtafgmcimcbhhjaaGreatQFK12
set_option linter.unusedVariables false
set_option maxHeartbeats 8000000
set_option maxRecDepth 8000
namespace Go.Proofs.YtafgmcimcbhhjaaGreat
open Go.RowKit Go.Front Go.Num Stab Sg
attribute [local go_sem] XW.cell XW.frozen
structure Mz (ms:List (List Rat)) (x:Rat):Prop where
 ln:ms.length≤1000
 mm:∀ k,k<ms.length→(ms.getD k []).length≤100∧SzL 40000000 (ms.getD k [])∧∀ j,j≤(ms.getD k []).length→Sz 40000000 (evV ((ms.getD k []).drop j) x)
theorem ChR.at{w:World}{va:Option Addr}{vn vc k:Nat}{ms:List (List Rat)}(h:ChR w ⟨va,vn,vc⟩ ms)(hk:k<ms.length):∃ L a n c,va=some ⟨L,0,none⟩∧L<w.heap.size∧w.cell? ⟨L,k,none⟩=some (.slice a n c)∧bB w ⟨a,n,c⟩ (ms.getD k []):=h.2 k hk
theorem qt(v:SH)(ms:List (List Rat))(t:RH)(x:Rat)(w:World)(hc:ChR w v ms)(hz:Mz ms x)(ht:aB w t x)(hx:Sz 10000000 x) :
  ar 137 [v.v,t.v] w (fun _:Unit=>.int .i64 (cT ms x)) (fun _ _=>True):=by
 obtain ⟨va,vn,vc⟩:=v;obtain ⟨tn,ta,tl,tc,tb,tm,td⟩:=t;have HX:=Hi (Ext.refl w);have HC:=Hi hc;have HT:=Hi ht;have ZX:=Hi hx;have HM:=Hi hz;obtain rfl:vn=ms.length:=hc.1;have hl:=hz.ln;clear hc ht hx hz;unfold ar;go_enter Tryz.func137,Tryz.ntmps137;simp only [SH.v]
 go_upto_region 1 with fail
 refine nmA ?_;intro w1 hE B3 hz_w1 hr_w1;refine mV3 hE ?_ HX HC HT;clear HX HC HT;intro HX HC HT;have hs_w1:=hE.size;obtain ⟨c_B3,f_B3,l_B3⟩:=bX3 B3;obtain ⟨b3,hb3⟩:∃ b3,b3=w.heap.size:=⟨_,rfl⟩;have hb3w:b3<w1.heap.size:=zo;rw [←hb3] at B3 ⊢;clear c_B3 f_B3 l_B3;have c_B3:=ab B3.out;have f_B3:=ae B3.out;clear hb3;go_wp2
 go_loopg [5,6,12] ms.length (fun g cv lv iv wr=>∃ (k cnt:Nat) (la:Int),k+g=ms.length∧iv=.int .i64 (k:Nat)∧cv=.int .i64 (cnt:Nat)∧lv=.int .i64 la∧Ext w wr∧Ext w1 wr∧cnt+vr la ((ms.drop k).map fun m=>Sg.sg (evV m x))=cT ms x∧cnt≤k∧IsS la)
 case atStart=>exact ⟨0,0,0,zo,rfl,rfl,rfl,HX.out,Ext.refl _,by rw [Nat.zero_add];rfl,nXe _,Or.inr (Or.inl rfl)⟩
 case round =>
  obtain ⟨k,cnt,la,hk,rfl,rfl,rfl,g1,g2,g3,g4,g5⟩:=hrel;clear HX;have HX:=Hi g1;have HX7:=Hi g2;have HC2:=Hi (HC.out.ext g2);have HT2:=Hi (HT.out.ext g2);have B32:=Hi (g2.block B3.out);have HV:=Hi g3;have HLA:=Hi g5;have hb3r:=g2.size;clear g1 g2 g3 g5 c_B3 f_B3;replace b_B32:=bX3 B32;by_cases h0:gk=0
  case pos =>
   subst h0;obtain rfl:k=ms.length:=by omega
   have HE:Hid (cnt=cT ms x):=Hi (by have:=HV.out;rw [List.drop_length,List.map_nil] at this;exact this);have hin:¬ ((ms.length:Nat):Int)<(ms.length:Nat):=zo;go_wp2
   go_ret
   exact ⟨(),by rw [HE.out];rfl,HX.out,trivial⟩
  have hin:(k:Int)<(ms.length:Nat):=zo;have hkn:k<ms.length:=zo;obtain ⟨L,a,n,c,hva,hLl,hcell,hcan⟩:=HC2.out.at (k:=k) hkn;subst hva;have HL:=Hi hcan;have HMk:=Hi (HM.out.mm k hkn);have hn:n≤100:=by have h1:=hcan.len;have h2:=HMk.out.1;simp only at h1;omega
  have HD:=Hi (rG (fun m=>Sg.sg (evV m x)) ms [] hkn);have HZ0:Hid (Sz 40000000 (evV (ms.getD k []) x)):=Hi (HMk.out.2.2 0 (Nat.zero_le _));clear hcan
  go_wp2_with fail
  refine cM (jo a n c (ms.getD k []) ⟨tn,ta,tl,tc,tb,tm,td⟩ x _ HL.out HT2.out hn HMk.out.2.1 ZX.out HMk.out.2.2) fun x18 w18 hE G18=>?_
  refine mV6 hE ?_ HX HX7 HC2 HT2 B32 HL;clear HX HX7 HC2 HT2 B32 HL;intro HX HX7 HC2 HT2 B32 HL;have hs_w18:=hE.size;replace b_B32:=bX3 B32
  go_wp2_with fail
  refine cM (bR x18 (evV (ms.getD k []) x) _ (G18.out.raw HZ0.out dZ)) fun x19 w19 hE _=>?_
  refine mV7 hE ?_ G18 HX HX7 HC2 HT2 B32 HL;clear G18 HX HX7 HC2 HT2 B32 HL;intro G18 HX HX7 HC2 HT2 B32 HL;have hs_w19:=hE.size;replace b_B32:=bX3 B32;rw [gN];rw [HD.out] at HV;have hs:=jA (evV (ms.getD k []) x);obtain ⟨s,es⟩:∃ s,s=Sg.sg (evV (ms.getD k []) x):=⟨_,rfl⟩;rw [←es] at HV hs ⊢;have HS:=Hi hs;clear es HD hcell HZ0 HMk;clear HL;clear G18;obtain ⟨rl,hrl⟩:∃ rl,rl=(ms.drop (k+1)).map fun m=>Sg.sg (evV m x):=⟨_,rfl⟩
  rw [←hrl] at HV;have HRL:=Hi hrl;have hla:=HLA.out;clear hrl;have fin:∀ (cnt2:Nat) (s2:Int),cnt2+vr s2 rl=cT ms x→cnt2+vr s2 ((ms.drop (k+1)).map fun m=>Sg.sg (evV m x))=cT ms x:=fun cnt2 s2 h=>by rw [←HRL.out];exact h
  have FIN:=Hi fin;clear fin;rcases hs with rfl|rfl|rfl
  ·rcases hla with rfl|rfl|rfl
   ·have HV2:Hid (cnt+vr (-1) rl=cT ms x):=Hi (by have:=HV.out;simpa [vr] using this);clear HV;go_wp2
    go_roundg (gk-1)
    case measure=>omega
    case rel=>exact ⟨k+1,cnt,-1,zo,by go_num,rfl,rfl,HX.out,HX7.out,FIN.out _ _ HV2.out,zo,HS.out⟩
   ·have HV2:Hid (cnt+vr (-1) rl=cT ms x):=Hi (by have:=HV.out;simpa [vr] using this);clear HV;go_wp2
    go_roundg (gk-1)
    case measure=>omega
    case rel=>exact ⟨k+1,cnt,-1,zo,by go_num,rfl,rfl,HX.out,HX7.out,FIN.out _ _ HV2.out,zo,HS.out⟩
   ·have HV2:Hid ((cnt+1)+vr (-1) rl=cT ms x):=Hi (by have:=HV.out;simp [vr] at this;omega);clear HV;go_wp2
    go_roundg (gk-1)
    case measure=>omega
    case rel=>exact ⟨k+1,cnt+1,-1,zo,by go_num,by go_num,rfl,HX.out,HX7.out,FIN.out _ _ HV2.out,zo,HS.out⟩
  ·have HV2:Hid (cnt+vr la rl=cT ms x):=Hi (by have:=HV.out;rw [show vr la (0 :: rl)=vr la rl by simp [vr]] at this;exact this);clear HV;go_wp2
   go_roundg (gk-1)
   case measure=>omega
   case rel=>exact ⟨k+1,cnt,la,zo,by go_num,rfl,rfl,HX.out,HX7.out,FIN.out _ _ HV2.out,zo,HLA.out⟩
  ·rcases hla with rfl|rfl|rfl
   ·have HV2:Hid ((cnt+1)+vr 1 rl=cT ms x):=Hi (by have:=HV.out;simp [vr] at this;omega);clear HV;go_wp2
    go_roundg (gk-1)
    case measure=>omega
    case rel=>exact ⟨k+1,cnt+1,1,zo,by go_num,by go_num,rfl,HX.out,HX7.out,FIN.out _ _ HV2.out,zo,HS.out⟩
   ·have HV2:Hid (cnt+vr 1 rl=cT ms x):=Hi (by have:=HV.out;simpa [vr] using this);clear HV;go_wp2
    go_roundg (gk-1)
    case measure=>omega
    case rel=>exact ⟨k+1,cnt,1,zo,by go_num,rfl,rfl,HX.out,HX7.out,FIN.out _ _ HV2.out,zo,HS.out⟩
   ·have HV2:Hid (cnt+vr 1 rl=cT ms x):=Hi (by have:=HV.out;simpa [vr] using this);clear HV;go_wp2
    go_roundg (gk-1)
    case measure=>omega
    case rel=>exact ⟨k+1,cnt,1,zo,by go_num,rfl,rfl,HX.out,HX7.out,FIN.out _ _ HV2.out,zo,HS.out⟩
end Go.Proofs.YtafgmcimcbhhjaaGreat
/- Eval of the reference's polynomials, of any form. -/
namespace Go.Proofs.YtafgmcimcbhhjaaGreat
open Go.RowKit Go.Front Go.Num Stab
attribute [local go_sem] XW.cell XW.frozen
theorem fx(ao:Option Addr)(n c:Nat)(l:List Rat)(t:RH)(x:Rat)(w:World)(h:co w ⟨ao,n,c⟩ l)(ht:aR w t x)(hn:n≤100)(hl:SzL 40000000 l)(hx:Sz 10000000 x)(hE:∀ k,k≤l.length→Sz 40000000 (evV (l.drop k) x)) :
  ar 50 [.slice ao n c,t.v] w RH.v (fun y w'=>aB w' y (evV l x)):=by
 obtain ⟨tn,ta,tl,tc,tb,tm,td⟩:=t;have HX:=Hi (Ext.refl w);have H:=Hi h;have HT0:=Hi ht;have HZ:=Hi hl;have ZX:=Hi hx;have HLn:=Hi h.len;have HEs:=Hi hE;simp only at HLn;clear h ht hl hx hE;unfold ar;go_enter Tryz.func50,Tryz.ntmps50
 go_upto_region 1 with fail
 refine jZ ?_;intro w1 hE B3 B4 hz_w1 hr_w1;replace HX:=hE.tr HX;have hs_w1:=hE.size;replace b_B3:=bX3 B3;replace b_B4:=bX3 B4
 go_wp2_with fail
 refine cM (aO 0 _ dZ dZ) fun x7 w7 hE G7=>?_
 refine mV3 hE ?_ B3 B4 HX;clear B3 B4 HX;intro B3 B4 HX;have hs_w7:=hE.size;replace b_B3:=bX3 B3;replace b_B4:=bX3 B4
 go_upto_region 2 with fail
 refine nmA ?_;intro w8 hE B5 hz_w8 hr_w8;refine mV4 hE ?_ G7 B3 B4 HX;clear G7 B3 B4 HX;intro G7 B3 B4 HX;have hs_w8:=hE.size;replace b_B3:=bX3 B3;replace b_B4:=bX3 B4;replace b_B5:=bX3 B5;obtain ⟨b3,hb3⟩:∃ b,b=w.heap.size:=⟨_,rfl⟩;obtain ⟨b4,hb4⟩:∃ b,b=w.heap.size+1:=⟨_,rfl⟩;obtain ⟨b5,hb5⟩:∃ b,b=w7.heap.size:=⟨_,rfl⟩;have hw3:w.heap.size≤b3:=zo;have hw4:w.heap.size≤b4:=zo;have hw5:w.heap.size≤b5:=zo;have h34:b3≠b4:=zo;have h35:b3≠b5:=zo;have h45:b4≠b5:=zo;rw [←hb4] at B4 ⊢;rw [←hb3] at B3 ⊢;rw [←hb5] at B5 ⊢;clear hb3 hb4 hb5 b_B3 b_B4 b_B5;have HY:Hid (aB w8 x7 (evV (l.drop n) x)):=Hi (by rw [List.drop_eq_nil_of_le (by rw [HLn.out];exact nXe _)];exact G7.out);go_wp2
 go_loopg [6] n (fun g v wr=>∃ (y:RH),v=.int .i64 ((g:Int)-1)∧g≤n∧Ext w wr∧wr.heap[b3]?=some (.cells #[.bool tn,.slice ta tl tc,.slice tb tm td] 34 (0,0))∧wr.heap[b4]?=some (.cells #[.bool false,.slice none 0 0,.slice none 0 0] 34 (0,0))∧wr.heap[b5]?=some (.cells #[.bool y.neg,.slice y.a y.n y.c,.slice y.b y.m y.d] 34 (0,0))∧aB wr y (evV (l.drop g) x))
 case atStart=>exact ⟨x7,rfl,nXe _,HX.out,B3.out,B4.out,B5.out,HY.out⟩
 case round =>
  obtain ⟨⟨yn,ya,yl,yc,yb,ym,yd⟩,rfl,hg,g1,g4,g5,g6,g7⟩:=hrel;clear HX B3 B4 B5 HY G7;have HX:=Hi g1;have LA:=Hi (H.out.ext g1);have HT:=Hi (HT0.out.ext g1);have B3:=Hi g4;have B4:=Hi g5;have B5:=Hi g6;have HY:=Hi g7;clear g1 g4 g5 g6 g7;replace b_B3:=bX3 B3;replace b_B4:=bX3 B4;replace b_B5:=bX3 B5;by_cases h0:gk=0
  case pos =>
   subst h0;clear LA;clear HT;have hneg:¬ (0:Int)≤((0:Nat):Int)-1:=zo;go_wp2;refine aY (F:=fun W=>bodyPost _ _ _ _ _ W) B4.out rfl ?_;intro w9 T;replace HX:=Hi (T.ext HX.out zo);replace HY:=Hi (HY.out.keep T.keep);replace B3:=Hi (T.rest _ _ zo B3.out);replace B4:=Hi (T.bx);replace B5:=Hi (T.rest _ _ zo B5.out);have hs_w9:=nle T.size;have hr_w9:=nle T.size.symm;clear T;replace b_B3:=bX3 B3;replace b_B4:=bX3 B4;replace b_B5:=bX3 B5;exact nXa (v:=RH.v ⟨yn,ya,yl,yc,yb,ym,yd⟩) (by simp [results,Tryz.results50,go_sem,b_B4.1]) rfl ⟨⟨yn,ya,yl,yc,yb,ym,yd⟩,rfl,HX.out,HY.out⟩
  obtain ⟨k,rfl⟩:∃ k,gk=k+1:=⟨gk-1,zo⟩;have hk1:((k+1:Nat):Int)-1=(k:Nat):=zo;rw [hk1];have hkn:k<n:=zo;have hk0:(0:Int)≤(k:Nat):=zo;have hin:(k:Int)<n:=zo;have ZY:Hid (Sz 40000000 (evV (l.drop (k+1)) x)):=Hi (HEs.out (k+1) (by rw [HLn.out];omega));have HE:=Hi (lO l x (k:=k) (by rw [HLn.out];exact hkn));have ZK:Hid (Sz 40000000 (l.getD k 0)):=Hi (HZ.out.at (by rw [HLn.out];exact hkn));obtain ⟨ba,oa,r,hao,hbl,⟨hc1,hc2,hc3⟩,hPc⟩:=LA.out.cells' (k:=k) hkn;obtain ⟨rneg,ra,rn,rc,rb,rm,rd⟩:=r;simp only at hc1 hc2 hc3;have HC:=Hi hPc;clear hPc;subst hao
  go_upto_region 5 with fail
  refine wpG 8 (fun opIx=>match opIx with
   | 2=>sR (evV (l.drop (k+1)) x*x)
   | 7=>sR (evV (l.drop (k+1)) x*x+l.getD k 0)
   | _=>.quiet) (fun|7=>[2]|_=>[]) fun w0 he0 hz0 hc0 hf0=>?_
  refine wps he0 (fun w1 hW hG=>?_) fun x30=>?_
  ·exact spc [RH.v ⟨yn,ya,yl,yc,yb,ym,yd⟩,RH.v ⟨tn,ta,tl,tc,tb,tm,td⟩] Tryz.func48 (ep _ _ _ _ _ ((HY.out.ext hW).raw ZY.out dZ) (HT.out.ext hW))
  refine qZ ?_;refine wps he0 (fun w1 hW hG=>?_) fun x31=>?_
  ·have g30:=gS (hG 2 dZ);exact spc [x30.v,RH.v ⟨rneg,ra,rn,rc,rb,rm,rd⟩] Tryz.func46 (gD x30 _ _ _ _ (g30.raw (ZY.out.mul ZX.out) dZ) (HC.out.ext hW))
  refine qZ ?_;refine am ?_;intro w14 hI;have hE:=he0.out.trans hI.ext;have G30:=gT (hI.facts 2);have G31:=gT (hI.facts 7);clear hI he0 hz0 hc0 hf0;refine mV8 hE ?_ LA HX B3 B4 B5 HY HT HC;clear LA HX B3 B4 B5 HY HT HC;intro LA HX B3 B4 B5 HY HT HC;have hs_w14:=hE.size;replace b_B3:=bX3 B3;replace b_B4:=bX3 B4;replace b_B5:=bX3 B5;simp only [pD];clear hc1 hc2 hc3;rw [←HE.out] at G31;clear LA;clear HT;clear HC
  go_upto_region 4 with fail
  refine aY B5.out rfl ?_;intro w15 T;replace HX:=Hi (T.ext HX.out zo);replace HY:=Hi (HY.out.keep T.keep);replace B3:=Hi (T.rest _ _ zo B3.out);replace B4:=Hi (T.rest _ _ zo B4.out);replace B5:=Hi (T.bx);replace G30:=Hi (G30.out.keep T.keep);replace G31:=Hi (G31.out.keep T.keep);have hs_w15:=nle T.size;have hr_w15:=nle T.size.symm;clear T;replace b_B3:=bX3 B3;replace b_B4:=bX3 B4;replace b_B5:=bX3 B5;go_wp2
  go_roundg k
  case measure=>omega
  case rel=>exact ⟨x31,by go_num,zo,HX.out,B3.out,B4.out,B5.out,G31.out⟩
open Sg
theorem iQ(ms:List (List Rat))(x:Rat):cT ms x≤ms.length:=by
 unfold cT;have:∀ (l:List Int) (z:Int),vr z l≤l.length:=by
  intro l;induction l with
  | nil=>intro z;exact nXe _
  | cons s l ih =>
   intro z;have h1:=ih z;have h2:=ih s;unfold vr;rw [List.length_cons];split
   ·omega
   ·split <;> omega
 have h:=this (ms.map fun m=>Sg.sg (evV m x)) 0
 rwa [nXl] at h
theorem BC:∀ (n:Nat) (a b:List Rat),(chn n a b).length≤n:=by
 intro n;induction n with
 | zero=>intro a b;exact nXe _
 | succ n ih =>
  intro a b;by_cases ha:a=[]
  ·rw [show chn (n+1) a b=[] by simp [chn,ha]];exact Nat.zero_le _
  ·by_cases hb:b=[]
   ·subst hb;rw [dw ha];simp
   ·rw [dY ha hb,List.length_cons];exact Nat.succ_le_succ (ih _ _)
theorem BB{L:Nat}:∀ (n:Nat) (a b:List Rat),a.length≤L→b.length≤L→tz b=b→∀ m ∈ chn n a b,m.length≤L:=by
 intro n;induction n with
 | zero=>intro a b _ _ _ m hm;simp [chn] at hm
 | succ n ih =>
  intro a b ha hb ht m hm;by_cases ha0:a=[]
  ·rw [show chn (n+1) a b=[] by simp [chn,ha0]] at hm;simp at hm
  ·by_cases hb0:b=[]
   ·subst hb0;rw [dw ha0] at hm;obtain rfl:m=a:=by simpa using hm
    exact ha
   ·rw [dY ha0 hb0] at hm;rcases List.mem_cons.1 hm with rfl|hm
    ·exact ha
    ·have:=nc a b (by rw [ht];exact hb0);rw [ht] at this;exact ih _ _ hb zo (aJ _) m hm
theorem jd(p:List Rat):(remsV p).length≤p.length+1:=BC _ _ _
theorem nb{p:List Rat}(h:tz p≠[]):∀ m ∈ remsV p,m.length≤p.length:=by
 refine BB _ _ _ ?_ ?_ (aJ _)
 ·rw [ax];exact af p
 ·rw [ax];have:=eM h;omega
theorem kj{p:List Rat}(h:tz p≠[]):0<(remsV p).length:=by
 obtain ⟨l,e⟩:=je h;rw [e];exact Nat.succ_pos _
theorem tW{p:List Rat}(h:tz p≠[]){N:Nat}(hN:(remsV p).length=N+1):(remsV p).getLast?.getD []=(remsV p).getD N []∧tz ((remsV p).getD N [])=(remsV p).getD N []:=by
 have h1:(remsV p).getLast?.getD []=(remsV p).getD N []:=by
  rw [List.getLast?_eq_getElem?,hN,nXd];rfl
 have hlen:(ak (derL p)).length≤p.length:=by
  rw [ax];have:=eM h;omega
 obtain ⟨e,k1,k2,k3,-⟩:=rQ p.length (ak p) (ak (derL p)) hlen (aJ _) (aJ _) (fun h0=>h (bs.1 h0));have h7:(remsV p).getLast?=some e:=k1;refine ⟨h1,?_⟩;rw [←h1,h7];exact k3
theorem ChM.chk{w:World}{lo B:Nat}{v:SH}{r:List Rat}{K:Nat}(h:ChM w lo B v.v (remsV r))(hr:tz r≠[])(hl:r.length≤999)(hW:∀ m ∈ remsV r,∀ y ∈ m,Wz K y)(h1:1≤K)(h2:K≤30000000):ChK w v (remsV r) K :=
 ⟨⟨lo,B,h⟩,hW,by have:=jd r;omega,fun m hm=>by have:=nb hr m hm;omega,h1,h2⟩
theorem qB(pa:Option Addr)(P pc:Nat)(p:List Rat)(K:Nat)(w:World)(h:co w ⟨pa,P,pc⟩ p)(hP:P≤900)(h0:tz p≠[])(hk:FrK K p)(hK:K≤12000000)(hK2:(P+1)*(K / 3)≤25000000)(hs:FrK K (sqfV p)) :
  ar 70 [.slice pa P pc] w CV (fun x w'=>ChK w' x (remsV (rootV p)) K):=by
 have HK1:=Hi hk;have HK2:=Hi hs;obtain ⟨S,D,hS,hD,hD2,hf,hSK⟩:=hk;obtain ⟨U,E,hU,hEn,hE2,hfU,hUK⟩:=hs;have LP:=Hi (RIn.of h);have HX:=Hi (Ext.refl w);have hlen:=h.len;simp only at hlen;have H0:=Hi h0;have HF:=Hi hf;have HFU:=Hi hfU;have HSK:Hid (KZ K S P):=Hi (by rw [←hlen];exact hSK);have hUs:=KZ.small hUK;have HUK:Hid (KZ K U (sqfV p).length):=Hi hUK;have hsl:(sqfV p).length≤P:=by rw [←hlen];exact kK h0
 have hK1:1≤K:=zo;obtain ⟨N,hN⟩:∃ N,(remsV p).length=N+1:=⟨(remsV p).length-1,by have:=kj h0;omega⟩;have hN2:N≤P:=by have:=jd p;omega
 have HLA:=Hi (tW h0 hN);have HPl:Hid (p.length=P):=Hi hlen;have HRT:=Hi (iq h0).ne;have HMm:Hid ((remsV p).getD N [] ∈ remsV p):=Hi (by
  rw [nXd,List.getElem?_eq_getElem zo];exact List.getElem_mem _)
 have HRV:Hid (rootV p=if 2≤(tz ((remsV p).getD N [])).length then sqfV p else p):=Hi (by
  unfold rootV;rw [HLA.out.1,HLA.out.2])
 clear h hlen hf hfU hSK hUK h0;unfold ar;go_enter Tryz.func70,Tryz.ntmps70
 go_upto_region 1 with fail
 refine nmA ?_;intro w1 hE B2 hz_w1 hr_w1;refine mV2 hE ?_ LP HX;clear LP HX;intro LP HX;have hs_w1:=hE.size;replace b_B2:=bX3 B2
 go_wp2_with fail
 refine cM (n4 pa P pc p S D K _ LP.out.raw zo H0.out hS hD hD2 HF.out HSK.out zo) fun x5 w5 hE G5=>?_
 refine mV3 hE ?_ B2 LP HX;clear B2 LP HX;intro B2 LP HX;have hs_w5:=hE.size;replace b_B2:=bX3 B2;obtain ⟨xa,xn,xc⟩:=x5;obtain ⟨⟨B,hB,hch⟩,hwz⟩:=G5.out;have HC:=Hi hch;have HW:=Hi hwz;clear G5 hch hwz
 go_upto_region 2 with fail
 refine nmA ?_;intro w6 hE B3 hz_w6 hr_w6;refine mV4 hE ?_ B2 LP HX HC;clear B2 LP HX HC;intro B2 LP HX HC;have hs_w6:=hE.size;replace b_B2:=bX3 B2;replace b_B3:=bX3 B3;obtain ⟨hxn,hat⟩:=HC.out.at;rw [hN] at hxn;subst hxn;obtain ⟨L,a,n,c,hva,hLl,hcell,hcan⟩:=hat N zo;subst hva;have HL:=Hi hcan;have HZ:Hid (SzL K ((remsV p).getD N [])):=Hi (fun y hy=>(HW.out _ HMm.out y hy).sz hK1);obtain ⟨D2,hD2e⟩:∃ D2,D2=(tz ((remsV p).getD N [])).length:=⟨_,rfl⟩;have HDe:=Hi hD2e;rw [←hD2e] at HRV;clear hat hcan;have hN1:((N:Int)+1)-1=N:=by omega
 have hN3:(N:Int)<(N:Int)+1:=zo
 go_wp2_with fail
 refine cM (lj a n c ((remsV p).getD N []) _ (HL.out.raw HZ.out zo)) fun x14 w14 hE _=>?_
 refine mV6 hE ?_ B3 B2 LP HX HC HL;clear B3 B2 LP HX HC HL;intro B3 B2 LP HX HC HL;have hs_w14:=hE.size;replace b_B2:=bX3 B2;replace b_B3:=bX3 B3;rw [←hD2e];clear hD2e hcell;clear HL;by_cases hd:2≤D2
 case pos =>
  have hd2:(0:Int)<(D2:Int)-1:=zo;have HV:Hid (rootV p=sqfV p):=Hi (by rw [HRV.out,if_pos hd]);clear hd
  go_wp2_with fail
  refine cM (xg pa P pc p K _ LP.out.raw zo H0.out HK1.out hK hK2 HK2.out) fun x17 w17 hE G17=>?_
  refine mV5 hE ?_ B3 B2 LP HX HC;clear B3 B2 LP HX HC;intro B3 B2 LP HX HC;have hs_w17:=hE.size;replace b_B2:=bX3 B2;replace b_B3:=bX3 B3;obtain ⟨qa,qn,qc⟩:=x17;have HQ:=Hi G17.out.lin;have hqn:=HQ.out.len;simp only at hqn;clear G17;clear HC;clear LP;simp only [SH.v]
  go_wp2_with fail
  refine cM (tv qa qn qc (sqfV p) U E K _ HQ.out.can zo HRT.out hU hEn hE2 HFU.out (by rw [←hqn];exact HUK.out) zo) fun x18 w18 hE G18=>?_
  refine mV4 hE ?_ B3 B2 HX HQ;clear B3 B2 HX HQ;intro B3 B2 HX HQ;have hs_w18:=hE.size;replace b_B2:=bX3 B2;replace b_B3:=bX3 B3;obtain ⟨ya,yn,yc⟩:=x18;obtain ⟨⟨B',hB',hch'⟩,hwz'⟩:=G18.out;have HC2:=Hi hch';have HW2:=Hi hwz';clear G18 hch' hwz';clear HQ
  go_upto_region 4 with fail
  refine lA B3.out rfl ?_;intro w19 T;replace HX:=Hi (T.ext HX.out zo);replace B2:=Hi (T.rest _ _ zo B2.out);replace B3:=Hi (T.bx);replace HC2:=Hi (HC2.out.put T zo);have hs_w19:=nle T.size;have hr_w19:=nle T.size.symm;clear T;replace b_B2:=bX3 B2;replace b_B3:=bX3 B3;go_wp2;refine lA (F:=fun W=>bodyPost _ _ _ _ _ W) B2.out rfl ?_;intro w20 T;replace HX:=Hi (T.ext HX.out zo);replace B2:=Hi (T.bx);replace B3:=Hi (T.rest _ _ zo B3.out);replace HC2:=Hi (HC2.out.put T zo);have hs_w20:=nle T.size;have hr_w20:=nle T.size.symm;clear T;replace b_B2:=bX3 B2;replace b_B3:=bX3 B3;exact nXa (v:=CV ⟨ya,yn,yc⟩) (by simp [results,Tryz.results70,go_sem,CV,b_B2.1]) rfl ⟨⟨ya,yn,yc⟩,rfl,HX.out,by rw [HV.out];exact HC2.out.chk HRT.out zo HW2.out hK1 zo⟩
 have hd2:¬ (0:Int)<(D2:Int)-1:=zo;have HV:Hid (rootV p=p):=Hi (by rw [HRV.out,if_neg hd]);go_wp2;refine lA (F:=fun W=>bodyPost _ _ _ _ _ W) B2.out rfl ?_;intro w20 T;replace HX:=Hi (T.ext HX.out zo);replace LP:=Hi (LP.out.put T zo);replace B2:=Hi (T.bx);replace HC:=Hi (HC.out.put T zo);replace B3:=Hi (T.rest _ _ zo B3.out);have hs_w20:=nle T.size;have hr_w20:=nle T.size.symm;clear T;replace b_B2:=bX3 B2;replace b_B3:=bX3 B3;exact nXa (v:=CV ⟨some ⟨L,0,none⟩,N+1,xc⟩) (by simp [results,Tryz.results70,go_sem,CV,b_B2.1]) rfl ⟨⟨some ⟨L,0,none⟩,N+1,xc⟩,rfl,HX.out,by rw [HV.out];exact HC.out.chk H0.out (by rw [HPl.out];omega) HW.out hK1 zo⟩
theorem qC(pa:Option Addr)(P pc:Nat)(p:List Rat)(K:Nat)(w:World)(h:bB w ⟨pa,P,pc⟩ p)(hP:P≤900)(h0:tz p≠[])(hk:FrK K p)(hK:K≤12000000)(hK2:(P+1)*(K / 3)≤25000000)(hs:FrK K (sqfV p)) :
  ar 70 [.slice pa P pc] w CV (fun x w'=>ChK w' x (remsV (rootV p)) K):=by
 obtain ⟨S,D,h1,h2,h3,h4,h5⟩:=id hk;exact qB pa P pc p K w (h.raw (h4.sz h1 h2 h3) (by have:=KZ.small h5;omega)) hP h0 hk hK hK2 hs
end Go.Proofs.YtafgmcimcbhhjaaGreat
/- Intervals: ends, Make, Trim of package interval. -/
namespace Go.Proofs.YtafgmcimcbhhjaaGreat
open Go.RowKit Go.Front Go.Num Stab
attribute [local go_sem] XW.cell XW.frozen
abbrev IvV(x:RH×RH):Value:=.agg #[.bool x.1.neg,.slice x.1.a x.1.n x.1.c,.slice x.1.b x.1.m x.1.d,.bool x.2.neg,.slice x.2.a x.2.n x.2.c,.slice x.2.b x.2.m x.2.d]
def loV(a b:Rat):Rat:=if b<a then b else a
def hiV(a b:Rat):Rat:=if b<a then a else b
theorem gG(a b:Rat):loV a b≤hiV a b:=by
 unfold loV hiV;by_cases h:b<a
 ·rw [if_pos h,if_pos h];grind
 ·rw [if_neg h,if_neg h];grind
theorem l6{a b:Rat}(h:a≤b):loV a b=a:=if_neg (by grind)
theorem l7{a b:Rat}(h:a≤b):hiV a b=b:=if_neg (by grind)
theorem lC(a b:Rat):loV a b=a∨loV a b=b:=by unfold loV;split <;> simp
theorem lJ(a b:Rat):hiV a b=a∨hiV a b=b:=by unfold hiV;split <;> simp
theorem BA{a b:Rat}(h:b<a):dO a b=1:=by unfold dO;rw [if_neg (by grind),if_neg (by grind)]
theorem Bz{a b:Rat}(h:¬ b<a):dO a b≤0:=by
 unfold dO;split
 ·omega
 ·split
  ·omega
  ·exfalso;grind
theorem cz{w1:World}{b:Nat}{T:TypeId}{c0 c1 c2 c3 c4 c5 v0 v1 v2 v3 v4 v5:Value}{F:World→Prop}(hb:w1.heap[b]?=some (.cells #[c0,c1,c2,c3,c4,c5] T (0,0)))(hn:#[c0,c1,c2,c3,c4,c5].toList.all fY=true)(h:∀ w2,fe w1 b T #[v0,v1,v2,v3,v4,v5] w2→F w2) :
  F ((((((w1.setCell ⟨b,0,none⟩ v0).setCell ⟨b,1,none⟩ v1).setCell ⟨b,2,none⟩ v2).setCell ⟨b,3,none⟩ v3).setCell ⟨b,4,none⟩ v4).setCell ⟨b,5,none⟩ v5) :=
 h _ (fe.of (nXb.1 hb).1 (ai hb hn) ((((((bi.setCell w1 ⟨b,0,none⟩ v0).trans (bi.setCell _ ⟨b,1,none⟩ v1)).trans (bi.setCell _ ⟨b,2,none⟩ v2)).trans (bi.setCell _ ⟨b,3,none⟩ v3)).trans (bi.setCell _ ⟨b,4,none⟩ v4)).trans (bi.setCell _ ⟨b,5,none⟩ v5)) (by simp [World.setCell])
  (aV (aV (aV (aV (aV (aV hb 0 v0) 1 v1) 2 v2) 3 v3) 4 v4) 5 v5))
theorem sK(s t:RH)(a b:Rat)(w:World)(hs:aR w s a)(ht:aR w t b):ar 169 [IvV (s,t)] w PT (fun x w'=>aR w' x.1 (loV a b)∧aR w' x.2 (hiV a b)):=by
 have HX:=Hi (Ext.refl w);have HS:=Hi hs;have HT:=Hi ht;clear hs ht;unfold ar;go_enter Tryz.func169,Tryz.ntmps169;obtain ⟨sn,sa,sl,sc,sb,sm,sd⟩:=s;obtain ⟨tn,ta,tl,tc,tb,tm,td⟩:=t
 go_upto_region 1 with fail
 refine qX ?_;intro w1 hE B1 B2 B3 hz_w1 hr_w1;refine mV3 hE ?_ HX HS HT;clear HX HS HT;intro HX HS HT;have hs_w1:=hE.size;replace b_B1:=bX3 B1;replace b_B2:=bX3 B2;replace b_B3:=bX3 B3
 go_wp2_with fail
 refine cM (gW ⟨sn,sa,sl,sc,sb,sm,sd⟩ ⟨tn,ta,tl,tc,tb,tm,td⟩ a b _ HS.out HT.out) fun x8 w8 hE _=>?_
 refine mV6 hE ?_ B1 B2 B3 HX HS HT;clear B1 B2 B3 HX HS HT;intro B1 B2 B3 HX HS HT;have hs_w8:=hE.size;replace b_B1:=bX3 B1;replace b_B2:=bX3 B2;replace b_B3:=bX3 B3;by_cases h:b<a
 ·have hlo:Hid (loV a b=b∧hiV a b=a):=Hi ⟨if_pos h,if_pos h⟩;rw [BA h];clear h
  go_upto_region 2 with fail
  go_region
  refine nj B2.out rfl B3.out rfl zo ?_;intro y3 y4 y5 T3 T4 E5;have HY:Hid (Ext w y5):=Hi ((T4.ext (T3.ext HX.out zo) zo).trans E5);have HS5:=Hi (((HS.out.keep T3.keep).keep T4.keep).ext E5);have HT5:=Hi (((HT.out.keep T3.keep).keep T4.keep).ext E5);have C2:=Hi (E5.block (T4.rest _ _ zo T3.bx));have C3:=Hi (E5.block T4.bx);have c_C2:=ab C2.out;have c_C3:=ab C3.out;clear T3 T4 E5 b_B1 b_B2 b_B3;go_wp2;exact nXa (v:=PT (⟨tn,ta,tl,tc,tb,tm,td⟩,⟨sn,sa,sl,sc,sb,sm,sd⟩)) (by simp [results,Tryz.results169,go_sem,PT,c_C2,c_C3]) rfl
   ⟨(⟨tn,ta,tl,tc,tb,tm,td⟩,⟨sn,sa,sl,sc,sb,sm,sd⟩),rfl,HY.out,by rw [hlo.out.1];exact HT5.out,by rw [hlo.out.2];exact HS5.out⟩
 ·have hlo:Hid (loV a b=a∧hiV a b=b):=Hi ⟨if_neg h,if_neg h⟩;have hc:=Bz h;obtain ⟨c,e⟩:∃ c,c=dO a b:=⟨_,rfl⟩;rw [←e] at hc ⊢;have hc2:¬ 0<c:=zo;clear h e
  go_upto_region 3 with fail
  go_region
  refine nj B2.out rfl B3.out rfl zo ?_;intro y3 y4 y5 T3 T4 E5;have HY:Hid (Ext w y5):=Hi ((T4.ext (T3.ext HX.out zo) zo).trans E5);have HS5:=Hi (((HS.out.keep T3.keep).keep T4.keep).ext E5);have HT5:=Hi (((HT.out.keep T3.keep).keep T4.keep).ext E5);have C2:=Hi (E5.block (T4.rest _ _ zo T3.bx));have C3:=Hi (E5.block T4.bx);have c_C2:=ab C2.out;have c_C3:=ab C3.out;clear T3 T4 E5 b_B1 b_B2 b_B3;go_wp2;exact nXa (v:=PT (⟨sn,sa,sl,sc,sb,sm,sd⟩,⟨tn,ta,tl,tc,tb,tm,td⟩)) (by simp [results,Tryz.results169,go_sem,PT,c_C2,c_C3]) rfl
   ⟨(⟨sn,sa,sl,sc,sb,sm,sd⟩,⟨tn,ta,tl,tc,tb,tm,td⟩),rfl,HY.out,by rw [hlo.out.1];exact HS5.out,by rw [hlo.out.2];exact HT5.out⟩
theorem sJ(s t:RH)(a b:Rat)(w:World)(hs:aR w s a)(ht:aR w t b):ar 106 [s.v,t.v] w IvV (fun x w'=>aB w' x.1 (loV a b)∧aB w' x.2 (hiV a b)):=by
 have HX:=Hi (Ext.refl w);have HS:=Hi hs;have HT:=Hi ht;clear hs ht;unfold ar;go_enter Tryz.func106,Tryz.ntmps106;obtain ⟨sn,sa,sl,sc,sb,sm,sd⟩:=s;obtain ⟨tn,ta,tl,tc,tb,tm,td⟩:=t
 go_upto_region 1 with fail
 refine qX ?_;intro w1 hE B2 B3 B4 hz_w1 hr_w1;refine mV3 hE ?_ HX HS HT;clear HX HS HT;intro HX HS HT;have hs_w1:=hE.size;replace b_B2:=bX3 B2;replace b_B3:=bX3 B3;replace b_B4:=bX3 B4
 go_wp2_with fail
 refine cM (sK ⟨sn,sa,sl,sc,sb,sm,sd⟩ ⟨tn,ta,tl,tc,tb,tm,td⟩ a b _ HS.out HT.out) fun x7 w7 hE G7=>?_
 refine mV6 hE ?_ B2 B3 B4 HX HS HT;clear B2 B3 B4 HX HS HT;intro B2 B3 B4 HX HS HT;have hs_w7:=hE.size;replace b_B2:=bX3 B2;replace b_B3:=bX3 B3;replace b_B4:=bX3 B4;obtain ⟨⟨ln,la,ll,lc,lb,lm,ld⟩,⟨hn,ha,hl,hc,hb,hm,hd⟩⟩:=x7;have HL:=Hi G7.out.1;have HH:=Hi G7.out.2;clear G7
 (try clear b_B2);(try clear B2)
 (try clear b_B3);(try clear B3)
 clear HS;clear HT
 go_upto_region 2 with fail
 refine jZ ?_;intro w8 hE B5 B6 hz_w8 hr_w8;refine mV4 hE ?_ B4 HX HL HH;clear B4 HX HL HH;intro B4 HX HL HH;have hs_w8:=hE.size;replace b_B4:=bX3 B4;replace b_B5:=bX3 B5;replace b_B6:=bX3 B6;refine wpG 5 (fun opIx=>match opIx with
  | 1=>sR (loV a b)
  | 3=>sR (hiV a b)
  | _=>.quiet) (fun _=>[]) fun w0 he0 hz0 hc0 hf0=>?_
 refine wps he0 (fun w1 hW hG=>?_) fun x20=>?_
 ·exact spc [RH.v ⟨ln,la,ll,lc,lb,lm,ld⟩] Tryz.func78 (gy _ _ _ (HL.out.ext hW))
 refine qZ ?_;refine wps he0 (fun w1 hW hG=>?_) fun x21=>?_
 ·exact spc [RH.v ⟨hn,ha,hl,hc,hb,hm,hd⟩] Tryz.func78 (gy _ _ _ (HH.out.ext hW))
 refine qZ ?_;refine am ?_;intro w9 hI;have hE:=he0.out.trans hI.ext;have G20:=gT (hI.facts 1);have G21:=gT (hI.facts 3);clear hI he0 hz0 hc0 hf0;refine mV6 hE ?_ B5 B6 B4 HX HL HH;clear B5 B6 B4 HX HL HH;intro B5 B6 B4 HX HL HH;have hs_w9:=hE.size;replace b_B4:=bX3 B4;replace b_B5:=bX3 B5;replace b_B6:=bX3 B6;simp only [pD];go_wp2;refine cz (F:=fun W=>bodyPost _ _ _ _ _ W) B4.out rfl ?_;intro w10 T;replace HX:=Hi (T.ext HX.out zo);replace B4:=Hi (T.bx);replace HL:=Hi (HL.out.keep T.keep);replace HH:=Hi (HH.out.keep T.keep);replace B5:=Hi (T.rest _ _ zo B5.out);replace B6:=Hi (T.rest _ _ zo B6.out);replace G20:=Hi (G20.out.keep T.keep);replace G21:=Hi (G21.out.keep T.keep);have hs_w10:=nle T.size;have hr_w10:=nle T.size.symm;clear T;replace b_B4:=bX3 B4;replace b_B5:=bX3 B5;replace b_B6:=bX3 B6;exact nXa (v:=IvV (x20,x21)) (by simp [results,Tryz.results106,go_sem,b_B4.1]) rfl ⟨(x20,x21),rfl,HX.out,G20.out,G21.out⟩
theorem fv(s t:RH)(a b:Rat)(w:World)(hs:aR w s a)(ht:aR w t b):ar 69 [IvV (s,t)] w IvV (fun x w'=>aB w' x.1 (loV a b)∧aB w' x.2 (hiV a b)):=by
 have HX:=Hi (Ext.refl w);have HS:=Hi hs;have HT:=Hi ht;clear hs ht;unfold ar;go_enter Tryz.func69,Tryz.ntmps69;obtain ⟨sn,sa,sl,sc,sb,sm,sd⟩:=s;obtain ⟨tn,ta,tl,tc,tb,tm,td⟩:=t
 go_upto_region 1 with fail
 refine jZ ?_;intro w1 hE B1 B2 hz_w1 hr_w1;refine mV3 hE ?_ HX HS HT;clear HX HS HT;intro HX HS HT;have hs_w1:=hE.size;replace b_B1:=bX3 B1;replace b_B2:=bX3 B2
 go_wp2_with fail
 refine cM (sJ ⟨sn,sa,sl,sc,sb,sm,sd⟩ ⟨tn,ta,tl,tc,tb,tm,td⟩ a b _ HS.out HT.out) fun x7 w7 hE G7=>?_
 refine mV5 hE ?_ B1 B2 HX HS HT;clear B1 B2 HX HS HT;intro B1 B2 HX HS HT;have hs_w7:=hE.size;replace b_B1:=bX3 B1;replace b_B2:=bX3 B2;have HL:=Hi G7.out.1;have HH:=Hi G7.out.2;clear G7;go_wp2;refine cz (F:=fun W=>bodyPost _ _ _ _ _ W) B2.out rfl ?_;intro w10 T;replace HX:=Hi (T.ext HX.out zo);replace HS:=Hi (HS.out.keep T.keep);replace HT:=Hi (HT.out.keep T.keep);replace B1:=Hi (T.rest _ _ zo B1.out);replace B2:=Hi (T.bx);replace HL:=Hi (HL.out.keep T.keep);replace HH:=Hi (HH.out.keep T.keep);have hs_w10:=nle T.size;have hr_w10:=nle T.size.symm;clear T;replace b_B1:=bX3 B1;replace b_B2:=bX3 B2;exact nXa (v:=IvV x7) (by simp [results,Tryz.results69,go_sem,b_B2.1]) rfl ⟨x7,rfl,HX.out,HL.out,HH.out⟩
theorem Cz(a b:Rat):(if a<b then b else a)=hiV a b:=by
 unfold hiV;by_cases h:a<b
 ·rw [if_pos h,if_neg (by grind)]
 ·rw [if_neg h];by_cases h2:b<a
  ·rw [if_pos h2]
  ·rw [if_neg h2];grind
theorem tS(s t:RH)(a b:Rat)(w:World)(hs:aR w s a)(ht:aR w t b):ar 95 [s.v,t.v] w RH.v (fun x w'=>aB w' x (loV a b)):=by
 have HX:=Hi (Ext.refl w);have HS:=Hi hs;have HT:=Hi ht;clear hs ht;unfold ar;go_enter Tryz.func95,Tryz.ntmps95;obtain ⟨sn,sa,sl,sc,sb,sm,sd⟩:=s;obtain ⟨tn,ta,tl,tc,tb,tm,td⟩:=t
 go_upto_region 1 with fail
 refine qX ?_;intro w1 hE B2 B3 B4 hz_w1 hr_w1;refine mV3 hE ?_ HX HS HT;clear HX HS HT;intro HX HS HT;have hs_w1:=hE.size;replace b_B2:=bX3 B2;replace b_B3:=bX3 B3;replace b_B4:=bX3 B4
 go_wp2_with fail
 refine cM (jE ⟨tn,ta,tl,tc,tb,tm,td⟩ ⟨sn,sa,sl,sc,sb,sm,sd⟩ b a _ HT.out HS.out) fun x7 w7 hE _=>?_
 refine mV6 hE ?_ B2 B3 B4 HX HS HT;clear B2 B3 B4 HX HS HT;intro B2 B3 B4 HX HS HT;have hs_w7:=hE.size;replace b_B2:=bX3 B2;replace b_B3:=bX3 B3;replace b_B4:=bX3 B4;by_cases h:b<a
 case pos =>
  have HV:Hid (loV a b=b):=Hi (if_pos h);rw [decide_eq_true h];clear h
  go_wp2_with fail
  refine cM (cV ⟨tn,ta,tl,tc,tb,tm,td⟩ b _ HT.out) fun x9 w9 hE G9=>?_
  refine mV6 hE ?_ B2 B3 B4 HX HS HT;clear B2 B3 B4 HX HS HT;intro B2 B3 B4 HX HS HT;have hs_w9:=hE.size;replace b_B2:=bX3 B2;replace b_B3:=bX3 B3;replace b_B4:=bX3 B4;go_wp2;refine aY (F:=fun W=>bodyPost _ _ _ _ _ W) B4.out rfl ?_;intro w10 T;replace HX:=Hi (T.ext HX.out zo);replace HS:=Hi (HS.out.keep T.keep);replace HT:=Hi (HT.out.keep T.keep);replace B2:=Hi (T.rest _ _ zo B2.out);replace B3:=Hi (T.rest _ _ zo B3.out);replace B4:=Hi (T.bx);replace G9:=Hi (G9.out.keep T.keep);have hs_w10:=nle T.size;have hr_w10:=nle T.size.symm;clear T;replace b_B2:=bX3 B2;replace b_B3:=bX3 B3;replace b_B4:=bX3 B4;exact nXa (v:=RH.v x9) (by simp [results,Tryz.results95,go_sem,b_B4.1]) rfl ⟨x9,rfl,HX.out,by rw [HV.out];exact G9.out⟩
 have HV:Hid (loV a b=a):=Hi (if_neg h);rw [decide_eq_false h];clear h
 go_wp2_with fail
 refine cM (cV ⟨sn,sa,sl,sc,sb,sm,sd⟩ a _ HS.out) fun x11 w11 hE G11=>?_
 refine mV6 hE ?_ HX HS HT B2 B3 B4;clear HX HS HT B2 B3 B4;intro HX HS HT B2 B3 B4;have hs_w11:=hE.size;replace b_B2:=bX3 B2;replace b_B3:=bX3 B3;replace b_B4:=bX3 B4;go_wp2;refine aY (F:=fun W=>bodyPost _ _ _ _ _ W) B4.out rfl ?_;intro w12 T;replace HX:=Hi (T.ext HX.out zo);replace HS:=Hi (HS.out.keep T.keep);replace HT:=Hi (HT.out.keep T.keep);replace B2:=Hi (T.rest _ _ zo B2.out);replace B3:=Hi (T.rest _ _ zo B3.out);replace B4:=Hi (T.bx);replace G11:=Hi (G11.out.keep T.keep);have hs_w12:=nle T.size;have hr_w12:=nle T.size.symm;clear T;replace b_B2:=bX3 B2;replace b_B3:=bX3 B3;replace b_B4:=bX3 B4;exact nXa (v:=RH.v x11) (by simp [results,Tryz.results95,go_sem,b_B4.1]) rfl ⟨x11,rfl,HX.out,by rw [HV.out];exact G11.out⟩
theorem tT(s t:RH)(a b:Rat)(w:World)(hs:aR w s a)(ht:aR w t b):ar 96 [s.v,t.v] w RH.v (fun x w'=>aB w' x (hiV a b)):=by
 have HX:=Hi (Ext.refl w);have HS:=Hi hs;have HT:=Hi ht;clear hs ht;unfold ar;go_enter Tryz.func96,Tryz.ntmps96;obtain ⟨sn,sa,sl,sc,sb,sm,sd⟩:=s;obtain ⟨tn,ta,tl,tc,tb,tm,td⟩:=t
 go_upto_region 1 with fail
 refine qX ?_;intro w1 hE B2 B3 B4 hz_w1 hr_w1;refine mV3 hE ?_ HX HS HT;clear HX HS HT;intro HX HS HT;have hs_w1:=hE.size;replace b_B2:=bX3 B2;replace b_B3:=bX3 B3;replace b_B4:=bX3 B4
 go_wp2_with fail
 refine cM (jE ⟨sn,sa,sl,sc,sb,sm,sd⟩ ⟨tn,ta,tl,tc,tb,tm,td⟩ a b _ HS.out HT.out) fun x7 w7 hE _=>?_
 refine mV6 hE ?_ B2 B3 B4 HX HS HT;clear B2 B3 B4 HX HS HT;intro B2 B3 B4 HX HS HT;have hs_w7:=hE.size;replace b_B2:=bX3 B2;replace b_B3:=bX3 B3;replace b_B4:=bX3 B4;by_cases h:a<b
 case pos =>
  have HV:Hid (hiV a b=b):=Hi (by rw [←Cz,if_pos h]);rw [decide_eq_true h];clear h
  go_wp2_with fail
  refine cM (cV ⟨tn,ta,tl,tc,tb,tm,td⟩ b _ HT.out) fun x9 w9 hE G9=>?_
  refine mV6 hE ?_ B2 B3 B4 HX HS HT;clear B2 B3 B4 HX HS HT;intro B2 B3 B4 HX HS HT;have hs_w9:=hE.size;replace b_B2:=bX3 B2;replace b_B3:=bX3 B3;replace b_B4:=bX3 B4;go_wp2;refine aY (F:=fun W=>bodyPost _ _ _ _ _ W) B4.out rfl ?_;intro w10 T;replace HX:=Hi (T.ext HX.out zo);replace HS:=Hi (HS.out.keep T.keep);replace HT:=Hi (HT.out.keep T.keep);replace B2:=Hi (T.rest _ _ zo B2.out);replace B3:=Hi (T.rest _ _ zo B3.out);replace B4:=Hi (T.bx);replace G9:=Hi (G9.out.keep T.keep);have hs_w10:=nle T.size;have hr_w10:=nle T.size.symm;clear T;replace b_B2:=bX3 B2;replace b_B3:=bX3 B3;replace b_B4:=bX3 B4;exact nXa (v:=RH.v x9) (by simp [results,Tryz.results96,go_sem,b_B4.1]) rfl ⟨x9,rfl,HX.out,by rw [HV.out];exact G9.out⟩
 have HV:Hid (hiV a b=a):=Hi (by rw [←Cz,if_neg h]);rw [decide_eq_false h];clear h
 go_wp2_with fail
 refine cM (cV ⟨sn,sa,sl,sc,sb,sm,sd⟩ a _ HS.out) fun x11 w11 hE G11=>?_
 refine mV6 hE ?_ HX HS HT B2 B3 B4;clear HX HS HT B2 B3 B4;intro HX HS HT B2 B3 B4;have hs_w11:=hE.size;replace b_B2:=bX3 B2;replace b_B3:=bX3 B3;replace b_B4:=bX3 B4;go_wp2;refine aY (F:=fun W=>bodyPost _ _ _ _ _ W) B4.out rfl ?_;intro w12 T;replace HX:=Hi (T.ext HX.out zo);replace HS:=Hi (HS.out.keep T.keep);replace HT:=Hi (HT.out.keep T.keep);replace B2:=Hi (T.rest _ _ zo B2.out);replace B3:=Hi (T.rest _ _ zo B3.out);replace B4:=Hi (T.bx);replace G11:=Hi (G11.out.keep T.keep);have hs_w12:=nle T.size;have hr_w12:=nle T.size.symm;clear T;replace b_B2:=bX3 B2;replace b_B3:=bX3 B3;replace b_B4:=bX3 B4;exact nXa (v:=RH.v x11) (by simp [results,Tryz.results96,go_sem,b_B4.1]) rfl ⟨x11,rfl,HX.out,by rw [HV.out];exact G11.out⟩
theorem eB(s t:RH)(a b:Rat)(w:World)(hs:aR w s a)(ht:aR w t b):ar 39 [IvV (s,t)] w IvV (fun x w'=>aB w' x.1 (loV a b)∧aB w' x.2 (hiV a b)):=by
 have HX:=Hi (Ext.refl w);have HS:=Hi hs;have HT:=Hi ht;clear hs ht;unfold ar;go_enter Tryz.func39,Tryz.ntmps39;obtain ⟨sn,sa,sl,sc,sb,sm,sd⟩:=s;obtain ⟨tn,ta,tl,tc,tb,tm,td⟩:=t
 go_upto_region 1 with fail
 refine jZ ?_;intro w1 hE B1 B2 hz_w1 hr_w1;refine mV3 hE ?_ HX HS HT;clear HX HS HT;intro HX HS HT;have hs_w1:=hE.size;replace b_B1:=bX3 B1;replace b_B2:=bX3 B2;refine wpG 11 (fun opIx=>match opIx with
  | 4=>sR (loV a b)
  | 9=>sR (hiV a b)
  | _=>.quiet) (fun _=>[]) fun w0 he0 hz0 hc0 hf0=>?_
 refine wps he0 (fun w1 hW hG=>?_) fun x20=>?_
 ·exact spc [RH.v ⟨sn,sa,sl,sc,sb,sm,sd⟩,RH.v ⟨tn,ta,tl,tc,tb,tm,td⟩] Tryz.func95 (tS _ _ _ _ _ (HS.out.ext hW) (HT.out.ext hW))
 refine qZ ?_;refine wps he0 (fun w1 hW hG=>?_) fun x21=>?_
 ·exact spc [RH.v ⟨sn,sa,sl,sc,sb,sm,sd⟩,RH.v ⟨tn,ta,tl,tc,tb,tm,td⟩] Tryz.func96 (tT _ _ _ _ _ (HS.out.ext hW) (HT.out.ext hW))
 refine qZ ?_;refine am ?_;intro w2 hI;have hE:=he0.out.trans hI.ext;have G20:=gT (hI.facts 4);have G21:=gT (hI.facts 9);clear hI he0 hz0 hc0 hf0;refine mV5 hE ?_ B1 B2 HX HS HT;clear B1 B2 HX HS HT;intro B1 B2 HX HS HT;have hs_w2:=hE.size;replace b_B1:=bX3 B1;replace b_B2:=bX3 B2;simp only [pD];go_wp2;refine cz (F:=fun W=>bodyPost _ _ _ _ _ W) B2.out rfl ?_;intro w10 T;replace HX:=Hi (T.ext HX.out zo);replace HS:=Hi (HS.out.keep T.keep);replace HT:=Hi (HT.out.keep T.keep);replace B1:=Hi (T.rest _ _ zo B1.out);replace B2:=Hi (T.bx);replace G20:=Hi (G20.out.keep T.keep);replace G21:=Hi (G21.out.keep T.keep);have hs_w10:=nle T.size;have hr_w10:=nle T.size.symm;clear T;replace b_B1:=bX3 B1;replace b_B2:=bX3 B2;exact nXa (v:=IvV (x20,x21)) (by simp [results,Tryz.results39,go_sem,b_B2.1]) rfl ⟨(x20,x21),rfl,HX.out,G20.out,G21.out⟩
theorem fK(s t:RH)(a b:Rat)(w:World)(hs:aR w s a)(ht:aR w t b):ar 52 [s.v,t.v] w IvV (fun x w'=>aB w' x.1 (loV a b)∧aB w' x.2 (hiV a b)):=by
 have HX:=Hi (Ext.refl w);have HS:=Hi hs;have HT:=Hi ht;clear hs ht;unfold ar;go_enter Tryz.func52,Tryz.ntmps52;obtain ⟨sn,sa,sl,sc,sb,sm,sd⟩:=s;obtain ⟨tn,ta,tl,tc,tb,tm,td⟩:=t
 go_upto_region 1 with fail
 refine qX ?_;intro w1 hE B2 B3 B4 hz_w1 hr_w1;refine mV3 hE ?_ HX HS HT;clear HX HS HT;intro HX HS HT;have hs_w1:=hE.size;replace b_B2:=bX3 B2;replace b_B3:=bX3 B3;replace b_B4:=bX3 B4
 go_wp2_with fail
 refine cM (eB ⟨sn,sa,sl,sc,sb,sm,sd⟩ ⟨tn,ta,tl,tc,tb,tm,td⟩ a b _ HS.out HT.out) fun x8 w8 hE G8=>?_
 refine mV6 hE ?_ B2 B3 B4 HX HS HT;clear B2 B3 B4 HX HS HT;intro B2 B3 B4 HX HS HT;have hs_w8:=hE.size;replace b_B2:=bX3 B2;replace b_B3:=bX3 B3;replace b_B4:=bX3 B4;have HL:=Hi G8.out.1;have HH:=Hi G8.out.2;clear G8;go_wp2;refine cz (F:=fun W=>bodyPost _ _ _ _ _ W) B4.out rfl ?_;intro w10 T;replace HX:=Hi (T.ext HX.out zo);replace HS:=Hi (HS.out.keep T.keep);replace HT:=Hi (HT.out.keep T.keep);replace B2:=Hi (T.rest _ _ zo B2.out);replace B3:=Hi (T.rest _ _ zo B3.out);replace B4:=Hi (T.bx);replace HL:=Hi (HL.out.keep T.keep);replace HH:=Hi (HH.out.keep T.keep);have hs_w10:=nle T.size;have hr_w10:=nle T.size.symm;clear T;replace b_B2:=bX3 B2;replace b_B3:=bX3 B3;replace b_B4:=bX3 B4;exact nXa (v:=IvV x8) (by simp [results,Tryz.results52,go_sem,b_B4.1]) rfl ⟨x8,rfl,HX.out,HL.out,HH.out⟩
def sW(n:Int):Rat:=((n % 25-12:Int):Rat) / ((12:Int):Rat)
theorem nJ(n:Int)(w:World)(h1:-9223372036854775808≤n)(h2:n≤9223372036854775807):ar 31 [.int .i64 n] w RH.v (fun x w'=>aB w' x (sW n)):=by
 have HX:=Hi (Ext.refl w);unfold ar;go_enter Tryz.func31,Tryz.ntmps31
 go_upto_region 1 with fail
 refine nmA ?_;intro w1 hE B2 hz_w1 hr_w1;replace HX:=hE.tr HX;have hs_w1:=hE.size;replace b_B2:=bX3 B2
 go_wp2_with fail
 refine cM (uH n 25 _ h1 h2 dZ dZ) fun x4 w4 hE _=>?_
 refine mV2 hE ?_ B2 HX;clear B2 HX;intro B2 HX;have hs_w4:=hE.size;replace b_B2:=bX3 B2;have e1:=Int.emod_nonneg n (show (25:Int)≠0 by decide);have e2:=Int.emod_lt_of_pos n (show (0:Int)<25 by decide);obtain ⟨m,hm⟩:∃ m,m=n % 25:=⟨_,rfl⟩;have HC:Hid (sW n=((m-12:Int):Rat) / ((12:Int):Rat)):=Hi (by rw [hm];rfl);rw [←hm] at e1 e2 ⊢;clear hm
 go_wp2_with fail
 refine cM (jF (m-12) 12 _ zo zo dZ dZ) fun x6 w6 hE G6=>?_
 refine mV2 hE ?_ B2 HX;clear B2 HX;intro B2 HX;have hs_w6:=hE.size;replace b_B2:=bX3 B2;go_wp2;refine aY (F:=fun W=>bodyPost _ _ _ _ _ W) B2.out rfl ?_;intro w10 T;replace HX:=Hi (T.ext HX.out zo);replace B2:=Hi (T.bx);replace G6:=Hi (G6.out.keep T.keep);have hs_w10:=nle T.size;have hr_w10:=nle T.size.symm;clear T;replace b_B2:=bX3 B2;exact nXa (v:=RH.v x6) (by simp [results,Tryz.results31,go_sem,b_B2.1]) rfl ⟨x6,rfl,HX.out,by rw [HC.out];exact G6.out⟩
theorem oU:∀ m:Nat,m<25→((((m:Int)-12:Int):Rat) / ((12:Int):Rat)).num.natAbs<W32∧((((m:Int)-12:Int):Rat) / ((12:Int):Rat)).den<W32∧-1≤(((m:Int)-12:Int):Rat) / ((12:Int):Rat)∧(((m:Int)-12:Int):Rat) / ((12:Int):Rat)≤1∧(((m:Int)-12:Int):Rat) / ((12:Int):Rat)*12=(((m:Int)-12:Int):Rat):=by decide +kernel
theorem rM(n:Int):∃ m:Nat,m<25∧sW n=(((m:Int)-12:Int):Rat) / ((12:Int):Rat):=by
 have e1:=Int.emod_nonneg n (show (25:Int)≠0 by decide);have e2:=Int.emod_lt_of_pos n (show (0:Int)<25 by decide);refine ⟨(n % 25).toNat,zo,?_⟩;unfold sW;rw [show (((n % 25).toNat:Nat):Int)=n % 25 by omega]
theorem dH(n:Int):Sz 1 (sW n):=by
 obtain ⟨m,hm,e⟩:=rM n;rw [e];have h:=oU m hm;exact ⟨by rw [Nat.pow_one];exact h.1,by rw [Nat.pow_one];exact h.2.1⟩
theorem Bn(n:Int):∃ z:Int,sW n*12=(z:Rat)∧z.natAbs≤12:=by
 obtain ⟨m,hm,e⟩:=rM n;rw [e];exact ⟨(m:Int)-12,(oU m hm).2.2.2.2,zo⟩
theorem Cw(m n:Int)(w:World)(h1:-9223372036854775808≤m)(h2:m≤9223372036854775807)(k1:-9223372036854775808≤n)(k2:n≤9223372036854775807):ar 30 [.int .i64 m,.int .i64 n] w IvV (fun x w'=>aB w' x.1 (loV (sW m) (sW n))∧aB w' x.2 (hiV (sW m) (sW n))):=by
 have HX:=Hi (Ext.refl w);have Z1:=Hi (dH m);have Z2:=Hi (dH n);unfold ar;go_enter Tryz.func30,Tryz.ntmps30
 go_upto_region 1 with fail
 refine nmA ?_;intro w1 hE B4 hz_w1 hr_w1;replace HX:=hE.tr HX;have hs_w1:=hE.size;replace b_B4:=bX3 B4
 go_wp2_with fail
 refine cM (nJ m _ h1 h2) fun x6 w6 hE G6=>?_
 refine mV2 hE ?_ B4 HX;clear B4 HX;intro B4 HX;have hs_w6:=hE.size;replace b_B4:=bX3 B4
 go_wp2_with fail
 refine cM (nJ n _ k1 k2) fun x8 w8 hE G8=>?_
 refine mV3 hE ?_ G6 B4 HX;clear G6 B4 HX;intro G6 B4 HX;have hs_w8:=hE.size;replace b_B4:=bX3 B4
 go_wp2_with fail
 refine cM (fK x6 x8 _ _ _ (G6.out.raw Z1.out dZ) (G8.out.raw Z2.out dZ)) fun x9 w9 hE G9=>?_
 refine mV4 hE ?_ G8 G6 B4 HX;clear G8 G6 B4 HX;intro G8 G6 B4 HX;have hs_w9:=hE.size;replace b_B4:=bX3 B4;have HL:=Hi G9.out.1;have HH:=Hi G9.out.2;clear G9;go_wp2;refine cz (F:=fun W=>bodyPost _ _ _ _ _ W) B4.out rfl ?_;intro w10 T;replace HX:=Hi (T.ext HX.out zo);replace B4:=Hi (T.bx);replace G6:=Hi (G6.out.keep T.keep);replace G8:=Hi (G8.out.keep T.keep);replace HL:=Hi (HL.out.keep T.keep);replace HH:=Hi (HH.out.keep T.keep);have hs_w10:=nle T.size;have hr_w10:=nle T.size.symm;clear T;replace b_B4:=bX3 B4;exact nXa (v:=IvV x9) (by simp [results,Tryz.results30,go_sem,b_B4.1]) rfl ⟨x9,rfl,HX.out,HL.out,HH.out⟩
end Go.Proofs.YtafgmcimcbhhjaaGreat
