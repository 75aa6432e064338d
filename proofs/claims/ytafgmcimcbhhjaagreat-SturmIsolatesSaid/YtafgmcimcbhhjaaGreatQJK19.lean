import Derived.Test.YtafgmcimcbhhjaaGreatQJK18
import Derived.Deep.DeepCutAuto
set_option linter.unusedVariables false
set_option maxHeartbeats 16000000
set_option maxRecDepth 8000
namespace Go.Proofs.YtafgmcimcbhhjaaGreat
open Go.RowKit Go.Front Go.Num Stab Sg
attribute [local go_sem] XW.cell XW.frozen
structure SrK (q:List Rat) (wd:Rat) (D T m Y E K:Nat):Prop where
 sp:Sp6 q wd D T m Y
 tq:tz q=q
 e:E≤32*m
 t:3*T+m+1≤20000
 ln:q.length≤49
 k1:K≤16000000
 wz:Sz 1000 wd
theorem SrK.tm{q:List Rat}{wd:Rat}{D T m Y E K:Nat}(H:SrK q wd D T m Y E K):∀ ms ∈ remsV q,(3*T+m+1)*ms.length≤1000000:=fun ms hm=>by
 have h1:=mM H.sp.ne ms hm;have h2:=H.ln;exact nXf (nXx H.t (show ms.length≤49 by omega)) dZ
theorem SrK.head{q:List Rat}{wd:Rat}{D T m Y E K:Nat}(H:SrK q wd D T m Y E K):0<(remsV q).length∧(remsV q).getD 0 []=ar q:=by
 obtain ⟨l,e⟩:=i7 H.sp.ne;rw [e];exact ⟨by simp,rfl⟩
theorem SrK.sz{q:List Rat}{wd:Rat}{D T m Y E K:Nat}(H:SrK q wd D T m Y E K){e:Nat}{x:Rat}(he:e≤E)(h:Dy D (W32 ^ T) e x):Sz (3*T+m+1) x:=h.sz H.sp.dp H.sp.dl (nXf he H.e)
theorem SxP.ext{b L:Nat}{c:SH}{u:RH}{qs:List Rat}{w w1 w2:World}{e:Ending}(he:Ext w w1)(h:SxP b L c u qs w1 e w2):SxP b L c u qs w e w2 :=
 let ⟨x,L',h1,h2,h3,h4⟩:=h
 ⟨x,L',h1,h2,(Srx.of_ext he).trans h3 (Or.inl rfl),h4.imp id fun h=>nXf he.size h⟩
instance {b L:Nat} {c:SH} {u:RH} {qs:List Rat} {w w1 w2:World} {e:Ending}:Go.Front.Mv w w1 (SxP b L c u qs w1 e w2) (SxP b L c u qs w e w2):=⟨fun e h=>SxP.ext e h⟩

def PrE(a b:Rat×Rat):Prop:=Unit→a=b
theorem vp{a b:Rat}:0<dJ a b↔¬ a≤b:=by
 rw [←AP];omega
theorem oU{q:List Rat}{wd:Rat}{D T m Y E K:Nat}(H:SrK q wd D T m Y E K)(b L:Nat)(c:SH)(u:RH)(x:SH)(qs:List Rat)(s t:RH)(l h:Rat)(lr hr:Bool)(nl nh bf:Int)(d e:Nat)(w:World)(hA:SrA w b L c u x qs)(hn:x.n≤100000)(hc:ChK w c (remsV q) K)(hu:aB w u wd)(hs:aB w s l)(ht:aB w t h)
 (hI:SgI q wd D T Y d e l h lr hr bf)(hde:e+d=E) :
  Calls Tryz.prog 155 #[ptr b,PlV s nl lr,PlV t nh hr] w (SxP b L c u (qs++[(sgS q wd bf d l h lr hr).1,(sgS q wd bf d l h lr hr).2]) w):=by
 obtain ⟨va,vn,vc⟩:=c;obtain ⟨un,ua,ul,uc,ub,um,ud⟩:=u;obtain ⟨sn,sa,sl,sc,sb,sm,sd⟩:=s;obtain ⟨tn,ta,tl,tc,tb,tm,td⟩:=t;obtain ⟨xa,xn,xc⟩:=x;have HX:=Hi (Ext.refl w);have HA:=Hi hA;have BS:=Hi hA.bx;have HS:=Hi hs;have HT:=Hi ht;have HU:=Hi hu;have HC:=Hi hc;have HH:=Hi H;have HI:=Hi hI;have hbl:=hA.blt;have hT2:=H.t;have hk1:=H.k1;have hkk:=hc.k1;have ZU:=Hi H.wz;obtain ⟨hh0,hh1⟩:=H.head;obtain ⟨M0,pa,P,pc,hva,hM0,hcell,hcan,hP,hwz⟩:=hc.at (k:=0) hh0;rw [hh1] at hcan hwz;have HL:=Hi hcan;have HW:=Hi hwz;have HTP:Hid ((3*T+m+1)*P≤1000000):=Hi (AX H.tm hh0 (by rw [hh1];exact hcan.len));have HPl:Hid (P=q.length):=Hi (by have h1:=hcan.len;simp only at h1;rw [←h1,aC,H.tq]);have HBF:Hid (bf=eP (P+1) (ar q) l):=Hi (by rw [hI.bf,HPl.out,zG (by have:=ah q;omega),H.tq]);have ZL:=Hi (H.sz (show e≤E by omega) hI.dl);have hvn:vn=(remsV q).length:=hc.len;have hv0:(0:Int)<(vn:Int):=zo;have hP9:P≤49:=by have h1:=H.ln;have h2:=HPl.out;omega
 have hbfs:-1≤bf∧bf≤1:=by have:=tp (P+1) (ar q) l;rw [←HBF.out] at this;unfold IsS at this;omega
 obtain ⟨r,hr0⟩:∃ r,r=sgS q wd bf d l h lr hr:=⟨_,rfl⟩;have HR0:Hid (PrE (sgS q wd bf d l h lr hr) r):=Hi (fun _=>hr0.symm);have HRle:Hid (r.1≤r.2):=Hi (by rw [hr0];exact (tg H.sp d e hI).le);rw [←hr0];clear hA hs ht hu hc H hI hwz hcan hr0 hh0 hh1 hvn;subst hva;simp only [ptr] at *
 have HL0:=HL;have HU0:=HU;have BS0:=BS;have hcell0:=hcell;go_enter Tryz.func155,Tryz.ntmps155;replace b_BS:=bX3 BS
 go_upto_region 1 with fail
 refine hZ ?_;intro w1 hE B4 B5 hz_w1 hr_w1;refine mV6 hE ?_ HX BS HS HT HU HL;clear HX BS HS HT HU HL;intro HX BS HS HT HU HL;have hs_w1:=hE.size;replace b_BS:=bX3 BS;replace b_B4:=bX3 B4;replace b_B5:=bX3 B5;obtain ⟨b4,hb4⟩:∃ b4,b4=w.heap.size:=⟨_,rfl⟩;obtain ⟨b5,hb5⟩:∃ b5,b5=w.heap.size+1:=⟨_,rfl⟩;have hw4:w.heap.size≤b4:=zo;have hw5:w.heap.size≤b5:=zo;have h45:b4≠b5:=zo;have hM1:M0<w1.heap.size:=zo;rw [←hb5] at B5 ⊢;rw [←hb4] at B4 ⊢;clear hb4 hb5 b_B4 b_B5;replace b_B4:=bX3 B4;replace hcell:=HX.out.cell hcell
 go_upto_region 2 with fail
 go_wp2_with fail
 refine cM (p9 pa P pc (ar q) ⟨sn,sa,sl,sc,sb,sm,sd⟩ l K (3*T+m+1) _ HL.out zo (aX q) HW.out hkk zo HS.out ZL.out zo zo HTP.out) fun x19 w19 hE _=>?_
 refine mV8 hE ?_ B4 B5 HX BS HS HT HU HL;clear B4 B5 HX BS HS HT HU HL;intro B4 B5 HX BS HS HT HU HL;have hs_w19:=hE.size;replace b_BS:=bX3 BS;replace b_B4:=bX3 B4;replace b_B5:=bX3 B5;rw [←HBF.out];clear HBF;have H4:Hid (aB w19 ⟨sn,sa,sl,sc,sb,sm,sd⟩ l):=HS;have H5:Hid (aB w19 ⟨tn,ta,tl,tc,tb,tm,td⟩ h):=HT;have B40:=B4;have B50:=B5;have HX0:=HX;clear HX;clear HS;clear HT;clear HL;clear HU
 (try clear b_BS);clear BS
 clear B4 B5;go_wp2
 go_loopg [] d (fun g wr=>∃ (e:Nat) (l h:Rat) (lr hr:Bool) (s t:RH) (nl nh:Int),e+g=E∧Ext w wr∧wr.heap[b4]?=some (.cells #[.bool s.neg,.slice s.a s.n s.c,.slice s.b s.m s.d,.int .i64 nl,.bool lr] 108 (0,0))∧wr.heap[b5]?=some (.cells #[.bool t.neg,.slice t.a t.n t.c,.slice t.b t.m t.d,.int .i64 nh,.bool hr] 108 (0,0))∧aB wr s l∧aB wr t h∧SgI q wd D T Y g e l h lr hr bf∧PrE (sgS q wd bf g l h lr hr) r)
 case atStart=>exact ⟨e,l,h,lr,hr,⟨sn,sa,sl,sc,sb,sm,sd⟩,⟨tn,ta,tl,tc,tb,tm,td⟩,nl,nh,hde,HX0.out,B40.out,B50.out,H4.out,H5.out,HI.out,HR0.out⟩
 case round =>
  clear HI HR0 ZL hde H4 H5 B40 B50 HX0;obtain ⟨e,l,h,lr,hr,⟨sn,sa,sl,sc,sb,sm,sd⟩,⟨tn,ta,tl,tc,tb,tm,td⟩,nl,nh,hde,g1,g2,g3,g4,g5,g6,g7⟩:=hrel;have HX:=Hi g1;have B4:=Hi g2;have B5:=Hi g3;have HS:=Hi g4;have HT:=Hi g5;have HI:=Hi g6;have HRE:=Hi g7;have HU:=Hi (HU0.out.ext g1);have HL:=Hi (HL0.out.ext g1);have BS:=Hi (g1.block BS0.out);have ZL:=Hi (HH.out.sz (show e≤E by omega) g6.dl);have ZH:=Hi (HH.out.sz (show e≤E by omega) g6.dh);have hwr:=g1.size;clear g1 g2 g3 g4 g5 g6 g7 hcell;simp only at B4 B5;replace b_BS:=bX3 BS;replace b_B4:=bX3 B4;replace b_B5:=bX3 B5;obtain ⟨sg,hsg⟩:∃ k:Bool,k=!(decide (lr=false∧hr=false∧h-l≤wd)):=⟨_,rfl⟩;have HSG:=Hi hsg;obtain ⟨z,hz⟩:∃ z,z=dJ (h-l) wd:=⟨_,rfl⟩;have HZ:=Hi hz;have ZD:Hid (Sz (2*(3*T+m+1)+1) (h-l)):=Hi ((ZH.out.sub ZL.out).mono zo);clear hsg hz;have HW1:=Hi (Ext.refl wr)
  go_upto_region 3 with fail
  go_cut [38] (fun k wc=>k=.bool sg∧Ext wr wc)
  case first =>
   cases lr
   case true =>
    have HSF:Hid (sg=true):=Hi (by rw [HSG.out];rfl);have hf:=HSF.out;subst hf
    go_quiet (fail)
    go_wp2_with fail
    go_meet
    case rel=>exact ⟨rfl,Ext.drewN _ _⟩
   cases hr
   case true =>
    have HSF:Hid (sg=true):=Hi (by rw [HSG.out];rfl);have hf:=HSF.out;subst hf
    go_quiet (fail)
    go_wp2_with fail
    go_meet
    case rel=>exact ⟨rfl,Ext.drewN _ _⟩
   have HSF:Hid (decide (0<z)=sg):=Hi (by
    rw [HSG.out,HZ.out];by_cases hw:h-l≤wd
    ·rw [decide_eq_true (show false=false∧false=false∧h-l≤wd from ⟨rfl,rfl,hw⟩)];exact decide_eq_false (fun k=>vp.1 k hw)
    ·rw [decide_eq_false (show ¬ (false=false∧false=false∧h-l≤wd) from fun k=>hw k.2.2)];exact decide_eq_true (vp.2 hw))
   have hd:=HSF.out;refine ai 19 (fun opIx=>match opIx with
    | 11=>sR (h-l)
    | 16=>sU (.int .i64 z)
    | _=>.quiet) (fun|16=>[11]|_=>[]) kZ kZ (fun w0 he0 hz0 hc0 hf0=>?_)
   replace he0:=Hi he0;simp only [pT]
   repeat (first|(refine wpq fun K h=>?_;go_big_quiet_op;refine h _ ?_;clear h K;(try simp only [hd]))|(refine br rfl rfl rfl rfl ?_;simp only [pS]))
   refine wps he0 (fun w1 hW hG=>?_) fun x20=>?_
   ·exact spc [RH.v ⟨tn,ta,tl,tc,tb,tm,td⟩,RH.v ⟨sn,sa,sl,sc,sb,sm,sd⟩] Tryz.func120 (iZ ⟨tn,ta,tl,tc,tb,tm,td⟩ ⟨sn,sa,sl,sc,sb,sm,sd⟩ h l _ ((HT.out.ext hW).raw ZH.out zo) ((HS.out.ext hW).raw ZL.out zo))
   simp only [pS]
   repeat (first|(refine wpq fun K h=>?_;go_big_quiet_op;refine h _ ?_;clear h K;(try simp only [hd]))|(refine br rfl rfl rfl rfl ?_;simp only [pS]))
   refine wps he0 (fun w1 hW hG=>?_) fun x21=>?_
   ·have g20:=gS (hG 11 dZ);exact spc [x20.v,RH.v ⟨un,ua,ul,uc,ub,um,ud⟩] Tryz.func80 ((by rw [HZ.out];exact fh x20 ⟨un,ua,ul,uc,ub,um,ud⟩ (h-l) wd _ (g20.raw ZD.out zo) ((HU.out.ext hW).raw ZU.out zo)))
   simp only [pS]
   repeat (first|(refine wpq fun K h=>?_;go_big_quiet_op;refine h _ ?_;clear h K;(try simp only [hd]))|(refine br rfl rfl rfl rfl ?_;simp only [pS]))
   refine aq ?_;intro w2 hI;have hE:=he0.out.trans hI.ext;have G20:=gT (hI.facts 11);clear hI he0 hz0 hc0 hf0;refine mV8 hE ?_ HX B4 B5 HL BS HW1 HT HS;clear HX B4 B5 HL BS HW1 HT HS;intro HX B4 B5 HL BS HW1 HT HS;replace HU:=mV hE HU;have hs_w2:=hE.size;replace b_BS:=bX3 BS;replace b_B4:=bX3 B4;replace b_B5:=bX3 B5;simp only [pD]
   go_wp2_with fail
   go_meet
   case rel=>exact ⟨rfl,HW1.out⟩
  case rest =>
   obtain ⟨rfl,hE⟩:=hcut;refine mV8 hE ?_ HX B4 B5 HL BS HW1 HT HS;clear HX B4 B5 HL BS HW1 HT HS;intro HX B4 B5 HL BS HW1 HT HS;replace HU:=mV hE HU;have hs_wc:=hE.size;replace b_BS:=bX3 BS;replace b_B4:=bX3 B4;replace b_B5:=bX3 B5;cases sg
   case false =>
    have hex:lr=false∧hr=false∧h-l≤wd:=by
     have h1:=HSG.out;by_cases h2:lr=false∧hr=false∧h-l≤wd
     ·exact h2
     ·rw [decide_eq_false h2] at h1;exact absurd h1 dZ
    have HRV:Hid (PrE r (l,h)):=Hi (fun _=>by
     rw [←HRE.out ()];cases gk with
     | zero=>rfl
     | succ g0=>unfold sgS;rw [if_pos hex])
    have HLH:=Hi (Rat.le_of_lt HI.out.lt);clear hex;clear HL;clear HU
    (try clear b_BS);clear BS
    go_wp2_with fail
    refine Calls.mono (eO b L ⟨some ⟨M0,0,none⟩,vn,vc⟩ ⟨un,ua,ul,uc,ub,um,ud⟩ ⟨xa,xn,xc⟩ qs ⟨sn,sa,sl,sc,sb,sm,sd⟩ ⟨tn,ta,tl,tc,tb,tm,td⟩ l h (3*T+m+1) _ (HA.out.ext HX.out) hn HS.out HT.out ZL.out ZH.out zo HLH.out) ?_;intro e2 w2 hp;have HP:=Hi (SxP.ext HX.out hp);obtain ⟨x2,L2,rfl,-⟩:=hp;go_wp2
    first
     | exact bodyPost_end (results_none rfl _ _ _) rfl (by rw [HRV.out ()];exact HP.out)
     | exact nXa (results_none rfl _ _ _) rfl (by rw [HRV.out ()];exact HP.out)
   have hne:¬ (lr=false∧hr=false∧h-l≤wd):=by
    have h1:=HSG.out;intro h2;rw [decide_eq_true h2] at h1;exact absurd h1 dZ
   obtain ⟨d0,rfl⟩:∃ d0,gk=d0+1:=by
    cases gk with
    | zero=>exact absurd (HI.out.base HH.out.sp) hne
    | succ d0=>exact ⟨d0,rfl⟩
   obtain ⟨M,hM⟩:∃ M,M=md6 l h:=⟨_,rfl⟩;have HM:Hid (M=mdV l h):=Hi hM;have DM:Hid (Dy D (W32 ^ T) (e+1) M):=Hi (by rw [hM];exact HI.out.dl.mid HI.out.dh);have ZM:Hid (Sz (3*T+m+1) M):=Hi (HH.out.sz zo DM.out);obtain ⟨y,hy⟩:∃ y,y=Sg.sg (evV q M):=⟨_,rfl⟩;have HY:Hid (Sg.sg (evV (ar q) M)=y):=Hi (by rw [mB,hy]);have HST:Hid (PrE r (if y=0 then (M,M) else if y=bf then sgS q wd bf d0 M h false hr else sgS q wd bf d0 l M lr false)):=Hi (fun _=>by
    rw [←HRE.out (),hy,hM];show (if lr=false∧hr=false∧h-l≤wd then (l,h) else if Sg.sg (evV q (md6 l h))=0 then (md6 l h,md6 l h) else if Sg.sg (evV q (md6 l h))=bf then sgS q wd bf d0 (md6 l h) h false hr else sgS q wd bf d0 l (md6 l h) lr false)=_;rw [if_neg hne])
   have HNX:Hid (y≠0→(y=bf→SgI q wd D T Y d0 (e+1) M h false hr bf)∧(y≠bf→SgI q wd D T Y d0 (e+1) l M lr false bf)):=Hi (fun hy0=>by
    rw [hM,hy,hM];rw [hy,hM] at hy0;exact HI.out.next HH.out.sp hy0)
   have hys:-1≤y∧y≤1:=by have:=nH (evV q M);rw [←hy] at this;unfold IsS at this;omega
   clear hM hy hne HSG;clear HU
   (try clear b_BS);clear BS
   go_wp2_with fail
   refine cM (n7 ⟨sn,sa,sl,sc,sb,sm,sd⟩ ⟨tn,ta,tl,tc,tb,tm,td⟩ l h (3*T+m+1) _ (HS.out.raw ZL.out zo) (HT.out.raw ZH.out zo) ZL.out ZH.out zo) fun x44 w44 hE G44=>?_
   refine mV7 hE ?_ HX B4 B5 HL HW1 HT HS;clear HX B4 B5 HL HW1 HT HS;intro HX B4 B5 HL HW1 HT HS;have hs_w44:=hE.size;replace b_B4:=bX3 B4;replace b_B5:=bX3 B5;rw [←HM.out] at G44;obtain ⟨mn,ma,ml,mc,mb,mm,md⟩:=x44;have GM:=Hi G44.out;clear G44
   go_upto_region 5 with fail
   refine nmA ?_;intro w45 hE B8 hz_w45 hr_w45;refine mV8 hE ?_ HX B4 B5 HL HW1 HT HS GM;clear HX B4 B5 HL HW1 HT HS GM;intro HX B4 B5 HL HW1 HT HS GM;have hs_w45:=hE.size;replace b_B4:=bX3 B4;replace b_B5:=bX3 B5;replace b_B8:=bX3 B8
   go_wp2_with fail
   refine cM (fQ pa P pc (ar q) ⟨mn,ma,ml,mc,mb,mm,md⟩ M K (3*T+m+1) _ HL.out GM.out zo HW.out ZM.out zo hkk zo zo HTP.out) fun x47 w47 hE _=>?_
   refine mV8 hE ?_ B8 HX B4 B5 HL HW1 HT HS;clear B8 HX B4 B5 HL HW1 HT HS;intro B8 HX B4 B5 HL HW1 HT HS;replace GM:=mV hE GM;have hs_w47:=hE.size;replace b_B4:=bX3 B4;replace b_B5:=bX3 B5;replace b_B8:=bX3 B8;rw [HY.out];clear HL;by_cases hy0:y=0
   case pos =>
    have HRV:Hid (PrE r (M,M)):=Hi (fun _=>by rw [HST.out (),if_pos hy0]);subst hy0
    go_wp2_with fail
    refine Calls.mono (eO b L ⟨some ⟨M0,0,none⟩,vn,vc⟩ ⟨un,ua,ul,uc,ub,um,ud⟩ ⟨xa,xn,xc⟩ qs ⟨mn,ma,ml,mc,mb,mm,md⟩ ⟨mn,ma,ml,mc,mb,mm,md⟩ M M (3*T+m+1) _ (HA.out.ext HX.out) hn GM.out GM.out ZM.out ZM.out zo Rat.le_refl) ?_;intro e2 w2 hp;have HP:=Hi (SxP.ext HX.out hp);obtain ⟨x2,L2,rfl,-⟩:=hp;go_wp2
    first
     | exact bodyPost_end (results_none rfl _ _ _) rfl (by rw [HRV.out ()];exact HP.out)
     | exact nXa (results_none rfl _ _ _) rfl (by rw [HRV.out ()];exact HP.out)
   have hyb:(y == 0)=false:=by rw [nXs];exact hy0
   obtain ⟨n1,n2⟩:=HNX.out hy0;have N1:=Hi n1;have N2:=Hi n2;have HST2:Hid (PrE r (if y=bf then sgS q wd bf d0 M h false hr else sgS q wd bf d0 l M lr false)):=Hi (fun _=>by rw [HST.out (),if_neg hy0]);clear n1 n2 HNX HST hy0;by_cases hyf:y=bf
   case pos =>
    have HRV:Hid (PrE (sgS q wd bf d0 M h false hr) r):=Hi (fun _=>by rw [HST2.out (),if_pos hyf]);have HIN:=Hi (N1.out hyf);subst hyf;clear HW1;go_wp2
    (try clear b_B8);clear B8
    refine kS (F:=fun W=>Handed _ _ _ W) B4.out rfl ?_;intro w48 T;replace HX:=Hi (T.ext HX.out zo);replace HS:=Hi (HS.out.keep T.keep);replace HT:=Hi (HT.out.keep T.keep);replace B4:=Hi (T.bx);replace B5:=Hi (T.rest _ _ zo B5.out);replace GM:=Hi (GM.out.keep T.keep);have hs_w48:=nle T.size;have hr_w48:=nle T.size.symm;clear T;replace b_B4:=bX3 B4;replace b_B5:=bX3 B5
    go_roundg d0
    case measure=>omega
    case rel=>exact ⟨e+1,M,h,false,hr,⟨mn,ma,ml,mc,mb,mm,md⟩,⟨tn,ta,tl,tc,tb,tm,td⟩,0,nh,zo,HX.out,B4.out,B5.out,GM.out,HT.out,HIN.out,HRV.out⟩
   have hyfb:(y == bf)=false:=by rw [nXs];exact hyf
   have HRV:Hid (PrE (sgS q wd bf d0 l M lr false) r):=Hi (fun _=>by rw [HST2.out (),if_neg hyf]);have HIN:=Hi (N2.out hyf);clear hyf HST2 N1 N2;clear HW1;go_wp2
   (try clear b_B8);clear B8
   refine kS (F:=fun W=>Handed _ _ _ W) B5.out rfl ?_;intro w48 T;replace HX:=Hi (T.ext HX.out zo);replace HS:=Hi (HS.out.keep T.keep);replace HT:=Hi (HT.out.keep T.keep);replace B4:=Hi (T.rest _ _ zo B4.out);replace B5:=Hi (T.bx);replace GM:=Hi (GM.out.keep T.keep);have hs_w48:=nle T.size;have hr_w48:=nle T.size.symm;clear T;replace b_B4:=bX3 B4;replace b_B5:=bX3 B5
   go_roundg d0
   case measure=>omega
   case rel=>exact ⟨e+1,l,M,lr,false,⟨sn,sa,sl,sc,sb,sm,sd⟩,⟨mn,ma,ml,mc,mb,mm,md⟩,nl,0,zo,HX.out,B4.out,B5.out,HS.out,GM.out,HIN.out,HRV.out⟩
theorem SrK.var{q:List Rat}{wd:Rat}{D T m Y E K:Nat}(H:SrK q wd D T m Y E K)(x:Rat):cw (remsV q) x=v6 q x∧rtV (remsV q) x=decide (evV q x=0):=by
 refine ⟨(eD q x).symm,?_⟩;unfold rtV;rw [H.head.2,mB];by_cases h:evV q x=0
 ·rw [decide_eq_true h,decide_eq_true (cL.2 h)]
 ·rw [decide_eq_false h,decide_eq_false (fun k=>h (cL.1 k))]
theorem SrK.vle{q:List Rat}{wd:Rat}{D T m Y E K:Nat}(H:SrK q wd D T m Y E K)(x:Rat):v6 q x≤50:=by
 have h1:=C5 q x;have h2:=i6 q;have h3:=H.ln;rw [pL,nXl] at h1;omega
theorem tM(q:List Rat)(lo M hi:Rat):opc q lo hi=opc q lo M+(if evV q M=0 then 1 else 0)+opc q M hi:=by
 unfold opc;omega
theorem pf{q:List Rat}{wd:Rat}{D T m Y:Nat}(H:Sp6 q wd D T m Y){lo hi:Rat}(h:lo<hi):0≤opc q lo hi:=by
 have h1:=jt H.ne H.cp (Rat.le_of_lt h);unfold opc;by_cases hz:evV q hi=0
 ·rw [if_pos hz];have k3:v6 q lo≠v6 q hi:=fun k=>absurd hz (nC H.ne H.cp k ((lo+hi) / 2) hi ⟨by have:=aw (a:=lo+hi) (b:=2) dZ;grind,by have:=aw (a:=lo+hi) (b:=2) dZ;grind⟩ ⟨h,Rat.le_refl⟩ (by have:=aw (a:=lo+hi) (b:=2) dZ;grind)).2.1
  omega
 ·rw [if_neg hz];omega
def OpP(q:List Rat)(wd:Rat)(D T m Y E K d:Nat):Prop :=
 ∀ (e:Nat),d+e=E→∀ (b L:Nat) (c:SH) (u:RH) (x:SH) (qs:List Rat) (s t:RH) (lo hi:Rat) (w0 w:World),Ext w0 w→w0.heap.size≤b→w0.heap.size≤L→ChK w0 c (remsV q) K→SrA w b L c u x qs→aB w u wd→aB w s lo→aB w t hi→lo<hi→Dy D (W32 ^ T) e lo→Dy D (W32 ^ T) e hi→(hi-lo)*((W32 ^ Y:Nat):Rat)≤((2 ^ d:Nat):Rat)→(qs.length:Int)+2*opc q lo hi≤2000 →
  Calls Tryz.prog 89 #[ptr b,PlV s (v6 q lo:Nat) (decide (evV q lo=0)),PlV t (v6 q hi:Nat) (decide (evV q hi=0))] w (SxP b L c u (qs++flP (opS q wd d lo hi)) w)
def LsE(a b:List Rat):Prop:=Unit→a=b
def LLE(a b:List (List Rat)):Prop:=Unit→a=b
theorem SrA.len{w:World}{b L:Nat}{c:SH}{u:RH}{x:SH}{qs:List Rat}(h:SrA w b L c u x qs):qs.length=x.n*2:=h.own.len
theorem SrA.same{w w2:World}{b L:Nat}{c:SH}{u:RH}{x:SH}{qs:List Rat}(h:SrA w b L c u x qs)(he:Ext w w2):SxP b L c u qs w (.returned (.tuple #[])) w2:=⟨x,L,rfl,h.ext he,Srx.of_ext he,Or.inl rfl⟩
theorem nT{q:List Rat}{wd:Rat}{D T m Y E K:Nat}(H:SrK q wd D T m Y E K)(d:Nat)(ih:∀ d',d=d'+1→OpP q wd D T m Y E K d'):OpP q wd D T m Y E K d:=by
 intro e hde b L c u x qs s t lo hi w0 w hE0 hb0 hL0 hc hA hu hs ht hlt ha hb hwd hlen;obtain ⟨va,vn,vc⟩:=c;obtain ⟨un,ua,ul,uc,ub,um,ud⟩:=u;obtain ⟨sn,sa,sl,sc,sb,sm,sd⟩:=s;obtain ⟨tn,ta,tl,tc,tb,tm,td⟩:=t;obtain ⟨xa,xn,xc⟩:=x;have HX:=Hi (Ext.refl w);have HE0:=Hi hE0;have HC:=Hi hc;have HA:=Hi hA;have HU:=Hi hu;have HS:=Hi hs;have HT:=Hi ht;have HLT:=Hi hlt;have DA:=Hi ha;have DB:=Hi hb;have HWD:=Hi hwd;have IH:=Hi ih;have HH:=Hi H;have hT2:=H.t;have hbl:=hA.blt;have hLl:=hA.lt;have hxn:=hA.len;have hop:=pf H.sp hlt;have ZA:=Hi (H.sz (show e≤E by omega) ha);have ZB:=Hi (H.sz (show e≤E by omega) hb);have hv1:=H.vle lo;have hv2:=H.vle hi;obtain ⟨n1,hn1⟩:∃ k,k=v6 q lo:=⟨_,rfl⟩;obtain ⟨n2,hn2⟩:∃ k,k=v6 q hi:=⟨_,rfl⟩;obtain ⟨r1,hr1⟩:∃ k:Bool,k=decide (evV q lo=0):=⟨_,rfl⟩;obtain ⟨r2,hr2⟩:∃ k:Bool,k=decide (evV q hi=0):=⟨_,rfl⟩;obtain ⟨z,hz⟩:∃ k,k=opc q lo hi:=⟨_,rfl⟩;have HZE:Hid (z=(n1:Int)-(n2:Int)-(if r2=true then 1 else 0)):=Hi (by
  rw [hz,hn1,hn2,hr2];unfold opc;by_cases k:evV q hi=0
  ·rw [if_pos k,if_pos (decide_eq_true k)]
  ·rw [if_neg k,if_neg (by rw [decide_eq_false k];exact Bool.noConfusion)])
 rw [←hn1] at hv1 ⊢;rw [←hn2] at hv2 ⊢;rw [←hr1,←hr2];rw [←hz] at hop hlen;have HZ:=Hi hz;have HN1:=Hi hn1;have HN2:=Hi hn2;have HR1:=Hi hr1;have HR2:=Hi hr2;have hx0:xn≤1000:=by simp only at hxn;omega
 clear hE0 hc hA hu hs ht hlt ha hb hwd ih H hn1 hn2 hr1 hr2 hz hxn;simp only [ptr] at *
 go_enter Tryz.func89,Tryz.ntmps89
 go_upto_region 1 with fail
 refine hZ ?_;intro w1 hE B4 B5 hz_w1 hr_w1;refine mV4 hE ?_ HX HU HS HT;clear HX HU HS HT;intro HX HU HS HT;have hs_w1:=hE.size;replace b_B4:=bX3 B4;replace b_B5:=bX3 B5
 go_upto_if 14 with fail
 go_cut [6] (fun k wc=>k=.int .i64 z∧w1=wc)
 case first =>
  cases r2
  case true =>
   have hzz:(n1:Int)-n2-1=z:=by have:=HZE.out;rw [if_pos rfl] at this;omega
   go_wp2
   go_meet
   case rel=>exact ⟨by first|rfl|rw [hzz],rfl⟩
  case false =>
   have hzz:(n1:Int)-n2=z:=by have:=HZE.out;rw [if_neg dZ] at this;omega
   go_wp2
   go_meet
   case rel=>exact ⟨by first|rfl|rw [hzz],rfl⟩
 case rest =>
 obtain ⟨rfl,rfl⟩:=hcut;by_cases hz0:z=0
 case pos =>
  have HV:Hid (LsE (flP (opS q wd d lo hi)) []):=Hi (fun _=>by
   have e1:opS q wd d lo hi=[]:=by cases d <;> (unfold opS;rw [if_pos (by rw [←HZ.out];exact hz0)])
   rw [e1];rfl)
  subst hz0;go_wp2
  first
   | (refine bodyPost_end (results_none rfl _ _ _) rfl ?_;rw [HV.out (),List.append_nil];exact HA.out.same HX.out)
   | (refine nXa (results_none rfl _ _ _) rfl ?_;rw [HV.out (),List.append_nil];exact HA.out.same HX.out)
 have hz0b:(z == 0)=false:=by rw [nXs];exact hz0
 by_cases hz1:z=1
 case pos =>
  have HV:Hid (LsE (flP (opS q wd d lo hi)) [(sgS q wd (eP (q.length+1) q lo) d lo hi r1 r2).1,(sgS q wd (eP (q.length+1) q lo) d lo hi r1 r2).2]):=Hi (fun _=>by
   have e1:opS q wd d lo hi=[sgS q wd (eP (q.length+1) q lo) d lo hi (decide (evV q lo=0)) (decide (evV q hi=0))]:=by
    have k0:¬ opc q lo hi=0:=by rw [←HZ.out];exact hz0
    have k1:opc q lo hi=1:=by rw [←HZ.out];exact hz1
    cases d with
    | zero=>unfold opS;rw [if_neg k0]
    | succ d0=>unfold opS;rw [if_neg k0,if_pos k1]
   rw [e1,HR1.out,HR2.out];rfl)
  have HI:Hid (SgI q wd D T Y d e lo hi r1 r2 (eP (q.length+1) q lo)):=Hi ⟨HLT.out,DA.out,DB.out,HWD.out,by rw [←HZ.out];exact hz1,rfl,by rw [HR1.out];simp,by rw [HR2.out];simp⟩;subst hz1;clear hz0
  go_wp2_with fail
  refine Calls.mono (oU HH.out b L ⟨va,vn,vc⟩ ⟨un,ua,ul,uc,ub,um,ud⟩ ⟨xa,xn,xc⟩ qs ⟨sn,sa,sl,sc,sb,sm,sd⟩ ⟨tn,ta,tl,tc,tb,tm,td⟩ lo hi r1 r2 (n1:Nat) (n2:Nat) _ d e _ (HA.out.ext HX.out) (show xn≤100000 by omega) (HC.out.ext (HE0.out.trans HX.out)) HU.out HS.out HT.out HI.out zo) ?_;intro e2 w2 hp;have HP:=Hi (SxP.ext HX.out hp);obtain ⟨x2,L2,rfl,-⟩:=hp;go_wp2
  first
   | (refine bodyPost_end (results_none rfl _ _ _) rfl ?_;rw [HV.out ()];exact HP.out)
   | (refine nXa (results_none rfl _ _ _) rfl ?_;rw [HV.out ()];exact HP.out)
 have hz1b:(z == 1)=false:=by rw [nXs];exact hz1
 obtain ⟨d0,rfl⟩:∃ d0,d=d0+1:=by
  cases d with
  | zero=>exact absurd (by rw [HZ.out];exact tN HH.out.sp HLT.out DA.out DB.out HWD.out (by rw [←HZ.out];exact hz0)) hz1
  | succ d0=>exact ⟨d0,rfl⟩
 obtain ⟨M,hM⟩:∃ M,M=md6 lo hi:=⟨_,rfl⟩;have HM:Hid (M=mdV lo hi):=Hi hM;have DM:Hid (Dy D (W32 ^ T) (e+1) M):=Hi (by rw [hM];exact DA.out.mid DB.out);have ZM:Hid (Sz (3*T+m+1) M):=Hi (HH.out.sz zo DM.out);obtain ⟨m1,m2,m3,m4⟩:=nZ (Rat.le_of_lt HLT.out);obtain ⟨w1',w2'⟩:=Sp6.half (Rat.le_of_lt HLT.out) HWD.out;rw [←hM] at m1 m2 m3 m4 w1' w2';have HL1:Hid (lo<M):=Hi (by have:=HLT.out;grind);have HL2:Hid (M<hi):=Hi (by have:=HLT.out;grind);have HW1:=Hi w1';have HW2:=Hi w2';have DA2:=Hi DA.out.up;have DB2:=Hi DB.out.up;have HV:Hid (LsE (flP (opS q wd (d0+1) lo hi)) (flP (opS q wd d0 lo M)++((if evV q M=0 then [M,M] else [])++flP (opS q wd d0 M hi)))):=Hi (fun _=>by
  have e1:opS q wd (d0+1) lo hi=opS q wd d0 lo M++((if evV q M=0 then [(M,M)] else [])++opS q wd d0 M hi):=by
   rw [hM];show (if opc q lo hi=0 then [] else if opc q lo hi=1 then _ else opS q wd d0 lo (md6 lo hi)++((if evV q (md6 lo hi)=0 then [(md6 lo hi,md6 lo hi)] else [])++opS q wd d0 (md6 lo hi) hi))=_;rw [if_neg (by rw [←HZ.out];exact hz0),if_neg (by rw [←HZ.out];exact hz1)]
  rw [e1,f7,f7];split <;> rfl)
 have hsp:=tM q lo M hi;have ho1:=pf HH.out.sp HL1.out;have ho2:=pf HH.out.sp HL2.out;have hf1:((flP (opS q wd d0 lo M)).length:Int)=2*opc q lo M:=by rw [nb];have:=(tO HH.out.sp d0 (e+1) HL1.out DA2.out DM.out HW1.out).len;omega
 have HF1:=Hi hf1;have hf1':=hf1;have HQ1:Hid ((qs.length:Int)+2*opc q lo M≤2000):=Hi (by rw [HZ.out] at hlen;split at hsp <;> omega);have HQ2:Hid ((qs.length:Int)+2*opc q lo M+2*(if evV q M=0 then 1 else 0)+2*opc q M hi≤2000):=Hi (by rw [HZ.out] at hlen;omega);have HO2:=Hi ho2;have hv3:=HH.out.vle M;obtain ⟨n3,hn3⟩:∃ k,k=v6 q M:=⟨_,rfl⟩;obtain ⟨r3,hr3⟩:∃ k:Bool,k=decide (evV q M=0):=⟨_,rfl⟩;rw [←hn3] at hv3;have HN3:=Hi hn3;have HR3:=Hi hr3;obtain ⟨ml2,hml2⟩:∃ l,l=(if evV q M=0 then [M,M] else []):=⟨_,rfl⟩;have HMT:Hid (r3=true→LsE ml2 [M,M]):=Hi (fun k _=>by rw [hml2,if_pos (by rw [hr3] at k;exact of_decide_eq_true k)]);have HMF:Hid (r3=false→LsE ml2 []):=Hi (fun k _=>by rw [hml2,if_neg (by rw [hr3] at k;exact of_decide_eq_false k)]);have HV2:Hid (LsE (qs++flP (opS q wd (d0+1) lo hi)) (((qs++flP (opS q wd d0 lo M))++ml2)++flP (opS q wd d0 M hi))):=Hi (fun _=>by rw [HV.out (),hml2];simp only [List.append_assoc]);have HML:Hid (((((qs++flP (opS q wd d0 lo M))++ml2).length:Nat):Int)+2*opc q M hi≤2000):=Hi (by
  have h1:=HQ2.out;rw [nXi,nXi,Int.natCast_add,Int.natCast_add,hf1',hml2];split at h1 <;> rename_i hz
  ·rw [if_pos hz];simp only [List.length_cons,List.length_nil];omega
  ·rw [if_neg hz];simp only [List.length_nil];omega)
 have HP3:Hid (cw (remsV q) M=n3∧rtV (remsV q) M=r3):=Hi (by rw [hn3,hr3];exact HH.out.var M);clear hM m1 m2 m3 m4 w1' w2' hsp ho1 ho2 hf1 hf1' hn3 hr3 hz0 hz1 hlen hml2 HV;have HP0:=Hi (gA HH.out.sp.ne)
 go_upto_region 8 with fail
 go_wp2_with fail
 refine cM (n7 ⟨sn,sa,sl,sc,sb,sm,sd⟩ ⟨tn,ta,tl,tc,tb,tm,td⟩ lo hi (3*T+m+1) _ (HS.out.raw ZA.out zo) (HT.out.raw ZB.out zo) ZA.out ZB.out zo) fun x32 w32 hE G32=>?_
 refine mV6 hE ?_ B4 B5 HX HU HS HT;clear B4 B5 HX HU HS HT;intro B4 B5 HX HU HS HT;have hs_w32:=hE.size;replace b_B4:=bX3 B4;replace b_B5:=bX3 B5;rw [←HM.out] at G32;obtain ⟨mn,ma,ml,mc,mb,mm,md⟩:=x32;have GM:=Hi G32.out;clear G32
 go_wp2_with fail
 refine cM (jw b ⟨va,vn,vc⟩ ⟨un,ua,ul,uc,ub,um,ud⟩ (.slice xa xn xc) (remsV q) K ⟨mn,ma,ml,mc,mb,mm,md⟩ M (3*T+m+1) _ (HA.out.ext HX.out).bx (HC.out.ext (HE0.out.trans HX.out)) HP0.out GM.out ZM.out zo zo HH.out.tm) fun x33 w33 hE _=>?_
 refine mV7 hE ?_ B4 B5 HX HU HS HT GM;clear B4 B5 HX HU HS HT GM;intro B4 B5 HX HU HS HT GM;have hs_w33:=hE.size;replace b_B4:=bX3 B4;replace b_B5:=bX3 B5;rw [HP3.out.1,HP3.out.2]
 go_upto_region 9 with fail
 refine nmA ?_;intro w34 hE B7 hz_w34 hr_w34;refine mV7 hE ?_ B4 B5 HX HU HS HT GM;clear B4 B5 HX HU HS HT GM;intro B4 B5 HX HU HS HT GM;have hs_w34:=hE.size;replace b_B4:=bX3 B4;replace b_B5:=bX3 B5;replace b_B7:=bX3 B7;obtain ⟨b4,hb4⟩:∃ k,k=w.heap.size:=⟨_,rfl⟩;obtain ⟨b5,hb5⟩:∃ k,k=w.heap.size+1:=⟨_,rfl⟩;obtain ⟨b7,hb7⟩:∃ k,k=w33.heap.size:=⟨_,rfl⟩;have hw4:w.heap.size≤b4∧b4<w34.heap.size:=zo;have hw5:w.heap.size≤b5∧b5<w34.heap.size:=zo;have hw7:w.heap.size≤b7∧b7<w34.heap.size:=zo;rw [←hb7] at B7 ⊢;rw [←hb5] at B5 ⊢;rw [←hb4] at B4 ⊢;clear hb4 hb5 hb7;have HSX:Hid (Srx b L w w34):=Hi (Srx.of_ext HX.out);have HE:=Hi (HE0.out.trans HX.out);have HA1:=Hi (HA.out.ext HX.out);have hw34:=HX.out.size;have hw03:=HE.out.size;clear HX;replace b_B4:=bX3 B4;replace b_B5:=bX3 B5;replace b_B7:=bX3 B7
 go_wp2_with fail
 refine Calls.mono (by
  have h:=IH.out d0 rfl (e+1) zo b L ⟨va,vn,vc⟩ ⟨un,ua,ul,uc,ub,um,ud⟩ ⟨xa,xn,xc⟩ qs ⟨sn,sa,sl,sc,sb,sm,sd⟩ ⟨mn,ma,ml,mc,mb,mm,md⟩ lo M w0 _ HE.out hb0 hL0 HC.out HA1.out HU.out HS.out GM.out HL1.out DA2.out DM.out HW1.out HQ1.out;rw [←HN1.out,←HR1.out,←HN3.out,←HR3.out] at h;exact h) ?_
 rintro e2 w37 ⟨⟨x2a,x2n,x2c⟩,L2,rfl,hA2,T,hL2⟩;have HA2:=Hi hA2;have hL2l:=hA2.lt;have hx2:x2n≤100000:=by
  have h1:=hA2.len;have h2:=HF1.out;have h3:=HQ1.out;rw [nXi] at h1;simp only at h1;omega
 clear hA2;replace HS:=Hi (HS.out.keep T.keep);replace HT:=Hi (HT.out.keep T.keep);replace HU:=Hi (HU.out.keep T.keep);replace B4:=Hi (T.rest zo zo B4.out);replace B5:=Hi (T.rest zo zo B5.out);replace GM:=Hi (GM.out.keep T.keep);replace B7:=Hi (T.rest zo zo B7.out);replace HSX:=Hi (Srx.trans HSX.out T zo);replace HE:=Hi (T.ext HE.out zo zo);have hs_w37:=T.size;clear T;replace b_B4:=bX3 B4;replace b_B5:=bX3 B5;replace b_B7:=bX3 B7
 go_upto_if 39 with fail
 go_cut [] (fun wc=>∃ (x3:SH) (L3:Nat),SrA wc b L3 ⟨va,vn,vc⟩ ⟨un,ua,ul,uc,ub,um,ud⟩ x3 ((qs++flP (opS q wd d0 lo M))++ml2)∧Srx b L2 w37 wc∧(L3=L2∨w37.heap.size≤L3))
 case first =>
  cases r3
  case false =>
   go_wp2_with fail
   go_meet
   case rel=>exact ⟨⟨x2a,x2n,x2c⟩,L2,by rw [HMF.out (by first|trivial|rfl) (),List.append_nil];exact HA2.out,Srx.of_ext (Ext.refl _),Or.inl rfl⟩
  case true =>
   go_wp2_with fail
   refine Calls.mono (eO b L2 ⟨va,vn,vc⟩ ⟨un,ua,ul,uc,ub,um,ud⟩ ⟨x2a,x2n,x2c⟩ _ ⟨mn,ma,ml,mc,mb,mm,md⟩ ⟨mn,ma,ml,mc,mb,mm,md⟩ M M (3*T+m+1) _ HA2.out hx2 GM.out GM.out ZM.out ZM.out zo Rat.le_refl) ?_;rintro e3 w45 ⟨x3,L3,rfl,hA3,hS3,hL3⟩;have HA3:=Hi hA3;have HS3:=Hi hS3;clear hA3 hS3
   go_wp2_with fail
   go_meet
   case rel=>exact ⟨x3,L3,by rw [HMT.out (by first|trivial|rfl) ()];exact HA3.out,HS3.out,hL3⟩
 case rest =>
 obtain ⟨⟨x3a,x3n,x3c⟩,L3,hA3,T,hL3⟩:=hcut;have HA3:=Hi hA3;have hL3l:=hA3.lt;clear hA3;replace HS:=Hi (HS.out.keep T.keep);replace HT:=Hi (HT.out.keep T.keep);replace HU:=Hi (HU.out.keep T.keep);replace B4:=Hi (T.rest zo zo B4.out);replace B5:=Hi (T.rest zo zo B5.out);replace GM:=Hi (GM.out.keep T.keep);replace B7:=Hi (T.rest zo zo B7.out);replace HSX:=Hi (Srx.trans HSX.out T zo);replace HE:=Hi (T.ext HE.out zo zo);have hs_wc:=T.size;clear T;replace b_B4:=bX3 B4;replace b_B5:=bX3 B5;replace b_B7:=bX3 B7
 go_wp2_with fail
 refine Calls.mono (by
  have h:=IH.out d0 rfl (e+1) zo b L3 ⟨va,vn,vc⟩ ⟨un,ua,ul,uc,ub,um,ud⟩ ⟨x3a,x3n,x3c⟩ _ ⟨mn,ma,ml,mc,mb,mm,md⟩ ⟨tn,ta,tl,tc,tb,tm,td⟩ M hi w0 _ HE.out hb0 zo HC.out HA3.out HU.out GM.out HT.out HL2.out DM.out DB2.out HW2.out HML.out;rw [←HN2.out,←HR2.out,←HN3.out,←HR3.out] at h;exact h) ?_
 rintro e4 w49 ⟨x4,L4,rfl,hA4,hS4,hL4⟩;have HF:Hid (SxP b L ⟨va,vn,vc⟩ ⟨un,ua,ul,uc,ub,um,ud⟩ (qs++flP (opS q wd (d0+1) lo hi)) w (.returned (.tuple #[])) w49):=Hi ⟨x4,L4,rfl,by rw [HV2.out ()];exact hA4,HSX.out.trans hS4 zo,zo⟩;clear hA4 hS4;go_wp2;exact bodyPost_end (results_none rfl _ _ _) rfl HF.out
theorem wN{q:List Rat}{wd:Rat}{D T m Y E K:Nat}(H:SrK q wd D T m Y E K)(d:Nat):OpP q wd D T m Y E K d:=by
 induction d with
 | zero=>exact nT H 0 (fun d' h=>by omega)
 | succ d ih =>
  refine nT H (d+1) (fun d' h=>?_);obtain rfl:d=d':=by omega
  exact ih
end Go.Proofs.YtafgmcimcbhhjaaGreat
