import Derived.Test.YtafgmcimcbhhjaaGreatQFK18
set_option linter.unusedVariables false
set_option maxHeartbeats 8000000
set_option maxRecDepth 8000
namespace Go.Proofs.YtafgmcimcbhhjaaGreat.Sg
open Go.RowKit Go.Front Go.Num Go.Stab Go.Proofs.YtafgmcimcbhhjaaGreat
/-! ## Chains of -p -/
def ng(l:List Rat):List Rat:=l.map (·*-1)
theorem jk(l:List Rat)(n:Nat):seq (ng l) n=seq l n*-1:=aQ l (-1) n
theorem ou{l:List Rat}:ng l=[]↔l=[]:=List.map_eq_nil_iff
theorem zq(l:List Rat):(ng l).length=l.length:=nXl ..
theorem AL(l:List Rat):tz (ng l)=ng (tz l):=fj (c:=-1) dZ l
theorem qM(b:Rat):(b*-1).abs=b.abs:=by
 unfold Rat.abs;split <;> split <;> grind
theorem zA(b:Rat):(b*-1)⁻¹=b⁻¹*-1:=by
 by_cases h:b=0
 ·subst h;decide +kernel
 ·have h1:=nYj b h;have h2:=nYj (b*-1) (fun e=>h (by grind));generalize (b*-1)⁻¹=x at *
  generalize b⁻¹=y at *
  have:x=x*(b*y):=by rw [h1,Rat.mul_one]
  rw [this];have h3:x*(b*y)=(b*-1*x)*(y*-1):=by grind
  rw [h3,h2,Rat.one_mul]
theorem AA(a b:Rat):fX a (b*-1)=fX a b:=by
 unfold fX;by_cases ha:a=0
 ·rw [if_pos ha,if_pos ha,qM]
 ·rw [if_neg ha,if_neg ha];by_cases hb:b=0
  ·rw [if_pos hb,if_pos (by rw [hb];grind)]
  ·have e1:a / (b*-1)=-(a / b):=by
    rw [Rat.div_def,Rat.div_def,zA];grind
   rw [if_neg hb,if_neg (fun e=>hb (by grind)),e1,Rat.neg_num,Rat.intCast_neg];rw [show a / -(((a / b).num:Int):Rat)=a / (((a / b).num:Int):Rat)*-1 from by rw [Rat.div_def,show -(((a / b).num:Int):Rat)=(((a / b).num:Int):Rat)*-1 by grind,zA,Rat.div_def];grind,qM]
theorem AU(l:List Rat):bh (ng l)=bh l:=by
 unfold bh ng
 suffices ∀ m,List.foldl fX m (l.map (·*-1))=List.foldl fX m l from this 0
 induction l with
 | nil=>intro m;rfl
 | cons x l ih=>intro m;rw [List.map_cons,List.foldl_cons,List.foldl_cons,AA];exact ih _
theorem tD(p:List Rat):ak (ng p)=ng (ak p):=by
 unfold ak aH;rw [AL,AU];unfold ng;rw [List.map_map,List.map_map];exact List.map_congr_left fun x _=>by show x*-1 / _=x / _*-1;rw [Rat.div_def,Rat.div_def];grind
theorem DZ(l:List Rat)(x:Rat):evV (ng l) x=evV l x*-1:=(bO l (-1) x).trans (nYc ..)
theorem AM{a b:List Rat}(hb:tz b≠[]):ak (ng (bD (ng a) (ng b)))=ng (ak (ng (bD a b))):=by
 obtain ⟨h1,-,-,h4⟩:=cd a hb;have hb2:tz (ng b)≠[]:=by rw [AL];exact fun h=>hb (ou.1 h)
 have h5:=(ic (p:=ng a) (q:=ng b) hb2 (s:=seq (bE a b)) (r:=seq (ng (bD a b))) (F:=1) (N:=(bE a b).length) (Bd.seq _) (fun i hi=>by rw [jk,Bd.seq _ i (by rw [AL,zq] at hi;omega),nYa]) (fun n=>by
  have hs:seq (ng b)=fun i=>-1*seq b i:=funext fun i=>by rw [jk];grind
  rw [Rat.one_mul,jk,jk,h4 n,hs,gL _ (fun i=>-1*seq b i),fV,gL];grind)).2
 have h6:ak (ng (bD (ng a) (ng b)))=ak (ng (ng (bD a b))):=ck (c:=1) dZ (fun n=>by rw [jk,jk,h5 n];grind);rw [h6,tD (ng (bD a b))]
theorem zT:∀ (n:Nat) (a b:List Rat),tz b=b→chn n (ng a) (ng b)=(chn n a b).map ng
 | 0,_,_,_=>rfl
 | n+1,a,b,hb=>by
  unfold chn;by_cases h1:a=[]
  ·rw [if_pos h1,if_pos (ou.2 h1)];rfl
  ·rw [if_neg h1,if_neg (fun h=>h1 (ou.1 h))];by_cases h2:b=[]
   ·rw [if_pos h2,if_pos (ou.2 h2)];rfl
   ·rw [if_neg h2,if_neg (fun h=>h2 (ou.1 h)),List.map_cons];have h3:=AM (a:=a) (b:=b) (by rw [hb];exact h2);have h4:=zT n b (ak (ng (bD a b))) (aJ _);show ng a :: chn n (ng b) (ak (ng (bD (ng a) (ng b))))=_;rw [h3,h4];rfl
theorem s4:∀ (l:List Int) (a:Int),vr (-a) (l.map (fun s=>-s))=vr a l
 | [],_=>rfl
 | s :: l,a=>by
  rw [List.map_cons];unfold vr;by_cases h:s=0
  ·rw [if_pos h,if_pos zo];exact s4 l a
  ·rw [if_neg h,if_neg zo,s4 l s]
   congr 1
   by_cases h2:a≠0∧s≠a
   ·rw [if_pos h2,if_pos zo]
   ·rw [if_neg h2,if_neg zo]
theorem BS(l:List (List Rat))(x:Rat):cT (l.map ng) x=cT l x:=by
 unfold cT;rw [List.map_map,show (fun m=>sg (evV m x)) ∘ ng=fun m=>-(sg (evV m x)) from funext fun m=>by show sg (evV (ng m) x)=_;rw [DZ,df];show _*(-1:Int)=_;omega];rw [show (l.map fun m=>-(sg (evV m x)))=(l.map fun m=>sg (evV m x)).map (fun s=>-s) by rw [List.map_map];rfl];exact s4 _ 0
theorem rR:∀ (n m:Nat) (a b:List Rat),tz b=b→b.length≤n→b.length≤m→chn (n+1) a b=chn (m+1) a b
 | n,m,a,b,hb,h1,h2=>by
  rw [chn,chn];by_cases h3:a=[]
  ·rw [if_pos h3,if_pos h3]
  ·rw [if_neg h3,if_neg h3];by_cases h4:b=[]
   ·rw [if_pos h4,if_pos h4]
   ·rw [if_neg h4,if_neg h4];have h5:=nYg.2 h4;obtain ⟨n',rfl⟩:∃ k,n=k+1:=⟨n-1,zo⟩;obtain ⟨m',rfl⟩:∃ k,m=k+1:=⟨m-1,zo⟩;have h6:=nc a b (by rw [hb];exact h4);rw [hb] at h6;rw [rR n' m' b _ (aJ _) zo zo]
 termination_by n=>n
theorem zM(p:List Rat):(ak (derL p)).length≤p.length:=by
 by_cases h:tz p=[]
 ·have:tz (derL p)=[]:=th (b:=[]) (fun i=>by
   show seq (derL p) i=_;rw [seq_derL,←aT p,h];show _*(0:Rat)=0;rw [nYb])
  rw [bs.2 this];exact Nat.zero_le _
 ·rw [ax];obtain ⟨n,hn,-⟩:=dT h;have:=eF p n hn;have:=af p;omega
theorem rems_same{a b:List Rat}{c:Rat}(hc:0<c)(h:∀ n,seq b n=seq a n*c):remsV b=remsV a:=by
 have h1:ak b=ak a:=ck hc h;have h2:ak (derL b)=ak (derL a):=ck hc (fun n=>by rw [seq_derL,seq_derL,h,nYd]);unfold remsV;rw [h1,h2];exact rR _ _ _ _ (aJ _) (by rw [←h2];exact zM b) (zM a)
theorem Aq(p:List Rat):remsV (ng p)=(remsV p).map ng:=by
 have h2:ak (derL (ng p))=ng (ak (derL p)):=by
  rw [←tD];exact ck (c:=1) dZ (fun n=>by rw [jk,seq_derL,seq_derL,jk];grind)
 unfold remsV;rw [tD,h2,zq];exact zT _ _ _ (aJ _)
theorem nV{a b:List Rat}{c:Rat}(hc:c≠0)(h:∀ n,seq b n=seq a n*c)(x:Rat):cT (remsV b) x=cT (remsV a) x:=by
 by_cases h1:0<c
 ·rw [rems_same h1 h]
 ·rw [rems_same (a:=ng a) (c:=-c) (by grind) (fun n=>by rw [jk,h n];grind),Aq,BS]
theorem rZ{a b:List Rat}(h:∀ x,evV a x*evV b x=1):∃ c:Rat,c≠0∧∀ x,evV b x=c:=by
 have ha:tz a≠[]:=fun h0=>by have:=h 0;rw [av.1 h0,nYa] at this;exact absurd this dZ
 have hb:tz b≠[]:=fun h0=>by have:=h 0;rw [av.1 h0,nYb] at this;exact absurd this dZ
 have h1:∀ x,evV (aI a b) x=evV [1] x:=fun x=>by rw [aU,h x];show (1:Rat)=0*x+1;grind
 have h2:=dm h1;have h3:=lE ha hb;have h4:ln [1]=1:=by decide
 have h5:=dS ha;have h6:=dS hb;have h7:(tz b).length=1:=by show ln b=1;omega
 obtain ⟨c,hc⟩:=List.length_eq_one_iff.1 h7;have h8:∀ x,evV b x=c:=fun x=>by rw [←yu b,hc];show 0*x+c=c;grind
 exact ⟨c,fun h0=>by have:=h 0;rw [h8,h0,nYb] at this;exact absurd this dZ,h8⟩
theorem Aj{p:List Rat}(h:tz p≠[])(h1:Rt p p):∃ c:Rat,c≠0∧∀ n,seq (sqfV p) n=seq p n*c:=by
 obtain ⟨g1,q1,⟨a1,rfl⟩,-,⟨-,-,u,v,⟨bu,rfl⟩,⟨bv,rfl⟩,h4⟩,h2,-⟩:=h1.dv;obtain ⟨g2,q2,⟨a2,rfl⟩,-,⟨⟨k1,⟨b1,rfl⟩,h5⟩,⟨k2,⟨b2,rfl⟩,h6⟩,-⟩,h3,-⟩:=(iq h).dv;have e1:∀ x,evV a1 x=1:=by
  have i1:∀ x,evV (aI (im a1 [1]) p) x=0:=fun x=>by
   rw [aU,eD];show (evV a1 x-(0*x+1))*evV p x=0;have:=h2 x;grind
  have i2:=av.2 i1;have i3:tz (im a1 [1])=[]:=Classical.byContradiction fun hn=>by
   have h7:=lE hn h;have h8:=dS hn;have h9:=dS h;have h0:ln (aI (im a1 [1]) p)=0:=by show (tz _).length=0;rw [i2];rfl
   omega
  intro x;have h7:=av.1 i3 x;rw [eD] at h7;have h8:evV [1] x=1:=by show 0*x+1=(1:Rat);grind
  rw [h8] at h7;grind
 obtain ⟨c,hc,h7⟩:=rZ (a:=ik (aI bu b1) (aI bv b2)) (b:=a2) (fun x=>by
  have i1:=h4 x;rw [e1 x,h5 x,h6 x] at i1;rw [iH,aU,aU];grind)
 refine ⟨c⁻¹,fun h0=>by have k:=nYj c hc;rw [h0,nYb] at k;exact absurd k dZ,fun n=>?_⟩;rw [←aQ];refine gK (fun x=>?_) n;rw [bO,h3 x,h7 x,←nYd,Rat.inv_mul_cancel c hc,Rat.one_mul]
theorem zP{p:List Rat}(h:tz p≠[])(lo hi:Rat):cntV p lo hi=nQ p lo hi:=by
 have hd:∀ (r:List Rat),tz r≠[]→(rtV (remsV r) lo=true↔sg (evV r lo)=0):=fun r hr=>by
  obtain ⟨l,hl⟩:=je hr;unfold rtV;rw [hl,decide_eq_true_eq];show sg (evV (ak r) lo)=0↔_;rw [kM]
 have hne:=(iq h).ne;unfold cntV nQ;rw [eN,eN];by_cases hr:2≤((remsV p).getLast?.getD []).length
 ·have e:rootV p=sqfV p:=by unfold rootV;rw [if_pos hr]
  rw [e];by_cases h0:sg (evV (sqfV p) lo)=0
  ·rw [if_pos h0,if_pos ((hd _ hne).2 h0)]
  ·rw [if_neg h0,if_neg (fun k=>h0 ((hd _ hne).1 k))]
 ·have e:rootV p=p:=by unfold rootV;rw [if_neg hr]
  have hrt:=eV h;rw [e] at hrt ⊢;obtain ⟨c,hc,h1⟩:=Aj h hrt;rw [nV hc h1,nV hc h1];have h2:evV (sqfV p) lo=c*evV p lo:=eL (fun n=>by rw [h1 n,nYc]) lo;by_cases h0:sg (evV p lo)=0
  ·rw [if_pos ((hd _ h).2 h0),if_pos (by rw [h2,df,h0,Int.mul_zero])]
  ·rw [if_neg (fun k=>h0 ((hd _ h).1 k)),if_neg (fun k=>by
    rw [h2,df] at k;rcases Int.mul_eq_zero.1 k with k|k
    ·exact hc (dz.1 k)
    ·exact h0 k)]
theorem pos_eq{p:List Rat}{lo hi:Rat}(hlh:lo≤hi):posV (tz p) lo hi=pC p lo hi:=by
 unfold posV pC;rw [aC];by_cases h:tz p=[]
 ·rw [if_pos h,if_pos h]
 ·rw [if_neg h,if_neg h,l6 hlh,l7 hlh,kM,yu];by_cases h1:sg (evV p lo)≤0
  ·rw [if_pos h1,decide_eq_false (fun k=>by have:=k.2;omega)]
  ·rw [if_neg h1,zP (by rw [aC];exact h)];by_cases h2:nQ (tz p) lo hi=0
   ·rw [decide_eq_true h2,decide_eq_true ⟨h2,zo⟩]
   ·rw [decide_eq_false h2,decide_eq_false (fun k=>h2 k.1)]
end Go.Proofs.YtafgmcimcbhhjaaGreat.Sg
/- Positive for lists of any form. -/
namespace Go.Proofs.YtafgmcimcbhhjaaGreat
open Go.RowKit Go.Front Go.Num Stab
attribute [local go_sem] XW.cell XW.frozen
theorem tV(p:List Rat):Sg.remsV (tz p)=Sg.remsV p :=
 (Sg.rems_same (c:=1) dZ (fun n=>by rw [aT,Rat.mul_one])).symm
theorem AS(p:List Rat):bq (tz p)=bq p:=Pr.mon ⟨1,dZ,fun n=>by rw [aT,Rat.one_mul]⟩
theorem qz(p:List Rat):Sg.sqfV (tz p)=Sg.sqfV p:=by
 have hd:tz (Sg.derL (tz p))=tz (Sg.derL p):=jY (fun n=>by rw [Sg.seq_derL,Sg.seq_derL,aT]);have hg:aM (tz p) (Sg.derL (tz p))=aM p (Sg.derL p):=by
  rw [←hZ,hd,hZ];unfold aM;rw [AS]
 have hq:bE (tz p) (aM p (Sg.derL p))=bE p (aM p (Sg.derL p)):=by unfold bE;rw [aC]
 unfold Sg.sqfV;rw [hg,hq]
theorem zO(p:List Rat)(lo hi:Rat):Sg.cntV (tz p) lo hi=Sg.cntV p lo hi:=by
 have h:Sg.remsV (Sg.rootV (tz p))=Sg.remsV (Sg.rootV p):=by
  unfold Sg.rootV;rw [tV,qz];split
  ·rfl
  ·exact tV p
 unfold Sg.cntV;rw [h]
theorem Ct(p:List Rat)(lo hi:Rat):Sg.posV (tz p) lo hi=Sg.posV p lo hi:=by
 unfold Sg.posV;rw [aC,kL,zO]
theorem Au{p:List Rat}{lo hi:Rat}(h:lo≤hi):Sg.posV p lo hi=pC p lo hi:=by rw [←Ct,Sg.pos_eq h]
open Sg
theorem wK(pa:Option Addr)(P pc:Nat)(p:List Rat)(K:Nat)(s t:RH)(a b:Rat)(T:Nat)(w:World)(h:co w ⟨pa,P,pc⟩ p)(hP:P≤49)(hk:FrK K p)(hkq:FrK K (sqfV p))(hK:K≤12000000)(hK2:(P+1)*(K / 3)≤25000000)
 (hs:aR w s a)(ht:aR w t b)(za:Sz T a)(zb:Sz T b)(hT:1≤T)(hT3:T≤1000) :
  ar 27 [.slice pa P pc,IvV (s,t)] w (fun _:Unit=>.tuple #[.bool (posV p (loV a b) (hiV a b)),.int .i64 0]) (fun _ _=>True):=by
 obtain ⟨sn,sa,sl,sc,sb,sm,sd⟩:=s;obtain ⟨tn,ta,tl,tc,tb,tm,td⟩:=t;have HX:=Hi (Ext.refl w);have LP:=Hi (RIn.of h);have HS:=Hi hs;have HT:=Hi ht;have hlen:=h.len;simp only at hlen;have HKp:=Hi hk;have HKs:=Hi hkq;obtain ⟨S,D,hS,hD,hDW,hF,hSK⟩:=hk;have hSs:=KZ.small hSK;have HF:=Hi hF;have HSW:Hid (∀ y ∈ ak p,Wz S y):=Hi (cG (fun x hx=>hF x (dA hx)) hD);have HSl:Hid ((ak p).length≤P):=Hi (by rw [ax,←hlen];exact af p);have ZA:Hid (Sz T (loV a b)):=Hi (by rcases lC a b with e|e <;> rw [e] <;> assumption);have ZB:Hid (Sz T (hiV a b)):=Hi (by rcases lJ a b with e|e <;> rw [e] <;> assumption);have HLH:Hid (loV (loV a b) (hiV a b)=loV a b∧hiV (loV a b) (hiV a b)=hiV a b):=Hi ⟨l6 (gG a b),l7 (gG a b)⟩;obtain ⟨lo,hlo⟩:∃ lo,lo=loV a b:=⟨_,rfl⟩;obtain ⟨hi,hhi⟩:∃ hi,hi=hiV a b:=⟨_,rfl⟩;rw [←hlo] at ZA;rw [←hhi] at ZB;rw [←hlo,←hhi] at HLH;have HLO:=Hi hlo;have HHI:=Hi hhi;have HLn:=Hi hlen;rw [←hlo,←hhi];clear h hs ht hkq za zb hlo hhi hF hSK hlen;unfold ar;go_enter Tryz.func27,Tryz.ntmps27
 go_upto_region 1 with fail
 refine nmA ?_;intro w1 hE B3 hz_w1 hr_w1;refine mV4 hE ?_ HX LP HS HT;clear HX LP HS HT;intro HX LP HS HT;have hs_w1:=hE.size;replace b_B3:=bX3 B3
 go_wp2_with fail
 refine cM (fH pa P pc p _ LP.out.raw) fun x9 w9 hE _=>?_
 refine mV5 hE ?_ B3 HX LP HS HT;clear B3 HX LP HS HT;intro B3 HX LP HS HT;have hs_w9:=hE.size;replace b_B3:=bX3 B3;by_cases h0:tz p=[]
 case pos =>
  have HE:Hid (posV p lo hi=false):=Hi (by unfold posV;rw [if_pos h0]);have HCk:Hid (me p=3):=Hi (by unfold me;rw [if_neg (by rw [h0];decide),if_pos h0]);rw [HCk.out];clear h0;go_wp2;exact nXa (v:=.tuple #[.bool (posV p lo hi),.int .i64 0]) (by rw [HE.out];simp [results,Tryz.results27,go_sem]) rfl ⟨(),rfl,HX.out,trivial⟩
 have H0:=Hi h0;rw [rS h0 (by rw [HLn.out];exact hP)];clear h0;have HNV:Hid (posV p lo hi=if Sg.sg (evV (ak p) lo)≤0 then false else decide (cntV p lo hi=0)):=Hi (by
  unfold posV;rw [if_neg H0.out])
 go_wp2_with fail
 refine cM (fv ⟨sn,sa,sl,sc,sb,sm,sd⟩ ⟨tn,ta,tl,tc,tb,tm,td⟩ a b _ HS.out HT.out) fun x15 w15 hE G15=>?_
 refine mV5 hE ?_ B3 HX LP HS HT;clear B3 HX LP HS HT;intro B3 HX LP HS HT;have hs_w15:=hE.size;replace b_B3:=bX3 B3;obtain ⟨⟨ln,la,ll,lc,lb,lm,ld⟩,⟨hn,ha,hl,hc,hb,hm,hd⟩⟩:=x15;rw [←HLO.out,←HHI.out] at G15;have HL:=Hi G15.out.1;have HH:=Hi G15.out.2;clear G15;clear HS;clear HT
 go_upto_region 7 with fail
 refine cz B3.out rfl ?_;intro w16 T;replace HX:=Hi (T.ext HX.out zo);replace LP:=Hi (LP.out.put T zo);replace B3:=Hi (T.bx);replace HL:=Hi (HL.out.keep T.keep);replace HH:=Hi (HH.out.keep T.keep);have hs_w16:=nle T.size;have hr_w16:=nle T.size.symm;clear T;replace b_B3:=bX3 B3;obtain ⟨s1,hs1⟩:∃ s1,s1=Sg.sg (evV (ak p) lo):=⟨_,rfl⟩;have HS1:=Hi hs1;rw [←hs1] at HNV;clear hs1;refine wpG 6 (fun opIx=>match opIx with
  | 1=>.spec (SH) (default) (SH.v) (fun x w'=>yR (ak p).length w' x (ak p))
  | 4=>sU (.int .i64 s1)
  | _=>.quiet) (fun|4=>[1]|_=>[]) fun w0 he0 hz0 hc0 hf0=>?_
 refine wps he0 (fun w1 hW hG=>?_) fun x20=>?_
 ·exact spc [.slice pa P pc] Tryz.func77 ((gp pa P pc p S D _ (LP.out.ext hW).raw zo hS zo hD hDW HF.out).wk (fun x w' _ h=>(let ⟨_,_,_,_,h4⟩:=h.lin (by have:=HSl.out;omega);⟨h4.can,h4.len.symm⟩)))
 refine qZ ?_;refine wps he0 (fun w1 hW hG=>?_) fun x21=>?_
 ·have g20:=gS (hG 1 dZ);exact spc [x20.v,RH.v ⟨ln,la,ll,lc,lb,lm,ld⟩] Tryz.func79 ((by rw [HS1.out];exact cZ x20.a x20.n x20.c (ak p) ⟨ln,la,ll,lc,lb,lm,ld⟩ lo S T _ g20.1 (HL.out.ext hW) (by rw [g20.2];have:=HSl.out;omega) HSW.out ZA.out hT hS zo hT3))
 refine qZ ?_;refine am ?_;intro w17 hI;have hE:=he0.out.trans hI.ext;have G20:=gT (hI.facts 1);clear hI he0 hz0 hc0 hf0;refine mV5 hE ?_ HX B3 HH LP HL;clear HX B3 HH LP HL;intro HX B3 HH LP HL;have hs_w17:=hE.size;replace b_B3:=bX3 B3;simp only [pD];clear G20;by_cases hn1:s1≤0
 case pos =>
  have HE:Hid (posV p lo hi=false):=Hi (by rw [HNV.out,if_pos hn1]);go_wp2;exact nXa (v:=.tuple #[.bool (posV p lo hi),.int .i64 0]) (by rw [HE.out];simp [results,Tryz.results27,go_sem]) rfl ⟨(),rfl,HX.out,trivial⟩
 rw [if_neg (fun h=>by omega)] at HNV
 go_wp2_with fail
 refine cM (jB pa P pc p K ⟨ln,la,ll,lc,lb,lm,ld⟩ ⟨hn,ha,hl,hc,hb,hm,hd⟩ lo hi T _ LP.out.raw hP H0.out HKp.out hK hK2 HKs.out (HL.out.raw ZA.out zo) (HH.out.raw ZB.out zo) ZA.out ZB.out hT hT3) fun x25 w25 hE _=>?_
 refine mV5 hE ?_ HX B3 HH LP HL;clear HX B3 HH LP HL;intro HX B3 HH LP HL;have hs_w25:=hE.size;replace b_B3:=bX3 B3;rw [HLH.out.1,HLH.out.2];obtain ⟨c,hcc⟩:∃ c,c=cntV p lo hi:=⟨_,rfl⟩;rw [←hcc] at HNV ⊢;clear hcc;by_cases hc0:c=0
 ·have HE:Hid (posV p lo hi=true):=Hi (by rw [HNV.out,decide_eq_true hc0]);subst hc0;go_wp2;exact nXa (v:=.tuple #[.bool (posV p lo hi),.int .i64 0]) (by rw [HE.out];simp [results,Tryz.results27,go_sem]) rfl ⟨(),rfl,HX.out,trivial⟩
 ·have HE:Hid (posV p lo hi=false):=Hi (by rw [HNV.out,decide_eq_false hc0]);have hcb:(c == 0)=false:=by rw [nXs];exact hc0
  go_wp2;exact nXa (v:=.tuple #[.bool (posV p lo hi),.int .i64 0]) (by rw [HE.out];simp [results,Tryz.results27,go_sem]) rfl ⟨(),rfl,HX.out,trivial⟩
theorem wO(pa:Option Addr)(P pc:Nat)(p:List Rat)(K:Nat)(s t:RH)(a b:Rat)(T:Nat)(w:World)(N:Nat)(h:co w ⟨pa,P,pc⟩ p)(hP:P≤49)(hN:(tz p).length=N)(hk:FrK K p)(hko:OkC K (2*(N+1)) (ak p))(hK:K≤12000000)(hK2:(N+1)*(K / 3)≤25000000)
 (hs:aR w s a)(ht:aR w t b)(za:Sz T a)(zb:Sz T b)(hT:1≤T)(hT3:T≤1000) :
  ar 26 [.slice pa P pc,IvV (s,t)] w (fun _:Unit=>.tuple #[.bool (dX p (loV a b) (hiV a b)),.int .i64 0]) (fun _ _=>True):=by
 obtain ⟨sn,sa,sl,sc,sb,sm,sd⟩:=s;obtain ⟨tn,ta,tl,tc,tb,tm,td⟩:=t;have HX:=Hi (Ext.refl w);have LP:=Hi (RIn.of h);have HS:=Hi hs;have HT:=Hi ht;have hlen:=h.len;simp only at hlen;have HKo:=Hi hko;obtain ⟨S,D,hS,hD,hDW,hF,hSK⟩:=hk;have hSs:=KZ.small hSK;have HF:=Hi hF;have HSW:Hid (∀ y ∈ ak p,Wz S y):=Hi (cG (fun x hx=>hF x (dA hx)) hD);have HSl:Hid ((ak p).length=N):=Hi (by rw [ax,hN]);have hNP:N≤P:=by rw [←hN,←hlen];exact af p
 have HLN:=Hi hN;have ZA:Hid (Sz T (loV a b)):=Hi (by rcases lC a b with e|e <;> rw [e] <;> assumption);have ZB:Hid (Sz T (hiV a b)):=Hi (by rcases lJ a b with e|e <;> rw [e] <;> assumption);obtain ⟨lo,hlo⟩:∃ lo,lo=loV a b:=⟨_,rfl⟩;obtain ⟨hi,hhi⟩:∃ hi,hi=hiV a b:=⟨_,rfl⟩;rw [←hlo] at ZA;rw [←hhi] at ZB;have HLO:=Hi hlo;have HHI:=Hi hhi;have HLn:=Hi hlen;rw [←hlo,←hhi];clear h hs ht hko za zb hlo hhi hF hSK hlen hN;unfold ar;go_enter Tryz.func26,Tryz.ntmps26
 go_upto_region 1 with fail
 refine nmA ?_;intro w1 hE B3 hz_w1 hr_w1;refine mV4 hE ?_ HX LP HS HT;clear HX LP HS HT;intro HX LP HS HT;have hs_w1:=hE.size;replace b_B3:=bX3 B3
 go_wp2_with fail
 refine cM (fH pa P pc p _ LP.out.raw) fun x8 w8 hE _=>?_
 refine mV5 hE ?_ B3 HX LP HS HT;clear B3 HX LP HS HT;intro B3 HX LP HS HT;have hs_w8:=hE.size;replace b_B3:=bX3 B3;by_cases h0:tz p=[]
 case pos =>
  have HE:Hid (dX p lo hi=true):=Hi (by unfold dX;rw [if_pos h0]);have HCk:Hid (me p=3):=Hi (by unfold me;rw [if_neg (by rw [h0];decide),if_pos h0]);rw [HCk.out];clear h0;go_wp2;exact nXa (v:=.tuple #[.bool (dX p lo hi),.int .i64 0]) (by rw [HE.out];simp [results,Tryz.results26,go_sem]) rfl ⟨(),rfl,HX.out,trivial⟩
 have H0:=Hi h0;rw [rS h0 (by rw [HLn.out];exact hP)];clear h0;have HNV:Hid (dX p lo hi=if Sg.sg (evV (ak p) lo)<0∨Sg.sg (evV (ak p) hi)<0 then false else if lo=hi then true else decide (0<cu (N+1) (ak p) lo) && ! lR (N+1) (ak p) lo hi):=Hi (by
  unfold dX;rw [if_neg H0.out,HLN.out])
 go_wp2_with fail
 refine cM (fv ⟨sn,sa,sl,sc,sb,sm,sd⟩ ⟨tn,ta,tl,tc,tb,tm,td⟩ a b _ HS.out HT.out) fun x14 w14 hE G14=>?_
 refine mV5 hE ?_ B3 HX LP HS HT;clear B3 HX LP HS HT;intro B3 HX LP HS HT;have hs_w14:=hE.size;replace b_B3:=bX3 B3;obtain ⟨⟨ln,la,ll,lc,lb,lm,ld⟩,⟨hn,ha,hl,hc,hb,hm,hd⟩⟩:=x14;rw [←HLO.out,←HHI.out] at G14;have HL:=Hi G14.out.1;have HH:=Hi G14.out.2;clear G14;clear HS;clear HT
 go_upto_region 7 with fail
 refine cz B3.out rfl ?_;intro w15 T;replace HX:=Hi (T.ext HX.out zo);replace LP:=Hi (LP.out.put T zo);replace B3:=Hi (T.bx);replace HL:=Hi (HL.out.keep T.keep);replace HH:=Hi (HH.out.keep T.keep);have hs_w15:=nle T.size;have hr_w15:=nle T.size.symm;clear T;replace b_B3:=bX3 B3
 go_wp2_with fail
 refine cM (gp pa P pc p S D _ LP.out.raw zo hS zo hD hDW HF.out) fun x16 w16 hE G16=>?_
 refine mV5 hE ?_ HX LP B3 HL HH;clear HX LP B3 HL HH;intro HX LP B3 HL HH;have hs_w16:=hE.size;replace b_B3:=bX3 B3;obtain ⟨Lq,hLq,hLq2,hxq,hrq⟩:=dB.lin G16.out (by have:=HSl.out;omega);rw [HSl.out] at hxq;subst hxq;have HQ:=Hi hrq;clear hrq G16;have HS0:Hid (tz (ak p)≠[]):=Hi (by rw [aJ];exact fun h=>H0.out (bs.1 h));obtain ⟨q,hq⟩:∃ q,q=ak p:=⟨_,rfl⟩;have HTQ:Hid (tz q=q):=Hi (by rw [hq];exact aJ p);rw [←hq] at HQ HSW HKo HNV HS0 HSl;clear hq;clear LP
 go_wp2_with fail
 refine cM (cZ (some ⟨Lq,0,none⟩) N N q ⟨ln,la,ll,lc,lb,lm,ld⟩ lo S T _ HQ.out.can HL.out zo HSW.out ZA.out hT hS zo hT3) fun x20 w20 hE _=>?_
 refine mV5 hE ?_ HX B3 HL HH HQ;clear HX B3 HL HH HQ;intro HX B3 HL HH HQ;have hs_w20:=hE.size;replace b_B3:=bX3 B3;obtain ⟨s1,hs1⟩:∃ s1,s1=Sg.sg (evV q lo):=⟨_,rfl⟩;rw [←hs1] at HNV ⊢;clear hs1;by_cases hn1:s1<0
 case pos =>
  have HE:Hid (dX p lo hi=false):=Hi (by rw [HNV.out,if_pos (Or.inl hn1)]);go_wp2;exact nXa (v:=.tuple #[.bool (dX p lo hi),.int .i64 0]) (by rw [HE.out];simp [results,Tryz.results26,go_sem]) rfl ⟨(),rfl,HX.out,trivial⟩
 go_wp2_with fail
 refine cM (cZ (some ⟨Lq,0,none⟩) N N q ⟨hn,ha,hl,hc,hb,hm,hd⟩ hi S T _ HQ.out.can HH.out zo HSW.out ZB.out hT hS zo hT3) fun x26 w26 hE _=>?_
 refine mV5 hE ?_ HX B3 HL HH HQ;clear HX B3 HL HH HQ;intro HX B3 HL HH HQ;have hs_w26:=hE.size;replace b_B3:=bX3 B3;obtain ⟨s2,hs2⟩:∃ s2,s2=Sg.sg (evV q hi):=⟨_,rfl⟩;rw [←hs2] at HNV ⊢;clear hs2;by_cases hn2:s2<0
 case pos =>
  have HE:Hid (dX p lo hi=false):=Hi (by rw [HNV.out,if_pos (Or.inr hn2)]);go_wp2;exact nXa (v:=.tuple #[.bool (dX p lo hi),.int .i64 0]) (by rw [HE.out];simp [results,Tryz.results26,go_sem]) rfl ⟨(),rfl,HX.out,trivial⟩
 rw [if_neg (fun h=>h.elim (fun k=>by omega) (fun k=>by omega))] at HNV
 go_wp2_with fail
 refine cM (gW ⟨ln,la,ll,lc,lb,lm,ld⟩ ⟨hn,ha,hl,hc,hb,hm,hd⟩ lo hi _ (HL.out.raw ZA.out zo) (HH.out.raw ZB.out zo)) fun x33 w33 hE _=>?_
 refine mV5 hE ?_ HX B3 HL HH HQ;clear HX B3 HL HH HQ;intro HX B3 HL HH HQ;have hs_w33:=hE.size;replace b_B3:=bX3 B3;obtain ⟨c,hcc⟩:∃ c,c=dO lo hi:=⟨_,rfl⟩;have HCC:Hid (c=0↔lo=hi):=Hi (by rw [hcc];exact kw);rw [←hcc];clear hcc;by_cases hc0:c=0
 case pos =>
  have HE:Hid (dX p lo hi=true):=Hi (by rw [HNV.out,if_pos (HCC.out.1 hc0)]);subst hc0;go_wp2;exact nXa (v:=.tuple #[.bool (dX p lo hi),.int .i64 0]) (by rw [HE.out];simp [results,Tryz.results26,go_sem]) rfl ⟨(),rfl,HX.out,trivial⟩
 have hcb:(c == 0)=false:=by rw [nXs];exact hc0
 rw [if_neg (fun h=>hc0 (HCC.out.2 h))] at HNV
 go_wp2_with fail
 refine cM (mX (some ⟨Lq,0,none⟩) N N q ⟨ln,la,ll,lc,lb,lm,ld⟩ lo S T _ HQ.out.can zo HTQ.out HSW.out hS zo HL.out ZA.out hT hT3) fun x38 w38 hE _=>?_
 refine mV5 hE ?_ HX B3 HL HH HQ;clear HX B3 HL HH HQ;intro HX B3 HL HH HQ;have hs_w38:=hE.size;replace b_B3:=bX3 B3;have hsI:=yZ (N+1) q lo;obtain ⟨s3,hs3⟩:∃ s3,s3=cu (N+1) q lo:=⟨_,rfl⟩;rw [←hs3] at HNV hsI ⊢;clear hs3;by_cases hp3:0<s3
 case neg =>
  have HE:Hid (dX p lo hi=false):=Hi (by rw [HNV.out,decide_eq_false hp3];rfl);go_wp2;exact nXa (v:=.tuple #[.bool (dX p lo hi),.int .i64 0]) (by rw [HE.out];simp [results,Tryz.results26,go_sem]) rfl ⟨(),rfl,HX.out,trivial⟩
 go_wp2_with fail
 refine cM (qF (some ⟨Lq,0,none⟩) N N q K ⟨ln,la,ll,lc,lb,lm,ld⟩ ⟨hn,ha,hl,hc,hb,hm,hd⟩ lo hi T _ HQ.out.can zo HS0.out HKo.out hK hK2 HL.out HH.out ZA.out ZB.out hT hT3) fun x43 w43 hE _=>?_
 refine mV5 hE ?_ HX B3 HL HH HQ;clear HX B3 HL HH HQ;intro HX B3 HL HH HQ;have hs_w43:=hE.size;replace b_B3:=bX3 B3;obtain ⟨r,hr⟩:∃ r,r=lR (N+1) q lo hi:=⟨_,rfl⟩;rw [←hr,decide_eq_true hp3] at HNV;rw [←hr];clear hr;have HE:Hid (dX p lo hi=!r):=Hi (by rw [HNV.out];rfl);cases r
 ·go_wp2;exact nXa (v:=.tuple #[.bool (dX p lo hi),.int .i64 0]) (by rw [HE.out];simp [results,Tryz.results26,go_sem]) rfl ⟨(),rfl,HX.out,trivial⟩
 ·go_wp2;exact nXa (v:=.tuple #[.bool (dX p lo hi),.int .i64 0]) (by rw [HE.out];simp [results,Tryz.results26,go_sem]) rfl ⟨(),rfl,HX.out,trivial⟩
theorem tu(pa:Option Addr)(P pc:Nat)(p:List Rat)(K:Nat)(t:RH)(x:Rat)(T:Nat)(w:World)(N:Nat)(h:co w ⟨pa,P,pc⟩ p)(hP:P≤49)(hN:(tz p).length=N)(hk:FrK K p)(hK:K≤12000000)(ht:aR w t x)(hx:Sz T x)(hT:1≤T)(hT3:T≤1000) :
  ar 24 [.slice pa P pc,t.v] w (fun _:Unit=>.tuple #[.int .i64 (cu (N+1) (ak p) x),.int .i64 0]) (fun _ _=>True):=by
 obtain ⟨tn,ta,tl,tc,tb,tm,td⟩:=t;have HX:=Hi (Ext.refl w);have LP:=Hi (RIn.of h);have HT:=Hi ht;have ZX:=Hi hx;have hlen:=h.len;simp only at hlen;obtain ⟨S,D,hS,hD,hDW,hF,hSK⟩:=hk;have hSs:=KZ.small hSK;have HF:=Hi hF;have HSW:Hid (∀ y ∈ ak p,Wz S y):=Hi (cG (fun x hx=>hF x (dA hx)) hD);have HSl:Hid ((ak p).length=N):=Hi (by rw [ax,hN]);have hNP:N≤P:=by rw [←hN,←hlen];exact af p
 have HCK:Hid (me p≠12):=Hi (by
  unfold me;rw [if_neg (by have:=af p;omega)];split <;> decide)
 obtain ⟨c,hc⟩:∃ c,c=me p:=⟨_,rfl⟩;have HC:=Hi hc;rw [←hc] at HCK;obtain ⟨s,hs⟩:∃ s,s=cu (N+1) (ak p) x:=⟨_,rfl⟩;have HS:=Hi hs;rw [←hs];clear h ht hx hF hSK hlen hN hc hs;unfold ar;go_enter Tryz.func24,Tryz.ntmps24
 go_upto_region 1 with fail
 refine nmA ?_;intro w1 hE B3 hz_w1 hr_w1;refine mV3 hE ?_ HX LP HT;clear HX LP HT;intro HX LP HT;have hs_w1:=hE.size;replace b_B3:=bX3 B3
 go_wp2_with fail
 refine cM (fH pa P pc p _ LP.out.raw) fun x7 w7 hE _=>?_
 refine mV4 hE ?_ B3 HX LP HT;clear B3 HX LP HT;intro B3 HX LP HT;have hs_w7:=hE.size;replace b_B3:=bX3 B3;rw [←HC.out];have hcb:(c == 12)=false:=by rw [nXs];exact HCK.out
 go_upto_region 3 with fail
 refine wpG 7 (fun opIx=>match opIx with
  | 1=>.spec (SH) (default) (SH.v) (fun x w'=>yR N w' x (ak p))
  | 3=>sR (x)
  | 4=>sU (.int .i64 s)
  | _=>.quiet) (fun|4=>[1,3]|_=>[]) fun w0 he0 hz0 hc0 hf0=>?_
 refine wps he0 (fun w1 hW hG=>?_) fun x20=>?_
 ·exact spc [.slice pa P pc] Tryz.func77 ((gp pa P pc p S D _ (LP.out.ext hW).raw zo hS zo hD hDW HF.out).wk (fun x w' _ h=>⟨let ⟨_,_,_,_,h4⟩:=h.lin (by have:=HSl.out;omega);h4.can,by have h5:=(let ⟨_,_,_,_,h4⟩:=h.lin (by have:=HSl.out;omega);h4.can.len);rw [←h5];exact HSl.out⟩))
 refine qZ ?_;refine wps he0 (fun w1 hW hG=>?_) fun x21=>?_
 ·exact spc [RH.v ⟨tn,ta,tl,tc,tb,tm,td⟩] Tryz.func78 (gy _ _ _ (HT.out.ext hW))
 refine qZ ?_;refine wps he0 (fun w1 hW hG=>?_) fun x22=>?_
 ·have g20:=gS (hG 1 dZ);have g21:=gS (hG 3 dZ);exact spc [x20.v,x21.v] Tryz.func76 ((by rw [HS.out,←g20.2];exact mX x20.a x20.n x20.c (ak p) x21 x S T _ g20.1 (by rw [g20.2];omega) (aJ p) HSW.out hS zo g21 ZX.out hT hT3))
 refine qZ ?_;refine am ?_;intro w2 hI;have hE:=he0.out.trans hI.ext;have G20:=gT (hI.facts 1);have G21:=gT (hI.facts 3);clear hI he0 hz0 hc0 hf0;refine mV4 hE ?_ B3 HX LP HT;clear B3 HX LP HT;intro B3 HX LP HT;have hs_w2:=hE.size;replace b_B3:=bX3 B3;simp only [pD];go_wp2;exact nXa (v:=.tuple #[.int .i64 s,.int .i64 0]) (by simp [results,Tryz.results24,go_sem]) rfl ⟨(),rfl,HX.out,trivial⟩
end Go.Proofs.YtafgmcimcbhhjaaGreat
