import Derived.Test.YtafgmcimcbhhjaaGreatQBK2
set_option linter.unusedVariables false
set_option maxRecDepth 8000
set_option maxHeartbeats 4000000
namespace Go.Proofs.YtafgmcimcbhhjaaGreat
open Go.RowKit Go.Front Go.Num
attribute [local go_sem] XW.cell XW.frozen
theorem ak.weak{f:FuncId}{args:List Value}{w:World}{α:Type}{mk:α→Value}{φ ψ:α→World→Prop}(h:ak f args w mk φ)(hi:∀ x w',Ext w w'→φ x w'→ψ x w'):ak f args w mk ψ:=by
 refine Calls.mono h ?_;rintro e w' ⟨x,rfl,h1,h2⟩;exact ⟨x,rfl,h1,hi x w' h1 h2⟩
def iZ(w:World)(rs:List RH)(ts:List Rat):Prop:=∀ j,j<ts.length→aA w (rs.getD j default) (ts.getD j 0)
theorem iZ.ext{w w':World}{rs:List RH}{ts:List Rat}(h:iZ w rs ts)(he:Ext w w'):iZ w' rs ts:=fun j hj=>(h j hj).ext he
instance {w w':World} {rs:List RH} {ts:List Rat}:Go.Front.Mv w w' (iZ w rs ts) (iZ w' rs ts):=⟨fun e h=>iZ.ext h e⟩

theorem iZ.keep{w w':World}{rs:List RH}{ts:List Rat}(h:iZ w rs ts)(he:gV w w'):iZ w' rs ts:=fun j hj=>(h j hj).keep he
theorem eH{rs:List RH}{i:Nat}{x:RH}(h:i<rs.length):(rs.set i x).getD i default=x:=by simp [h]
theorem mN{rs:List RH}{i j:Nat}{x:RH}(h:i≠j):(rs.set i x).getD j default=rs.getD j default:=by
 rw [nXd,nXd,List.getElem?_set_ne h]
theorem iZ.snoc{w:World}{rs:List RH}{ts:List Rat}(h:iZ w rs ts){x:RH}{q:Rat}{i:Nat}(hl:ts.length=i)(hi:i<rs.length)(hx:aA w x q):iZ w (rs.set i x) (ts++[q]):=by
 intro j hj;by_cases hji:j<ts.length
 ·rw [mN zo,show (ts++[q]).getD j 0=ts.getD j 0 by rw [nXd,List.getElem?_append_left hji,←nXd]];exact h j hji
 ·obtain rfl:j=ts.length:=by simp at hj;omega
  subst hl;rw [eH hi,show (ts++[q]).getD ts.length 0=q by simp];exact hx
theorem iZ.list{w:World}{L M:Nat}{rs:List RH}{ts:List Rat}{B:Nat}(h:iZ w rs ts)(hb:RBk w L rs #[])(hl:rs.length=M)(ht:ts.length=M)(hB:B≤L)(hM:M≤9223372036854775807):bW B w ⟨some ⟨L,0,none⟩,M,M⟩ ts :=
 ⟨rs,hb.rs hl (nXe _) hM,⟨zo,h⟩,Or.inr ⟨L,0,rfl,hB,hb.lt⟩⟩
def nbE(ps qs:List Rat)(i:Nat):Rat:=(if 0<i∧i≤ps.length then ps.getD (i-1) 0+ps.getD (i-1) 0 else 0)-(if i<qs.length then qs.getD i 0 else 0)
def nbV(ps qs:List Rat):List Rat:=tz ((List.range (max (ps.length+1) qs.length)).map (nbE ps qs))
theorem max2(x y:Int)(M:Int)(hM:M=max x y):∀ (P:Program) (ts:Array TypeId) (t:TypeId) (w:World),(Builtin.max_ ts t #[.int .i64 x,.int .i64 y]).run P w=.ok (.int .i64 M) w:=by
 intro P ts t w;subst hM;simp [Builtin.max_,Builtin.max2];omega
theorem oh(ao bo:Option Addr)(P pc Q qc:Nat)(ps qs:List Rat)(w:World)(h:ct w ⟨ao,P,pc⟩ ps)(k:ct w ⟨bo,Q,qc⟩ qs)(hP:P≤1000)(hQ:Q≤1000)(hz:SzL 8388608 ps)(kz:SzL 8388608 qs) :
  ak 182 [.slice ao P pc,.slice bo Q qc] w SH.v (fun s w'=>bW w.heap.size w' s (nbV ps qs)):=by
 obtain ⟨i0,hi0,hz0,hz1,hz2⟩:=info_parts jk;have H:=Hi h;have K:=Hi k;have h1:=h.le;have h2:=h.max;have k1:=k.le;have k2:=k.max;have HPl:=Hi h.len;have HQl:=Hi k.len;simp only at h1 h2 k1 k2 HPl HQl;have HZ:=Hi hz;have KZ:=Hi kz;clear h k hz kz;obtain ⟨M,hM⟩:∃ M,M=max (P+1) Q:=⟨_,rfl⟩;have HM:=Hi hM;have hM1:P+1≤M:=zo;have hM2:Q≤M:=zo;have hM3:M≤1001:=zo;have hmx:=max2 ((P:Int)+1) (Q:Int) (M:Int) zo;clear hM;unfold ak;go_enter Tryz.func182,Tryz.ntmps182
 go_upto_region 2 with (refine aB rfl (.tmp 13) (.tmp 13) 24 rfl 34 i0 (RH.v default) 3 Tryz.underlying24 hi0 hz0 hz1 _ _ M rfl rfl zo zo (by rw [hz2];omega) zo ?_;intro w1 hnew hE)
 have KB0:=Hi (RBk.make rfl hnew);have HXR:=Hi hE;clear hnew hE;obtain ⟨L,hL⟩:∃ L,L=w.heap.size:=⟨_,rfl⟩;have hLw:w.heap.size≤L:=zo;rw [←hL] at KB0 ⊢;clear hL;go_wp2
 go_loopg [17] M (fun g v wr=>∃ (i:Nat) (rs:List RH),i+g=M∧v=.int .i64 (i:Nat)∧Ext w wr∧RBk wr L rs #[]∧rs.length=M∧iZ wr rs ((List.range i).map (nbE ps qs)))
 case atStart=>exact ⟨0,_,zo,rfl,HXR.out,KB0.out,by simp,fun j hj=>by simp at hj⟩
 case round =>
  obtain ⟨i,rs,hi,rfl,g1,g2,g3,g4⟩:=hrel;clear HXR KB0;have HXR:=Hi g1;have KB:=Hi g2;have HRl:=Hi g3;have PC:=Hi g4;clear g1 g2 g3 g4;have HTl:Hid (((List.range i).map (nbE ps qs)).length=i):=Hi (by simp);by_cases h0:gk=0
  case neg =>
   have hiM:(i:Int)<M:=zo
   go_wp2_with fail
   refine cM (aL 0 _ dZ dZ) fun x1 w1 hE G1=>?_
   refine mV3 hE ?_ HXR KB PC;clear HXR KB PC;intro HXR KB PC
   try clear f_KB l_KB
   have f_KB:=ah KB.out;have l_KB:=(nXb.1 KB.out).1;obtain ⟨f1,f2,f3⟩:=RBk.at (re:=#[]) KB.out (k:=i) (by rw [HRl.out];omega)
   go_upto_region 6 with fail
   refine dQ (k:=i) KB.out rfl (by rw [HRl.out];omega) ?_;intro y2 T;clear f1 f2 f3;replace HXR:=Hi (T.ext HXR.out zo);replace KB:=Hi (T.bx);replace PC:=Hi (PC.out.keep T.keep);replace G1:=Hi (G1.out.keep T.keep);clear T
   try clear f_KB l_KB
   have f_KB:=ah KB.out;have l_KB:=(nXb.1 KB.out).1;by_cases hA:0<i∧i≤P
   case neg =>
    obtain ⟨u,hu⟩:∃ u,u=((0:Int):Rat):=⟨_,rfl⟩;rw [←hu] at G1;have ZU:Hid (Sz 16777217 u):=Hi (by rw [hu];exact (Sz.int (z:=0) dZ).mono dZ);have HU:Hid (u=if 0<i∧i≤ps.length then ps.getD (i-1) 0+ps.getD (i-1) 0 else 0):=Hi (by rw [hu,HPl.out,if_neg hA];rfl);clear hu;rcases Nat.eq_zero_or_pos i with hi0' | hi0'
    ·have hA2:¬ (0:Int)<i:=zo;clear hi0';by_cases hQ:i<Q
     ·obtain ⟨b',off',rq,hqa,hbl',hq3,hq4⟩:=(K.out.ext HXR.out).cells' (k:=i) hQ;obtain ⟨qn,qa,ql,qc,qb,qm,qd⟩:=rq;obtain ⟨a7,a8,a9⟩:=hq3;simp only at a7 a8 a9;subst hqa;obtain ⟨e1,e2,e3⟩:=RBk.at (re:=#[]) KB.out (k:=i) (by rw [nXo,HRl.out];omega);rw [eH (by rw [HRl.out];omega)] at e1 e2 e3;have RQ:=Hi hq4;clear hq4;have hQi:(i:Int)<Q:=zo
      go_upto_region 9 with fail
      refine wpG 12 (fun opIx=>match opIx with
       | 10=>sR (u-qs.getD i 0)
       | _=>.quiet) (fun _=>[]) fun w0 he0 hz0 hc0 hf0=>?_
      refine wps he0 (fun w1 hW hG=>?_) fun x10=>?_
      ·exact spc [x1.v,RH.v ⟨qn,qa,ql,qc,qb,qm,qd⟩] Tryz.func120 (dG x1 _ _ _ _ ((G1.out.ext hW).raw ZU.out dZ) (RQ.out.ext hW))
      refine qZ ?_;refine aj ?_;intro y5 hI;have hE:=he0.out.trans hI.ext;have G10:=gT (hI.facts 10);clear hI he0 hz0 hc0 hf0;refine mV3 hE ?_ HXR KB PC;clear HXR KB PC;intro HXR KB PC
      try clear f_KB l_KB
      have f_KB:=ah KB.out;have l_KB:=(nXb.1 KB.out).1;simp only [pD];obtain ⟨f1,f2,f3⟩:=RBk.at (re:=#[]) KB.out (k:=i) (by rw [nXo,HRl.out];omega)
      go_upto_region 10 with fail
      refine dQ (k:=i) KB.out rfl (by rw [nXo,HRl.out];omega) ?_;intro y6 T;clear a7 a8 a9 e1 e2 e3 f1 f2 f3;replace HXR:=Hi (T.ext HXR.out zo);replace KB:=Hi (T.bx);replace PC:=Hi (PC.out.keep T.keep);replace G10:=Hi (G10.out.keep T.keep);clear T;rw [List.set_set] at KB;replace PC:=Hi (PC.out.snoc (x:=x10) (i:=i) HTl.out (by rw [HRl.out];omega) G10.out);have HV:Hid (u-qs.getD i 0=nbE ps qs i):=Hi (by rw [HU.out];unfold nbE;rw [HQl.out,if_pos hQ]);rw [HV.out,←bD (nbE ps qs)] at PC;go_wp2
      go_roundg (gk-1)
      case measure=>omega
      case rel=>exact ⟨i+1,_,zo,by go_num,HXR.out,KB.out,by rw [nXo];exact HRl.out,PC.out⟩
     ·have hQi:¬ (i:Int)<Q:=zo;have HV:Hid (u=nbE ps qs i):=Hi (by rw [HU.out];unfold nbE;rw [HQl.out,if_neg hQ];grind);replace PC:=Hi (PC.out.snoc (x:=x1) (i:=i) HTl.out (by rw [HRl.out];omega) G1.out);rw [HV.out,←bD (nbE ps qs)] at PC;go_wp2
      go_roundg (gk-1)
      case measure=>omega
      case rel=>exact ⟨i+1,_,zo,by go_num,HXR.out,KB.out,by rw [nXo];exact HRl.out,PC.out⟩
    ·have hA2:¬ (i:Int)≤P:=zo;by_cases hQ:i<Q
     ·obtain ⟨b',off',rq,hqa,hbl',hq3,hq4⟩:=(K.out.ext HXR.out).cells' (k:=i) hQ;obtain ⟨qn,qa,ql,qc,qb,qm,qd⟩:=rq;obtain ⟨a7,a8,a9⟩:=hq3;simp only at a7 a8 a9;subst hqa;obtain ⟨e1,e2,e3⟩:=RBk.at (re:=#[]) KB.out (k:=i) (by rw [nXo,HRl.out];omega);rw [eH (by rw [HRl.out];omega)] at e1 e2 e3;have RQ:=Hi hq4;clear hq4;have hQi:(i:Int)<Q:=zo
      go_upto_region 9 with fail
      refine wpG 12 (fun opIx=>match opIx with
       | 10=>sR (u-qs.getD i 0)
       | _=>.quiet) (fun _=>[]) fun w0 he0 hz0 hc0 hf0=>?_
      refine wps he0 (fun w1 hW hG=>?_) fun x10=>?_
      ·exact spc [x1.v,RH.v ⟨qn,qa,ql,qc,qb,qm,qd⟩] Tryz.func120 (dG x1 _ _ _ _ ((G1.out.ext hW).raw ZU.out dZ) (RQ.out.ext hW))
      refine qZ ?_;refine aj ?_;intro y5 hI;have hE:=he0.out.trans hI.ext;have G10:=gT (hI.facts 10);clear hI he0 hz0 hc0 hf0;refine mV3 hE ?_ HXR KB PC;clear HXR KB PC;intro HXR KB PC
      try clear f_KB l_KB
      have f_KB:=ah KB.out;have l_KB:=(nXb.1 KB.out).1;simp only [pD];obtain ⟨f1,f2,f3⟩:=RBk.at (re:=#[]) KB.out (k:=i) (by rw [nXo,HRl.out];omega)
      go_upto_region 10 with fail
      refine dQ (k:=i) KB.out rfl (by rw [nXo,HRl.out];omega) ?_;intro y6 T;clear a7 a8 a9 e1 e2 e3 f1 f2 f3;replace HXR:=Hi (T.ext HXR.out zo);replace KB:=Hi (T.bx);replace PC:=Hi (PC.out.keep T.keep);replace G10:=Hi (G10.out.keep T.keep);clear T;rw [List.set_set] at KB;replace PC:=Hi (PC.out.snoc (x:=x10) (i:=i) HTl.out (by rw [HRl.out];omega) G10.out);have HV:Hid (u-qs.getD i 0=nbE ps qs i):=Hi (by rw [HU.out];unfold nbE;rw [HQl.out,if_pos hQ]);rw [HV.out,←bD (nbE ps qs)] at PC;go_wp2
      go_roundg (gk-1)
      case measure=>omega
      case rel=>exact ⟨i+1,_,zo,by go_num,HXR.out,KB.out,by rw [nXo];exact HRl.out,PC.out⟩
     ·have hQi:¬ (i:Int)<Q:=zo;have HV:Hid (u=nbE ps qs i):=Hi (by rw [HU.out];unfold nbE;rw [HQl.out,if_neg hQ];grind);replace PC:=Hi (PC.out.snoc (x:=x1) (i:=i) HTl.out (by rw [HRl.out];omega) G1.out);rw [HV.out,←bD (nbE ps qs)] at PC;go_wp2
      go_roundg (gk-1)
      case measure=>omega
      case rel=>exact ⟨i+1,_,zo,by go_num,HXR.out,KB.out,by rw [nXo];exact HRl.out,PC.out⟩
   clear G1;obtain ⟨j,hj⟩:∃ j,i=j+1:=⟨i-1,zo⟩;have hA2:(i:Int)≤P:=zo;have hji:(i:Int)-1=j:=by omega
   have hjP:j<P:=zo;obtain ⟨b,off,rp,hpa,hbl,hp3,hp4⟩:=(H.out.ext HXR.out).cells' (k:=j) hjP;obtain ⟨pn,pa,pl,pc',pb,pm,pd⟩:=rp;obtain ⟨a1,a2,a3⟩:=hp3;simp only at a1 a2 a3;subst hpa;have RP:=Hi hp4;have HJ:=Hi hj;clear hp4 hj;have hjP':(j:Int)<P:=zo
   go_upto_region 7 with fail
   refine wpG 14 (fun opIx=>match opIx with
    | 12=>sR (ps.getD j 0+ps.getD j 0)
    | _=>.quiet) (fun _=>[]) fun w0 he0 hz0 hc0 hf0=>?_
   refine wps he0 (fun w1 hW hG=>?_) fun x12=>?_
   ·exact spc [RH.v ⟨pn,pa,pl,pc',pb,pm,pd⟩,RH.v ⟨pn,pa,pl,pc',pb,pm,pd⟩] Tryz.func118 (df _ _ _ _ _ (RP.out.ext hW) (RP.out.ext hW))
   refine qZ ?_;refine aj ?_;intro y3 hI;have hE:=he0.out.trans hI.ext;have G12:=gT (hI.facts 12);clear hI he0 hz0 hc0 hf0;refine mV3 hE ?_ HXR KB PC;clear HXR KB PC;intro HXR KB PC
   try clear f_KB l_KB
   have f_KB:=ah KB.out;have l_KB:=(nXb.1 KB.out).1;simp only [pD];obtain ⟨f1,f2,f3⟩:=RBk.at (re:=#[]) KB.out (k:=i) (by rw [nXo,HRl.out];omega)
   go_upto_region 8 with fail
   refine dQ (k:=i) KB.out rfl (by rw [nXo,HRl.out];omega) ?_;intro y4 T;clear f1 f2 f3 a1 a2 a3;replace HXR:=Hi (T.ext HXR.out zo);replace KB:=Hi (T.bx);replace PC:=Hi (PC.out.keep T.keep);replace G12:=Hi (G12.out.keep T.keep);clear T
   try clear f_KB l_KB
   have f_KB:=ah KB.out;have l_KB:=(nXb.1 KB.out).1;rw [List.set_set] at KB;obtain ⟨u,hu⟩:∃ u,u=ps.getD j 0+ps.getD j 0:=⟨_,rfl⟩;rw [←hu] at G12;have ZU:Hid (Sz 16777217 u):=Hi (by rw [hu];exact ((HZ.out.getD dZ j).add (HZ.out.getD dZ j)).mono dZ);have HU:Hid (u=if 0<i∧i≤ps.length then ps.getD (i-1) 0+ps.getD (i-1) 0 else 0):=Hi (by rw [hu,HPl.out,if_pos hA,HJ.out,Nat.add_sub_cancel]);clear hu;by_cases hQ:i<Q
   ·obtain ⟨b',off',rq,hqa,hbl',hq3,hq4⟩:=(K.out.ext HXR.out).cells' (k:=i) hQ;obtain ⟨qn,qa,ql,qc,qb,qm,qd⟩:=rq;obtain ⟨a7,a8,a9⟩:=hq3;simp only at a7 a8 a9;subst hqa;obtain ⟨e1,e2,e3⟩:=RBk.at (re:=#[]) KB.out (k:=i) (by rw [nXo,HRl.out];omega);rw [eH (by rw [HRl.out];omega)] at e1 e2 e3;have RQ:=Hi hq4;clear hq4;have hQi:(i:Int)<Q:=zo
    go_upto_region 9 with fail
    refine wpG 12 (fun opIx=>match opIx with
     | 10=>sR (u-qs.getD i 0)
     | _=>.quiet) (fun _=>[]) fun w0 he0 hz0 hc0 hf0=>?_
    refine wps he0 (fun w1 hW hG=>?_) fun x10=>?_
    ·exact spc [x12.v,RH.v ⟨qn,qa,ql,qc,qb,qm,qd⟩] Tryz.func120 (dG x12 _ _ _ _ ((G12.out.ext hW).raw ZU.out dZ) (RQ.out.ext hW))
    refine qZ ?_;refine aj ?_;intro y5 hI;have hE:=he0.out.trans hI.ext;have G10:=gT (hI.facts 10);clear hI he0 hz0 hc0 hf0;refine mV3 hE ?_ HXR KB PC;clear HXR KB PC;intro HXR KB PC
    try clear f_KB l_KB
    have f_KB:=ah KB.out;have l_KB:=(nXb.1 KB.out).1;simp only [pD];obtain ⟨f1,f2,f3⟩:=RBk.at (re:=#[]) KB.out (k:=i) (by rw [nXo,HRl.out];omega)
    go_upto_region 10 with fail
    refine dQ (k:=i) KB.out rfl (by rw [nXo,HRl.out];omega) ?_;intro y6 T;clear a7 a8 a9 e1 e2 e3 f1 f2 f3;replace HXR:=Hi (T.ext HXR.out zo);replace KB:=Hi (T.bx);replace PC:=Hi (PC.out.keep T.keep);replace G10:=Hi (G10.out.keep T.keep);clear T;rw [List.set_set] at KB;replace PC:=Hi (PC.out.snoc (x:=x10) (i:=i) HTl.out (by rw [HRl.out];omega) G10.out);have HV:Hid (u-qs.getD i 0=nbE ps qs i):=Hi (by rw [HU.out];unfold nbE;rw [HQl.out,if_pos hQ]);rw [HV.out,←bD (nbE ps qs)] at PC;go_wp2
    go_roundg (gk-1)
    case measure=>omega
    case rel=>exact ⟨i+1,_,zo,by go_num,HXR.out,KB.out,by rw [nXo];exact HRl.out,PC.out⟩
   ·have hQi:¬ (i:Int)<Q:=zo;have HV:Hid (u=nbE ps qs i):=Hi (by rw [HU.out];unfold nbE;rw [HQl.out,if_neg hQ];grind);replace PC:=Hi (PC.out.snoc (x:=x12) (i:=i) HTl.out (by rw [HRl.out];omega) G12.out);rw [HV.out,←bD (nbE ps qs)] at PC;go_wp2
    go_roundg (gk-1)
    case measure=>omega
    case rel=>exact ⟨i+1,_,zo,by go_num,HXR.out,KB.out,by rw [nXo];exact HRl.out,PC.out⟩
  have h00:gk=0:=by omega
  subst h00;obtain rfl:i=M:=by omega
  obtain ⟨ts,hts⟩:∃ ts,ts=(List.range i).map (nbE ps qs):=⟨_,rfl⟩;have HVt:Hid (nbV ps qs=tz ts):=Hi (by unfold nbV;rw [HPl.out,HQl.out,←HM.out,hts]);rw [←hts] at PC HTl;have HSz:Hid (SzL 25165826 ts):=Hi (by
   rw [hts];intro q hq;obtain ⟨a,-,rfl⟩:=nYg.1 hq;unfold nbE;refine Sz.mono (Sz.sub (k:=16777217) (l:=8388608) ?_ ?_) dZ
   ·split
    ·exact ((HZ.out.getD dZ _).add (HZ.out.getD dZ _)).mono dZ
    ·exact Sz.zero dZ
   ·split
    ·exact KZ.out.getD dZ _
    ·exact Sz.zero dZ)
  have LL:Hid (bW w.heap.size wr ⟨some ⟨L,0,none⟩,i,i⟩ ts):=Hi (iZ.list PC.out KB.out HRl.out HTl.out hLw zo);clear hts;go_wp2
  go_loopg [7] i (fun g v wr'=>v=.int .i64 (g:Nat)∧g≤i∧tz ts=tz (ts.take g)∧Ext wr wr')
  case atStart=>exact ⟨rfl,nXe _,by rw [nXm (by rw [HTl.out];exact nXe _)],Ext.refl _⟩
  case round =>
   obtain ⟨rfl,hg,hs,hE⟩:=hrel;have Hs:=Hi hs;clear hs;have HE5:=Hi hE;refine mV2 hE ?_ HXR LL;clear HXR LL;intro HXR LL;by_cases h0:gk=0
   ·subst h0;have hT:tz ts=ts.take 0:=by rw [Hs.out];rfl
    have HT:=Hi hT;clear hT;go_wp2
    go_ret
    refine ⟨⟨some ⟨L,0,none⟩,0,i⟩,rfl,HXR.out,?_⟩;rw [HVt.out,HT.out];exact LIn.take LL.out (Nat.zero_le _)
   ·obtain ⟨k,rfl⟩:∃ m,gk=m+1:=⟨gk-1,zo⟩;obtain ⟨b,off,r,hao,⟨hc1,hc2,hc3⟩,hP⟩:=LL.out.can.at (k:=k) zo;obtain ⟨rfl,rfl⟩:L=b∧0=off:=by simpa using hao
    obtain ⟨rneg,ra,rn,rc,rb,rm,rd⟩:=r;simp only [Nat.zero_add] at hc1 hc2 hc3;have HP:=Hi (hP.raw (HSz.out.at (by rw [HTl.out];omega)) dZ);clear hP h0 hao;have hE0:=Hi (Ext.refl wr)
    go_wp2_with fail
    refine cM (cW ⟨rneg,ra,rn,rc,rb,rm,rd⟩ _ _ HP.out) fun x10 w10 hE _=>?_
    refine mV3 hE ?_ HXR LL hE0;clear HXR LL hE0;intro HXR LL hE0;have HZ0:=Hi (eO (ts.getD k 0));obtain ⟨c,hc⟩:∃ c,c=dq (ts.getD k 0) 0:=⟨_,rfl⟩;rw [←hc] at HZ0 ⊢;clear hc HP hc1 hc2 hc3;by_cases hz:c=0
    ·subst hz;have Hz0:=Hi (HZ0.out.1 rfl);clear HZ0;go_wp2
     go_roundg k
     case measure=>omega
     case rel=>exact ⟨by go_num,zo,by rw [Hs.out,gZ (by rw [HTl.out];omega) Hz0.out],HE5.out.trans hE0.out⟩
    ·have hzb:(c == 0)=false:=by simpa using hz
     have HT:Hid (tz ts=ts.take (k+1)):=Hi (by rw [Hs.out,nK (by rw [HTl.out];omega) (fun h=>hz (HZ0.out.2 h))]);clear HZ0 hz;go_wp2
     go_ret
     refine ⟨⟨some ⟨L,0,none⟩,k+1,i⟩,rfl,HXR.out,?_⟩;rw [HVt.out,HT.out];exact LIn.take LL.out zo
def chP:Nat→List Rat×List Rat
 | 0=>([((1:Int):Rat)],[((0:Int):Rat),((1:Int):Rat)])
 | n+1=>(nbV (chP n).1 (chP n).2,(chP n).1)
theorem aD.new{w:World}{N n c B:Nat}{qs:List Rat}(h:aD w ⟨some ⟨N,0,none⟩,n,c⟩ qs)(hB:B≤N)(hN:N<w.heap.size):bW B w ⟨some ⟨N,0,none⟩,n,c⟩ qs:=let ⟨rs,h1,h2⟩:=h;⟨rs,h1,h2,Or.inr ⟨N,0,rfl,hB,hN⟩⟩
def PF(x:SH×SH):Value:=.tuple #[x.1.v,x.2.v]
theorem CI(ps qs:List Rat):(nbV ps qs).length≤max (ps.length+1) qs.length:=by
 unfold nbV;refine nXf (ae _) ?_;simp
theorem yj(n:Nat):(chP n).1.length≤n+2∧(chP n).2.length≤n+2:=by
 induction n with
 | zero=>exact ⟨dZ,dZ⟩
 | succ n ih =>
  have:=CI (chP n).1 (chP n).2;exact ⟨by show (nbV _ _).length≤_;omega,by show (chP n).1.length≤_;omega⟩
def uz(b:Nat)(l:List Rat):Prop:=∀ q ∈ l,q.den=1∧q.num.natAbs≤b
theorem uz.getD{b:Nat}{l:List Rat}(h:uz b l)(i:Nat):(l.getD i 0).den=1∧(l.getD i 0).num.natAbs≤b:=by
 rcases Nat.lt_or_ge i l.length with hi|hi
 ·exact h _ (eX hi)
 ·rw [dU hi];exact ⟨rfl,Nat.zero_le _⟩
theorem r5{q:Rat}(h:q.den=1):q=(q.num:Rat):=by
 apply Rat.ext
 ·rw [Rat.num_intCast]
 ·rw [h,Rat.den_intCast]
theorem uz.nb{b:Nat}{ps qs:List Rat}(h1:uz b ps)(h2:uz b qs):uz (3*b) (nbV ps qs):=by
 unfold nbV;rw [jB];intro q hq;obtain ⟨i,-,rfl⟩:=nYg.1 (List.mem_of_mem_take hq);unfold nbE;have hp:=h1.getD (i-1);have hq:=h2.getD i;have e1:=r5 hp.1;have e2:=r5 hq.1;rw [e1,e2];generalize (ps.getD (i-1) 0).num=x at *
 generalize (qs.getD i 0).num=y at *
 split <;> split
 ·rw [←Rat.intCast_add,←Rat.intCast_sub];exact ⟨Rat.den_intCast _,by rw [Rat.num_intCast];omega⟩
 ·rw [←Rat.intCast_add,show ((x+x:Int):Rat)-0=((x+x:Int):Rat) by grind];exact ⟨Rat.den_intCast _,by rw [Rat.num_intCast];omega⟩
 ·rw [show (0:Rat)-(y:Rat)=((-y:Int):Rat) by rw [Rat.intCast_neg];grind];exact ⟨Rat.den_intCast _,by rw [Rat.num_intCast];omega⟩
 ·rw [show (0:Rat)-0=0 by grind];exact ⟨rfl,Nat.zero_le _⟩
theorem uz.mono{b c:Nat}{l:List Rat}(h:uz b l)(hb:b≤c):uz c l:=fun q hq=>⟨(h q hq).1,nXf (h q hq).2 hb⟩
theorem yk(n:Nat):uz (3 ^ n) (chP n).1∧uz (3 ^ n) (chP n).2:=by
 induction n with
 | zero =>
  constructor
  ·intro q hq;obtain rfl:q=((1:Int):Rat):=by simpa [chP] using hq
   exact ⟨rfl,dZ⟩
  ·intro q hq;have:q=((0:Int):Rat)∨q=((1:Int):Rat):=by simpa [chP] using hq
   rcases this with rfl|rfl
   ·exact ⟨rfl,dZ⟩
   ·exact ⟨rfl,dZ⟩
 | succ n ih =>
  rw [nXu,nYf];exact ⟨ih.1.nb ih.2,ih.1.mono zo⟩
theorem uz.sz{b k:Nat}{l:List Rat}(h:uz b l)(hb:b<W32 ^ k)(hk:1≤k):SzL k l:=fun q hq =>
 ⟨nYl (h q hq).2 hb,by rw [(h q hq).1];have:=kA hk;omega⟩
theorem BK{n:Nat}(hn:n≤60):SzL 4 (chP n).1∧SzL 4 (chP n).2:=by
 have h:=yk n;have hb:3 ^ n<W32 ^ 4:=nYl (nXp dZ hn) dZ;exact ⟨h.1.sz hb dZ,h.2.sz hb dZ⟩
theorem zN(n:Nat)(w:World)(hn:n≤60):ak 130 [.int .i64 (n:Nat)] w PF (fun x w'=>bW w.heap.size w' x.1 (chP n).1∧bW w.heap.size w' x.2 (chP n).2):=by
 have HX:=Hi (Ext.refl w);unfold ak;go_enter Tryz.func130,Tryz.ntmps130
 go_wp2_with fail
 refine cM (aL 1 _ dZ dZ) fun x1 w1 hE G1=>?_
 replace HX:=hE.tr HX;have hs_w1:=hE.size
 go_wp2_with fail
 refine nmA (F:=fun W=>Calls _ _ _ W _) ?_;intro y2 hE B2 hz_y2 hr_y2;refine mV2 hE ?_ G1 HX;clear G1 HX;intro G1 HX;replace b_B2:=bX3 B2
 change Calls _ _ _ _ _
 have L2:=Hi ((qv B2.out G1.out).new (B:=w.heap.size) zo zo)
 (try clear b_B2);(try clear B2)
 clear G1;refine cM (aL 0 _ dZ dZ) fun x3 w3 hE G3=>?_
 refine mV2 hE ?_ HX L2;clear HX L2;intro HX L2;have hs_w3:=hE.size
 go_wp2_with fail
 refine cM (aL 1 _ dZ dZ) fun x4 w4 hE G4=>?_
 refine mV3 hE ?_ G3 HX L2;clear G3 HX L2;intro G3 HX L2;have hs_w4:=hE.size
 go_upto_region 2 with fail
 refine nmA ?_;intro y5 hE B5 hz_y5 hr_y5;refine mV4 hE ?_ G4 G3 HX L2;clear G4 G3 HX L2;intro G4 G3 HX L2;replace b_B5:=bX3 B5;have L5:=Hi ((tI B5.out G3.out G4.out).new (B:=w.heap.size) zo zo)
 (try clear b_B5);(try clear B5)
 clear G3;clear G4;go_wp2
 go_loopg [4,5,12] n (fun g u v i wr=>∃ (j:Nat) (s t:SH),u=s.v∧v=t.v∧j+g=n∧i=.int .i64 (j:Nat)∧Ext w wr∧bW w.heap.size wr s (chP j).1∧bW w.heap.size wr t (chP j).2)
 case atStart=>exact ⟨0,⟨some ⟨w1.heap.size,0,none⟩,1,1⟩,⟨some ⟨w4.heap.size,0,none⟩,2,2⟩,rfl,rfl,zo,rfl,HX.out,L2.out,L5.out⟩
 case round =>
  obtain ⟨j,⟨sa,sn,sc⟩,⟨ta,tn,tc⟩,rfl,rfl,hj,rfl,g1,g2,g3⟩:=hrel;clear HX L2 L5;have HX:=Hi g1;have LS:=Hi g2;have LT:=Hi g3;clear g1 g2 g3;have hs:=LS.out.len;have ht:=LT.out.len;have hcl:=yj j;simp only at hs ht;simp only [SH.v];by_cases h0:gk=0
  ·subst h0;obtain rfl:j=n:=by omega
   go_wp2;exact nXa (v:=PF (⟨sa,sn,sc⟩,⟨ta,tn,tc⟩)) (by simp [results,Tryz.results130,go_sem,PF]) rfl ⟨(⟨sa,sn,sc⟩,⟨ta,tn,tc⟩),rfl,HX.out,LS.out,LT.out⟩
  ·have hz:=BK (n:=j) zo;have HZ:=Hi hz;clear hz;have hjn:(j:Int)<n:=zo;have hszr:=HX.out.size
   go_wp2_with fail
   refine cM (oh sa ta sn sc tn tc (chP j).1 (chP j).2 _ (LS.out.can.raw HZ.out.1 dZ) (LT.out.can.raw HZ.out.2 dZ) zo zo (HZ.out.1.mono dZ) (HZ.out.2.mono dZ)) fun x1 w1 hE G1=>?_
   refine mV2 hE ?_ HX LS;clear HX LS;intro HX LS;have L1:=Hi (G1.out.mono (B':=w.heap.size) hszr);clear G1;go_wp2
   go_roundg (gk-1)
   case measure=>omega
   case rel=>exact ⟨j+1,x1,⟨sa,sn,sc⟩,rfl,rfl,zo,by go_num,HX.out,L1.out,LS.out⟩
def tV(n:Int):Int×List Rat:=if n<0∨48<n then (12,[]) else (0,tz (chP n.toNat).1)
theorem Eh(n:Int)(w:World):ak 64 [.int .i64 n] w RF (fun x w'=>x.2=(tV n).1∧aD w' x.1 (tV n).2):=by
 have HX:=Hi (Ext.refl w);unfold ak;by_cases h1:n<0
 ·have hv:tV n=(12,[]):=by unfold tV;rw [if_pos (Or.inl h1)]
  have Hv:=Hi hv;clear hv;go_enter Tryz.func64,Tryz.ntmps64;go_wp2;exact nXa (v:=RF (⟨none,0,0⟩,12)) (by simp [results,Tryz.results64,go_sem,RF]) rfl ⟨(⟨none,0,0⟩,12),rfl,HX.out,by rw [Hv.out],by rw [Hv.out];exact (bW.nil 0 _).can⟩
 by_cases h2:48<n
 ·have hv:tV n=(12,[]):=by unfold tV;rw [if_pos (Or.inr h2)]
  have Hv:=Hi hv;clear hv;go_enter Tryz.func64,Tryz.ntmps64;go_wp2;exact nXa (v:=RF (⟨none,0,0⟩,12)) (by simp [results,Tryz.results64,go_sem,RF]) rfl ⟨(⟨none,0,0⟩,12),rfl,HX.out,by rw [Hv.out],by rw [Hv.out];exact (bW.nil 0 _).can⟩
 obtain ⟨m,rfl⟩:∃ m:Nat,n=(m:Nat):=⟨n.toNat,zo⟩;have HV:Hid (tV m=(0,tz (chP m).1)):=Hi (by unfold tV;rw [if_neg zo];rfl);have hm:m≤48:=zo;go_enter Tryz.func64,Tryz.ntmps64
 go_wp2_with fail
 refine cM (zN m _ zo) fun x1 w1 hE G1=>?_
 replace HX:=hE.tr HX;obtain ⟨⟨sa,sn,sc⟩,t⟩:=x1;simp only [PF,SH.v];have L1:=Hi G1.out.1.can;clear G1;have hsn:=L1.out.len;have hcl:=(yj m).1;simp only at hsn;have HZ:=Hi (BK (n:=m) zo).1
 go_wp2_with fail
 refine cM (pt sa sn sc (chP m).1 _ (L1.out.raw HZ.out dZ) zo) fun x2 w2 hE G2=>?_
 replace HX:=hE.tr HX;go_wp2;exact nXa (v:=RF (x2,0)) (by simp [results,Tryz.results64,go_sem,RF]) rfl ⟨(x2,0),rfl,HX.out,by rw [HV.out],by rw [HV.out];exact G2.out.can⟩
theorem qG{w:World}{N:Nat}{T:TypeId}(h:w.heap[N]?=some (.cells #[.int .u32 1] T (0,0))):U32 w (some ⟨N,0,none⟩) 1 1 [1]:=by
 refine ⟨rfl,dZ,dZ,Dig.cons dZ Dig.nil,Or.inr ⟨N,0,rfl,fun k hk=>?_⟩⟩;obtain rfl:k=0:=by simp at hk;omega
 rw [ab h];rfl
theorem Dl(ao:Option Addr)(n cap:Nat)(l:List Rat)(t:RH)(c:Rat)(w:World)(h:ct w ⟨ao,n,cap⟩ l)(ht:aP w t c)(hcz:c≠0)(hn:n≤1073741824) :
  ak 127 [.slice ao n cap,t.v] w SH.v (fun s w'=>bW w.heap.size w' s (l.map (· / c))):=by
 obtain ⟨i0,hi0,hz0,hz1,hz2⟩:=info_parts jk;obtain ⟨tn,ta,tl,tc,tb,tm,td⟩:=t;have H:=Hi h;have HR:=Hi ht;have HX:=Hi (Ext.refl w);have hle:=h.le;have hmx:=h.max;have Hlen:=Hi h.len;simp only at hle hmx Hlen;clear h ht;unfold ak;go_enter Tryz.func127,Tryz.ntmps127
 go_upto_region 1 with fail
 refine nmA ?_;intro w1 hE B3 hz_w1 hr_w1;refine mV2 hE ?_ HR HX;clear HR HX;intro HR HX
 go_upto_region 2 with (refine aB rfl (.tmp 8) (.tmp 8) 23 rfl 34 i0 (RH.v default) 3 Tryz.underlying23 hi0 hz0 hz1 _ _ n rfl rfl zo zo (by rw [hz2];omega) zo ?_;intro w2 hnew hE)
 have KB:=Hi (RBk.make rfl hnew);clear hnew;refine mV3 hE ?_ B3 HR HX;clear B3 HR HX;intro B3 HR HX;obtain ⟨b3,hb3⟩:∃ b3,b3=w.heap.size:=⟨_,rfl⟩;obtain ⟨L,hL⟩:∃ L,L=w1.heap.size:=⟨_,rfl⟩;have hLw:w.heap.size≤L:=zo;have hne:b3≠L:=zo;rw [←hb3] at B3 ⊢;rw [←hL] at KB ⊢;clear hb3 hL;go_wp2
 go_loopg [12] n (fun g v wr=>∃ (i:Nat) (rs:List RH),i+g=n∧v=.int .i64 (i:Nat)∧Ext w wr∧aP wr ⟨tn,ta,tl,tc,tb,tm,td⟩ c∧wr.heap[b3]?=some (.cells #[.bool tn,.slice ta tl tc,.slice tb tm td] 34 (0,0))∧RBk wr L rs #[]∧rs.length=n∧iZ wr rs ((l.take i).map (· / c)))
 case atStart=>exact ⟨0,_,zo,rfl,HX.out,HR.out,B3.out,KB.out,by simp,fun j hj=>by simp at hj⟩
 case round =>
  obtain ⟨i,rs,hi,rfl,g1,g2,g3,g4,g5,g6⟩:=hrel;clear HX HR B3 KB;have HX:=Hi g1;have HR:=Hi g2;have B3:=Hi g3;have KB:=Hi g4;have HRl:=Hi g5;have PC:=Hi g6;clear g1 g2 g3 g4 g5 g6;have HTl:Hid (((l.take i).map (· / c)).length=i):=Hi (by rw [nXl,nXk,Hlen.out];omega);replace b_B3:=bX3 B3;by_cases h0:gk=0
  ·subst h0;obtain rfl:i=n:=by omega
   have HE:Hid (l.take i=l):=Hi (nXm (by rw [Hlen.out];exact nXe _));rw [HE.out] at PC HTl;go_wp2
   go_ret
   exact ⟨⟨some ⟨L,0,none⟩,i,i⟩,rfl,HX.out,iZ.list PC.out KB.out HRl.out HTl.out hLw zo⟩
  ·obtain ⟨b,off,r,hao,hbl,⟨hc1,hc2,hc3⟩,hP⟩:=(H.out.ext HX.out).cells' (k:=i) zo;obtain ⟨rneg,ra,rn,rc,rb,rm,rd⟩:=r;simp only at hc1 hc2 hc3;subst hao;have RP:=Hi hP;clear hP;have hin:(i:Int)<n:=zo
   go_upto_region 5 with fail
   refine aF [(12,10)] _ (by simp only [gI,kH,List.push_toArray,List.cons_append,List.nil_append];exact rfl) (by intro c a d v w h;cases d <;> exact h) 12 (fun opIx=>match opIx with
    | 7=>.spec (RH) (default) (fun s=>.tuple #[s.v,.int .i64 0]) (fun x w'=>aA w' x (l.getD i 0 / c))
    | _=>.quiet) (fun _=>[]) kZ kZ kZ (fun w0 he0 hz0 hc0 hf0=>?_)
   replace he0:=Hi he0;simp only [pT];refine qQ ?_;refine wps he0 (fun w1 hW hG=>?_) fun x7=>?_
   ·exact spc [RH.v ⟨rneg,ra,rn,rc,rb,rm,rd⟩,RH.v ⟨tn,ta,tl,tc,tb,tm,td⟩] Tryz.func121 (bZ _ _ _ _ _ (RP.out.ext hW) (HR.out.ext hW) hcz)
   refine qZ ?_;refine aj ?_;intro w5 hI;have hE:=he0.out.trans hI.ext;have G7:=gT (hI.facts 7);clear hI he0 hz0 hc0 hf0;refine mV5 hE ?_ HX B3 KB PC HR;clear HX B3 KB PC HR;intro HX B3 KB PC HR
   try clear f_KB l_KB
   have f_KB:=ah KB.out;have l_KB:=(nXb.1 KB.out).1;simp only [pD];obtain ⟨f1,f2,f3⟩:=RBk.at (re:=#[]) KB.out (k:=i) (by rw [HRl.out];omega)
   go_upto_region 6 with fail
   refine dQ (k:=i) KB.out rfl (by rw [HRl.out];omega) ?_;intro y6 T;clear f1 f2 f3 hc1 hc2 hc3;replace HX:=Hi (T.ext HX.out zo);replace HR:=Hi (HR.out.keep T.keep);replace PC:=Hi (PC.out.keep T.keep);replace B3:=Hi (T.rest _ _ zo B3.out);replace KB:=Hi (T.bx);replace G7:=Hi (G7.out.keep T.keep);clear T;replace PC:=Hi (PC.out.snoc (x:=x7) (i:=i) HTl.out (by rw [HRl.out];omega) G7.out);have HMp:Hid ((l.take i).map (· / c)++[l.getD i 0 / c]=(l.take (i+1)).map (· / c)):=Hi (by rw [←fU (by rw [Hlen.out];omega),List.map_append];rfl);rw [HMp.out] at PC;go_wp2
   go_roundg (gk-1)
   case measure=>omega
   case rel=>exact ⟨i+1,_,zo,by go_num,HX.out,HR.out,B3.out,KB.out,by rw [nXo];exact HRl.out,PC.out⟩
theorem ue(ao:Option Addr)(n cap:Nat)(l:List Rat)(t:RH)(c:Rat)(w:World)(h:ct w ⟨ao,n,cap⟩ l)(ht:aP w t c)(hn:n≤1073741824)(hz:SzL 33554432 l)(hzc:Sz 33554432 c) :
  ak 102 [.slice ao n cap,t.v] w SH.v (fun s w'=>bW w.heap.size w' s (tz (l.map (·*c)))∧s.c=n∧∃ L,s.a=some ⟨L,0,none⟩∧w.heap.size≤L∧BR w' L (l.map (·*c)) 67108864):=by
 obtain ⟨i0,hi0,hz0,hz1,hz2⟩:=info_parts jk;obtain ⟨tn,ta,tl,tc,tb,tm,td⟩:=t;have H:=Hi h;have HR:=Hi ht;have HX:=Hi (Ext.refl w);have hle:=h.le;have hmx:=h.max;have Hlen:=Hi h.len;simp only at hle hmx Hlen;have HZ:=Hi hz;have HZc:=Hi hzc;clear h ht hz hzc;unfold ak;go_enter Tryz.func102,Tryz.ntmps102
 go_upto_region 1 with fail
 refine nmA ?_;intro w1 hE B3 hz_w1 hr_w1;refine mV2 hE ?_ HR HX;clear HR HX;intro HR HX
 go_upto_region 2 with (refine aB rfl (.tmp 8) (.tmp 8) 24 rfl 34 i0 (RH.v default) 3 Tryz.underlying24 hi0 hz0 hz1 _ _ n rfl rfl zo zo (by rw [hz2];omega) zo ?_;intro w2 hnew hE)
 have KB:=Hi (RBk.make rfl hnew);clear hnew;refine mV3 hE ?_ B3 HR HX;clear B3 HR HX;intro B3 HR HX;obtain ⟨b3,hb3⟩:∃ b3,b3=w.heap.size:=⟨_,rfl⟩;obtain ⟨L,hL⟩:∃ L,L=w1.heap.size:=⟨_,rfl⟩;have hLw:w.heap.size≤L:=zo;have hne:b3≠L:=zo;rw [←hb3] at B3 ⊢;rw [←hL] at KB ⊢;clear hb3 hL;go_wp2
 go_loopg [12] n (fun g v wr=>∃ (i:Nat) (rs:List RH),i+g=n∧v=.int .i64 (i:Nat)∧Ext w wr∧aP wr ⟨tn,ta,tl,tc,tb,tm,td⟩ c∧wr.heap[b3]?=some (.cells #[.bool tn,.slice ta tl tc,.slice tb tm td] 34 (0,0))∧RBk wr L rs #[]∧rs.length=n∧iZ wr rs ((l.take i).map (·*c)))
 case atStart=>exact ⟨0,_,zo,rfl,HX.out,HR.out,B3.out,KB.out,by simp,fun j hj=>by simp at hj⟩
 case round =>
  obtain ⟨i,rs,hi,rfl,g1,g2,g3,g4,g5,g6⟩:=hrel;clear HX HR B3 KB;have HX:=Hi g1;have HR:=Hi g2;have B3:=Hi g3;have KB:=Hi g4;have HRl:=Hi g5;have PC:=Hi g6;clear g1 g2 g3 g4 g5 g6;have HTl:Hid (((l.take i).map (·*c)).length=i):=Hi (by rw [nXl,nXk,Hlen.out];omega);replace b_B3:=bX3 B3;by_cases h0:gk=0
  ·subst h0;obtain rfl:i=n:=by omega
   have HE:Hid (l.take i=l):=Hi (nXm (by rw [Hlen.out];exact nXe _));rw [HE.out] at PC HTl;have LL:Hid (bW w.heap.size wr ⟨some ⟨L,0,none⟩,i,i⟩ (l.map (·*c))):=Hi (iZ.list PC.out KB.out HRl.out HTl.out hLw zo);have HSz:Hid (SzL 67108864 (l.map (·*c))):=Hi (by
    intro q hq;obtain ⟨y,hy,rfl⟩:=nYg.1 hq;exact ((HZ.out y hy).mul HZc.out).mono dZ)
   have OB:Hid (BR wr L (l.map (·*c)) 67108864):=Hi ⟨rs,KB.out,⟨by rw [HRl.out,HTl.out],fun k hk=>(PC.out k hk).raw (HSz.out.at hk) dZ⟩,HSz.out⟩
   (try clear b_B3);(try clear B3)
   clear KB;clear PC;clear HR
   go_wp2_with fail
   refine cM (eh (some ⟨L,0,none⟩) i i (l.map (·*c)) _ (LL.out.can.raw HSz.out dZ)) fun x1 w1 hE G1=>?_
   refine mV3 hE ?_ HX LL OB;clear HX LL OB;intro HX LL OB;obtain ⟨q1,q2⟩:=G1.out;have HQ1:=Hi q1;have HQ2:=Hi q2;clear q1 q2 G1;go_wp2
   go_ret
   refine ⟨⟨some ⟨L,0,none⟩,(tz (l.map (·*c))).length,i⟩,rfl,HX.out,?_⟩;have:=LIn.take LL.out HQ2.out;rw [←HQ1.out] at this;exact ⟨this,rfl,L,rfl,hLw,OB.out⟩
  ·obtain ⟨b,off,r,hao,hbl,⟨hc1,hc2,hc3⟩,hP⟩:=(H.out.ext HX.out).cells' (k:=i) zo;obtain ⟨rneg,ra,rn,rc,rb,rm,rd⟩:=r;simp only at hc1 hc2 hc3;subst hao;have RP:=Hi hP;clear hP;have hin:(i:Int)<n:=zo
   go_upto_region 5 with fail
   refine wpG 9 (fun opIx=>match opIx with
    | 7=>sR (l.getD i 0*c)
    | _=>.quiet) (fun _=>[]) fun w0 he0 hz0 hc0 hf0=>?_
   refine wps he0 (fun w1 hW hG=>?_) fun x7=>?_
   ·exact spc [RH.v ⟨rneg,ra,rn,rc,rb,rm,rd⟩,RH.v ⟨tn,ta,tl,tc,tb,tm,td⟩] Tryz.func85 (aV _ _ _ _ _ (RP.out.ext hW) (HR.out.ext hW))
   refine qZ ?_;refine aj ?_;intro w5 hI;have hE:=he0.out.trans hI.ext;have G7:=gT (hI.facts 7);clear hI he0 hz0 hc0 hf0;refine mV5 hE ?_ B3 KB PC HX HR;clear B3 KB PC HX HR;intro B3 KB PC HX HR
   try clear f_KB l_KB
   have f_KB:=ah KB.out;have l_KB:=(nXb.1 KB.out).1;simp only [pD];obtain ⟨f1,f2,f3⟩:=RBk.at (re:=#[]) KB.out (k:=i) (by rw [HRl.out];omega)
   go_upto_region 6 with fail
   refine dQ (k:=i) KB.out rfl (by rw [HRl.out];omega) ?_;intro y6 T;clear f1 f2 f3 hc1 hc2 hc3;replace HX:=Hi (T.ext HX.out zo);replace HR:=Hi (HR.out.keep T.keep);replace PC:=Hi (PC.out.keep T.keep);replace B3:=Hi (T.rest _ _ zo B3.out);replace KB:=Hi (T.bx);replace G7:=Hi (G7.out.keep T.keep);clear T;replace PC:=Hi (PC.out.snoc (x:=x7) (i:=i) HTl.out (by rw [HRl.out];omega) G7.out);have HMp:Hid ((l.take i).map (·*c)++[l.getD i 0*c]=(l.take (i+1)).map (·*c)):=Hi (by rw [←fU (by rw [Hlen.out];omega),List.map_append];rfl);rw [HMp.out] at PC;go_wp2
   go_roundg (gk-1)
   case measure=>omega
   case rel=>exact ⟨i+1,_,zo,by go_num,HX.out,HR.out,B3.out,KB.out,by rw [nXo];exact HRl.out,PC.out⟩
theorem bK(ao:Option Addr)(n cap:Nat)(l:List Rat)(t:RH)(c:Rat)(w:World)(h:ct w ⟨ao,n,cap⟩ l)(ht:aP w t c)(hn:n≤1073741824)(hz:SzL 33554432 l)(hzc:Sz 33554432 c) :
  ak 102 [.slice ao n cap,t.v] w SH.v (fun s w'=>bW w.heap.size w' s (tz (l.map (·*c)))):=(ue ao n cap l t c w h ht hn hz hzc).weak (fun _ _ _ h=>h.1)
theorem t7(n i:Nat)(f:Nat→Rat):((List.range n).map f).getD i 0=if i<n then f i else 0:=by
 by_cases h:i<n
 ·rw [if_pos h];simp [h]
 ·rw [if_neg h];simp [show n≤i by omega]
theorem uN{a b:List Rat}(h:∀ i,a.getD i 0=b.getD i 0):tz a=tz b:=by
 have hl:∀ a b:List Rat,(∀ i,a.getD i 0=b.getD i 0)→(tz a).length≤(tz b).length:=by
  intro a b h;rcases Nat.lt_or_ge (tz b).length (tz a).length with h1|h1
  ·exfalso;obtain ⟨n,hn⟩:∃ n,(tz a).length=n+1:=⟨(tz a).length-1,zo⟩;have h2:(tz a).getD n 0=0:=by
    rw [qH zo,h n,si zo]
   have h3:=aI a;have h4:tz ((tz a).take (n+1))=tz ((tz a).take n):=gZ zo h2;rw [←hn,List.take_length,h3] at h4;have h5:=ae ((tz a).take n);rw [←h4,nXk] at h5;omega
  ·exact h1
 apply Stab.getD_ext
 ·exact Nat.le_antisymm (hl a b h) (hl b a (fun i=>(h i).symm))
 ·intro i _;rw [bi,bi,h]
theorem uM{l:List Rat}{n:Nat}(h1:l.getD n 0≠0)(h2:∀ i,n<i→l.getD i 0=0):(tz l).length=n+1:=by
 have hle:n<(tz l).length:=by
  rcases Nat.lt_or_ge n (tz l).length with h|h
  ·exact h
  ·exact absurd (si h) h1
 rcases Nat.lt_or_ge (n+1) (tz l).length with h|h
 ·exfalso;obtain ⟨m,hm⟩:∃ m,(tz l).length=m+1:=⟨(tz l).length-1,zo⟩;have h3:(tz l).getD m 0=0:=by rw [bi,h2 m zo]
  have h4:tz ((tz l).take (m+1))=tz ((tz l).take m):=gZ zo h3;rw [←hm,List.take_length,aI] at h4;have h5:=ae ((tz l).take m);rw [←h4,nXk] at h5;omega
 ·omega
theorem wt(ps qs:List Rat)(i:Nat):(nbV ps qs).getD i 0=(if 0<i then 2*ps.getD (i-1) 0 else 0)-qs.getD i 0:=by
 unfold nbV;rw [bi,t7];unfold nbE;have h1:ps.length<i→ps.getD (i-1) 0=0:=fun h=>dU zo
 have h2:qs.length≤i→qs.getD i 0=0:=fun h=>dU h
 split
 ·congr 1
  ·split
   ·rw [if_pos zo];grind
   ·split
    ·rw [h1 zo];grind
    ·rfl
  ·split
   ·rfl
   ·rw [h2 zo]
 ·rw [h2 zo,if_pos zo,h1 zo];grind
def Tf(k i:Nat):Rat:=(chP k).1.getD i 0
theorem AI(n:Nat):(chP (n+1)).2=(chP n).1:=rfl
theorem DW(i:Nat):Tf 0 i=if i=0 then 1 else 0:=by
 unfold Tf chP;rcases i with _|i
 ·rfl
 ·simp
theorem FV(i:Nat):Tf 1 i=if i=1 then 1 else 0:=by
 unfold Tf;show (nbV (chP 0).1 (chP 0).2).getD i 0=_;rw [wt];unfold chP;rcases i with _|_|i
 ·decide +kernel
 ·decide +kernel
 ·simp;grind
theorem yG(n i:Nat):Tf (n+2) i=(if 0<i then 2*Tf (n+1) (i-1) else 0)-Tf n i:=by
 unfold Tf;show (nbV (chP (n+1)).1 (chP (n+1)).2).getD i 0=_;rw [wt,AI]
theorem yF(n:Nat):(∀ i,n<i→Tf n i=0)∧∀ i,n+1<i→Tf (n+1) i=0:=by
 induction n with
 | zero=>exact ⟨fun i h=>by rw [DW,if_neg zo],fun i h=>by rw [FV,if_neg zo]⟩
 | succ n ih =>
  refine ⟨ih.2,fun i h=>?_⟩;rw [yG,if_pos zo,ih.2 _ zo,ih.1 _ zo];grind
theorem DX(n:Nat):0<Tf n n∧0<Tf (n+1) (n+1):=by
 induction n with
 | zero=>exact ⟨by decide +kernel,by decide +kernel⟩
 | succ n ih =>
  refine ⟨ih.2,?_⟩;rw [yG,if_pos zo,(yF n).1 _ zo,show n+1+1-1=n+1 by omega];have:=ih.2;grind
theorem yq(n:Nat):tz (chP n).1=(chP n).1:=by
 cases n with
 | zero=>decide +kernel
 | succ n=>exact aI _
theorem yr(n:Nat):(chP n).1.length=n+1:=by
 rw [←yq n];exact uM (fun h=>absurd (DX n).1 (by rw [show Tf n n=0 from h];exact Rat.lt_irrefl)) (yF n).1
end Go.Proofs.YtafgmcimcbhhjaaGreat
