/- Make, Mk2, Poly1, Same, Rf5 -/
import Derived.Test.YtafgmcimcbhhjaaGreatQGM7
import Derived.Test.YtafgmcimcbhhjaaGreatQGM1
set_option linter.unusedVariables false
set_option maxHeartbeats 4000000
set_option maxRecDepth 8000
namespace Go.Proofs.YtafgmcimcbhhjaaGreat
open Go.RowKit Go.Front Go.Num
attribute [local go_sem] XW.cell XW.frozen
theorem rL(n m:Int)(hm:0<m):(if n.tmod m<0 then n.tmod m+m else n.tmod m)=n % m:=by
 rw [Int.tmod_eq_emod];have h1:=Int.emod_nonneg n (show m≠0 by omega);have h2:=Int.emod_lt_of_pos n hm;have h3:((m.natAbs:Nat):Int)=m:=by omega
 split
 ·split <;> omega
 ·rw [h3];split <;> omega
theorem yh(n m:Int)(hm:0<m):-m<n.tmod m∧n.tmod m<m:=by
 rw [Int.tmod_eq_emod];have h1:=Int.emod_nonneg n (show m≠0 by omega);have h2:=Int.emod_lt_of_pos n hm;have h3:((m.natAbs:Nat):Int)=m:=by omega
 split
 ·omega
 ·rw [h3];omega
theorem ja(n m:Int)(w:World)(hn:-9223372036854775808≤n)(hn2:n≤9223372036854775807)(hm:0<m)(hm2:m≤9223372036854775807) :
  aq 47 [.int .i64 n,.int .i64 m] w (fun _:Unit=>.int .i64 (n % m)) (fun _ _=>True):=by
 have He:=Hi (rL n m hm);obtain ⟨hb1,hb2⟩:=yh n m hm;have hm0:m≠0:=by omega
 unfold aq;go_enter Tryz.func47,Tryz.ntmps47;obtain ⟨r,hr⟩:∃ r,r=n.tmod m:=⟨_,rfl⟩;rw [←hr] at He hb1 hb2;by_cases h0:r<0
 ·rw [if_pos h0] at He;go_wp2
  go_ret
  exact ⟨(),aZ (by rw [←hr];exact He.out),Ext.refl _,trivial⟩
 ·rw [if_neg h0] at He;go_wp2
  go_ret
  exact ⟨(),aZ (by rw [←hr];exact He.out),Ext.refl _,trivial⟩
theorem eS(q:Rat):dp q 0=0↔q=0:=by
 unfold dp;constructor
 ·intro h;split at h
  ·cases h
  ·split at h
   ·assumption
   ·cases h
 ·rintro rfl;rw [if_neg Rat.lt_irrefl,if_pos rfl]
theorem dD(ao:Option Addr)(n cap:Nat)(qs:List Rat)(w:World)(h:dk w ⟨ao,n,cap⟩ qs) :
  aq 167 [.slice ao n cap] w (fun _:Unit=>.slice ao (tz qs).length cap) (fun _ _=>tz qs=qs.take (tz qs).length∧(tz qs).length≤n):=by
 have H:=Hi h;have hle:=h.le;have hmx:=h.max;have Hlen:=Hi h.len;simp only at hle hmx Hlen;clear h;unfold aq
 change Calls Tryz.prog _ #[.slice ao n cap] w _
 go_enter Tryz.func167,Tryz.ntmps167;go_wp2
 go_loopg [3] n (fun g nv wr=>nv=.int .i64 (g:Nat)∧g≤n∧tz qs=tz (qs.take g)∧Ext w wr)
 case atStart=>exact ⟨rfl,nXd _,by rw [nXl (by rw [Hlen.out];exact nXd _)],Ext.refl _⟩
 case round =>
  obtain ⟨rfl,hg,hs,hE⟩:=hrel;have Hs:=Hi hs;have HE:=Hi hE;clear hs hE;by_cases h0:gk=0
  ·subst h0;go_wp2
   go_ret
   have e:tz qs=[]:=by rw [Hs.out];rfl
   refine ⟨(),?_,HE.out,?_,?_⟩
   ·rw [e];simp
   ·rw [e];simp
   ·rw [e];simp
  ·obtain ⟨k,rfl⟩:∃ m,gk=m+1:=⟨gk-1,by omega⟩;obtain ⟨b,off,r,hao,⟨hc1,hc2,hc3⟩,hP⟩:=(H.out.ext HE.out).at (k:=k) (by omega);subst hao;have hbl:b<wr.heap.size:=nXp _ _ hc1;obtain ⟨rneg,ra,rn,rc,rb,rm,rd⟩:=r;simp only at hc1 hc2 hc3;have HP:=Hi hP;clear hP h0
   go_wp2_with fail
   refine Calls.mono (cG ⟨rneg,ra,rn,rc,rb,rm,rd⟩ _ _ HP.out) ?_;rintro e w1 ⟨x1,rfl,hE1,-⟩;replace HE:=Hi (HE.out.trans hE1);have HZ:=Hi (eS (qs.getD k 0));obtain ⟨c,hc⟩:∃ c,c=dp (qs.getD k 0) 0:=⟨_,rfl⟩;rw [←hc] at HZ ⊢;clear hc hE1 HP hc1 hc2 hc3 hbl;by_cases hz:c=0
   ·subst hz;have Hz0:=Hi (HZ.out.1 rfl);clear HZ;go_wp2
    go_roundg k
    case measure=>omega
    case rel=>exact ⟨by go_num,by omega,by rw [Hs.out,gL (by rw [Hlen.out];omega) Hz0.out],HE.out⟩
   ·have hzb:(c == 0)=false:=by simpa using hz
    have HF:Hid (tz qs=qs.take (k+1)):=Hi (by rw [Hs.out,nN (by rw [Hlen.out];omega) (fun h=>hz (HZ.out.2 h))]);clear HZ hz;go_wp2
    go_ret
    have e:(tz qs).length=k+1:=by rw [HF.out,nXj,Hlen.out];omega
    refine ⟨(),?_,HE.out,?_,?_⟩
    ·rw [e];rfl
    ·rw [e];exact HF.out
    ·omega
theorem cN(ao:Option Addr)(n cap:Nat)(qs:List Rat)(w:World)(h:dk w ⟨ao,n,cap⟩ qs) :
  aq 105 [.slice ao n cap] w (fun _:Unit=>.int .i64 (((tz qs).length:Int)-1)) (fun _ _=>True):=by
 have H:=Hi h;have hle:=h.le;have hmx:=h.max;simp only at hle hmx;clear h;unfold aq
 change Calls Tryz.prog _ #[.slice ao n cap] w _
 go_enter Tryz.func105,Tryz.ntmps105
 go_wp2_with fail
 refine Calls.mono (dD _ _ _ _ _ H.out) ?_;rintro e w1 ⟨x1,rfl,hE1,-,h2⟩;have HE:=Hi hE1;clear hE1;go_wp2
 go_ret
 exact ⟨(),rfl,HE.out,trivial⟩
theorem ir{l:List Rat}{j:Nat}(h:j<l.length):l.take j++[l.getD j 0]=l.take (j+1):=by
 rw [List.take_succ_eq_append_getElem h];simp [h]
theorem ah(qs:List Rat):(tz qs).length≤qs.length:=by
 unfold tz;rw [List.length_reverse];have:=(List.dropWhile_sublist (l:=qs.reverse) (· == 0)).length_le;rw [List.length_reverse] at this;exact this
theorem mT(ao:Option Addr)(n cap:Nat)(qs:List Rat)(w:World)(h:dk w ⟨ao,n,cap⟩ qs)(hn:n≤1073741824) :
  aq 103 [.slice ao n cap] w SH.v (fun s w'=>bX w.heap.size w' s (tz qs)):=by
 obtain ⟨i0,hi0,hz0,hz1,hz2⟩:=info_parts jc;have H:=Hi h;have hle:=h.le;have hmx:=h.max;have Hlen:=Hi h.len;simp only at hle hmx Hlen;clear h;unfold aq
 change Calls Tryz.prog _ #[.slice ao n cap] w _
 go_enter Tryz.func103,Tryz.ntmps103
 go_wp2_with fail
 refine Calls.mono (dD _ _ _ _ _ H.out) ?_;rintro e w1 ⟨x1,rfl,hE1,h1,h2⟩;have HE:=Hi hE1;have HT:=Hi h1;clear hE1 h1;obtain ⟨m,hm⟩:∃ m,m=(tz qs).length:=⟨_,rfl⟩;rw [←hm] at h2 HT ⊢;have Hm:=Hi hm;clear hm
 go_wp2_with (refine ay rfl (.tmp 7) (.tmp 7) 24 rfl 34 i0 (RH.v default) 3 Tryz.underlying24 hi0 hz0 hz1 _ _ m rfl rfl (by simp) (by simp) (by rw [hz2];omega) (by omega) ?_;intro w2 hnew hE2)
 have hL:w.heap.size≤w1.heap.size:=HE.out.size;have HF:=Hi (eK.start (RBk.make rfl hnew));replace HE:=Hi (HE.out.trans hE2);clear hnew hE2;obtain ⟨L,hLe⟩:∃ L,L=w1.heap.size:=⟨_,rfl⟩;rw [←hLe] at hL HF ⊢;clear hLe;go_wp2
 go_loopg [11] m (fun g i wr=>∃ j:Nat,j+g=m∧i=.int .i64 (j:Nat)∧Ext w wr∧eK wr L m ((tz qs).take j))
 case atStart=>exact ⟨0,by omega,rfl,HE.out,HF.out⟩
 case round =>
  obtain ⟨j,hj,rfl,g1,g2⟩:=hrel;clear HE HF;have HE:=Hi g1;have HF:=Hi g2;clear g1 g2;have hlf:((tz qs).take j).length=j:=by rw [nXj,←Hm.out];omega
  by_cases h0:gk=0
  ·subst h0;obtain rfl:j=m:=by omega
   go_wp2
   go_ret
   refine ⟨⟨some ⟨L,0,none⟩,j,j⟩,rfl,HE.out,?_⟩;have:=HF.out.new hL hlf (by omega)
   rwa [nXl (by rw [←Hm.out];exact nXd _)] at this
  ·obtain ⟨b,off,r,hao,⟨hc1,hc2,hc3⟩,hP⟩:=(H.out.ext HE.out).at (k:=j) (by omega);subst hao;obtain ⟨rneg,ra,rn,rc,rb,rm,rd⟩:=r;simp only at hc1 hc2 hc3;have HP:=Hi hP;clear hP
   go_wp2_with fail
   refine Calls.mono (cf ⟨rneg,ra,rn,rc,rb,rm,rd⟩ _ _ HP.out) ?_;rintro e w3 ⟨x3,rfl,hE3,g3⟩;replace HE:=Hi (HE.out.trans hE3);replace HF:=Hi (HF.out.ext hE3);clear HP hc1 hc2 hc3 hE3;have G3:=Hi g3;clear g3;obtain ⟨r0,k1,k2,k3⟩:=HF.out.cells (by rw [hlf];omega);rw [hlf] at k1 k2 k3;have hfr:=HF.out.frozen;have hLl:=HF.out.lt;go_wp2;obtain ⟨_,rfl,T4⟩:=HF.out.put HE.out hL (by rw [hlf];omega) G3.out;rw [hlf] at T4;have e4:(tz qs).take j++[qs.getD j 0]=(tz qs).take (j+1):=by
    rw [←ir (l:=tz qs) (by rw [←Hm.out];omega),HT.out];simp [show j<m by omega]
   rw [e4] at T4
   go_roundg (gk-1)
   case measure=>omega
   case rel=>exact ⟨j+1,by omega,by go_num,T4.ext,T4.fill⟩
theorem nP{a b:List Rat}(hl:a.length=b.length)(h:a.take a.length=b.take a.length):a=b:=by
 rw [nXl (nXd _),nXl (by omega)] at h;exact h
theorem rN{a b:List Rat}{j:Nat}(h:a.take j=b.take j)(ha:j<a.length)(hb:j<b.length)(e:a.getD j 0=b.getD j 0):a.take (j+1)=b.take (j+1):=by
 rw [List.take_succ_eq_append_getElem ha,List.take_succ_eq_append_getElem hb,h];have e1:a[j]=b[j]:=by simpa [ha,hb] using e
 rw [e1]
theorem mK(s t:SH)(ps qs:List Rat)(w:World)(h:aJ w s ps)(k:aJ w t qs):aq 66 [s.v,t.v] w (fun _:Unit=>.bool (decide (ps=qs))) (fun _ _=>True):=by
 obtain ⟨ao,n,c⟩:=s;obtain ⟨bo,m,d⟩:=t;have H:=Hi h;have K:=Hi k;have h1:=h.len;have h2:=h.le;have h3:=h.max;have k1:=k.len;have k2:=k.le;have k3:=k.max;simp only at h1 h2 h3 k1 k2 k3;clear h k;have Hn:=Hi h1;have Km:=Hi k1;clear h1 k1;unfold aq
 change Calls Tryz.prog _ #[.slice ao n c,.slice bo m d] w _
 go_enter Tryz.func66,Tryz.ntmps66;by_cases hnm:n=m
 ·subst hnm;go_wp2
  go_loopg [5] n (fun g i wr=>∃ j:Nat,j+g=n∧i=.int .i64 (j:Nat)∧Ext w wr∧ps.take j=qs.take j)
  case atStart=>exact ⟨0,by omega,rfl,Ext.refl _,rfl⟩
  case round =>
   obtain ⟨j,hj,rfl,g1,g2⟩:=hrel;have HE:=Hi g1;have HT:=Hi g2;clear g1 g2;by_cases h0:gk=0
   ·subst h0;obtain rfl:j=n:=by omega
    go_wp2
    go_ret
    refine ⟨(),eW ?_,HE.out,trivial⟩;rw [decide_eq_true (nP (by rw [Hn.out,Km.out]) (by rw [Hn.out];exact HT.out))]
   ·obtain ⟨b,off,r,hao,⟨hc1,hc2,hc3⟩,hP⟩:=(H.out.ext HE.out).at (k:=j) (by omega);obtain ⟨b',off',r',hbo,⟨hd1,hd2,hd3⟩,hQ⟩:=(K.out.ext HE.out).at (k:=j) (by omega);subst hao hbo;obtain ⟨rneg,ra,rn,rc,rb,rm,rd⟩:=r;obtain ⟨sneg,sa,sn,sc,sb,sm,sd⟩:=r';simp only at hc1 hc2 hc3 hd1 hd2 hd3;have hbl:b<wr.heap.size:=nXp _ _ hc1;have hbl':b' < wr.heap.size:=nXp _ _ hd1;have HP:=Hi hP;have HQ:=Hi hQ;clear hP hQ;have hjn:(j:Int)<n:=by omega
    obtain ⟨u,hu⟩:∃ u,u=ps.getD j 0:=⟨_,rfl⟩;obtain ⟨v,hv⟩:∃ v,v=qs.getD j 0:=⟨_,rfl⟩;rw [←hu] at HP;rw [←hv] at HQ;have Hu:=Hi hu;have Hv:=Hi hv;clear hu hv;obtain ⟨B,hB⟩:∃ B,B=decide (u=v):=⟨_,rfl⟩;have HB:=Hi hB;clear hB
    go_upto_region 6 with fail
    refine wpG 10 (fun opIx=>match opIx with
     | 8=>.spec Unit () (fun _=>.bool B) (fun _ _=>True)
     | _=>.quiet) (fun _=>[]) fun w0 he0 hz0 hc0 hf0=>?_
    refine wps he0.out rfl rfl (fun w1 hW hG=>?_) fun x8=>?_
    ·exact spc [RH.v ⟨rneg,ra,rn,rc,rb,rm,rd⟩,RH.v ⟨sneg,sa,sn,sc,sb,sm,sd⟩] Tryz.func131 (HB.out ▸ kN ⟨rneg,ra,rn,rc,rb,rm,rd⟩ ⟨sneg,sa,sn,sc,sb,sm,sd⟩ _ _ _ (HP.out.ext hW) (HQ.out.ext hW))
    refine qZ ?_;refine ak ?_;intro w2 hI;have hE:=he0.out.trans hI.ext;clear hI he0 hz0 hc0 hf0;replace HE:=hE.tr HE;have hs_w2:=hE.size;clear hE;simp only [pD];cases B
    ·have hne:¬ ps=qs:=fun e=>by
      have:=HB.out;rw [Hu.out,Hv.out,e] at this;simp at this
     go_wp2
     go_ret
     exact ⟨(),eW (decide_eq_false hne).symm,HE.out,trivial⟩
    ·have hpq:ps.getD j 0=qs.getD j 0:=by
      rw [←Hu.out,←Hv.out];exact of_decide_eq_true HB.out.symm
     have Hpq:=Hi hpq;clear hpq;go_wp2
     go_roundg (gk-1)
     case measure=>omega
     case rel=>exact ⟨j+1,by omega,by go_num,HE.out,rN HT.out (by rw [Hn.out];omega) (by rw [Km.out];omega) Hpq.out⟩
 ·go_wp2
  go_ret
  refine ⟨(),eW ?_,Ext.refl _,trivial⟩;have:¬ ps=qs:=by rintro rfl;exact hnm (Hn.out.symm.trans Km.out)
  rw [decide_eq_false this]
theorem fS(s t:SH)(ps qs:List Rat)(w:World)(h:aJ w s ps)(k:aJ w t qs):aq 17 [s.v,t.v] w (fun _:Unit=>.bool (decide (ps=qs))) (fun _ _=>True):=by
 obtain ⟨ao,n,c⟩:=s;obtain ⟨bo,m,d⟩:=t;have H:=Hi h;have K:=Hi k;clear h k;unfold aq
 change Calls Tryz.prog _ #[.slice ao n c,.slice bo m d] w _
 go_enter Tryz.func17,Tryz.ntmps17
 go_wp2_with fail
 refine Calls.mono (mK ⟨ao,n,c⟩ ⟨bo,m,d⟩ ps qs _ H.out K.out) ?_;rintro e w1 ⟨x1,rfl,hE1,-⟩;have HE:=Hi hE1;clear hE1;go_wp2
 go_ret
 exact ⟨(),rfl,HE.out,trivial⟩
theorem dk.cells'{w:World}{ao:Option Addr}{n c:Nat}{qs:List Rat}(h:dk w ⟨ao,n,c⟩ qs){k:Nat}(hk:k<n):∃ b off r,ao=some ⟨b,off,none⟩∧b<w.heap.size∧RAt w b (off+k*3) r∧aY w r (qs.getD k 0) :=
 let ⟨b,off,r,h1,h2,h3⟩:=h.at hk;⟨b,off,r,h1,nXp _ _ h2.1,h2,h3⟩
theorem yL{w1:World}{b:Nat}{T:TypeId}{c0 c1 c2 v0 v1:Value}{F:World→Prop}(hb:w1.heap[b]?=some (.cells #[c0,c1,c2] T (0,0)))(hn:#[c0,c1,c2].toList.all f8=true)(h:∀ w2,fs w1 b T #[v0,v1,c2] w2→F w2) :
  F ((w1.setCell ⟨b,0,none⟩ v0).setCell ⟨b,1,none⟩ v1) :=
 h _ (fs.of (nXa.1 hb).1 (ai hb hn) ((bh.setCell w1 ⟨b,0,none⟩ v0).trans (bh.setCell _ ⟨b,1,none⟩ v1)) (by simp [World.setCell]) (aM (aM hb 0 v0) 1 v1))
theorem bY.rawn{w:World}{s:IH}{z:Int}(h:bY w s z){w':World}{t:IH}{y:Int}(k:eJ w' t y)(hz:z.natAbs≤y.natAbs):eJ w s z:=by
 obtain ⟨ds,h1,h2,h3⟩:=k;have h4:=gM h1 t.neg;rw [←h2] at h4;exact h.rawk (k:=t.n) (nYi hz h4) h3
theorem s8(s t:IH)(z y:Int)(w:World)(h:eJ w s z)(k:eJ w t y):aq 177 [s.v,t.v] w IH.v (fun s w'=>bY w' s (z-y)):=by
 obtain ⟨neg,ao,n,c⟩:=s;obtain ⟨neg',bo,m,d⟩:=t;have HR:=Hi h;have KR:=Hi k;have HX:=Hi (Ext.refl w);have HV:Hid (z-y=z+-y):=Hi (by omega);clear h k;unfold aq;go_enter Tryz.func177,Tryz.ntmps177
 go_upto_region 1 with fail
 refine pC ?_;intro w1 hE B2 B3 B4 hz_w1 hr_w1;refine mV3 hE ?_ HR KR HX;clear HR KR HX;intro HR KR HX;have hs_w1:=hE.size;clear hE;replace b_B2:=bX3 B2;replace b_B3:=bX3 B3;replace b_B4:=bX3 B4;refine wpG 4 (fun opIx=>match opIx with
  | 2=>.spec IH default IH.v (fun s w'=>bY w' s (-y))
  | 3=>.spec IH default IH.v (fun s w'=>bY w' s (z+-y))
  | _=>.quiet) (fun|3=>[2]|_=>[]) fun w0 he0 hz0 hc0 hf0=>?_
 refine wps he0.out rfl rfl (fun w1 hW hG=>?_) fun x2=>?_
 ·exact spc [IH.v ⟨neg',bo,m,d⟩] Tryz.func150 (km ⟨neg',bo,m,d⟩ y _ (KR.out.ext hW))
 refine qZ ?_;refine wps he0.out rfl rfl (fun w1 hW hG=>?_) fun x3=>?_
 ·have g2:=(hG 2 (by decide):av _ _).get fun _ e g=>g.ext e
  exact spc [IH.v ⟨neg,ao,n,c⟩,x2.v] Tryz.func111 (nf ⟨neg,ao,n,c⟩ x2 z (-y) _ (HR.out.ext hW) (g2.rawn KR.out (by omega)))
 refine qZ ?_;refine ak ?_;intro w2 hI;have hE:=he0.out.trans hI.ext;have G2:=gT (hI.facts 2);have G3:=gT (hI.facts 3);clear hI he0 hz0 hc0 hf0;refine mV6 hE ?_ B2 B3 B4 HX HR KR;clear B2 B3 B4 HX HR KR;intro B2 B3 B4 HX HR KR;have hs_w2:=hE.size;clear hE;replace b_B2:=bX3 B2;replace b_B3:=bX3 B3;replace b_B4:=bX3 B4;simp only [pD];rw [←HV.out] at G3;go_wp2;have hF:=((Fin.start (L:=w.heap.size+2) HX.out (ai B4.out rfl)).set (by omega) (i:=0) (v:=.bool x3.neg) rfl).set (by omega) (i:=1) (v:=.slice x3.a x3.n x3.c) rfl;exact bodyPost_ret (v:=x3.v) (by simp [results,Tryz.results177,go_sem,ab B4.out]) rfl ⟨x3,rfl,hF.ext,G3.out.keep hF.keep⟩
theorem wO(z y:Int):bW (z-y) 0=bW z y:=by
 unfold bW;split
 ·rw [if_pos (by omega)]
 ·split
  ·rw [if_neg (by omega),if_pos (by omega)]
  ·rw [if_neg (by omega),if_neg (by omega)]
theorem th(s t:IH)(z y:Int)(k:Nat)(w:World)(h:eJ w s z)(g:eJ w t y)(hz:z.natAbs<W32 ^ k)(hy:y.natAbs<W32 ^ k)(hk:k≤1073741823)(hk1:1≤k):aq 113 [s.v,t.v] w (fun _:Unit=>.int .i64 (bW z y)) (fun _ _=>True):=by
 obtain ⟨neg,ao,n,c⟩:=s;obtain ⟨neg',bo,m,d⟩:=t;have HR:=Hi h;have KR:=Hi g;have HX:=Hi (Ext.refl w);have HV:=Hi (wO z y);have HL:Hid ((z-y).natAbs<W32 ^ (k+1)):=Hi (by
  have h5:W32 ^ k*2≤W32 ^ (k+1):=by rw [nXs];exact nXf _ (by decide)
  omega)
 clear h g hz hy;unfold aq;go_enter Tryz.func113,Tryz.ntmps113
 go_wp2_with fail
 refine ji (F:=fun W=>Calls _ _ _ W _) ?_;intro w1 hE B2 B3 hz_w1 hr_w1;refine mV3 hE ?_ HR KR HX;clear HR KR HX;intro HR KR HX;have hs_w1:=hE.size;clear hE;replace b_B2:=bX3 B2;replace b_B3:=bX3 B3
 change Calls _ _ _ _ _
 refine cM (s8 ⟨neg,ao,n,c⟩ ⟨neg',bo,m,d⟩ z y _ HR.out KR.out) fun x2 w2 hE G2=>?_
 refine mV5 hE ?_ B2 B3 HR KR HX;clear B2 B3 HR KR HX;intro B2 B3 HR KR HX;have hs_w2:=hE.size;clear hE;replace b_B2:=bX3 B2;replace b_B3:=bX3 B3
 go_wp2_with fail
 refine cM (dw x2 (z-y) _ (G2.out.rawk HL.out (by omega))) fun x3 w3 hE _=>?_
 refine mV6 hE ?_ G2 B2 B3 HR KR HX;clear G2 B2 B3 HR KR HX;intro G2 B2 B3 HR KR HX;have hs_w3:=hE.size;clear hE;replace b_B2:=bX3 B2;replace b_B3:=bX3 B3;rw [HV.out];go_wp2
 go_ret
 exact ⟨(),rfl,HX.out,trivial⟩
theorem uf{z e z' e':Int}{q r:Rat}(h0:0<e)(k0:0<e')(h:(z:Rat) / (e:Rat)=q)(k:(z':Rat) / (e':Rat)=r):bW (z*e') (z'*e)=dp q r:=by
 have f:∀ (a b:Int),0<b→(a:Rat) / (b:Rat)=mkRat a b.natAbs:=fun a b hb=>by
  rw [Rat.mkRat_eq_div]
  congr 1
  rw [←Rat.intCast_natCast,Int.natAbs_of_nonneg (by omega)]
 rw [←h,←k,f z e h0,f z' e' k0,oI (by omega) (by omega)];rw [Int.natAbs_of_nonneg (by omega),Int.natAbs_of_nonneg (by omega)]
theorem mx{a b:Int}(h:Big a)(k:Big b):(a*b).natAbs<W32 ^ (rB+rB):=by
 rw [Int.natAbs_mul];exact gE h k
theorem je:rB+rB≤1073741823∧rB+rB≤1073741824∧1≤rB+rB:=by unfold rB;omega
theorem mR(s t:RH)(q r:Rat)(w:World)(h:aY w s q)(k:aY w t r):aq 49 [s.v,t.v] w (fun _:Unit=>.int .i64 (dp q r)) (fun _ _=>True):=by
 obtain ⟨neg,ao,n,c,bo,m,d⟩:=s;obtain ⟨neg',ao',n',c',bo',m',d'⟩:=t;have HR:=Hi h;have KR:=Hi k;have HX:=Hi (Ext.refl w);clear h k;unfold aq;go_enter Tryz.func49,Tryz.ntmps49
 go_wp2_with fail
 refine ji (F:=fun W=>Calls _ _ _ W _) ?_;intro w1 hE B2 B3 hz_w1 hr_w1;refine mV3 hE ?_ HR KR HX;clear HR KR HX;intro HR KR HX;have hs_w1:=hE.size;clear hE;replace b_B2:=bX3 B2;replace b_B3:=bX3 B3
 change Calls _ _ _ _ _
 refine cM (cZ ⟨neg,ao,n,c,bo,m,d⟩ q _ HR.out) fun x2 w2 hE G2=>?_
 refine mV5 hE ?_ B2 B3 HR KR HX;clear B2 B3 HR KR HX;intro B2 B3 HR KR HX;have hs_w2:=hE.size;clear hE;replace b_B2:=bX3 B2;replace b_B3:=bX3 B3;obtain ⟨⟨an,aa,al,ac⟩,⟨bn,ba,bl,bc⟩⟩:=x2;obtain ⟨z,e,g1,g2,p3,g4,p5,p6⟩:=G2.out.div;have J1:=Hi g1;have J2:=Hi g2;have J4:=Hi g4;have P3:=Hi p3;have P5:=Hi p5;have P6:=Hi p6;clear g1 g2 g4 p3 p5 p6 G2;simp only [PP]
 go_upto_region 2 with fail
 refine ji ?_;intro y3 hE B5 B6 hz_y3 hr_y3;refine mV7 hE ?_ B2 B3 HR KR HX J1 J2;clear B2 B3 HR KR HX J1 J2;intro B2 B3 HR KR HX J1 J2;have hs_y3:=hE.size;clear hE;replace b_B2:=bX3 B2;replace b_B3:=bX3 B3;replace b_B5:=bX3 B5;replace b_B6:=bX3 B6
 go_wp2_with fail
 refine cM (cZ ⟨neg',ao',n',c',bo',m',d'⟩ r _ KR.out) fun x4 w4 hE G4=>?_
 refine mV8 hE ?_ B5 B6 B2 B3 HR KR HX J1;clear B5 B6 B2 B3 HR KR HX J1;intro B5 B6 B2 B3 HR KR HX J1;replace J2:=mV hE J2;have hs_w4:=hE.size;clear hE;replace b_B2:=bX3 B2;replace b_B3:=bX3 B3;replace b_B5:=bX3 B5;replace b_B6:=bX3 B6;obtain ⟨⟨an',aa',al',ac'⟩,⟨bn',ba',bl',bc'⟩⟩:=x4;obtain ⟨z',e',g1,g2,p3,g4,p5,p6⟩:=G4.out.div;have K1:=Hi g1;have K2:=Hi g2;have K4:=Hi g4;have Q3:=Hi p3;have Q5:=Hi p5;have Q6:=Hi p6;clear g1 g2 g4 p3 p5 p6 G4;simp only [PP]
 go_upto_region 3 with fail
 refine ji ?_;intro y5 hE B7 B8 hz_y5 hr_y5;refine mV8 hE ?_ B5 B6 B2 B3 HR KR HX J1;clear B5 B6 B2 B3 HR KR HX J1;intro B5 B6 B2 B3 HR KR HX J1;refine mV3 hE ?_ J2 K1 K2;clear J2 K1 K2;intro J2 K1 K2;have hs_y5:=hE.size;clear hE;replace b_B2:=bX3 B2;replace b_B3:=bX3 B3;replace b_B5:=bX3 B5;replace b_B6:=bX3 B6;replace b_B7:=bX3 B7;replace b_B8:=bX3 B8;have HV:=Hi (uf P3.out Q3.out J4.out K4.out);have M1:=Hi (mx P5.out Q6.out);have M2:=Hi (mx Q5.out P6.out);clear J4 K4;refine wpG 7 (fun opIx=>match opIx with
  | 2=>.spec IH default IH.v (fun s w'=>bY w' s (z*e'))
  | 5=>.spec IH default IH.v (fun s w'=>bY w' s (z'*e))
  | 6=>.spec Unit () (fun _=>.int .i64 (dp q r)) (fun _ _=>True)
  | _=>.quiet) (fun|6=>[2,5]|_=>[]) fun w0 he0 hz0 hc0 hf0=>?_
 refine wps he0.out rfl rfl (fun w1 hW hG=>?_) fun x2=>?_
 ·exact spc [IH.v ⟨an,aa,al,ac⟩,IH.v ⟨bn',ba',bl',bc'⟩] Tryz.func112 (df _ _ _ _ _ (J1.out.ext hW) (K2.out.ext hW))
 refine qZ ?_;refine wps he0.out rfl rfl (fun w1 hW hG=>?_) fun x5=>?_
 ·exact spc [IH.v ⟨an',aa',al',ac'⟩,IH.v ⟨bn,ba,bl,bc⟩] Tryz.func112 (df _ _ _ _ _ (K1.out.ext hW) (J2.out.ext hW))
 refine qZ ?_;refine wps he0.out rfl rfl (fun w1 hW hG=>?_) fun x6=>?_
 ·have g2:=(hG 2 (by decide):av _ _).get fun _ e g=>g.ext e
  have g5:=(hG 5 (by decide):av _ _).get fun _ e g=>g.ext e
  exact spc [x2.v,x5.v] Tryz.func113 (HV.out ▸ th x2 x5 _ _ (rB+rB) _ (g2.rawk M1.out je.2.1) (g5.rawk M2.out je.2.1) M1.out M2.out je.1 je.2.2)
 refine qZ ?_;refine ak ?_;intro w6 hI;have hE:=he0.out.trans hI.ext;have G2:=gT (hI.facts 2);have G5:=gT (hI.facts 5);clear hI he0 hz0 hc0 hf0;refine mV8 hE ?_ B7 B8 B5 B6 B2 B3 HR KR;clear B7 B8 B5 B6 B2 B3 HR KR;intro B7 B8 B5 B6 B2 B3 HR KR;refine mV5 hE ?_ HX J1 K2 K1 J2;clear HX J1 K2 K1 J2;intro HX J1 K2 K1 J2;have hs_w6:=hE.size;clear hE;replace b_B2:=bX3 B2;replace b_B3:=bX3 B3;replace b_B5:=bX3 B5;replace b_B6:=bX3 B6;replace b_B7:=bX3 B7;replace b_B8:=bX3 B8;simp only [pD];go_wp2
 go_ret
 exact ⟨(),rfl,HX.out,trivial⟩
theorem aY.bsz{w:World}{s:RH}{q:Rat}(h:aY w s q):Sz 134217728 q:=by
 obtain ⟨ds,es,h1,h2,h3,h4,h5⟩:=h;exact aY.sz (s:=s) ⟨ds,es,h1,h2,h3,h4,h5⟩ (by decide) h4 h5
theorem aw.numI{w:World}{neg:Bool}{a b:Option Addr}{n c m d:Nat}{q:Rat}(h:aw w ⟨neg,a,n,c,b,m,d⟩ q):bY w ⟨neg,a,n,c⟩ q.num:=⟨h.1,h.2.1⟩
theorem AQ(s:RH)(q:Rat)(w:World)(h:aY w s q):aq 83 [s.v] w RH.v (fun x w'=>aw w' x (-q)):=by
 have ZQ:=Hi h.bsz;obtain ⟨neg,ao,n,c,bo,m,d⟩:=s;have HR:=Hi h;have HX:=Hi (Ext.refl w);clear h;unfold aq;go_enter Tryz.func83,Tryz.ntmps83
 go_wp2_with fail
 refine ji (F:=fun W=>Calls _ _ _ W _) ?_;intro w1 hE B1 B2 hz_w1 hr_w1;refine mV2 hE ?_ HR HX;clear HR HX;intro HR HX;have hs_w1:=hE.size;clear hE;replace b_B1:=bX3 B1;replace b_B2:=bX3 B2
 change Calls _ _ _ _ _
 refine cM (qI ⟨neg,ao,n,c,bo,m,d⟩ q _ HR.out) fun x2 w2 hE G2=>?_
 refine mV4 hE ?_ B1 B2 HR HX;clear B1 B2 HR HX;intro B1 B2 HR HX;have hs_w2:=hE.size;clear hE;replace b_B1:=bX3 B1;replace b_B2:=bX3 B2
 go_upto_region 2 with fail
 refine aV B1.out rfl ?_;intro y3 T;replace HX:=Hi (T.ext HX.out (by omega));replace HR:=Hi (HR.out.keep T.keep);replace B1:=Hi (T.bx);replace B2:=Hi (T.rest _ _ (by omega) B2.out);replace G2:=Hi (G2.out.keep T.keep);have hs_y3:=nle T.size;have hr_y3:=nle T.size.symm;clear T;replace b_B1:=bX3 B1;replace b_B2:=bX3 B2;obtain ⟨xn,xa,xl,xc,xb,xm,xd⟩:=x2
 go_wp2_with fail
 refine cM (km ⟨xn,xa,xl,xc⟩ q.num _ (G2.out.numI.rawk ZQ.out.1 (by decide))) fun x4 w4 hE G4=>?_
 refine mV5 hE ?_ HX HR B1 B2 G2;clear HX HR B1 B2 G2;intro HX HR B1 B2 G2;have hs_w4:=hE.size;clear hE;replace b_B1:=bX3 B1;replace b_B2:=bX3 B2;obtain ⟨yn,ya,yl,yc⟩:=x4
 go_upto_region 3 with fail
 refine yL B1.out rfl ?_;intro y5 T;replace HX:=Hi (T.ext HX.out (by omega));replace HR:=Hi (HR.out.keep T.keep);replace B1:=Hi (T.bx);replace B2:=Hi (T.rest _ _ (by omega) B2.out);replace G2:=Hi (G2.out.keep T.keep);replace G4:=Hi (G4.out.keep T.keep);have hs_y5:=nle T.size;have hr_y5:=nle T.size.symm;clear T;replace b_B1:=bX3 B1;replace b_B2:=bX3 B2;go_wp2;have hF:=((((Fin.start (L:=w.heap.size+1) HX.out (ai B2.out rfl)).set (by omega) (i:=0) (v:=.bool (⟨yn,ya,yl,yc,xb,xm,xd⟩:RH).neg) rfl).set (by omega) (i:=1) (v:=.slice (⟨yn,ya,yl,yc,xb,xm,xd⟩:RH).a (⟨yn,ya,yl,yc,xb,xm,xd⟩:RH).n (⟨yn,ya,yl,yc,xb,xm,xd⟩:RH).c) rfl).set (by omega) (i:=2) (v:=.slice (⟨yn,ya,yl,yc,xb,xm,xd⟩:RH).b (⟨yn,ya,yl,yc,xb,xm,xd⟩:RH).m (⟨yn,ya,yl,yc,xb,xm,xd⟩:RH).d) rfl);exact bodyPost_ret (v:=(⟨yn,ya,yl,yc,xb,xm,xd⟩:RH).v) (by simp [results,Tryz.results83,go_sem,ab B2.out]) rfl ⟨(⟨yn,ya,yl,yc,xb,xm,xd⟩:RH),rfl,hF.ext,(aw.keep (s:=⟨yn,ya,yl,yc,xb,xm,xd⟩) ⟨by rw [Rat.neg_num];exact G4.out.1,by rw [Rat.neg_num];exact G4.out.2,by rw [Rat.neg_den];exact G2.out.2.2⟩ hF.keep)⟩
theorem tT{z e z' e':Int}{q r:Rat}(h:(z:Rat) / (e:Rat)=q)(k:(z':Rat) / (e':Rat)=r):((z*e':Int):Rat) / ((e*z':Int):Rat)=q / r:=by
 subst h k;rw [Rat.intCast_mul,Rat.intCast_mul,Rat.div_def,Rat.div_def,Rat.div_def,Rat.div_def,jv,jv,Rat.inv_inv];grind
theorem vK{z e:Int}{q:Rat}(he:0<e)(h:(z:Rat) / (e:Rat)=q):z=0↔q=0:=by
 subst h;constructor
 ·rintro rfl;rw [Rat.div_def];show (0:Rat)*_=0;grind
 ·intro h;rw [Rat.div_def] at h;rcases nXq.1 h with h1|h1
  ·exact Rat.intCast_eq_zero_iff.1 h1
  ·have a1:(e:Rat)≠0:=by intro h0;have:=Rat.intCast_eq_zero_iff.1 h0;omega
   have:=nYh _ a1;rw [h1] at this;grind
def BD(r:Rat):Int:=if r=0 then 3 else 0
theorem nA{r:Rat}(h:r=0):BD r=3:=if_pos h
theorem tX{r:Rat}(h:r≠0):BD r=0:=if_neg h
def DA(q r:Rat)(x:RH)(w':World):Prop:=r≠0→aw w' x (q / r)
abbrev DV(s:RH)(e:Int):Value:=.tuple #[s.v,.int .i64 e]
theorem st(s t:RH)(q r:Rat)(w:World)(h:aY w s q)(k:aY w t r):aq 91 [s.v,t.v] w (fun x:RH=>DV x (BD r)) (DA q r):=by
 obtain ⟨neg,ao,n,c,bo,m,d⟩:=s;obtain ⟨neg',ao',n',c',bo',m',d'⟩:=t;have HR:=Hi h;have KR:=Hi k;have HX:=Hi (Ext.refl w);clear h k;unfold aq;go_enter Tryz.func91,Tryz.ntmps91
 go_wp2_with fail
 refine pC (F:=fun W=>Calls _ _ _ W _) ?_;intro w1 hE B2 B3 B4 hz_w1 hr_w1;refine mV3 hE ?_ HR KR HX;clear HR KR HX;intro HR KR HX;have hs_w1:=hE.size;clear hE;replace b_B2:=bX3 B2;replace b_B3:=bX3 B3;replace b_B4:=bX3 B4
 change Calls _ _ _ _ _
 refine cM (cZ ⟨neg,ao,n,c,bo,m,d⟩ q _ HR.out) fun x2 w2 hE G2=>?_
 refine mV6 hE ?_ B2 B3 B4 HR KR HX;clear B2 B3 B4 HR KR HX;intro B2 B3 B4 HR KR HX;have hs_w2:=hE.size;clear hE;replace b_B2:=bX3 B2;replace b_B3:=bX3 B3;replace b_B4:=bX3 B4;obtain ⟨⟨an,aa,al,ac⟩,⟨bn,ba,bl,bc⟩⟩:=x2;obtain ⟨z,e,g1,g2,p3,g4,p5,p6⟩:=G2.out.div;have J1:=Hi g1;have J2:=Hi g2;have J4:=Hi g4;have P5:=Hi p5;have P6:=Hi p6;clear g1 g2 g4 p3 p5 p6 G2;simp only [PP]
 go_upto_region 2 with fail
 refine ji ?_;intro y3 hE B6 B7 hz_y3 hr_y3;refine mV8 hE ?_ B2 B3 B4 HR KR HX J1 J2;clear B2 B3 B4 HR KR HX J1 J2;intro B2 B3 B4 HR KR HX J1 J2;have hs_y3:=hE.size;clear hE;replace b_B2:=bX3 B2;replace b_B3:=bX3 B3;replace b_B4:=bX3 B4;replace b_B6:=bX3 B6;replace b_B7:=bX3 B7
 go_wp2_with fail
 refine cM (cZ ⟨neg',ao',n',c',bo',m',d'⟩ r _ KR.out) fun x4 w4 hE G4=>?_
 refine mV8 hE ?_ B6 B7 B2 B3 B4 HR KR HX;clear B6 B7 B2 B3 B4 HR KR HX;intro B6 B7 B2 B3 B4 HR KR HX;refine mV2 hE ?_ J1 J2;clear J1 J2;intro J1 J2;have hs_w4:=hE.size;clear hE;replace b_B2:=bX3 B2;replace b_B3:=bX3 B3;replace b_B4:=bX3 B4;replace b_B6:=bX3 B6;replace b_B7:=bX3 B7;obtain ⟨⟨an',aa',al',ac'⟩,⟨bn',ba',bl',bc'⟩⟩:=x4;obtain ⟨z',e',g1,g2,p3,g4,p5,p6⟩:=G4.out.div;have K1:=Hi g1;have K2:=Hi g2;have K4:=Hi g4;have KN:=Hi (vK p3 g4);have Q5:=Hi p5;have Q6:=Hi p6;clear g1 g2 g4 p3 p5 p6 G4;simp only [PP]
 go_upto_region 3 with fail
 refine ji ?_;intro y5 hE B8 B9 hz_y5 hr_y5;refine mV8 hE ?_ B6 B7 B2 B3 B4 HR KR HX;clear B6 B7 B2 B3 B4 HR KR HX;intro B6 B7 B2 B3 B4 HR KR HX;refine mV4 hE ?_ J1 J2 K1 K2;clear J1 J2 K1 K2;intro J1 J2 K1 K2;have hs_y5:=hE.size;clear hE;replace b_B2:=bX3 B2;replace b_B3:=bX3 B3;replace b_B4:=bX3 B4;replace b_B6:=bX3 B6;replace b_B7:=bX3 B7;replace b_B8:=bX3 B8;replace b_B9:=bX3 B9;have HV:=Hi (tT J4.out K4.out);have M1:=Hi (mx P5.out Q6.out);have M2:=Hi (mx P6.out Q5.out);clear J4 K4
 go_wp2_with fail
 refine cM (dw ⟨an',aa',al',ac'⟩ z' _ K1.out) fun x6 w6 hE _=>?_
 refine mV8 hE ?_ B8 B9 B6 B7 B2 B3 B4 HR;clear B8 B9 B6 B7 B2 B3 B4 HR;intro B8 B9 B6 B7 B2 B3 B4 HR;refine mV6 hE ?_ KR HX J1 J2 K1 K2;clear KR HX J1 J2 K1 K2;intro KR HX J1 J2 K1 K2;have hs_w6:=hE.size;clear hE;replace b_B2:=bX3 B2;replace b_B3:=bX3 B3;replace b_B4:=bX3 B4;replace b_B6:=bX3 B6;replace b_B7:=bX3 B7;replace b_B8:=bX3 B8;replace b_B9:=bX3 B9;by_cases hz:z'=0
 case pos =>
  have hr:r=0:=KN.out.1 hz;subst hz;have HRz:=Hi hr;rw [cQ rfl];have HZe:Hid (Ending.returned (DV ⟨false,none,0,0,none,0,0⟩ 3)=Ending.returned (DV ⟨false,none,0,0,none,0,0⟩ (BD r))):=Hi (by rw [nA HRz.out]);clear hr M1 M2 HV P5 P6 Q5 Q6 KN;go_wp2;have hF:=(((Fin.start (L:=w.heap.size+2) HX.out (ai B4.out rfl)).set (by omega) (i:=0) (v:=.bool false) rfl).set (by omega) (i:=1) (v:=.slice none 0 0) rfl).set (by omega) (i:=2) (v:=.slice none 0 0) rfl;exact bodyPost_ret (v:=DV ⟨false,none,0,0,none,0,0⟩ 3) (by simp [results,Tryz.results91,go_sem,ab B4.out,DV]) rfl ⟨⟨false,none,0,0,none,0,0⟩,HZe.out,hF.ext,fun h=>(h HRz.out).elim⟩
 have HRz:Hid (r≠0):=Hi (fun h=>hz (KN.out.2 h));have hcz:bW z' 0=-1∨bW z' 0=1:=by
  rcases Int.lt_or_gt_of_ne hz with h|h
  ·exact Or.inl (cP h)
  ·exact Or.inr (cD h)
 obtain ⟨v,hv⟩:∃ v,v=bW z' 0:=⟨_,rfl⟩;rw [←hv] at hcz ⊢;have hvb:(v == 0)=false:=by rw [nXr];omega
 clear hv hcz hz KN;have HZe:∀ x:RH,Ending.returned (DV x 0)=Ending.returned (DV x (BD r)):=fun x=>by rw [tX HRz.out]
 go_upto_region 5 with fail
 refine wpG 7 (fun opIx=>match opIx with
  | 2=>.spec IH default IH.v (fun s w'=>bY w' s (z*e'))
  | 5=>.spec IH default IH.v (fun s w'=>bY w' s (e*z'))
  | 6=>.spec RH default RH.v (fun s w'=>aw w' s (q / r))
  | _=>.quiet) (fun|6=>[2,5]|_=>[]) fun w0 he0 hz0 hc0 hf0=>?_
 refine wps he0.out rfl rfl (fun w1 hW hG=>?_) fun x2=>?_
 ·exact spc [IH.v ⟨an,aa,al,ac⟩,IH.v ⟨bn',ba',bl',bc'⟩] Tryz.func112 (df _ _ _ _ _ (J1.out.ext hW) (K2.out.ext hW))
 refine qZ ?_;refine wps he0.out rfl rfl (fun w1 hW hG=>?_) fun x5=>?_
 ·exact spc [IH.v ⟨bn,ba,bl,bc⟩,IH.v ⟨an',aa',al',ac'⟩] Tryz.func112 (df _ _ _ _ _ (J2.out.ext hW) (K1.out.ext hW))
 refine qZ ?_;refine wps he0.out rfl rfl (fun w1 hW hG=>?_) fun x6=>?_
 ·have g2:=(hG 2 (by decide):av _ _).get fun _ e g=>g.ext e
  have g5:=(hG 5 (by decide):av _ _).get fun _ e g=>g.ext e
  exact spc [x2.v,x5.v] Tryz.func110 (HV.out ▸ eL x2 x5 _ _ _ (g2.rawk M1.out je.2.1) (g5.rawk M2.out je.2.1))
 refine qZ ?_;refine ak ?_;intro w7 hI;have hE:=he0.out.trans hI.ext;have G2:=gT (hI.facts 2);have G5:=gT (hI.facts 5);have G6:=gT (hI.facts 6);clear hI he0 hz0 hc0 hf0;refine mV8 hE ?_ B8 B9 B6 B7 B2 B3 B4 HR;clear B8 B9 B6 B7 B2 B3 B4 HR;intro B8 B9 B6 B7 B2 B3 B4 HR;refine mV6 hE ?_ KR HX J1 K2 J2 K1;clear KR HX J1 K2 J2 K1;intro KR HX J1 K2 J2 K1;have hs_w7:=hE.size;clear hE;replace b_B2:=bX3 B2;replace b_B3:=bX3 B3;replace b_B4:=bX3 B4;replace b_B6:=bX3 B6;replace b_B7:=bX3 B7;replace b_B8:=bX3 B8;replace b_B9:=bX3 B9;simp only [pD];go_wp2;have hF:=(((Fin.start (L:=w.heap.size+2) HX.out (ai B4.out rfl)).set (by omega) (i:=0) (v:=.bool x6.neg) rfl).set (by omega) (i:=1) (v:=.slice x6.a x6.n x6.c) rfl).set (by omega) (i:=2) (v:=.slice x6.b x6.m x6.d) rfl;exact bodyPost_ret (v:=DV x6 0) (by simp [results,Tryz.results91,go_sem,ab B4.out,DV]) rfl ⟨x6,HZe x6,hF.ext,fun _=>G6.out.keep hF.keep⟩
theorem i4(s t:RH)(q r:Rat)(w:World)(h:aY w s q)(k:aY w t r):aq 35 [s.v,t.v] w RH.v (fun x w'=>aw w' x (q / r)):=by
 obtain ⟨neg,ao,n,c,bo,m,d⟩:=s;obtain ⟨neg',ao',n',c',bo',m',d'⟩:=t;have HR:=Hi h;have KR:=Hi k;have HX:=Hi (Ext.refl w);clear h k;unfold aq;go_enter Tryz.func35,Tryz.ntmps35
 go_wp2_with fail
 refine pC (F:=fun W=>Calls _ _ _ W _) ?_;intro w1 hE B2 B3 B4 hz_w1 hr_w1;refine mV3 hE ?_ HR KR HX;clear HR KR HX;intro HR KR HX;have hs_w1:=hE.size;clear hE;replace b_B2:=bX3 B2;replace b_B3:=bX3 B3;replace b_B4:=bX3 B4
 change Calls _ _ _ _ _
 refine cM (st ⟨neg,ao,n,c,bo,m,d⟩ ⟨neg',ao',n',c',bo',m',d'⟩ q r _ HR.out KR.out) fun x2 w2 hE G2=>?_
 refine mV6 hE ?_ B2 B3 B4 HR KR HX;clear B2 B3 B4 HR KR HX;intro B2 B3 B4 HR KR HX;have hs_w2:=hE.size;clear hE;replace b_B2:=bX3 B2;replace b_B3:=bX3 B3;replace b_B4:=bX3 B4;simp only [DV];by_cases hr:r=0
 case pos =>
  have HV:Hid (q / r=((0:Int):Rat)):=Hi (by rw [hr,Rat.div_def,Rat.inv_zero];show q*0=0;grind);rw [nA hr];clear hr G2
  go_upto_region 2 with fail
  refine nmA ?_;intro y3 hE B5 hz_y3 hr_y3;refine mV6 hE ?_ B2 B3 B4 HR KR HX;clear B2 B3 B4 HR KR HX;intro B2 B3 B4 HR KR HX;have hs_y3:=hE.size;clear hE;replace b_B2:=bX3 B2;replace b_B3:=bX3 B3;replace b_B4:=bX3 B4;replace b_B5:=bX3 B5
  go_wp2_with fail
  refine cM (eV 0 _ (by decide) (by decide)) fun x4 w4 hE G4=>?_
  refine mV7 hE ?_ B5 B2 B3 B4 HR KR HX;clear B5 B2 B3 B4 HR KR HX;intro B5 B2 B3 B4 HR KR HX;have hs_w4:=hE.size;clear hE;replace b_B2:=bX3 B2;replace b_B3:=bX3 B3;replace b_B4:=bX3 B4;replace b_B5:=bX3 B5;go_wp2;have hF:=((((Fin.start (L:=w.heap.size+2) HX.out (ai B4.out rfl)).set (by omega) (i:=0) (v:=.bool x4.neg) rfl).set (by omega) (i:=1) (v:=.slice x4.a x4.n x4.c) rfl).set (by omega) (i:=2) (v:=.slice x4.b x4.m x4.d) rfl);exact bodyPost_ret (v:=x4.v) (by simp [results,Tryz.results35,go_sem,ab B4.out]) rfl ⟨x4,rfl,hF.ext,(by rw [HV.out];exact G4.out.keep hF.keep)⟩
 rw [tX hr];have GC:=Hi (G2.out hr);clear hr G2;obtain ⟨xn,xa,xl,xc,xb,xm,xd⟩:=x2
 go_upto_region 2 with fail
 refine nmA ?_;intro y3 hE B5 hz_y3 hr_y3;refine mV7 hE ?_ B2 B3 B4 HR KR HX GC;clear B2 B3 B4 HR KR HX GC;intro B2 B3 B4 HR KR HX GC;have hs_y3:=hE.size;clear hE;replace b_B2:=bX3 B2;replace b_B3:=bX3 B3;replace b_B4:=bX3 B4;replace b_B5:=bX3 B5;go_wp2;have hF:=((((Fin.start (L:=w.heap.size+2) HX.out (ai B4.out rfl)).set (by omega) (i:=0) (v:=.bool (⟨xn,xa,xl,xc,xb,xm,xd⟩:RH).neg) rfl).set (by omega) (i:=1) (v:=.slice (⟨xn,xa,xl,xc,xb,xm,xd⟩:RH).a (⟨xn,xa,xl,xc,xb,xm,xd⟩:RH).n (⟨xn,xa,xl,xc,xb,xm,xd⟩:RH).c) rfl).set (by omega) (i:=2) (v:=.slice (⟨xn,xa,xl,xc,xb,xm,xd⟩:RH).b (⟨xn,xa,xl,xc,xb,xm,xd⟩:RH).m (⟨xn,xa,xl,xc,xb,xm,xd⟩:RH).d) rfl);exact bodyPost_ret (v:=(⟨xn,xa,xl,xc,xb,xm,xd⟩:RH).v) (by simp [results,Tryz.results35,go_sem,ab B4.out]) rfl ⟨(⟨xn,xa,xl,xc,xb,xm,xd⟩:RH),rfl,hF.ext,(aw.keep (s:=⟨xn,xa,xl,xc,xb,xm,xd⟩) GC.out hF.keep)⟩
end Go.Proofs.YtafgmcimcbhhjaaGreat
/- Stab, StbP, Stb1, Stb2, Stb3 -/
namespace Go.Stab
def sm:Nat→(Nat→Rat)→Rat
 | 0,_=>0
 | n+1,f=>sm n f+f n
theorem sm_congr{n:Nat}{f g:Nat→Rat}(h:∀ i,i<n→f i=g i):sm n f=sm n g:=by
 induction n with
 | zero=>rfl
 | succ n ih=>simp only [sm];rw [ih (fun i hi=>h i (by omega)),h n (by omega)]
theorem xr(n:Nat)(f g:Nat→Rat):sm n (fun i=>f i+g i)=sm n f+sm n g:=by
 induction n with
 | zero=>simp only [sm];grind
 | succ n ih=>simp only [sm];rw [ih];grind
theorem jL(n:Nat)(c:Rat)(f:Nat→Rat):sm n (fun i=>c*f i)=c*sm n f:=by
 induction n with
 | zero=>simp [sm]
 | succ n ih=>simp only [sm];rw [ih];grind
theorem sm_zero(n:Nat):sm n (fun _=>0)=0:=by
 induction n with
 | zero=>rfl
 | succ n ih=>simp only [sm];rw [ih];grind
theorem AI{n:Nat}{f g:Nat→Rat}(h:∀ i,i<n→f i≤g i):sm n f≤sm n g:=by
 induction n with
 | zero=>exact Rat.le_refl
 | succ n ih =>
  simp only [sm];have h1:=ih (fun i hi=>h i (by omega));have h2:=h n (by omega);grind
theorem iw(n:Nat)(f:Nat→Rat):sm (n+1) f=f 0+sm n (fun i=>f (i+1)):=by
 induction n with
 | zero=>simp [sm];grind
 | succ n ih=>rw [sm,ih];simp only [sm];grind
theorem sm_split(n m:Nat)(f:Nat→Rat):sm (n+m) f=sm n f+sm m (fun i=>f (n+i)):=by
 induction m with
 | zero=>simp [sm];grind
 | succ m ih=>rw [←Nat.add_assoc];simp only [sm];rw [ih];grind
theorem AH(n:Nat)(f:Nat→Rat):sm n f=sm n (fun i=>f (n-1-i)):=by
 induction n with
 | zero=>rfl
 | succ n ih =>
  rw [iw n (fun i=>f (n+1-1-i))];simp only [sm];rw [ih];have:sm n (fun i=>f (n+1-1-(i+1)))=sm n (fun i=>f (n-1-i)):=sm_congr (fun i hi=>by congr 1;omega);rw [this];simp only [Nat.add_sub_cancel,Nat.sub_zero];grind
def sh(u:Nat→Rat):Nat→Rat
 | 0=>0
 | n+1=>u n
def ap:List Rat→(Nat→Rat)→Nat→Rat
 | [],_=>fun _=>0
 | a :: l,u=>fun n=>a*u n+sh (ap l u) n
def E(n:Nat)(u:Nat→Rat):Rat:=sm n (fun i=>u i*u i)
def Dm(a b:List Rat):List Rat:=List.zipWith (·+·) a b
def Dl(c:Rat)(a:List Rat):List Rat:=a.map (c*·)
def up(c:List Rat)(k:Rat):List Rat:=Dm (c++[0]) (Dl k (0 :: c.reverse))
def Inv(c:List Rat):Prop:=∃ C:Rat,0≤C∧∀ u N,E N u≤C*E N (ap c u)
def shn(i:Nat)(u:Nat→Rat)(n:Nat):Rat:=if i≤n then u (n-i) else 0
theorem u7(i:Nat)(u:Nat→Rat)(n:Nat):shn (i+1) u (n+1)=shn i u n:=by
 unfold shn;by_cases h:i≤n
 ·rw [if_pos h,if_pos (by omega)];congr 1;omega
 ·rw [if_neg h,if_neg (by omega)]
theorem ap_sum(c:List Rat)(u:Nat→Rat)(n:Nat):ap c u n=sm c.length (fun i=>c.getD i 0*shn i u n):=by
 induction c generalizing n with
 | nil=>rfl
 | cons a l ih =>
  simp only [ap,List.length_cons];rw [iw];have e0:shn 0 u n=u n:=by unfold shn;simp
  have e1:sh (ap l u) n=sm l.length (fun i=>(a :: l).getD (i+1) 0*shn (i+1) u n):=by
   cases n with
   | zero =>
    simp only [sh];rw [sm_congr (g:=fun _=>0) (fun i _=>by simp [shn]),sm_zero]
   | succ n =>
    simp only [sh];rw [ih];exact sm_congr (fun i _=>by rw [u7];simp)
  rw [e1,e0];simp
def G(L:Nat)(u:Nat→Rat)(i j:Nat):Rat:=sm L (fun n=>shn i u n*shn j u n)
theorem lt_or_le(a b:Rat):a<b∨b≤a:=by
 rcases Rat.le_total (a:=b) (b:=a) with h|h
 ·exact Or.inr h
 ·by_cases h1:a=b
  ·right;rw [h1];exact Rat.le_refl
  ·left;exact Rat.lt_of_le_of_ne h h1
theorem u6(n:Nat)(c:Rat):sm n (fun _=>c)=(n:Rat)*c:=by
 induction n with
 | zero=>simp only [sm];grind
 | succ n ih=>simp only [sm];rw [ih,Rat.natCast_add];grind
theorem xy{J:Nat}{f:Nat→Rat}{S:Rat}(hJ:1≤J)(h:sm J f≤S):∃ j,j<J∧(J:Rat)*f j≤S:=by
 apply Classical.byContradiction;intro hn;have hall:∀ j,j<J→S<(J:Rat)*f j:=by
  intro j hj;rcases lt_or_le (S) ((J:Rat)*f j) with h1|h1
  ·exact h1
  ·exact absurd ⟨j,hj,h1⟩ hn
 have h1:sm J (fun _=>S)≤sm J (fun j=>(J:Rat)*f j):=AI (fun j hj=>Rat.le_of_lt (hall j hj));have h2:sm J (fun _=>S)<sm J (fun j=>(J:Rat)*f j):=by
  obtain ⟨J',rfl⟩:∃ J',J=J'+1:=⟨J-1,by omega⟩;simp only [sm];have a1:=hall J' (by omega);have a2:sm J' (fun _=>S)≤sm J' (fun j=>((J'+1:Nat):Rat)*f j):=AI (fun j hj=>Rat.le_of_lt (hall j (by omega)));grind
 rw [u6,jL] at h2;have h3:=Rat.mul_le_mul_of_nonneg_left h (c:=(J:Rat)) (by exact Rat.natCast_nonneg);grind
def seq(c:List Rat)(n:Nat):Rat:=c.getD n 0
def cv(s u:Nat→Rat)(n:Nat):Rat:=sm (n+1) (fun i=>s i*u (n-i))
theorem eH(s u:Nat→Rat):cv s u=cv u s:=by
 funext n
 unfold cv;rw [AH];exact sm_congr (fun i hi=>by rw [show n-(n+1-1-i)=i by omega,show n+1-1-i=n-i by omega];grind)
theorem BI(t u:Nat→Rat):cv (sh t) u=sh (cv t u):=by
 funext n
 cases n with
 | zero=>simp only [cv,sm,sh];grind
 | succ n =>
  simp only [sh];unfold cv;rw [iw];simp only [sh];rw [sm_congr (f:=fun i=>t i*u (n+1-(i+1))) (g:=fun i=>t i*u (n-i)) (fun i hi=>by rw [show n+1-(i+1)=n-i by omega])];grind
theorem nC(s t u:Nat→Rat):cv (fun n=>s n+t n) u=fun n=>cv s u n+cv t u n:=by
 funext n
 unfold cv;rw [←xr];exact sm_congr (fun i _=>by grind)
theorem eR(c:Rat)(s u:Nat→Rat):cv (fun n=>c*s n) u=fun n=>c*cv s u n:=by
 funext n
 unfold cv;rw [←jL];exact sm_congr (fun i _=>by grind)
theorem Ds(p:List Rat)(s u:Nat→Rat):cv (ap p s) u=ap p (cv s u):=by
 induction p with
 | nil=>funext n;unfold cv ap;rw [sm_congr (g:=fun _=>0) (fun i _=>by grind),sm_zero]
 | cons a l ih=>simp only [ap];rw [nC,eR,BI,ih]
theorem ve(a:Rat)(l:List Rat):seq (a :: l)=fun n=>a*(if n=0 then 1 else 0)+sh (seq l) n:=by
 funext n
 cases n with
 | zero=>simp only [seq,sh,List.getD_cons_zero,if_true];grind
 | succ n=>simp only [seq,sh,List.getD_cons_succ,if_neg (Nat.succ_ne_zero n)];grind
theorem BJ(u:Nat→Rat):cv (fun n=>if n=0 then 1 else 0) u=u:=by
 funext n
 unfold cv;rw [iw,sm_congr (f:=fun i=>(if i+1=0 then 1 else 0)*u (n-(i+1))) (g:=fun _=>0) (fun i _=>by rw [if_neg (Nat.succ_ne_zero i)];grind),sm_zero];simp only [if_true,Nat.sub_zero];grind
theorem fT(p:List Rat)(u:Nat→Rat):ap p u=cv (seq p) u:=by
 induction p with
 | nil=>funext n;unfold cv ap;rw [sm_congr (g:=fun _=>0) (fun i _=>by simp only [seq,List.getD_nil];grind),sm_zero]
 | cons a l ih=>rw [ve,nC,eR,BI,BJ,←ih];rfl
theorem wt{a b:List Rat}{i:Nat}(h:i<a.length):(a++b).getD i 0=a.getD i 0:=by
 rw [nXc,nXc,List.getElem?_append_left h]
theorem tk{a b:List Rat}{i:Nat}(h:a.length≤i):(a++b).getD i 0=b.getD (i-a.length) 0:=by
 rw [nXc,nXc,List.getElem?_append_right h]
theorem getD_ext{a b:List Rat}(hl:a.length=b.length)(h:∀ i,i<a.length→a.getD i 0=b.getD i 0):a=b:=by
 apply List.ext_getElem hl;intro i h1 h2;have:=h i h1;simpa [nXc,List.getElem?_eq_getElem h1,List.getElem?_eq_getElem h2] using this
theorem snoc0_getD(c:List Rat)(i:Nat):(c++[0]).getD i 0=c.getD i 0:=by
 rcases Nat.lt_or_ge i c.length with h|h
 ·exact wt h
 ·rw [tk h,nXc,nXc,List.getElem?_eq_none (l:=c) h];cases h':i-c.length <;> simp
theorem snoc_ind{P:List Rat→Prop}(h0:P [])(h1:∀ l r,P l→P (l++[r]))(l:List Rat):P l:=by
 have:∀ l:List Rat,P l.reverse:=by
  intro l;induction l with
  | nil=>exact h0
  | cons a l ih=>rw [List.reverse_cons];exact h1 _ _ ih
 have:=this l.reverse
 rwa [List.reverse_reverse] at this
end Go.Stab
namespace Go.Proofs.YtafgmcimcbhhjaaGreat
open Go.RowKit Go.Front Go.Num
attribute [local go_sem] XW.cell XW.frozen
theorem RAt.lt{w:World}{b o:Nat}{r:RH}(h:RAt w b o r):b<w.heap.size:=nXp _ _ h.1
def Dj(r:RH):Array Value:=#[.bool r.neg,.slice r.a r.n r.c,.slice r.b r.m r.d]
def RF(x:SH×Int):Value:=.tuple #[x.1.v,.int .i64 x.2]
theorem ey(l:List Rat):tz (l++[0])=tz l:=by simp [tz]
theorem fv(l:List Rat){r:Rat}(h:r≠0):tz (l++[r])=l++[r]:=by simp [tz,h]
theorem ig(l:List Rat):tz l=l.take (tz l).length:=by
 induction l using Stab.snoc_ind with
 | h0=>rfl
 | h1 l r ih =>
  by_cases h:r=0
  ·subst h;rw [ey,List.take_append_of_le_length (ah l)];exact ih
  ·rw [fv l h,List.take_length]
theorem nO{l:List Rat}{i:Nat}(h:i<(tz l).length):(tz l).getD i 0=l.getD i 0:=by
 rw [ig l];simp [h]
theorem oW{l:List Rat}{i:Nat}(h:(tz l).length≤i):l.getD i 0=0:=by
 induction l using Stab.snoc_ind with
 | h0=>rfl
 | h1 l r ih =>
  by_cases hr:r=0
  ·subst hr;rw [ey] at h;rw [Stab.snoc0_getD];exact ih h
  ·rw [fv l hr] at h;rw [nXc,List.getElem?_eq_none h];rfl
theorem bj(l:List Rat)(i:Nat):(tz l).getD i 0=l.getD i 0:=by
 rcases Nat.lt_or_ge i (tz l).length with h|h
 ·exact nO h
 ·rw [oW h,nXc,List.getElem?_eq_none h];rfl
theorem SzL.tz{k:Nat}{qs:List Rat}(h:SzL k qs):SzL k (tz qs):=by
 rw [ig];exact fun q hq=>h q (List.mem_of_mem_take hq)
def gI(w:World)(p:Nat×RH)(q:Rat):Prop:=RBk w p.1 [p.2] #[]∧aw w p.2 q
theorem gI.ext{w w':World}{p:Nat×RH}{q:Rat}(h:gI w p q)(he:Ext w w'):gI w' p q:=⟨h.1.ext he,h.2.ext he⟩
instance {w w':World} {p:Nat×RH} {q:Rat}:Go.Front.Mv w w' (gI w p q) (gI w' p q):=⟨fun e h=>gI.ext h e⟩

theorem qB{P:Program}{o:Oper}{a:Act}{w:World}{T:TypeId}(x:RH)(q:Rat)(hx:aw w x q)(hT:T=34)
 (hrun:(execOp a.eval o).run P w=.ok (.value (.slice (some ⟨w.heap.size,0,none⟩) 1 1)) (w.alloc (.cells #[.bool x.neg,.slice x.a x.n x.c,.slice x.b x.m x.d] T))) :
  fk P o a w (fun p:Nat×RH=>.slice (some ⟨p.1,0,none⟩) 1 1) (fun p w'=>gI w' p q):=by
 subst hT;unfold fk;rw [hrun];exact ⟨Ext.alloc _ _,(w.heap.size,x),rfl,sv (heap_alloc_new _ _) rfl,hx.ext (Ext.alloc _ _)⟩
theorem Sz.one:Sz 1 1:=Sz.int (z:=1) (by decide)
theorem Sz.pow{k:Nat}{q:Rat}(h:Sz k q)(i:Nat):Sz (k*i+1) (q ^ i):=by
 induction i with
 | zero=>rw [Rat.pow_zero];exact Sz.one.mono (by omega)
 | succ i ih=>rw [Rat.pow_succ];exact (ih.mul h).mono (by rw [Nat.mul_succ];omega)
def FJ(b9:Nat)(v:Rat)(W:World)(i:Nat)(w:World):Prop:=bh (·=b9) W w∧gS W w∧∃ y:RH,w.heap[b9]?=some (.cells (Dj y) 34 (0,0))∧aw w y (v ^ i)
end Go.Proofs.YtafgmcimcbhhjaaGreat
namespace Go.Proofs.YtafgmcimcbhhjaaGreat
open Go.RowKit Go.Front Go.Num
theorem Sz.zero{k:Nat}(hk:1≤k):Sz k 0:=(Sz.int (z:=0) (by decide)).mono hk
theorem SzL.getD{s:Nat}{c:List Rat}(h:SzL s c)(hs:1≤s)(i:Nat):Sz s (c.getD i 0):=by
 rcases Nat.lt_or_ge i c.length with hi|hi
 ·exact h.at hi
 ·rw [nXc,List.getElem?_eq_none hi];exact Sz.zero hs
def grow:Nat→Nat→Nat
 | 0,s=>s
 | m+1,s=>grow m (5*s+3)
theorem bs(l:List Rat):tz (tz l)=tz l:=by
 induction l using Stab.snoc_ind with
 | h0=>rfl
 | h1 l r ih =>
  by_cases h:r=0
  ·subst h;rw [ey];exact ih
  ·rw [fv l h,fv l h]
end Go.Proofs.YtafgmcimcbhhjaaGreat
namespace Go.Proofs.YtafgmcimcbhhjaaGreat
open Go.RowKit Go.Front Go.Num
attribute [local go_sem] XW.cell XW.frozen
theorem nE{w:World}{N:Nat}{x:RH}{p:Rat}(h:w.heap[N]?=some (.cells #[.bool x.neg,.slice x.a x.n x.c,.slice x.b x.m x.d] 34 (0,0)))(hx:aw w x p):aJ w ⟨some ⟨N,0,none⟩,1,1⟩ [p] :=
 ⟨[x],RBk.rs (rs:=[x]) (re:=#[]) h rfl (nXd _) (by decide),(fu.nil _ _).snoc hx⟩
theorem qk{w:World}{N:Nat}{x y:RH}{p q:Rat}(h:w.heap[N]?=some (.cells #[.bool x.neg,.slice x.a x.n x.c,.slice x.b x.m x.d,.bool y.neg,.slice y.a y.n y.c,.slice y.b y.m y.d] 34 (0,0)))(hx:aw w x p)(hy:aw w y q):aJ w ⟨some ⟨N,0,none⟩,2,2⟩ [p,q] :=
 ⟨[x,y],RBk.rs (rs:=[x,y]) (re:=#[]) h rfl (nXd _) (by decide),((fu.nil _ _).snoc hx).snoc hy⟩
def fr(a b:Int):Rat:=(a:Rat) / (b:Rat)
end Go.Proofs.YtafgmcimcbhhjaaGreat
