import Derived.Test.YtafgmcimcbhhjaaGreatQCM7
set_option linter.unusedVariables false
set_option maxHeartbeats 4000000
set_option maxRecDepth 8000
namespace Go.Proofs.YtafgmcimcbhhjaaGreat
open Go.RowKit Go.Front Go.Num
attribute [local go_sem] XW.cell XW.frozen
theorem ve(n m:Int)(hm:0<m):(if n.tmod m<0 then n.tmod m+m else n.tmod m)=n % m:=by
 rw [Int.tmod_eq_emod];have h1:=Int.emod_nonneg n (show m≠0 by omega);have h2:=Int.emod_lt_of_pos n hm;have h3:((m.natAbs:Nat):Int)=m:=by omega
 split
 ·split <;> omega
 ·rw [h3];split <;> omega
theorem Cj(n m:Int)(hm:0<m):-m<n.tmod m∧n.tmod m<m:=by
 rw [Int.tmod_eq_emod];have h1:=Int.emod_nonneg n (show m≠0 by omega);have h2:=Int.emod_lt_of_pos n hm;have h3:((m.natAbs:Nat):Int)=m:=by omega
 split
 ·omega
 ·rw [h3];omega
theorem kE(n m:Int)(w:World)(hn:-9223372036854775808≤n)(hn2:n≤9223372036854775807)(hm:0<m)(hm2:m≤9223372036854775807) :
  ak 47 [.int .i64 n,.int .i64 m] w (fun _:Unit=>.int .i64 (n % m)) (fun _ _=>True):=by
 have He:=Hi (ve n m hm);obtain ⟨hb1,hb2⟩:=Cj n m hm;have hm0:m≠0:=zo;unfold ak;go_enter Tryz.func47,Tryz.ntmps47;obtain ⟨r,hr⟩:∃ r,r=n.tmod m:=⟨_,rfl⟩;rw [←hr] at He hb1 hb2;by_cases h0:r<0
 ·rw [if_pos h0] at He;go_wp2
  go_ret
  exact ⟨(),bB (by rw [←hr];exact He.out),Ext.refl _,trivial⟩
 ·rw [if_neg h0] at He;go_wp2
  go_ret
  exact ⟨(),bB (by rw [←hr];exact He.out),Ext.refl _,trivial⟩
theorem eS(q:Rat):dq q 0=0↔q=0:=by
 unfold dq;constructor
 ·intro h;split at h
  ·cases h
  ·split at h
   ·assumption
   ·cases h
 ·rintro rfl;rw [if_neg Rat.lt_irrefl,if_pos rfl]
theorem ek(ao:Option Addr)(n cap:Nat)(qs:List Rat)(w:World)(h:cx w ⟨ao,n,cap⟩ qs) :
  ak 167 [.slice ao n cap] w (fun _:Unit=>.slice ao (tz qs).length cap) (fun _ _=>tz qs=qs.take (tz qs).length∧(tz qs).length≤n):=by
 have H:=Hi h;have hle:=h.le;have hmx:=h.max;have Hlen:=Hi h.len;simp only at hle hmx Hlen;clear h;unfold ak
 change Calls Tryz.prog _ #[.slice ao n cap] w _
 go_enter Tryz.func167,Tryz.ntmps167;go_wp2
 go_loopg [3] n (fun g nv wr=>nv=.int .i64 (g:Nat)∧g≤n∧tz qs=tz (qs.take g)∧Ext w wr)
 case atStart=>exact ⟨rfl,nXe _,by rw [nXm (by rw [Hlen.out];exact nXe _)],Ext.refl _⟩
 case round =>
  obtain ⟨rfl,hg,hs,hE⟩:=hrel;have Hs:=Hi hs;have HE:=Hi hE;clear hs hE;by_cases h0:gk=0
  ·subst h0;go_wp2
   go_ret
   have e:tz qs=[]:=by rw [Hs.out];rfl
   refine ⟨(),?_,HE.out,?_,?_⟩
   ·rw [e];simp
   ·rw [e];simp
   ·rw [e];simp
  ·obtain ⟨k,rfl⟩:∃ m,gk=m+1:=⟨gk-1,zo⟩;obtain ⟨b,off,r,hao,⟨hc1,hc2,hc3⟩,hP⟩:=(H.out.ext HE.out).at (k:=k) zo;subst hao;obtain ⟨rneg,ra,rn,rc,rb,rm,rd⟩:=r;simp only at hc1 hc2 hc3;have HP:=Hi hP;clear hP h0
   go_wp2_with fail
   refine Calls.mono (cW ⟨rneg,ra,rn,rc,rb,rm,rd⟩ _ _ HP.out) ?_;rintro e w1 ⟨x1,rfl,hE1,-⟩;replace HE:=Hi (HE.out.trans hE1);have HZ:=Hi (eS (qs.getD k 0));obtain ⟨c,hc⟩:∃ c,c=dq (qs.getD k 0) 0:=⟨_,rfl⟩;rw [←hc] at HZ ⊢;clear hc hE1 HP hc1 hc2 hc3;by_cases hz:c=0
   ·subst hz;have Hz0:=Hi (HZ.out.1 rfl);clear HZ;go_wp2
    go_roundg k
    case measure=>omega
    case rel=>exact ⟨by go_num,zo,by rw [Hs.out,hZ (by rw [Hlen.out];omega) Hz0.out],HE.out⟩
   ·have hzb:(c == 0)=false:=by simpa using hz
    have HF:Hid (tz qs=qs.take (k+1)):=Hi (by rw [Hs.out,nY (by rw [Hlen.out];omega) (fun h=>hz (HZ.out.2 h))]);clear HZ hz;go_wp2
    go_ret
    have e:(tz qs).length=k+1:=by rw [HF.out,nXk,Hlen.out];omega
    refine ⟨(),?_,HE.out,?_,?_⟩
    ·rw [e];rfl
    ·rw [e];exact HF.out
    ·omega
theorem dr(ao:Option Addr)(n cap:Nat)(qs:List Rat)(w:World)(h:cx w ⟨ao,n,cap⟩ qs) :
  ak 105 [.slice ao n cap] w (fun _:Unit=>.int .i64 (((tz qs).length:Int)-1)) (fun _ _=>True):=by
 have H:=Hi h;have hle:=h.le;have hmx:=h.max;simp only at hle hmx;clear h;unfold ak
 change Calls Tryz.prog _ #[.slice ao n cap] w _
 go_enter Tryz.func105,Tryz.ntmps105
 go_wp2_with fail
 refine Calls.mono (ek _ _ _ _ _ H.out) ?_;rintro e w1 ⟨x1,rfl,hE1,-,h2⟩;have HE:=Hi hE1;clear hE1;go_wp2
 go_ret
 exact ⟨(),rfl,HE.out,trivial⟩
theorem fW{l:List Rat}{j:Nat}(h:j<l.length):l.take j++[l.getD j 0]=l.take (j+1):=by
 rw [List.take_succ_eq_append_getElem h];simp [h]
theorem ae(qs:List Rat):(tz qs).length≤qs.length:=by
 unfold tz;rw [List.length_reverse];have:=(List.dropWhile_sublist (l:=qs.reverse) (· == 0)).length_le;rw [List.length_reverse] at this;exact this
theorem pN(ao:Option Addr)(n cap:Nat)(qs:List Rat)(w:World)(h:cx w ⟨ao,n,cap⟩ qs)(hn:n≤1073741824) :
  ak 103 [.slice ao n cap] w SH.v (fun s w'=>bU w.heap.size w' s (tz qs)):=by
 obtain ⟨i0,hi0,hz0,hz1,hz2⟩:=info_parts ju;have H:=Hi h;have hle:=h.le;have hmx:=h.max;have Hlen:=Hi h.len;simp only at hle hmx Hlen;clear h;unfold ak
 change Calls Tryz.prog _ #[.slice ao n cap] w _
 go_enter Tryz.func103,Tryz.ntmps103
 go_wp2_with fail
 refine Calls.mono (ek _ _ _ _ _ H.out) ?_;rintro e w1 ⟨x1,rfl,hE1,h1,h2⟩;have HE:=Hi hE1;have HT:=Hi h1;clear hE1 h1;obtain ⟨m,hm⟩:∃ m,m=(tz qs).length:=⟨_,rfl⟩;rw [←hm] at h2 HT ⊢;have Hm:=Hi hm;clear hm
 go_wp2_with (refine aA rfl (.tmp 7) (.tmp 7) 24 rfl 34 i0 (RH.v default) 3 Tryz.underlying24 hi0 hz0 hz1 _ _ m rfl rfl (by simp) (by simp) (by rw [hz2];omega) zo ?_;intro w2 hnew hE2)
 have hL:w.heap.size≤w1.heap.size:=HE.out.size;have HF:=Hi (fT.start (RBk.make rfl hnew));replace HE:=Hi (HE.out.trans hE2);clear hnew hE2;obtain ⟨L,hLe⟩:∃ L,L=w1.heap.size:=⟨_,rfl⟩;rw [←hLe] at hL HF ⊢;clear hLe;go_wp2
 go_loopg [11] m (fun g i wr=>∃ j:Nat,j+g=m∧i=.int .i64 (j:Nat)∧Ext w wr∧fT wr L m ((tz qs).take j))
 case atStart=>exact ⟨0,zo,rfl,HE.out,HF.out⟩
 case round =>
  obtain ⟨j,hj,rfl,g1,g2⟩:=hrel;clear HE HF;have HE:=Hi g1;have HF:=Hi g2;clear g1 g2;have hlf:((tz qs).take j).length=j:=by rw [nXk,←Hm.out];omega
  by_cases h0:gk=0
  ·subst h0;obtain rfl:j=m:=by omega
   go_wp2
   go_ret
   refine ⟨⟨some ⟨L,0,none⟩,j,j⟩,rfl,HE.out,?_⟩;have:=HF.out.new hL hlf zo
   rwa [nXm (by rw [←Hm.out];exact nXe _)] at this
  ·obtain ⟨b,off,r,hao,⟨hc1,hc2,hc3⟩,hP⟩:=(H.out.ext HE.out).at (k:=j) zo;subst hao;obtain ⟨rneg,ra,rn,rc,rb,rm,rd⟩:=r;simp only at hc1 hc2 hc3;have HP:=Hi hP;clear hP
   go_wp2_with fail
   refine Calls.mono (cH ⟨rneg,ra,rn,rc,rb,rm,rd⟩ _ _ HP.out) ?_;rintro e w3 ⟨x3,rfl,hE3,g3⟩;replace HE:=Hi (HE.out.trans hE3);replace HF:=Hi (HF.out.ext hE3);clear HP hc1 hc2 hc3 hE3;have G3:=Hi g3;clear g3;obtain ⟨r0,k1,k2,k3⟩:=HF.out.cells (by rw [hlf];omega);rw [hlf] at k1 k2 k3;have hfr:=HF.out.frozen;go_wp2;obtain ⟨_,rfl,T4⟩:=HF.out.put HE.out hL (by rw [hlf];omega) G3.out;rw [hlf] at T4;have e4:(tz qs).take j++[qs.getD j 0]=(tz qs).take (j+1):=by
    rw [←fW (l:=tz qs) (by rw [←Hm.out];omega),HT.out];simp [show j<m by omega]
   rw [e4] at T4
   go_roundg (gk-1)
   case measure=>omega
   case rel=>exact ⟨j+1,zo,by go_num,T4.ext,T4.fill⟩
theorem qT{a b:List Rat}(hl:a.length=b.length)(h:a.take a.length=b.take a.length):a=b:=by
 rw [nXm (nXe _),nXm zo] at h;exact h
theorem vg{a b:List Rat}{j:Nat}(h:a.take j=b.take j)(ha:j<a.length)(hb:j<b.length)(e:a.getD j 0=b.getD j 0):a.take (j+1)=b.take (j+1):=by
 rw [List.take_succ_eq_append_getElem ha,List.take_succ_eq_append_getElem hb,h];have e1:a[j]=b[j]:=by simpa [ha,hb] using e
 rw [e1]
theorem pI(s t:SH)(ps qs:List Rat)(w:World)(h:aD w s ps)(k:aD w t qs):ak 66 [s.v,t.v] w (fun _:Unit=>.bool (decide (ps=qs))) (fun _ _=>True):=by
 obtain ⟨ao,n,c⟩:=s;obtain ⟨bo,m,d⟩:=t;have H:=Hi h;have K:=Hi k;have h1:=h.len;have h2:=h.le;have h3:=h.max;have k1:=k.len;have k2:=k.le;have k3:=k.max;simp only at h1 h2 h3 k1 k2 k3;clear h k;have Hn:=Hi h1;have Km:=Hi k1;clear h1 k1;unfold ak
 change Calls Tryz.prog _ #[.slice ao n c,.slice bo m d] w _
 go_enter Tryz.func66,Tryz.ntmps66;by_cases hnm:n=m
 ·subst hnm;go_wp2
  go_loopg [5] n (fun g i wr=>∃ j:Nat,j+g=n∧i=.int .i64 (j:Nat)∧Ext w wr∧ps.take j=qs.take j)
  case atStart=>exact ⟨0,zo,rfl,Ext.refl _,rfl⟩
  case round =>
   obtain ⟨j,hj,rfl,g1,g2⟩:=hrel;have HE:=Hi g1;have HT:=Hi g2;clear g1 g2;by_cases h0:gk=0
   ·subst h0;obtain rfl:j=n:=by omega
    go_wp2
    go_ret
    refine ⟨(),gD ?_,HE.out,trivial⟩;rw [decide_eq_true (qT (by rw [Hn.out,Km.out]) (by rw [Hn.out];exact HT.out))]
   ·obtain ⟨b,off,r,hao,⟨hc1,hc2,hc3⟩,hP⟩:=(H.out.ext HE.out).at (k:=j) zo;obtain ⟨b',off',r',hbo,⟨hd1,hd2,hd3⟩,hQ⟩:=(K.out.ext HE.out).at (k:=j) zo;subst hao hbo;obtain ⟨rneg,ra,rn,rc,rb,rm,rd⟩:=r;obtain ⟨sneg,sa,sn,sc,sb,sm,sd⟩:=r';simp only at hc1 hc2 hc3 hd1 hd2 hd3;have hbl:b<wr.heap.size:=nXq _ _ hc1;have hbl':b' < wr.heap.size:=nXq _ _ hd1;have HP:=Hi hP;have HQ:=Hi hQ;clear hP hQ;have hjn:(j:Int)<n:=zo;obtain ⟨u,hu⟩:∃ u,u=ps.getD j 0:=⟨_,rfl⟩;obtain ⟨v,hv⟩:∃ v,v=qs.getD j 0:=⟨_,rfl⟩;rw [←hu] at HP;rw [←hv] at HQ;have Hu:=Hi hu;have Hv:=Hi hv;clear hu hv;obtain ⟨B,hB⟩:∃ B,B=decide (u=v):=⟨_,rfl⟩;have HB:=Hi hB;clear hB
    go_upto_region 6 with fail
    refine wpG 10 (fun opIx=>match opIx with
     | 8=>sU (.bool B)
     | _=>.quiet) (fun _=>[]) fun w0 he0 hz0 hc0 hf0=>?_
    refine wps he0 (fun w1 hW hG=>?_) fun x8=>?_
    ·exact spc [RH.v ⟨rneg,ra,rn,rc,rb,rm,rd⟩,RH.v ⟨sneg,sa,sn,sc,sb,sm,sd⟩] Tryz.func131 (HB.out ▸ nt ⟨rneg,ra,rn,rc,rb,rm,rd⟩ ⟨sneg,sa,sn,sc,sb,sm,sd⟩ _ _ _ (HP.out.ext hW) (HQ.out.ext hW))
    refine qZ ?_;refine aj ?_;intro w2 hI;have hE:=he0.out.trans hI.ext;clear hI he0 hz0 hc0 hf0;replace HE:=hE.tr HE;simp only [pD];cases B
    ·have hne:¬ ps=qs:=fun e=>by
      have:=HB.out;rw [Hu.out,Hv.out,e] at this;simp at this
     go_wp2
     go_ret
     exact ⟨(),gD (decide_eq_false hne).symm,HE.out,trivial⟩
    ·have hpq:ps.getD j 0=qs.getD j 0:=by
      rw [←Hu.out,←Hv.out];exact of_decide_eq_true HB.out.symm
     have Hpq:=Hi hpq;clear hpq;go_wp2
     go_roundg (gk-1)
     case measure=>omega
     case rel=>exact ⟨j+1,zo,by go_num,HE.out,vg HT.out (by rw [Hn.out];omega) (by rw [Km.out];omega) Hpq.out⟩
 ·go_wp2
  go_ret
  refine ⟨(),gD ?_,Ext.refl _,trivial⟩;have:¬ ps=qs:=by rintro rfl;exact hnm (Hn.out.symm.trans Km.out)
  rw [decide_eq_false this]
theorem iF(s t:SH)(ps qs:List Rat)(w:World)(h:aD w s ps)(k:aD w t qs):ak 17 [s.v,t.v] w (fun _:Unit=>.bool (decide (ps=qs))) (fun _ _=>True):=by
 obtain ⟨ao,n,c⟩:=s;obtain ⟨bo,m,d⟩:=t;have H:=Hi h;have K:=Hi k;clear h k;unfold ak
 change Calls Tryz.prog _ #[.slice ao n c,.slice bo m d] w _
 go_enter Tryz.func17,Tryz.ntmps17
 go_wp2_with fail
 refine Calls.mono (pI ⟨ao,n,c⟩ ⟨bo,m,d⟩ ps qs _ H.out K.out) ?_;rintro e w1 ⟨x1,rfl,hE1,-⟩;have HE:=Hi hE1;clear hE1;go_wp2
 go_ret
 exact ⟨(),rfl,HE.out,trivial⟩
theorem cx.cells'{w:World}{ao:Option Addr}{n c:Nat}{qs:List Rat}(h:cx w ⟨ao,n,c⟩ qs){k:Nat}(hk:k<n):∃ b off r,ao=some ⟨b,off,none⟩∧b<w.heap.size∧RAt w b (off+k*3) r∧aQ w r (qs.getD k 0) :=
 let ⟨b,off,r,h1,h2,h3⟩:=h.at hk;⟨b,off,r,h1,nXq _ _ h2.1,h2,h3⟩
theorem cg(ao:Option Addr)(n cap:Nat)(qs:List Rat)(w:World)(h:cx w ⟨ao,n,cap⟩ qs)(hn:n≤1073741824) :
  ak 57 [.slice ao n cap] w SH.v (fun s w'=>bU w.heap.size w' s (tz qs)):=by
 have H:=Hi h;have hle:=h.le;have hmx:=h.max;have Hlen:=Hi h.len;simp only at hle hmx Hlen;clear h;unfold ak;go_enter Tryz.func57,Tryz.ntmps57;go_wp2
 go_loopg [3] n (fun g nv wr=>nv=.int .i64 (g:Nat)∧g≤n∧tz qs=tz (qs.take g)∧Ext w wr)
 case atStart=>exact ⟨rfl,nXe _,by rw [nXm (by rw [Hlen.out];exact nXe _)],Ext.refl _⟩
 case round =>
  obtain ⟨rfl,hg,hs,hE⟩:=hrel;have Hs:=Hi hs;have HX:=Hi hE;clear hs hE;by_cases h0:gk=0
  ·subst h0;have HT:Hid (tz qs=qs.take 0):=Hi (by rw [Hs.out];rfl);have HTl:Hid ((tz qs).length=0):=Hi (by rw [HT.out];rfl);go_wp2
   go_loopg [4,26] 0 (fun g v i wr=>∃ j:Nat,j+g=0∧i=.int .i64 (j:Nat)∧Ext w wr∧eA wr (w.heap.size≤·) v ((tz qs).take j))
   case atStart=>exact ⟨0,zo,rfl,HX.out,eA.nil _ _⟩
   case round =>
    obtain ⟨j,hj,rfl,g1,g2⟩:=hrel;obtain ⟨s,rfl⟩:=g2.sh;clear HX;have HX:=Hi g1;have HO:=Hi g2;clear g1 g2;by_cases h0:gk=0
    ·subst h0;obtain rfl:j=0:=by omega
     go_wp2
     go_ret
     refine ⟨s,rfl,HX.out,?_⟩;have:=HO.out.lin
     rwa [nXm (by rw [HTl.out];exact nXe _)] at this
    ·omega
  ·obtain ⟨k,rfl⟩:∃ m,gk=m+1:=⟨gk-1,zo⟩;obtain ⟨b,off,r,hao,hbl,⟨hc1,hc2,hc3⟩,hP⟩:=(H.out.ext HX.out).cells' (k:=k) zo;obtain ⟨rneg,ra,rn,rc,rb,rm,rd⟩:=r;simp only at hc1 hc2 hc3;have HP:=Hi hP;clear hP h0;have Hao:=Hi hao;subst hao
   go_wp2_with fail
   refine cM (cw ⟨rneg,ra,rn,rc,rb,rm,rd⟩ _ _ HP.out) fun x1 w1 hE _=>?_
   replace HX:=hE.tr HX;have HZ:=Hi (eS (qs.getD k 0));obtain ⟨c,hc⟩:∃ c,c=dq (qs.getD k 0) 0:=⟨_,rfl⟩;rw [←hc] at HZ ⊢;clear hc HP hc1 hc2 hc3 hbl;by_cases hz:c=0
   ·subst hz;have Hz0:=Hi (HZ.out.1 rfl);clear HZ;go_wp2
    go_roundg k
    case measure=>omega
    case rel=>exact ⟨by go_num,zo,by rw [Hs.out,hZ (by rw [Hlen.out];omega) Hz0.out],HX.out⟩
   ·have hzb:(c == 0)=false:=by simpa using hz
    have HT:Hid (tz qs=qs.take (k+1)):=Hi (by rw [Hs.out,nY (by rw [Hlen.out];omega) (fun h=>hz (HZ.out.2 h))]);have HTl:Hid ((tz qs).length=k+1):=Hi (by rw [HT.out,nXk,Hlen.out];omega);clear HZ hz;go_wp2
    go_loopg [4,26] (k+1) (fun g v i wr=>∃ j:Nat,j+g=(k+1)∧i=.int .i64 (j:Nat)∧Ext w wr∧eA wr (w.heap.size≤·) v ((tz qs).take j))
    case atStart=>exact ⟨0,zo,rfl,HX.out,eA.nil _ _⟩
    case round =>
     obtain ⟨j,hj,rfl,g1,g2⟩:=hrel;obtain ⟨s,rfl⟩:=g2.sh;clear HX;have HX:=Hi g1;have HO:=Hi g2;have hsz:=g1.size;clear g1 g2;by_cases h0:gk=0
     ·subst h0;obtain rfl:j=(k+1):=by omega
      go_wp2
      go_ret
      refine ⟨s,rfl,HX.out,?_⟩;have:=HO.out.lin
      rwa [nXm (by rw [HTl.out];exact nXe _)] at this
     ·obtain ⟨b',off',r,hao,hbl,⟨hc1,hc2,hc3⟩,hP⟩:=(H.out.ext HX.out).cells' (k:=j) zo;obtain ⟨rfl,rfl⟩:b=b'∧off=off':=by simpa using hao
      obtain ⟨rneg,ra,rn,rc,rb,rm,rd⟩:=r;simp only at hc1 hc2 hc3;have HP:=Hi hP;clear hP;have hjn:(j:Int)<(k+1):=zo
      go_upto_region 8 with fail
      refine nmA ?_;intro w1 hE B6 hz_w1 hr_w1;refine mV3 hE ?_ HX HO HP;clear HX HO HP;intro HX HO HP;replace b_B6:=bX3 B6
      go_wp2_with fail
      refine cM (dA ⟨rneg,ra,rn,rc,rb,rm,rd⟩ (qs.getD j 0) _ HP.out) fun x2 w2 hE G2=>?_
      refine mV2 hE ?_ HX HO;clear HX HO;intro HX HO;have hs_w2:=hE.size
      go_wp2_with (at_builtin;refine cE rfl (.tmp 30) (.tmp 33) 24 Tryz.underlying24 rfl (w.heap.size≤·) _ _ x2 _ rfl HO.out rfl G2.out (by simp;omega) (fun k hk=>by omega) ?_;intro s' y3 q1 q2 q3)
      have HX3:=Hi (Ext.mods HX.out q2 (fun k h=>h));have HO3:Hid (eA y3 (w.heap.size≤·) s'.v ((tz qs).take (j+1))):=Hi (by
       rw [←fW (l:=tz qs) (by rw [HTl.out];omega)];have e:(tz qs).getD j 0=qs.getD j 0:=by
        rw [HT.out];simp [show j<(k+1) by omega]
       rw [e];exact q1)
      clear q1 q2 q3;go_wp2
      go_roundg (gk-1)
      case measure=>omega
      case rel=>exact ⟨j+1,zo,by go_num,HX3.out,HO3.out⟩
theorem wC{w1:World}{b:Nat}{T:TypeId}{c0 c1 c2 v0 v1:Value}{F:World→Prop}(hb:w1.heap[b]?=some (.cells #[c0,c1,c2] T (0,0)))(hn:#[c0,c1,c2].toList.all gP=true)(h:∀ w2,gy w1 b T #[v0,v1,c2] w2→F w2) :
  F ((w1.setCell ⟨b,0,none⟩ v0).setCell ⟨b,1,none⟩ v1) :=
 h _ (gy.of (nXb.1 hb).1 (ai hb hn) ((bj.setCell w1 ⟨b,0,none⟩ v0).trans (bj.setCell _ ⟨b,1,none⟩ v1)) (by simp [World.setCell]) (aS (aS hb 0 v0) 1 v1))
theorem fU.rawn{w:World}{s:IH}{z:Int}(h:fU w s z){w':World}{t:IH}{y:Int}(k:fI w' t y)(hz:z.natAbs≤y.natAbs):fI w s z:=by
 obtain ⟨ds,h1,h2,h3⟩:=k;have h4:=jo h1 t.neg;rw [←h2] at h4;exact h.rawk (k:=t.n) (nYl hz h4) h3
theorem wT(s t:IH)(z y:Int)(w:World)(h:fI w s z)(k:fI w t y):ak 177 [s.v,t.v] w IH.v (fun s w'=>fU w' s (z-y)):=by
 obtain ⟨neg,ao,n,c⟩:=s;obtain ⟨neg',bo,m,d⟩:=t;have HR:=Hi h;have KR:=Hi k;have HX:=Hi (Ext.refl w);have HV:Hid (z-y=z+-y):=Hi zo;clear h k;unfold ak;go_enter Tryz.func177,Tryz.ntmps177
 go_upto_region 1 with fail
 refine pW ?_;intro w1 hE B2 B3 B4 hz_w1 hr_w1;refine mV3 hE ?_ HR KR HX;clear HR KR HX;intro HR KR HX;replace b_B2:=bX3 B2;replace b_B3:=bX3 B3;refine wpG 4 (fun opIx=>match opIx with
  | 2=>sI (-y)
  | 3=>sI (z+-y)
  | _=>.quiet) (fun|3=>[2]|_=>[]) fun w0 he0 hz0 hc0 hf0=>?_
 refine wps he0 (fun w1 hW hG=>?_) fun x2=>?_
 ·exact spc [IH.v ⟨neg',bo,m,d⟩] Tryz.func150 (mL ⟨neg',bo,m,d⟩ y _ (KR.out.ext hW))
 refine qZ ?_;refine wps he0 (fun w1 hW hG=>?_) fun x3=>?_
 ·have g2:=gS (hG 2 dZ);exact spc [IH.v ⟨neg,ao,n,c⟩,x2.v] Tryz.func111 (qi ⟨neg,ao,n,c⟩ x2 z (-y) _ (HR.out.ext hW) (g2.rawn KR.out zo))
 refine qZ ?_;refine aj ?_;intro w2 hI;have hE:=he0.out.trans hI.ext;have G3:=gT (hI.facts 3);clear hI he0 hz0 hc0 hf0;refine mV2 hE ?_ B4 HX;clear B4 HX;intro B4 HX;replace b_B4:=bX3 B4;simp only [pD];rw [←HV.out] at G3;go_wp2;have hF:=((Fin.start (L:=w.heap.size+2) HX.out (ai B4.out rfl)).set zo (i:=0) (v:=.bool x3.neg) rfl).set zo (i:=1) (v:=.slice x3.a x3.n x3.c) rfl;exact nXa (v:=x3.v) (by simp [results,Tryz.results177,go_sem,ab B4.out]) rfl ⟨x3,rfl,hF.ext,G3.out.keep hF.keep⟩
theorem AJ(z y:Int):cr (z-y) 0=cr z y:=by
 unfold cr;split
 ·rw [if_pos zo]
 ·split
  ·rw [if_neg zo,if_pos zo]
  ·rw [if_neg zo,if_neg zo]
theorem xe(s t:IH)(z y:Int)(k:Nat)(w:World)(h:fI w s z)(g:fI w t y)(hz:z.natAbs<W32 ^ k)(hy:y.natAbs<W32 ^ k)(hk:k≤1073741823)(hk1:1≤k):ak 113 [s.v,t.v] w (fun _:Unit=>.int .i64 (cr z y)) (fun _ _=>True):=by
 obtain ⟨neg,ao,n,c⟩:=s;obtain ⟨neg',bo,m,d⟩:=t;have HR:=Hi h;have KR:=Hi g;have HX:=Hi (Ext.refl w);have HV:=Hi (AJ z y);have HL:Hid ((z-y).natAbs<W32 ^ (k+1)):=Hi (by
  have h5:W32 ^ k*2≤W32 ^ (k+1):=by rw [nXu];exact nXg _ dZ
  omega)
 clear h g hz hy;unfold ak;go_enter Tryz.func113,Tryz.ntmps113
 go_wp2_with fail
 refine eX (F:=fun W=>Calls _ _ _ W _) ?_;intro w1 hE hB0 hB1 hz;have hz_w1:=nle hz;have hr_w1:=nle hz.symm;clear hz;refine mV3 hE ?_ HR KR HX;clear HR KR HX;intro HR KR HX;clear hB0;clear hB1
 change Calls _ _ _ _ _
 refine cM (wT ⟨neg,ao,n,c⟩ ⟨neg',bo,m,d⟩ z y _ HR.out KR.out) fun x2 w2 hE G2=>?_
 replace HX:=hE.tr HX
 go_wp2_with fail
 refine cM (dD x2 (z-y) _ (G2.out.rawk HL.out zo)) fun x3 w3 hE _=>?_
 replace HX:=hE.tr HX;rw [HV.out];go_wp2
 go_ret
 exact ⟨(),rfl,HX.out,trivial⟩
theorem yi{z e z' e':Int}{q r:Rat}(h0:0<e)(k0:0<e')(h:(z:Rat) / (e:Rat)=q)(k:(z':Rat) / (e':Rat)=r):cr (z*e') (z'*e)=dq q r:=by
 have f:∀ (a b:Int),0<b→(a:Rat) / (b:Rat)=mkRat a b.natAbs:=fun a b hb=>by
  rw [Rat.mkRat_eq_div]
  congr 1
  rw [←Rat.intCast_natCast,Int.natAbs_of_nonneg zo]
 rw [←h,←k,f z e h0,f z' e' k0,r5 zo zo];rw [Int.natAbs_of_nonneg zo,Int.natAbs_of_nonneg zo]
theorem o7{a b:Int}(h:Big a)(k:Big b):(a*b).natAbs<W32 ^ (uO+uO):=by
 rw [Int.natAbs_mul];exact gi h k
theorem kK:uO+uO≤1073741823∧uO+uO≤1073741824∧1≤uO+uO:=by unfold uO;omega
theorem jW(s t:RH)(q r:Rat)(w:World)(h:aQ w s q)(k:aQ w t r):ak 49 [s.v,t.v] w (fun _:Unit=>.int .i64 (dq q r)) (fun _ _=>True):=by
 obtain ⟨neg,ao,n,c,bo,m,d⟩:=s;obtain ⟨neg',ao',n',c',bo',m',d'⟩:=t;have HR:=Hi h;have KR:=Hi k;have HX:=Hi (Ext.refl w);clear h k;unfold ak;go_enter Tryz.func49,Tryz.ntmps49
 go_wp2_with fail
 refine eX (F:=fun W=>Calls _ _ _ W _) ?_;intro w1 hE hB0 hB1 hz;have hz_w1:=nle hz;have hr_w1:=nle hz.symm;clear hz;refine mV3 hE ?_ HR KR HX;clear HR KR HX;intro HR KR HX;clear hB0;have B3:=Hi hB1;clear hB1
 change Calls _ _ _ _ _
 refine cM (cX ⟨neg,ao,n,c,bo,m,d⟩ q _ HR.out) fun x2 w2 hE G2=>?_
 refine mV3 hE ?_ KR HX B3;clear KR HX B3;intro KR HX B3;obtain ⟨⟨an,aa,al,ac⟩,⟨bn,ba,bl,bc⟩⟩:=x2;obtain ⟨z,e,g1,g2,p3,g4,p5,p6⟩:=G2.out.div;have J1:=Hi g1;have J2:=Hi g2;have J4:=Hi g4;have P3:=Hi p3;have P5:=Hi p5;have P6:=Hi p6;clear g1 g2 g4 p3 p5 p6 G2;simp only [PP]
 go_upto_region 2 with fail
 refine kQ ?_;intro y3 hE B5 B6 hz_y3 hr_y3;refine mV5 hE ?_ KR HX B3 J1 J2;clear KR HX B3 J1 J2;intro KR HX B3 J1 J2;replace b_B3:=bX3 B3
 go_wp2_with fail
 refine cM (cX ⟨neg',ao',n',c',bo',m',d'⟩ r _ KR.out) fun x4 w4 hE G4=>?_
 refine mV5 hE ?_ B5 B6 HX J1 J2;clear B5 B6 HX J1 J2;intro B5 B6 HX J1 J2;obtain ⟨⟨an',aa',al',ac'⟩,⟨bn',ba',bl',bc'⟩⟩:=x4;obtain ⟨z',e',g1,g2,p3,g4,p5,p6⟩:=G4.out.div;have K1:=Hi g1;have K2:=Hi g2;have K4:=Hi g4;have Q3:=Hi p3;have Q5:=Hi p5;have Q6:=Hi p6;clear g1 g2 g4 p3 p5 p6 G4;simp only [PP]
 go_upto_region 3 with fail
 refine kQ ?_;intro y5 hE B7 B8 hz_y5 hr_y5;refine mV7 hE ?_ B5 B6 HX J1 J2 K1 K2;clear B5 B6 HX J1 J2 K1 K2;intro B5 B6 HX J1 J2 K1 K2;replace b_B5:=bX3 B5;replace b_B6:=bX3 B6;replace b_B7:=bX3 B7;replace b_B8:=bX3 B8;have HV:=Hi (yi P3.out Q3.out J4.out K4.out);have M1:=Hi (o7 P5.out Q6.out);have M2:=Hi (o7 Q5.out P6.out);clear J4 K4;refine wpG 7 (fun opIx=>match opIx with
  | 2=>sI (z*e')
  | 5=>sI (z'*e)
  | 6=>sU (.int .i64 (dq q r))
  | _=>.quiet) (fun|6=>[2,5]|_=>[]) fun w0 he0 hz0 hc0 hf0=>?_
 refine wps he0 (fun w1 hW hG=>?_) fun x2=>?_
 ·exact spc [IH.v ⟨an,aa,al,ac⟩,IH.v ⟨bn',ba',bl',bc'⟩] Tryz.func112 (dM _ _ _ _ _ (J1.out.ext hW) (K2.out.ext hW))
 refine qZ ?_;refine wps he0 (fun w1 hW hG=>?_) fun x5=>?_
 ·exact spc [IH.v ⟨an',aa',al',ac'⟩,IH.v ⟨bn,ba,bl,bc⟩] Tryz.func112 (dM _ _ _ _ _ (K1.out.ext hW) (J2.out.ext hW))
 refine qZ ?_;refine wps he0 (fun w1 hW hG=>?_) fun x6=>?_
 ·have g2:=gS (hG 2 dZ);have g5:=gS (hG 5 dZ);exact spc [x2.v,x5.v] Tryz.func113 (HV.out ▸ xe x2 x5 _ _ (uO+uO) _ (g2.rawk M1.out kK.2.1) (g5.rawk M2.out kK.2.1) M1.out M2.out kK.1 kK.2.2)
 refine qZ ?_;refine aj ?_;intro w6 hI;have hE:=he0.out.trans hI.ext;clear hI he0 hz0 hc0 hf0;replace HX:=hE.tr HX;simp only [pD];go_wp2
 go_ret
 exact ⟨(),rfl,HX.out,trivial⟩
theorem kw(s t:RH)(q r:Rat)(w:World)(h:aQ w s q)(k:aQ w t r):ak 34 [s.v,t.v] w (fun _:Unit=>.bool (decide (q<r))) (fun _ _=>True):=by
 obtain ⟨neg,ao,n,c,bo,m,d⟩:=s;obtain ⟨neg',ao',n',c',bo',m',d'⟩:=t;have HR:=Hi h;have KR:=Hi k;have HX:=Hi (Ext.refl w);have HV:Hid (decide (dq q r<0)=decide (q<r)):=Hi (by
  unfold dq;by_cases h:q<r
  ·rw [if_pos h,decide_eq_true h];rfl
  ·rw [if_neg h,decide_eq_false h];split <;> rfl)
 clear h k;unfold ak;go_enter Tryz.func34,Tryz.ntmps34
 go_wp2_with fail
 refine eX (F:=fun W=>Calls _ _ _ W _) ?_;intro w1 hE hB0 hB1 hz;have hz_w1:=nle hz;have hr_w1:=nle hz.symm;clear hz;refine mV3 hE ?_ HR KR HX;clear HR KR HX;intro HR KR HX;clear hB0;clear hB1
 change Calls _ _ _ _ _
 refine cM (jW ⟨neg,ao,n,c,bo,m,d⟩ ⟨neg',ao',n',c',bo',m',d'⟩ q r _ HR.out KR.out) fun x2 w2 hE _=>?_
 replace HX:=hE.tr HX;obtain ⟨v,hv⟩:∃ v,v=dq q r:=⟨_,rfl⟩;rw [←hv] at HV ⊢;clear hv;go_wp2
 go_ret
 exact ⟨(),by rw [←HV.out];rfl,HX.out,trivial⟩
theorem xg(s:IH)(z:Int)(w:World)(h:fI w s z):ak 207 [s.v] w IH.v (fun s w'=>fU w' s (z.natAbs:Int)):=by
 obtain ⟨neg,ao,n,c⟩:=s;obtain ⟨ds,hU,hz,hn⟩:=h;simp only at hU hz hn;have HU:=Hi hU;have HZ:Hid (((z.natAbs:Nat):Int).natAbs=val ds):=Hi (by rw [hz,bJ];simp);have HX:=Hi (Ext.refl w);clear hU hz;unfold ak;go_enter Tryz.func207,Tryz.ntmps207
 go_wp2_with fail
 refine eX (F:=fun W=>Calls _ _ _ W _) ?_;intro w1 hE hB0 hB1 hz;have hz_w1:=nle hz;have hr_w1:=nle hz.symm;clear hz;refine mV2 hE ?_ HU HX;clear HU HX;intro HU HX;clear hB0;have B2:=Hi hB1;clear hB1
 change Calls _ _ _ _ _
 refine cM (aX ⟨ao,n,c⟩ ds _ HU.out zo) fun x2 w2 hE G2=>?_
 refine mV2 hE ?_ HX B2;clear HX B2;intro HX B2;replace b_B2:=bX3 B2;go_wp2;have hF:=((Fin.start (L:=w.heap.size+1) HX.out (ai B2.out rfl)).set zo (i:=0) (v:=.bool false) rfl).set zo (i:=1) (v:=.slice x2.a x2.n x2.c) rfl;exact nXa (v:=IH.v ⟨false,x2.a,x2.n,x2.c⟩) (by simp [results,Tryz.results207,go_sem,ab B2.out]) rfl ⟨⟨false,x2.a,x2.n,x2.c⟩,rfl,hF.ext,by simp,by rw [HZ.out];exact hF.keep _ _ _ _ G2.out⟩
theorem aQ.bsz{w:World}{s:RH}{q:Rat}(h:aQ w s q):Sz 134217728 q:=by
 obtain ⟨ds,es,h1,h2,h3,h4,h5⟩:=h;exact aQ.sz (s:=s) ⟨ds,es,h1,h2,h3,h4,h5⟩ dZ h4 h5
theorem aB.numI{w:World}{neg:Bool}{a b:Option Addr}{n c m d:Nat}{q:Rat}(h:aB w ⟨neg,a,n,c,b,m,d⟩ q):fU w ⟨neg,a,n,c⟩ q.num:=⟨h.1,h.2.1⟩
theorem vJ(s:RH)(q:Rat)(w:World)(h:aQ w s q):ak 83 [s.v] w RH.v (fun x w'=>aB w' x (-q)):=by
 have ZQ:=Hi h.bsz;obtain ⟨neg,ao,n,c,bo,m,d⟩:=s;have HR:=Hi h;have HX:=Hi (Ext.refl w);clear h;unfold ak;go_enter Tryz.func83,Tryz.ntmps83
 go_wp2_with fail
 refine kQ (F:=fun W=>Calls _ _ _ W _) ?_;intro w1 hE B1 B2 hz_w1 hr_w1;refine mV2 hE ?_ HR HX;clear HR HX;intro HR HX
 change Calls _ _ _ _ _
 refine cM (dA ⟨neg,ao,n,c,bo,m,d⟩ q _ HR.out) fun x2 w2 hE G2=>?_
 refine mV3 hE ?_ B1 B2 HX;clear B1 B2 HX;intro B1 B2 HX;replace b_B1:=bX3 B1
 go_upto_region 2 with fail
 refine aU B1.out rfl ?_;intro y3 T;replace HX:=Hi (T.ext HX.out zo);replace B1:=Hi (T.bx);replace B2:=Hi (T.rest _ _ zo B2.out);replace G2:=Hi (G2.out.keep T.keep);clear T;replace b_B1:=bX3 B1;obtain ⟨xn,xa,xl,xc,xb,xm,xd⟩:=x2
 go_wp2_with fail
 refine cM (mL ⟨xn,xa,xl,xc⟩ q.num _ (G2.out.numI.rawk ZQ.out.1 dZ)) fun x4 w4 hE G4=>?_
 refine mV4 hE ?_ HX B1 B2 G2;clear HX B1 B2 G2;intro HX B1 B2 G2;replace b_B1:=bX3 B1;obtain ⟨yn,ya,yl,yc⟩:=x4
 go_upto_region 3 with fail
 refine wC B1.out rfl ?_;intro y5 T;replace HX:=Hi (T.ext HX.out zo);replace B1:=Hi (T.bx);replace B2:=Hi (T.rest _ _ zo B2.out);replace G2:=Hi (G2.out.keep T.keep);replace G4:=Hi (G4.out.keep T.keep);clear T;replace b_B1:=bX3 B1;replace b_B2:=bX3 B2;go_wp2;have hF:=((((Fin.start (L:=w.heap.size+1) HX.out (ai B2.out rfl)).set zo (i:=0) (v:=.bool (⟨yn,ya,yl,yc,xb,xm,xd⟩:RH).neg) rfl).set zo (i:=1) (v:=.slice (⟨yn,ya,yl,yc,xb,xm,xd⟩:RH).a (⟨yn,ya,yl,yc,xb,xm,xd⟩:RH).n (⟨yn,ya,yl,yc,xb,xm,xd⟩:RH).c) rfl).set zo (i:=2) (v:=.slice (⟨yn,ya,yl,yc,xb,xm,xd⟩:RH).b (⟨yn,ya,yl,yc,xb,xm,xd⟩:RH).m (⟨yn,ya,yl,yc,xb,xm,xd⟩:RH).d) rfl);exact nXa (v:=(⟨yn,ya,yl,yc,xb,xm,xd⟩:RH).v) (by simp [results,Tryz.results83,go_sem,ab B2.out]) rfl ⟨(⟨yn,ya,yl,yc,xb,xm,xd⟩:RH),rfl,hF.ext,(aB.keep (s:=⟨yn,ya,yl,yc,xb,xm,xd⟩) ⟨by rw [Rat.neg_num];exact G4.out.1,by rw [Rat.neg_num];exact G4.out.2,by rw [Rat.neg_den];exact G2.out.2.2⟩ hF.keep)⟩
theorem yI(q:Rat):q.abs.num=(q.num.natAbs:Int)∧q.abs.den=q.den:=by
 rcases Rat.le_total (a:=0) (b:=q) with h|h
 ·rw [Rat.abs_of_nonneg h];exact ⟨by have:=Rat.num_nonneg.2 h;omega,rfl⟩
 ·rw [Rat.abs_of_nonpos h,Rat.neg_num,Rat.neg_den];refine ⟨?_,rfl⟩;have:0≤(-q).num:=Rat.num_nonneg.2 (by grind);rw [Rat.neg_num] at this;omega
theorem vT(s:RH)(q:Rat)(w:World)(h:aQ w s q):ak 188 [s.v] w RH.v (fun x w'=>aB w' x q.abs):=by
 have ZQ:=Hi h.bsz;obtain ⟨neg,ao,n,c,bo,m,d⟩:=s;have HR:=Hi h;have HX:=Hi (Ext.refl w);have HA:=Hi (yI q);clear h;unfold ak;go_enter Tryz.func188,Tryz.ntmps188
 go_wp2_with fail
 refine kQ (F:=fun W=>Calls _ _ _ W _) ?_;intro w1 hE B1 B2 hz_w1 hr_w1;refine mV2 hE ?_ HR HX;clear HR HX;intro HR HX
 change Calls _ _ _ _ _
 refine cM (dA ⟨neg,ao,n,c,bo,m,d⟩ q _ HR.out) fun x2 w2 hE G2=>?_
 refine mV3 hE ?_ B1 B2 HX;clear B1 B2 HX;intro B1 B2 HX;replace b_B1:=bX3 B1
 go_upto_region 2 with fail
 refine aU B1.out rfl ?_;intro y3 T;replace HX:=Hi (T.ext HX.out zo);replace B1:=Hi (T.bx);replace B2:=Hi (T.rest _ _ zo B2.out);replace G2:=Hi (G2.out.keep T.keep);clear T;replace b_B1:=bX3 B1;obtain ⟨xn,xa,xl,xc,xb,xm,xd⟩:=x2
 go_wp2_with fail
 refine cM (xg ⟨xn,xa,xl,xc⟩ q.num _ (G2.out.numI.rawk ZQ.out.1 dZ)) fun x4 w4 hE G4=>?_
 refine mV4 hE ?_ HX B1 B2 G2;clear HX B1 B2 G2;intro HX B1 B2 G2;replace b_B1:=bX3 B1;obtain ⟨yn,ya,yl,yc⟩:=x4
 go_upto_region 3 with fail
 refine wC B1.out rfl ?_;intro y5 T;replace HX:=Hi (T.ext HX.out zo);replace B1:=Hi (T.bx);replace B2:=Hi (T.rest _ _ zo B2.out);replace G2:=Hi (G2.out.keep T.keep);replace G4:=Hi (G4.out.keep T.keep);clear T;replace b_B1:=bX3 B1;replace b_B2:=bX3 B2;go_wp2;have hF:=((((Fin.start (L:=w.heap.size+1) HX.out (ai B2.out rfl)).set zo (i:=0) (v:=.bool (⟨yn,ya,yl,yc,xb,xm,xd⟩:RH).neg) rfl).set zo (i:=1) (v:=.slice (⟨yn,ya,yl,yc,xb,xm,xd⟩:RH).a (⟨yn,ya,yl,yc,xb,xm,xd⟩:RH).n (⟨yn,ya,yl,yc,xb,xm,xd⟩:RH).c) rfl).set zo (i:=2) (v:=.slice (⟨yn,ya,yl,yc,xb,xm,xd⟩:RH).b (⟨yn,ya,yl,yc,xb,xm,xd⟩:RH).m (⟨yn,ya,yl,yc,xb,xm,xd⟩:RH).d) rfl);exact nXa (v:=(⟨yn,ya,yl,yc,xb,xm,xd⟩:RH).v) (by simp [results,Tryz.results188,go_sem,ab B2.out]) rfl ⟨(⟨yn,ya,yl,yc,xb,xm,xd⟩:RH),rfl,hF.ext,(aB.keep (s:=⟨yn,ya,yl,yc,xb,xm,xd⟩) ⟨by rw [HA.out.1];exact G4.out.1,by rw [HA.out.1];exact G4.out.2,by rw [HA.out.2];exact G2.out.2.2⟩ hF.keep)⟩
theorem mf(s t:RH)(q r:Rat)(w:World)(h:aQ w s q)(k:aQ w t r):ak 94 [s.v,t.v] w RH.v (fun s w'=>aB w' s (q-r)):=by
 have ZR:=Hi k.bsz;obtain ⟨neg,ao,n,c,bo,m,d⟩:=s;obtain ⟨neg',ao',n',c',bo',m',d'⟩:=t;have HR:=Hi h;have KR:=Hi k;have HX:=Hi (Ext.refl w);have HV:Hid (q-r=q+-r):=Hi (Rat.sub_eq_add_neg _ _);clear h k;unfold ak;go_enter Tryz.func94,Tryz.ntmps94
 go_upto_region 1 with fail
 refine pW ?_;intro w1 hE B2 B3 B4 hz_w1 hr_w1;refine mV3 hE ?_ HR KR HX;clear HR KR HX;intro HR KR HX;replace b_B2:=bX3 B2;replace b_B3:=bX3 B3;refine wpG 4 (fun opIx=>match opIx with
  | 2=>sR (-r)
  | 3=>sR (q+-r)
  | _=>.quiet) (fun|3=>[2]|_=>[]) fun w0 he0 hz0 hc0 hf0=>?_
 refine wps he0 (fun w1 hW hG=>?_) fun x2=>?_
 ·exact spc [RH.v ⟨neg',ao',n',c',bo',m',d'⟩] Tryz.func83 (vJ ⟨neg',ao',n',c',bo',m',d'⟩ r _ (KR.out.ext hW))
 refine qZ ?_;refine wps he0 (fun w1 hW hG=>?_) fun x3=>?_
 ·have g2:=gS (hG 2 dZ);exact spc [RH.v ⟨neg,ao,n,c,bo,m,d⟩,x2.v] Tryz.func46 (eV ⟨neg,ao,n,c,bo,m,d⟩ x2 q (-r) _ (HR.out.ext hW) (g2.raw ZR.out.neg dZ))
 refine qZ ?_;refine aj ?_;intro w2 hI;have hE:=he0.out.trans hI.ext;have G3:=gT (hI.facts 3);clear hI he0 hz0 hc0 hf0;refine mV2 hE ?_ B4 HX;clear B4 HX;intro B4 HX;replace b_B4:=bX3 B4;simp only [pD];rw [←HV.out] at G3;go_wp2;have hF:=((((Fin.start (L:=w.heap.size+2) HX.out (ai B4.out rfl)).set zo (i:=0) (v:=.bool x3.neg) rfl).set zo (i:=1) (v:=.slice x3.a x3.n x3.c) rfl).set zo (i:=2) (v:=.slice x3.b x3.m x3.d) rfl);exact nXa (v:=x3.v) (by simp [results,Tryz.results94,go_sem,ab B4.out]) rfl ⟨x3,rfl,hF.ext,G3.out.keep hF.keep⟩
theorem xT{z e z' e':Int}{q r:Rat}(h:(z:Rat) / (e:Rat)=q)(k:(z':Rat) / (e':Rat)=r):((z*e':Int):Rat) / ((e*z':Int):Rat)=q / r:=by
 subst h k;rw [Rat.intCast_mul,Rat.intCast_mul,Rat.div_def,Rat.div_def,Rat.div_def,Rat.div_def,ly,ly,Rat.inv_inv];grind
theorem zW{z e:Int}{q:Rat}(he:0<e)(h:(z:Rat) / (e:Rat)=q):z=0↔q=0:=by
 subst h;constructor
 ·rintro rfl;rw [Rat.div_def];show (0:Rat)*_=0;grind
 ·intro h;rw [Rat.div_def] at h;rcases nXr.1 h with h1|h1
  ·exact Rat.intCast_eq_zero_iff.1 h1
  ·have a1:(e:Rat)≠0:=by intro h0;have:=Rat.intCast_eq_zero_iff.1 h0;omega
   have:=nYk _ a1;rw [h1] at this;grind
def Fy(r:Rat):Int:=if r=0 then 3 else 0
theorem qD{r:Rat}(h:r=0):Fy r=3:=if_pos h
theorem xX{r:Rat}(h:r≠0):Fy r=0:=if_neg h
def IL(q r:Rat)(x:RH)(w':World):Prop:=r≠0→aB w' x (q / r)
abbrev DV(s:RH)(e:Int):Value:=.tuple #[s.v,.int .i64 e]
theorem vR(s t:RH)(q r:Rat)(w:World)(h:aQ w s q)(k:aQ w t r):ak 91 [s.v,t.v] w (fun x:RH=>DV x (Fy r)) (IL q r):=by
 obtain ⟨neg,ao,n,c,bo,m,d⟩:=s;obtain ⟨neg',ao',n',c',bo',m',d'⟩:=t;have HR:=Hi h;have KR:=Hi k;have HX:=Hi (Ext.refl w);clear h k;unfold ak;go_enter Tryz.func91,Tryz.ntmps91
 go_wp2_with fail
 refine mE (F:=fun W=>Calls _ _ _ W _) ?_;intro w1 hE hB0 hB1 hB2 hz;have hz_w1:=nle hz;have hr_w1:=nle hz.symm;clear hz;refine mV3 hE ?_ HR KR HX;clear HR KR HX;intro HR KR HX;clear hB0;have B3:=Hi hB1;clear hB1;have B4:=Hi hB2;clear hB2
 change Calls _ _ _ _ _
 refine cM (cX ⟨neg,ao,n,c,bo,m,d⟩ q _ HR.out) fun x2 w2 hE G2=>?_
 refine mV4 hE ?_ KR HX B3 B4;clear KR HX B3 B4;intro KR HX B3 B4;obtain ⟨⟨an,aa,al,ac⟩,⟨bn,ba,bl,bc⟩⟩:=x2;obtain ⟨z,e,g1,g2,p3,g4,p5,p6⟩:=G2.out.div;have J1:=Hi g1;have J2:=Hi g2;have J4:=Hi g4;have P5:=Hi p5;have P6:=Hi p6;clear g1 g2 g4 p3 p5 p6 G2;simp only [PP]
 go_upto_region 2 with fail
 refine kQ ?_;intro y3 hE B6 B7 hz_y3 hr_y3;refine mV6 hE ?_ KR HX B3 B4 J1 J2;clear KR HX B3 B4 J1 J2;intro KR HX B3 B4 J1 J2;replace b_B3:=bX3 B3
 go_wp2_with fail
 refine cM (cX ⟨neg',ao',n',c',bo',m',d'⟩ r _ KR.out) fun x4 w4 hE G4=>?_
 refine mV6 hE ?_ B6 B7 HX B4 J1 J2;clear B6 B7 HX B4 J1 J2;intro B6 B7 HX B4 J1 J2;obtain ⟨⟨an',aa',al',ac'⟩,⟨bn',ba',bl',bc'⟩⟩:=x4;obtain ⟨z',e',g1,g2,p3,g4,p5,p6⟩:=G4.out.div;have K1:=Hi g1;have K2:=Hi g2;have K4:=Hi g4;have KN:=Hi (zW p3 g4);have Q5:=Hi p5;have Q6:=Hi p6;clear g1 g2 g4 p3 p5 p6 G4;simp only [PP]
 go_upto_region 3 with fail
 refine kQ ?_;intro y5 hE B8 B9 hz_y5 hr_y5;refine mV8 hE ?_ B6 B7 HX B4 J1 J2 K1 K2;clear B6 B7 HX B4 J1 J2 K1 K2;intro B6 B7 HX B4 J1 J2 K1 K2;replace b_B8:=bX3 B8;have HV:=Hi (xT J4.out K4.out);have M1:=Hi (o7 P5.out Q6.out);have M2:=Hi (o7 P6.out Q5.out);clear J4 K4
 go_wp2_with fail
 refine cM (dD ⟨an',aa',al',ac'⟩ z' _ K1.out) fun x6 w6 hE _=>?_
 refine mV8 hE ?_ B8 B9 B6 B7 HX B4 J1 J2;clear B8 B9 B6 B7 HX B4 J1 J2;intro B8 B9 B6 B7 HX B4 J1 J2;refine mV2 hE ?_ K1 K2;clear K1 K2;intro K1 K2;replace b_B4:=bX3 B4;replace b_B6:=bX3 B6;replace b_B7:=bX3 B7;replace b_B8:=bX3 B8;replace b_B9:=bX3 B9;by_cases hz:z'=0
 case pos =>
  have hr:r=0:=KN.out.1 hz;subst hz;have HRz:=Hi hr;rw [dz rfl];have HZe:Hid (Ending.returned (DV ⟨false,none,0,0,none,0,0⟩ 3)=Ending.returned (DV ⟨false,none,0,0,none,0,0⟩ (Fy r))):=Hi (by rw [qD HRz.out]);clear hr M1 M2 HV P5 P6 Q5 Q6 KN;go_wp2;have hF:=(((Fin.start (L:=w.heap.size+2) HX.out (ai B4.out rfl)).set zo (i:=0) (v:=.bool false) rfl).set zo (i:=1) (v:=.slice none 0 0) rfl).set zo (i:=2) (v:=.slice none 0 0) rfl;exact nXa (v:=DV ⟨false,none,0,0,none,0,0⟩ 3) (by simp [results,Tryz.results91,go_sem,ab B4.out,DV]) rfl ⟨⟨false,none,0,0,none,0,0⟩,HZe.out,hF.ext,fun h=>(h HRz.out).elim⟩
 have HRz:Hid (r≠0):=Hi (fun h=>hz (KN.out.2 h));have hcz:cr z' 0=-1∨cr z' 0=1:=by
  rcases Int.lt_or_gt_of_ne hz with h|h
  ·exact Or.inl (dw h)
  ·exact Or.inr (cU h)
 obtain ⟨v,hv⟩:∃ v,v=cr z' 0:=⟨_,rfl⟩;rw [←hv] at hcz ⊢;have hvb:(v == 0)=false:=by rw [nXs];omega
 clear hv hcz hz KN;have HZe:∀ x:RH,Ending.returned (DV x 0)=Ending.returned (DV x (Fy r)):=fun x=>by rw [xX HRz.out]
 go_upto_region 5 with fail
 refine wpG 7 (fun opIx=>match opIx with
  | 2=>sI (z*e')
  | 5=>sI (e*z')
  | 6=>sR (q / r)
  | _=>.quiet) (fun|6=>[2,5]|_=>[]) fun w0 he0 hz0 hc0 hf0=>?_
 refine wps he0 (fun w1 hW hG=>?_) fun x2=>?_
 ·exact spc [IH.v ⟨an,aa,al,ac⟩,IH.v ⟨bn',ba',bl',bc'⟩] Tryz.func112 (dM _ _ _ _ _ (J1.out.ext hW) (K2.out.ext hW))
 refine qZ ?_;refine wps he0 (fun w1 hW hG=>?_) fun x5=>?_
 ·exact spc [IH.v ⟨bn,ba,bl,bc⟩,IH.v ⟨an',aa',al',ac'⟩] Tryz.func112 (dM _ _ _ _ _ (J2.out.ext hW) (K1.out.ext hW))
 refine qZ ?_;refine wps he0 (fun w1 hW hG=>?_) fun x6=>?_
 ·have g2:=gS (hG 2 dZ);have g5:=gS (hG 5 dZ);exact spc [x2.v,x5.v] Tryz.func110 (HV.out ▸ fZ x2 x5 _ _ _ (g2.rawk M1.out kK.2.1) (g5.rawk M2.out kK.2.1))
 refine qZ ?_;refine aj ?_;intro w7 hI;have hE:=he0.out.trans hI.ext;have G6:=gT (hI.facts 6);clear hI he0 hz0 hc0 hf0;refine mV2 hE ?_ HX B4;clear HX B4;intro HX B4;replace b_B4:=bX3 B4;simp only [pD];go_wp2;have hF:=(((Fin.start (L:=w.heap.size+2) HX.out (ai B4.out rfl)).set zo (i:=0) (v:=.bool x6.neg) rfl).set zo (i:=1) (v:=.slice x6.a x6.n x6.c) rfl).set zo (i:=2) (v:=.slice x6.b x6.m x6.d) rfl;exact nXa (v:=DV x6 0) (by simp [results,Tryz.results91,go_sem,ab B4.out,DV]) rfl ⟨x6,HZe x6,hF.ext,fun _=>G6.out.keep hF.keep⟩
theorem iN(s t:RH)(q r:Rat)(w:World)(h:aQ w s q)(k:aQ w t r):ak 35 [s.v,t.v] w RH.v (fun x w'=>aB w' x (q / r)):=by
 obtain ⟨neg,ao,n,c,bo,m,d⟩:=s;obtain ⟨neg',ao',n',c',bo',m',d'⟩:=t;have HR:=Hi h;have KR:=Hi k;have HX:=Hi (Ext.refl w);clear h k;unfold ak;go_enter Tryz.func35,Tryz.ntmps35
 go_wp2_with fail
 refine mE (F:=fun W=>Calls _ _ _ W _) ?_;intro w1 hE hB0 hB1 hB2 hz;have hz_w1:=nle hz;have hr_w1:=nle hz.symm;clear hz;refine mV3 hE ?_ HR KR HX;clear HR KR HX;intro HR KR HX;clear hB0;clear hB1;have B4:=Hi hB2;clear hB2
 change Calls _ _ _ _ _
 refine cM (vR ⟨neg,ao,n,c,bo,m,d⟩ ⟨neg',ao',n',c',bo',m',d'⟩ q r _ HR.out KR.out) fun x2 w2 hE G2=>?_
 refine mV2 hE ?_ HX B4;clear HX B4;intro HX B4;simp only [DV];by_cases hr:r=0
 case pos =>
  have HV:Hid (q / r=((0:Int):Rat)):=Hi (by rw [hr,Rat.div_def,Rat.inv_zero];show q*0=0;grind);rw [qD hr];clear hr G2
  go_upto_region 2 with fail
  refine gE ?_;intro y3 hE hB0 hz;have hz_y3:=nle hz;have hr_y3:=nle hz.symm;clear hz;refine mV2 hE ?_ HX B4;clear HX B4;intro HX B4;clear hB0
  go_wp2_with fail
  refine cM (ce 0 _ dZ dZ) fun x4 w4 hE G4=>?_
  refine mV2 hE ?_ HX B4;clear HX B4;intro HX B4;replace b_B4:=bX3 B4;go_wp2;have hF:=((((Fin.start (L:=w.heap.size+2) HX.out (ai B4.out rfl)).set zo (i:=0) (v:=.bool x4.neg) rfl).set zo (i:=1) (v:=.slice x4.a x4.n x4.c) rfl).set zo (i:=2) (v:=.slice x4.b x4.m x4.d) rfl);exact nXa (v:=x4.v) (by simp [results,Tryz.results35,go_sem,ab B4.out]) rfl ⟨x4,rfl,hF.ext,(by rw [HV.out];exact G4.out.keep hF.keep)⟩
 rw [xX hr];have GC:=Hi (G2.out hr);clear hr G2;obtain ⟨xn,xa,xl,xc,xb,xm,xd⟩:=x2
 go_upto_region 2 with fail
 refine nmA ?_;intro y3 hE B5 hz_y3 hr_y3;refine mV3 hE ?_ HX B4 GC;clear HX B4 GC;intro HX B4 GC;replace b_B4:=bX3 B4;replace b_B5:=bX3 B5;go_wp2;have hF:=((((Fin.start (L:=w.heap.size+2) HX.out (ai B4.out rfl)).set zo (i:=0) (v:=.bool (⟨xn,xa,xl,xc,xb,xm,xd⟩:RH).neg) rfl).set zo (i:=1) (v:=.slice (⟨xn,xa,xl,xc,xb,xm,xd⟩:RH).a (⟨xn,xa,xl,xc,xb,xm,xd⟩:RH).n (⟨xn,xa,xl,xc,xb,xm,xd⟩:RH).c) rfl).set zo (i:=2) (v:=.slice (⟨xn,xa,xl,xc,xb,xm,xd⟩:RH).b (⟨xn,xa,xl,xc,xb,xm,xd⟩:RH).m (⟨xn,xa,xl,xc,xb,xm,xd⟩:RH).d) rfl);exact nXa (v:=(⟨xn,xa,xl,xc,xb,xm,xd⟩:RH).v) (by simp [results,Tryz.results35,go_sem,ab B4.out]) rfl ⟨(⟨xn,xa,xl,xc,xb,xm,xd⟩:RH),rfl,hF.ext,(aB.keep (s:=⟨xn,xa,xl,xc,xb,xm,xd⟩) GC.out hF.keep)⟩
end Go.Proofs.YtafgmcimcbhhjaaGreat
