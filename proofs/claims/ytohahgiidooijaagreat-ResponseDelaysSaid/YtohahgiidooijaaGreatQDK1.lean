/- Make, Mk2, Poly1, Same, Rf5 -/
import Derived.Test.YtohahgiidooijaaGreatQDM7
import Derived.Test.YtohahgiidooijaaGreatQDM1
set_option linter.unusedVariables false
set_option maxHeartbeats 2000000
set_option maxRecDepth 4000
namespace Go.Proofs.YtohahgiidooijaaGreat
open Go.RowKit Go.Front Go.Num
attribute [local go_sem] XW.cell XW.frozen
theorem tH(n m:Int)(hm:0<m):(if n.tmod m<0 then n.tmod m+m else n.tmod m)=n % m:=by
 rw [Int.tmod_eq_emod];have h1:=Int.emod_nonneg n (show m≠0 by omega);have h2:=Int.emod_lt_of_pos n hm;have h3:((m.natAbs:Nat):Int)=m:=by omega
 split
 ·split <;> omega
 ·rw [h3];split <;> omega
theorem tI(n m:Int)(hm:0<m):-m<n.tmod m∧n.tmod m<m:=by
 rw [Int.tmod_eq_emod];have h1:=Int.emod_nonneg n (show m≠0 by omega);have h2:=Int.emod_lt_of_pos n hm;have h3:((m.natAbs:Nat):Int)=m:=by omega
 split
 ·omega
 ·rw [h3];omega
theorem m9(n m:Int)(w:World)(hn:-9223372036854775808≤n)(hn2:n≤9223372036854775807)(hm:0<m)(hm2:m≤9223372036854775807) :
  au 33 [.int .i64 n,.int .i64 m] w (fun _:Unit=>.int .i64 (n % m)) (fun _ _=>True):=by
 have He:=Hi (tH n m hm);obtain ⟨hb1,hb2⟩:=tI n m hm;have hm0:m≠0:=by omega
 unfold au;go_enter Tryz.func33,Tryz.ntmps33;obtain ⟨r,hr⟩:∃ r,r=n.tmod m:=⟨_,rfl⟩;rw [←hr] at He hb1 hb2;by_cases h0:r<0
 ·rw [if_pos h0] at He;go_wp2
  go_ret
  exact ⟨(),bf (by rw [←hr];exact He.out),Ext.refl _,trivial⟩
 ·rw [if_neg h0] at He;go_wp2
  go_ret
  exact ⟨(),bf (by rw [←hr];exact He.out),Ext.refl _,trivial⟩
def xH(n:Int):Rat:=((n % 25-12:Int):Rat) / ((1+n.tdiv 25 % 8:Int):Rat)
theorem Bo(n:Int)(w:World)(hn:-9223372036854775808≤n)(hn2:n≤9223372036854775807):au 114 [.int .i64 n] w RH.v (fun x w'=>ay w' x (xH n)):=by
 have HX:=Hi (Ext.refl w);have h1:=Int.emod_nonneg n (show (25:Int)≠0 by decide);have h2:=Int.emod_lt_of_pos n (show (0:Int)<25 by decide);have h3:=Int.emod_nonneg (n.tdiv 25) (show (8:Int)≠0 by decide);have h4:=Int.emod_lt_of_pos (n.tdiv 25) (show (0:Int)<8 by decide);have h5:-9223372036854775808≤n.tdiv 25∧n.tdiv 25≤9223372036854775807:=by
  have:=Int.tmod_def n 25;have:=tI n 25 (by decide);omega
 obtain ⟨a,ha⟩:∃ a,a=n % 25:=⟨_,rfl⟩;obtain ⟨b,hb⟩:∃ b,b=n.tdiv 25 % 8:=⟨_,rfl⟩;rw [←ha] at h1 h2;rw [←hb] at h3 h4;have HA:=Hi ha;have HB:=Hi hb;have H5:=Hi h5;clear ha hb h5;unfold au;go_enter Tryz.func114,Tryz.ntmps114
 go_wp2_with fail
 refine nmA (F:=fun W=>Calls _ _ _ W _) ?_;intro w1 hE B2 hz_w1 hr_w1;replace HX:=hE.tr HX;have hs_w1:=hE.size;clear hE;replace b_B2:=bX3 B2
 change Calls _ _ _ _ _
 refine cM (m9 n 25 _ hn hn2 (by decide) (by decide)) fun x2 w2 hE _=>?_
 refine mV2 hE ?_ B2 HX;clear B2 HX;intro B2 HX;have hs_w2:=hE.size;clear hE;replace b_B2:=bX3 B2;rw [←HA.out]
 go_wp2_with fail
 refine cM (m9 (n.tdiv 25) 8 _ H5.out.1 H5.out.2 (by decide) (by decide)) fun x3 w3 hE _=>?_
 refine mV2 hE ?_ B2 HX;clear B2 HX;intro B2 HX;have hs_w3:=hE.size;clear hE;replace b_B2:=bX3 B2;rw [←HB.out]
 go_wp2_with fail
 refine cM (cZ (a-12) (1+b) _ (by omega) (by omega) (by omega) (by omega)) fun x4 w4 hE G4=>?_
 refine mV2 hE ?_ B2 HX;clear B2 HX;intro B2 HX;have hs_w4:=hE.size;clear hE;replace b_B2:=bX3 B2;have G5:Hid (ay w4 x4 (xH n)):=Hi (by unfold xH;rw [←HA.out,←HB.out];exact G4.out);clear G4;go_wp2;have hF:=((((Fin.start (L:=w.heap.size) HX.out (ak B2.out rfl)).set (by omega) (i:=0) (v:=.bool x4.neg) rfl).set (by omega) (i:=1) (v:=.slice x4.a x4.n x4.c) rfl).set (by omega) (i:=2) (v:=.slice x4.b x4.m x4.d) rfl);exact bodyPost_ret (v:=x4.v) (by simp [results,Tryz.results114,go_sem,ae B2.out]) rfl ⟨x4,rfl,hF.ext,G5.out.keep hF.keep⟩
theorem cx.take{w:World}{ao:Option Addr}{xs:List Int}(h:cx w ao xs)(m:Nat):cx w ao (xs.take m):=by
 rcases h with h|⟨b,off,h1,h2⟩
 ·left;rw [h];simp
 ·right
  refine ⟨b,off,h1,fun k hk=>?_⟩;simp only [nXj] at hk;rw [h2 k (by omega)];simp [show k<m by omega]
def InR(xs:List Int):Prop:=∀ x ∈ xs,-9223372036854775808≤x∧x≤9223372036854775807
theorem InR.take{xs:List Int}(h:InR xs)(m:Nat):InR (xs.take m):=fun x hx=>h x (List.mem_of_mem_take hx)
theorem lw{xs:List Int}{k:Nat}(h:k<xs.length):xs.getD k 0 ∈ xs:=by
 rw [show xs.getD k 0=xs[k] by simp [h]];exact List.getElem_mem h
theorem ni{xs:List Int}{j:Nat}(f:Int→Rat)(h:j<xs.length):(xs.take j).map f++[f (xs.getD j 0)]=(xs.take (j+1)).map f:=by
 rw [List.take_succ_eq_append_getElem h,List.map_append];simp [h]
theorem rh(ao:Option Addr)(cap:Nat)(xs:List Int)(w:World)(h:cx w ao xs)(hr:InR xs)(hl:xs.length≤1073741824)(hc:xs.length≤cap)(hcm:cap≤9223372036854775807) :
  au 52 [.slice ao xs.length cap] w SH.v (fun s w'=>bj w.heap.size w' s (xs.map xH)):=by
 have HX:=Hi (Ext.refl w);have H:=Hi h;have HR:=Hi hr;obtain ⟨n,hn⟩:∃ n,n=xs.length:=⟨_,rfl⟩;rw [←hn] at hl hc ⊢;have Hn:=Hi hn;clear h hr hn;unfold au;go_enter Tryz.func52,Tryz.ntmps52;go_wp2
 go_loopg [3,8] n (fun g v i wr=>∃ j:Nat,j+g=n∧i=.int .i64 (j:Nat)∧Ext w wr∧dB wr (w.heap.size≤·) v ((xs.take j).map xH))
 case atStart=>exact ⟨0,by omega,rfl,HX.out,dB.nil _ _⟩
 case round =>
  obtain ⟨j,hj,rfl,g1,g2⟩:=hrel;obtain ⟨s,rfl⟩:=g2.sh;clear HX;have HX:=Hi g1;have HO:=Hi g2;have hsz:=g1.size;clear g1 g2;by_cases h0:gk=0
  ·subst h0;obtain rfl:j=n:=by omega
   go_wp2
   go_ret
   refine ⟨s,rfl,HX.out,?_⟩;have:=HO.out.lin
   rwa [nXl (by rw [Hn.out];exact nXd _)] at this
  ·obtain ⟨b,off,hao,hc1⟩:=(H.out.ext HX.out).at (k:=j) (by rw [←Hn.out];omega);subst hao;have hx:=HR.out _ (lw (xs:=xs) (k:=j) (by rw [←Hn.out];omega));obtain ⟨x,hxe⟩:∃ x,x=xs.getD j 0:=⟨_,rfl⟩;rw [←hxe] at hc1 hx;have Hxe:=Hi hxe;have hbl:b<wr.heap.size:=nXp _ _ hc1;clear hxe;have hjn:(j:Int)<n:=by omega
   go_wp2_with fail
   refine cM (Bo x _ hx.1 hx.2) fun x1 w1 hE G1=>?_
   refine mV2 hE ?_ HX HO;clear HX HO;intro HX HO;have hs_w1:=hE.size;clear hE
   go_wp2_with (at_builtin;refine bG rfl (.tmp 12) (.tmp 15) 22 Tryz.underlying22 rfl (w.heap.size≤·) _ _ x1 _ rfl HO.out rfl G1.out (by simp;omega) (fun k hk=>by omega) ?_;intro s' y3 q1 q2 q3)
   have HX3:=Hi (Ext.mods HX.out q2 (fun k h=>h));have HO3:Hid (dB y3 (w.heap.size≤·) s'.v ((xs.take (j+1)).map xH)):=Hi (by
    rw [←ni xH (by rw [←Hn.out];omega),←Hxe.out];exact q1)
   clear q1 q2 q3;go_wp2
   go_roundg (gk-1)
   case measure=>omega
   case rel=>exact ⟨j+1,by omega,by go_num,HX3.out,HO3.out⟩
theorem gR(q:Rat):je q 0=0↔q=0:=by
 unfold je;constructor
 ·intro h;split at h
  ·cases h
  ·split at h
   ·assumption
   ·cases h
 ·rintro rfl;rw [if_neg Rat.lt_irrefl,if_pos rfl]
theorem eo(ao:Option Addr)(n cap:Nat)(qs:List Rat)(w:World)(h:bX w ⟨ao,n,cap⟩ qs) :
  au 136 [.slice ao n cap] w (fun _:Unit=>.slice ao (tz qs).length cap) (fun _ _=>tz qs=qs.take (tz qs).length∧(tz qs).length≤n):=by
 have H:=Hi h;have hle:=h.le;have hmx:=h.max;have Hlen:=Hi h.len;simp only at hle hmx Hlen;clear h;unfold au
 change Calls Tryz.prog _ #[.slice ao n cap] w _
 go_enter Tryz.func136,Tryz.ntmps136;go_wp2
 go_loopg [3] n (fun g nv wr=>nv=.int .i64 (g:Nat)∧g≤n∧tz qs=tz (qs.take g)∧Ext w wr)
 case atStart=>exact ⟨rfl,nXd _,by rw [nXl (by rw [Hlen.out];exact nXd _)],Ext.refl _⟩
 case round =>
  obtain ⟨rfl,hg,hs,hE⟩:=hrel;have Hs:=Hi hs;have HE:=Hi hE;clear hs hE;by_cases h0:gk=0
  ·subst h0;go_wp2
   go_ret
   have e:tz qs=[]:=by rw [Hs.out];rfl
   refine ⟨(),?_,HE.out,?_,?_⟩
   ·rw [e];simp
   ·rw [e];simp
   ·rw [e];simp
  ·obtain ⟨k,rfl⟩:∃ m,gk=m+1:=⟨gk-1,by omega⟩;obtain ⟨b,off,r,hao,⟨hc1,hc2,hc3⟩,hP⟩:=(H.out.ext HE.out).at (k:=k) (by omega);subst hao;have hbl:b<wr.heap.size:=nXp _ _ hc1;obtain ⟨rneg,ra,rn,rc,rb,rm,rd⟩:=r;simp only at hc1 hc2 hc3;have HP:=Hi hP;clear hP h0
   go_wp2_with fail
   refine Calls.mono (iU ⟨rneg,ra,rn,rc,rb,rm,rd⟩ _ _ HP.out) ?_;rintro e w1 ⟨x1,rfl,hE1,-⟩;replace HE:=Hi (HE.out.trans hE1);have HZ:=Hi (gR (qs.getD k 0));obtain ⟨c,hc⟩:∃ c,c=je (qs.getD k 0) 0:=⟨_,rfl⟩;rw [←hc] at HZ ⊢;clear hc hE1 HP hc1 hc2 hc3 hbl;by_cases hz:c=0
   ·subst hz;have Hz0:=Hi (HZ.out.1 rfl);clear HZ;go_wp2
    go_roundg k
    case measure=>omega
    case rel=>exact ⟨by go_num,by omega,by rw [Hs.out,f9 (by rw [Hlen.out];omega) Hz0.out],HE.out⟩
   ·have hzb:(c == 0)=false:=by simpa using hz
    have HF:Hid (tz qs=qs.take (k+1)):=Hi (by rw [Hs.out,pq (by rw [Hlen.out];omega) (fun h=>hz (HZ.out.2 h))]);clear HZ hz;go_wp2
    go_ret
    have e:(tz qs).length=k+1:=by rw [HF.out,nXj,Hlen.out];omega
    refine ⟨(),?_,HE.out,?_,?_⟩
    ·rw [e];rfl
    ·rw [e];exact HF.out
    ·omega
theorem dG(ao:Option Addr)(n cap:Nat)(qs:List Rat)(w:World)(h:bX w ⟨ao,n,cap⟩ qs) :
  au 93 [.slice ao n cap] w (fun _:Unit=>.int .i64 (((tz qs).length:Int)-1)) (fun _ _=>True):=by
 have H:=Hi h;have hle:=h.le;have hmx:=h.max;simp only at hle hmx;clear h;unfold au
 change Calls Tryz.prog _ #[.slice ao n cap] w _
 go_enter Tryz.func93,Tryz.ntmps93
 go_wp2_with fail
 refine Calls.mono (eo _ _ _ _ _ H.out) ?_;rintro e w1 ⟨x1,rfl,hE1,-,h2⟩;have HE:=Hi hE1;clear hE1;go_wp2
 go_ret
 exact ⟨(),rfl,HE.out,trivial⟩
theorem cQ{l:List Rat}{j:Nat}(h:j<l.length):l.take j++[l.getD j 0]=l.take (j+1):=by
 rw [List.take_succ_eq_append_getElem h];simp [h]
theorem af(qs:List Rat):(tz qs).length≤qs.length:=by
 unfold tz;rw [List.length_reverse];have:=(List.dropWhile_sublist (l:=qs.reverse) (· == 0)).length_le;rw [List.length_reverse] at this;exact this
theorem gt(ao:Option Addr)(n cap:Nat)(qs:List Rat)(w:World)(h:bX w ⟨ao,n,cap⟩ qs)(hn:n≤1073741824) :
  au 90 [.slice ao n cap] w SH.v (fun s w'=>bj w.heap.size w' s (tz qs)):=by
 obtain ⟨i0,hi0,hz0,hz1,hz2⟩:=info_parts fk;have H:=Hi h;have hle:=h.le;have hmx:=h.max;have Hlen:=Hi h.len;simp only at hle hmx Hlen;clear h;unfold au
 change Calls Tryz.prog _ #[.slice ao n cap] w _
 go_enter Tryz.func90,Tryz.ntmps90
 go_wp2_with fail
 refine Calls.mono (eo _ _ _ _ _ H.out) ?_;rintro e w1 ⟨x1,rfl,hE1,h1,h2⟩;have HE:=Hi hE1;have HT:=Hi h1;clear hE1 h1;obtain ⟨m,hm⟩:∃ m,m=(tz qs).length:=⟨_,rfl⟩;rw [←hm] at h2 HT ⊢;have Hm:=Hi hm;clear hm
 go_wp2_with (refine aA rfl (.tmp 7) (.tmp 7) 41 rfl 30 i0 (RH.v default) 3 Tryz.underlying41 hi0 hz0 hz1 _ _ m rfl rfl (by simp) (by simp) (by rw [hz2];omega) (by omega) ?_;intro w2 hnew hE2)
 have hL:w.heap.size≤w1.heap.size:=HE.out.size;have HF:=Hi (fq.start (RBk.make rfl hnew));replace HE:=Hi (HE.out.trans hE2);clear hnew hE2;obtain ⟨L,hLe⟩:∃ L,L=w1.heap.size:=⟨_,rfl⟩;rw [←hLe] at hL HF ⊢;clear hLe;go_wp2
 go_loopg [11] m (fun g i wr=>∃ j:Nat,j+g=m∧i=.int .i64 (j:Nat)∧Ext w wr∧fq wr L m ((tz qs).take j))
 case atStart=>exact ⟨0,by omega,rfl,HE.out,HF.out⟩
 case round =>
  obtain ⟨j,hj,rfl,g1,g2⟩:=hrel;clear HE HF;have HE:=Hi g1;have HF:=Hi g2;clear g1 g2;have hlf:((tz qs).take j).length=j:=by rw [nXj,←Hm.out];omega
  by_cases h0:gk=0
  ·subst h0;obtain rfl:j=m:=by omega
   go_wp2
   go_ret
   refine ⟨⟨some ⟨L,0,none⟩,j,j⟩,rfl,HE.out,?_⟩;have:=HF.out.new hL hlf (by omega)
   rwa [nXl (by rw [←Hm.out];exact nXd _)] at this
  ·obtain ⟨b,off,r,hao,⟨hc1,hc2,hc3⟩,hP⟩:=(H.out.ext HE.out).at (k:=j) (by omega);subst hao;obtain ⟨rneg,ra,rn,rc,rb,rm,rd⟩:=r;simp only at hc1 hc2 hc3;have HP:=Hi hP;clear hP
   go_wp2_with fail
   refine Calls.mono (fy ⟨rneg,ra,rn,rc,rb,rm,rd⟩ _ _ HP.out) ?_;rintro e w3 ⟨x3,rfl,hE3,g3⟩;replace HE:=Hi (HE.out.trans hE3);replace HF:=Hi (HF.out.ext hE3);clear HP hc1 hc2 hc3 hE3;have G3:=Hi g3;clear g3;obtain ⟨r0,k1,k2,k3⟩:=HF.out.cells (by rw [hlf];omega);rw [hlf] at k1 k2 k3;have hfr:=HF.out.frozen;have hLl:=HF.out.lt;go_wp2;obtain ⟨_,rfl,T4⟩:=HF.out.put HE.out hL (by rw [hlf];omega) G3.out;rw [hlf] at T4;have e4:(tz qs).take j++[qs.getD j 0]=(tz qs).take (j+1):=by
    rw [←cQ (l:=tz qs) (by rw [←Hm.out];omega),HT.out];simp [show j<m by omega]
   rw [e4] at T4
   go_roundg (gk-1)
   case measure=>omega
   case rel=>exact ⟨j+1,by omega,by go_num,T4.ext,T4.fill⟩
theorem pt{a b:List Rat}(hl:a.length=b.length)(h:a.take a.length=b.take a.length):a=b:=by
 rw [nXl (nXd _),nXl (by omega)] at h;exact h
theorem tN{a b:List Rat}{j:Nat}(h:a.take j=b.take j)(ha:j<a.length)(hb:j<b.length)(e:a.getD j 0=b.getD j 0):a.take (j+1)=b.take (j+1):=by
 rw [List.take_succ_eq_append_getElem ha,List.take_succ_eq_append_getElem hb,h];have e1:a[j]=b[j]:=by simpa [ha,hb] using e
 rw [e1]
theorem jK(s t:SH)(ps qs:List Rat)(w:World)(h:aJ w s ps)(k:aJ w t qs):au 61 [s.v,t.v] w (fun _:Unit=>.bool (decide (ps=qs))) (fun _ _=>True):=by
 obtain ⟨ao,n,c⟩:=s;obtain ⟨bo,m,d⟩:=t;have H:=Hi h;have K:=Hi k;have h1:=h.len;have h2:=h.le;have h3:=h.max;have k1:=k.len;have k2:=k.le;have k3:=k.max;simp only at h1 h2 h3 k1 k2 k3;clear h k;have Hn:=Hi h1;have Km:=Hi k1;clear h1 k1;unfold au
 change Calls Tryz.prog _ #[.slice ao n c,.slice bo m d] w _
 go_enter Tryz.func61,Tryz.ntmps61;by_cases hnm:n=m
 ·subst hnm;go_wp2
  go_loopg [5] n (fun g i wr=>∃ j:Nat,j+g=n∧i=.int .i64 (j:Nat)∧Ext w wr∧ps.take j=qs.take j)
  case atStart=>exact ⟨0,by omega,rfl,Ext.refl _,rfl⟩
  case round =>
   obtain ⟨j,hj,rfl,g1,g2⟩:=hrel;have HE:=Hi g1;have HT:=Hi g2;clear g1 g2;by_cases h0:gk=0
   ·subst h0;obtain rfl:j=n:=by omega
    go_wp2
    go_ret
    refine ⟨(),eX ?_,HE.out,trivial⟩;rw [decide_eq_true (pt (by rw [Hn.out,Km.out]) (by rw [Hn.out];exact HT.out))]
   ·obtain ⟨b,off,r,hao,⟨hc1,hc2,hc3⟩,hP⟩:=(H.out.ext HE.out).at (k:=j) (by omega);obtain ⟨b',off',r',hbo,⟨hd1,hd2,hd3⟩,hQ⟩:=(K.out.ext HE.out).at (k:=j) (by omega);subst hao hbo;obtain ⟨rneg,ra,rn,rc,rb,rm,rd⟩:=r;obtain ⟨sneg,sa,sn,sc,sb,sm,sd⟩:=r';simp only at hc1 hc2 hc3 hd1 hd2 hd3;have hbl:b<wr.heap.size:=nXp _ _ hc1;have hbl':b' < wr.heap.size:=nXp _ _ hd1;have HP:=Hi hP;have HQ:=Hi hQ;clear hP hQ;have hjn:(j:Int)<n:=by omega
    obtain ⟨u,hu⟩:∃ u,u=ps.getD j 0:=⟨_,rfl⟩;obtain ⟨v,hv⟩:∃ v,v=qs.getD j 0:=⟨_,rfl⟩;rw [←hu] at HP;rw [←hv] at HQ;have Hu:=Hi hu;have Hv:=Hi hv;clear hu hv;obtain ⟨B,hB⟩:∃ B,B=decide (u=v):=⟨_,rfl⟩;have HB:=Hi hB;clear hB
    go_upto_region 6 with fail
    refine wpG 10 (fun opIx=>match opIx with
     | 8=>.spec Unit () (fun _=>.bool B) (fun _ _=>True)
     | _=>.quiet) (fun _=>[]) fun w0 he0 hz0 hc0 hf0=>?_
    refine wps he0.out rfl rfl (fun w1 hW hG=>?_) fun x8=>?_
    ·exact spc [RH.v ⟨rneg,ra,rn,rc,rb,rm,rd⟩,RH.v ⟨sneg,sa,sn,sc,sb,sm,sd⟩] Tryz.func62 (HB.out ▸ mo ⟨rneg,ra,rn,rc,rb,rm,rd⟩ ⟨sneg,sa,sn,sc,sb,sm,sd⟩ _ _ _ (HP.out.ext hW) (HQ.out.ext hW))
    refine qZ ?_;refine aq ?_;intro w2 hI;have hE:=he0.out.trans hI.ext;clear hI he0 hz0 hc0 hf0;replace HE:=hE.tr HE;have hs_w2:=hE.size;clear hE;simp only [pD];cases B
    ·have hne:¬ ps=qs:=fun e=>by
      have:=HB.out;rw [Hu.out,Hv.out,e] at this;simp at this
     go_wp2
     go_ret
     exact ⟨(),eX (decide_eq_false hne).symm,HE.out,trivial⟩
    ·have hpq:ps.getD j 0=qs.getD j 0:=by
      rw [←Hu.out,←Hv.out];exact of_decide_eq_true HB.out.symm
     have Hpq:=Hi hpq;clear hpq;go_wp2
     go_roundg (gk-1)
     case measure=>omega
     case rel=>exact ⟨j+1,by omega,by go_num,HE.out,tN HT.out (by rw [Hn.out];omega) (by rw [Km.out];omega) Hpq.out⟩
 ·go_wp2
  go_ret
  refine ⟨(),eX ?_,Ext.refl _,trivial⟩;have:¬ ps=qs:=by rintro rfl;exact hnm (Hn.out.symm.trans Km.out)
  rw [decide_eq_false this]
theorem we(s t:SH)(ps qs:List Rat)(w:World)(h:aJ w s ps)(k:aJ w t qs):au 82 [s.v,t.v] w (fun _:Unit=>.bool (decide (ps=qs))) (fun _ _=>True):=by
 obtain ⟨ao,n,c⟩:=s;obtain ⟨bo,m,d⟩:=t;have H:=Hi h;have K:=Hi k;clear h k;unfold au
 change Calls Tryz.prog _ #[.slice ao n c,.slice bo m d] w _
 go_enter Tryz.func82,Tryz.ntmps82
 go_wp2_with fail
 refine Calls.mono (jK ⟨ao,n,c⟩ ⟨bo,m,d⟩ ps qs _ H.out K.out) ?_;rintro e w1 ⟨x1,rfl,hE1,-⟩;have HE:=Hi hE1;clear hE1;go_wp2
 go_ret
 exact ⟨(),rfl,HE.out,trivial⟩
theorem bX.cells'{w:World}{ao:Option Addr}{n c:Nat}{qs:List Rat}(h:bX w ⟨ao,n,c⟩ qs){k:Nat}(hk:k<n):∃ b off r,ao=some ⟨b,off,none⟩∧b<w.heap.size∧RAt w b (off+k*3) r∧bp w r (qs.getD k 0) :=
 let ⟨b,off,r,h1,h2,h3⟩:=h.at hk;⟨b,off,r,h1,nXp _ _ h2.1,h2,h3⟩
theorem aN(ao:Option Addr)(n cap:Nat)(qs:List Rat)(w:World)(h:bX w ⟨ao,n,cap⟩ qs)(hn:n≤1073741824) :
  au 17 [.slice ao n cap] w SH.v (fun s w'=>bj w.heap.size w' s (tz qs)):=by
 have H:=Hi h;have HX:=Hi (Ext.refl w);have hle:=h.le;have hmx:=h.max;have Hlen:=Hi h.len;simp only at hle hmx Hlen;clear h;unfold au;go_enter Tryz.func17,Tryz.ntmps17;go_wp2
 go_loopg [3] n (fun g nv wr=>nv=.int .i64 (g:Nat)∧g≤n∧tz qs=tz (qs.take g)∧Ext w wr)
 case atStart=>exact ⟨rfl,nXd _,by rw [nXl (by rw [Hlen.out];exact nXd _)],Ext.refl _⟩
 case round =>
  obtain ⟨rfl,hg,hs,hE⟩:=hrel;clear HX;have Hs:=Hi hs;have HX:=Hi hE;have hsz:=hE.size;clear hs hE;by_cases h0:gk=0
  ·subst h0;have HT:Hid (tz qs=qs.take 0):=Hi (by rw [Hs.out];rfl);have HTl:Hid ((tz qs).length=0):=Hi (by rw [HT.out];rfl);go_wp2
   go_loopg [4,26] 0 (fun g v i wr=>∃ j:Nat,j+g=0∧i=.int .i64 (j:Nat)∧Ext w wr∧dB wr (w.heap.size≤·) v ((tz qs).take j))
   case atStart=>exact ⟨0,by omega,rfl,HX.out,dB.nil _ _⟩
   case round =>
    obtain ⟨j,hj,rfl,g1,g2⟩:=hrel;obtain ⟨s,rfl⟩:=g2.sh;clear HX;have HX:=Hi g1;have HO:=Hi g2;have hsz:=g1.size;clear g1 g2;by_cases h0:gk=0
    ·subst h0;obtain rfl:j=0:=by omega
     go_wp2
     go_ret
     refine ⟨s,rfl,HX.out,?_⟩;have:=HO.out.lin
     rwa [nXl (by rw [HTl.out];exact nXd _)] at this
    ·omega
  ·obtain ⟨k,rfl⟩:∃ m,gk=m+1:=⟨gk-1,by omega⟩;obtain ⟨b,off,r,hao,hbl,⟨hc1,hc2,hc3⟩,hP⟩:=(H.out.ext HX.out).cells' (k:=k) (by omega);obtain ⟨rneg,ra,rn,rc,rb,rm,rd⟩:=r;simp only at hc1 hc2 hc3;have HP:=Hi hP;clear hP h0;have Hao:=Hi hao;subst hao
   go_wp2_with fail
   refine cM (gK ⟨rneg,ra,rn,rc,rb,rm,rd⟩ _ _ HP.out) fun x1 w1 hE _=>?_
   replace HX:=hE.tr HX;have hs_w1:=hE.size;clear hE;have HZ:=Hi (gR (qs.getD k 0));obtain ⟨c,hc⟩:∃ c,c=je (qs.getD k 0) 0:=⟨_,rfl⟩;rw [←hc] at HZ ⊢;clear hc HP hc1 hc2 hc3 hbl;by_cases hz:c=0
   ·subst hz;have Hz0:=Hi (HZ.out.1 rfl);clear HZ;go_wp2
    go_roundg k
    case measure=>omega
    case rel=>exact ⟨by go_num,by omega,by rw [Hs.out,f9 (by rw [Hlen.out];omega) Hz0.out],HX.out⟩
   ·have hzb:(c == 0)=false:=by simpa using hz
    have HT:Hid (tz qs=qs.take (k+1)):=Hi (by rw [Hs.out,pq (by rw [Hlen.out];omega) (fun h=>hz (HZ.out.2 h))]);have HTl:Hid ((tz qs).length=k+1):=Hi (by rw [HT.out,nXj,Hlen.out];omega);clear HZ hz;go_wp2
    go_loopg [4,26] (k+1) (fun g v i wr=>∃ j:Nat,j+g=(k+1)∧i=.int .i64 (j:Nat)∧Ext w wr∧dB wr (w.heap.size≤·) v ((tz qs).take j))
    case atStart=>exact ⟨0,by omega,rfl,HX.out,dB.nil _ _⟩
    case round =>
     obtain ⟨j,hj,rfl,g1,g2⟩:=hrel;obtain ⟨s,rfl⟩:=g2.sh;clear HX;have HX:=Hi g1;have HO:=Hi g2;have hsz:=g1.size;clear g1 g2;by_cases h0:gk=0
     ·subst h0;obtain rfl:j=(k+1):=by omega
      go_wp2
      go_ret
      refine ⟨s,rfl,HX.out,?_⟩;have:=HO.out.lin
      rwa [nXl (by rw [HTl.out];exact nXd _)] at this
     ·obtain ⟨b',off',r,hao,hbl,⟨hc1,hc2,hc3⟩,hP⟩:=(H.out.ext HX.out).cells' (k:=j) (by omega);obtain ⟨rfl,rfl⟩:b=b'∧off=off':=by simpa using hao
      obtain ⟨rneg,ra,rn,rc,rb,rm,rd⟩:=r;simp only at hc1 hc2 hc3;have HP:=Hi hP;clear hP;have hjn:(j:Int)<(k+1):=by omega
      go_upto_region 8 with fail
      refine nmA ?_;intro w1 hE B6 hz_w1 hr_w1;refine mV3 hE ?_ HX HO HP;clear HX HO HP;intro HX HO HP;have hs_w1:=hE.size;clear hE;replace b_B6:=bX3 B6
      go_wp2_with fail
      refine cM (cY ⟨rneg,ra,rn,rc,rb,rm,rd⟩ (qs.getD j 0) _ HP.out) fun x2 w2 hE G2=>?_
      refine mV4 hE ?_ B6 HX HO HP;clear B6 HX HO HP;intro B6 HX HO HP;have hs_w2:=hE.size;clear hE;replace b_B6:=bX3 B6
      go_wp2_with (at_builtin;refine bG rfl (.tmp 30) (.tmp 33) 41 Tryz.underlying41 rfl (w.heap.size≤·) _ _ x2 _ rfl HO.out rfl G2.out (by simp;omega) (fun k hk=>by omega) ?_;intro s' y3 q1 q2 q3)
      have HX3:=Hi (Ext.mods HX.out q2 (fun k h=>h));have HO3:Hid (dB y3 (w.heap.size≤·) s'.v ((tz qs).take (j+1))):=Hi (by
       rw [←cQ (l:=tz qs) (by rw [HTl.out];omega)];have e:(tz qs).getD j 0=qs.getD j 0:=by
        rw [HT.out];simp [show j<(k+1) by omega]
       rw [e];exact q1)
      clear q1 q2 q3;go_wp2
      go_roundg (gk-1)
      case measure=>omega
      case rel=>exact ⟨j+1,by omega,by go_num,HX3.out,HO3.out⟩
end Go.Proofs.YtohahgiidooijaaGreat
/- Stab, StbP, Stb1, Stb2, Stb3 -/
namespace Go.Stab
def sm:Nat→(Nat→Rat)→Rat
 | 0,_=>0
 | n+1,f=>sm n f+f n
theorem sm_congr{n:Nat}{f g:Nat→Rat}(h:∀ i,i<n→f i=g i):sm n f=sm n g:=by
 induction n with
 | zero=>rfl
 | succ n ih=>simp only [sm];rw [ih (fun i hi=>h i (by omega)),h n (by omega)]
theorem sm_add(n:Nat)(f g:Nat→Rat):sm n (fun i=>f i+g i)=sm n f+sm n g:=by
 induction n with
 | zero=>simp only [sm];grind
 | succ n ih=>simp only [sm];rw [ih];grind
theorem sm_mul(n:Nat)(c:Rat)(f:Nat→Rat):sm n (fun i=>c*f i)=c*sm n f:=by
 induction n with
 | zero=>simp [sm]
 | succ n ih=>simp only [sm];rw [ih];grind
theorem sm_zero(n:Nat):sm n (fun _=>0)=0:=by
 induction n with
 | zero=>rfl
 | succ n ih=>simp only [sm];rw [ih];grind
theorem Bj{n:Nat}{f g:Nat→Rat}(h:∀ i,i<n→f i≤g i):sm n f≤sm n g:=by
 induction n with
 | zero=>exact Rat.le_refl
 | succ n ih =>
  simp only [sm];have h1:=ih (fun i hi=>h i (by omega));have h2:=h n (by omega);grind
theorem t7{n:Nat}{f:Nat→Rat}(h:∀ i,i<n→0≤f i):0≤sm n f:=by
 have:=Bj (f:=fun _=>0) (g:=f) h
 rwa [sm_zero] at this
theorem ct(n:Nat)(f:Nat→Rat):sm (n+1) f=f 0+sm n (fun i=>f (i+1)):=by
 induction n with
 | zero=>simp [sm];grind
 | succ n ih=>rw [sm,ih];simp only [sm];grind
theorem sm_split(n m:Nat)(f:Nat→Rat):sm (n+m) f=sm n f+sm m (fun i=>f (n+i)):=by
 induction m with
 | zero=>simp [sm];grind
 | succ m ih=>rw [←Nat.add_assoc];simp only [sm];rw [ih];grind
theorem mj(n:Nat)(f:Nat→Rat):sm n f=sm n (fun i=>f (n-1-i)):=by
 induction n with
 | zero=>rfl
 | succ n ih =>
  rw [ct n (fun i=>f (n+1-1-i))];simp only [sm];rw [ih];have:sm n (fun i=>f (n+1-1-(i+1)))=sm n (fun i=>f (n-1-i)):=sm_congr (fun i hi=>by congr 1;omega);rw [this];simp only [Nat.add_sub_cancel,Nat.sub_zero];grind
theorem kB(n m:Nat)(f:Nat→Nat→Rat):sm n (fun i=>sm m (fun j=>f i j))=sm m (fun j=>sm n (fun i=>f i j)):=by
 induction n with
 | zero=>simp only [sm];rw [sm_zero]
 | succ n ih=>simp only [sm];rw [ih,←sm_add]
def sh(u:Nat→Rat):Nat→Rat
 | 0=>0
 | n+1=>u n
def ap:List Rat→(Nat→Rat)→Nat→Rat
 | [],_=>fun _=>0
 | a :: l,u=>fun n=>a*u n+sh (ap l u) n
def E(n:Nat)(u:Nat→Rat):Rat:=sm n (fun i=>u i*u i)
theorem eG(x:Rat):0≤x*x:=by
 rcases Rat.le_total (a:=0) (b:=x) with h|h
 ·exact Rat.mul_nonneg h h
 ·have:=Rat.mul_nonneg (a:=-x) (b:=-x) (by grind) (by grind);grind
theorem sh_zero:sh (fun _=>0)=fun _=>0:=by
 funext n;cases n <;> rfl
def FB(a b:List Rat):List Rat:=List.zipWith (·+·) a b
def FA(c:Rat)(a:List Rat):List Rat:=a.map (c*·)
def up(c:List Rat)(k:Rat):List Rat:=FB (c++[0]) (FA k (0 :: c.reverse))
theorem up_length(c:List Rat)(k:Rat):(up c k).length=c.length+1:=by simp [up,FB,FA]
def Inv(c:List Rat):Prop:=∃ C:Rat,0≤C∧∀ u N,E N u≤C*E N (ap c u)
def shn(i:Nat)(u:Nat→Rat)(n:Nat):Rat:=if i≤n then u (n-i) else 0
theorem yu(i:Nat)(u:Nat→Rat)(n:Nat):shn (i+1) u (n+1)=shn i u n:=by
 unfold shn;by_cases h:i≤n
 ·rw [if_pos h,if_pos (by omega)];congr 1;omega
 ·rw [if_neg h,if_neg (by omega)]
theorem ap_sum(c:List Rat)(u:Nat→Rat)(n:Nat):ap c u n=sm c.length (fun i=>c.getD i 0*shn i u n):=by
 induction c generalizing n with
 | nil=>rfl
 | cons a l ih =>
  simp only [ap,List.length_cons];rw [ct];have e0:shn 0 u n=u n:=by unfold shn;simp
  have e1:sh (ap l u) n=sm l.length (fun i=>(a :: l).getD (i+1) 0*shn (i+1) u n):=by
   cases n with
   | zero =>
    simp only [sh];rw [sm_congr (g:=fun _=>0) (fun i _=>by simp [shn]),sm_zero]
   | succ n =>
    simp only [sh];rw [ih];exact sm_congr (fun i _=>by rw [yu];simp)
  rw [e1,e0];simp
theorem t6(n m:Nat)(f g:Nat→Rat):sm n f*sm m g=sm n (fun i=>sm m (fun j=>f i*g j)):=by
 rw [show (fun i=>sm m (fun j=>f i*g j))=fun i=>sm m g*f i from funext fun i=>by rw [sm_mul];grind,sm_mul];grind
def G(L:Nat)(u:Nat→Rat)(i j:Nat):Rat:=sm L (fun n=>shn i u n*shn j u n)
theorem lt_or_le(a b:Rat):a<b∨b≤a:=by
 rcases Rat.le_total (a:=b) (b:=a) with h|h
 ·exact Or.inr h
 ·by_cases h1:a=b
  ·right;rw [h1];exact Rat.le_refl
  ·left;exact Rat.lt_of_le_of_ne h h1
theorem arch(q:Rat):∃ J:Nat,1≤J∧q<(J:Rat):=by
 refine ⟨q.ceil.toNat+1,by omega,?_⟩;have h1:q≤(q.ceil:Rat):=Rat.le_ceil;have h2:((q.ceil:Int):Rat)≤((q.ceil.toNat:Int):Rat):=Rat.intCast_le_intCast.2 (Int.self_le_toNat _);have h3:((q.ceil.toNat+1:Nat):Rat)=((q.ceil.toNat:Int):Rat)+1:=by rw [Rat.natCast_add];rfl
 rw [h3];grind
theorem yt(n:Nat)(c:Rat):sm n (fun _=>c)=(n:Rat)*c:=by
 induction n with
 | zero=>simp only [sm];grind
 | succ n ih=>simp only [sm];rw [ih,Rat.natCast_add];grind
theorem Ap{J:Nat}{f:Nat→Rat}{S:Rat}(hJ:1≤J)(h:sm J f≤S):∃ j,j<J∧(J:Rat)*f j≤S:=by
 apply Classical.byContradiction;intro hn;have hall:∀ j,j<J→S<(J:Rat)*f j:=by
  intro j hj;rcases lt_or_le (S) ((J:Rat)*f j) with h1|h1
  ·exact h1
  ·exact absurd ⟨j,hj,h1⟩ hn
 have h1:sm J (fun _=>S)≤sm J (fun j=>(J:Rat)*f j):=Bj (fun j hj=>Rat.le_of_lt (hall j hj));have h2:sm J (fun _=>S)<sm J (fun j=>(J:Rat)*f j):=by
  obtain ⟨J',rfl⟩:∃ J',J=J'+1:=⟨J-1,by omega⟩;simp only [sm];have a1:=hall J' (by omega);have a2:sm J' (fun _=>S)≤sm J' (fun j=>((J'+1:Nat):Rat)*f j):=Bj (fun j hj=>Rat.le_of_lt (hall j (by omega)));grind
 rw [yt,sm_mul] at h2;have h3:=Rat.mul_le_mul_of_nonneg_left h (c:=(J:Rat)) (by exact Rat.natCast_nonneg);grind
def seq(c:List Rat)(n:Nat):Rat:=c.getD n 0
def cv(s u:Nat→Rat)(n:Nat):Rat:=sm (n+1) (fun i=>s i*u (n-i))
theorem cf(s u:Nat→Rat):cv s u=cv u s:=by
 funext n
 unfold cv;rw [mj];exact sm_congr (fun i hi=>by rw [show n-(n+1-1-i)=i by omega,show n+1-1-i=n-i by omega];grind)
theorem CK(t u:Nat→Rat):cv (sh t) u=sh (cv t u):=by
 funext n
 cases n with
 | zero=>simp only [cv,sm,sh];grind
 | succ n =>
  simp only [sh];unfold cv;rw [ct];simp only [sh];rw [sm_congr (f:=fun i=>t i*u (n+1-(i+1))) (g:=fun i=>t i*u (n-i)) (fun i hi=>by rw [show n+1-(i+1)=n-i by omega])];grind
theorem ij(s t u:Nat→Rat):cv (fun n=>s n+t n) u=fun n=>cv s u n+cv t u n:=by
 funext n
 unfold cv;rw [←sm_add];exact sm_congr (fun i _=>by grind)
theorem dZ(c:Rat)(s u:Nat→Rat):cv (fun n=>c*s n) u=fun n=>c*cv s u n:=by
 funext n
 unfold cv;rw [←sm_mul];exact sm_congr (fun i _=>by grind)
theorem Gi(p:List Rat)(s u:Nat→Rat):cv (ap p s) u=ap p (cv s u):=by
 induction p with
 | nil=>funext n;unfold cv ap;rw [sm_congr (g:=fun _=>0) (fun i _=>by grind),sm_zero]
 | cons a l ih=>simp only [ap];rw [ij,dZ,CK,ih]
theorem yv(a:Rat)(l:List Rat):seq (a :: l)=fun n=>a*(if n=0 then 1 else 0)+sh (seq l) n:=by
 funext n
 cases n with
 | zero=>simp only [seq,sh,List.getD_cons_zero,if_true];grind
 | succ n=>simp only [seq,sh,List.getD_cons_succ,if_neg (Nat.succ_ne_zero n)];grind
theorem wK(u:Nat→Rat):cv (fun n=>if n=0 then 1 else 0) u=u:=by
 funext n
 unfold cv;rw [ct,sm_congr (f:=fun i=>(if i+1=0 then 1 else 0)*u (n-(i+1))) (g:=fun _=>0) (fun i _=>by rw [if_neg (Nat.succ_ne_zero i)];grind),sm_zero];simp only [if_true,Nat.sub_zero];grind
theorem cK(p:List Rat)(u:Nat→Rat):ap p u=cv (seq p) u:=by
 induction p with
 | nil=>funext n;unfold cv ap;rw [sm_congr (g:=fun _=>0) (fun i _=>by simp only [seq,List.getD_nil];grind),sm_zero]
 | cons a l ih=>rw [yv,ij,dZ,CK,wK,←ih];rfl
theorem ap_swap(p q:List Rat):ap p (seq q)=ap q (seq p):=by rw [cK,cK,cf]
theorem getD_app{a b:List Rat}{i:Nat}(h:i<a.length):(a++b).getD i 0=a.getD i 0:=by
 rw [nXc,nXc,List.getElem?_append_left h]
theorem getD_appr{a b:List Rat}{i:Nat}(h:a.length≤i):(a++b).getD i 0=b.getD (i-a.length) 0:=by
 rw [nXc,nXc,List.getElem?_append_right h]
theorem AZ{c:List Rat}{k:Rat}{i:Nat}(h:i≤c.length):(up c k).getD i 0=(c++[0]).getD i 0+k*(0 :: c.reverse).getD i 0:=by
 unfold up FB FA;simp only [nXc,List.getElem?_zipWith,nXu];rw [List.getElem?_eq_getElem (l:=c++[0]) (by simp;omega),List.getElem?_eq_getElem (l:=0 :: c.reverse) (by simp;omega)];rfl
theorem getD_ext{a b:List Rat}(hl:a.length=b.length)(h:∀ i,i<a.length→a.getD i 0=b.getD i 0):a=b:=by
 apply List.ext_getElem hl;intro i h1 h2;have:=h i h1;simpa [nXc,List.getElem?_eq_getElem h1,List.getElem?_eq_getElem h2] using this
theorem yA{c:List Rat}{m i:Nat}(hc:c.length=m+1)(hi:i≤m+1):(0 :: c.reverse).getD i 0=c.getD (m+1-i) 0:=by
 cases i with
 | zero=>rw [List.getD_cons_zero,nXc,List.getElem?_eq_none (by omega)];rfl
 | succ j =>
  rw [List.getD_cons_succ,nXc,nXc,List.getElem?_reverse (by omega),hc]
  congr 2
  omega
theorem snoc0_getD(c:List Rat)(i:Nat):(c++[0]).getD i 0=c.getD i 0:=by
 rcases Nat.lt_or_ge i c.length with h|h
 ·exact getD_app h
 ·rw [getD_appr h,nXc,nXc,List.getElem?_eq_none (l:=c) h];cases h':i-c.length <;> simp
theorem up_at{c:List Rat}{k:Rat}{m i:Nat}(hc:c.length=m+1)(hi:i≤m+1):(up c k).getD i 0=c.getD i 0+k*c.getD (m+1-i) 0:=by
 rw [AZ (by omega),snoc0_getD,yA hc hi]
def ups(k:List Rat):List Rat:=k.foldl up [1]
theorem ups_snoc(k:List Rat)(r:Rat):ups (k++[r])=up (ups k) r:=by simp [ups]
theorem snoc_ind{P:List Rat→Prop}(h0:P [])(h1:∀ l r,P l→P (l++[r]))(l:List Rat):P l:=by
 have:∀ l:List Rat,P l.reverse:=by
  intro l;induction l with
  | nil=>exact h0
  | cons a l ih=>rw [List.reverse_cons];exact h1 _ _ ih
 have:=this l.reverse
 rwa [List.reverse_reverse] at this
theorem ups_length(k:List Rat):(ups k).length=k.length+1:=by
 induction k using snoc_ind with
 | h0=>rfl
 | h1 l r ih=>rw [ups_snoc,up_length,ih];simp
theorem qG(k:List Rat):(ups k).getD 0 0=1:=by
 induction k using snoc_ind with
 | h0=>rfl
 | h1 l r ih =>
  rw [ups_snoc,up_at (ups_length l) (by omega),ih,nXc,List.getElem?_eq_none (by rw [ups_length];omega)];show 1+r*0=1;grind
end Go.Stab
namespace Go.Proofs.YtohahgiidooijaaGreat
open Go.RowKit Go.Front Go.Num
attribute [local go_sem] XW.cell XW.frozen
theorem Sz.abs{k:Nat}{q:Rat}(h:Sz k q):Sz k q.abs:=by
 unfold Rat.abs;split
 ·exact h
 ·exact h.neg
theorem bp.szk{w:World}{s:RH}{q:Rat}(h:bp w s q):Sz 134217728 q:=by
 have h1:=h;obtain ⟨_,_,_,_,_,h2,h3⟩:=h1;exact h.sz (by decide) h2 h3
theorem RAt.lt{w:World}{b o:Nat}{r:RH}(h:RAt w b o r):b<w.heap.size:=nXp _ _ h.1
def RF(x:SH×Int):Value:=.tuple #[x.1.v,.int .i64 x.2]
theorem eU(l:List Rat):tz (l++[0])=tz l:=by simp [tz]
theorem fM(l:List Rat){r:Rat}(h:r≠0):tz (l++[r])=l++[r]:=by simp [tz,h]
theorem gg(l:List Rat):tz l=l.take (tz l).length:=by
 induction l using Stab.snoc_ind with
 | h0=>rfl
 | h1 l r ih =>
  by_cases h:r=0
  ·subst h;rw [eU,List.take_append_of_le_length (af l)];exact ih
  ·rw [fM l h,List.take_length]
theorem pr{l:List Rat}{i:Nat}(h:i<(tz l).length):(tz l).getD i 0=l.getD i 0:=by
 rw [gg l];simp [h]
theorem iN{l:List Rat}{i:Nat}(h:(tz l).length≤i):l.getD i 0=0:=by
 induction l using Stab.snoc_ind with
 | h0=>rfl
 | h1 l r ih =>
  by_cases hr:r=0
  ·subst hr;rw [eU] at h;rw [Stab.snoc0_getD];exact ih h
  ·rw [fM l hr] at h;rw [nXc,List.getElem?_eq_none h];rfl
theorem ax(l:List Rat)(i:Nat):(tz l).getD i 0=l.getD i 0:=by
 rcases Nat.lt_or_ge i (tz l).length with h|h
 ·exact pr h
 ·rw [iN h,nXc,List.getElem?_eq_none h];rfl
theorem SzL.tz{k:Nat}{qs:List Rat}(h:SzL k qs):SzL k (tz qs):=by
 rw [gg];exact fun q hq=>h q (List.mem_of_mem_take hq)
def upV(k:List Rat):Int×List Rat:=if 48<k.length then (12,[]) else if ∀ r ∈ k,-1<r∧r<1 then (0,tz (Stab.ups k)) else (14,[])
def F9(k:List Rat):Prop:=SzL 8388608 k∧∀ j,j≤k.length→SzL 8388608 (Stab.ups (k.take j))
def ji(w:World)(p:Nat×RH)(q:Rat):Prop:=RBk w p.1 [p.2] #[]∧ay w p.2 q
theorem ji.ext{w w':World}{p:Nat×RH}{q:Rat}(h:ji w p q)(he:Ext w w'):ji w' p q:=⟨h.1.ext he,h.2.ext he⟩
instance {w w':World} {p:Nat×RH} {q:Rat}:Go.Front.Mv w w' (ji w p q) (ji w' p q):=⟨fun e h=>ji.ext h e⟩

theorem mi{P:Program}{o:Oper}{a:Act}{w:World}{T:TypeId}(x:RH)(q:Rat)(hx:ay w x q)(hT:T=30)
 (hrun:(execOp a.eval o).run P w=.ok (.value (.slice (some ⟨w.heap.size,0,none⟩) 1 1)) (w.alloc (.cells #[.bool x.neg,.slice x.a x.n x.c,.slice x.b x.m x.d] T))) :
  dX P o a w (fun p:Nat×RH=>.slice (some ⟨p.1,0,none⟩) 1 1) (fun p w'=>ji w' p q):=by
 subst hT;unfold dX;rw [hrun];exact ⟨Ext.alloc _ _,(w.heap.size,x),rfl,uD (heap_alloc_new _ _) rfl,hx.ext (Ext.alloc _ _)⟩
theorem xT{c:List Rat}{j:Nat}(r:Rat)(hc:c.length=j+1):(List.range (j+2)).map (fun i=>(c++[0]).getD i 0+r*(c++[0]).getD (j+1-i) 0)=Stab.up c r:=by
 apply Stab.getD_ext
 ·rw [Stab.up_length];simp [hc]
 ·intro i hi;simp only [nXk,nXs] at hi;rw [Stab.up_at hc (by omega),nXc,nXu,List.getElem?_range hi];simp only [Option.map_some,Option.getD_some];rw [Stab.snoc0_getD,Stab.snoc0_getD]
theorem xP{k:List Rat}{j:Nat}(hj:j<k.length):Stab.ups (k.take (j+1))=Stab.up (Stab.ups (k.take j)) (k.getD j 0):=by
 rw [←cQ hj,Stab.ups_snoc]
theorem Sz.one:Sz 1 1:=Sz.int (z:=1) (by decide)
end Go.Proofs.YtohahgiidooijaaGreat
namespace Go.Proofs.YtohahgiidooijaaGreat
open Go.RowKit Go.Front Go.Num
theorem Sz.zero{k:Nat}(hk:1≤k):Sz k 0:=(Sz.int (z:=0) (by decide)).mono hk
theorem SzL.getD{s:Nat}{c:List Rat}(h:SzL s c)(hs:1≤s)(i:Nat):Sz s (c.getD i 0):=by
 rcases Nat.lt_or_ge i c.length with hi|hi
 ·exact h.at hi
 ·rw [nXc,List.getElem?_eq_none hi];exact Sz.zero hs
def grow:Nat→Nat→Nat
 | 0,s=>s
 | m+1,s=>grow m (5*s+3)
theorem Ce(m s:Nat):s≤grow m s:=by
 induction m generalizing s with
 | zero=>exact nXd _
 | succ m ih=>exact nXe (by omega) (ih (5*s+3))
theorem Ee{m n s:Nat}(h:m≤n):grow m s≤grow n s:=by
  induction n generalizing m s with
  | zero => obtain rfl : m = 0 := by omega
            exact nXd _
  | succ n ih =>
    cases m with
    | zero=>exact Ce (n+1) s
    | succ m=>exact ih (m:=m) (s:=5*s+3) (by omega)
def upg:Nat→Nat
 | 0=>1
 | j+1=>2*upg j+2
theorem tC(j:Nat):1≤upg j:=by cases j <;> simp [upg]
theorem xQ{i j:Nat}(h:i≤j):upg i≤upg j:=by
  induction j with
  | zero => obtain rfl : i = 0 := by omega
            exact nXd _
  | succ j ih =>
    rcases Nat.lt_or_ge i (j+1) with h1|h1
    · exact nXe (ih (by omega)) (by simp [upg];omega)
    · obtain rfl:i=j+1:=by omega
      exact nXd _
theorem Dd(k:List Rat)(h:SzL 1 k):SzL (upg k.length) (Stab.ups k):=by
 induction k using Stab.snoc_ind with
 | h0 =>
  intro q hq;obtain rfl:q=1:=by simpa [Stab.ups] using hq
  exact Sz.one
 | h1 l r ih =>
  have ih':=ih (fun x hx=>h x (by simp [hx]));rw [Stab.ups_snoc,nXh,List.length_singleton];intro q hq;obtain ⟨i,hi,rfl⟩:=List.mem_iff_getElem.1 hq;rw [Stab.up_length,Stab.ups_length] at hi;have e:=Stab.up_at (c:=Stab.ups l) (k:=r) (i:=i) (Stab.ups_length l) (by omega);rw [nXc,List.getElem?_eq_getElem (by rw [Stab.up_length,Stab.ups_length];omega)] at e;simp only [Option.getD_some] at e;rw [e];exact ((ih'.getD (tC _) i).add ((h r (by simp)).mul (ih'.getD (tC _) _))).mono (by simp [upg];omega)
theorem Gb{k:List Rat}(h:SzL 1 k)(hl:k.length≤5):F9 k:=by
 refine ⟨h.mono (by decide),fun j hj=>?_⟩;have h1:=Dd (k.take j) (fun q hq=>h q (List.mem_of_mem_take hq));refine h1.mono (nXe (xQ (j:=5) ?_) (by decide));rw [nXj];omega
theorem av(l:List Rat):tz (tz l)=tz l:=by
 induction l using Stab.snoc_ind with
 | h0=>rfl
 | h1 l r ih =>
  by_cases h:r=0
  ·subst h;rw [eU];exact ih
  ·rw [fM l h,fM l h]
theorem Dg{k:List Rat}(h:∀ r ∈ k,-1<r∧r<1)(hl:k.length≤48):upV k=(0,tz (Stab.ups k)):=by
 unfold upV;rw [if_neg (by omega),if_pos h]
end Go.Proofs.YtohahgiidooijaaGreat
namespace Go.Proofs.YtohahgiidooijaaGreat
open Go.RowKit Go.Front Go.Num
attribute [local go_sem] XW.cell XW.frozen
theorem mB{w:World}{N:Nat}{x:RH}{p:Rat}(h:w.heap[N]?=some (.cells #[.bool x.neg,.slice x.a x.n x.c,.slice x.b x.m x.d] 30 (0,0)))(hx:ay w x p):aJ w ⟨some ⟨N,0,none⟩,1,1⟩ [p] :=
 ⟨[x],RBk.rs (rs:=[x]) (re:=#[]) h rfl (nXd _) (by decide),(fY.nil _ _).snoc hx⟩
theorem o6{w:World}{N:Nat}{x y:RH}{p q:Rat}(h:w.heap[N]?=some (.cells #[.bool x.neg,.slice x.a x.n x.c,.slice x.b x.m x.d,.bool y.neg,.slice y.a y.n y.c,.slice y.b y.m y.d] 30 (0,0)))(hx:ay w x p)(hy:ay w y q):aJ w ⟨some ⟨N,0,none⟩,2,2⟩ [p,q] :=
 ⟨[x,y],RBk.rs (rs:=[x,y]) (re:=#[]) h rfl (nXd _) (by decide),((fY.nil _ _).snoc hx).snoc hy⟩
theorem EW{w:World}{N:Nat}{x y z:RH}{p q r:Rat}(h:w.heap[N]?=some (.cells #[.bool x.neg,.slice x.a x.n x.c,.slice x.b x.m x.d,.bool y.neg,.slice y.a y.n y.c,.slice y.b y.m y.d,.bool z.neg,.slice z.a z.n z.c,.slice z.b z.m z.d] 30 (0,0)))(hx:ay w x p)(hy:ay w y q)(hz:ay w z r):aJ w ⟨some ⟨N,0,none⟩,3,3⟩ [p,q,r] :=
 ⟨[x,y,z],RBk.rs (rs:=[x,y,z]) (re:=#[]) h rfl (nXd _) (by decide),(((fY.nil _ _).snoc hx).snoc hy).snoc hz⟩
def fr(a b:Int):Rat:=(a:Rat) / (b:Rat)
theorem szB{qs:List Rat}(h:qs.all (fun q=>decide (q.num.natAbs<W32) && decide (q.den<W32))=true):SzL 1 qs:=by
 intro q hq;have:=List.all_eq_true.1 h q hq;simp only [Bool.and_eq_true,decide_eq_true_eq] at this;exact ⟨by rw [Nat.pow_one];exact this.1,by rw [Nat.pow_one];exact this.2⟩
def gX(n:Int):Rat:=((n % 15-7:Int):Rat) / ((8:Int):Rat)
theorem ze(ao:Option Addr)(cap most:Nat)(xs:List Int)(w:World)(h:cx w ao xs)(hr:InR xs)(hl:xs.length≤9223372036854775807)(hmo:most≤1073741824)(hc:xs.length≤cap)(hcm:cap≤9223372036854775807) :
  au 51 [.slice ao xs.length cap,.int .i64 (most:Nat)] w SH.v (fun s w'=>bj w.heap.size w' s ((xs.take most).map gX)):=by
 have HX:=Hi (Ext.refl w);by_cases hgt:most<xs.length
 ·obtain ⟨ys,hys⟩:∃ ys,ys=xs.take most:=⟨_,rfl⟩;have HY:=Hi hys;have H:Hid (cx w ao ys):=Hi (by rw [hys];exact cx.take h _);have HR:Hid (InR ys):=Hi (by rw [hys];exact hr.take _);have Hn:Hid (ys.length=most):=Hi (by rw [hys,nXj];omega);obtain ⟨n,hn⟩:∃ n,n=xs.length:=⟨_,rfl⟩;rw [←hn] at hl hc hgt ⊢;clear h hr hn hys;unfold au;go_enter Tryz.func51,Tryz.ntmps51;go_wp2
  go_loopg [5,17] most (fun g v i wr=>∃ j:Nat,j+g=most∧i=.int .i64 (j:Nat)∧Ext w wr∧dB wr (w.heap.size≤·) v ((ys.take j).map gX))
  case atStart=>exact ⟨0,by omega,rfl,HX.out,dB.nil _ _⟩
  case round =>
   obtain ⟨j,hj,rfl,g1,g2⟩:=hrel;obtain ⟨s,rfl⟩:=g2.sh;clear HX;have HX:=Hi g1;have HO:=Hi g2;have hsz:=g1.size;clear g1 g2;by_cases h0:gk=0
   ·subst h0;obtain rfl:j=most:=by omega
    go_wp2
    go_ret
    refine ⟨s,rfl,HX.out,?_⟩;have:=HO.out.lin;rw [nXl (by rw [Hn.out];exact nXd _),HY.out] at this;exact this
   ·obtain ⟨b,off,hao,hc1⟩:=(H.out.ext HX.out).at (k:=j) (by rw [Hn.out];omega);subst hao;have hx:=HR.out _ (lw (xs:=ys) (k:=j) (by rw [Hn.out];omega));obtain ⟨x,hxe⟩:∃ x,x=ys.getD j 0:=⟨_,rfl⟩;rw [←hxe] at hc1 hx;have Hxe:=Hi hxe;have hbl:b<wr.heap.size:=nXp _ _ hc1;clear hxe;have h1:=Int.emod_nonneg x (show (15:Int)≠0 by decide);have h2:=Int.emod_lt_of_pos x (show (0:Int)<15 by decide);obtain ⟨a,ha⟩:∃ a,a=x % 15:=⟨_,rfl⟩;rw [←ha] at h1 h2;have HA:=Hi ha;clear ha;have hjn:(j:Int)<most:=by omega
    go_wp2_with fail
    refine cM (m9 x 15 _ hx.1 hx.2 (by decide) (by decide)) fun x1 w1 hE _=>?_
    refine mV2 hE ?_ HX HO;clear HX HO;intro HX HO;have hs_w1:=hE.size;clear hE;rw [←HA.out]
    go_wp2_with fail
    refine cM (cZ (a-7) 8 _ (by omega) (by omega) (by decide) (by decide)) fun x2 w2 hE G2=>?_
    refine mV2 hE ?_ HX HO;clear HX HO;intro HX HO;have hs_w2:=hE.size;clear hE;have G3:Hid (ay w2 x2 (gX x)):=Hi (by unfold gX;rw [←HA.out];exact G2.out)
    go_wp2_with (at_builtin;refine bG rfl (.tmp 21) (.tmp 26) 22 Tryz.underlying22 rfl (w.heap.size≤·) _ _ x2 _ rfl HO.out rfl G3.out (by simp;omega) (fun k hk=>by omega) ?_;intro s' y3 q1 q2 q3)
    have HX3:=Hi (Ext.mods HX.out q2 (fun k h=>h));have HO3:Hid (dB y3 (w.heap.size≤·) s'.v ((ys.take (j+1)).map gX)):=Hi (by
     rw [←ni gX (by rw [Hn.out];omega),←Hxe.out];exact q1)
    clear q1 q2 q3;go_wp2
    go_roundg (gk-1)
    case measure=>omega
    case rel=>exact ⟨j+1,by omega,by go_num,HX3.out,HO3.out⟩
 ·obtain ⟨ys,hys⟩:∃ ys,ys=xs:=⟨_,rfl⟩;have HY:Hid (ys=xs.take most):=Hi (by rw [hys,nXl (by omega)]);have H:Hid (cx w ao ys):=Hi (by rw [hys];exact h);have HR:Hid (InR ys):=Hi (by rw [hys];exact hr);obtain ⟨n,hn⟩:∃ n,n=xs.length:=⟨_,rfl⟩;have Hn:Hid (ys.length=n):=Hi (by rw [hys,hn]);rw [←hn] at hl hc hgt ⊢;clear h hr hn hys;unfold au;go_enter Tryz.func51,Tryz.ntmps51;go_wp2
  go_loopg [5,17] n (fun g v i wr=>∃ j:Nat,j+g=n∧i=.int .i64 (j:Nat)∧Ext w wr∧dB wr (w.heap.size≤·) v ((ys.take j).map gX))
  case atStart=>exact ⟨0,by omega,rfl,HX.out,dB.nil _ _⟩
  case round =>
   obtain ⟨j,hj,rfl,g1,g2⟩:=hrel;obtain ⟨s,rfl⟩:=g2.sh;clear HX;have HX:=Hi g1;have HO:=Hi g2;have hsz:=g1.size;clear g1 g2;by_cases h0:gk=0
   ·subst h0;obtain rfl:j=n:=by omega
    go_wp2
    go_ret
    refine ⟨s,rfl,HX.out,?_⟩;have:=HO.out.lin;rw [nXl (by rw [Hn.out];exact nXd _),HY.out] at this;exact this
   ·obtain ⟨b,off,hao,hc1⟩:=(H.out.ext HX.out).at (k:=j) (by rw [Hn.out];omega);subst hao;have hx:=HR.out _ (lw (xs:=ys) (k:=j) (by rw [Hn.out];omega));obtain ⟨x,hxe⟩:∃ x,x=ys.getD j 0:=⟨_,rfl⟩;rw [←hxe] at hc1 hx;have Hxe:=Hi hxe;have hbl:b<wr.heap.size:=nXp _ _ hc1;clear hxe;have h1:=Int.emod_nonneg x (show (15:Int)≠0 by decide);have h2:=Int.emod_lt_of_pos x (show (0:Int)<15 by decide);obtain ⟨a,ha⟩:∃ a,a=x % 15:=⟨_,rfl⟩;rw [←ha] at h1 h2;have HA:=Hi ha;clear ha;have hjn:(j:Int)<n:=by omega
    go_wp2_with fail
    refine cM (m9 x 15 _ hx.1 hx.2 (by decide) (by decide)) fun x1 w1 hE _=>?_
    refine mV2 hE ?_ HX HO;clear HX HO;intro HX HO;have hs_w1:=hE.size;clear hE;rw [←HA.out]
    go_wp2_with fail
    refine cM (cZ (a-7) 8 _ (by omega) (by omega) (by decide) (by decide)) fun x2 w2 hE G2=>?_
    refine mV2 hE ?_ HX HO;clear HX HO;intro HX HO;have hs_w2:=hE.size;clear hE;have G3:Hid (ay w2 x2 (gX x)):=Hi (by unfold gX;rw [←HA.out];exact G2.out)
    go_wp2_with (at_builtin;refine bG rfl (.tmp 21) (.tmp 26) 22 Tryz.underlying22 rfl (w.heap.size≤·) _ _ x2 _ rfl HO.out rfl G3.out (by simp;omega) (fun k hk=>by omega) ?_;intro s' y3 q1 q2 q3)
    have HX3:=Hi (Ext.mods HX.out q2 (fun k h=>h));have HO3:Hid (dB y3 (w.heap.size≤·) s'.v ((ys.take (j+1)).map gX)):=Hi (by
     rw [←ni gX (by rw [Hn.out];omega),←Hxe.out];exact q1)
    clear q1 q2 q3;go_wp2
    go_roundg (gk-1)
    case measure=>omega
    case rel=>exact ⟨j+1,by omega,by go_num,HX3.out,HO3.out⟩
end Go.Proofs.YtohahgiidooijaaGreat
