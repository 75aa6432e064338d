/- Make, Mk2, Poly1, Same, Rf5 -/
import Derived.Test.YtafgmcimcbhhjaaGreatQZM7
import Derived.Test.YtafgmcimcbhhjaaGreatQZM1
set_option linter.unusedVariables false
set_option maxRecDepth 4000
set_option maxHeartbeats 2000000
namespace Go.Proofs.YtafgmcimcbhhjaaGreat
open Go.RowKit Go.Front Go.Num
attribute [local go_sem] XW.cell XW.frozen
theorem qo(n m:Int)(hm:0<m):(if n.tmod m<0 then n.tmod m+m else n.tmod m)=n % m:=by
 rw [Int.tmod_eq_emod];have h1:=Int.emod_nonneg n (show m≠0 by omega);have h2:=Int.emod_lt_of_pos n hm;have h3:((m.natAbs:Nat):Int)=m:=by omega
 split
 ·split <;> omega
 ·rw [h3];split <;> omega
theorem qp(n m:Int)(hm:0<m):-m<n.tmod m∧n.tmod m<m:=by
 rw [Int.tmod_eq_emod];have h1:=Int.emod_nonneg n (show m≠0 by omega);have h2:=Int.emod_lt_of_pos n hm;have h3:((m.natAbs:Nat):Int)=m:=by omega
 split
 ·omega
 ·rw [h3];omega
theorem rK(n m:Int)(w:World)(hn:-9223372036854775808≤n)(hn2:n≤9223372036854775807)(hm:0<m)(hm2:m≤9223372036854775807) :
  ar 47 [.int .i64 n,.int .i64 m] w (fun _:Unit=>.int .i64 (n % m)) (fun _ _=>True):=by
 have He:=Hi (qo n m hm);obtain ⟨hb1,hb2⟩:=qp n m hm;have hm0:m≠0:=by omega
 unfold ar;go_enter Tryz.func47,Tryz.ntmps47;obtain ⟨r,hr⟩:∃ r,r=n.tmod m:=⟨_,rfl⟩;rw [←hr] at He hb1 hb2;by_cases h0:r<0
 ·rw [if_pos h0] at He;go_wp2
  go_ret
  exact ⟨(),aW (by rw [←hr];exact He.out),Ext.refl _,trivial⟩
 ·rw [if_neg h0] at He;go_wp2
  go_ret
  exact ⟨(),aW (by rw [←hr];exact He.out),Ext.refl _,trivial⟩
def tx(n:Int):Rat:=((n % 25-12:Int):Rat) / ((1+n.tdiv 25 % 8:Int):Rat)
theorem wJ(n:Int)(w:World)(hn:-9223372036854775808≤n)(hn2:n≤9223372036854775807):ar 123 [.int .i64 n] w RH.v (fun x w'=>aB w' x (tx n)):=by
 have HX:=Hi (Ext.refl w);have h1:=Int.emod_nonneg n (show (25:Int)≠0 by decide);have h2:=Int.emod_lt_of_pos n (show (0:Int)<25 by decide);have h3:=Int.emod_nonneg (n.tdiv 25) (show (8:Int)≠0 by decide);have h4:=Int.emod_lt_of_pos (n.tdiv 25) (show (0:Int)<8 by decide);have h5:-9223372036854775808≤n.tdiv 25∧n.tdiv 25≤9223372036854775807:=by
  have:=Int.tmod_def n 25;have:=qp n 25 (by decide);omega
 obtain ⟨a,ha⟩:∃ a,a=n % 25:=⟨_,rfl⟩;obtain ⟨b,hb⟩:∃ b,b=n.tdiv 25 % 8:=⟨_,rfl⟩;rw [←ha] at h1 h2;rw [←hb] at h3 h4;have HA:=Hi ha;have HB:=Hi hb;have H5:=Hi h5;clear ha hb h5;unfold ar;go_enter Tryz.func123,Tryz.ntmps123
 go_wp2_with fail
 refine nmA (F:=fun W=>Calls _ _ _ W _) ?_;intro w1 hE B2 hz_w1 hr_w1;replace HX:=hE.tr HX;have hs_w1:=hE.size;clear hE;replace b_B2:=bX3 B2
 change Calls _ _ _ _ _
 refine cM (rK n 25 _ hn hn2 (by decide) (by decide)) fun x2 w2 hE _=>?_
 refine mV2 hE ?_ B2 HX;clear B2 HX;intro B2 HX;have hs_w2:=hE.size;clear hE;replace b_B2:=bX3 B2;rw [←HA.out]
 go_wp2_with fail
 refine cM (rK (n.tdiv 25) 8 _ H5.out.1 H5.out.2 (by decide) (by decide)) fun x3 w3 hE _=>?_
 refine mV2 hE ?_ B2 HX;clear B2 HX;intro B2 HX;have hs_w3:=hE.size;clear hE;replace b_B2:=bX3 B2;rw [←HB.out]
 go_wp2_with fail
 refine cM (j7 (a-12) (1+b) _ (by omega) (by omega) (by omega) (by omega)) fun x4 w4 hE G4=>?_
 refine mV2 hE ?_ B2 HX;clear B2 HX;intro B2 HX;have hs_w4:=hE.size;clear hE;replace b_B2:=bX3 B2;have G5:Hid (aB w4 x4 (tx n)):=Hi (by unfold tx;rw [←HA.out,←HB.out];exact G4.out);clear G4;go_wp2;have hF:=((((Fin.start (L:=w.heap.size) HX.out (ai B2.out rfl)).set (by omega) (i:=0) (v:=.bool x4.neg) rfl).set (by omega) (i:=1) (v:=.slice x4.a x4.n x4.c) rfl).set (by omega) (i:=2) (v:=.slice x4.b x4.m x4.d) rfl);exact bodyPost_ret (v:=x4.v) (by simp [results,Tryz.results123,go_sem,ab B2.out]) rfl ⟨x4,rfl,hF.ext,G5.out.keep hF.keep⟩
theorem c9.take{w:World}{ao:Option Addr}{xs:List Int}(h:c9 w ao xs)(m:Nat):c9 w ao (xs.take m):=by
 rcases h with h|⟨b,off,h1,h2⟩
 ·left;rw [h];simp
 ·right
  refine ⟨b,off,h1,fun k hk=>?_⟩;simp only [nXj] at hk;rw [h2 k (by omega)];simp [show k<m by omega]
def InR(xs:List Int):Prop:=∀ x ∈ xs,-9223372036854775808≤x∧x≤9223372036854775807
theorem InR.take{xs:List Int}(h:InR xs)(m:Nat):InR (xs.take m):=fun x hx=>h x (List.mem_of_mem_take hx)
theorem r9{xs:List Int}{k:Nat}(h:k<xs.length):xs.getD k 0 ∈ xs:=by
 rw [show xs.getD k 0=xs[k] by simp [h]];exact List.getElem_mem h
theorem ur{xs:List Int}{j:Nat}(f:Int→Rat)(h:j<xs.length):(xs.take j).map f++[f (xs.getD j 0)]=(xs.take (j+1)).map f:=by
 rw [List.take_succ_eq_append_getElem h,List.map_append];simp [h]
theorem oo(ao:Option Addr)(cap:Nat)(xs:List Int)(w:World)(h:c9 w ao xs)(hr:InR xs)(hl:xs.length≤1073741824)(hc:xs.length≤cap)(hcm:cap≤9223372036854775807) :
  ar 58 [.slice ao xs.length cap] w SH.v (fun s w'=>cK w.heap.size w' s (xs.map tx)):=by
 have HX:=Hi (Ext.refl w);have H:=Hi h;have HR:=Hi hr;obtain ⟨n,hn⟩:∃ n,n=xs.length:=⟨_,rfl⟩;rw [←hn] at hl hc ⊢;have Hn:=Hi hn;clear h hr hn;unfold ar;go_enter Tryz.func58,Tryz.ntmps58;go_wp2
 go_loopg [3,8] n (fun g v i wr=>∃ j:Nat,j+g=n∧i=.int .i64 (j:Nat)∧Ext w wr∧dO wr (w.heap.size≤·) v ((xs.take j).map tx))
 case atStart=>exact ⟨0,by omega,rfl,HX.out,dO.nil _ _⟩
 case round =>
  obtain ⟨j,hj,rfl,g1,g2⟩:=hrel;obtain ⟨s,rfl⟩:=g2.sh;clear HX;have HX:=Hi g1;have HO:=Hi g2;have hsz:=g1.size;clear g1 g2;by_cases h0:gk=0
  ·subst h0;obtain rfl:j=n:=by omega
   go_wp2
   go_ret
   refine ⟨s,rfl,HX.out,?_⟩;have:=HO.out.lin
   rwa [nXl (by rw [Hn.out];exact nXd _)] at this
  ·obtain ⟨b,off,hao,hc1⟩:=(H.out.ext HX.out).at (k:=j) (by rw [←Hn.out];omega);subst hao;have hx:=HR.out _ (r9 (xs:=xs) (k:=j) (by rw [←Hn.out];omega));obtain ⟨x,hxe⟩:∃ x,x=xs.getD j 0:=⟨_,rfl⟩;rw [←hxe] at hc1 hx;have Hxe:=Hi hxe;have hbl:b<wr.heap.size:=nXp _ _ hc1;clear hxe;have hjn:(j:Int)<n:=by omega
   go_wp2_with fail
   refine cM (wJ x _ hx.1 hx.2) fun x1 w1 hE G1=>?_
   refine mV2 hE ?_ HX HO;clear HX HO;intro HX HO;have hs_w1:=hE.size;clear hE
   go_wp2_with (at_builtin;refine cz rfl (.tmp 12) (.tmp 15) 23 Tryz.underlying23 rfl (w.heap.size≤·) _ _ x1 _ rfl HO.out rfl G1.out (by simp;omega) (fun k hk=>by omega) ?_;intro s' y3 q1 q2 q3)
   have HX3:=Hi (Ext.mods HX.out q2 (fun k h=>h));have HO3:Hid (dO y3 (w.heap.size≤·) s'.v ((xs.take (j+1)).map tx)):=Hi (by
    rw [←ur tx (by rw [←Hn.out];omega),←Hxe.out];exact q1)
   clear q1 q2 q3;go_wp2
   go_roundg (gk-1)
   case measure=>omega
   case rel=>exact ⟨j+1,by omega,by go_num,HX3.out,HO3.out⟩
theorem iz(q:Rat):gi q 0=0↔q=0:=by
 unfold gi;constructor
 ·intro h;split at h
  ·cases h
  ·split at h
   ·assumption
   ·cases h
 ·rintro rfl;rw [if_neg Rat.lt_irrefl,if_pos rfl]
theorem ov(ao:Option Addr)(n cap:Nat)(qs:List Rat)(w:World)(h:cU w ⟨ao,n,cap⟩ qs) :
  ar 167 [.slice ao n cap] w (fun _:Unit=>.slice ao (tz qs).length cap) (fun _ _=>tz qs=qs.take (tz qs).length∧(tz qs).length≤n):=by
 have H:=Hi h;have hle:=h.le;have hmx:=h.max;have Hlen:=Hi h.len;simp only at hle hmx Hlen;clear h;unfold ar
 change Calls Tryz.prog _ #[.slice ao n cap] w _
 go_enter Tryz.func167,Tryz.ntmps167;go_wp2
 go_loopg [3] n (fun g nv wr=>nv=.int .i64 (g:Nat)∧g≤n∧tz qs=tz (qs.take g)∧Ext w wr)
 case atStart=>exact ⟨rfl,nXd _,by rw [nXl (by rw [Hlen.out];exact nXd _)],Ext.refl _⟩
 case round =>
  obtain ⟨rfl,hg,hs,hE⟩:=hrel;have Hs:=Hi hs;have HE:=Hi hE;clear hs hE;by_cases h0:gk=0
  ·subst h0;go_wp2
   go_ret
   have e:tz qs=[]:=by rw [Hs.out];rfl
   refine ⟨(),?_,HE.out,?_,?_⟩
   ·rw [e];simp
   ·rw [e];simp
   ·rw [e];simp
  ·obtain ⟨k,rfl⟩:∃ m,gk=m+1:=⟨gk-1,by omega⟩;obtain ⟨b,off,r,hao,⟨hc1,hc2,hc3⟩,hP⟩:=(H.out.ext HE.out).at (k:=k) (by omega);subst hao;have hbl:b<wr.heap.size:=nXp _ _ hc1;obtain ⟨rneg,ra,rn,rc,rb,rm,rd⟩:=r;simp only at hc1 hc2 hc3;have HP:=Hi hP;clear hP h0
   go_wp2_with fail
   refine Calls.mono (lR ⟨rneg,ra,rn,rc,rb,rm,rd⟩ _ _ HP.out) ?_;rintro e w1 ⟨x1,rfl,hE1,-⟩;replace HE:=Hi (HE.out.trans hE1);have HZ:=Hi (iz (qs.getD k 0));obtain ⟨c,hc⟩:∃ c,c=gi (qs.getD k 0) 0:=⟨_,rfl⟩;rw [←hc] at HZ ⊢;clear hc hE1 HP hc1 hc2 hc3 hbl;by_cases hz:c=0
   ·subst hz;have Hz0:=Hi (HZ.out.1 rfl);clear HZ;go_wp2
    go_roundg k
    case measure=>omega
    case rel=>exact ⟨by go_num,by omega,by rw [Hs.out,eT (by rw [Hlen.out];omega) Hz0.out],HE.out⟩
   ·have hzb:(c == 0)=false:=by simpa using hz
    have HF:Hid (tz qs=qs.take (k+1)):=Hi (by rw [Hs.out,mR (by rw [Hlen.out];omega) (fun h=>hz (HZ.out.2 h))]);clear HZ hz;go_wp2
    go_ret
    have e:(tz qs).length=k+1:=by rw [HF.out,nXj,Hlen.out];omega
    refine ⟨(),?_,HE.out,?_,?_⟩
    ·rw [e];rfl
    ·rw [e];exact HF.out
    ·omega
theorem dG{l:List Rat}{j:Nat}(h:j<l.length):l.take j++[l.getD j 0]=l.take (j+1):=by
 rw [List.take_succ_eq_append_getElem h];simp [h]
theorem ag(qs:List Rat):(tz qs).length≤qs.length:=by
 unfold tz;rw [List.length_reverse];have:=(List.dropWhile_sublist (l:=qs.reverse) (· == 0)).length_le;rw [List.length_reverse] at this;exact this
theorem gF(ao:Option Addr)(n cap:Nat)(qs:List Rat)(w:World)(h:cU w ⟨ao,n,cap⟩ qs)(hn:n≤1073741824) :
  ar 103 [.slice ao n cap] w SH.v (fun s w'=>cK w.heap.size w' s (tz qs)):=by
 obtain ⟨i0,hi0,hz0,hz1,hz2⟩:=info_parts jU;have H:=Hi h;have hle:=h.le;have hmx:=h.max;have Hlen:=Hi h.len;simp only at hle hmx Hlen;clear h;unfold ar
 change Calls Tryz.prog _ #[.slice ao n cap] w _
 go_enter Tryz.func103,Tryz.ntmps103
 go_wp2_with fail
 refine Calls.mono (ov _ _ _ _ _ H.out) ?_;rintro e w1 ⟨x1,rfl,hE1,h1,h2⟩;have HE:=Hi hE1;have HT:=Hi h1;clear hE1 h1;obtain ⟨m,hm⟩:∃ m,m=(tz qs).length:=⟨_,rfl⟩;rw [←hm] at h2 HT ⊢;have Hm:=Hi hm;clear hm
 go_wp2_with (refine aD rfl (.tmp 7) (.tmp 7) 24 rfl 34 i0 (RH.v default) 3 Tryz.underlying24 hi0 hz0 hz1 _ _ m rfl rfl (by simp) (by simp) (by rw [hz2];omega) (by omega) ?_;intro w2 hnew hE2)
 have hL:w.heap.size≤w1.heap.size:=HE.out.size;have HF:=Hi (d9.start (RBk.make rfl hnew));replace HE:=Hi (HE.out.trans hE2);clear hnew hE2;obtain ⟨L,hLe⟩:∃ L,L=w1.heap.size:=⟨_,rfl⟩;rw [←hLe] at hL HF ⊢;clear hLe;go_wp2
 go_loopg [11] m (fun g i wr=>∃ j:Nat,j+g=m∧i=.int .i64 (j:Nat)∧Ext w wr∧d9 wr L m ((tz qs).take j))
 case atStart=>exact ⟨0,by omega,rfl,HE.out,HF.out⟩
 case round =>
  obtain ⟨j,hj,rfl,g1,g2⟩:=hrel;clear HE HF;have HE:=Hi g1;have HF:=Hi g2;clear g1 g2;have hlf:((tz qs).take j).length=j:=by rw [nXj,←Hm.out];omega
  by_cases h0:gk=0
  ·subst h0;obtain rfl:j=m:=by omega
   go_wp2
   go_ret
   refine ⟨⟨some ⟨L,0,none⟩,j,j⟩,rfl,HE.out,?_⟩;have:=HF.out.new hL hlf (by omega)
   rwa [nXl (by rw [←Hm.out];exact nXd _)] at this
  ·obtain ⟨b,off,r,hao,⟨hc1,hc2,hc3⟩,hP⟩:=(H.out.ext HE.out).at (k:=j) (by omega);subst hao;obtain ⟨rneg,ra,rn,rc,rb,rm,rd⟩:=r;simp only at hc1 hc2 hc3;have HP:=Hi hP;clear hP
   go_wp2_with fail
   refine Calls.mono (lQ ⟨rneg,ra,rn,rc,rb,rm,rd⟩ _ _ HP.out) ?_;rintro e w3 ⟨x3,rfl,hE3,g3⟩;replace HE:=Hi (HE.out.trans hE3);replace HF:=Hi (HF.out.ext hE3);clear HP hc1 hc2 hc3 hE3;have G3:=Hi g3;clear g3;obtain ⟨r0,k1,k2,k3⟩:=HF.out.cells (by rw [hlf];omega);rw [hlf] at k1 k2 k3;have hfr:=HF.out.frozen;have hLl:=HF.out.lt;go_wp2;obtain ⟨_,rfl,T4⟩:=HF.out.put HE.out hL (by rw [hlf];omega) G3.out;rw [hlf] at T4;have e4:(tz qs).take j++[qs.getD j 0]=(tz qs).take (j+1):=by
    rw [←dG (l:=tz qs) (by rw [←Hm.out];omega),HT.out];simp [show j<m by omega]
   rw [e4] at T4
   go_roundg (gk-1)
   case measure=>omega
   case rel=>exact ⟨j+1,by omega,by go_num,T4.ext,T4.fill⟩
theorem mT{a b:List Rat}(hl:a.length=b.length)(h:a.take a.length=b.take a.length):a=b:=by
 rw [nXl (nXd _),nXl (by omega)] at h;exact h
theorem qt{a b:List Rat}{j:Nat}(h:a.take j=b.take j)(ha:j<a.length)(hb:j<b.length)(e:a.getD j 0=b.getD j 0):a.take (j+1)=b.take (j+1):=by
 rw [List.take_succ_eq_append_getElem ha,List.take_succ_eq_append_getElem hb,h];have e1:a[j]=b[j]:=by simpa [ha,hb] using e
 rw [e1]
theorem lN(s t:SH)(ps qs:List Rat)(w:World)(h:cj w s ps)(k:cj w t qs):ar 66 [s.v,t.v] w (fun _:Unit=>.bool (decide (ps=qs))) (fun _ _=>True):=by
 obtain ⟨ao,n,c⟩:=s;obtain ⟨bo,m,d⟩:=t;have H:=Hi h;have K:=Hi k;have h1:=h.len;have h2:=h.le;have h3:=h.max;have k1:=k.len;have k2:=k.le;have k3:=k.max;simp only at h1 h2 h3 k1 k2 k3;clear h k;have Hn:=Hi h1;have Km:=Hi k1;clear h1 k1;unfold ar
 change Calls Tryz.prog _ #[.slice ao n c,.slice bo m d] w _
 go_enter Tryz.func66,Tryz.ntmps66;by_cases hnm:n=m
 ·subst hnm;go_wp2
  go_loopg [5] n (fun g i wr=>∃ j:Nat,j+g=n∧i=.int .i64 (j:Nat)∧Ext w wr∧ps.take j=qs.take j)
  case atStart=>exact ⟨0,by omega,rfl,Ext.refl _,rfl⟩
  case round =>
   obtain ⟨j,hj,rfl,g1,g2⟩:=hrel;have HE:=Hi g1;have HT:=Hi g2;clear g1 g2;by_cases h0:gk=0
   ·subst h0;obtain rfl:j=n:=by omega
    go_wp2
    go_ret
    refine ⟨(),ey ?_,HE.out,trivial⟩;rw [decide_eq_true (mT (by rw [Hn.out,Km.out]) (by rw [Hn.out];exact HT.out))]
   ·obtain ⟨b,off,r,hao,⟨hc1,hc2,hc3⟩,hP⟩:=(H.out.ext HE.out).at (k:=j) (by omega);obtain ⟨b',off',r',hbo,⟨hd1,hd2,hd3⟩,hQ⟩:=(K.out.ext HE.out).at (k:=j) (by omega);subst hao hbo;obtain ⟨rneg,ra,rn,rc,rb,rm,rd⟩:=r;obtain ⟨sneg,sa,sn,sc,sb,sm,sd⟩:=r';simp only at hc1 hc2 hc3 hd1 hd2 hd3;have hbl:b<wr.heap.size:=nXp _ _ hc1;have hbl':b' < wr.heap.size:=nXp _ _ hd1;have HP:=Hi hP;have HQ:=Hi hQ;clear hP hQ;have hjn:(j:Int)<n:=by omega
    obtain ⟨u,hu⟩:∃ u,u=ps.getD j 0:=⟨_,rfl⟩;obtain ⟨v,hv⟩:∃ v,v=qs.getD j 0:=⟨_,rfl⟩;rw [←hu] at HP;rw [←hv] at HQ;have Hu:=Hi hu;have Hv:=Hi hv;clear hu hv;obtain ⟨B,hB⟩:∃ B,B=decide (u=v):=⟨_,rfl⟩;have HB:=Hi hB;clear hB
    go_upto_region 6 with fail
    refine wpG 10 (fun opIx=>match opIx with
     | 8=>.spec Unit () (fun _=>.bool B) (fun _ _=>True)
     | _=>.quiet) (fun _=>[]) fun w0 he0 hz0 hc0 hf0=>?_
    refine wps he0.out rfl rfl (fun w1 hW hG=>?_) fun x8=>?_
    ·exact spc [RH.v ⟨rneg,ra,rn,rc,rb,rm,rd⟩,RH.v ⟨sneg,sa,sn,sc,sb,sm,sd⟩] Tryz.func131 (HB.out ▸ pt ⟨rneg,ra,rn,rc,rb,rm,rd⟩ ⟨sneg,sa,sn,sc,sb,sm,sd⟩ _ _ _ (HP.out.ext hW) (HQ.out.ext hW))
    refine qZ ?_;refine am ?_;intro w2 hI;have hE:=he0.out.trans hI.ext;clear hI he0 hz0 hc0 hf0;replace HE:=hE.tr HE;have hs_w2:=hE.size;clear hE;simp only [pD];cases B
    ·have hne:¬ ps=qs:=fun e=>by
      have:=HB.out;rw [Hu.out,Hv.out,e] at this;simp at this
     go_wp2
     go_ret
     exact ⟨(),ey (decide_eq_false hne).symm,HE.out,trivial⟩
    ·have hpq:ps.getD j 0=qs.getD j 0:=by
      rw [←Hu.out,←Hv.out];exact of_decide_eq_true HB.out.symm
     have Hpq:=Hi hpq;clear hpq;go_wp2
     go_roundg (gk-1)
     case measure=>omega
     case rel=>exact ⟨j+1,by omega,by go_num,HE.out,qt HT.out (by rw [Hn.out];omega) (by rw [Km.out];omega) Hpq.out⟩
 ·go_wp2
  go_ret
  refine ⟨(),ey ?_,Ext.refl _,trivial⟩;have:¬ ps=qs:=by rintro rfl;exact hnm (Hn.out.symm.trans Km.out)
  rw [decide_eq_false this]
theorem fj(s t:SH)(ps qs:List Rat)(w:World)(h:cj w s ps)(k:cj w t qs):ar 17 [s.v,t.v] w (fun _:Unit=>.bool (decide (ps=qs))) (fun _ _=>True):=by
 obtain ⟨ao,n,c⟩:=s;obtain ⟨bo,m,d⟩:=t;have H:=Hi h;have K:=Hi k;clear h k;unfold ar
 change Calls Tryz.prog _ #[.slice ao n c,.slice bo m d] w _
 go_enter Tryz.func17,Tryz.ntmps17
 go_wp2_with fail
 refine Calls.mono (lN ⟨ao,n,c⟩ ⟨bo,m,d⟩ ps qs _ H.out K.out) ?_;rintro e w1 ⟨x1,rfl,hE1,-⟩;have HE:=Hi hE1;clear hE1;go_wp2
 go_ret
 exact ⟨(),rfl,HE.out,trivial⟩
theorem cU.cells'{w:World}{ao:Option Addr}{n c:Nat}{qs:List Rat}(h:cU w ⟨ao,n,c⟩ qs){k:Nat}(hk:k<n):∃ b off r,ao=some ⟨b,off,none⟩∧b<w.heap.size∧RAt w b (off+k*3) r∧aX w r (qs.getD k 0) :=
 let ⟨b,off,r,h1,h2,h3⟩:=h.at hk;⟨b,off,r,h1,nXp _ _ h2.1,h2,h3⟩
theorem aZ(ao:Option Addr)(n cap:Nat)(qs:List Rat)(w:World)(h:cU w ⟨ao,n,cap⟩ qs)(hn:n≤1073741824) :
  ar 57 [.slice ao n cap] w SH.v (fun s w'=>cK w.heap.size w' s (tz qs)):=by
 have H:=Hi h;have HX:=Hi (Ext.refl w);have hle:=h.le;have hmx:=h.max;have Hlen:=Hi h.len;simp only at hle hmx Hlen;clear h;unfold ar;go_enter Tryz.func57,Tryz.ntmps57;go_wp2
 go_loopg [3] n (fun g nv wr=>nv=.int .i64 (g:Nat)∧g≤n∧tz qs=tz (qs.take g)∧Ext w wr)
 case atStart=>exact ⟨rfl,nXd _,by rw [nXl (by rw [Hlen.out];exact nXd _)],Ext.refl _⟩
 case round =>
  obtain ⟨rfl,hg,hs,hE⟩:=hrel;clear HX;have Hs:=Hi hs;have HX:=Hi hE;have hsz:=hE.size;clear hs hE;by_cases h0:gk=0
  ·subst h0;have HT:Hid (tz qs=qs.take 0):=Hi (by rw [Hs.out];rfl);have HTl:Hid ((tz qs).length=0):=Hi (by rw [HT.out];rfl);go_wp2
   go_loopg [4,26] 0 (fun g v i wr=>∃ j:Nat,j+g=0∧i=.int .i64 (j:Nat)∧Ext w wr∧dO wr (w.heap.size≤·) v ((tz qs).take j))
   case atStart=>exact ⟨0,by omega,rfl,HX.out,dO.nil _ _⟩
   case round =>
    obtain ⟨j,hj,rfl,g1,g2⟩:=hrel;obtain ⟨s,rfl⟩:=g2.sh;clear HX;have HX:=Hi g1;have HO:=Hi g2;have hsz:=g1.size;clear g1 g2;by_cases h0:gk=0
    ·subst h0;obtain rfl:j=0:=by omega
     go_wp2
     go_ret
     refine ⟨s,rfl,HX.out,?_⟩;have:=HO.out.lin
     rwa [nXl (by rw [HTl.out];exact nXd _)] at this
    ·omega
  ·obtain ⟨k,rfl⟩:∃ m,gk=m+1:=⟨gk-1,by omega⟩;obtain ⟨b,off,r,hao,hbl,⟨hc1,hc2,hc3⟩,hP⟩:=(H.out.ext HX.out).cells' (k:=k) (by omega);obtain ⟨rneg,ra,rn,rc,rb,rm,rd⟩:=r;simp only at hc1 hc2 hc3;have HP:=Hi hP;clear hP h0;have Hao:=Hi hao;subst hao
   go_wp2_with fail
   refine cM (bK ⟨rneg,ra,rn,rc,rb,rm,rd⟩ _ _ HP.out) fun x1 w1 hE _=>?_
   replace HX:=hE.tr HX;have hs_w1:=hE.size;clear hE;have HZ:=Hi (iz (qs.getD k 0));obtain ⟨c,hc⟩:∃ c,c=gi (qs.getD k 0) 0:=⟨_,rfl⟩;rw [←hc] at HZ ⊢;clear hc HP hc1 hc2 hc3 hbl;by_cases hz:c=0
   ·subst hz;have Hz0:=Hi (HZ.out.1 rfl);clear HZ;go_wp2
    go_roundg k
    case measure=>omega
    case rel=>exact ⟨by go_num,by omega,by rw [Hs.out,eT (by rw [Hlen.out];omega) Hz0.out],HX.out⟩
   ·have hzb:(c == 0)=false:=by simpa using hz
    have HT:Hid (tz qs=qs.take (k+1)):=Hi (by rw [Hs.out,mR (by rw [Hlen.out];omega) (fun h=>hz (HZ.out.2 h))]);have HTl:Hid ((tz qs).length=k+1):=Hi (by rw [HT.out,nXj,Hlen.out];omega);clear HZ hz;go_wp2
    go_loopg [4,26] (k+1) (fun g v i wr=>∃ j:Nat,j+g=(k+1)∧i=.int .i64 (j:Nat)∧Ext w wr∧dO wr (w.heap.size≤·) v ((tz qs).take j))
    case atStart=>exact ⟨0,by omega,rfl,HX.out,dO.nil _ _⟩
    case round =>
     obtain ⟨j,hj,rfl,g1,g2⟩:=hrel;obtain ⟨s,rfl⟩:=g2.sh;clear HX;have HX:=Hi g1;have HO:=Hi g2;have hsz:=g1.size;clear g1 g2;by_cases h0:gk=0
     ·subst h0;obtain rfl:j=(k+1):=by omega
      go_wp2
      go_ret
      refine ⟨s,rfl,HX.out,?_⟩;have:=HO.out.lin
      rwa [nXl (by rw [HTl.out];exact nXd _)] at this
     ·obtain ⟨b',off',r,hao,hbl,⟨hc1,hc2,hc3⟩,hP⟩:=(H.out.ext HX.out).cells' (k:=j) (by omega);obtain ⟨rfl,rfl⟩:b=b'∧off=off':=by simpa using hao
      obtain ⟨rneg,ra,rn,rc,rb,rm,rd⟩:=r;simp only at hc1 hc2 hc3;have HP:=Hi hP;clear hP;have hjn:(j:Int)<(k+1):=by omega
      go_upto_region 8 with fail
      refine nmA ?_;intro w1 hE B6 hz_w1 hr_w1;refine mV3 hE ?_ HX HO HP;clear HX HO HP;intro HX HO HP;have hs_w1:=hE.size;clear hE;replace b_B6:=bX3 B6
      go_wp2_with fail
      refine cM (ct ⟨rneg,ra,rn,rc,rb,rm,rd⟩ (qs.getD j 0) _ HP.out) fun x2 w2 hE G2=>?_
      refine mV4 hE ?_ B6 HX HO HP;clear B6 HX HO HP;intro B6 HX HO HP;have hs_w2:=hE.size;clear hE;replace b_B6:=bX3 B6
      go_wp2_with (at_builtin;refine cz rfl (.tmp 30) (.tmp 33) 24 Tryz.underlying24 rfl (w.heap.size≤·) _ _ x2 _ rfl HO.out rfl G2.out (by simp;omega) (fun k hk=>by omega) ?_;intro s' y3 q1 q2 q3)
      have HX3:=Hi (Ext.mods HX.out q2 (fun k h=>h));have HO3:Hid (dO y3 (w.heap.size≤·) s'.v ((tz qs).take (j+1))):=Hi (by
       rw [←dG (l:=tz qs) (by rw [HTl.out];omega)];have e:(tz qs).getD j 0=qs.getD j 0:=by
        rw [HT.out];simp [show j<(k+1) by omega]
       rw [e];exact q1)
      clear q1 q2 q3;go_wp2
      go_roundg (gk-1)
      case measure=>omega
      case rel=>exact ⟨j+1,by omega,by go_num,HX3.out,HO3.out⟩
end Go.Proofs.YtafgmcimcbhhjaaGreat
/- Stab, StbP, Stb1, Stb2, Stb3 -/
namespace Go.Stab
def sm:Nat→(Nat→Rat)→Rat
 | 0,_=>0
 | n+1,f=>sm n f+f n
theorem sm_congr{n:Nat}{f g:Nat→Rat}(h:∀ i,i<n→f i=g i):sm n f=sm n g:=by
 induction n with
 | zero=>rfl
 | succ n ih=>simp only [sm];rw [ih (fun i hi=>h i (by omega)),h n (by omega)]
theorem fN(n:Nat)(f g:Nat→Rat):sm n (fun i=>f i+g i)=sm n f+sm n g:=by
 induction n with
 | zero=>simp only [sm];grind
 | succ n ih=>simp only [sm];rw [ih];grind
theorem sm_mul(n:Nat)(c:Rat)(f:Nat→Rat):sm n (fun i=>c*f i)=c*sm n f:=by
 induction n with
 | zero=>simp [sm]
 | succ n ih=>simp only [sm];rw [ih];grind
theorem sm_zero(n:Nat):sm n (fun _=>0)=0:=by
 induction n with
 | zero=>rfl
 | succ n ih=>simp only [sm];rw [ih];grind
theorem yH{n:Nat}{f g:Nat→Rat}(h:∀ i,i<n→f i≤g i):sm n f≤sm n g:=by
 induction n with
 | zero=>exact Rat.le_refl
 | succ n ih =>
  simp only [sm];have h1:=ih (fun i hi=>h i (by omega));have h2:=h n (by omega);grind
theorem ck(n:Nat)(f:Nat→Rat):sm (n+1) f=f 0+sm n (fun i=>f (i+1)):=by
 induction n with
 | zero=>simp [sm];grind
 | succ n ih=>rw [sm,ih];simp only [sm];grind
theorem sm_split(n m:Nat)(f:Nat→Rat):sm (n+m) f=sm n f+sm m (fun i=>f (n+i)):=by
 induction m with
 | zero=>simp [sm];grind
 | succ m ih=>rw [←Nat.add_assoc];simp only [sm];rw [ih];grind
theorem qD(n:Nat)(f:Nat→Rat):sm n f=sm n (fun i=>f (n-1-i)):=by
 induction n with
 | zero=>rfl
 | succ n ih =>
  rw [ck n (fun i=>f (n+1-1-i))];simp only [sm];rw [ih];have:sm n (fun i=>f (n+1-1-(i+1)))=sm n (fun i=>f (n-1-i)):=sm_congr (fun i hi=>by congr 1;omega);rw [this];simp only [Nat.add_sub_cancel,Nat.sub_zero];grind
theorem je(n m:Nat)(f:Nat→Nat→Rat):sm n (fun i=>sm m (fun j=>f i j))=sm m (fun j=>sm n (fun i=>f i j)):=by
 induction n with
 | zero=>simp only [sm];rw [sm_zero]
 | succ n ih=>simp only [sm];rw [ih,←fN]
def sh(u:Nat→Rat):Nat→Rat
 | 0=>0
 | n+1=>u n
def ap:List Rat→(Nat→Rat)→Nat→Rat
 | [],_=>fun _=>0
 | a :: l,u=>fun n=>a*u n+sh (ap l u) n
def E(n:Nat)(u:Nat→Rat):Rat:=sm n (fun i=>u i*u i)
theorem lH(x:Rat):0≤x*x:=by
 rcases Rat.le_total (a:=0) (b:=x) with h|h
 ·exact Rat.mul_nonneg h h
 ·have:=Rat.mul_nonneg (a:=-x) (b:=-x) (by grind) (by grind);grind
def AR(a b:List Rat):List Rat:=List.zipWith (·+·) a b
def AQ(c:Rat)(a:List Rat):List Rat:=a.map (c*·)
def up(c:List Rat)(k:Rat):List Rat:=AR (c++[0]) (AQ k (0 :: c.reverse))
def Inv(c:List Rat):Prop:=∃ C:Rat,0≤C∧∀ u N,E N u≤C*E N (ap c u)
def shn(i:Nat)(u:Nat→Rat)(n:Nat):Rat:=if i≤n then u (n-i) else 0
theorem tM(i:Nat)(u:Nat→Rat)(n:Nat):shn (i+1) u (n+1)=shn i u n:=by
 unfold shn;by_cases h:i≤n
 ·rw [if_pos h,if_pos (by omega)];congr 1;omega
 ·rw [if_neg h,if_neg (by omega)]
theorem ap_sum(c:List Rat)(u:Nat→Rat)(n:Nat):ap c u n=sm c.length (fun i=>c.getD i 0*shn i u n):=by
 induction c generalizing n with
 | nil=>rfl
 | cons a l ih =>
  simp only [ap,List.length_cons];rw [ck];have e0:shn 0 u n=u n:=by unfold shn;simp
  have e1:sh (ap l u) n=sm l.length (fun i=>(a :: l).getD (i+1) 0*shn (i+1) u n):=by
   cases n with
   | zero =>
    simp only [sh];rw [sm_congr (g:=fun _=>0) (fun i _=>by simp [shn]),sm_zero]
   | succ n =>
    simp only [sh];rw [ih];exact sm_congr (fun i _=>by rw [tM];simp)
  rw [e1,e0];simp
theorem qE(n m:Nat)(f g:Nat→Rat):sm n f*sm m g=sm n (fun i=>sm m (fun j=>f i*g j)):=by
 rw [show (fun i=>sm m (fun j=>f i*g j))=fun i=>sm m g*f i from funext fun i=>by rw [sm_mul];grind,sm_mul];grind
def G(L:Nat)(u:Nat→Rat)(i j:Nat):Rat:=sm L (fun n=>shn i u n*shn j u n)
theorem lt_or_le(a b:Rat):a<b∨b≤a:=by
 rcases Rat.le_total (a:=b) (b:=a) with h|h
 ·exact Or.inr h
 ·by_cases h1:a=b
  ·right;rw [h1];exact Rat.le_refl
  ·left;exact Rat.lt_of_le_of_ne h h1
theorem tL(n:Nat)(c:Rat):sm n (fun _=>c)=(n:Rat)*c:=by
 induction n with
 | zero=>simp only [sm];grind
 | succ n ih=>simp only [sm];rw [ih,Rat.natCast_add];grind
theorem vD{J:Nat}{f:Nat→Rat}{S:Rat}(hJ:1≤J)(h:sm J f≤S):∃ j,j<J∧(J:Rat)*f j≤S:=by
 apply Classical.byContradiction;intro hn;have hall:∀ j,j<J→S<(J:Rat)*f j:=by
  intro j hj;rcases lt_or_le (S) ((J:Rat)*f j) with h1|h1
  ·exact h1
  ·exact absurd ⟨j,hj,h1⟩ hn
 have h1:sm J (fun _=>S)≤sm J (fun j=>(J:Rat)*f j):=yH (fun j hj=>Rat.le_of_lt (hall j hj));have h2:sm J (fun _=>S)<sm J (fun j=>(J:Rat)*f j):=by
  obtain ⟨J',rfl⟩:∃ J',J=J'+1:=⟨J-1,by omega⟩;simp only [sm];have a1:=hall J' (by omega);have a2:sm J' (fun _=>S)≤sm J' (fun j=>((J'+1:Nat):Rat)*f j):=yH (fun j hj=>Rat.le_of_lt (hall j (by omega)));grind
 rw [tL,sm_mul] at h2;have h3:=Rat.mul_le_mul_of_nonneg_left h (c:=(J:Rat)) (by exact Rat.natCast_nonneg);grind
def seq(c:List Rat)(n:Nat):Rat:=c.getD n 0
def cv(s u:Nat→Rat)(n:Nat):Rat:=sm (n+1) (fun i=>s i*u (n-i))
theorem cq(s u:Nat→Rat):cv s u=cv u s:=by
 funext n
 unfold cv;rw [qD];exact sm_congr (fun i hi=>by rw [show n-(n+1-1-i)=i by omega,show n+1-1-i=n-i by omega];grind)
theorem xL(t u:Nat→Rat):cv (sh t) u=sh (cv t u):=by
 funext n
 cases n with
 | zero=>simp only [cv,sm,sh];grind
 | succ n =>
  simp only [sh];unfold cv;rw [ck];simp only [sh];rw [sm_congr (f:=fun i=>t i*u (n+1-(i+1))) (g:=fun i=>t i*u (n-i)) (fun i hi=>by rw [show n+1-(i+1)=n-i by omega])];grind
theorem jI(s t u:Nat→Rat):cv (fun n=>s n+t n) u=fun n=>cv s u n+cv t u n:=by
 funext n
 unfold cv;rw [←fN];exact sm_congr (fun i _=>by grind)
theorem fl(c:Rat)(s u:Nat→Rat):cv (fun n=>c*s n) u=fun n=>c*cv s u n:=by
 funext n
 unfold cv;rw [←sm_mul];exact sm_congr (fun i _=>by grind)
theorem AW(p:List Rat)(s u:Nat→Rat):cv (ap p s) u=ap p (cv s u):=by
 induction p with
 | nil=>funext n;unfold cv ap;rw [sm_congr (g:=fun _=>0) (fun i _=>by grind),sm_zero]
 | cons a l ih=>simp only [ap];rw [jI,fl,xL,ih]
theorem tO(a:Rat)(l:List Rat):seq (a :: l)=fun n=>a*(if n=0 then 1 else 0)+sh (seq l) n:=by
 funext n
 cases n with
 | zero=>simp only [seq,sh,List.getD_cons_zero,if_true];grind
 | succ n=>simp only [seq,sh,List.getD_cons_succ,if_neg (Nat.succ_ne_zero n)];grind
theorem sN(u:Nat→Rat):cv (fun n=>if n=0 then 1 else 0) u=u:=by
 funext n
 unfold cv;rw [ck,sm_congr (f:=fun i=>(if i+1=0 then 1 else 0)*u (n-(i+1))) (g:=fun _=>0) (fun i _=>by rw [if_neg (Nat.succ_ne_zero i)];grind),sm_zero];simp only [if_true,Nat.sub_zero];grind
theorem fo(p:List Rat)(u:Nat→Rat):ap p u=cv (seq p) u:=by
 induction p with
 | nil=>funext n;unfold cv ap;rw [sm_congr (g:=fun _=>0) (fun i _=>by simp only [seq,List.getD_nil];grind),sm_zero]
 | cons a l ih=>rw [tO,jI,fl,xL,sN,←ih];rfl
theorem uB{a b:List Rat}{i:Nat}(h:i<a.length):(a++b).getD i 0=a.getD i 0:=by
 rw [nXc,nXc,List.getElem?_append_left h]
theorem se{a b:List Rat}{i:Nat}(h:a.length≤i):(a++b).getD i 0=b.getD (i-a.length) 0:=by
 rw [nXc,nXc,List.getElem?_append_right h]
theorem getD_ext{a b:List Rat}(hl:a.length=b.length)(h:∀ i,i<a.length→a.getD i 0=b.getD i 0):a=b:=by
 apply List.ext_getElem hl;intro i h1 h2;have:=h i h1;simpa [nXc,List.getElem?_eq_getElem h1,List.getElem?_eq_getElem h2] using this
theorem snoc0_getD(c:List Rat)(i:Nat):(c++[0]).getD i 0=c.getD i 0:=by
 rcases Nat.lt_or_ge i c.length with h|h
 ·exact uB h
 ·rw [se h,nXc,nXc,List.getElem?_eq_none (l:=c) h];cases h':i-c.length <;> simp
theorem snoc_ind{P:List Rat→Prop}(h0:P [])(h1:∀ l r,P l→P (l++[r]))(l:List Rat):P l:=by
 have:∀ l:List Rat,P l.reverse:=by
  intro l;induction l with
  | nil=>exact h0
  | cons a l ih=>rw [List.reverse_cons];exact h1 _ _ ih
 have:=this l.reverse
 rwa [List.reverse_reverse] at this
end Go.Stab
namespace Go.Proofs.YtafgmcimcbhhjaaGreat
open Go.RowKit Go.Front Go.Num
attribute [local go_sem] XW.cell XW.frozen
theorem Sz.abs{k:Nat}{q:Rat}(h:Sz k q):Sz k q.abs:=by
 unfold Rat.abs;split
 ·exact h
 ·exact h.neg
theorem RAt.lt{w:World}{b o:Nat}{r:RH}(h:RAt w b o r):b<w.heap.size:=nXp _ _ h.1
def RF(x:SH×Int):Value:=.tuple #[x.1.v,.int .i64 x.2]
theorem dQ(l:List Rat):tz (l++[0])=tz l:=by simp [tz]
theorem eU(l:List Rat){r:Rat}(h:r≠0):tz (l++[r])=l++[r]:=by simp [tz,h]
theorem eV(l:List Rat):tz l=l.take (tz l).length:=by
 induction l using Stab.snoc_ind with
 | h0=>rfl
 | h1 l r ih =>
  by_cases h:r=0
  ·subst h;rw [dQ,List.take_append_of_le_length (ag l)];exact ih
  ·rw [eU l h,List.take_length]
theorem mS{l:List Rat}{i:Nat}(h:i<(tz l).length):(tz l).getD i 0=l.getD i 0:=by
 rw [eV l];simp [h]
theorem gt{l:List Rat}{i:Nat}(h:(tz l).length≤i):l.getD i 0=0:=by
 induction l using Stab.snoc_ind with
 | h0=>rfl
 | h1 l r ih =>
  by_cases hr:r=0
  ·subst hr;rw [dQ] at h;rw [Stab.snoc0_getD];exact ih h
  ·rw [eU l hr] at h;rw [nXc,List.getElem?_eq_none h];rfl
theorem aG(l:List Rat)(i:Nat):(tz l).getD i 0=l.getD i 0:=by
 rcases Nat.lt_or_ge i (tz l).length with h|h
 ·exact mS h
 ·rw [gt h,nXc,List.getElem?_eq_none h];rfl
theorem SzL.tz{k:Nat}{qs:List Rat}(h:SzL k qs):SzL k (tz qs):=by
 rw [eV];exact fun q hq=>h q (List.mem_of_mem_take hq)
def gV(w:World)(p:Nat×RH)(q:Rat):Prop:=RBk w p.1 [p.2] #[]∧aB w p.2 q
theorem gV.ext{w w':World}{p:Nat×RH}{q:Rat}(h:gV w p q)(he:Ext w w'):gV w' p q:=⟨h.1.ext he,h.2.ext he⟩
instance {w w':World} {p:Nat×RH} {q:Rat}:Go.Front.Mv w w' (gV w p q) (gV w' p q):=⟨fun e h=>gV.ext h e⟩

theorem j5{P:Program}{o:Oper}{a:Act}{w:World}{T:TypeId}(x:RH)(q:Rat)(hx:aB w x q)(hT:T=34)
 (hrun:(execOp a.eval o).run P w=.ok (.value (.slice (some ⟨w.heap.size,0,none⟩) 1 1)) (w.alloc (.cells #[.bool x.neg,.slice x.a x.n x.c,.slice x.b x.m x.d] T))) :
  fM P o a w (fun p:Nat×RH=>.slice (some ⟨p.1,0,none⟩) 1 1) (fun p w'=>gV w' p q):=by
 subst hT;unfold fM;rw [hrun];exact ⟨Ext.alloc _ _,(w.heap.size,x),rfl,na (heap_alloc_new _ _) rfl,hx.ext (Ext.alloc _ _)⟩
end Go.Proofs.YtafgmcimcbhhjaaGreat
namespace Go.Proofs.YtafgmcimcbhhjaaGreat
open Go.RowKit Go.Front Go.Num
theorem Sz.zero{k:Nat}(hk:1≤k):Sz k 0:=(Sz.int (z:=0) (by decide)).mono hk
theorem SzL.getD{s:Nat}{c:List Rat}(h:SzL s c)(hs:1≤s)(i:Nat):Sz s (c.getD i 0):=by
 rcases Nat.lt_or_ge i c.length with hi|hi
 ·exact h.at hi
 ·rw [nXc,List.getElem?_eq_none hi];exact Sz.zero hs
def grow:Nat→Nat→Nat
 | 0,s=>s
 | m+1,s=>grow m (5*s+3)
theorem aF(l:List Rat):tz (tz l)=tz l:=by
 induction l using Stab.snoc_ind with
 | h0=>rfl
 | h1 l r ih =>
  by_cases h:r=0
  ·subst h;rw [dQ];exact ih
  ·rw [eU l h,eU l h]
end Go.Proofs.YtafgmcimcbhhjaaGreat
namespace Go.Proofs.YtafgmcimcbhhjaaGreat
open Go.RowKit Go.Front Go.Num
attribute [local go_sem] XW.cell XW.frozen
theorem zO{w:World}{N:Nat}{x:RH}{p:Rat}(h:w.heap[N]?=some (.cells #[.bool x.neg,.slice x.a x.n x.c,.slice x.b x.m x.d] 34 (0,0)))(hx:aB w x p):cj w ⟨some ⟨N,0,none⟩,1,1⟩ [p] :=
 ⟨[x],RBk.rs (rs:=[x]) (re:=#[]) h rfl (nXd _) (by decide),(dk.nil _ _).snoc hx⟩
theorem o3{w:World}{N:Nat}{x y:RH}{p q:Rat}(h:w.heap[N]?=some (.cells #[.bool x.neg,.slice x.a x.n x.c,.slice x.b x.m x.d,.bool y.neg,.slice y.a y.n y.c,.slice y.b y.m y.d] 34 (0,0)))(hx:aB w x p)(hy:aB w y q):cj w ⟨some ⟨N,0,none⟩,2,2⟩ [p,q] :=
 ⟨[x,y],RBk.rs (rs:=[x,y]) (re:=#[]) h rfl (nXd _) (by decide),((dk.nil _ _).snoc hx).snoc hy⟩
theorem zN{w:World}{N:Nat}{x y z:RH}{p q r:Rat}(h:w.heap[N]?=some (.cells #[.bool x.neg,.slice x.a x.n x.c,.slice x.b x.m x.d,.bool y.neg,.slice y.a y.n y.c,.slice y.b y.m y.d,.bool z.neg,.slice z.a z.n z.c,.slice z.b z.m z.d] 34 (0,0)))(hx:aB w x p)(hy:aB w y q)(hz:aB w z r):cj w ⟨some ⟨N,0,none⟩,3,3⟩ [p,q,r] :=
 ⟨[x,y,z],RBk.rs (rs:=[x,y,z]) (re:=#[]) h rfl (nXd _) (by decide),(((dk.nil _ _).snoc hx).snoc hy).snoc hz⟩
theorem szB{qs:List Rat}(h:qs.all (fun q=>decide (q.num.natAbs<W32) && decide (q.den<W32))=true):SzL 1 qs:=by
 intro q hq;have:=List.all_eq_true.1 h q hq;simp only [Bool.and_eq_true,decide_eq_true_eq] at this;exact ⟨by rw [Nat.pow_one];exact this.1,by rw [Nat.pow_one];exact this.2⟩
end Go.Proofs.YtafgmcimcbhhjaaGreat
