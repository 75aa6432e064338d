/- Degree, Scale, Sub of the reference 05. -/
import Derived.Test.YtofhkmcllihgmaaGreatQUM11
import Derived.Test.YtofhkmcllihgmaaGreatQUM7
import Derived.Test.YtofhkmcllihgmaaGreatQUK10
import Derived.Test.YtofhkmcllihgmaaGreatQUK9
import Derived.Test.YtofhkmcllihgmaaGreatQUK8
set_option linter.unusedVariables false
set_option maxRecDepth 4000
set_option maxHeartbeats 1000000
namespace Go.Proofs.YtofhkmcllihgmaaGreat
open Go.RowKit Go.Front Go.Num
attribute [local go_sem] XW.cell XW.frozen
theorem ey(ao:Option Addr)(n cap:Nat)(qs:List Rat)(w:World)(h:dU w ⟨ao,n,cap⟩ qs)(hn:n≤1073741824) :
  au 95 [.slice ao n cap] w (fun _:Unit=>.int .i64 (((tz qs).length:Int)-1)) (fun _ _=>True):=by
 have H:=Hi h;have HX:=Hi (Ext.refl w);clear h;unfold au;go_enter Tryz.func95,Tryz.ntmps95
 go_wp2_with fail
 refine cM (aQ ao n cap qs _ H.out hn) fun x1 w1 hE G1=>?_
 replace HX:=hE.tr HX;have hs_w1:=hE.size;clear hE;obtain ⟨pa,P,pc⟩:=x1;simp only [SH.v];have hP:=G1.out.len;simp only at hP;have h1:=G1.out.can.le;have h2:=G1.out.can.max;simp only at h1 h2;have HV:Hid (((tz qs).length:Int)-1=(P:Int)-1):=Hi (by rw [hP]);clear hP;go_wp2
 go_ret
 exact ⟨(),by rw [HV.out];rfl,HX.out,trivial⟩
def bV(ps:List Rat)(c:Rat):List Rat:=tz (ps.map (·*c))
theorem aJ.blk'{D:Nat→Prop}{w w':World}(h:aJ D w w'){b:Nat}{o:Obj}(hb:¬ D b)(hv:w.heap[b]?=some o):w'.heap[b]?=some o:=by
 have hl:b<w.heap.size:=(Array.getElem?_eq_some_iff.1 hv).1;rw [h.block b hl hb];exact hv
theorem iI(ao:Option Addr)(n cap:Nat)(ps:List Rat)(t:RH)(c:Rat)(w:World)(h:dU w ⟨ao,n,cap⟩ ps)(ht:aO w t c)(hn:n≤1073741823)(hz:SzL 8388608 ps)(hzc:Sz 8388608 c) :
  au 70 [.slice ao n cap,t.v] w SH.v (fun s w'=>dA w.heap.size w' s (bV ps c)):=by
 obtain ⟨tn,ta,tl,tc,tb,tm,td⟩:=t;have H:=Hi h;have HR:=Hi ht;have HX:=Hi (Ext.refl w);have hle:=h.le;have hmx:=h.max;have Hlen:=Hi h.len;simp only at hle hmx Hlen;have HZ:=Hi hz;have HZc:=Hi hzc;clear h ht hz hzc;unfold au;go_enter Tryz.func70,Tryz.ntmps70
 go_upto_region 1 with fail
 refine nmA ?_;intro w1 hE B3 hz_w1 hr_w1
 refine mV2 hE ?_ HR HX;clear HR HX;intro HR HX
 have hs_w1:=hE.size;clear hE;replace b_B3:=Front.b3 B3;obtain ⟨b3,hb3⟩:∃ b3,b3=w.heap.size:=⟨_,rfl⟩;have hb3w:w.heap.size≤b3:=by omega
 have hb31:b3<w1.heap.size:=by omega
 rw [←hb3] at B3 ⊢;clear hb3 b_B3;go_wp2
 go_loopg [5,10] n (fun g v i wr=>∃ (j:Nat) (s:SH),v=s.v∧j+g=n∧i=.int .i64 (j:Nat)∧Ext w wr∧w1.heap.size≤wr.heap.size∧aO wr ⟨tn,ta,tl,tc,tb,tm,td⟩ c∧wr.heap[b3]?=some (.cells #[.bool tn,.slice ta tl tc,.slice tb tm td] 30 (0,0))∧bZ wr (w1.heap.size≤·) s.v ((ps.take j).map (·*c)))
 case atStart=>exact ⟨0,⟨none,0,0⟩,rfl,by omega,rfl,HX.out,Nat.le_refl _,HR.out,B3.out,bZ.nil _ _⟩
 case round =>
  obtain ⟨j,⟨sa,sn,sc⟩,rfl,hj,rfl,g1,hsz1,g2,g3,g4⟩:=hrel;clear HX HR B3;have HX:=Hi g1;have HR:=Hi g2;have B3:=Hi g3;have HO:=Hi g4;have hsz:=g1.size;clear g1 g2 g3 g4;simp only [SH.v];replace b_B3:=Front.b3 B3;have hb3r:=b_B3.2.2;by_cases h0:gk=0
  case pos =>
   subst h0;obtain rfl:j=n:=by omega
   have HE:Hid (ps.take j=ps):=Hi (List.take_of_length_le (by rw [Hlen.out];exact Nat.le_refl _));rw [HE.out] at HO;have hsn:=bZ.len (s:=⟨sa,sn,sc⟩) HO.out;rw [List.length_map,Hlen.out] at hsn;simp only at hsn;subst hsn;have HSz:Hid (SzL 16777216 (ps.map (·*c))):=Hi (by
    intro q hq;obtain ⟨y,hy,rfl⟩:=List.mem_map.1 hq;exact ((HZ.out y hy).mul HZc.out).mono (by decide))
   go_wp2_with fail
   refine cM (aQ sa j sc _ _ ((bZ.can (s:=⟨sa,j,sc⟩) HO.out).raw HSz.out (by decide)) (by omega)) fun x20 w20 hE G20=>?_
   refine mV4 hE ?_ HX HR B3 HO;clear HX HR B3 HO;intro HX HR B3 HO;have hs_w20:=hE.size;clear hE;replace b_B3:=Front.b3 B3;go_wp2
   go_ret
   exact ⟨x20,rfl,HX.out,G20.out.mono hsz⟩
  have hjn:(j:Int)<n:=by omega
  obtain ⟨b,off,r,hao,hbl,⟨hc1,hc2,hc3⟩,hP⟩:=(H.out.ext HX.out).cells' (k:=j) (by omega);obtain ⟨rneg,ra,rn,rc,rb,rm,rd⟩:=r;simp only at hc1 hc2 hc3;subst hao;have RP:=Hi hP;clear hP;have HNx:Hid ((ps.take (j+1)).map (·*c)=(ps.take j).map (·*c)++[ps.getD j 0*c]):=Hi (by rw [←cT (by rw [Hlen.out];omega),List.map_append];rfl);have HLn:Hid (((ps.take j).map (·*c)).length≤1073741824):=Hi (by rw [List.length_map,List.length_take];omega)
  go_upto_region 5 with fail
  refine nmA ?_;intro y1 hE B7 hz_y1 hr_y1;refine mV5 hE ?_ HX HR B3 HO RP;clear HX HR B3 HO RP;intro HX HR B3 HO RP;have hs_y1:=hE.size;clear hE;replace b_B3:=Front.b3 B3;replace b_B7:=Front.b3 B7
  go_wp2_with fail
  refine cM (bW ⟨rneg,ra,rn,rc,rb,rm,rd⟩ ⟨tn,ta,tl,tc,tb,tm,td⟩ _ c _ RP.out HR.out) fun x2 w2 hE G2=>?_
  refine mV6 hE ?_ B7 HX HR B3 HO RP;clear B7 HX HR B3 HO RP;intro B7 HX HR B3 HO RP
  have hs_w2:=hE.size;clear hE;replace b_B3:=Front.b3 B3;replace b_B7:=Front.b3 B7
  go_wp2_with (at_builtin;refine bJ rfl (.tmp 14) (.tmp 18) 41 Tryz.underlying41 rfl (w1.heap.size≤·) _ _ x2 _ rfl HO.out rfl G2.out HLn.out (fun k hk=>by omega) ?_;intro s' y3 q1 q2 q3)
  have HX3:=Hi (Ext.mods HX.out q2 (fun k h=>by omega));have HO3:Hid (bZ y3 (w1.heap.size≤·) s'.v ((ps.take (j+1)).map (·*c))):=Hi (by rw [HNx.out];exact q1);have HR3:=Hi (HR.out.keep q3);have B33:=Hi (aJ.blk' q2 (by omega) B3.out);have hsz3:=q2.size;clear q1 q2 q3;go_wp2
  go_roundg (gk-1)
  case measure=>omega
  case rel=>exact ⟨j+1,s',rfl,by omega,by go_num,HX3.out,by omega,HR3.out,B33.out,HO3.out⟩
theorem sG{s t:Nat}{l:List Rat}{c:Rat}(h:SzL s l)(hc:Sz t c):SzL (s+t) (bV l c):=by
 unfold bV;refine SzL.tz ?_;intro q hq;obtain ⟨y,hy,rfl⟩:=List.mem_map.1 hq;exact (h y hy).mul hc
theorem rk(l:List Rat)(c:Rat):(bV l c).length≤l.length:=by
 unfold bV;refine Nat.le_trans (aj _) ?_;simp
theorem oq:Sz 1 ((-1:Int):Rat):=Sz.int (by decide)
end Go.Proofs.YtofhkmcllihgmaaGreat
/- Range, positive, bound, Bound of the reference 07. -/
set_option linter.unusedVariables false
set_option maxRecDepth 8000
set_option maxHeartbeats 8000000
namespace Go.Proofs.YtofhkmcllihgmaaGreat
open Go.RowKit Go.Front Go.Num Stab
attribute [local go_sem] XW.cell XW.frozen
theorem yk(a b c d e f:Value)(w:World):(Instr.field 49 (.agg #[a,b,c,d,e,f]) 0).run Tryz.prog w=.ok (.agg #[a,b,c]) w:=by
 simp [Instr.field,asAgg,go_sem]
theorem yp(a b c d e f:Value)(w:World):(Instr.field 49 (.agg #[a,b,c,d,e,f]) 1).run Tryz.prog w=.ok (.agg #[d,e,f]) w:=by
 simp [Instr.field,asAgg,go_sem]
attribute [local go_sem] yk yp
theorem rA(ao:Option Addr)(n cap:Nat)(l:List Rat)(s t:RH)(a b:Rat)(S T:Nat)(w:World)(h:dU w ⟨ao,n,cap⟩ l)(hs:aO w s a)(ht:aO w t b)(hn:n≤1000)(h8:(tz l).length≤8)(hz:FrB S (tz l))(za:Sz T a)(zb:Sz T b)(hS:S≤100)(hT1:1≤T)(hT:T≤60) :
  au 265 [.slice ao n cap,IvV (s,t)] w SH.v (fun x w'=>dA w.heap.size w' x (bcL (tz l) (loV a b) (hiV a b))):=by
 by_cases h0:tz l=[]
 ·refine (rx ao n cap l s t w h hn h0).imp (fun x w' hx=>?_);subst hx;rw [h0];exact dA.nil _ _
 ·exact ry ao n cap l s t a b S T w h hs ht hn h0 h8 hz za zb hS hT1 hT
theorem u7{p:List Rat}{a b:Rat}{S T:Nat}(hp:SzL S p)(h8:p.length≤8)(za:Sz T a)(zb:Sz T b)(hab:a≤b):SzL (17*S+112*T+116) (bcL p a b):=by
 intro x hx;rw [←Dn] at hx;unfold cfV at hx;obtain ⟨y,hy,rfl⟩:=List.mem_map.1 hx;exact (((qf hp h8 za zb hab y hy).sz (by omega)).mul (kT hp h8 za zb)).mono (by omega)
theorem BI(m x:Rat):loV m x=mnF m x:=rfl
theorem BQ(m x:Rat):hiV m x=mxF m x:=(zZ m x).symm
theorem fO(x:Rat):loV x x=x∧hiV x x=x:=by unfold loV hiV;constructor <;> split <;> rfl
theorem nZ(ao:Option Addr)(n cap:Nat)(l:List Rat)(s t:RH)(a b:Rat)(S T:Nat)(w:World)(h:dU w ⟨ao,n,cap⟩ l)(hs:aO w s a)(ht:aO w t b)(hn:n≤1000)(h8:(tz l).length≤8)(hz:FrB S (tz l))(za:Sz T a)(zb:Sz T b)(hS:S≤100)(hT1:1≤T)(hT:T≤60) :
  au 210 [.slice ao n cap,IvV (s,t)] w IvV (fun x w'=>IvC w' x (mnL (bcL (tz l) (loV a b) (hiV a b))) (mxL (bcL (tz l) (loV a b) (hiV a b)))):=by
 have HX:=Hi (Ext.refl w);have LA:=Hi h;have HS:=Hi hs;have HT:=Hi ht;have HZ:=Hi hz;have ZA:=Hi za;have ZB:=Hi zb;have HBZ:=Hi (u7 hz.sz h8 (kD za zb) (kF za zb) (kE a b));have HBL:=Hi (iX (tz l) (loV a b) (hiV a b));obtain ⟨P,hP⟩:∃ P,P=(tz l).length:=⟨_,rfl⟩;rw [←hP] at HBL;have HPP:=Hi hP;clear hP h hs ht hz za zb;obtain ⟨sn,sa,sl,sc,sb,sm',sd⟩:=s;obtain ⟨tn,ta,tl,tc,tb,tm,td⟩:=t;unfold au;go_enter Tryz.func210,Tryz.ntmps210
 go_upto_region 1 with fail
 refine iK ?_;intro w1 hE B3 B4 hz_w1 hr_w1;refine mV4 hE ?_ HX LA HS HT;clear HX LA HS HT;intro HX LA HS HT;have hs_w1:=hE.size;clear hE;replace b_B3:=Front.b3 B3;replace b_B4:=Front.b3 B4
 go_wp2_with fail
 refine cM (rA ao n cap l ⟨sn,sa,sl,sc,sb,sm',sd⟩ ⟨tn,ta,tl,tc,tb,tm,td⟩ a b S T _ LA.out HS.out HT.out hn h8 HZ.out ZA.out ZB.out hS hT1 hT) fun x11 w11 hE G11=>?_
 refine mV6 hE ?_ B3 B4 HX LA HS HT;clear B3 B4 HX LA HS HT;intro B3 B4 HX LA HS HT
 have hs_w11:=hE.size;clear hE;replace b_B3:=Front.b3 B3;replace b_B4:=Front.b3 B4;obtain ⟨u,hu⟩:∃ u,u=bcL (tz l) (loV a b) (hiV a b):=⟨_,rfl⟩;have HEU:=Hi hu.symm;rw [←hu] at G11 HBZ HBL;obtain ⟨ca,cn,cc⟩:=x11;have hcn:cn=P:=by have:=G11.out.len;rw [HBL.out] at this;exact this.symm
 subst hcn;have HC:Hid (LIn w11 ⟨ca,cn,cc⟩ u w1.heap.size w11.heap.size):=G11;clear hu;simp only [SH.v];clear LA;clear HS;clear HT;have hle:=HC.out.can.le;have hmx:=HC.out.can.max;simp only at hle hmx;by_cases h0:cn=0
 case pos =>
  subst h0;have HV:Hid (mnL u=0∧mxL u=0):=Hi (by rw [List.length_eq_zero_iff.1 HBL.out];exact ⟨rfl,rfl⟩)
  go_wp2_with fail
  refine cM (aK 0 _ (by decide) (by decide)) fun x15 w15 hE G15=>?_
  refine mV4 hE ?_ B3 B4 HX HC;clear B3 B4 HX HC;intro B3 B4 HX HC;have hs_w15:=hE.size;clear hE;replace b_B3:=Front.b3 B3;replace b_B4:=Front.b3 B4
  go_wp2_with fail
  refine cM (aK 0 _ (by decide) (by decide)) fun x16 w16 hE G16=>?_
  refine mV5 hE ?_ G15 B3 B4 HX HC;clear G15 B3 B4 HX HC;intro G15 B3 B4 HX HC
  have hs_w16:=hE.size;clear hE;replace b_B3:=Front.b3 B3;replace b_B4:=Front.b3 B4
  go_wp2_with fail
  refine cM (et x15 x16 _ _ _ (G15.out.raw (Sz.int (by decide)) (by decide)) (G16.out.raw (Sz.int (by decide)) (by decide))) fun x17 w17 hE G17=>?_
  refine mV6 hE ?_ G16 G15 B3 B4 HX HC;clear G16 G15 B3 B4 HX HC;intro G16 G15 B3 B4 HX HC
  have hs_w17:=hE.size;clear hE;replace b_B3:=Front.b3 B3;replace b_B4:=Front.b3 B4;have HL:=Hi G17.out.1;have HH:=Hi G17.out.2;clear G17;rw [(fO _).1] at HL;rw [(fO _).2] at HH;go_wp2;refine bK (F:=fun W=>bodyPost _ _ _ _ _ W) B4.out rfl ?_;intro w20 T;replace HX:=Hi (T.ext HX.out (by omega));replace B3:=Hi (T.rest _ _ (by omega) B3.out);replace B4:=Hi (T.bx);replace HC:=Hi (HC.out.put T (by omega));replace G15:=Hi (G15.out.keep T.keep);replace G16:=Hi (G16.out.keep T.keep);replace HL:=Hi (HL.out.keep T.keep);replace HH:=Hi (HH.out.keep T.keep);have hs_w20:=nle T.size;have hr_w20:=nle T.size.symm;clear T;replace b_B3:=Front.b3 B3;replace b_B4:=Front.b3 B4;exact bodyPost_ret (v:=IvV x17) (by simp [results,Tryz.results210,go_sem,b_B4.1]) rfl ⟨x17,rfl,HX.out,by rw [HEU.out,HV.out.1];exact HL.out,by rw [HEU.out,HV.out.2];exact HH.out⟩
 have hnb:((cn:Int) == 0)=false:=by rw [beq_eq_false_iff_ne];omega
 have hnI:(0:Int)<cn:=by omega
 obtain ⟨b,off,r,hao,hbl,⟨hc1,hc2,hc3⟩,hPr⟩:=HC.out.can.lin.celx (k:=0) (by omega);obtain ⟨rneg,ra,rn,rc,rb,rm,rd⟩:=r;simp only [Nat.zero_mul,Nat.add_zero] at hc1 hc2 hc3;subst hao;have RP:=Hi hPr;have Z0:=Hi (HBZ.out.at (i:=0) (by rw [HBL.out];omega));clear hPr
 go_upto_region 4 with fail
 refine wpG 8 (fun opIx=>match opIx with
  | 6=>.spec (RH×RH) (default) (IvV) (fun x w'=>IvC w' x (mnA u 0) (mxA u 0))
  | 7=>.alloc 49 #[.bool false,.slice none 0 0,.slice none 0 0,.bool false,.slice none 0 0,.slice none 0 0]
  | _=>.quiet) (fun _=>[]) fun w0 he0 hz0 hc0 hf0=>?_
 refine wps he0.out rfl rfl (fun w1 hW hG=>?_) fun x20=>?_
 ·exact spc [RH.v ⟨rneg,ra,rn,rc,rb,rm,rd⟩,RH.v ⟨rneg,ra,rn,rc,rb,rm,rd⟩] Tryz.func66 ((by have h:=et ⟨rneg,ra,rn,rc,rb,rm,rd⟩ ⟨rneg,ra,rn,rc,rb,rm,rd⟩ _ _ _ ((RP.out.ext hW).raw Z0.out (by omega)) ((RP.out.ext hW).raw Z0.out (by omega));rw [(fO _).1,(fO _).2] at h;exact h))
 refine qZ ?_;refine wpF_alloc rfl rfl (fun w=>by simp [execOp,go_sem,ptr]) (fun b6 hb6 hl6=>?_);refine qZ ?_;refine wpF_nil ?_;intro w12 hI;have hE:=he0.out.trans hI.ext;have G20:=gT (hI.facts 6);have A6:Hid (w12.heap[b6]?=some (.cells #[.bool false,.slice none 0 0,.slice none 0 0,.bool false,.slice none 0 0,.slice none 0 0] 49 (0,0))):=hI.facts 7;rw [hz0] at hl6;clear hI he0 hz0 hc0 hf0;refine mV4 hE ?_ HX B3 B4 HC;clear HX B3 B4 HC;intro HX B3 B4 HC;have hs_w12:=hE.size;clear hE;replace b_B3:=Front.b3 B3;replace b_B4:=Front.b3 B4;replace b_A6:=Front.b3 A6;simp only [pD,ptr];obtain ⟨⟨ln,la,ll,lc,lb,lm,ld⟩,⟨hn',ha,hl,hcc,hb,hm,hd⟩⟩:=x20;have HL:=Hi G20.out.1;have HH:=Hi G20.out.2;clear G20;simp only at HL HH
 go_upto_region 5 with fail
 refine bK A6.out rfl ?_;intro w13 T;replace HX:=Hi (T.ext HX.out (by omega));replace B3:=Hi (T.rest _ _ (by omega) B3.out);replace B4:=Hi (T.rest _ _ (by omega) B4.out);replace HC:=Hi (HC.out.put T (by omega));replace A6:=Hi (T.bx);replace HL:=Hi (HL.out.keep T.keep);replace HH:=Hi (HH.out.keep T.keep);have hs_w13:=nle T.size;have hr_w13:=nle T.size.symm;clear T;replace b_B3:=Front.b3 B3;replace b_B4:=Front.b3 B4;replace b_A6:=Front.b3 A6;obtain ⟨b4,hb4⟩:∃ b,b=w.heap.size+1:=⟨_,rfl⟩;have q4:w.heap.size≤b4:=by omega
 have q6:w.heap.size≤b6:=by omega
 have n46:b4≠b6:=by omega
 have n4l:b4<w1.heap.size:=by omega
 have n6l:w11.heap.size≤b6:=by omega
 rw [←hb4] at B4 ⊢;have HAZ:Hid (∀ j,j≤cn→Sz (17*S+112*T+116) (mnA u j)∧Sz (17*S+112*T+116) (mxA u j)):=Hi (fun j hj=>let h:=yD (l:=u) (fun e=>by have:=HBL.out;rw [e] at this;exact h0 this.symm) j (by rw [HBL.out];exact hj);⟨HBZ.out _ h.1,HBZ.out _ h.2⟩);have hbl2:=hbl;clear hb4 b_B4 b_A6 b_B3 B3 hc1 hc2 hc3 RP Z0 hbl;go_wp2
 go_loopg [27] cn (fun g i wr=>∃ (j:Nat) (x y:RH),j+g=cn∧i=.int .i64 (j:Nat)∧Ext w wr∧wr.heap[b4]?=some (.cells #[.bool false,.slice none 0 0,.slice none 0 0,.bool false,.slice none 0 0,.slice none 0 0] 49 (0,0))∧wr.heap[b6]?=some (.cells #[.bool x.neg,.slice x.a x.n x.c,.slice x.b x.m x.d,.bool y.neg,.slice y.a y.n y.c,.slice y.b y.m y.d] 49 (0,0))∧aw wr x (mnA u j)∧aw wr y (mxA u j)∧LIn wr ⟨some ⟨b,off,none⟩,cn,cc⟩ u w1.heap.size w11.heap.size)
 case atStart=>exact ⟨0,⟨ln,la,ll,lc,lb,lm,ld⟩,⟨hn',ha,hl,hcc,hb,hm,hd⟩,by omega,rfl,HX.out,B4.out,A6.out,HL.out,HH.out,HC.out⟩
 case round =>
  obtain ⟨j,⟨xn,xa,xl,xc,xb,xm,xd⟩,⟨yn,ya,yl,yc,yb,ym,yd⟩,hj,rfl,g1,g2,g3,g4,g5,g6⟩:=hrel;clear HX B4 A6 HL HH HC;have HX:=Hi g1;have B4:=Hi g2;have B6:=Hi g3;have HL:=Hi g4;have HH:=Hi g5;have HC:=Hi g6;clear g1 g2 g3 g4 g5 g6;simp only at B6;replace b_B4:=Front.b3 B4;replace b_B6:=Front.b3 B6;by_cases h1:gk=0
  case pos =>
   subst h1;obtain rfl:j=cn:=by omega
   have hin:¬ (j:Int)<(j:Int):=by omega
   have HV:Hid (mnA u j=mnL u∧mxA u j=mxL u):=Hi ⟨ov (by rw [HBL.out];exact Nat.le_refl _),ou (by rw [HBL.out];exact Nat.le_refl _)⟩;rw [HV.out.1] at HL;rw [HV.out.2] at HH;go_wp2;refine bK (F:=fun W=>bodyPost _ _ _ _ _ W) B4.out rfl ?_;intro w20 T;replace HX:=Hi (T.ext HX.out (by omega));replace B4:=Hi (T.bx);replace B6:=Hi (T.rest _ _ (by omega) B6.out);replace HL:=Hi (HL.out.keep T.keep);replace HH:=Hi (HH.out.keep T.keep);replace HC:=Hi (HC.out.put T (by omega));have hs_w20:=nle T.size;have hr_w20:=nle T.size.symm;clear T;replace b_B4:=Front.b3 B4;replace b_B6:=Front.b3 B6;exact bodyPost_ret (v:=IvV (⟨xn,xa,xl,xc,xb,xm,xd⟩,⟨yn,ya,yl,yc,yb,ym,yd⟩)) (by simp [results,Tryz.results210,go_sem,b_B4.1]) rfl ⟨(⟨xn,xa,xl,xc,xb,xm,xd⟩,⟨yn,ya,yl,yc,yb,ym,yd⟩),rfl,HX.out,by rw [HEU.out];exact HL.out,by rw [HEU.out];exact HH.out⟩
  obtain ⟨bv,off',r,hao,hbl,⟨hc1,hc2,hc3⟩,hP⟩:=HC.out.can.lin.celx (k:=j) (by omega);obtain ⟨rfl,rfl⟩:b=bv∧off=off':=by simpa using hao
  obtain ⟨tneg,ta,tn,tc,tb,tm,td⟩:=r;simp only at hc1 hc2 hc3;have RP:=Hi hP;clear hP hao;have hjn:(j:Int)<cn:=by omega
  have ZX:=Hi (HBZ.out.at (i:=j) (by rw [HBL.out];omega));have ZM:=Hi (HAZ.out j (by omega));have HS1:=Hi (lR (l:=u) (j:=j) (by rw [HBL.out];omega));have HS2:=Hi (lN (l:=u) (j:=j) (by rw [HBL.out];omega));have HLH:Hid (mnA u j≤mxA u j):=Hi (by
   rcases Nat.eq_zero_or_pos j with h|h
   ·subst h;exact Rat.le_refl
   ·have:=BH (l:=u) j (by rw [HBL.out];omega) 0 h;grind)
  obtain ⟨v,hv⟩:∃ v,v=u.getD j 0:=⟨_,rfl⟩;rw [←hv] at RP ZX HS1 HS2;clear hv;have p6:b6<wr.heap.size:=b_B6.2.2;have p4:b4<wr.heap.size:=b_B4.2.2
  go_upto_region 8 with fail
  refine nmA ?_;intro w20 hE B8 hz_w20 hr_w20;refine mV7 hE ?_ HX B4 B6 HL HH HC RP;clear HX B4 B6 HL HH HC RP;intro HX B4 B6 HL HH HC RP;have hs_w20:=hE.size;clear hE;replace b_B4:=Front.b3 B4;replace b_B6:=Front.b3 B6;replace b_B8:=Front.b3 B8;clear hc1 hc2 hc3;refine wpG 5 (fun opIx=>match opIx with
   | 3=>.spec (RH×RH) (default) (IvV) (fun x w'=>IvC w' x v v)
   | 4=>.spec (RH×RH) (default) (IvV) (fun x w'=>IvC w' x (mnA u (j+1)) (mxA u (j+1)))
   | _=>.quiet) (fun|4=>[3]|_=>[]) fun w0 he0 hz0 hc0 hf0=>?_
  refine wps he0.out rfl rfl (fun w1 hW hG=>?_) fun x40=>?_
  ·exact spc [RH.v ⟨tneg,ta,tn,tc,tb,tm,td⟩,RH.v ⟨tneg,ta,tn,tc,tb,tm,td⟩] Tryz.func66 ((by have h:=et ⟨tneg,ta,tn,tc,tb,tm,td⟩ ⟨tneg,ta,tn,tc,tb,tm,td⟩ _ _ _ ((RP.out.ext hW).raw ZX.out (by omega)) ((RP.out.ext hW).raw ZX.out (by omega));rw [(fO _).1,(fO _).2] at h;exact h))
  refine qZ ?_;refine wps he0.out rfl rfl (fun w1 hW hG=>?_) fun x41=>?_
  ·have g40:=(hG 3 (by decide):ay _ _).get fun _ e g=>g.ext e
   exact spc [IvV (⟨xn,xa,xl,xc,xb,xm,xd⟩,⟨yn,ya,yl,yc,yb,ym,yd⟩),IvV x40] Tryz.func266 ((by have h:=oz ⟨xn,xa,xl,xc,xb,xm,xd⟩ ⟨yn,ya,yl,yc,yb,ym,yd⟩ x40.1 x40.2 (mnA u j) (mxA u j) v v (17*S+112*T+116) _ ((HL.out.ext hW).raw ZM.out.1 (by omega)) ((HH.out.ext hW).raw ZM.out.2 (by omega)) (g40.1.raw ZX.out (by omega)) (g40.2.raw ZX.out (by omega)) ZM.out.1 ZM.out.2 ZX.out ZX.out (by omega);rw [(fO v).1,(fO v).2,gL HLH.out,gN HLH.out,BI,BQ,←HS1.out,←HS2.out] at h;exact h))
  refine qZ ?_;refine wpF_nil ?_;intro w21 hI;have hE:=he0.out.trans hI.ext;have G40:=gT (hI.facts 3);have G41:=gT (hI.facts 4);clear hI he0 hz0 hc0 hf0
  refine mV8 hE ?_ B8 HX B4 B6 HL HH HC RP;clear B8 HX B4 B6 HL HH HC RP;intro B8 HX B4 B6 HL HH HC RP
  have hs_w21:=hE.size;clear hE;replace b_B4:=Front.b3 B4;replace b_B6:=Front.b3 B6;replace b_B8:=Front.b3 B8;simp only [pD];obtain ⟨⟨an,aa,al,ac,ab,am,ad⟩,⟨bn,ba,bl,bc,bb,bm,bd⟩⟩:=x41;have HL2:=Hi G41.out.1;have HH2:=Hi G41.out.2;clear G40 G41;simp only at HL2 HH2;clear HL;clear HH;clear RP
  go_upto_region 9 with fail
  refine bK B6.out rfl ?_;intro w22 T;replace HX:=Hi (T.ext HX.out (by omega));replace B4:=Hi (T.rest _ _ (by omega) B4.out);replace B6:=Hi (T.bx);replace HC:=Hi (HC.out.put T (by omega));replace B8:=Hi (T.rest _ _ (by omega) B8.out);replace HL2:=Hi (HL2.out.keep T.keep);replace HH2:=Hi (HH2.out.keep T.keep);have hs_w22:=nle T.size;have hr_w22:=nle T.size.symm;clear T;replace b_B4:=Front.b3 B4;replace b_B6:=Front.b3 B6;replace b_B8:=Front.b3 B8;go_wp2
  go_roundg (gk-1)
  case measure=>omega
  case rel=>exact ⟨j+1,⟨an,aa,al,ac,ab,am,ad⟩,⟨bn,ba,bl,bc,bb,bm,bd⟩,by omega,by go_num,HX.out,B4.out,B6.out,HL2.out,HH2.out,HC.out⟩
theorem sH(ao:Option Addr)(n cap:Nat)(l:List Rat)(s t:RH)(a b:Rat)(S T:Nat)(w:World)(h:dU w ⟨ao,n,cap⟩ l)(hs:aO w s a)(ht:aO w t b)(hn:n≤1000)(h8:(tz l).length≤8)(hz:FrB S (tz l))(za:Sz T a)(zb:Sz T b)(hS:S≤100)(hT1:1≤T)(hT:T≤60) :
  au 114 [.slice ao n cap,IvV (s,t)] w (fun _:Unit=>.bool (psV (tz l) (loV a b) (hiV a b))) (fun _ _=>True):=by
 have HX:=Hi (Ext.refl w);have LA:=Hi h;have HS:=Hi hs;have HT:=Hi ht;have HZ:=Hi hz;have ZA:=Hi za;have ZB:=Hi zb;have HBZ:=Hi (C6 (u7 hz.sz h8 (kD za zb) (kF za zb) (kE a b)) (by omega));obtain ⟨P,hP⟩:∃ P,P=(tz l).length:=⟨_,rfl⟩;have HPP:=Hi hP;clear h hs ht hz za zb;obtain ⟨sn,sa,sl,sc,sb,sm',sd⟩:=s;obtain ⟨tn,ta,tl,tc,tb,tm,td⟩:=t;unfold au;go_enter Tryz.func114,Tryz.ntmps114
 go_upto_region 1 with fail
 refine nmA ?_;intro w1 hE B3 hz_w1 hr_w1;refine mV4 hE ?_ HX LA HS HT;clear HX LA HS HT;intro HX LA HS HT;have hs_w1:=hE.size;clear hE;replace b_B3:=Front.b3 B3
 go_wp2_with fail
 refine cM (ey ao n cap l _ LA.out (by omega)) fun x6 w6 hE _=>?_
 refine mV5 hE ?_ B3 HX LA HS HT;clear B3 HX LA HS HT;intro B3 HX LA HS HT
 have hs_w6:=hE.size;clear hE;replace b_B3:=Front.b3 B3;rw [←hP];clear hP;by_cases h0:P=0
 case pos =>
  subst h0;have HV:Hid (psV (tz l) (loV a b) (hiV a b)=false):=Hi (by rw [List.length_eq_zero_iff.1 HPP.out.symm];rfl);have hneg:¬ (0:Int)≤((0:Nat):Int)-1:=by decide
  go_wp2
  go_ret
  exact ⟨(),by rw [HV.out];rfl,HX.out,trivial⟩
 have hpos:(0:Int)≤(P:Int)-1:=by omega
 have HV:Hid (psV (tz l) (loV a b) (hiV a b)=decide (0<mnL (bcL (tz l) (loV a b) (hiV a b)))):=Hi (sT (fun e=>h0 (by rw [HPP.out,e];rfl)) _ _)
 go_wp2_with fail
 refine cM (nZ ao n cap l ⟨sn,sa,sl,sc,sb,sm',sd⟩ ⟨tn,ta,tl,tc,tb,tm,td⟩ a b S T _ LA.out HS.out HT.out hn h8 HZ.out ZA.out ZB.out hS hT1 hT) fun x11 w11 hE G11=>?_
 refine mV5 hE ?_ B3 HX LA HS HT;clear B3 HX LA HS HT;intro B3 HX LA HS HT;have hs_w11:=hE.size;clear hE;replace b_B3:=Front.b3 B3;obtain ⟨⟨ln,la,ll,lc,lb,lm,ld⟩,⟨hn',ha,hl,hcc,hb,hm,hd⟩⟩:=x11;have HL:=Hi G11.out.1;clear G11;simp only at HL;obtain ⟨q,hq⟩:∃ q,q=mnL (bcL (tz l) (loV a b) (hiV a b)):=⟨_,rfl⟩;rw [←hq] at HL HV HBZ;clear hq
 go_wp2_with fail
 refine cM (cL ⟨ln,la,ll,lc,lb,lm,ld⟩ q _ (HL.out.raw HBZ.out.1 (by omega))) fun x13 w13 hE _=>?_
 refine mV6 hE ?_ B3 HX LA HS HT HL;clear B3 HX LA HS HT HL;intro B3 HX LA HS HT HL;have hs_w13:=hE.size;clear hE;replace b_B3:=Front.b3 B3;have HD:Hid (decide (0<q)=decide (0<dM q 0)):=Hi (decide_eq_decide.2 xK.symm);obtain ⟨c,hc⟩:∃ c,c=dM q 0:=⟨_,rfl⟩;rw [←hc] at HD ⊢;clear hc;go_wp2
 go_ret
 exact ⟨(),by rw [HV.out,HD.out];rfl,HX.out,trivial⟩
end Go.Proofs.YtofhkmcllihgmaaGreat
/- Check of the reference 07. -/
set_option linter.unusedVariables false
namespace Go.Proofs.YtofhkmcllihgmaaGreat
open Go.RowKit Go.Front Go.Num Stab
attribute [local go_sem] XW.cell XW.frozen yk yp
theorem wA{w:World}{k:Nat}{F:World→Prop}(h:∀ w2,Ext w w2→F w2):F (w.drewN k):=h _ (Ext.drewN _ _)
set_option maxRecDepth 8000 in
set_option maxHeartbeats 16000000 in
theorem gG(ao:Option Addr)(n cap:Nat)(l:List Rat)(s t:RH)(xo:Option Addr)(xn xc:Nat)(qs:List Rat)(a b:Rat)(S T:Nat)(w:World)(h:dU w ⟨ao,n,cap⟩ l)(hs:aO w s a)(ht:aO w t b)(hx:iZ w ⟨xo,xn,xc⟩ qs)(hn:n≤1000)(h8:(tz l).length≤8)(hz:FrB S (tz l))(za:Sz T a)(zb:Sz T b)(zq:SzL T qs)(hS:S≤100)(hT1:1≤T)(hT:T≤60)(hxm:xn≤1000000) :
  au 36 [.slice ao n cap,SgV ((s,t),⟨xo,xn,xc⟩)] w (fun _:Unit=>.int .i64 (ckE (tz l) (loV a b) (hiV a b) (tps qs))) (fun _ _=>True):=by
 have HX:=Hi (Ext.refl w);have HS:=Hi hs;have HT:=Hi ht;have LA:=Hi h;have LX:=Hi hx;have ZA:=Hi (kD za zb);have ZB:=Hi (kF za zb);have HZ:=Hi hz;have ZQ:=Hi zq;have HQl:Hid (qs.length=xn*2):=Hi hx.len;have HTl:Hid ((tps qs).length=xn):=Hi (by rw [nP,hx.len];simp only;omega);clear h hs ht hx za zb hz zq;obtain ⟨sn,sa,sl,sc,sb,sm',sd⟩:=s;obtain ⟨tn,ta,tl,tc,tb,tm,td⟩:=t;obtain ⟨N,hN⟩:∃ N,N=(tz l).length:=⟨_,rfl⟩;obtain ⟨r,hr⟩:∃ r,r=ckE (tz l) (loV a b) (hiV a b) (tps qs):=⟨_,rfl⟩;have HR:=Hi hr;rw [←hr];clear hr;unfold au;go_enter Tryz.func36,Tryz.ntmps36
 go_upto_region 1 with fail
 refine nmA ?_;intro w1 hE B3 hz_w1 hr_w1;refine mV5 hE ?_ HX HS HT LA LX;clear HX HS HT LA LX;intro HX HS HT LA LX;have hs_w1:=hE.size;clear hE;replace b_B3:=Front.b3 B3
 go_wp2_with fail
 refine cM (ey ao n cap l _ LA.out (by omega)) fun x9 w9 hE _=>?_
 refine mV6 hE ?_ B3 HX HS HT LA LX;clear B3 HX HS HT LA LX;intro B3 HX HS HT LA LX
 have hs_w9:=hE.size;clear hE;replace b_B3:=Front.b3 B3;rw [←hN];have hd1:¬ (48:Int)<(N:Int)-1:=by omega
 clear hN
 go_wp2_with fail
 refine cM (bG ⟨sn,sa,sl,sc,sb,sm',sd⟩ ⟨tn,ta,tl,tc,tb,tm,td⟩ a b _ HS.out HT.out) fun x13 w13 hE G13=>?_
 refine mV6 hE ?_ B3 HX HS HT LA LX;clear B3 HX HS HT LA LX;intro B3 HX HS HT LA LX
 have hs_w13:=hE.size;clear hE;replace b_B3:=Front.b3 B3;obtain ⟨⟨ln,la,ll,lc,lb,lm,ld⟩,⟨hn',ha,hl,hcc,hb,hm,hd⟩⟩:=x13;have HL:=Hi G13.out.1;clear G13;simp only at HL;obtain ⟨u,hu⟩:∃ u,u=loV a b:=⟨_,rfl⟩;obtain ⟨v,hv⟩:∃ v,v=hiV a b:=⟨_,rfl⟩;have HVE:=Hi hv;rw [←hu] at HL ZA HR;rw [←hv] at ZB HR;clear hu hv;have LA9:=LA;have LX9:=LX;have HS9:=HS;have HT9:=HT;have HX9:=HX;have B39:=B3;have hXn:Ext w13 w13:=Ext.refl w13;have HXn:=Hi hXn;have p3:w.heap.size<w13.heap.size:=b_B3.2.2;clear hXn
 go_upto_region 4 with fail
 refine nmA ?_;intro w30 hE B5 hz_w30 hr_w30;refine mV8 hE ?_ B3 HX HS HT LA LX HL HXn;clear B3 HX HS HT LA LX HL HXn;intro B3 HX HS HT LA LX HL HXn;have hs_w30:=hE.size;clear hE;replace b_B3:=Front.b3 B3;replace b_B5:=Front.b3 B5;obtain ⟨b3,hb3⟩:∃ x,x=w.heap.size:=⟨_,rfl⟩;obtain ⟨b5,hb5⟩:∃ x,x=w13.heap.size:=⟨_,rfl⟩;have q5:w13.heap.size≤b5:=by omega
 have q5w:w.heap.size≤b5:=by omega
 have n35:b3≠b5:=by omega
 have p3b:b3<w13.heap.size:=by omega
 rw [←hb5] at B5;rw [←hb3] at B3 B39;rw [←hb5,←hb3];have hCK:ckV (tz l) u (tps qs) v=ckV (tz l) u ((tps qs).drop 0) v:=rfl;have HCK0:=Hi hCK;clear hCK hb3 hb5 b_B3 b_B5;replace b_B3:=Front.b3 B3;replace b_B5:=Front.b3 B5;go_wp2
 go_loopg [18] xn (fun g i wr=>∃ (j:Nat) (e:RH) (q:Rat),j+g=xn∧i=.int .i64 (j:Nat)∧Ext w13 wr∧wr.heap[b5]?=some (.cells #[.bool e.neg,.slice e.a e.n e.c,.slice e.b e.m e.d] 30 (0,0))∧aw wr e q∧Sz T q∧ckV (tz l) u (tps qs) v=ckV (tz l) q ((tps qs).drop j) v)
 case atStart=>exact ⟨0,⟨ln,la,ll,lc,lb,lm,ld⟩,u,by omega,rfl,HXn.out,B5.out,HL.out,ZA.out,HCK0.out⟩
 case round =>
  obtain ⟨j,⟨en,ea,el,ec,eb,em,ed⟩,q,hj,rfl,g1,g3,g4,g5,g6⟩:=hrel;clear HXn B3 B5 HL HCK0 HX LA LX HS HT b_B3 b_B5;have HXn:=Hi g1;have B3:=Hi (g1.block B39.out);have B5:=Hi g3;have GE:=Hi g4;have ZE:=Hi g5;have HCK:=Hi g6;have HX:=Hi (HX9.out.trans g1);have LA:=Hi (LA9.out.ext g1);have LX:=Hi (LX9.out.ext g1);have HS:=Hi (HS9.out.ext g1);have HT:=Hi (HT9.out.ext g1);clear g1 g3 g4 g5 g6;simp only at B5;replace b_B3:=Front.b3 B3;replace b_B5:=Front.b3 B5;have p5:b5<wr.heap.size:=b_B5.2.2;by_cases h1:gk=0
  case pos =>
   subst h1;obtain rfl:j=xn:=by omega
   have hin:¬ (j:Int)<(j:Int):=by omega
   rw [yV (by rw [HTl.out];exact Nat.le_refl _)] at HCK;by_cases hx0:j=0
   case pos =>
    subst hx0;have HV:Hid (r=22):=Hi (by rw [HR.out,List.length_eq_zero_iff.1 HTl.out,oP])
    go_upto_region 12 with fail
    go_quiet (fail)
    refine wA ?_;intro w48 hE;refine mV8 hE ?_ HXn B3 B5 GE HX LA LX HS;clear HXn B3 B5 GE HX LA LX HS;intro HXn B3 B5 GE HX LA LX HS;replace HT:=mV hE HT;have hs_w48:=hE.size;clear hE;replace b_B3:=Front.b3 B3;replace b_B5:=Front.b3 B5;go_wp2
    go_ret
    exact ⟨(),by rw [HV.out];rfl,HX.out,trivial⟩
   have hxb:((j:Int) == 0)=false:=by rw [beq_eq_false_iff_ne];omega
   have HNE:Hid (tps qs≠[]):=Hi (fun e=>by have:=HTl.out;rw [e] at this;exact hx0 this.symm);by_cases h2:q=v
   case pos =>
    have HV:Hid (r=0):=Hi (by rw [HR.out];exact yU HNE.out (by rw [HCK.out];exact decide_eq_true h2));have HCM:Hid (dM q v=0):=Hi (eE.2 h2);clear h2
    go_upto_region 12 with fail
    refine ah 13 (fun opIx=>match opIx with
     | 8=>.spec (RH×RH) (default) (IvV) (fun x w'=>aw w' x.2 v)
     | 10=>.spec Unit () (fun _=>.int .i64 0) (fun _ _=>True)
     | _=>.quiet) (fun|10=>[8]|_=>[]) (by kernel_rfl) (by kernel_rfl) (fun w0 he0 hz0 hc0 hf0=>?_)
    replace he0:=Hi he0;simp only [pT]
    repeat (refine wpq fun K h=>?_;go_big_quiet_op;refine h _ ?_;clear h K;(try simp only [hxb]))
    refine wps he0.out rfl rfl (fun w1 hW hG=>?_) fun x60=>?_
    ·exact spc [IvV (⟨sn,sa,sl,sc,sb,sm',sd⟩,⟨tn,ta,tl,tc,tb,tm,td⟩)] Tryz.func75 ((bG ⟨sn,sa,sl,sc,sb,sm',sd⟩ ⟨tn,ta,tl,tc,tb,tm,td⟩ a b _ (HS.out.ext hW) (HT.out.ext hW)).imp (fun x w' h=>by rw [HVE.out];exact h.2))
    simp only [pS]
    repeat (refine wpq fun K h=>?_;go_big_quiet_op;refine h _ ?_;clear h K;(try simp only [hxb]))
    refine wps he0.out rfl rfl (fun w1 hW hG=>?_) fun x61=>?_
    ·have g60:=(hG 8 (by decide):ay _ _).get fun _ e g=>g.ext e
     exact spc [RH.v ⟨en,ea,el,ec,eb,em,ed⟩,x60.2.v] Tryz.func59 ((by have h:=il ⟨en,ea,el,ec,eb,em,ed⟩ x60.2 q v _ ((GE.out.ext hW).raw ZE.out (by omega)) (g60.raw ZB.out (by omega));rw [HCM.out] at h;exact h))
    simp only [pS]
    repeat (refine wpq fun K h=>?_;go_big_quiet_op;refine h _ ?_;clear h K;(try simp only [hxb]))
    refine wpF_nil ?_;intro w50 hI;have hE:=he0.out.trans hI.ext;have G60:=gT (hI.facts 8);clear hI he0 hz0 hc0 hf0
    refine mV8 hE ?_ HXn B3 B5 GE HX LA LX HS;clear HXn B3 B5 GE HX LA LX HS;intro HXn B3 B5 GE HX LA LX HS
    replace HT:=mV hE HT;have hs_w50:=hE.size;clear hE;replace b_B3:=Front.b3 B3;replace b_B5:=Front.b3 B5;simp only [pD];go_wp2
    go_ret
    exact ⟨(),by rw [HV.out];rfl,HX.out,trivial⟩
   have HV:Hid (r=22):=Hi (by rw [HR.out];exact rQ (by rw [HCK.out];exact decide_eq_false h2));have hc:¬ dM q v=0:=fun h=>h2 (eE.1 h)
   obtain ⟨c,e⟩:∃ c,c=dM q v:=⟨_,rfl⟩;rw [←e] at hc;have HCM:=Hi e.symm;have hcb:(c == 0)=false:=by rw [beq_eq_false_iff_ne];exact hc
   clear e h2
   go_upto_region 12 with fail
   refine ah 13 (fun opIx=>match opIx with
    | 8=>.spec (RH×RH) (default) (IvV) (fun x w'=>aw w' x.2 v)
    | 10=>.spec Unit () (fun _=>.int .i64 c) (fun _ _=>True)
    | _=>.quiet) (fun|10=>[8]|_=>[]) (by kernel_rfl) (by kernel_rfl) (fun w0 he0 hz0 hc0 hf0=>?_)
   replace he0:=Hi he0;simp only [pT]
   repeat (refine wpq fun K h=>?_;go_big_quiet_op;refine h _ ?_;clear h K;(try simp only [hxb]))
   refine wps he0.out rfl rfl (fun w1 hW hG=>?_) fun x60=>?_
   ·exact spc [IvV (⟨sn,sa,sl,sc,sb,sm',sd⟩,⟨tn,ta,tl,tc,tb,tm,td⟩)] Tryz.func75 ((bG ⟨sn,sa,sl,sc,sb,sm',sd⟩ ⟨tn,ta,tl,tc,tb,tm,td⟩ a b _ (HS.out.ext hW) (HT.out.ext hW)).imp (fun x w' h=>by rw [HVE.out];exact h.2))
   simp only [pS]
   repeat (refine wpq fun K h=>?_;go_big_quiet_op;refine h _ ?_;clear h K;(try simp only [hxb]))
   refine wps he0.out rfl rfl (fun w1 hW hG=>?_) fun x61=>?_
   ·have g60:=(hG 8 (by decide):ay _ _).get fun _ e g=>g.ext e
    exact spc [RH.v ⟨en,ea,el,ec,eb,em,ed⟩,x60.2.v] Tryz.func59 ((by have h:=il ⟨en,ea,el,ec,eb,em,ed⟩ x60.2 q v _ ((GE.out.ext hW).raw ZE.out (by omega)) (g60.raw ZB.out (by omega));rw [HCM.out] at h;exact h))
   simp only [pS]
   repeat (refine wpq fun K h=>?_;go_big_quiet_op;refine h _ ?_;clear h K;(try simp only [hxb]))
   refine wpF_nil ?_;intro w50 hI;have hE:=he0.out.trans hI.ext;have G60:=gT (hI.facts 8);clear hI he0 hz0 hc0 hf0
   refine mV8 hE ?_ HXn B3 B5 GE HX LA LX HS;clear HXn B3 B5 GE HX LA LX HS;intro HXn B3 B5 GE HX LA LX HS
   replace HT:=mV hE HT;have hs_w50:=hE.size;clear hE;replace b_B3:=Front.b3 B3;replace b_B5:=Front.b3 B5;simp only [pD];go_wp2
   go_ret
   exact ⟨(),by rw [HV.out];rfl,HX.out,trivial⟩
  have hin:(j:Int)<xn:=by omega
  obtain ⟨bw,off,r1,t1,hao,hbl,⟨f1,f2,f3,f4,f5,f6⟩,R1,R2⟩:=LX.out.at (k:=j) (by omega);have Zx1:=Hi (ZQ.out.at (i:=2*j) (by rw [HQl.out];omega));have Zx2:=Hi (ZQ.out.at (i:=2*j+1) (by rw [HQl.out];omega));rw [ph (by rw [HQl.out];omega)] at HCK;obtain ⟨x1,hx1⟩:∃ x,x=qs.getD (2*j) 0:=⟨_,rfl⟩;obtain ⟨x2,hx2⟩:∃ x,x=qs.getD (2*j+1) 0:=⟨_,rfl⟩;rw [←hx1] at R1 Zx1 HCK;rw [←hx2] at R2 Zx2 HCK;obtain ⟨rn,ra,rl,rc,rb,rm,rd⟩:=r1;obtain ⟨kn,ka,kl,kc,kb,km,kd⟩:=t1;simp only at f1 f2 f3 f4 f5 f6;have RP:=Hi R1;have RK:=Hi R2;subst hao;clear R1 R2 hx1 hx2
  go_upto_region 7 with fail
  refine nmA ?_;intro w40 hE B7 hz_w40 hr_w40;refine mV8 hE ?_ HXn B3 B5 GE HX LA LX HS;clear HXn B3 B5 GE HX LA LX HS;intro HXn B3 B5 GE HX LA LX HS;refine mV3 hE ?_ HT RP RK;clear HT RP RK;intro HT RP RK;have hs_w40:=hE.size;clear hE;replace b_B3:=Front.b3 B3;replace b_B5:=Front.b3 B5;replace b_B7:=Front.b3 B7;clear f1 f2 f3 f4 f5 f6;have p7:wr.heap.size<w40.heap.size:=b_B7.2.2
  go_wp2_with fail
  refine cM (bG ⟨rn,ra,rl,rc,rb,rm,rd⟩ ⟨kn,ka,kl,kc,kb,km,kd⟩ x1 x2 _ RP.out RK.out) fun x23 w23 hE G23=>?_
  refine mV8 hE ?_ B7 HXn B3 B5 GE HX LA LX;clear B7 HXn B3 B5 GE HX LA LX;intro B7 HXn B3 B5 GE HX LA LX
  refine mV4 hE ?_ HS HT RP RK;clear HS HT RP RK;intro HS HT RP RK
  have hs_w23:=hE.size;clear hE;replace b_B3:=Front.b3 B3;replace b_B5:=Front.b3 B5;replace b_B7:=Front.b3 B7;obtain ⟨⟨cn,ca,cl,cc,cb,cm,cd⟩,⟨dn,da,dl,dc,db,dm,dd⟩⟩:=x23;have HC:=Hi G23.out.1;have HD:=Hi G23.out.2;clear G23;simp only at HC HD;clear RP;clear RK;clear LA;clear LX;have ZC:=Hi (kD Zx1.out Zx2.out);have ZD:=Hi (kF Zx1.out Zx2.out);have hcd:=kE x1 x2;obtain ⟨c1,hc1⟩:∃ c,c=loV x1 x2:=⟨_,rfl⟩;obtain ⟨d1,hd1'⟩:∃ c,c=hiV x1 x2:=⟨_,rfl⟩;rw [←hc1,←hd1'] at HCK hcd;rw [←hc1] at HC ZC;rw [←hd1'] at HD ZD;have HCD:=Hi hcd;clear hc1 hd1' hcd;obtain ⟨b7,hb7⟩:∃ x,x=wr.heap.size:=⟨_,rfl⟩;rw [←hb7] at B7;have n57:b5<b7:=by omega
  have q7:w13.heap.size≤b7:=by omega
  have q7w:w.heap.size≤b7:=by omega
  have q37:b3<b7:=by omega
  rw [←hb7];clear hb7;replace b_B3:=Front.b3 B3;replace b_B5:=Front.b3 B5;replace b_B7:=Front.b3 B7
  go_upto_region 8 with fail
  refine bK B7.out rfl ?_;intro w41 T;replace HX:=Hi (T.ext HX.out (by omega));replace HXn:=Hi (T.ext HXn.out (by omega));replace B3:=Hi (T.rest _ _ (by omega) B3.out);replace B5:=Hi (T.rest _ _ (by omega) B5.out);replace GE:=Hi (GE.out.keep T.keep);replace HS:=Hi (HS.out.keep T.keep);replace HT:=Hi (HT.out.keep T.keep);replace B7:=Hi (T.bx);replace HC:=Hi (HC.out.keep T.keep);replace HD:=Hi (HD.out.keep T.keep);have hs_w41:=nle T.size;have hr_w41:=nle T.size.symm;clear T;replace b_B3:=Front.b3 B3;replace b_B5:=Front.b3 B5;replace b_B7:=Front.b3 B7;have LA:=Hi (LA9.out.ext HXn.out)
  go_wp2_with fail
  refine cM (il ⟨cn,ca,cl,cc,cb,cm,cd⟩ ⟨en,ea,el,ec,eb,em,ed⟩ c1 q _ (HC.out.raw ZC.out (by omega)) (GE.out.raw ZE.out (by omega))) fun x27 w27 hE _=>?_
  refine mV8 hE ?_ HX HXn B3 B5 GE HS HT B7;clear HX HXn B3 B5 GE HS HT B7;intro HX HXn B3 B5 GE HS HT B7
  refine mV3 hE ?_ HC HD LA;clear HC HD LA;intro HC HD LA
  have hs_w27:=hE.size;clear hE;replace b_B3:=Front.b3 B3;replace b_B5:=Front.b3 B5;replace b_B7:=Front.b3 B7;by_cases h2:c1=q
  case neg =>
   have HV:Hid (r=22):=Hi (by rw [HR.out];exact rQ (by rw [HCK.out,mi,decide_eq_false h2];rfl));have hc:¬ dM c1 q=0:=fun h=>h2 (eE.1 h)
   obtain ⟨c,e⟩:∃ c,c=dM c1 q:=⟨_,rfl⟩;rw [←e] at hc ⊢;have hcb:(c == 0)=false:=by rw [beq_eq_false_iff_ne];exact hc
   clear e h2;go_wp2
   go_ret
   exact ⟨(),by rw [HV.out];rfl,HX.out,trivial⟩
  have HCK2:Hid (ckV (tz l) u (tps qs) v=(psV (tz l) c1 d1 && ckV (tz l) d1 ((tps qs).drop (j+1)) v)):=Hi (by rw [HCK.out,mi,decide_eq_true h2,Bool.true_and]);rw [eE.2 h2];clear h2 HCK
  go_wp2_with fail
  refine cM ((by have h:=sH ao n cap l ⟨cn,ca,cl,cc,cb,cm,cd⟩ ⟨dn,da,dl,dc,db,dm,dd⟩ c1 d1 S T _ LA.out (HC.out.raw ZC.out (by omega)) (HD.out.raw ZD.out (by omega)) hn h8 HZ.out ZC.out ZD.out hS hT1 hT;rw [gL HCD.out,gN HCD.out] at h;exact h)) fun x32 w32 hE _=>?_
  refine mV8 hE ?_ HX HXn B3 B5 GE HS HT B7;clear HX HXn B3 B5 GE HS HT B7;intro HX HXn B3 B5 GE HS HT B7
  refine mV3 hE ?_ HC HD LA;clear HC HD LA;intro HC HD LA
  have hs_w32:=hE.size;clear hE;replace b_B3:=Front.b3 B3;replace b_B5:=Front.b3 B5;replace b_B7:=Front.b3 B7;obtain ⟨pv,hpv⟩:∃ pv,pv=psV (tz l) c1 d1:=⟨_,rfl⟩;rw [←hpv] at HCK2 ⊢;clear hpv;cases pv with
  | false =>
   have HV:Hid (r=22):=Hi (by rw [HR.out];exact rQ (by rw [HCK2.out];rfl));go_wp2
   go_ret
   exact ⟨(),by rw [HV.out];rfl,HX.out,trivial⟩
  | true =>
  clear LA
  go_upto_region 11 with fail
  refine aI B5.out rfl ?_;intro w60 T;replace HX:=Hi (T.ext HX.out (by omega));replace HXn:=Hi (T.ext HXn.out (by omega));replace B3:=Hi (T.rest _ _ (by omega) B3.out);replace B5:=Hi (T.bx);replace GE:=Hi (GE.out.keep T.keep);replace HS:=Hi (HS.out.keep T.keep);replace HT:=Hi (HT.out.keep T.keep);replace B7:=Hi (T.rest _ _ (by omega) B7.out);replace HC:=Hi (HC.out.keep T.keep);replace HD:=Hi (HD.out.keep T.keep);have hs_w60:=nle T.size;have hr_w60:=nle T.size.symm;clear T;replace b_B3:=Front.b3 B3;replace b_B5:=Front.b3 B5;replace b_B7:=Front.b3 B7;go_wp2
  go_roundg (gk-1)
  case measure=>omega
  case rel=>exact ⟨j+1,⟨dn,da,dl,dc,db,dm,dd⟩,d1,by omega,by go_num,HXn.out,B5.out,HD.out,ZD.out,by rw [HCK2.out,Bool.true_and]⟩
end Go.Proofs.YtofhkmcllihgmaaGreat
/- tall of the law 07. -/
set_option linter.unusedVariables false
namespace Go.Proofs.YtofhkmcllihgmaaGreat
open Go.RowKit Go.Front Go.Num Stab
attribute [local go_sem] XW.cell XW.frozen
def vH(xs:List Int)(n:Int):List Rat:=if n % 3=0 then eQ xs 3 else cG (aD (eQ xs 3) (eQ xs 3)) [((1+n % 9:Int):Rat) / ((8:Int):Rat)]
theorem Aq:∀ m:Nat,m<9→(((1+(m:Int):Int):Rat) / ((8:Int):Rat)).num.natAbs<W32∧(((1+(m:Int):Int):Rat) / ((8:Int):Rat)).den<W32:=by decide +kernel
theorem yK(n:Int):Sz 1 (((1+n % 9:Int):Rat) / ((8:Int):Rat)):=by
 have e1:=Int.emod_nonneg n (show (9:Int)≠0 by decide);have e2:=Int.emod_lt_of_pos n (show (0:Int)<9 by decide);have h:=Aq (n % 9).toNat (by omega);rw [show (((n % 9).toNat:Nat):Int)=n % 9 by omega] at h;exact ⟨by rw [Nat.pow_one];exact h.1,by rw [Nat.pow_one];exact h.2⟩
theorem sk(xs:List Int)(n:Int):(vH xs n).length≤8∧tz (vH xs n)=vH xs n∧FrB 20 (vH xs n):=by
 have hl:(eQ xs 3).length≤4:=by
  unfold eQ;refine Nat.le_trans (aj _) ?_;rw [List.length_map,List.length_take];omega
 have hz:SzL 1 (eQ xs 3):=SzL.tz (jR _);have hf:FrB 6 (eQ xs 3):=(FrB.of hz hl).mono (by decide);have hc:FrB 3 [((1+n % 9:Int):Rat) / ((8:Int):Rat)]:=(FrB.of (jC (yK n)) (n:=1) (Nat.le_refl 1)).mono (by decide);unfold vH;split
 ·exact ⟨by omega,bi _,hf.mono (by decide)⟩
 ·have hm:=hf.mul hf (by omega);have hml:=jj (eQ xs 3) (eQ xs 3);refine ⟨?_,bi _,(hm.add hc).mono (by decide)⟩;unfold cG;refine Nat.le_trans (aj _) ?_;simp only [List.length_map,List.length_range,List.length_cons,List.length_nil];omega
set_option maxRecDepth 8000 in
set_option maxHeartbeats 8000000 in
theorem vG(ao:Option Addr)(cap:Nat)(xs:List Int)(n:Int)(w:World)(h:cZ w ao xs)(hr:InR xs)(hl:xs.length≤9223372036854775807)(hc:xs.length≤cap)(hcm:cap≤9223372036854775807)
 (a1:-9223372036854775808≤n)(a2:n≤9223372036854775807) :
  au 26 [.slice ao xs.length cap,.int .i64 n] w SH.v (fun x w'=>ce w' x (vH xs n)):=by
 have HX:=Hi (Ext.refl w);have HPo:Hid (au 19 [.slice ao xs.length cap,.int .i64 ((3:Nat):Int)] w SH.v (fun s w'=>dA w.heap.size w' s (eQ xs 3))):=Hi (we ao cap 3 xs w h hr hl (by decide) hc hcm);have HTV:Hid (vH xs n=if n % 3=0 then eQ xs 3 else cG (aD (eQ xs 3) (eQ xs 3)) [((1+n % 9:Int):Rat) / ((8:Int):Rat)]):=Hi rfl;have hql:(eQ xs 3).length≤4:=by
  unfold eQ;refine Nat.le_trans (aj _) ?_;rw [List.length_map,List.length_take];omega
 have ZQ:Hid (SzL 1 (eQ xs 3)):=Hi (SzL.tz (jR _));have FQ:Hid (FrB 6 (eQ xs 3)):=Hi ((FrB.of (SzL.tz (jR _)) hql).mono (by decide));obtain ⟨k,hk⟩:∃ k,k=xs.length:=⟨_,rfl⟩;obtain ⟨p,hp⟩:∃ p,p=eQ xs 3:=⟨_,rfl⟩;obtain ⟨tv,htv⟩:∃ tv,tv=vH xs n:=⟨_,rfl⟩;rw [←hk,←hp] at HPo;rw [←hp,←htv] at HTV;rw [←hp] at hql ZQ FQ;rw [←hk,←htv];have ZF:=Hi (yK n);have e9:=Int.emod_nonneg n (show (9:Int)≠0 by decide);have e9':=Int.emod_lt_of_pos n (show (0:Int)<9 by decide);obtain ⟨m3,hm3⟩:∃ m,m=n % 3:=⟨_,rfl⟩;obtain ⟨m9,hm9⟩:∃ m,m=n % 9:=⟨_,rfl⟩;rw [←hm3,←hm9] at HTV;rw [←hm9] at ZF e9 e9';have H3:=Hi hm3;have H9:=Hi hm9;clear hk hp htv hm3 hm9 h hr hl hc hcm;unfold au;go_enter Tryz.func26,Tryz.ntmps26
 go_wp2_with fail
 refine cM (HPo.out) fun x7 w7 hE G7=>?_
 replace HX:=hE.tr HX;have hs_w7:=hE.size;clear hE;obtain ⟨pa,pn,pc⟩:=x7;have LP:=Hi (dA.can G7.out);clear G7;have hpn:pn≤4:=by have e:p.length=pn:=LP.out.len;omega
 simp only [SH.v]
 go_wp2_with fail
 refine cM (fk n 3 _ a1 a2 (by decide) (by decide)) fun x9 w9 hE _=>?_
 refine mV2 hE ?_ HX LP;clear HX LP;intro HX LP;have hs_w9:=hE.size;clear hE;rw [←H3.out];by_cases h3:m3=0
 case pos =>
  subst h3;have HV:Hid (tv=p):=Hi (by rw [HTV.out];exact if_pos rfl);go_wp2
  go_ret
  exact ⟨⟨pa,pn,pc⟩,rfl,HX.out,by rw [HV.out];exact LP.out⟩
 have HV:Hid (tv=cG (aD p p) [((1+m9:Int):Rat) / ((8:Int):Rat)]):=Hi (by rw [HTV.out];exact if_neg h3);have h3b:(m3 == 0)=false:=by rw [beq_eq_false_iff_ne];exact h3
 go_wp2_with fail
 refine cM (wI pa pa pn pc pn pc p p 1 _ (LP.out.raw ZQ.out (by decide)) (LP.out.raw ZQ.out (by decide)) (by omega) (by omega) ZQ.out ZQ.out (by decide)) fun x14 w14 hE G14=>?_
 refine mV2 hE ?_ HX LP;clear HX LP;intro HX LP;have hs_w14:=hE.size;clear hE;obtain ⟨qa,qn,qc⟩:=x14;have LQ:=Hi (dA.can G14.out);clear G14;have ZM:Hid (SzL 400 (aD p p)):=Hi ((FQ.out.mul FQ.out (by omega)).sz.mono (by decide));have hml:(aD p p).length≤8:=by have:=jj p p;omega
 have hqn:qn≤8:=by have e:=LQ.out.len;simp only at e;omega
 clear hml;simp only [SH.v]
 go_wp2_with fail
 refine cM (fk n 9 _ a1 a2 (by decide) (by decide)) fun x16 w16 hE _=>?_
 refine mV3 hE ?_ HX LP LQ;clear HX LP LQ;intro HX LP LQ;have hs_w16:=hE.size;clear hE;rw [←H9.out]
 go_wp2_with fail
 refine cM (cN (1+m9) 8 _ (by omega) (by omega) (by decide) (by decide)) fun x18 w18 hE G18=>?_
 refine mV3 hE ?_ HX LP LQ;clear HX LP LQ;intro HX LP LQ
 have hs_w18:=hE.size;clear hE
 go_wp2_with fail
 refine nmA (F:=fun W=>Calls _ _ _ W _) ?_;intro w19 hE B19 hz_w19 hr_w19
 refine mV4 hE ?_ G18 HX LP LQ;clear G18 HX LP LQ;intro G18 HX LP LQ
 have hs_w19:=hE.size;clear hE;replace b_B19:=Front.b3 B19
 change Calls _ _ _ _ _
 have L1:Hid (ce w19 ⟨some ⟨w18.heap.size,0,none⟩,1,1⟩ [((1+m9:Int):Rat) / ((8:Int):Rat)]):=Hi (Cu B19.out G18.out)
 (try clear b_B19);clear B19
 clear G18;refine cM (qM qa (some ⟨w18.heap.size,0,none⟩) qn qc 1 1 _ _ _ (LQ.out.raw ZM.out (by decide)) (L1.out.raw (jC ZF.out) (by decide)) (by omega) (by decide) (ZM.out.mono (by decide)) ((jC ZF.out).mono (by decide))) fun x20 w20 hE G20=>?_
 refine mV4 hE ?_ HX LP LQ L1;clear HX LP LQ L1;intro HX LP LQ L1
 have hs_w20:=hE.size;clear hE;go_wp2
 go_ret
 exact ⟨x20,rfl,HX.out,by rw [HV.out];exact dA.can G20.out⟩
end Go.Proofs.YtofhkmcllihgmaaGreat
