/- integer.Div by a positive number, rational.Floor. -/
import Derived.Test.YtohahgiidooijaaGreatQNM3
import Derived.Test.YtohahgiidooijaaGreatQNK1
import Derived.Test.YtohahgiidooijaaGreatQNM1
set_option linter.unusedVariables false
set_option maxHeartbeats 4000000
set_option maxRecDepth 8000
namespace Go.Proofs.YtohahgiidooijaaGreat
open Go.RowKit Go.Front Go.Num
attribute [local go_sem] XW.cell XW.frozen
theorem jZ{w:World}{a b c d:Obj}{F:World→Prop}(h:∀ w2,Ext w w2→w2.heap[w.heap.size]?=some a→w2.heap[w.heap.size+1]?=some b→w2.heap[w.heap.size+2]?=some c→w2.heap[w.heap.size+3]?=some d→w2.heap.size=w.heap.size+4→F w2):F ((((w.alloc a).alloc b).alloc c).alloc d):=by
 have e3:(((w.alloc a).alloc b).alloc c).heap.size=w.heap.size+3:=by simp
 have hx:Ext (((w.alloc a).alloc b).alloc c) ((((w.alloc a).alloc b).alloc c).alloc d):=Ext.alloc _ _;refine h _ (Ext.al3.trans hx) (hx.block kR) (hx.block ik) (hx.block m8) ?_ (by simp);rw [←e3];exact heap_alloc_new _ _
theorem nZ{w:World}{a b c d:Obj}{F:World→Prop}(h:∀ w2,Ext w w2→RowKit.Hid (w2.heap[w.heap.size]?=some a)→RowKit.Hid (w2.heap[w.heap.size+1]?=some b)→RowKit.Hid (w2.heap[w.heap.size+2]?=some c)→RowKit.Hid (w2.heap[w.heap.size+3]?=some d)→w2.heap.size≤w.heap.size+4→w.heap.size+4≤w2.heap.size→F w2):F ((((w.alloc a).alloc b).alloc c).alloc d):=jZ fun w2 e h0 h1 h2 h3 hz=>h w2 e h0 h1 h2 h3 (Nat.le_of_eq hz) (Nat.le_of_eq hz.symm)
theorem lj{w:World}{b:Nat}{T:TypeId}(h:w.heap[b]?=some (.cells #[.int .u32 1] T (0,0))):U32 w (some ⟨b,0,none⟩) 1 1 [1] :=
 by
 refine ⟨rfl,nXd _,by decide,?_,Or.inr ⟨b,0,rfl,fun k hk=>?_⟩⟩
 ·intro d hd;have:d=1:=by simpa using hd
  rw [this];decide
 ·obtain rfl:k=0:=by omega
  rw [ab h];rfl
abbrev DvV(p:IH×IH):Value:=.tuple #[p.1.v,p.2.v,.int .i64 0]
theorem lM(a b:Nat):(sg false a) / (b:Int)=sg false (a / b):=by
 simp [sg]
theorem iM{a b:Nat}(hb:b≠0):(sg true a) / (b:Int)=sg true (if a % b=0 then a / b else a / b+1):=by
 simp only [sg,if_true];have h1:=Nat.div_add_mod a b;have h2:=Nat.mod_lt a (Nat.pos_of_ne_zero hb);have h3:(a:Int)=b*(a / b:Nat)+(a % b:Nat):=by exact_mod_cast h1.symm
 split
 ·rename_i h
  rw [h] at h3;rw [h3];have:-((b:Int)*((a / b:Nat):Int)+((0:Nat):Int))=(b:Int)*(-((a / b:Nat):Int)):=by simp [Int.mul_neg]
  rw [this,Int.mul_ediv_cancel_left _ (by omega)]
 ·rename_i h
  have e:-(a:Int)=(b:Int)*(-((a / b+1:Nat):Int))+((b:Int)-(a % b:Nat)):=by
   rw [h3];push_cast;rw [Int.mul_neg,Int.mul_add];omega
  rw [e,Int.mul_comm,Int.add_ediv_of_dvd_left (Int.dvd_mul_left ..),Int.mul_ediv_cancel _ (by omega),Int.ediv_eq_zero_of_lt (by omega) (by omega)];simp
theorem jm(neg:Bool)(ao:Option Addr)(n c:Nat)(bo:Option Addr)(m d:Nat)(ds es:List Nat)(w:World)(hU:U32 w ao n c ds)(kU:U32 w bo m d es)(hn:n≤134217728)(kn:m≤134217728)(hy:val es≠0) :
  av 167 [IH.v ⟨neg,ao,n,c⟩,IH.v ⟨false,bo,m,d⟩] w DvV (fun p w'=>aV w' p.1 (sg neg (val ds) / (val es:Int))):=by
 have HX:=Hi (Ext.refl w);have HU:Hid (SH.U ⟨ao,n,c⟩ w ds):=Hi hU;have KU:Hid (SH.U ⟨bo,m,d⟩ w es):=Hi kU;have HY:=Hi hy;have hL:(digs (val ds / val es)).length≤134217728:=by
  have h1:=aN (nXz (Nat.div_le_self (val ds) (val es)) (aE hU.dig));have:=hU.len;omega
 have HL:=Hi hL;clear hU kU hy hL;unfold av;go_enter Tryz.func167,Tryz.ntmps167
 go_upto_region 1 with fail
 refine nZ ?_;intro w1 hE B1 B2 B3 B4 hz_w1 hr_w1;refine mV3 hE ?_ HX HU KU;clear HX HU KU;intro HX HU KU;have hs_w1:=hE.size;clear hE;replace b_B1:=bX3 B1;replace b_B2:=bX3 B2;replace b_B3:=bX3 B3;replace b_B4:=bX3 B4
 go_wp2_with fail
 refine cM (bP ⟨ao,n,c⟩ ⟨bo,m,d⟩ ds es _ HU.out KU.out (by show n≤_;omega) HY.out) fun x2 w2 hE G2=>?_
 refine mV7 hE ?_ B1 B2 B3 B4 HX HU KU;clear B1 B2 B3 B4 HX HU KU;intro B1 B2 B3 B4 HX HU KU;have hs_w2:=hE.size;clear hE;replace b_B1:=bX3 B1;replace b_B2:=bX3 B2;replace b_B3:=bX3 B3;replace b_B4:=bX3 B4;obtain ⟨⟨qa,qn,qc⟩,⟨ra,rn,rc⟩⟩:=x2;have Q:Hid (SH.U ⟨qa,qn,qc⟩ w2 (digs (val ds / val es))):=Hi G2.out.1;have R:Hid (SH.U ⟨ra,rn,rc⟩ w2 (digs (val ds % val es))):=Hi G2.out.2;have hrl:(digs (val ds % val es)).length=rn:=R.out.len;have hrn:rn=0↔val ds % val es=0:=by rw [←hrl,nXi,aI]
 have hql:(digs (val ds / val es)).length=qn:=Q.out.len;have hqn:qn≤134217728:=by rw [←hql];exact HL.out
 have HRn:=Hi hrn;clear G2 hrn hrl hql;cases neg
 ·
  have HZ:Hid (sg false (val ds) / (val es:Int)=sg false (val ds / val es)):=Hi (lM _ _)
  go_wp2_with fail
  refine cM (aK false qa qn qc (val ds / val es) _ Q.out _ HZ.out) fun x3 w3 hE G3=>?_
  refine mV8 hE ?_ B1 B2 B3 B4 HX HU KU Q;clear B1 B2 B3 B4 HX HU KU Q;intro B1 B2 B3 B4 HX HU KU Q;replace R:=mV hE R;have hs_w3:=hE.size;clear hE;replace b_B1:=bX3 B1;replace b_B2:=bX3 B2;replace b_B3:=bX3 B3;replace b_B4:=bX3 B4
  go_wp2_with fail
  refine cM (aK false ra rn rc (val ds % val es) _ R.out (sg false (val ds % val es)) rfl) fun x4 w4 hE G4=>?_
  refine mV8 hE ?_ G3 B1 B2 B3 B4 HX HU KU;clear G3 B1 B2 B3 B4 HX HU KU;intro G3 B1 B2 B3 B4 HX HU KU;refine mV2 hE ?_ Q R;clear Q R;intro Q R;have hs_w4:=hE.size;clear hE;replace b_B1:=bX3 B1;replace b_B2:=bX3 B2;replace b_B3:=bX3 B3;replace b_B4:=bX3 B4;go_wp2;clear Q;clear R;clear HU;clear KU;refine bB (F:=fun W=>bodyPost _ _ _ _ _ ((W.setCell ⟨_,0,none⟩ _).setCell ⟨_,1,none⟩ _)) B3.out rfl ?_;intro y1 T;replace HX:=Hi (T.ext HX.out (by omega));replace B1:=Hi (T.rest _ _ (by omega) B1.out);replace B2:=Hi (T.rest _ _ (by omega) B2.out);replace B3:=Hi (T.bx);replace B4:=Hi (T.rest _ _ (by omega) B4.out);replace G3:=Hi (G3.out.keep T.keep);replace G4:=Hi (G4.out.keep T.keep);have hs_y1:=nle T.size;have hr_y1:=nle T.size.symm;clear T;replace b_B1:=bX3 B1;replace b_B2:=bX3 B2;replace b_B3:=bX3 B3;replace b_B4:=bX3 B4;refine bB (F:=fun W=>bodyPost _ _ _ _ _ W) B4.out rfl ?_;intro y2 T;replace HX:=Hi (T.ext HX.out (by omega));replace B1:=Hi (T.rest _ _ (by omega) B1.out);replace B2:=Hi (T.rest _ _ (by omega) B2.out);replace B3:=Hi (T.rest _ _ (by omega) B3.out);replace B4:=Hi (T.bx);replace G3:=Hi (G3.out.keep T.keep);replace G4:=Hi (G4.out.keep T.keep);have hs_y2:=nle T.size;have hr_y2:=nle T.size.symm;clear T;replace b_B1:=bX3 B1;replace b_B2:=bX3 B2;replace b_B3:=bX3 B3;replace b_B4:=bX3 B4;exact bodyPost_ret (v:=DvV (x3,x4)) (by simp [results,Tryz.results167,go_sem,ab B3.out,ab B4.out]) rfl ⟨(x3,x4),rfl,HX.out,G3.out⟩
 ·by_cases h0:rn=0
  ·
   have HZ:Hid (sg true (val ds) / (val es:Int)=sg true (val ds / val es)):=Hi (by rw [iM HY.out,if_pos (HRn.out.1 h0)]);subst h0
   go_wp2_with fail
   refine cM (aK true qa qn qc (val ds / val es) _ Q.out _ HZ.out) fun x3 w3 hE G3=>?_
   refine mV8 hE ?_ HU KU Q R HX B1 B2 B3;clear HU KU Q R HX B1 B2 B3;intro HU KU Q R HX B1 B2 B3;replace B4:=mV hE B4;have hs_w3:=hE.size;clear hE;replace b_B1:=bX3 B1;replace b_B2:=bX3 B2;replace b_B3:=bX3 B3;replace b_B4:=bX3 B4
   go_wp2_with fail
   refine cM (aK false ra 0 rc (val ds % val es) _ R.out (sg false (val ds % val es)) rfl) fun x4 w4 hE G4=>?_
   refine mV8 hE ?_ G3 HU KU Q R HX B1 B2;clear G3 HU KU Q R HX B1 B2;intro G3 HU KU Q R HX B1 B2;refine mV2 hE ?_ B3 B4;clear B3 B4;intro B3 B4;have hs_w4:=hE.size;clear hE;replace b_B1:=bX3 B1;replace b_B2:=bX3 B2;replace b_B3:=bX3 B3;replace b_B4:=bX3 B4;go_wp2;clear Q;clear R;clear HU;clear KU;refine bB (F:=fun W=>bodyPost _ _ _ _ _ ((W.setCell ⟨_,0,none⟩ _).setCell ⟨_,1,none⟩ _)) B3.out rfl ?_;intro y1 T;replace HX:=Hi (T.ext HX.out (by omega));replace B1:=Hi (T.rest _ _ (by omega) B1.out);replace B2:=Hi (T.rest _ _ (by omega) B2.out);replace B3:=Hi (T.bx);replace B4:=Hi (T.rest _ _ (by omega) B4.out);replace G3:=Hi (G3.out.keep T.keep);replace G4:=Hi (G4.out.keep T.keep);have hs_y1:=nle T.size;have hr_y1:=nle T.size.symm;clear T;replace b_B1:=bX3 B1;replace b_B2:=bX3 B2;replace b_B3:=bX3 B3;replace b_B4:=bX3 B4;refine bB (F:=fun W=>bodyPost _ _ _ _ _ W) B4.out rfl ?_;intro y2 T;replace HX:=Hi (T.ext HX.out (by omega));replace B1:=Hi (T.rest _ _ (by omega) B1.out);replace B2:=Hi (T.rest _ _ (by omega) B2.out);replace B3:=Hi (T.rest _ _ (by omega) B3.out);replace B4:=Hi (T.bx);replace G3:=Hi (G3.out.keep T.keep);replace G4:=Hi (G4.out.keep T.keep);have hs_y2:=nle T.size;have hr_y2:=nle T.size.symm;clear T;replace b_B1:=bX3 B1;replace b_B2:=bX3 B2;replace b_B3:=bX3 B3;replace b_B4:=bX3 B4;exact bodyPost_ret (v:=DvV (x3,x4)) (by simp [results,Tryz.results167,go_sem,ab B3.out,ab B4.out]) rfl ⟨(x3,x4),rfl,HX.out,G3.out⟩
  ·have HZ:Hid (sg true (val ds) / (val es:Int)=sg true (val ds / val es+1)):=Hi (by rw [iM HY.out,if_neg (fun h=>h0 (HRn.out.2 h))]);have hb:decide (0<(rn:Int))=true:=by simp;omega
   have hrm:rn≤1073741824:=by
    have h1:=aN (nXz (Nat.mod_le (val ds) (val es)) (aE HU.out.dig));have h3:=HU.out.len;have h4:(digs (val ds % val es)).length=rn:=R.out.len;omega
   go_wp2_with fail
   refine nmA (F:=fun W=>Calls _ _ _ W _) ?_;intro y1 hE B5 hz_y1 hr_y1;refine mV8 hE ?_ HU KU Q R HX B1 B2 B3;clear HU KU Q R HX B1 B2 B3;intro HU KU Q R HX B1 B2 B3;replace B4:=mV hE B4;have hs_y1:=hE.size;clear hE;replace b_B1:=bX3 B1;replace b_B2:=bX3 B2;replace b_B3:=bX3 B3;replace b_B4:=bX3 B4;replace b_B5:=bX3 B5
   change Calls _ _ _ _ _
   have U5:=lj B5.out;refine cM (iS ⟨qa,qn,qc⟩ ⟨some ⟨w2.heap.size,0,none⟩,1,1⟩ _ [1] _ Q.out U5 (by show qn≤_;omega) (by show 1≤_;omega)) fun x3 w3 hE G3=>?_
   refine mV8 hE ?_ B5 HU KU Q R HX B1 B2;clear B5 HU KU Q R HX B1 B2;intro B5 HU KU Q R HX B1 B2;refine mV2 hE ?_ B3 B4;clear B3 B4;intro B3 B4;have hs_w3:=hE.size;clear hE;replace b_B1:=bX3 B1;replace b_B2:=bX3 B2;replace b_B3:=bX3 B3;replace b_B4:=bX3 B4;replace b_B5:=bX3 B5;obtain ⟨sa,sn,sc⟩:=x3
   go_wp2_with fail
   refine cM (fk ⟨bo,m,d⟩ ⟨ra,rn,rc⟩ es _ _ KU.out R.out (by show m≤_;omega) hrm) fun x4 w4 hE G4=>?_
   refine mV8 hE ?_ G3 B5 HU KU Q R HX B1;clear G3 B5 HU KU Q R HX B1;intro G3 B5 HU KU Q R HX B1;refine mV3 hE ?_ B2 B3 B4;clear B2 B3 B4;intro B2 B3 B4;have hs_w4:=hE.size;clear hE;replace b_B1:=bX3 B1;replace b_B2:=bX3 B2;replace b_B3:=bX3 B3;replace b_B4:=bX3 B4;replace b_B5:=bX3 B5;obtain ⟨ta,tn,tc⟩:=x4;have e1:val (digs (val ds / val es))+val [1]=val ds / val es+1:=by rw [af];rfl
   have P3:Hid (U32 w4 sa sn sc (digs (val ds / val es+1))):=Hi (e1 ▸ G3.out)
   go_wp2_with fail
   refine cM (aK true sa sn sc (val ds / val es+1) _ P3.out _ HZ.out) fun x5 w5 hE G5=>?_
   refine mV8 hE ?_ G4 G3 B5 HU KU Q R HX;clear G4 G3 B5 HU KU Q R HX;intro G4 G3 B5 HU KU Q R HX;refine mV5 hE ?_ B1 B2 B3 B4 P3;clear B1 B2 B3 B4 P3;intro B1 B2 B3 B4 P3;have hs_w5:=hE.size;clear hE;replace b_B1:=bX3 B1;replace b_B2:=bX3 B2;replace b_B3:=bX3 B3;replace b_B4:=bX3 B4;replace b_B5:=bX3 B5
   go_wp2_with fail
   refine cM (aK false ta tn tc (val es-val (digs (val ds % val es))) _ G4.out (sg false (val es-val (digs (val ds % val es)))) rfl) fun x6 w6 hE G6=>?_
   refine mV8 hE ?_ G5 G4 G3 B5 HU KU Q R;clear G5 G4 G3 B5 HU KU Q R;intro G5 G4 G3 B5 HU KU Q R;refine mV6 hE ?_ HX B1 B2 B3 B4 P3;clear HX B1 B2 B3 B4 P3;intro HX B1 B2 B3 B4 P3;have hs_w6:=hE.size;clear hE;replace b_B1:=bX3 B1;replace b_B2:=bX3 B2;replace b_B3:=bX3 B3;replace b_B4:=bX3 B4;replace b_B5:=bX3 B5;go_wp2;clear Q;clear R;clear HU;clear KU;clear G3;clear G4;clear P3;refine bB (F:=fun W=>bodyPost _ _ _ _ _ ((W.setCell ⟨_,0,none⟩ _).setCell ⟨_,1,none⟩ _)) B3.out rfl ?_;intro z1 T;replace HX:=Hi (T.ext HX.out (by omega));replace B1:=Hi (T.rest _ _ (by omega) B1.out);replace B2:=Hi (T.rest _ _ (by omega) B2.out);replace B3:=Hi (T.bx);replace B4:=Hi (T.rest _ _ (by omega) B4.out);replace B5:=Hi (T.rest _ _ (by omega) B5.out);replace G5:=Hi (G5.out.keep T.keep);replace G6:=Hi (G6.out.keep T.keep);have hs_z1:=nle T.size;have hr_z1:=nle T.size.symm;clear T;replace b_B1:=bX3 B1;replace b_B2:=bX3 B2;replace b_B3:=bX3 B3;replace b_B4:=bX3 B4;replace b_B5:=bX3 B5;refine bB (F:=fun W=>bodyPost _ _ _ _ _ W) B4.out rfl ?_;intro z2 T;replace HX:=Hi (T.ext HX.out (by omega));replace B1:=Hi (T.rest _ _ (by omega) B1.out);replace B2:=Hi (T.rest _ _ (by omega) B2.out);replace B3:=Hi (T.rest _ _ (by omega) B3.out);replace B4:=Hi (T.bx);replace B5:=Hi (T.rest _ _ (by omega) B5.out);replace G5:=Hi (G5.out.keep T.keep);replace G6:=Hi (G6.out.keep T.keep);have hs_z2:=nle T.size;have hr_z2:=nle T.size.symm;clear T;replace b_B1:=bX3 B1;replace b_B2:=bX3 B2;replace b_B3:=bX3 B3;replace b_B4:=bX3 B4;replace b_B5:=bX3 B5;exact bodyPost_ret (v:=DvV (x5,x6)) (by simp [results,Tryz.results167,go_sem,ab B3.out,ab B4.out]) rfl ⟨(x5,x6),rfl,HX.out,G5.out⟩
theorem lL(z:Int){D:Nat}(hD:D≠0):(mkRat z D).floor=z / (D:Int):=by
 have hD':(0:Rat)<(D:Rat):=Rat.natCast_pos.2 (Nat.pos_of_ne_zero hD);have key:∀ x:Int,x≤(mkRat z D).floor↔x≤z / (D:Int):=fun x=>by
  rw [Rat.le_floor_iff,Int.le_ediv_iff_mul_le (by omega),Rat.mkRat_eq_div,←Rat.not_lt,Rat.div_lt_iff hD',Rat.not_lt];rw [←Rat.intCast_le_intCast,Rat.intCast_mul];rfl
 exact Int.le_antisymm ((key _).1 (Int.le_refl _)) ((key _).2 (Int.le_refl _))
theorem dz(s:RH)(q:Rat)(w:World)(h:bX w s q):av 101 [s.v] w IH.v (fun x w'=>aV w' x q.floor):=by
 have HR:=Hi h;have HX:=Hi (Ext.refl w);obtain ⟨neg,ao,n,c,bo,m,d⟩:=s;clear h;unfold av;go_enter Tryz.func101,Tryz.ntmps101
 go_upto_region 1 with fail
 refine k9 ?_;intro w1 hE B1 B2 hz_w1 hr_w1;refine mV2 hE ?_ HR HX;clear HR HX;intro HR HX;have hs_w1:=hE.size;clear hE;replace b_B1:=bX3 B1;replace b_B2:=bX3 B2
 go_wp2_with fail
 refine cM (cf ⟨neg,ao,n,c,bo,m,d⟩ _ _ HR.out) fun x2 w2 hE G2=>?_
 refine mV4 hE ?_ B1 B2 HR HX;clear B1 B2 HR HX;intro B1 B2 HR HX;have hs_w2:=hE.size;clear hE;replace b_B1:=bX3 B1;replace b_B2:=bX3 B2;obtain ⟨⟨neg',ao',n',c',bo',m',d'⟩,wh⟩:=x2;obtain ⟨ds,es,u1,u2,hq,h0,-,l1,l2⟩:=G2.out;simp only at u1 u2 hq l1 l2;have U1:Hid (SH.U ⟨ao',n',c'⟩ w2 ds):=Hi u1;have U2:Hid (SH.U ⟨bo',m',d'⟩ w2 es):=Hi u2;have HQ:Hid (sg neg' (val ds) / (val es:Int)=q.floor):=Hi (by rw [hq,lL _ h0]);clear G2 u1 u2 hq;clear HR
 go_wp2_with fail
 refine nmA ?_;intro y1 hE B3 hz_y1 hr_y1;refine mV5 hE ?_ B1 B2 HX U1 U2;clear B1 B2 HX U1 U2;intro B1 B2 HX U1 U2;have hs_y1:=hE.size;clear hE;replace b_B1:=bX3 B1;replace b_B2:=bX3 B2;replace b_B3:=bX3 B3;refine ch [(14,10),(14,11),(15,11)] _ (by simp only [gI,iq,List.push_toArray,List.cons_append,List.nil_append];exact rfl) (by intro c a d v w h;cases d <;> exact h) 14 (fun opIx=>match opIx with
  | 6=>.spec Unit () (fun _=>IH.v ⟨false,bo',m',d'⟩) (fun _ _=>True)
  | 7=>.spec (IH×IH) (default) (DvV) (fun p w'=>aV w' p.1 (sg neg' (val ds) / (val es:Int)))
  | 12=>.alloc 28 #[.bool false,.slice none 0 0]
  | 13=>.alloc 28 #[.bool false,.slice none 0 0]
  | _=>.quiet) (fun _=>[]) (by kernel_rfl) (by kernel_rfl) (by kernel_rfl) (fun w0 he0 hz0 hc0 hf0=>?_)
 replace he0:=Hi he0;simp only [pT];refine qQ ?_;refine wps he0.out rfl rfl (fun w1 hW hG=>?_) fun x40=>?_
 ·exact spc [.slice bo' m' d'] Tryz.func168 (cK _ _ _ _)
 refine qZ ?_;refine wps he0.out rfl rfl (fun w1 hW hG=>?_) fun x41=>?_
 ·exact spc [IH.v ⟨neg',ao',n',c'⟩,IH.v ⟨false,bo',m',d'⟩] Tryz.func167 (jm neg' ao' n' c' bo' m' d' ds es _ (U1.out.ext hW) (U2.out.ext hW) l1 l2 h0)
 refine qZ ?_;refine bi rfl rfl (fun w=>by simp [execOp,go_sem,ptr]) (fun b42 hb42 hl42=>?_);refine qZ ?_;refine bi rfl rfl (fun w=>by simp [execOp,go_sem,ptr]) (fun b43 hb43 hl43=>?_);refine qZ ?_;refine am ?_;intro w3 hI;have hE:=he0.out.trans hI.ext;have G41:=gT (hI.facts 7);have A42:Hid (w3.heap[b42]?=some (.cells #[.bool false,.slice none 0 0] 28 (0,0))):=hI.facts 12;rw [hz0] at hl42;have A43:Hid (w3.heap[b43]?=some (.cells #[.bool false,.slice none 0 0] 28 (0,0))):=hI.facts 13;rw [hz0] at hl43;clear hI he0 hz0 hc0 hf0;refine mV6 hE ?_ B3 B1 B2 HX U1 U2;clear B3 B1 B2 HX U1 U2;intro B3 B1 B2 HX U1 U2;have hs_w3:=hE.size;clear hE;replace b_B1:=bX3 B1;replace b_B2:=bX3 B2;replace b_B3:=bX3 B3;replace b_A42:=bX3 A42;replace b_A43:=bX3 A43;simp only [pD,ptr];rw [HQ.out] at G41;clear U1;clear U2
 go_wp2_with fail
 refine bB (F:=fun W=>bodyPost _ _ _ _ _ ((((W.setCell ⟨_,0,none⟩ _).setCell ⟨_,1,none⟩ _).setCell ⟨_,0,none⟩ _).setCell ⟨_,1,none⟩ _)) A42.out rfl ?_;intro z1 T;replace HX:=Hi (T.ext HX.out (by omega));replace B1:=Hi (T.rest _ _ (by omega) B1.out);replace B2:=Hi (T.rest _ _ (by omega) B2.out);replace B3:=Hi (T.rest _ _ (by omega) B3.out);replace A42:=Hi (T.bx);replace A43:=Hi (T.rest _ _ (by omega) A43.out);replace G41:=Hi (G41.out.keep T.keep);have hs_z1:=nle T.size;have hr_z1:=nle T.size.symm;clear T;replace b_B1:=bX3 B1;replace b_B2:=bX3 B2;replace b_B3:=bX3 B3;replace b_A42:=bX3 A42;replace b_A43:=bX3 A43;refine bB (F:=fun W=>bodyPost _ _ _ _ _ ((W.setCell ⟨_,0,none⟩ _).setCell ⟨_,1,none⟩ _)) A43.out rfl ?_;intro z2 T;replace HX:=Hi (T.ext HX.out (by omega));replace B1:=Hi (T.rest _ _ (by omega) B1.out);replace B2:=Hi (T.rest _ _ (by omega) B2.out);replace B3:=Hi (T.rest _ _ (by omega) B3.out);replace A42:=Hi (T.rest _ _ (by omega) A42.out);replace A43:=Hi (T.bx);replace G41:=Hi (G41.out.keep T.keep);have hs_z2:=nle T.size;have hr_z2:=nle T.size.symm;clear T;replace b_B1:=bX3 B1;replace b_B2:=bX3 B2;replace b_B3:=bX3 B3;replace b_A42:=bX3 A42;replace b_A43:=bX3 A43;refine bB (F:=fun W=>bodyPost _ _ _ _ _ W) B2.out rfl ?_;intro z3 T;replace HX:=Hi (T.ext HX.out (by omega));replace B1:=Hi (T.rest _ _ (by omega) B1.out);replace B2:=Hi (T.bx);replace B3:=Hi (T.rest _ _ (by omega) B3.out);replace A42:=Hi (T.rest _ _ (by omega) A42.out);replace A43:=Hi (T.rest _ _ (by omega) A43.out);replace G41:=Hi (G41.out.keep T.keep);have hs_z3:=nle T.size;have hr_z3:=nle T.size.symm;clear T;replace b_B1:=bX3 B1;replace b_B2:=bX3 B2;replace b_B3:=bX3 B3;replace b_A42:=bX3 A42;replace b_A43:=bX3 A43;exact bodyPost_ret (v:=x41.1.v) (by simp [results,Tryz.results101,go_sem,ab B2.out]) rfl ⟨x41.1,rfl,HX.out,G41.out⟩
end Go.Proofs.YtohahgiidooijaaGreat
/- Word formats: Valid, Low, High, Fits (from seat r1). -/
namespace Go.Proofs.YtohahgiidooijaaGreat
open Go.RowKit Go.Front
attribute [local go_sem] XW.cell XW.frozen
def inB(v lo hi:Int):Bool:=decide (lo≤v∧v≤hi)
theorem np{v lo hi:Int}:inB v lo hi=true↔lo≤v∧v≤hi:=by simp [inB]
theorem dK{W w1:World}(hb:Below W.heap.size W w1):(∀ b o,b<W.heap.size→w1.cell? ⟨b,o,none⟩=W.cell? ⟨b,o,none⟩)∧(∀ b o,b<W.heap.size→w1.frozen? ⟨b,o,none⟩=W.frozen? ⟨b,o,none⟩) :=
 ⟨fun b o h=>hb.cell (p:=⟨b,o,none⟩) h,fun b o h=>hb.frozen (p:=⟨b,o,none⟩) h⟩
theorem l6(v lo hi:Int)(w:World) :
  Calls Tryz.prog 106 #[.int .i64 v,.int .i64 lo,.int .i64 hi] w fun e w'=>e=.returned (.bool (inB v lo hi))∧w=w':=by
 go_enter Tryz.func106,Tryz.ntmps106;go_wp2
 all_goals go_ret
 all_goals exact ⟨aZ (by simp [inB];omega),rfl⟩

theorem lE(v:Int)(w:World) :
  Calls Tryz.prog 99 #[.int .i64 v] w fun e w'=>e=.returned (.bool (inB v 1 3))∧w=w':=by
 go_enter Tryz.func99,Tryz.ntmps99;go_wp2
 all_goals go_ret
 all_goals exact ⟨aZ (by simp [inB];omega),rfl⟩

structure Wd where
 b:Int
 f:Int
 r:Int
 o:Int
abbrev Wd.v(x:Wd):Value:=.agg #[.int .i64 x.b,.int .i64 x.f,.int .i64 x.r,.int .i64 x.o]
def Wd.valid(x:Wd):Bool:=inB x.b 4 24 && inB x.f 0 (x.b-1) && inB x.r 1 3 && inB x.o 1 2
theorem Wd.valid_t{x:Wd}:x.valid=true↔(4≤x.b∧x.b≤24)∧(0≤x.f∧x.f≤x.b-1)∧(1≤x.r∧x.r≤3)∧(1≤x.o∧x.o≤2):=by
 simp [Wd.valid,inB];omega

theorem aT(x:Wd)(w:World) :
  Calls Tryz.prog 42 #[x.v] w fun e w'=>e=.returned (.bool x.valid)∧Below w.heap.size w w':=by
 go_enter Tryz.func42,Tryz.ntmps42
 go_wp2_with (go_at_call 106;refine (l6 _ _ _ _).mono ?_;rintro e w' ⟨rfl,rfl⟩)
 all_goals go_ret
 all_goals refine ⟨aZ ?_,(Below.refl _ _).alloc (nXd _) _⟩
 all_goals (simp only [inB,wrap64] at *;simp [Wd.valid,inB] at *;try omega)

theorem bu(x:Wd)(w:World) :
  Calls Tryz.prog 40 #[x.v] w fun e w'=>e=.returned (.bool x.valid)∧Below w.heap.size w w':=by
 go_enter Tryz.func40,Tryz.ntmps40
 go_wp2_with (go_at_call 99;refine (lE _ _).mono ?_;rintro e w' ⟨rfl,rfl⟩)
 all_goals go_ret
 all_goals refine ⟨aZ ?_,(Below.refl _ _).alloc (nXd _) _⟩
 all_goals (first|(rw [Wd.valid];simp [inB] at *;omega)|(rw [Wd.valid,Bool.eq_iff_iff];simp [inB] at *;omega))

def Wd.low(x:Wd):Int:=if x.valid then -(2 ^ (x.b.toNat-1)) else 0
def Wd.high(x:Wd):Int:=if x.valid then 2 ^ (x.b.toNat-1)-1 else 0
def Wd.fits(x:Wd)(v:Int):Bool:=x.valid && inB v x.low x.high
theorem gq(b:Int)(h1:4≤b)(h2:b≤24):(0:Int)<2 ^ (b.toNat-1)∧(2:Int) ^ (b.toNat-1)≤8388608:=by
 have h:b.toNat-1≤23:=by omega
 refine ⟨Int.pow_pos (by decide),?_⟩;have:=nXn (n:=2) (by decide) h;have e:((2:Int) ^ (b.toNat-1))=((2 ^ (b.toNat-1):Nat):Int):=by push_cast;rfl
 rw [e];have e2:(2:Nat) ^ 23=8388608:=by decide
 omega

theorem cr(x:Wd)(w:World) :
  Calls Tryz.prog 45 #[x.v] w fun e w'=>e=.returned (.int .i64 x.low)∧Below w.heap.size w w':=by
 by_cases hv:x.valid=true
 ·have hv':=Wd.valid_t.1 hv;obtain ⟨⟨h1,h2⟩,-⟩:=hv';go_enter Tryz.func45,Tryz.ntmps45
  go_wp2_with (go_at_call 42;refine (aT _ _).mono ?_;rintro e w' ⟨rfl,hb⟩;obtain ⟨hc,hf⟩:=dK hb)
  go_ret
  refine ⟨aw ?_,((Below.refl _ _).alloc (nXd _) _).trans (hb.mono (by simp))⟩;have hp:=gq x.b h1 h2;rw [Wd.low,if_pos hv,IntWalk.wrap64_in (2 ^ (x.b.toNat-1)) (by omega),IntWalk.wrap64_in _ (by omega)]
 ·go_enter Tryz.func45,Tryz.ntmps45
  go_wp2_with (go_at_call 42;refine (aT _ _).mono ?_;rintro e w' ⟨rfl,hb⟩;obtain ⟨hc,hf⟩:=dK hb)
  go_ret
  refine ⟨aw ?_,((Below.refl _ _).alloc (nXd _) _).trans (hb.mono (by simp))⟩;rw [Wd.low,if_neg hv]

theorem ec(x:Wd)(w:World) :
  Calls Tryz.prog 47 #[x.v] w fun e w'=>e=.returned (.int .i64 x.high)∧Below w.heap.size w w':=by
 by_cases hv:x.valid=true
 ·have hv':=Wd.valid_t.1 hv;obtain ⟨⟨h1,h2⟩,-⟩:=hv';go_enter Tryz.func47,Tryz.ntmps47
  go_wp2_with (go_at_call 42;refine (aT _ _).mono ?_;rintro e w' ⟨rfl,hb⟩;obtain ⟨hc,hf⟩:=dK hb)
  go_ret
  refine ⟨aw ?_,((Below.refl _ _).alloc (nXd _) _).trans (hb.mono (by simp))⟩;have hp:=gq x.b h1 h2;rw [Wd.high,if_pos hv,IntWalk.wrap64_in (2 ^ (x.b.toNat-1)) (by omega),IntWalk.wrap64_in _ (by omega)]
 ·go_enter Tryz.func47,Tryz.ntmps47
  go_wp2_with (go_at_call 42;refine (aT _ _).mono ?_;rintro e w' ⟨rfl,hb⟩;obtain ⟨hc,hf⟩:=dK hb)
  go_ret
  refine ⟨aw ?_,((Below.refl _ _).alloc (nXd _) _).trans (hb.mono (by simp))⟩;rw [Wd.high,if_neg hv]

theorem mL(x:Wd)(w:World) :
  Calls Tryz.prog 172 #[x.v] w fun e w'=>e=.returned (.int .i64 x.low)∧Below w.heap.size w w':=by
 by_cases hv:x.valid=true
 ·have hv':=Wd.valid_t.1 hv;obtain ⟨⟨h1,h2⟩,-⟩:=hv';go_enter Tryz.func172,Tryz.ntmps172
  go_wp2_with (go_at_call 40;refine (bu _ _).mono ?_;rintro e w' ⟨rfl,hb⟩;obtain ⟨hc,hf⟩:=dK hb)
  go_ret
  refine ⟨aw ?_,((Below.refl _ _).alloc (nXd _) _).trans (hb.mono (by simp))⟩;have hp:=gq x.b h1 h2;rw [Wd.low,if_pos hv,IntWalk.wrap64_in (2 ^ (x.b.toNat-1)) (by omega),IntWalk.wrap64_in _ (by omega)]
 ·go_enter Tryz.func172,Tryz.ntmps172
  go_wp2_with (go_at_call 40;refine (bu _ _).mono ?_;rintro e w' ⟨rfl,hb⟩;obtain ⟨hc,hf⟩:=dK hb)
  go_ret
  refine ⟨aw ?_,((Below.refl _ _).alloc (nXd _) _).trans (hb.mono (by simp))⟩;rw [Wd.low,if_neg hv]

theorem lH(x:Wd)(w:World) :
  Calls Tryz.prog 173 #[x.v] w fun e w'=>e=.returned (.int .i64 x.high)∧Below w.heap.size w w':=by
 by_cases hv:x.valid=true
 ·have hv':=Wd.valid_t.1 hv;obtain ⟨⟨h1,h2⟩,-⟩:=hv';go_enter Tryz.func173,Tryz.ntmps173
  go_wp2_with (go_at_call 40;refine (bu _ _).mono ?_;rintro e w' ⟨rfl,hb⟩;obtain ⟨hc,hf⟩:=dK hb)
  go_ret
  refine ⟨aw ?_,((Below.refl _ _).alloc (nXd _) _).trans (hb.mono (by simp))⟩;have hp:=gq x.b h1 h2;rw [Wd.high,if_pos hv,IntWalk.wrap64_in (2 ^ (x.b.toNat-1)) (by omega),IntWalk.wrap64_in _ (by omega)]
 ·go_enter Tryz.func173,Tryz.ntmps173
  go_wp2_with (go_at_call 40;refine (bu _ _).mono ?_;rintro e w' ⟨rfl,hb⟩;obtain ⟨hc,hf⟩:=dK hb)
  go_ret
  refine ⟨aw ?_,((Below.refl _ _).alloc (nXd _) _).trans (hb.mono (by simp))⟩;rw [Wd.high,if_neg hv]


theorem fY(x:Wd)(v:Int)(w:World) :
  Calls Tryz.prog 105 #[x.v,.int .i64 v] w fun e w'=>e=.returned (.bool (x.fits v))∧Below w.heap.size w w':=by
 go_enter Tryz.func105,Tryz.ntmps105
 go_wp2_with (first
  | (go_at_call 40;refine (bu _ _).mono ?_;rintro e w1 ⟨rfl,hb1⟩;obtain ⟨hc1,hf1⟩:=dK hb1;have hz1:w.heap.size<w1.heap.size:=by (have:=hb1.size;simp at this;omega))
  | (go_at_call 172;refine (mL _ _).mono ?_;rintro e w2 ⟨rfl,hb2⟩;obtain ⟨hc2,hf2⟩:=dK hb2;have hz2:w.heap.size<w2.heap.size:=by (have:=hb2.size;omega))
  | (go_at_call 173;refine (lH _ _).mono ?_;rintro e w3 ⟨rfl,hb3⟩))
 all_goals go_ret
 ·refine ⟨aZ ?_,((((Below.refl _ _).alloc (nXd _) _).trans (hb1.mono (by simp))).trans (hb2.mono (by omega))).trans (hb3.mono (by omega))⟩
  simp_all [Wd.fits,inB]
 ·refine ⟨aZ ?_,((((Below.refl _ _).alloc (nXd _) _).trans (hb1.mono (by simp))).trans (hb2.mono (by omega)))⟩
  simp_all [Wd.fits,inB];omega
 ·refine ⟨aZ ?_,((((Below.refl _ _).alloc (nXd _) _).trans (hb1.mono (by simp))))⟩
  simp_all [Wd.fits,inB]
theorem gW(x:Wd)(v:Int)(w:World) :
  Calls Tryz.prog 109 #[x.v,.int .i64 v] w fun e w'=>e=.returned (.bool (x.fits v))∧Below w.heap.size w w':=by
 by_cases hv:x.valid=true
 ·go_enter Tryz.func109,Tryz.ntmps109
  go_wp2_with fail
  refine fc 11 (fun i=>match i with
   | 1=>.spec Unit () (fun _=>.bool true) (fun _ _=>True)
   | 5=>.spec Unit () (fun _=>.int .i64 x.low) (fun _ _=>True)
   | 7=>.spec Unit () (fun _=>.int .i64 x.high) (fun _ _=>True)
   | 8=>.spec Unit () (fun _=>.bool (inB v x.low x.high)) (fun _ _=>True)
   | _=>.quiet) (fun _=>[]) (by kernel_rfl) (by kernel_rfl) ?_
  simp only [pT];refine qQ ?_;refine au rfl rfl (fun w1 hw1 _=>?_) (fun _=>?_)
  ·refine aG [x.v] rfl rfl Tryz.func42 (by kernel_rfl) (by kernel_rfl) ?_;refine (aT x _).mono ?_;rintro e w' ⟨rfl,hb⟩;exact ⟨(),by rw [hv],hb,trivial⟩
  refine qZ ?_;refine au rfl rfl (fun w1 hw1 _=>?_) (fun _=>?_)
  ·refine aG [x.v] rfl rfl Tryz.func45 (by kernel_rfl) (by kernel_rfl) ?_;refine (cr x _).mono ?_;rintro e w' ⟨rfl,hb⟩;exact ⟨(),rfl,hb,trivial⟩
  refine qZ ?_;refine au rfl rfl (fun w1 hw1 _=>?_) (fun _=>?_)
  ·refine aG [x.v] rfl rfl Tryz.func47 (by kernel_rfl) (by kernel_rfl) ?_;refine (ec x _).mono ?_;rintro e w' ⟨rfl,hb⟩;exact ⟨(),rfl,hb,trivial⟩
  simp only [pS];refine au rfl rfl (fun w1 hw1 _=>?_) (fun _=>?_)
  ·refine aG [.int .i64 v,.int .i64 x.low,.int .i64 x.high] rfl rfl Tryz.func106 (by kernel_rfl) (by kernel_rfl) ?_;refine (l6 _ _ _ _).mono ?_;rintro e w' ⟨rfl,rfl⟩;exact ⟨(),rfl,Ext.refl _,trivial⟩
  refine qZ ?_;refine am ?_;intro w' hI;have hext:=hI.ext;clear hI;simp only [List.drop_succ_cons,List.drop_nil];go_wp2
  go_ret
  refine ⟨aZ (by simp [Wd.fits,hv]),?_⟩;exact (Ext.trans (Ext.trans (Ext.alloc _ _) (Ext.drew _)) hext)
 ·have hv':x.valid=false:=by simpa using hv
  go_enter Tryz.func109,Tryz.ntmps109
  go_wp2_with fail
  refine fc 11 (fun i=>match i with
   | 1=>.spec Unit () (fun _=>.bool false) (fun _ _=>True)
   | _=>.quiet) (fun _=>[]) (by kernel_rfl) (by kernel_rfl) ?_
  simp only [pT];refine qQ ?_;refine au rfl rfl (fun w1 hw1 _=>?_) (fun _=>?_)
  ·refine aG [x.v] rfl rfl Tryz.func42 (by kernel_rfl) (by kernel_rfl) ?_;refine (aT x _).mono ?_;rintro e w' ⟨rfl,hb⟩;exact ⟨(),by rw [hv'],hb,trivial⟩
  simp only [pS]
  repeat (first
   | (refine bR rfl ?_;simp only [pS])
   | (refine wpq fun K h=>?_;go_big_quiet_op;refine h _ ?_;clear h K))
  refine am ?_;intro w' hI;have hext:=hI.ext;clear hI;simp only [List.drop_succ_cons,List.drop_nil];go_wp2
  go_ret
  refine ⟨aZ (by simp [Wd.fits,hv']),?_⟩;exact (Ext.trans (Ext.trans (Ext.alloc _ _) (Ext.drew _)) hext)
theorem gA{w w':World}(h:Ext w w')(row:Option Nat):w.grownBy w' row:=⟨h.os,h.tape,h.output,Below.size h,fun k hk _=>Below.block h k hk⟩
theorem kA{w w1 w':World}(h1:Ext w w1){L:Nat}(hL:w.heap.size≤L)(h:aD (·=L) w1 w'):Ext w w' :=
 Ext.of_below h1 (h.below (by have:=h1.size;omega) (fun k hk=>by omega)) (nXd _)
theorem Tryz.info3:(Tryz.prog.info? 3).map (fun i=>(i.zero,i.size,i.bytes))=some (some (.int .i64 0),1,8):=by kernel_rfl
theorem mx(v m:Int)(hm:1≤m):-m<v.tmod m∧v.tmod m<m∧(0≤v.tmod m→v % m=v.tmod m)∧(v.tmod m<0→v % m=v.tmod m+m):=by
 have h:=Int.tmod_eq_emod (a:=v) (b:=m);have h1:=Int.emod_nonneg v (show m≠0 by omega);have h2:=Int.emod_lt_of_pos v (show 0<m by omega);have h3:(m.natAbs:Int)=m:=by omega
 split at h <;> rw [h] <;> (try rw [h3]) <;> refine ⟨by omega,by omega,by omega,by omega⟩
theorem dr(v m:Int)(w:World)(hm:1≤m)(hm2:m≤4611686018427387904) :
  Calls Tryz.prog 11 #[.int .i64 v,.int .i64 m] w fun e w'=>e=.returned (.int .i64 (v % m))∧w=w':=by
 obtain ⟨h1,h2,h3,h4⟩:=mx v m hm;have H3:=Hi h3;have H4:=Hi h4;clear h3 h4;have hmz:(m == 0)=false:=by simp;omega
 by_cases hn:v.tmod m<0
 ·go_enter Tryz.func11,Tryz.ntmps11;go_wp2
  go_ret
  exact ⟨aw (H4.out hn).symm,rfl⟩
 ·go_enter Tryz.func11,Tryz.ntmps11;go_wp2
  go_ret
  exact ⟨aw (H3.out (by omega)).symm,rfl⟩
def atI(l:List Int)(i:Int):Int:=if 0≤i then l.getD i.toNat 0 else 0
theorem nu(ao:Option Addr)(cap:Nat)(l:List Int)(i:Int)(w:World)(hl:aA w ao l) :
  Calls Tryz.prog 46 #[.slice ao l.length cap,.int .i64 i] w fun e w'=>e=.returned (.int .i64 (atI l i))∧w=w':=by
 by_cases h0:0≤i
 ·by_cases h1:i<l.length
  ·obtain ⟨b,off,rfl,hc⟩:=hl.at (k:=i.toNat) (by omega);have Hs:Hid (atI l i=l.getD i.toNat 0):=by show atI l i=_;simp [atI,h0]
   clear hl;go_enter Tryz.func46,Tryz.ntmps46;go_wp2
   go_ret
   refine ⟨aw ?_,rfl⟩;rw [Hs.out];simp [show i.toNat<l.length by omega]
  ·have Hs:Hid (atI l i=0):=by show atI l i=_;simp [atI,h0];rw [List.getElem?_eq_none (by omega)];rfl
   clear hl;go_enter Tryz.func46,Tryz.ntmps46;go_wp2
   go_ret
   exact ⟨aw Hs.out.symm,rfl⟩
 ·have Hs:Hid (atI l i=0):=by show atI l i=_;simp [atI,h0]
  clear hl;go_enter Tryz.func46,Tryz.ntmps46;go_wp2
  go_ret
  exact ⟨aw Hs.out.symm,rfl⟩
def iU(w:World)(e:Ending)(w':World):Prop:=∃ x:Wd,e=.returned x.v∧x.valid=true∧x.b≤9∧Ext w w'
theorem lf(k:Int)(w:World):Calls Tryz.prog 44 #[.int .i64 k,.int .i64 6,.int .i64 9,.int .i64 1] w (iU w):=by
 have hb1:=Int.emod_nonneg k (show (1099511627776:Int)≠0 by decide);have hb2:=Int.emod_lt_of_pos k (show (0:Int)<1099511627776 by decide);obtain ⟨q,hq⟩:∃ q,q=k % 1099511627776:=⟨_,rfl⟩;rw [←hq] at hb1 hb2;have Hq:=Hi hq;clear hq;go_enter Tryz.func44,Tryz.ntmps44
 go_wp2_with fail
 refine (dr _ _ _ (by decide) (by decide)).mono ?_;rintro e w1 ⟨rfl,rfl⟩;rw [←Hq.out];go_wp2;refine bodyPost_ret (v:=(⟨6+q % 4,6+q % 4-1-1-q / 4 % 2,1+q / 4 / 2 % 3,1+q / 4 / 2 / 3 % 2⟩:Wd).v) (by simp [results,Tryz.results44,go_sem];omega) rfl ⟨_,rfl,?_,?_,Ext.trans (Ext.alloc _ _) (Ext.alloc _ _)⟩
 ·rw [Wd.valid_t];refine ⟨⟨?_,?_⟩,⟨?_,?_⟩,⟨?_,?_⟩,?_,?_⟩ <;> dsimp only <;> omega
 ·dsimp only;omega
theorem lP(k:Int)(w:World):Calls Tryz.prog 9 #[.int .i64 k] w (iU w):=by
 go_enter Tryz.func9,Tryz.ntmps9
 go_wp2_with fail
 refine (lf k _).mono ?_;rintro e w1 ⟨x,rfl,h1,h2,hE⟩;obtain ⟨hc,hf⟩:=ah hE;have hz:w.heap.size<w1.heap.size:=by have:=hE.size;simp at this;omega
 have HE:=Hi hE;clear hE;go_wp2;refine bodyPost_ret (v:=x.v) (by simp [results,Tryz.results9,go_sem,hc]) rfl ⟨x,rfl,h1,h2,?_⟩;exact kA (Ext.trans (Ext.alloc _ _) HE.out) (L:=w.heap.size) (nXd _) (by
  refine aD.trans (aD.setCell _ ⟨w.heap.size,_,none⟩ _) (aD.trans (aD.setCell _ ⟨w.heap.size,_,none⟩ _) (aD.trans (aD.setCell _ ⟨w.heap.size,_,none⟩ _) (aD.setCell _ ⟨w.heap.size,_,none⟩ _))))
theorem ka{x:Wd}(h:x.valid=true):-8388608≤x.low∧x.low<0∧0<x.high∧x.high≤8388607∧x.low=-(x.high+1):=by
 obtain ⟨⟨h1,h2⟩,-⟩:=Wd.valid_t.1 h;have hp:=gq x.b h1 h2;have h8:(2:Int) ^ (x.b.toNat-1) ≥ 8:=by
  have h:3≤x.b.toNat-1:=by omega
  have:=nXn (n:=2) (by decide) h;have e:((2:Int) ^ (x.b.toNat-1))=((2 ^ (x.b.toNat-1):Nat):Int):=by push_cast;rfl
  rw [e];omega
 unfold Wd.low Wd.high;rw [if_pos h,if_pos h];omega
def kT(x:Wd)(n:Nat)(w:World)(e:Ending)(w':World):Prop:=∃ xs ao cap,e=.returned (.slice ao n cap)∧xs.length=n∧(∀ v ∈ xs,x.low≤v∧v≤x.high)∧aA w' ao xs∧Ext w w'
theorem dN{w:World}{B0:Nat}{v:Value}{xs:List Int}(h:w.ownsRow B0 3 1 v xs.length (xs.map (Value.int .i64))):∃ ao cap,v=.slice ao xs.length cap∧aA w ao xs:=by
 have h':=h;rcases h.2 with ⟨rfl,hn⟩|⟨g,cap,cur,rfl,_⟩
 ·exact ⟨none,0,by rw [hn],Or.inl (nXi.1 hn)⟩
 ·refine ⟨_,cap,rfl,Or.inr ⟨g,0,rfl,fun k hk=>?_⟩⟩;rw [Nat.zero_add,h'.cellAt k (by omega)];simp [hk]
theorem bY{w:World}{ops:Array Oper}{rest:List Oper}{o:Oper}{a:Act}{Q:Exit→Act→World→Prop}(hgd:o.guard=none)(s x:Operand)
 (ho:o.op=.call { callee:=.builtin .append,args:=#[s,x],argTypes:=#[25,25] })
 (B0:Nat)(v:Value)(n:Nat)(cells:List Value)(hs:a.eval s=v)(hown:w.ownsRow B0 3 1 v n cells)
 (N c:Nat)(u:Int)(hx:a.eval x=.slice (some ⟨N,0,none⟩) 1 c)(hN:w.heap[N]?=some (.cells #[.int .i64 u] 3 (0,0)))(hlen:n≤1000000)(hB:B0≤w.heap.size)
 (h:∀ v' w',w'.ownsRow B0 3 1 v' (n+1) (cells++[.int .i64 u])→w.grownBy w' v.ownBlock→wpList Tryz.prog ops Q rest (a.put o.dst v') w'):wpList Tryz.prog ops Q (o :: rest) a w:=by
 obtain ⟨i0,hi0,hz0,hz1,hz2⟩:=info_parts Tryz.info3;refine wpList_append_own w hgd s x 25 ho B0 3 i0 (.int .i64 0) 1 8 Tryz.underlying25 hi0 hz0 hz1 hz2 rfl (by decide) v n cells hs hown ⟨N,0,none⟩ 1 c [.int .i64 u] hx rfl ?_ ?_ (by simp [maxLen];omega) (by omega) hB ?_
 ·intro j u' hj;have:(⟨N,0,none⟩:Addr).add j=⟨N,j,none⟩:=by unfold Addr.add;split <;> simp_all
  rw [this,ab hN];simpa using hj
 ·intro u' hu;obtain rfl:u'=_:=by simpa using hu
  rfl
 ·intro v' w' h1 h2 _;exact h v' w' h1 h2
theorem gZ(x:Wd)(hv:x.valid=true)(lo:Option Addr)(lcap:Nat)(l:List Int)(n:Nat)(w:World)(hl:aA w lo l)(hn:n≤1000) :
  Calls Tryz.prog 10 #[x.v,.slice lo l.length lcap,.int .i64 n] w (kT x n w):=by
 obtain ⟨i0,hi0,hz0,hz1,hz2⟩:=info_parts Tryz.info3;obtain ⟨b1,b2,b3,b4,b5⟩:=ka hv;have HB5:=Hi b5;clear b5;have HL:=Hi hl;have hv':=Hi hv;clear hl hv;go_enter Tryz.func10,Tryz.ntmps10;go_wp2
 go_loopg [7,8] n (fun g v i wr=>∃ (ii:Nat) (xs:List Int) (vo:Option Addr) (vc:Nat),ii+g=n∧i=.int .i64 ii∧v=.slice vo ii vc∧xs.length=ii∧wr.ownsRow (w.heap.size+1) 3 1 v ii (xs.map (Value.int .i64))∧(∀ v ∈ xs,x.low≤v∧v≤x.high)∧Ext (w.alloc (.cells #[.int .i64 x.b,.int .i64 x.f,.int .i64 x.r,.int .i64 x.o] 24)) wr)
 case atStart=>exact ⟨0,[],none,0,by omega,rfl,rfl,rfl,World.ownsRow_nil _ _ _ _,by simp,Ext.refl _⟩
 case round =>
  obtain ⟨i,xs,vo,vc,hig,rfl,rfl,hxl,hown,hbd,hE⟩:=hrel;have Hig:=Hi hig;have Hxl:=Hi hxl;have Hown:=Hi hown;have Hbd:=Hi hbd;obtain ⟨hcE,hfE⟩:=ah hE;have hz:w.heap.size<wr.heap.size:=by have:=hE.size;simp at this;omega
  clear hxl hown hbd;by_cases hi:i<n
  ·obtain ⟨g1,rfl⟩:∃ g1,gk=g1+1:=⟨gk-1,by omega⟩;clear hig;have hm1:=Int.emod_nonneg (wrap64 (atI l i-x.low)) (show x.high-x.low+1≠0 by omega);have hm2:=Int.emod_lt_of_pos (wrap64 (atI l i-x.low)) (show 0<x.high-x.low+1 by omega);go_wp2;refine ag 18 (fun opIx=>match opIx with
    | 2=>.spec Unit () (fun _=>.int .i64 x.low) (fun _ _=>True)
    | 5=>.spec Unit () (fun _=>.int .i64 (atI l i)) (fun _ _=>True)
    | 7=>.spec Unit () (fun _=>.int .i64 x.low) (fun _ _=>True)
    | 10=>.spec Unit () (fun _=>.int .i64 x.high) (fun _ _=>True)
    | 12=>.spec Unit () (fun _=>.int .i64 x.low) (fun _ _=>True)
    | 15=>.spec Unit () (fun _=>.int .i64 (wrap64 (atI l i-x.low) % (x.high-x.low+1))) (fun _ _=>True)
    | 17=>.spec Nat 0 (fun b=>.slice (some ⟨b,0,none⟩) 1 1) (fun b w=>w.heap[b]?=some (.cells #[.int .i64 (x.low+wrap64 (atI l i-x.low) % (x.high-x.low+1))] 3 (0,0)))
    | _=>.quiet) (fun _=>[]) (by kernel_rfl) (by kernel_rfl) (fun w0 he0 hz0 hc0 hf0=>?_)
   simp only [pT];refine qQ ?_;refine au rfl rfl (fun w1 hw1 hG=>?_) (fun _=>?_)
   ·refine aG [x.v] rfl rfl Tryz.func45 (by kernel_rfl) (by kernel_rfl) ?_;refine (cr x _).mono ?_;rintro e w' ⟨rfl,hb⟩;exact ⟨(),rfl,hb,trivial⟩
   refine qZ ?_;refine au rfl rfl (fun w1 hw1 hG=>?_) (fun _=>?_)
   ·refine aG [.slice lo l.length lcap,.int .i64 i] rfl rfl Tryz.func46 (by kernel_rfl) (by kernel_rfl) ?_;refine (nu _ _ l _ _ (((HL.out.ext (Ext.trans (Ext.alloc _ _) hE)).ext he0).ext hw1)).mono ?_;rintro e w' ⟨rfl,rfl⟩;exact ⟨(),rfl,Ext.refl _,trivial⟩
   refine qZ ?_;refine au rfl rfl (fun w1 hw1 hG=>?_) (fun _=>?_)
   ·refine aG [x.v] rfl rfl Tryz.func45 (by kernel_rfl) (by kernel_rfl) ?_;refine (cr x _).mono ?_;rintro e w' ⟨rfl,hb⟩;exact ⟨(),rfl,hb,trivial⟩
   refine qZ ?_;refine au rfl rfl (fun w1 hw1 hG=>?_) (fun _=>?_)
   ·refine aG [x.v] rfl rfl Tryz.func47 (by kernel_rfl) (by kernel_rfl) ?_;refine (ec x _).mono ?_;rintro e w' ⟨rfl,hb⟩;exact ⟨(),rfl,hb,trivial⟩
   refine qZ ?_;refine au rfl rfl (fun w1 hw1 hG=>?_) (fun _=>?_)
   ·refine aG [x.v] rfl rfl Tryz.func45 (by kernel_rfl) (by kernel_rfl) ?_;refine (cr x _).mono ?_;rintro e w' ⟨rfl,hb⟩;exact ⟨(),rfl,hb,trivial⟩
   refine qZ ?_;refine au rfl rfl (fun w1 hw1 hG=>?_) (fun _=>?_)
   ·refine aG [.int .i64 (wrap64 (atI l i-x.low)),.int .i64 (x.high-x.low+1)] rfl rfl Tryz.func11 (by kernel_rfl) (by kernel_rfl) ?_;refine (dr _ _ _ (by omega) (by omega)).mono ?_;rintro e w' ⟨rfl,rfl⟩;exact ⟨(),rfl,Ext.refl _,trivial⟩
   refine qZ ?_;refine au rfl rfl (fun w1 hw1 hG=>?_) (fun nb=>?_)
   ·refine ll ?_
    go_simp
   simp only [pS];refine am ?_;intro w' hI;have h17:=hI.facts 17;simp only [cT] at h17;obtain ⟨wa,hwa,hnb⟩:=h17;have Hnb:=Hi (hwa.block hnb);have hx:=he0.trans hI.ext;have Hx:=Hi hx;have Hown2:=Hi (Hown.out.kept (gA hx none) (by cases (Value.slice vo i vc).ownBlock <;> simp));have HE2:=Hi (hE.trans hx);clear hI hwa hnb hx he0 hz0 hc0 hf0 hcE hfE;simp only [pD]
   go_wp2_with (at_builtin;refine bY rfl (.tmp 14) (.tmp 31) rfl (w.heap.size+1) _ i _ rfl Hown2.out nb 1 _ rfl Hnb.out (by omega) (by have:=HE2.out.size;simp at this;omega) ?_;intro v' w4 hown4 hgrow4)
   obtain ⟨vo4,vc4,hv4,hI4⟩:=dN (xs:=xs++[x.low+wrap64 (atI l i-x.low) % (x.high-x.low+1)]) (by simpa [Hxl.out] using hown4);have hv4':v'=.slice vo4 (i+1) vc4:=by rw [hv4];simp [Hxl.out]
   subst hv4';have H4:=Hi hown4;have HG:=Hi hgrow4;clear hown4 hgrow4 hv4 hI4
   go_roundg g1
   case measure=>omega
   case rel =>
    refine ⟨i+1,xs++[x.low+wrap64 (atI l i-x.low) % (x.high-x.low+1)],vo4,vc4,by have:=Hig.out;omega,by go_num,rfl,by simp [Hxl.out],by simpa using H4.out,?_,?_⟩
    ·intro v hv;rcases List.mem_append.1 hv with hv|hv
     ·exact Hbd.out v hv
     ·obtain rfl:v=_:=by simpa using hv
      omega
    ·exact Ext.of_below HE2.out ((Below.refl _ _).grown (B:=w.heap.size+1) HG.out (by have:=HE2.out.size;simp at this;omega) (fun k hk=>(Hown2.out.lt k hk).1)) (by simp)
  ·go_wp2
   go_ret
   obtain rfl:i=n:=by omega
   have hx:=Hxl.out;obtain ⟨ao,cap,hv,hI⟩:=dN (by rw [hx];exact Hown.out);rw [hx] at hv;rw [hv];exact ⟨xs,ao,cap,rfl,hx,Hbd.out,hI,Ext.trans (Ext.alloc _ _) hE⟩
end Go.Proofs.YtohahgiidooijaaGreat
/- Frac -/
namespace Go.Proofs.YtohahgiidooijaaGreat
open Go.RowKit Go.Front Go.Num
attribute [local go_sem] XW.cell XW.frozen
theorem mP(a b:Int):(a:Rat) / (b:Rat)=mkRat (sg (decide (a<0) != decide (b<0)) a.natAbs) b.natAbs:=by
 by_cases h:b<0
 ·have h1:sg (decide (a<0) != decide (b<0)) a.natAbs=-a:=by
   rw [decide_eq_true h];unfold sg;by_cases ha:a<0
   ·rw [decide_eq_true ha];simp;omega
   ·rw [decide_eq_false ha];simp;omega
  have h2:((b.natAbs:Nat):Int)=-b:=by omega
  rw [h1,Rat.mkRat_eq_div];rw [show ((b.natAbs:Nat):Rat)=(((b.natAbs:Nat):Int):Rat) from rfl,h2,Rat.intCast_neg,Rat.intCast_neg,Rat.div_def,Rat.div_def];have hb:(b:Rat)≠0:=by intro h0;have:=Rat.intCast_eq_zero_iff.1 h0;omega
  have hb2:-(b:Rat)≠0:=by intro h0;apply hb;grind
  have p1:=nXy _ hb;have p2:=nXy _ hb2;grind
 ·have h1:sg (decide (a<0) != decide (b<0)) a.natAbs=a:=by
   rw [decide_eq_false h];unfold sg;by_cases ha:a<0
   ·rw [decide_eq_true ha];simp;omega
   ·rw [decide_eq_false ha];simp;omega
  have h2:((b.natAbs:Nat):Int)=b:=by omega
  rw [h1,Rat.mkRat_eq_div];rw [show ((b.natAbs:Nat):Rat)=(((b.natAbs:Nat):Int):Rat) from rfl,h2]
theorem jO(n d:Int)(w:World)(h1:-9223372036854775808≤n)(h2:n≤9223372036854775807)(k1:-9223372036854775808≤d)(k2:d≤9223372036854775807)(hd:d≠0):av 103 [.int .i64 n,.int .i64 d] w RH.v (fun r w'=>aQ w' r ((n:Rat) / (d:Rat))):=by
 have hdb:(d == 0)=false:=by simpa using hd
 have HQ:=Hi (mP n d);have HD:Hid (d.natAbs≠0):=Hi (by omega);have HN1:Hid (n.natAbs<W32 ^ 2):=Hi (by unfold W32;omega);have HD1:Hid (d.natAbs<W32 ^ 2):=Hi (by unfold W32;omega);unfold av;go_enter Tryz.func103,Tryz.ntmps103
 go_wp2_with fail
 refine cM (hZ n _ h1 h2) fun x1 w1 hE G1=>?_
 obtain ⟨hcw,hfw⟩:=ah hE;have hsw:=hE.size
 (try simp only [nXb] at hsw)
 have hs0:w.heap.size<w1.heap.size:=by omega
 have hB:=hE.block (heap_alloc_new _ _);have HB:Hid (w1.heap[w.heap.size]?=some _):=Hi hB;clear hB;have E1:=Hi ((Ext.al1).trans hE);have X1:=Hi hE;clear hE
 go_wp2_with fail
 refine cM (hZ d _ k1 k2) fun x2 w2 hE G2=>?_
 obtain ⟨hcw,hfw⟩:=ah hE;have hsw:=hE.size
 (try simp only [nXb] at hsw)
 have hs0:w.heap.size<w2.heap.size:=by omega
 replace HB:=hE.bl HB;have cR:=ab HB.out;have fR:=ae HB.out;have E2:=Hi ((E1.out).trans hE);have X2:=Hi hE;clear hE
 go_wp2_with fail
 refine cM (go x1 x2 _) fun x3 w3 hE G3=>?_
 obtain ⟨hcw,hfw⟩:=ah hE;have hsw:=hE.size
 (try simp only [nXb] at hsw)
 have hs0:w.heap.size<w3.heap.size:=by omega
 replace HB:=hE.bl HB;have cR:=ab HB.out;have fR:=ae HB.out;have E3:=Hi ((E2.out).trans hE);have X3:=Hi hE;clear hE;have RP:Hid (me w3 ⟨x1.neg != x2.neg,x1.a,x1.n,x1.c,x2.a,x2.n,x2.c⟩ ((n:Rat) / (d:Rat))):=Hi (by
  have a1:=(G1.out.ext X2.out).ext X3.out;have a2:=G2.out.ext X3.out;refine ⟨_,_,a1.2,a2.2,?_,?_,?_,?_⟩
  ·rw [af,af,a1.1,a2.1];exact HQ.out
  ·rw [af];exact HD.out
  ·exact U32.nle a1.2 HN1.out (by decide)
  ·exact U32.nle a2.2 HD1.out (by decide))
 go_wp2_with fail
 refine cM (b7 ⟨x1.neg != x2.neg,x1.a,x1.n,x1.c,x2.a,x2.n,x2.c⟩ _ _ RP.out) fun x4 w4 hE G4=>?_
 obtain ⟨hcw,hfw⟩:=ah hE;have hsw:=hE.size
 (try simp only [nXb] at hsw)
 have hs0:w.heap.size<w4.heap.size:=by omega
 replace HB:=hE.bl HB;have cR:=ab HB.out;have fR:=ae HB.out;have E4:=Hi ((E3.out).trans hE);have X4:=Hi hE;clear hE;have HX:=E4;go_wp2;have hF:=((((Fin.start (L:=w.heap.size) HX.out (aj HB.out rfl)).set (by omega) (i:=0) (v:=.bool x4.neg) rfl).set (by omega) (i:=1) (v:=.slice x4.a x4.n x4.c) rfl).set (by omega) (i:=2) (v:=.slice x4.b x4.m x4.d) rfl);exact bodyPost_ret (v:=x4.v) (by simp [results,Tryz.results103,go_sem,ab HB.out]) rfl ⟨x4,rfl,hF.ext,G4.out.keep hF.keep⟩
end Go.Proofs.YtohahgiidooijaaGreat
