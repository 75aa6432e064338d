/- Package dspcompilerref06: the members of its chain and their sizes. Plain facts. -/
import Derived.Test.YtohahgiidooijaaGreatQRK14
import Derived.Test.YtohahgiidooijaaGreatQRK15
import Derived.Test.YtohahgiidooijaaGreatQRK13
import Derived.Test.YtohahgiidooijaaGreatQRK1
set_option linter.unusedVariables false
set_option maxHeartbeats 8000000
set_option maxRecDepth 8000
namespace Go.Proofs.YtohahgiidooijaaGreat
open Go.RowKit Go.Front Go.Num Stab Sg
theorem mX{p q:List Rat}{c:Rat}(hc:0<c)(h:∀ n,seq p n=seq q n*c):br p=br q:=by
 have hc0:c≠0:=fun h=>by rw [h] at hc;exact absurd hc Rat.lt_irrefl
 have h1:tz p=(tz q).map (·*c):=by
  rw [←eV hc0];exact jk fun n=>by rw [aS];exact h n
 by_cases h0:tz q=[]
 ·unfold br;rw [h1,h0];rfl
 ·have hl:((tz q).getLast?.getD 0).abs≠0:=fun k=>by
   have h2:=vw h0;rw [k] at h2;have e0:(1:Rat) / 0=0:=by rw [Rat.div_def,Rat.inv_zero,nYa]
   rw [e0] at h2;exact absurd h2 Rat.lt_irrefl
  have e:((tz p).getLast?.getD 0).abs=((tz q).getLast?.getD 0).abs*c:=by
   rw [h1,List.getLast?_map];cases k:(tz q).getLast? with
   | none=>exact absurd (List.getLast?_eq_none_iff.1 k) h0
   | some y=>exact mO hc y
  unfold br;rw [e,h1,List.map_map];refine List.map_congr_left fun x hx=>?_
  show x*c*(1 / (((tz q).getLast?.getD 0).abs*c))=x*(1 / ((tz q).getLast?.getD 0).abs);have h3:=jH hc0 1 hl;rw [Rat.one_mul] at h3;rw [←h3];rw [Rat.div_def,Rat.div_def];have h4:=nYi c hc0;grind
theorem oe(p:List Rat):br (br p)=br p:=by
 by_cases h:tz p=[]
 ·rw [fM.2 h];rfl
 ·exact mX (vw h) (fun n=>by unfold br;rw [aS,aW])
theorem jt(p:List Rat):br (av p)=br p:=by
 by_cases h:tz p=[]
 ·rw [ck.2 h,fM.2 h];rfl
 ·exact (mX (bL h) (fun n=>by rw [cH p n];grind)).symm
theorem yH:∀ (n:Nat) (a b:List Rat),br a=a→br b=b→∀ m ∈ rch n a b,br m=m:=by
 intro n;induction n with
 | zero=>intro a b _ _ m hm;simp [rch] at hm
 | succ n ih =>
  intro a b ha hb m hm;unfold rch at hm;split at hm
  ·simp at hm
  ·split at hm
   ·obtain rfl:m=a:=by simpa using hm
    exact ha
   ·rcases List.mem_cons.1 hm with rfl|hm
    ·exact ha
    ·exact ih _ _ hb (oe _) m hm
theorem uP(q:List Rat):nX q=(remsV q).map br:=by
 have h1:=oG (q.length+1) (br q) (br (derL q)) (gJ _) (gJ _);rw [gQ,gQ] at h1;show _=(chn (q.length+1) (av q) (av (derL q))).map br;rw [←h1,List.map_map];have h2:=yH (q.length+1) (br q) (br (derL q)) (oe _) (oe _);show rch (q.length+1) (br q) (br (derL q))=_;refine (List.map_id _).symm.trans (List.map_congr_left fun m hm=>?_);show m=br (av m);rw [jt,h2 m hm]
theorem wm{a b:List Rat}(ha:tz a≠[])(hb:tz b≠[]):br (bW (bq (br a) (br b)) ((-1:Int):Rat))=br (av ((bq a b).map (·*-1))):=by
 have hua:tz (br a)≠[]:=fun h=>by rw [gJ] at h;exact ha (fM.1 h)
 have hub:tz (br b)≠[]:=fun h=>by rw [gJ] at h;exact hb (fM.1 h)
 have h1:=me hua hub;have h2:=me ha hb;rw [gQ,gQ] at h1;have h3:∀ l:List Rat,br (bW l ((-1:Int):Rat))=br (l.map (·*-1)):=fun l=>by
  unfold bW br;rw [aT];rfl
 rw [h3,←jt,←h1,h2]
theorem uw{a b:List Rat}{S U:Nat}(h:∃ s r f,DvP a b S U s r f):∃ s r f,0<f∧DvP a b S U s r f:=by
 obtain ⟨s,r,f,h⟩:=h;rcases tri f 0 with h0|h0|h0
 ·obtain ⟨d0,d1,d2,d3,d4,d5,d6,d7⟩:=h;refine ⟨s.map (·*-1),r.map (·*-1),-f,by grind,by grind,d1.neg,fun x hx=>?_,fun x hx=>?_,by rw [eV (by decide),d4],by simpa using d5,by simpa using d6,fun n=>?_⟩
  ·obtain ⟨y,hy,rfl⟩:=nYe.1 hx;rw [show y*-1=-y by grind];exact (d2 y hy).neg
  ·obtain ⟨y,hy,rfl⟩:=nYe.1 hx;rw [show y*-1=-y by grind];exact (d3 y hy).neg
  ·have e:seq (s.map (·*-1))=fun i=>-1*seq s i:=by funext i;rw [aS];grind
   rw [e,eJ,aS];have:=d7 n;grind
 ·exact absurd h0 h.1
 ·exact ⟨s,r,f,h0,h⟩
theorem yx(p:List Rat):br p=bt p∨br p=(bt p).map (·*-1):=by
 by_cases h:tz p=[]
 ·left;rw [fM.2 h];unfold bt;rw [if_pos h]
 ·obtain ⟨n,hn,h0⟩:=eI h;have hl:aJ (tz p)=seq p n:=by unfold aJ;rw [hn,aY];rfl
  have hl2:(tz p).getLast?.getD 0=seq p n:=by
   rw [List.getLast?_eq_getElem?,hn,Nat.add_sub_cancel,←nXc,aY];rfl
  rw [i6 h,hl];unfold br;rw [hl2];unfold Rat.abs;split
  ·left;rfl
  ·right
   rw [List.map_map];refine List.map_congr_left fun x hx=>?_
   show x*(1 / -(seq p n))=x*(((1:Int):Rat) / seq p n)*-1;have e1:=bG (a:=1) (b:=seq p n) h0;have e2:=bG (a:=1) (b:=-(seq p n)) (by grind);have e3:1 / -(seq p n)=-(1 / seq p n):=by
    have h3:(1 / -(seq p n)+1 / seq p n)*seq p n=0:=by grind
    rcases nXq.1 h3 with h4|h4
    ·grind
    ·contradiction
   rw [e3,show ((1:Int):Rat)=1 from rfl];grind
theorem og{a:List Rat}{X:Nat}(ha:∀ x ∈ a,Wz X x)(ht:tz a=a)(hX:1≤X):∃ D,0<D∧D<W32 ^ X∧FrL X D (br a):=by
 obtain ⟨D,h1,h2,h3⟩:=mq ha ht hX;refine ⟨D,h1,h2,?_⟩;rcases yx a with e|e
 ·rw [e];exact h3
 ·rw [e];intro x hx;obtain ⟨y,hy,rfl⟩:=nYe.1 hx;rw [show y*-1=-y by grind];exact (h3 y hy).neg
theorem jQ(p:List Rat):(br p).length=(tz p).length:=by unfold br;rw [nXk]
theorem zE{T:Nat}{x:Rat}(h:Sz T x):Fr T x.den x:=by
 refine Fr.int (z:=x.num) h.1 ?_;exact low x
theorem A7{S D T:Nat}{l:List Rat}{x:Rat}(hl:FrL S D l)(hx:Sz T x):∀ j k,k+j=l.length→Fr (S+j*(T+1)) (D*x.den ^ j) (evV (l.drop k) x):=by
 intro j;induction j with
 | zero =>
  intro k hk;rw [List.drop_eq_nil_of_le (by omega)];exact Fr.zero _ _
 | succ j ih =>
  intro k hk;rw [kC l x (by omega)];have h1:=(ih (k+1) (by omega)).mul (zE hx);have hd:x.den ^ (j+1)≤W32 ^ (T*(j+1)):=by
   rw [Nat.pow_mul];exact Nat.pow_le_pow_left (nYk hx.2) _
  have h2:=(hl.at k).up (E:=x.den ^ (j+1)) hd (nYl x.den_pos);rw [Nat.mul_assoc,←nXs] at h1;have e1:j*(T+1)=j*T+j:=Nat.mul_succ _ _;have e2:(j+1)*(T+1)=j*T+j+(T+1):=by rw [nXx,e1]
  have e3:T*(j+1)=j*T+T:=by rw [Nat.mul_succ,nYd]
  refine ((h1.mono (S':=S+j*T+j+T) (by omega)).add (h2.mono (by omega))).mono (by omega)
theorem xW{S D T:Nat}{l:List Rat}{x:Rat}(hl:FrL S D l)(hx:Sz T x)(hS:1≤S)(hD:0<D)(hD2:D<W32 ^ S)(k:Nat):Sz (S+l.length*(T+1)) (evV (l.drop k) x):=by
 rcases Nat.lt_or_ge l.length k with h|h
 ·rw [List.drop_eq_nil_of_le (by omega)];exact (Sz.int (z:=0) (by decide)).mono (by omega)
 ·have h1:=A7 hl hx (l.length-k) k (by omega);have hm:(l.length-k)*(T+1)≤l.length*(T+1):=nXg _ (by omega);refine (h1.sz (by omega) (Nat.mul_pos hD (nYl x.den_pos)) ?_).mono (by omega);have hd:x.den ^ (l.length-k)≤W32 ^ ((l.length-k)*(T+1)):=by
   rw [nYd,Nat.pow_mul];refine Nat.pow_le_pow_left (nXe (nYk hx.2) (nXo aB (by omega))) _
  rw [Nat.pow_add];exact Nat.mul_lt_mul_of_lt_of_le hD2 hd (nYl aB)
end Go.Proofs.YtohahgiidooijaaGreat
/- Derivative of the reference's polynomials. -/
namespace Go.Proofs.YtohahgiidooijaaGreat
open Go.RowKit Go.Front Go.Num Stab Sg
attribute [local go_sem] XW.cell XW.frozen
theorem uJ(l:List Rat)(j:Nat):(List.range (j+1)).map (o5 l)=(List.range j).map (o5 l)++[l.getD (j+1) 0*(((j+1:Nat):Int):Rat)]:=bM (o5 l) j
theorem qE(ao:Option Addr)(n cap:Nat)(l:List Rat)(w:World)(h:aF w ⟨ao,n,cap⟩ l)(hn:n≤1000000)(hz:SzL 8388608 l) :
  am 192 [.slice ao n cap] w SH.v (fun s w'=>cf w.heap.size w' s (tz (derL l))):=by
 have HX:=Hi (Ext.refl w);have LA:=Hi h.lin;have Hlen:=Hi h.len;simp only at Hlen;have HZ:=Hi hz;clear h hz;unfold am;go_enter Tryz.func192,Tryz.ntmps192;go_wp2
 go_loopg [3,4] (n-1) (fun g v i wr=>∃ (j:Nat) (s:SH),v=s.v∧j+g=n-1∧i=.int .i64 ((j:Int)+1)∧Ext w wr∧d8 wr (w.heap.size≤·) s.v ((List.range j).map (o5 l)))
 case atStart=>exact ⟨0,⟨none,0,0⟩,rfl,by omega,rfl,HX.out,d8.nil _ _⟩
 case round =>
  obtain ⟨j,⟨sa,sn,sc⟩,rfl,hj,rfl,g1,g4⟩:=hrel;clear HX;have HX:=Hi g1;have HO:=Hi g4;have LA2:=Hi (LA.out.ext g1);have hsz:=g1.size;clear g1 g4;simp only [SH.v];have HLj:Hid (((List.range j).map (o5 l)).length=j):=Hi (by simp);by_cases h0:gk=0
  case pos =>
   subst h0;have hin:¬ (j:Int)+1<n:=by omega
   have hsn:=d8.len (s:=⟨sa,sn,sc⟩) HO.out;rw [HLj.out] at hsn;simp only at hsn;subst hsn;have HSz:Hid (SzL 16777216 ((List.range j).map (o5 l))):=Hi (by
    intro q hq;obtain ⟨k,hk,rfl⟩:=nYe.1 hq;have hk:=List.mem_range.1 hk;have h1:Sz 8388608 (l.getD (k+1) 0):=HZ.out.at (by rw [Hlen.out];omega);exact (h1.mul (Sz.int (z:=((k+1:Nat):Int)) (by rw [nYg];show _<4294967296;omega))).mono (by decide))
   have HV:Hid (tz ((List.range j).map (o5 l))=tz (derL l)):=Hi (by
    by_cases h1:n=0
    ·have hl:l=[]:=nXi.1 (by rw [Hlen.out];exact h1);have hj0:j=0:=by omega
     rw [hl,hj0];rfl
    ·exact qD l (by rw [Hlen.out];omega))
   go_wp2_with fail
   refine cM (aZ sa j sc _ _ ((d8.can (s:=⟨sa,j,sc⟩) HO.out).raw HSz.out (by decide)) (by omega)) fun x22 w22 hE G22=>?_
   refine mV3 hE ?_ HX HO LA2;clear HX HO LA2;intro HX HO LA2;have hs_w22:=hE.size;clear hE;go_wp2
   go_ret
   exact ⟨x22,rfl,HX.out,by rw [←HV.out];exact G22.out.mono hsz⟩
  have hjn:(j:Int)+1<n:=by omega
  have hjn2:j+1<n:=by omega
  have HJI:Hid ((j:Int)+1=((j+1:Nat):Int)):=Hi (by omega);obtain ⟨b,off,r,hao,hbl,⟨hc1,hc2,hc3⟩,hP⟩:=LA2.out.celx (k:=j+1) hjn2;obtain ⟨rneg,ra,rn,rc,rb,rm,rd⟩:=r;simp only at hc1 hc2 hc3;subst hao;have RP:=Hi hP;clear hP;have ZP:Hid (Sz 8388608 (l.getD (j+1) 0)):=Hi (HZ.out.at (by rw [Hlen.out];exact hjn2));have HNx:=Hi (uJ l j)
  go_upto_region 5 with fail
  refine wpG 9 (fun opIx=>match opIx with
   | 6=>.spec RH default RH.v (fun s w'=>au w' s ((((j+1:Nat):Int):Rat)))
   | 7=>.spec RH default RH.v (fun s w'=>au w' s (l.getD (j+1) 0*(((j+1:Nat):Int):Rat)))
   | 8=>.spec (Nat×RH) ((0,default)) (fun p=>.slice (some ⟨p.1,0,none⟩) 1 1) (fun p w'=>gi w' p (l.getD (j+1) 0*(((j+1:Nat):Int):Rat)))
   | _=>.quiet) (fun|7=>[6]|8=>[7]|_=>[]) fun w0 he0 hz0 hc0 hf0=>?_
  refine wps he0.out rfl rfl (fun w1 hW hG=>?_) fun x30=>?_
  ·exact spc [.int .i64 ((j:Int)+1)] Tryz.func18 ((by rw [HJI.out];exact bP ((j+1:Nat):Int) _ (by omega) (by omega)))
  refine qZ ?_;refine wps he0.out rfl rfl (fun w1 hW hG=>?_) fun x31=>?_
  ·have g30:=(hG 6 (by decide):ax _ _).get fun _ e g=>g.ext e
   exact spc [RH.v ⟨rneg,ra,rn,rc,rb,rm,rd⟩,x30.v] Tryz.func56 (eX _ x30 _ _ _ ((RP.out.ext hW).raw ZP.out (by decide)) (g30.raw (Sz.int (by rw [nYg];show _<4294967296;omega)) (by decide)))
  refine qZ ?_;refine wps he0.out rfl rfl (fun w1 hW hG=>?_) fun x32=>?_
  ·have g31:=(hG 7 (by decide):ax _ _).get fun _ e g=>g.ext e
   exact kZ x31 _ g31 rfl (by simp [execOp,go_sem])
  refine qZ ?_;refine aj ?_;intro w5 hI;have hE:=he0.out.trans hI.ext;have G30:=gT (hI.facts 6);have G31:=gT (hI.facts 7);have G32:=gT (hI.facts 8);clear hI he0 hz0 hc0 hf0;refine mV4 hE ?_ HX HO LA2 RP;clear HX HO LA2 RP;intro HX HO LA2 RP;have hs_w5:=hE.size;clear hE;simp only [pD];clear hc1 hc2 hc3
  go_upto_region 4 with (at_builtin;refine fL rfl (.tmp 11) (.tmp 19) 41 Tryz.underlying41 rfl (w.heap.size≤·) _ _ x32.2 _ x32.1 rfl HO.out rfl G32.out.1 G32.out.2 (by rw [HLj.out];omega) (fun k hk=>by omega) ?_;intro s' y3 q1 q2 q3)
  have HX3:=Hi (Ext.mods HX.out q2 (fun k h=>h));have HO3:Hid (d8 y3 (w.heap.size≤·) s'.v ((List.range (j+1)).map (o5 l))):=Hi (by rw [HNx.out];exact q1);clear q1 q2 q3;go_wp2
  go_roundg (gk-1)
  case measure=>omega
  case rel=>exact ⟨j+1,s',rfl,by omega,by go_num,HX3.out,HO3.out⟩
theorem LIn.oneb{w:World}{s:SH}{qs:List Rat}{lo hi B:Nat}(h:LIn w s qs lo hi)(hB:hi≤B):∃ b,b≠B∧lo≤b∧LIn w s qs b (b+1):=by
 obtain ⟨rs,h1,h2,h3⟩:=h;rcases h3 with h0|⟨b,off,e,h4,h5⟩
 ·exact ⟨lo+B+1,by omega,by omega,rs,h1,h2,Or.inl h0⟩
 ·exact ⟨b,by omega,h4,rs,h1,h2,Or.inr ⟨b,off,e,nXd _,Nat.lt_succ_self _⟩⟩
theorem jP(ao:Option Addr)(n cap:Nat)(l:List Rat)(S:Nat)(w:World)(h:aF w ⟨ao,n,cap⟩ l)(hn:n≤1000000)(hS:S≤8000000)(hz:SzL S l) :
  am 195 [.slice ao n cap] w SH.v (fun x w'=>cf w.heap.size w' x (br l)):=by
 have HX:=Hi (Ext.refl w);have LP:=Hi h.lin;have HSz:=Hi hz;have Hlen:=Hi h.len;simp only at Hlen;clear h hz;unfold am;go_enter Tryz.func195,Tryz.ntmps195
 go_wp2_with fail
 refine cM (aZ ao n cap l _ (LP.out.can.raw HSz.out (by omega)) (by omega)) fun x4 w4 hE G4=>?_
 refine mV2 hE ?_ HX LP;clear HX LP;intro HX LP;have hs_w4:=hE.size;clear hE;obtain ⟨pa,P,pc⟩:=x4;have hP:=G4.out.len;simp only at hP;obtain ⟨p,hp⟩:∃ p,p=tz l:=⟨_,rfl⟩;rw [←hp] at G4 hP;have HTZ:=Hi hp;have HSp:Hid (SzL S p):=Hi (by rw [hp];exact SzL.tz HSz.out);have hPn:P≤n:=by rw [←hP,hp,←Hlen.out];exact ag l
 have hHP:=Hi hP;have HG:Hid (LIn w4 ⟨pa,P,pc⟩ p w.heap.size w4.heap.size):=Hi G4.out;clear hp hP Hlen;clear LP;clear G4;simp only [SH.v];by_cases h0:P=0
 case pos =>
  subst h0;have HV:Hid (br l=[]):=Hi (fM.2 (by rw [←HTZ.out];exact nXi.1 hHP.out));go_wp2
  go_ret
  exact ⟨⟨none,0,0⟩,rfl,HX.out,by rw [HV.out];exact cf.nil _ _⟩
 obtain ⟨m,rfl⟩:∃ m,P=m+1:=⟨P-1,by omega⟩;have hz0:((m:Int)+1 == 0)=false:=by rw [nXr];omega
 have Hne:Hid (tz l≠[]):=Hi (by rw [←HTZ.out];intro h;have:=hHP.out;rw [h] at this;simp at this);have HL:Hid ((tz l).getLast?.getD 0=p.getD m 0):=Hi (by rw [←HTZ.out,List.getLast?_eq_getElem?,hHP.out,Nat.add_sub_cancel,←nXc]);have Zc:Hid (Sz S (p.getD m 0)):=Hi (HSp.out.at (by rw [hHP.out];omega));have Zb:Hid (Sz S (p.getD m 0).abs):=Hi Zc.out.abs;have ZI:Hid (Sz (1+S) (((1:Int):Rat) / (p.getD m 0).abs)):=Hi ((Sz.int (by decide)).div Zb.out);have HV:Hid (br l=bW p (((1:Int):Rat) / (p.getD m 0).abs)):=Hi (by
  unfold bW;have h1:=gJ l;unfold br at h1 ⊢;rw [HL.out,←HTZ.out] at h1 ⊢;exact h1.symm)
 obtain ⟨b,off,r,hao,hbl,⟨hc1,hc2,hc3⟩,hPc⟩:=HG.out.celx (k:=m) (by omega);obtain ⟨rneg,ra,rn,rc,rb,rm,rd⟩:=r;simp only at hc1 hc2 hc3;have HC:=Hi hPc;clear hPc h0;subst hao
 go_upto_region 4 with fail
 refine wpG 11 (fun opIx=>match opIx with
  | 1=>.spec RH default RH.v (fun s w'=>au w' s (((1:Int):Rat)))
  | 8=>.spec RH default RH.v (fun s w'=>au w' s ((p.getD m 0).abs))
  | 9=>.spec RH default RH.v (fun s w'=>au w' s (((1:Int):Rat) / (p.getD m 0).abs))
  | 10=>.spec (SH) (default) (SH.v) (fun x w'=>cf w.heap.size w' x (bW p (((1:Int):Rat) / (p.getD m 0).abs)))
  | _=>.quiet) (fun|9=>[1,8]|10=>[9]|_=>[]) fun w0 he0 hz0 hc0 hf0=>?_
 refine wps he0.out rfl rfl (fun w1 hW hG=>?_) fun x20=>?_
 ·exact spc [.int .i64 1] Tryz.func18 (bP 1 _ (by decide) (by decide))
 refine qZ ?_;refine wps he0.out rfl rfl (fun w1 hW hG=>?_) fun x21=>?_
 ·exact spc [RH.v ⟨rneg,ra,rn,rc,rb,rm,rd⟩] Tryz.func178 (sY ⟨rneg,ra,rn,rc,rb,rm,rd⟩ _ _ ((HC.out.ext hW).raw Zc.out (by omega)))
 refine qZ ?_;refine wps he0.out rfl rfl (fun w1 hW hG=>?_) fun x22=>?_
 ·have g20:=(hG 1 (by decide):ax _ _).get fun _ e g=>g.ext e
  have g21:=(hG 8 (by decide):ax _ _).get fun _ e g=>g.ext e
  exact spc [x20.v,x21.v] Tryz.func63 (iV x20 x21 _ _ _ (g20.raw (Sz.int (by decide)) (by decide)) (g21.raw Zb.out (by omega)))
 refine qZ ?_;refine wps he0.out rfl rfl (fun w1 hW hG=>?_) fun x23=>?_
 ·have g22:=(hG 9 (by decide):ax _ _).get fun _ e g=>g.ext e
  exact spc [.slice (some ⟨b,off,none⟩) (m+1:Nat) pc,x22.v] Tryz.func28 ((gp (some ⟨b,off,none⟩) (m+1) pc p x22 (((1:Int):Rat) / (p.getD m 0).abs) _ ((HG.out.ext hW).can.raw HSp.out (by omega)) (g22.raw ZI.out (by omega)) (by omega) (HSp.out.mono (by omega)) (ZI.out.mono (by omega))).wk (fun _ _ _ h=>h.mono (by have:=hW.size;omega)))
 refine qZ ?_;refine aj ?_;intro w5 hI;have hE:=he0.out.trans hI.ext;have G20:=gT (hI.facts 1);have G21:=gT (hI.facts 8);have G22:=gT (hI.facts 9);have G23:=gT (hI.facts 10);clear hI he0 hz0 hc0 hf0;refine mV3 hE ?_ HX HG HC;clear HX HG HC;intro HX HG HC;have hs_w5:=hE.size;clear hE;simp only [pD];clear hc1 hc2 hc3;go_wp2
 go_ret
 exact ⟨x23,rfl,HX.out,by rw [HV.out];exact G23.out⟩
def ChR(w:World)(v:SH)(ms:List (List Rat)):Prop:=v.n=ms.length∧∀ k,k<ms.length→∃ L a n c,v.a=some ⟨L,0,none⟩∧L<w.heap.size∧w.cell? ⟨L,k,none⟩=some (.slice a n c)∧aF w ⟨a,n,c⟩ (ms.getD k [])
theorem ChR.ext{w w':World}{v:SH}{ms:List (List Rat)}(h:ChR w v ms)(he:Ext w w'):ChR w' v ms :=
 ⟨h.1,fun k hk=>let ⟨L,a,n,c,h1,h2,h3,h4⟩:=h.2 k hk;⟨L,a,n,c,h1,nXm h2 he.size,he.cell h3,h4.ext he⟩⟩
instance {w w':World} {v:SH} {ms:List (List Rat)}:Go.Front.Mv w w' (ChR w v ms) (ChR w' v ms):=⟨fun e h=>ChR.ext h e⟩

theorem ChM.r{w:World}{lo B:Nat}{va:Option Addr}{vn vc m:Nat}{ms:List (List Rat)}(h:ChM w lo B (.slice va vn vc) ms)(hm:m≤ms.length):ChR w ⟨va,m,vc⟩ (ms.take m):=by
 have h1:=(ChM.at (va:=va) (vn:=vn) (vc:=vc) h).2;refine ⟨by rw [nXj];show m=_;omega,fun k hk=>?_⟩;rw [nXj] at hk;obtain ⟨L,a,n,c,e1,e2,e3,e4⟩:=h1 k (by omega);refine ⟨L,a,n,c,e1,e2,e3,?_⟩;rw [show (ms.take m).getD k []=ms.getD k [] by rw [nXc,nXc,List.getElem?_take_of_lt (by omega)]];exact e4
theorem ChM.le{w:World}{lo B n c:Nat}{va:Option Addr}{ms:List (List Rat)}(h:ChM w lo B (.slice va n c) ms):ms.length≤c:=by
 obtain ⟨xs,h1,h2,-⟩:=h;rcases h1 with ⟨e,rfl⟩|⟨L,cap,re,e,-,-,h3,-⟩
 ·rw [←h2];exact Nat.zero_le _
 ·simp only [Value.slice.injEq] at e;omega
theorem ChM.max{w:World}{lo B n c L:Nat}{ms:List (List Rat)}(h:ChM w lo B (.slice (some ⟨L,0,none⟩) n c) ms):c≤9223372036854775807:=by
 obtain ⟨xs,h1,h2,-⟩:=h;rcases h1 with ⟨e,rfl⟩|⟨L,cap,re,e,-,-,-,h3,-⟩
 ·simp at e
 ·simp only [Value.slice.injEq] at e;omega
theorem Aa{w:World}{lo B:Nat}{xa xb:SH}{a b:List Rat}{ba bb:Nat}(hB:w.heap[B]?=some (.cells #[.slice xa.a xa.n xa.c,.slice xb.a xb.n xb.c] 41 (0,0)))(ha:LIn w xa a ba (ba+1))(hb:LIn w xb b bb (bb+1))(h1:ba≠B)(h2:bb≠B)(h3:lo≤ba)(h4:lo≤bb) :
  ChM w lo B (.slice (some ⟨B,0,none⟩) 2 2) [a,b]:=by
 refine ⟨[xa,xb],Or.inr ⟨B,2,#[],rfl,rfl,?_,nXd 2,by decide,rfl,rfl⟩,rfl,fun k hk=>?_⟩
 ·unfold SBk;rw [hB];rfl
 ·match k,hk with
  | 0,_=>exact ⟨ba,h1,h3,ha⟩
  | 1,_=>exact ⟨bb,h2,h4,hb⟩
def xO:Rat:=((-1:Int):Rat)
def UEq(p q:List Rat):Prop:=Unit→br p=br q
def QrP(p q:List Rat)(x:SH×SH)(w:World):Prop:=aF w x.1 (bs p q)∧aF w x.2 (bq p q)
theorem QrP.ext{p q:List Rat}{x:SH×SH}{w w':World}(h:QrP p q x w)(he:Ext w w'):QrP p q x w':=⟨h.1.ext he,h.2.ext he⟩
instance {p q:List Rat} {x:SH×SH} {w w':World}:Go.Front.Mv w w' (QrP p q x w) (QrP p q x w'):=⟨fun e h=>QrP.ext h e⟩

def CnI(w wr:World)(K:Nat)(q:List Rat)(v:Value)(g:Nat):Prop:=∃ (N cap L fuel X:Nat) (ps:List (List Rat)) (a b:List Rat),v=.slice (some ⟨L,0,none⟩) (N+1+1:Nat) cap∧b.length=g∧w.heap.size≤L∧ChM wr w.heap.size L (.slice (some ⟨L,0,none⟩) (N+1+1:Nat) cap) (ps++[br a,br b])∧ps.length=N∧N+b.length≤1000∧RmI K a b X∧a≠[]∧a.length<fuel∧(ps++(chn fuel a b).map br)=(remsV q).map br∧cap≤9223372036854775807
theorem rS(pa:Option Addr)(P pc:Nat)(p:List Rat)(S D K:Nat)(w:World)(h:aF w ⟨pa,P,pc⟩ p)(hP:P≤500)(h0:tz p≠[])(hS:1≤S)(hD:0<D)(hD2:D<W32 ^ S)(hf:∀ x ∈ p,Fr S D x)(hK:KZ K S P)(hK2:K≤7000000) :
  am 139 [.slice pa P pc] w SH.v (fun x w'=>ChR w' x (nX p)):=by
 have LP:=Hi h.lin;have HX:=Hi (Ext.refl w);have HPl:Hid (p.length=P):=Hi h.len;have HF:=Hi hf;obtain ⟨X0,hSX,hI0⟩:=iX hS hD hf (by have:=h.len;simp only at this;omega) h0 (by have:=h.len;simp only at this;rw [this];exact hK);have HI0:=Hi hI0;clear hI0;have H0:=Hi h0;have hSK:S+2≤K:=by have:=HI0.out.small;omega
 have HSz:Hid (SzL S p):=Hi (bZ hS hD hD2 hf);have HDF:Hid (∀ x ∈ tz (derL p),Fr (S+1) D x):=Hi (jb hf (by have:=h.len;simp only at this;omega));have hD3:D<W32 ^ (S+1):=nXm hD2 (nXo aB (by omega));have HDZ:Hid (SzL (S+1) (tz (derL p))):=Hi (bZ (by omega) hD hD3 HDF.out);have HDl:Hid ((tz (derL p)).length≤P):=Hi (by
  have h1:=HI0.out.2.2.2.2.2.2.1;rw [ay,ay,aT] at h1;have h2:=ag p;have h3:=HPl.out;rcases h1 with h1|h1
  ·exact absurd (ck.1 h1) h0
  ·omega)
 have HUD:Hid (br (tz (derL p))=br (av (derL p))):=Hi (by rw [jt];unfold br;rw [aT]);have HUP:Hid (br p=br (av p)):=Hi (jt p).symm;clear h hf h0;unfold am;go_enter Tryz.func139,Tryz.ntmps139
 go_wp2_with fail
 refine cM (jP pa P pc p S _ LP.out.can (by omega) (by omega) HSz.out) fun x8 w8 hE G8=>?_
 refine mV2 hE ?_ LP HX;clear LP HX;intro LP HX;have hs_w8:=hE.size;clear hE
 go_wp2_with fail
 refine cM (qE pa P pc p _ LP.out.can (by omega) (HSz.out.mono (by omega))) fun x10 w10 hE G10=>?_
 refine mV3 hE ?_ G8 LP HX;clear G8 LP HX;intro G8 LP HX;have hs_w10:=hE.size;clear hE;obtain ⟨da,dn,dc⟩:=x10;have hdn:dn≤P:=by have h1:=G10.out.len;have h2:=HDl.out;simp only at h1;omega
 simp only [SH.v]
 go_wp2_with fail
 refine cM (jP da dn dc (tz (derL p)) (S+1) _ G10.out.can (by omega) (by omega) HDZ.out) fun x11 w11 hE G11=>?_
 refine mV4 hE ?_ G10 G8 LP HX;clear G10 G8 LP HX;intro G10 G8 LP HX;have hs_w11:=hE.size;clear hE;rw [HUD.out] at G11;rw [HUP.out] at G8;obtain ⟨ba,hba,hba2,hla⟩:=LIn.oneb (B:=w11.heap.size) G8.out (nXd _);obtain ⟨bb,hbb,hbb2,hlb⟩:=LIn.oneb (B:=w11.heap.size) G11.out (nXd _);have LA:=Hi hla;have LB:=Hi hlb;have hs11:=HX.out.size;have hbb3:w.heap.size≤bb:=by have:=hs_w10;have:=hs_w8;omega
 clear hla hlb;clear G8;clear G10;clear G11;clear LP;obtain ⟨aa,an,ac⟩:=x8;obtain ⟨bao,bn,bc⟩:=x11;simp only [SH.v]
 go_upto_region 2 with fail
 refine nmA ?_;intro w12 hE BL hz_w12 hr_w12;refine mV3 hE ?_ HX LA LB;clear HX LA LB;intro HX LA LB;have hs_w12:=hE.size;clear hE;replace b_BL:=bX3 BL;obtain ⟨L,hL⟩:∃ L,L=w11.heap.size:=⟨_,rfl⟩;rw [←hL] at BL hba hbb ⊢;have hLw:w.heap.size≤L:=by omega
 have HC:Hid (ChM w12 w.heap.size L (.slice (some ⟨L,0,none⟩) 2 2) [br (av p),br (av (derL p))]):=Hi (Aa (xa:=⟨aa,an,ac⟩) (xb:=⟨bao,bn,bc⟩) BL.out LA.out LB.out hba hbb hba2 hbb3);have HLb:Hid ((av (derL p)).length≤900):=Hi (by rw [ay];have h2:=HDl.out;omega);clear b_BL hL;clear LA;clear LB
 (try clear b_BL);clear BL
 go_wp2
 go_loopg [3] (av (derL p)).length (fun g v wr=>Ext w wr∧CnI w wr K p v g)
 case atStart=>exact ⟨HX.out,0,2,L,p.length+1,X0,[],av p,av (derL p),rfl,rfl,hLw,HC.out,rfl,by have:=HLb.out;omega,by have h:=HI0.out;rwa [lQ] at h,fun k=>H0.out (ck.1 k),by rw [ay];have:=ag p;omega,rfl,by decide⟩
 case round =>
  obtain ⟨g1,N,cap,L,fuel,X,ps,a,b,rfl,hbg,hLw,g2,hps,hNb,g3,ha0,hfu,g4,hcap⟩:=hrel;clear HX HC;have HX:=Hi g1;have HC:=Hi g2;have HI:=Hi g3;have HE:=Hi g4;have Ha:=Hi ha0;have hat:=(ChM.at (va:=some ⟨L,0,none⟩) (vn:=N+1+1) (vc:=cap) g2).2;obtain ⟨L1,aa,an,ac,e1,hl1,hcell1,hcan1⟩:=hat N (by simp;omega);obtain ⟨L2,bao,bn,bc,e2,hl2,hcell2,hcan2⟩:=hat (N+1) (by simp;omega);obtain rfl:L=L1:=by simpa using e1
  obtain rfl:L=L2:=by simpa using e2
  rw [show (ps++[br a,br b]).getD N []=br a by rw [←hps];simp] at hcan1;rw [show (ps++[br a,br b]).getD (N+1) []=br b by rw [←hps];simp] at hcan2;have LA:=Hi hcan1;have LB:=Hi hcan2;have hbl:b.length=bn:=by have h1:=hcan2.len;rw [jQ,g3.2.1] at h1;exact h1
  have hal:a.length=an:=by have h1:=hcan1.len;rw [jQ,g3.1] at h1;exact h1
  have hN2:((N:Int)+1+1)-2=(N:Int):=by omega
  have hN3:(N:Int)+1<(N:Int)+1+1:=by omega
  have hN4:(N:Int)<(N:Int)+1+1:=by omega
  have hNc:N+1+1≤cap:=by have h1:=ChM.le g2;simp at h1;omega
  have hNc1:(0:Int)≤(N:Int)+1∧(N:Int)+1≤(cap:Int):=by omega
  clear g1 g2 g3 g4 ha0 hat e1 e2 hcan1 hcan2;by_cases h0:bn=0
  case pos =>
   subst h0;have hb:b=[]:=nXi.1 hbl;have HV:Hid ((ps++[br a,br b]).take (N+1)=nX p):=Hi (by
    rw [uP,←HE.out,hb];obtain ⟨f2,rfl⟩:∃ f2,fuel=f2+1:=⟨fuel-1,by omega⟩;rw [dE Ha.out,←hps];rw [List.take_append,nXl (Nat.le_succ _),show ps.length+1-ps.length=1 by omega];rfl)
   go_wp2
   go_ret
   exact ⟨⟨some ⟨L,0,none⟩,N+1,cap⟩,rfl,HX.out,by rw [←HV.out];exact ChM.r HC.out (by simp;omega)⟩
  have hbp:(0:Int)<(bn:Int):=by omega
  have Hb0:Hid (b≠[]):=Hi (by intro h;rw [h] at hbl;simp at hbl;omega);obtain ⟨e1,e2,e3,e4,e5,e6,e7,e8,e9⟩:=HI.out;obtain ⟨Da,u1,u2,u3⟩:=og e3 e1 e5;obtain ⟨Db,v1,v2,v3⟩:=og e4 e2 e5;have HT:Hid (tz a≠[]∧tz b≠[]):=Hi ⟨by rw [e1];exact Ha.out,by rw [e2];exact Hb0.out⟩;have HM0:Hid (tz (br b)≠[]):=Hi (by rw [gJ];exact fun h=>HT.out.2 (fM.1 h));have hdz:=HI.out.dsz;obtain ⟨s,r,f,hf,hdv⟩:=uw (ux e3 e4 e1 e2 Hb0.out);obtain ⟨hN,X2,hI2⟩:=HI.out.next Hb0.out hf hdv;rw [hN] at hI2;obtain ⟨c,hc⟩:∃ c,c=av ((bq a b).map (·*-1)):=⟨_,rfl⟩;rw [←hc] at hI2;have HNX:=Hi hI2;have HCc:=Hi hc;have hml:(br a).length=an:=by rw [jQ,e1];exact hal
  have HRS:Hid (SzL 7000000 (bq (br a) (br b))):=Hi ((pI u3 v3 HM0.out e5 e5 u1 u2 v1).mono (by rw [hml,←hal];omega));have HSS:Hid (SzL 7000001 (bW (bq (br a) (br b)) xO)):=Hi ((sJ HRS.out (show Sz 1 xO from oR)).mono (by omega));have HUC:Hid (UEq (bW (bq (br a) (br b)) xO) c):=Hi (fun _=>by rw [hc];exact wm HT.out.1 HT.out.2);have HRl:Hid ((bq (br a) (br b)).length≤1000):=Hi (by
   have h1:=(cg (br a) HM0.out).1;rw [gJ,jQ,e2] at h1;omega)
  have hcb:c.length<b.length:=by
   rcases hI2.2.2.2.2.2.2.1 with h|h
   ·exact absurd h Hb0.out
   ·exact h
  have HD3:Hid (X+(an+1)*(X+1)≤7000000):=Hi (by rw [←hal];omega);have han:an≤100000:=by rw [←hal];exact e8
  have hbn:bn≤1000:=by omega
  have HU3:=Hi u3;have HV3:=Hi v3;obtain ⟨qs,hqs⟩:∃ qs,qs=ps++[br a,br b]:=⟨_,rfl⟩;have hql:qs.length=N+1+1:=by rw [hqs];simp;omega
  rw [←hqs] at HC;have HQS:=Hi hqs;have HQL:=Hi hql;have Hps:=Hi hps;have Hbg:=Hi hbg;have Hbl:=Hi hbl;have hcg:c.length<gk:=by omega
  have hcN:N+1+c.length≤1000:=by omega
  have HLc:Hid (c.length<a.length∧b.length<fuel-1):=Hi (by
   have h1:=e7;rcases h1 with h|h
   ·exact absurd h Ha.out
   ·omega)
  clear hps hbg hbl hal hml hcb hNb;clear hc hqs hdv hN hI2 e1 e2 e3 e4 e6 e7 e8 e9 u3 v3 hdz hql h0 hf
  go_upto_region 3 with fail
  refine aQ [(17,15),(17,16)] _ (by simp only [gH,kH,List.push_toArray,List.cons_append,List.nil_append];exact rfl) (by intro c a d v w h;cases d <;> exact h) 17 (fun opIx=>match opIx with
   | 12=>.spec (SH×SH) ((default,default)) (QT) (fun x w'=>QrP (br a) (br b) x w')
   | _=>.quiet) (fun _=>[]) (by kernel_rfl) (by kernel_rfl) (by kernel_rfl) (fun w0 he0 hz0 hc0 hf0=>?_)
  replace he0:=Hi he0;simp only [pT];refine qQ ?_;refine wps he0.out rfl rfl (fun w1 hW hG=>?_) fun x40=>?_
  ·exact spc [.slice aa an ac,.slice bao bn bc] Tryz.func190 (o0 aa bao an ac bn bc (br a) (br b) X X Da Db _ (LA.out.ext hW) (LB.out.ext hW) (by omega) (by omega) e5 e5 u1 u2 v1 v2 HU3.out HV3.out HM0.out (by have:=HD3.out;omega))
  refine qZ ?_;refine aj ?_;intro w14 hI;have hE:=he0.out.trans hI.ext;have G40:=gT (hI.facts 12);clear hI he0 hz0 hc0 hf0;refine mV4 hE ?_ HX HC LA LB;clear HX HC LA LB;intro HX HC LA LB;have hs_w14:=hE.size;clear hE;simp only [pD];obtain ⟨xq,⟨ra,rn,rc⟩⟩:=x40;have HR1:=Hi G40.out.2.lin;have hrl:=G40.out.2.len;have hrn:rn≤1000:=by have:=HRl.out;simp only at hrl;omega
  clear G40 hrl;simp only [QT] at *
  go_wp2_with fail
  refine cM (bP (-1) _ (by decide) (by decide)) fun x50 w50 hE G50=>?_
  refine mV5 hE ?_ HX HC LA LB HR1;clear HX HC LA LB HR1;intro HX HC LA LB HR1;have hs_w50:=hE.size;clear hE
  go_wp2_with fail
  refine cM (gp ra rn rc (bq (br a) (br b)) x50 xO _ (HR1.out.can.raw HRS.out (by omega)) (show aR _ x50 xO from G50.out.raw oR (by decide)) (by omega) (HRS.out.mono (by omega)) ((show Sz 1 xO from oR).mono (by omega))) fun x51 w51 hE G51=>?_
  refine mV6 hE ?_ G50 HX HC LA LB HR1;clear G50 HX HC LA LB HR1;intro G50 HX HC LA LB HR1;have hs_w51:=hE.size;clear hE;obtain ⟨sa,sn,sc⟩:=x51;have hsn:sn≤1000:=by
   have h1:=G51.out.len;have h2:=rk (bq (br a) (br b)) xO;have h3:=HRl.out;simp only at h1;omega
  simp only [SH.v]
  go_wp2_with fail
  refine cM (jP sa sn sc (bW (bq (br a) (br b)) xO) 7000001 _ G51.out.can (by omega) (by omega) HSS.out) fun x52 w52 hE G52=>?_
  refine mV7 hE ?_ G51 G50 HX HC LA LB HR1;clear G51 G50 HX HC LA LB HR1;intro G51 G50 HX HC LA LB HR1;have hs_w52:=hE.size;clear hE;rw [HUC.out ()] at G52;have hLr:L<wr.heap.size:=hl1;obtain ⟨bm,hbm,hbm2,hlm⟩:=LIn.oneb (B:=w52.heap.size) G52.out (nXd _);have LM:=Hi hlm;clear hlm;obtain ⟨ma,mn,mc⟩:=x52;simp only [SH.v];clear G51;clear G52;clear G50;clear HR1;clear LA;clear LB
  go_wp2_with (at_builtin;refine fG rfl (.tmp 38) (.tmp 43) 159 Tryz.underlying159 rfl w.heap.size L (.slice (some ⟨L,0,none⟩) (N+1+1:Nat) cap) qs ⟨ma,mn,mc⟩ (br c) bm rfl HC.out LM.out (by omega) (by omega) rfl (by rw [HQL.out];omega) ?_;intro L2 cap2 y1 q1 q2 q3 q4)
  have HX2:=Hi (q2.ext HX.out (by omega));have HC2:=Hi q1;have hL2:w.heap.size≤L2:=by omega
  clear q1 q2 q3 q4 HX HC;obtain ⟨f2,rfl⟩:∃ f2,fuel=f2+1:=⟨fuel-1,by omega⟩;go_wp2
  go_roundg c.length
  case measure=>exact hcg
  case rel =>
   have hl:qs.length+1=N+1+1+1:=by rw [HQL.out]
   refine ⟨HX2.out,N+1,cap2,L2,f2,X2,ps++[br a],b,c,?_,rfl,hL2,?_,?_,hcN,HNX.out,Hb0.out,?_,?_,?_⟩
   ·first|(rw [←hl];rfl)|simp [HQL.out]
   ·have h:=HC2.out;rw [hl,HQS.out] at h;rw [List.append_assoc] at h ⊢;exact h
   ·rw [nXh,Hps.out];rfl
   ·have:=HLc.out.2;omega
   ·have h:=HE.out;rw [dY Ha.out Hb0.out,←HCc.out,List.map_cons] at h;rw [List.append_assoc];exact h
   ·exact ChM.max HC2.out
structure Mz (ms:List (List Rat)) (x:Rat):Prop where
 ln:ms.length≤1000
 mm:∀ k,k<ms.length→(ms.getD k []).length≤100∧SzL 40000000 (ms.getD k [])∧∀ j,j≤(ms.getD k []).length→Sz 40000000 (evV ((ms.getD k []).drop j) x)
theorem ChR.at{w:World}{va:Option Addr}{vn vc k:Nat}{ms:List (List Rat)}(h:ChR w ⟨va,vn,vc⟩ ms)(hk:k<ms.length):∃ L a n c,va=some ⟨L,0,none⟩∧L<w.heap.size∧w.cell? ⟨L,k,none⟩=some (.slice a n c)∧aF w ⟨a,n,c⟩ (ms.getD k []):=h.2 k hk
theorem pk(v:SH)(ms:List (List Rat))(t:RH)(x:Rat)(w:World)(hc:ChR w v ms)(hz:Mz ms x)(ht:au w t x)(hx:Sz 10000000 x) :
  am 194 [v.v,t.v] w (fun _:Unit=>.int .i64 (eB ms x)) (fun _ _=>True):=by
 obtain ⟨va,vn,vc⟩:=v;obtain ⟨tn,ta,tl,tc,tb,tm,td⟩:=t;have HX:=Hi (Ext.refl w);have HC:=Hi hc;have HT:=Hi ht;have ZX:=Hi hx;have HM:=Hi hz;obtain rfl:vn=ms.length:=hc.1;have hl:=hz.ln;clear hc ht hx hz;unfold am;go_enter Tryz.func194,Tryz.ntmps194;simp only [SH.v]
 go_upto_region 1 with fail
 refine nmA ?_;intro w1 hE B3 hz_w1 hr_w1;refine mV3 hE ?_ HX HC HT;clear HX HC HT;intro HX HC HT;have hs_w1:=hE.size;clear hE;obtain ⟨c_B3,f_B3,l_B3⟩:=bX3 B3;obtain ⟨b3,hb3⟩:∃ b3,b3=w.heap.size:=⟨_,rfl⟩;have hb3w:b3<w1.heap.size:=by omega
 rw [←hb3] at B3 ⊢;clear c_B3 f_B3 l_B3;have c_B3:=ab B3.out;have f_B3:=ae B3.out;clear hb3;go_wp2
 go_loopg [5,6,12] ms.length (fun g cv lv iv wr=>∃ (k cnt:Nat) (la:Int),k+g=ms.length∧iv=.int .i64 (k:Nat)∧cv=.int .i64 (cnt:Nat)∧lv=.int .i64 la∧Ext w wr∧Ext w1 wr∧cnt+vr la ((ms.drop k).map fun m=>Sg.sg (evV m x))=eB ms x∧cnt≤k∧IsS la)
 case atStart=>exact ⟨0,0,0,by omega,rfl,rfl,rfl,HX.out,Ext.refl _,by rw [Nat.zero_add];rfl,nXd _,Or.inr (Or.inl rfl)⟩
 case round =>
  obtain ⟨k,cnt,la,hk,rfl,rfl,rfl,g1,g2,g3,g4,g5⟩:=hrel;clear HX;have HX:=Hi g1;have HX7:=Hi g2;have HC2:=Hi (HC.out.ext g2);have HT2:=Hi (HT.out.ext g2);have B32:=Hi (g2.block B3.out);have HV:=Hi g3;have HLA:=Hi g5;have hb3r:=g2.size;clear g1 g2 g3 g5 c_B3 f_B3;replace b_B32:=bX3 B32;by_cases h0:gk=0
  case pos =>
   subst h0;obtain rfl:k=ms.length:=by omega
   have HE:Hid (cnt=eB ms x):=Hi (by have:=HV.out;rw [List.drop_length,List.map_nil] at this;exact this);have hin:¬ ((ms.length:Nat):Int)<(ms.length:Nat):=by omega
   go_wp2
   go_ret
   exact ⟨(),by rw [HE.out];rfl,HX.out,trivial⟩
  have hin:(k:Int)<(ms.length:Nat):=by omega
  have hkn:k<ms.length:=by omega
  obtain ⟨L,a,n,c,hva,hLl,hcell,hcan⟩:=HC2.out.at (k:=k) hkn;subst hva;have HL:=Hi hcan;have HMk:=Hi (HM.out.mm k hkn);have hn:n≤100:=by have h1:=hcan.len;have h2:=HMk.out.1;simp only at h1;omega
  have HD:=Hi (qB (fun m=>Sg.sg (evV m x)) ms [] hkn);have HZ0:Hid (Sz 40000000 (evV (ms.getD k []) x)):=Hi (HMk.out.2.2 0 (Nat.zero_le _));clear hcan
  go_wp2_with fail
  refine cM (nL a n c (ms.getD k []) ⟨tn,ta,tl,tc,tb,tm,td⟩ x _ HL.out HT2.out hn HMk.out.2.1 ZX.out HMk.out.2.2) fun x18 w18 hE G18=>?_
  refine mV6 hE ?_ HX HX7 HC2 HT2 B32 HL;clear HX HX7 HC2 HT2 B32 HL;intro HX HX7 HC2 HT2 B32 HL;have hs_w18:=hE.size;clear hE;replace b_B32:=bX3 B32
  go_wp2_with fail
  refine cM (eW x18 (evV (ms.getD k []) x) _ (G18.out.raw HZ0.out (by decide))) fun x19 w19 hE _=>?_
  refine mV7 hE ?_ G18 HX HX7 HC2 HT2 B32 HL;clear G18 HX HX7 HC2 HT2 B32 HL;intro G18 HX HX7 HC2 HT2 B32 HL;have hs_w19:=hE.size;clear hE;replace b_B32:=bX3 B32;rw [qI];rw [HD.out] at HV;have hs:=oC (evV (ms.getD k []) x);obtain ⟨s,es⟩:∃ s,s=Sg.sg (evV (ms.getD k []) x):=⟨_,rfl⟩;rw [←es] at HV hs ⊢;have HS:=Hi hs;clear es HD hcell HZ0 HMk;clear HL;clear G18;obtain ⟨rl,hrl⟩:∃ rl,rl=(ms.drop (k+1)).map fun m=>Sg.sg (evV m x):=⟨_,rfl⟩
  rw [←hrl] at HV;have HRL:=Hi hrl;have hla:=HLA.out;clear hrl;have fin:∀ (cnt2:Nat) (s2:Int),cnt2+vr s2 rl=eB ms x→cnt2+vr s2 ((ms.drop (k+1)).map fun m=>Sg.sg (evV m x))=eB ms x:=fun cnt2 s2 h=>by rw [←HRL.out];exact h
  have FIN:=Hi fin;clear fin;rcases hs with rfl|rfl|rfl
  ·rcases hla with rfl|rfl|rfl
   ·have HV2:Hid (cnt+vr (-1) rl=eB ms x):=Hi (by have:=HV.out;simpa [vr] using this);clear HV;go_wp2
    go_roundg (gk-1)
    case measure=>omega
    case rel=>exact ⟨k+1,cnt,-1,by omega,by go_num,rfl,rfl,HX.out,HX7.out,FIN.out _ _ HV2.out,by omega,HS.out⟩
   ·have HV2:Hid (cnt+vr (-1) rl=eB ms x):=Hi (by have:=HV.out;simpa [vr] using this);clear HV;go_wp2
    go_roundg (gk-1)
    case measure=>omega
    case rel=>exact ⟨k+1,cnt,-1,by omega,by go_num,rfl,rfl,HX.out,HX7.out,FIN.out _ _ HV2.out,by omega,HS.out⟩
   ·have HV2:Hid ((cnt+1)+vr (-1) rl=eB ms x):=Hi (by have:=HV.out;simp [vr] at this;omega);clear HV;go_wp2
    go_roundg (gk-1)
    case measure=>omega
    case rel=>exact ⟨k+1,cnt+1,-1,by omega,by go_num,by go_num,rfl,HX.out,HX7.out,FIN.out _ _ HV2.out,by omega,HS.out⟩
  ·have HV2:Hid (cnt+vr la rl=eB ms x):=Hi (by have:=HV.out;rw [show vr la (0 :: rl)=vr la rl by simp [vr]] at this;exact this);clear HV;go_wp2
   go_roundg (gk-1)
   case measure=>omega
   case rel=>exact ⟨k+1,cnt,la,by omega,by go_num,rfl,rfl,HX.out,HX7.out,FIN.out _ _ HV2.out,by omega,HLA.out⟩
  ·rcases hla with rfl|rfl|rfl
   ·have HV2:Hid ((cnt+1)+vr 1 rl=eB ms x):=Hi (by have:=HV.out;simp [vr] at this;omega);clear HV;go_wp2
    go_roundg (gk-1)
    case measure=>omega
    case rel=>exact ⟨k+1,cnt+1,1,by omega,by go_num,by go_num,rfl,HX.out,HX7.out,FIN.out _ _ HV2.out,by omega,HS.out⟩
   ·have HV2:Hid (cnt+vr 1 rl=eB ms x):=Hi (by have:=HV.out;simpa [vr] using this);clear HV;go_wp2
    go_roundg (gk-1)
    case measure=>omega
    case rel=>exact ⟨k+1,cnt,1,by omega,by go_num,rfl,rfl,HX.out,HX7.out,FIN.out _ _ HV2.out,by omega,HS.out⟩
   ·have HV2:Hid (cnt+vr 1 rl=eB ms x):=Hi (by have:=HV.out;simpa [vr] using this);clear HV;go_wp2
    go_roundg (gk-1)
    case measure=>omega
    case rel=>exact ⟨k+1,cnt,1,by omega,by go_num,rfl,rfl,HX.out,HX7.out,FIN.out _ _ HV2.out,by omega,HS.out⟩
end Go.Proofs.YtohahgiidooijaaGreat
/- Eval of the reference's polynomials, of any form. -/
namespace Go.Proofs.YtohahgiidooijaaGreat
open Go.RowKit Go.Front Go.Num Stab
attribute [local go_sem] XW.cell XW.frozen
theorem ur(ao:Option Addr)(n c:Nat)(l:List Rat)(t:RH)(x:Rat)(w:World)(h:cx w ⟨ao,n,c⟩ l)(ht:aR w t x)(hn:n≤100)(hl:SzL 40000000 l)(hx:Sz 10000000 x)(hE:∀ k,k≤l.length→Sz 40000000 (evV (l.drop k) x)) :
  am 79 [.slice ao n c,t.v] w RH.v (fun y w'=>au w' y (evV l x)):=by
 obtain ⟨tn,ta,tl,tc,tb,tm,td⟩:=t;have HX:=Hi (Ext.refl w);have H:=Hi h;have HT0:=Hi ht;have HZ:=Hi hl;have ZX:=Hi hx;have HLn:=Hi h.len;have HEs:=Hi hE;simp only at HLn;clear h ht hl hx hE;unfold am;go_enter Tryz.func79,Tryz.ntmps79
 go_upto_region 1 with fail
 refine f6 ?_;intro w1 hE B3 B4 hz_w1 hr_w1;replace HX:=hE.tr HX;have hs_w1:=hE.size;clear hE;replace b_B3:=bX3 B3;replace b_B4:=bX3 B4
 go_wp2_with fail
 refine cM (bP 0 _ (by decide) (by decide)) fun x7 w7 hE G7=>?_
 refine mV3 hE ?_ B3 B4 HX;clear B3 B4 HX;intro B3 B4 HX;have hs_w7:=hE.size;clear hE;replace b_B3:=bX3 B3;replace b_B4:=bX3 B4
 go_upto_region 2 with fail
 refine nmA ?_;intro w8 hE B5 hz_w8 hr_w8;refine mV4 hE ?_ G7 B3 B4 HX;clear G7 B3 B4 HX;intro G7 B3 B4 HX;have hs_w8:=hE.size;clear hE;replace b_B3:=bX3 B3;replace b_B4:=bX3 B4;replace b_B5:=bX3 B5;obtain ⟨b3,hb3⟩:∃ b,b=w.heap.size:=⟨_,rfl⟩;obtain ⟨b4,hb4⟩:∃ b,b=w.heap.size+1:=⟨_,rfl⟩;obtain ⟨b5,hb5⟩:∃ b,b=w7.heap.size:=⟨_,rfl⟩;have hw3:w.heap.size≤b3:=by omega
 have hw4:w.heap.size≤b4:=by omega
 have hw5:w.heap.size≤b5:=by omega
 have h34:b3≠b4:=by omega
 have h35:b3≠b5:=by omega
 have h45:b4≠b5:=by omega
 rw [←hb4] at B4 ⊢;rw [←hb3] at B3 ⊢;rw [←hb5] at B5 ⊢;clear hb3 hb4 hb5 b_B3 b_B4 b_B5;have HY:Hid (au w8 x7 (evV (l.drop n) x)):=Hi (by rw [List.drop_eq_nil_of_le (by rw [HLn.out];exact nXd _)];exact G7.out);go_wp2
 go_loopg [6] n (fun g v wr=>∃ (y:RH),v=.int .i64 ((g:Int)-1)∧g≤n∧Ext w wr∧wr.heap[b3]?=some (.cells #[.bool tn,.slice ta tl tc,.slice tb tm td] 30 (0,0))∧wr.heap[b4]?=some (.cells #[.bool false,.slice none 0 0,.slice none 0 0] 30 (0,0))∧wr.heap[b5]?=some (.cells #[.bool y.neg,.slice y.a y.n y.c,.slice y.b y.m y.d] 30 (0,0))∧au wr y (evV (l.drop g) x))
 case atStart=>exact ⟨x7,rfl,nXd _,HX.out,B3.out,B4.out,B5.out,HY.out⟩
 case round =>
  obtain ⟨⟨yn,ya,yl,yc,yb,ym,yd⟩,rfl,hg,g1,g4,g5,g6,g7⟩:=hrel;clear HX B3 B4 B5 HY G7;have HX:=Hi g1;have LA:=Hi (H.out.ext g1);have HT:=Hi (HT0.out.ext g1);have B3:=Hi g4;have B4:=Hi g5;have B5:=Hi g6;have HY:=Hi g7;clear g1 g4 g5 g6 g7;replace b_B3:=bX3 B3;replace b_B4:=bX3 B4;replace b_B5:=bX3 B5;by_cases h0:gk=0
  case pos =>
   subst h0;clear LA;clear HT;have hneg:¬ (0:Int)≤((0:Nat):Int)-1:=by omega
   go_wp2;refine aU (F:=fun W=>bodyPost _ _ _ _ _ W) B4.out rfl ?_;intro w9 T;replace HX:=Hi (T.ext HX.out (by omega));replace HY:=Hi (HY.out.keep T.keep);replace B3:=Hi (T.rest _ _ (by omega) B3.out);replace B4:=Hi (T.bx);replace B5:=Hi (T.rest _ _ (by omega) B5.out);have hs_w9:=nle T.size;have hr_w9:=nle T.size.symm;clear T;replace b_B3:=bX3 B3;replace b_B4:=bX3 B4;replace b_B5:=bX3 B5;exact bodyPost_ret (v:=RH.v ⟨yn,ya,yl,yc,yb,ym,yd⟩) (by simp [results,Tryz.results79,go_sem,b_B4.1]) rfl ⟨⟨yn,ya,yl,yc,yb,ym,yd⟩,rfl,HX.out,HY.out⟩
  obtain ⟨k,rfl⟩:∃ k,gk=k+1:=⟨gk-1,by omega⟩;have hk1:((k+1:Nat):Int)-1=(k:Nat):=by omega
  rw [hk1];have hkn:k<n:=by omega
  have hk0:(0:Int)≤(k:Nat):=by omega
  have hin:(k:Int)<n:=by omega
  have ZY:Hid (Sz 40000000 (evV (l.drop (k+1)) x)):=Hi (HEs.out (k+1) (by rw [HLn.out];omega));have HE:=Hi (kC l x (k:=k) (by rw [HLn.out];exact hkn));have ZK:Hid (Sz 40000000 (l.getD k 0)):=Hi (HZ.out.at (by rw [HLn.out];exact hkn));obtain ⟨ba,oa,r,hao,hbl,⟨hc1,hc2,hc3⟩,hPc⟩:=LA.out.cells' (k:=k) hkn;obtain ⟨rneg,ra,rn,rc,rb,rm,rd⟩:=r;simp only at hc1 hc2 hc3;have HC:=Hi hPc;clear hPc;subst hao
  go_upto_region 5 with fail
  refine wpG 8 (fun opIx=>match opIx with
   | 2=>.spec RH default RH.v (fun s w'=>au w' s (evV (l.drop (k+1)) x*x))
   | 7=>.spec RH default RH.v (fun s w'=>au w' s (evV (l.drop (k+1)) x*x+l.getD k 0))
   | _=>.quiet) (fun|7=>[2]|_=>[]) fun w0 he0 hz0 hc0 hf0=>?_
  refine wps he0.out rfl rfl (fun w1 hW hG=>?_) fun x30=>?_
  ·exact spc [RH.v ⟨yn,ya,yl,yc,yb,ym,yd⟩,RH.v ⟨tn,ta,tl,tc,tb,tm,td⟩] Tryz.func56 (eX _ _ _ _ _ ((HY.out.ext hW).raw ZY.out (by decide)) (HT.out.ext hW))
  refine qZ ?_;refine wps he0.out rfl rfl (fun w1 hW hG=>?_) fun x31=>?_
  ·have g30:=(hG 2 (by decide):ax _ _).get fun _ e g=>g.ext e
   exact spc [x30.v,RH.v ⟨rneg,ra,rn,rc,rb,rm,rd⟩] Tryz.func81 (iz x30 _ _ _ _ (g30.raw (ZY.out.mul ZX.out) (by decide)) (HC.out.ext hW))
  refine qZ ?_;refine aj ?_;intro w14 hI;have hE:=he0.out.trans hI.ext;have G30:=gT (hI.facts 2);have G31:=gT (hI.facts 7);clear hI he0 hz0 hc0 hf0;refine mV8 hE ?_ LA HX B3 B4 B5 HY HT HC;clear LA HX B3 B4 B5 HY HT HC;intro LA HX B3 B4 B5 HY HT HC;have hs_w14:=hE.size;clear hE;replace b_B3:=bX3 B3;replace b_B4:=bX3 B4;replace b_B5:=bX3 B5;simp only [pD];clear hc1 hc2 hc3;rw [←HE.out] at G31;clear LA;clear HT;clear HC
  go_upto_region 4 with fail
  refine aU B5.out rfl ?_;intro w15 T;replace HX:=Hi (T.ext HX.out (by omega));replace HY:=Hi (HY.out.keep T.keep);replace B3:=Hi (T.rest _ _ (by omega) B3.out);replace B4:=Hi (T.rest _ _ (by omega) B4.out);replace B5:=Hi (T.bx);replace G30:=Hi (G30.out.keep T.keep);replace G31:=Hi (G31.out.keep T.keep);have hs_w15:=nle T.size;have hr_w15:=nle T.size.symm;clear T;replace b_B3:=bX3 B3;replace b_B4:=bX3 B4;replace b_B5:=bX3 B5;go_wp2
  go_roundg k
  case measure=>omega
  case rel=>exact ⟨x31,by go_num,by omega,HX.out,B3.out,B4.out,B5.out,G31.out⟩
end Go.Proofs.YtohahgiidooijaaGreat
