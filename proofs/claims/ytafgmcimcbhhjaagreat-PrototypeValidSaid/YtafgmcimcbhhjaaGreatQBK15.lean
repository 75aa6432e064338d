import Derived.Test.YtafgmcimcbhhjaaGreatQBK14
set_option linter.unusedVariables false
set_option maxHeartbeats 30000000
set_option maxRecDepth 8000
namespace Go.Proofs.YtafgmcimcbhhjaaGreat
open Go.RowKit Go.Front Go.Num Stab
attribute [local go_sem] XW.cell XW.frozen
def kI(w:World)(L:Nat)(os:List Rat):Prop:=∃ rs,RBk w L rs #[]∧fh aP w rs os
theorem kI.ext{w w':World}{L:Nat}{os:List Rat}(h:kI w L os)(he:Ext w w'):kI w' L os:=let ⟨rs,h1,h2⟩:=h;⟨rs,h1.ext he,h2.raw_ext he⟩
instance {w w':World} {L:Nat} {os:List Rat}:Go.Front.Mv w w' (kI w L os) (kI w' L os):=⟨fun e h=>kI.ext h e⟩

theorem kI.put{w1 w2:World}{L b:Nat}{os:List Rat}{T:TypeId}{cs:Array Value}(h:kI w1 L os)(T2:gv w1 b T cs w2)(hb:b≠L):kI w2 L os:=by
 obtain ⟨rs,h1,h2⟩:=h;exact ⟨rs,T2.rest L _ (Ne.symm hb) h1,h2.rawkeep T2.keep⟩
theorem kI.lt{w:World}{L:Nat}{os:List Rat}(h:kI w L os):L<w.heap.size:=let ⟨_,h1,_⟩:=h;h1.lt
theorem kI.cells{w:World}{L:Nat}{os:List Rat}(h:kI w L os){k:Nat}(hk:k<os.length):∃ r,RAt w L (k*3) r:=by
 obtain ⟨rs,h1,h2⟩:=h;exact ⟨_,h1.at (by rw [h2.1];exact hk)⟩
theorem kI.frozen{w:World}{L:Nat}{os:List Rat}(h:kI w L os)(i:Nat):w.frozen? ⟨L,i,none⟩=false:=let ⟨_,h1,_⟩:=h;h1.frozen i
theorem kI.raw{w:World}{L M:Nat}{os:List Rat}(h:kI w L os)(hl:os.length=M)(hM:M≤9223372036854775807):ct w ⟨some ⟨L,0,none⟩,M,M⟩ os:=by
 obtain ⟨rs,h1,h2⟩:=h;exact ⟨rs,h1.rs (by rw [h2.1,hl]) (nXe _) hM,h2⟩
theorem zy(w:World):aP w default 0:=⟨[],[],U32.nil _ _ _ dZ,U32.nil _ _ _ dZ,by decide +kernel,dZ,dZ⟩
theorem kI.make{w:World}{L M:Nat}(h:RBk w L (List.replicate M default) #[]):kI w L (List.replicate M 0):=by
 refine ⟨_,h,by simp,fun k hk=>?_⟩;rw [nXx] at hk;have e1:(List.replicate M (default:RH)).getD k default=default:=by simp [hk]
 have e2:(List.replicate M (0:Rat)).getD k 0=0:=by simp [hk]
 rw [e1,e2];exact zy w
theorem CE{w1:World}{L k:Nat}{os:List Rat}{q:Rat}{F:World→Prop}{x:RH}(h:kI w1 L os)(hk:k<os.length)(hx:aP w1 x q)
 (H:∀ w2,(∃ cs,gv w1 L 34 cs w2)→kI w2 L (os.set k q)→F w2) :
  F (((w1.setCell ⟨L,k*3,none⟩ (.bool x.neg)).setCell ⟨L,k*3+1,none⟩ (.slice x.a x.n x.c)).setCell ⟨L,k*3+2,none⟩ (.slice x.b x.m x.d)):=by
 obtain ⟨rs,h1,h2⟩:=h;refine dQ h1 rfl (by rw [h2.1];exact hk) fun w2 T=>H w2 ⟨_,T⟩ ⟨rs.set k x,T.bx,(h2.rawkeep T.keep).set (hx.keep T.keep) k⟩
theorem ju{w:World}{ops:Array Oper}{rest:List Oper}{o:Oper}{a:Act}{Q:Exit→Act→World→Prop}(hgd:o.guard=none)(s x:Operand)(T:TypeId)(hT:Tryz.prog.underlying T=some (.slice 34))
 (ho:o.op=.call { callee:=.builtin .append,args:=#[s,x],argTypes:=#[T,T] })(hs:a.eval s=.slice none 0 0)(b off n c:Nat)(rs:List RH)(hx:a.eval x=.slice (some ⟨b,off,none⟩) n c)
 (hl:rs.length=n)(hn0:0<n)(hn:n≤1073741824)(hc:∀ k,k<n→RAt w b (off+k*3) (rs.getD k default))
 (h:∀ w' cap re,n≤cap→cap≤9223372036854775807→Ext w w'→RBk w' w.heap.size rs re→re.toList.all gN=true→wpList Tryz.prog ops Q rest (a.put o.dst (.slice (some ⟨w.heap.size,0,none⟩) n cap)) w'):wpList Tryz.prog ops Q (o :: rest) a w:=by
 obtain ⟨i0,hi0,hz0,hz1,hz2⟩:=info_parts jk;have hgc:∀ need old,need≤9223372036854775807→need≤grownCap w need old 34∧grownCap w need old 34≤9223372036854775807:=fun need old h=>⟨grownCap_ge _ _ _ _,by have:=grownCap_le_maxLen w need old 34 (by simpa [maxLen] using h);simpa [maxLen] using this⟩
 have hr:=run_append_nil (P:=Tryz.prog) w T o.type _ i0 _ hT hi0 hz0 ⟨b,off,none⟩ n c (ax rs) (by rw [aN,hl,hz1]) (lR hl hc) hn0 zo (by rw [hz2];omega);obtain ⟨g1,g2⟩:=hgc n 0 zo;have he:Ext w (w.drew.alloc (.cells ((ax rs).toArray++Builtin.zeroCells (RH.v default).cells (grownCap w n 0 34-n)) 34)):=(Ext.drew w).trans (Ext.alloc _ _);have hb:RBk (w.drew.alloc (.cells ((ax rs).toArray++Builtin.zeroCells (RH.v default).cells (grownCap w n 0 34-n)) 34)) w.heap.size rs (Builtin.zeroCells (RH.v default).cells (grownCap w n 0 34-n)):=by
  unfold RBk;exact heap_alloc_new w.drew _
 have hh:=h _ _ _ g1 g2 he hb (d8 _);refine wpList_plain hgd fun K hK=>?_
 unfold Oper.wp;simp [execOp,ho,resolve,invoke,builtin,hs,hx,hr,Result.andThen];exact hK _ _ hh
theorem xO{q:List Rat}:∀ (f g:Nat) (u p:List Rat),p.length≤f→p.length≤g→0<q.length→kx q f u p=kx q g u p:=by
 intro f;induction f with
 | zero =>
  intro g u p h _ hq;cases g with
  | zero=>rfl
  | succ g=>show (u,p)=if q.length≤p.length then _ else (u,p);rw [if_neg zo]
 | succ f ih =>
  intro g u p h hg hq;cases g with
  | zero=>show (if q.length≤p.length then _ else (u,p))=(u,p);rw [if_neg zo]
  | succ g =>
   show (if q.length≤p.length then kx q f _ _ else (u,p))=if q.length≤p.length then kx q g _ _ else (u,p)
   by_cases hl:q.length≤p.length
   ·rw [if_pos hl,if_pos hl];have:=ik p q;exact ih g _ _ zo zo hq
   ·rw [if_neg hl,if_neg hl]
theorem xM{q u p:List Rat}{f:Nat}(h:p.length<q.length):kx q f u p=(u,p):=by
 cases f with
 | zero=>rfl
 | succ f=>show (if q.length≤p.length then _ else (u,p))=(u,p);rw [if_neg zo]
theorem Dm{q u p:List Rat}{k m:Nat}(hq:q.length=m+1)(hp:p.length=k+m+1){r:List Rat}(hr:r=ep p q):kx q p.length u p=kx q r.length (u.set k (aO p / aO q)) r:=by
 have h1:=ik p q;rw [hp,show k+m+1=(k+m)+1 from rfl];show (if q.length≤p.length then kx q (k+m) (u.set (p.length-q.length) (aO p / aO q)) (ep p q) else (u,p))=_;rw [if_pos zo,show p.length-q.length=k by omega,←hr];exact xO _ _ _ _ (by rw [hr];omega) (nXe _) zo
theorem uR{p q:List Rat}{k m:Nat}(hq:q.length=m+1)(hp:p.length=k+m+1):tz (gt (p.take (k+m)) k q (aO p / aO q) m)=ep p q:=by
 unfold ep;refine uN fun i=>?_
 have hl:(p.take (k+m)).length=k+m:=by rw [nXk];omega
 rw [ie _ _ _ _ _ (by rw [hl];exact nXe _),dk,hp,hq,show k+m+1-1=k+m by omega,show k+m+1-(m+1)=k by omega];by_cases hi:i<k+m
 ·rw [if_pos hi,cg hi];by_cases h2:k≤i
  ·rw [if_pos ⟨h2,hi⟩,if_pos h2]
  ·rw [if_neg (fun h=>h2 h.1),if_neg h2]
 ·rw [if_neg hi,bH (by rw [hl];omega),if_neg (fun h=>hi h.2)];grind
structure DmL (w wr:World) (Lu N m:Nat) (a0 b0:List Rat) (S U D E:Nat) (xp:SH) (pp:List Rat):Prop where
 hx:Ext w wr
 ex:∃ (us:List Rat) (j lo hi:Nat),(hi≤Lu∨Lu<lo)∧hi≤wr.heap.size∧LIn wr xp pp lo hi∧kI wr Lu us∧us.length=N∧kx b0 pp.length us pp=kx b0 a0.length (List.replicate N 0) a0∧FrL (S+j*(U+1)) (D*ldD b0 E ^ j) pp∧j+(pp.length-m)≤N∧tz pp=pp
theorem rJ(pa qa:Option Addr)(P pc Q qc:Nat)(p q:List Rat)(S U D E:Nat)(w:World)(hp:aD w ⟨pa,P,pc⟩ p)(hq:aD w ⟨qa,Q,qc⟩ q)(hP:P≤100000)(hQ:Q≤100000)
 (hS:1≤S)(hU:1≤U)(hD:0<D)(hD2:D<W32 ^ S)(hEn:0<E)(hE2:E<W32 ^ U)(hpf:FrL S D p)(hqf:FrL U E q)(hq0:tz q≠[])(hsz:S+(P+1)*(U+1)≤30000000) :
  ak 134 [.slice pa P pc,.slice qa Q qc] w QT (fun x w'=>aD w' x.1 (bE p q)∧aD w' x.2 (bC p q)):=by
 have HX:=Hi (Ext.refl w);have LP:=Hi hp.lin;have LQ:=Hi hq.lin;have HPF:=Hi hpf.tz;have HQF:=Hi hqf.tz;have HZP:=Hi (hpf.sz hS hD hD2);have HZQ:=Hi (hqf.sz hU hEn hE2);have HQ0:=Hi hq0;have hPl:p.length=P:=hp.len;have hQl:q.length=Q:=hq.len;have HV:Hid (bE p q=tz (kx (tz q) (tz p).length (List.replicate ((tz p).length+1-(tz q).length) 0) (tz p)).1∧bC p q=(kx (tz q) (tz p).length (List.replicate ((tz p).length+1-(tz q).length) 0) (tz p)).2):=Hi ⟨rfl,rfl⟩;have hUb:U+1≤(P+1)*(U+1):=Nat.le_mul_of_pos_left _ (Nat.succ_pos _);have htp:=ae p;have htq:=ae q;clear hp hq hpf hqf;unfold ak;go_enter Tryz.func134,Tryz.ntmps134
 go_wp2_with fail
 refine cM (ce pa P pc p _ (LP.out.can.raw HZP.out zo) zo) fun x13 w13 hE G13=>?_
 refine mV2 hE ?_ HX LQ;clear HX LQ;intro HX LQ;have hs_w13:=hE.size
 go_wp2_with fail
 refine cM (ce qa Q qc q _ (LQ.out.can.raw HZQ.out zo) zo) fun x15 w15 hE G15=>?_
 refine mV2 hE ?_ G13 HX;clear G13 HX;intro G13 HX;have hs_w15:=hE.size;obtain ⟨xa,M,xc⟩:=x13;obtain ⟨ya,m1,yc⟩:=x15;have HA:Hid (LIn w15 ⟨xa,M,xc⟩ (tz p) 0 w15.heap.size):=Hi (G13.out.can.lin);have HB:Hid (LIn w15 ⟨ya,m1,yc⟩ (tz q) 0 w15.heap.size):=Hi (G15.out.can.lin);have hxl:(tz p).length=M:=HA.out.len;have hyl:(tz q).length=m1:=HB.out.len;obtain ⟨m,rfl⟩:∃ m,m1=m+1:=⟨m1-1,by have:=nYh.2 HQ0.out;omega⟩;clear LP;clear LQ;clear G13;clear G15;have HLQ:Hid (aO (tz q)≠0):=Hi (co HQ0.out);have HTP:Hid (tz (tz p)=tz p):=Hi (aI p);have HAl:=Hi hxl;have HBl:=Hi hyl;rw [hxl,hyl] at HV;obtain ⟨a0,ha0⟩:∃ a0,a0=tz p:=⟨_,rfl⟩;obtain ⟨b0,hb0⟩:∃ b0,b0=tz q:=⟨_,rfl⟩;rw [←ha0] at HA HPF HTP HV HAl;rw [←hb0] at HB HQF HLQ HV HBl;have hMP:M≤P:=zo;have hmQ:m+1≤Q:=zo;clear ha0 hb0 hxl hyl htp htq hPl hQl hq0;simp only [SH.v];have hz0:((m:Int)+1 == 0)=false:=by rw [nXs];omega
 obtain ⟨i0,hi0,hzz0,hz1,hz2⟩:=info_parts jk
 go_upto_region 5 with (refine aB rfl (.tmp 25) (.tmp 25) 24 rfl 34 i0 (RH.v default) 3 Tryz.underlying24 hi0 hzz0 hz1 _ _ (M-m) rfl rfl zo zo (by rw [hz2];omega) zo ?_;intro w26 hnew hE)
 have KB:=Hi (RBk.make rfl hnew);clear hnew;refine mV3 hE ?_ HX HA HB;clear HX HA HB;intro HX HA HB;obtain ⟨N,hN⟩:∃ N,N=M-m:=⟨_,rfl⟩;rw [show M+1-(m+1)=N by omega] at HV;rw [←hN] at KB ⊢;have hNa:N+m≤M+m:=zo;have hNb:M≤N+m:=zo;have hNc:N≤100001:=zo;have hNd:N+m≤M∨N=0:=by omega
 clear hN;obtain ⟨Lu,hLu⟩:∃ L,L=w15.heap.size:=⟨_,rfl⟩;have hLw:w.heap.size≤Lu:=zo;rw [←hLu] at KB HA HB ⊢;have HU0:=Hi (kI.make KB.out);have hLul:=HU0.out.lt;clear hLu;have HB0:=HB;go_wp2
 go_loopg [0] M (fun g v wr=>∃ (xp:SH) (pp:List Rat),v=xp.v∧pp.length≤g∧DmL w wr Lu N m a0 b0 S U D E xp pp∧Mut Lu w26 wr)
 case atStart=>exact ⟨⟨xa,M,xc⟩,a0,rfl,by rw [HAl.out];exact nXe _,⟨HX.out,List.replicate N 0,0,0,Lu,Or.inl (nXe _),zo,HA.out,HU0.out,by simp,rfl,by rw [Nat.zero_mul,Nat.pow_zero,Nat.mul_one];exact HPF.out,by rw [HAl.out];omega,HTP.out⟩,Mut.refl _ _⟩
 case round =>
  obtain ⟨⟨ea,n,ec⟩,pp,rfl,hpg,⟨g1,us,j,lo,hi,h1,h2,g2,g3,h4,g5,g6,h7,g8⟩,gM⟩:=hrel;obtain ⟨g0,hg0⟩:∃ g0,g0=gk:=⟨_,rfl⟩;clear HX HA HB HU0 KB;have HX:=Hi g1;have LE:=Hi g2;have HU:=Hi g3;have HD5:=Hi g5;have HF6:=Hi g6;have HTE:=Hi g8;have HM:=Hi gM;have HB:=Hi (HB0.out.mut gM (Or.inr (nXe _)));have hel:pp.length=n:=g2.len;have HEl:=Hi hel;have hszr:=gM.size;clear g1 g2 g3 g5 g6 g8 gM;have hjU:(S+j*(U+1))≤30000000:=by
   have:j*(U+1)≤(P+1)*(U+1):=nXh _ zo;omega
  simp only [SH.v];by_cases hlt:n<m+1
  case pos =>
   have hlt':¬ (m:Int)+1≤(n:Int):=zo;have HQR:Hid (tz us=bE p q∧pp=bC p q):=Hi (by
    have e:=HD5.out;rw [xM (by rw [HEl.out,HBl.out];exact hlt)] at e;rw [HV.out.1,HV.out.2];have hA:a0.length=M:=HAl.out;rw [hA] at e;rw [←e];exact ⟨rfl,rfl⟩)
   go_wp2_with fail
   refine cM (ce (some ⟨Lu,0,none⟩) N N us _ (HU.out.raw h4 zo) zo) fun x88 w88 hE G88=>?_
   refine mV2 hE ?_ HX LE;clear HX LE;intro HX LE;go_wp2;exact nXa (v:=QT (x88,⟨ea,n,ec⟩)) (by simp [results,Tryz.results134,go_sem,QT]) rfl ⟨(x88,⟨ea,n,ec⟩),rfl,HX.out,by rw [←HQR.out.1];exact G88.out.can,by rw [←HQR.out.2];exact LE.out.can⟩
  obtain ⟨k,rfl⟩:∃ k,n=k+m+1:=⟨n-(m+1),zo⟩;have hge:(m:Int)+1≤(k:Int)+m+1:=zo;have hkN:k<N:=zo;have hkI:(k:Int)<N:=zo;have HLp:Hid (aO pp=pp.getD (k+m) 0):=Hi (by unfold aO;rw [HEl.out];rfl);have HLb:Hid (aO b0=b0.getD m 0):=Hi (by unfold aO;rw [HBl.out];rfl);have ZP:Hid (SzL 30000000 pp):=Hi ((HF6.out.sz zo (Nat.mul_pos hD (nYn (oA HQF.out HLQ.out hEn))) (by
   have h3:ldD b0 E ^ j≤W32 ^ (U*j):=by rw [Nat.pow_mul];exact Nat.pow_le_pow_left (nYm (s5 HQF.out)) j
   have h4:D*ldD b0 E ^ j<W32 ^ (S+U*j):=by
    rw [Nat.pow_add];exact Nat.mul_lt_mul_of_lt_of_le hD2 h3 (nYn aw)
   exact nXn h4 (nF (by rw [Nat.mul_add,nYf U j];omega)))).mono zo)
  have ZB:Hid (SzL 30000000 b0):=Hi ((HQF.out.sz hU hEn hE2).mono zo);have Zp:Hid (Sz 30000000 (aO pp)):=Hi (by rw [HLp.out];exact ZP.out.at (by rw [HEl.out];omega));have Zb:Hid (Sz 30000000 (aO b0)):=Hi (by rw [HLb.out];exact ZB.out.at (by rw [HBl.out];omega));have Zc:Hid (Sz 60000000 (aO pp / aO b0)):=Hi ((Zp.out.div Zb.out).mono zo);obtain ⟨ba,oa,r,hao,hbl,⟨hc1,hc2,hc3⟩,hPc⟩:=LE.out.celx (k:=k+m) zo;obtain ⟨rneg,ra,rn,rc,rb,rm,rd⟩:=r;obtain ⟨bb,ob,r2,hbo,hbl2,⟨hd1,hd2,hd3⟩,hPd⟩:=HB.out.celx (k:=m) zo;obtain ⟨sneg,sa,sn,sc,sb,sm,sd⟩:=r2;simp only at hc1 hc2 hc3 hd1 hd2 hd3;have HC:=Hi hPc;have HE:=Hi hPd;rw [←HLp.out] at HC;rw [←HLb.out] at HE;clear hPc hPd;subst hao hbo;have hk0:((k:Int)+m+1)-((m:Int)+1)=k:=by omega
  have hk1:((k:Int)+m+1)-1=((k+m:Nat):Int):=zo;have hk2:((m:Int)+1)-1=m:=by omega
  go_upto_region 7 with fail
  refine wpG 14 (fun opIx=>match opIx with
   | 12=>sR (aO pp / aO b0)
   | 13=>.alloc 34 #[.bool false,.slice none 0 0,.slice none 0 0]
   | _=>.quiet) (fun _=>[]) fun w0 he0 hz0 hc0 hf0=>?_
  refine wps he0 (fun w1 hW hG=>?_) fun x30=>?_
  ·exact spc [RH.v ⟨rneg,ra,rn,rc,rb,rm,rd⟩,RH.v ⟨sneg,sa,sn,sc,sb,sm,sd⟩] Tryz.func35 (iM _ _ _ _ _ ((HC.out.ext hW).raw Zp.out dZ) ((HE.out.ext hW).raw Zb.out dZ))
  refine qZ ?_;refine aQ rfl rfl (fun w=>by simp [execOp,go_sem,ptr]) (fun b31 hb31 hl31=>?_);refine qZ ?_;refine aj ?_;intro w7 hI;have hE:=he0.out.trans hI.ext;have G30:=gT (hI.facts 12);have A31:Hid (w7.heap[b31]?=some (.cells #[.bool false,.slice none 0 0,.slice none 0 0] 34 (0,0))):=hI.facts 13;rw [hz0] at hl31;clear hI he0 hz0 hc0 hf0;replace HX:=hE.tr HX;replace HM:=Hi (Mut.trans HM.out (Mut.of_ext hE));refine mV3 hE ?_ HU HB LE;clear HU HB LE;intro HU HB LE;have hs_w7:=hE.size;replace b_A31:=bX3 A31;simp only [pD,ptr];clear hc1 hc2 hc3 hd1 hd2 hd3;clear HC;clear HE
  go_upto_region 8 with fail
  refine aU A31.out rfl ?_;intro w8 T;replace HX:=Hi (T.ext HX.out zo);replace HM:=Hi (Mut.put HM.out T (by first|exact Or.inl rfl|exact Or.inr zo));replace LE:=Hi (LE.out.put T zo);replace HU:=Hi (HU.out.put T zo);replace HB:=Hi (HB.out.put T zo);replace G30:=Hi (G30.out.keep T.keep);replace A31:=Hi (T.bx);have hs_w8:=nle T.size;have hr_w8:=nle T.size.symm;clear T;replace b_A31:=bX3 A31;obtain ⟨r3,⟨f1,f2,f3⟩⟩:=kI.cells HU.out (k:=k) zo;have hfz:=kI.frozen HU.out
  go_upto_region 9 with fail
  have hraw:=G30.out.raw Zc.out dZ;refine CE (x:=x30) (k:=k) HU.out zo hraw ?_;clear hraw;rintro y9 ⟨cs,T⟩ TN;clear f1 f2 f3 hfz;clear HU;replace HX:=Hi (T.ext HX.out zo);replace HM:=Hi (Mut.put HM.out T (by first|exact Or.inl rfl|exact Or.inr zo));replace LE:=Hi (LE.out.put T zo);replace HB:=Hi (HB.out.put T zo);replace G30:=Hi (G30.out.keep T.keep);replace A31:=Hi (T.rest _ _ zo A31.out);have hs_y9:=nle T.size;have hr_y9:=nle T.size.symm;clear T;replace b_A31:=bX3 A31;have HU:=Hi TN;clear TN;obtain ⟨i1,rfl⟩:∃ i1,i1=i0:=⟨_,rfl⟩;obtain ⟨rs0,hRS,hVs,-⟩:=LE.out;have hrl:rs0.length=k+m+1:=by rw [hVs.1,HEl.out]
  obtain ⟨b',off',e',hcs⟩:=hRS.at'.resolve_left (by show ¬ (k+m+1=0);omega);obtain ⟨rfl,rfl⟩:ba=b'∧oa=off':=by simpa using e'
  have hcs2:∀ t,t<k+m→RAt y9 ba (oa+t*3) ((rs0.take (k+m)).getD t default):=fun t ht=>by
   have e:(rs0.take (k+m)).getD t default=rs0.getD t default:=by rw [nXd,List.getElem?_take,if_pos ht,←nXd]
   rw [e];exact hcs t (by show t<k+m+1;omega)
  have HVT:=Hi (hVs.take (k+m));have hec:(k:Int)+m≤ec:=by have:=hRS.le;simp only at this;omega
  clear hcs hVs hRS e';obtain ⟨us',hus⟩:∃ us',us'=us.set k (aO pp / aO b0):=⟨_,rfl⟩;have hul:us'.length=N:=by rw [hus,nXo,h4]
  rw [←hus] at HU;have HGo:Hid (kx b0 (ep pp b0).length us' (ep pp b0)=kx b0 a0.length (List.replicate N 0) a0):=Hi (by rw [hus,←HD5.out];exact (Dm HBl.out HEl.out rfl).symm);have HFr:Hid (FrL (S+(j+1)*(U+1)) (D*ldD b0 E ^ (j+1)) (ep pp b0)):=Hi (by
   have h:=sA HF6.out HQF.out HLQ.out;rw [Nat.mul_assoc,←nXu] at h;rw [show S+(j+1)*(U+1)=S+j*(U+1)+U+1 by rw [nXz];omega];exact h)
  have hrst:(ep pp b0).length≤k+m:=by have:=ik pp b0;rw [HEl.out] at this;omega
  have HSR:Hid (tz (gt (pp.take (k+m)) k b0 (aO pp / aO b0) m)=ep pp b0):=Hi (uR HBl.out HEl.out);clear hus h1 h2;by_cases hkm:k+m=0
  case pos =>
   have HKM:=Hi hkm;clear hkm
   go_upto_region 10 with (at_builtin;refine dF rfl (.const (.slice none 0 0)) (.tmp 58) 24 rfl 34 i1 Tryz.underlying24 hi0 none (some ⟨ba,oa,none⟩) 0 0 ec dZ rfl (Eq.trans rfl (congrArg (fun t=>Value.slice (some ⟨ba,oa,none⟩) t ec) HKM.out)) ?_)
   go_wp2
   go_loopg [11] 0 (fun g v wr=>∃ (i:Nat),m≤i∧v=.int .i64 (i:Nat)∧wr=y9)
   case atStart=>exact ⟨0,by have:=HKM.out;omega,rfl,rfl⟩
   case round =>
    obtain ⟨i,hi,rfl,rfl⟩:=hrel;have hin:¬ ((i:Int)<m):=zo
    go_wp2_with fail
    refine cM (ce none 0 0 [] _ (aD.raw (k:=1) (bW.nil 0 _).can (fun x hx=>by simp at hx) dZ) zo) fun x86 w86 hE G86=>?_
    replace HX:=hE.tr HX;replace HM:=Hi (Mut.trans HM.out (Mut.of_ext hE));replace HU:=Hi (HU.out.ext hE);have HR0:Hid (ep pp b0=[]):=Hi (nXj.1 (by have:=HKM.out;omega));go_wp2
    go_roundg (g0-1)
    case measure=>omega
    case rel=>exact ⟨x86,ep pp b0,rfl,zo,⟨HX.out,us',j+1,wr.heap.size,w86.heap.size,Or.inr zo,nXe _,by rw [HR0.out];exact G86.out,HU.out,hul,HGo.out,HFr.out,zo,nV _ _⟩,HM.out⟩
  go_upto_region 10 with (at_builtin;refine ju rfl (.const (.slice none 0 0)) (.tmp 58) 24 Tryz.underlying24 rfl rfl ba oa (k+m) ec (rs0.take (k+m)) rfl (by rw [nXk];omega) zo zo hcs2 ?_;intro y10 cap re hcp hcm hE hRB hre)
  have HL:Hid (bS y10 y9.heap.size (pp.take (k+m))):=Hi ⟨_,re,hRB,hre,HVT.out.can_ext hE⟩;clear hRB hre hcs2;obtain ⟨Ln,hLn⟩:∃ L,L=y9.heap.size:=⟨_,rfl⟩;have hb31L:b31<Ln:=by have:=b_A31.2.2;omega
  rw [←hLn] at HL ⊢;clear LE;replace HX:=hE.tr HX;replace HM:=Hi (Mut.trans HM.out (Mut.of_ext hE));refine mV4 hE ?_ HB G30 A31 HU;clear HB G30 A31 HU;intro HB G30 A31 HU;have hLn2:w26.heap.size≤Ln:=zo;clear hLn;go_wp2
  go_loopg [11] m (fun g v wr=>∃ (i:Nat),i+g=m∧v=.int .i64 (i:Nat)∧Ext w wr∧Mut Lu w26 wr∧LIn wr ⟨some ⟨bb,ob,none⟩,m+1,yc⟩ b0 0 Lu∧kI wr Lu us'∧wr.heap[b31]?=some (.cells #[.bool x30.neg,.slice x30.a x30.n x30.c,.slice x30.b x30.m x30.d] 34 (0,0))∧aA wr x30 (aO pp / aO b0)∧bS wr Ln (gt (pp.take (k+m)) k b0 (aO pp / aO b0) i))
  case atStart=>exact ⟨0,zo,rfl,HX.out,HM.out,HB.out,HU.out,A31.out,G30.out,HL.out⟩
  case round =>
   obtain ⟨i,hi,rfl,g1,g2,g3,g4,g5,g6,g7⟩:=hrel;clear HX HM HB HU A31 G30 HL;have HX:=Hi g1;have HM:=Hi g2;have HB:=Hi g3;have HU:=Hi g4;have A31:=Hi g5;have G30:=Hi g6;have HL:=Hi g7;have hszw:=g2.size;clear g1 g2 g3 g4 g5 g6 g7;replace b_A31:=bX3 A31;by_cases h0:gk=0
   case neg =>
    have hin:(i:Int)<m:=zo;obtain ⟨r18,⟨f1,f2,f3⟩,hr18⟩:=bS.cells HL.out (k:=k+i) (by rw [aS,nXk,HEl.out];omega);obtain ⟨tn,ta,tl,tc,tb,tm,td⟩:=r18;simp only at f1 f2 f3;have HR18:=Hi hr18;obtain ⟨b'',off'',r17,hao,hbl3,⟨hc1',hc2',hc3'⟩,hPc⟩:=HB.out.celx (k:=i) zo;obtain ⟨rfl,rfl⟩:bb=b''∧ob=off'':=by simpa using hao
    obtain ⟨qn,qa',ql,qc',qb,qm,qd⟩:=r17;simp only at hc1' hc2' hc3';have HQi:=Hi hPc;clear hPc hr18 hao;have ZBi:Hid (Sz 30000000 (b0.getD i 0)):=Hi (ZB.out.at (by rw [HBl.out];omega));have ZR:Hid (Sz 30000000 ((gt (pp.take (k+m)) k b0 (aO pp / aO b0) i).getD (k+i) 0)):=Hi (by
     rw [ie _ _ _ _ _ (by rw [nXk,HEl.out];omega),if_neg zo,t8,cg zo];exact ZP.out.at (by rw [HEl.out];omega))
    have hLl0:=HL.out.lt
    go_upto_region 13 with fail
    refine wpG 17 (fun opIx=>match opIx with
     | 15=>sR (aO pp / aO b0*b0.getD i 0)
     | 16=>sR ((gt (pp.take (k+m)) k b0 (aO pp / aO b0) i).getD (k+i) 0-aO pp / aO b0*b0.getD i 0)
     | _=>.quiet) (fun|16=>[15]|_=>[]) fun w0 he0 hz0 hc0 hf0=>?_
    refine wps he0 (fun w1 hW hG=>?_) fun x32=>?_
    ·exact spc [x30.v,RH.v ⟨qn,qa',ql,qc',qb,qm,qd⟩] Tryz.func48 (fV x30 _ _ _ _ ((G30.out.ext hW).raw Zc.out dZ) ((HQi.out.ext hW).raw ZBi.out dZ))
    refine qZ ?_;refine wps he0 (fun w1 hW hG=>?_) fun x33=>?_
    ·have g32:=gS (hG 15 dZ);exact spc [RH.v ⟨tn,ta,tl,tc,tb,tm,td⟩,x32.v] Tryz.func94 (lQ _ x32 _ _ _ ((HR18.out.ext hW).raw ZR.out dZ) (g32.raw (Zc.out.mul ZBi.out) dZ))
    refine qZ ?_;refine aj ?_;intro y13 hI;have hE:=he0.out.trans hI.ext;have G33:=gT (hI.facts 16);clear hI he0 hz0 hc0 hf0;replace HX:=hE.tr HX;replace HM:=Hi (Mut.trans HM.out (Mut.of_ext hE));refine mV5 hE ?_ HB HU A31 HL G30;clear HB HU A31 HL G30;intro HB HU A31 HL G30;simp only [pD];clear f1 f2 f3 hc1' hc2' hc3';clear HR18;clear HQi;obtain ⟨r19,⟨f1,f2,f3⟩,-⟩:=bS.cells HL.out (k:=k+i) (by rw [aS,nXk,HEl.out];omega);have hfz:=bS.frozen HL.out
    go_upto_region 12 with fail
    refine iz (x:=x33) (k:=k+i) HL.out (by rw [aS,nXk,HEl.out];omega) G33.out ?_;rintro y14 ⟨cs,T⟩ TN;clear f1 f2 f3 hfz;clear G33;clear HL;replace HX:=Hi (T.ext HX.out zo);replace HM:=Hi (Mut.put HM.out T (by first|exact Or.inl rfl|exact Or.inr zo));replace HB:=Hi (HB.out.put T zo);replace HU:=Hi (HU.out.put T zo);replace A31:=Hi (T.rest _ _ zo A31.out);replace G30:=Hi (G30.out.keep T.keep);clear T;have HL:=Hi TN;clear TN;go_wp2
    go_roundg (gk-1)
    case measure=>omega
    case rel=>exact ⟨i+1,zo,by go_num,HX.out,HM.out,HB.out,HU.out,A31.out,G30.out,HL.out⟩
   subst h0;obtain rfl:i=m:=by omega
   have hin:¬ ((i:Int)<i):=zo;have HSL:Hid (SzL 130000000 (gt (pp.take (k+i)) k b0 (aO pp / aO b0) i)):=Hi (fun x hx=>by
    obtain ⟨t,ht,rfl⟩:=dK hx;rw [aS,nXk,HEl.out] at ht;rw [ie _ _ _ _ _ (by rw [nXk,HEl.out];omega),cg zo];have h1:Sz 30000000 (pp.getD t 0):=ZP.out.at (by rw [HEl.out];omega);split
    ·rename_i hc
     have h2:Sz 30000000 (b0.getD (t-k) 0):=ZB.out.at (by rw [HBl.out];omega);exact (h1.sub (Zc.out.mul h2)).mono dZ
    ·rw [t8];exact h1.mono dZ)
   go_wp2_with fail
   refine cM (ce (some ⟨Ln,0,none⟩) (k+i) cap _ _ ((HL.out.can (by rw [aS,nXk,HEl.out];omega) hcp hcm).raw HSL.out dZ) zo) fun x86 w86 hE G86=>?_
   replace HX:=hE.tr HX;replace HM:=Hi (Mut.trans HM.out (Mut.of_ext hE));replace HU:=Hi (HU.out.ext hE);rw [HSR.out] at G86;go_wp2
   go_roundg (g0-1)
   case measure=>omega
   case rel=>exact ⟨x86,ep pp b0,rfl,zo,⟨HX.out,us',j+1,wr.heap.size,w86.heap.size,Or.inr zo,nXe _,G86.out,HU.out,hul,HGo.out,HFr.out,zo,nV _ _⟩,HM.out⟩
theorem xH{p q:List Rat}{S U:Nat}(hp:∀ x ∈ p,Wz S x)(hq:∀ x ∈ q,Wz U x)(htp:tz p=p)(htq:tz q=q)(h0:q≠[]):∃ s r f,DvP p q S U s r f:=by
 have hlead:aO q≠0:=by
  have:=co (q:=q) (by rw [htq];exact h0)
  rwa [htq] at this
 have hpos:=nYh.2 h0;by_cases hl:q.length≤p.length
 ·have key:∀ (k j:Nat) (sl r:List Rat) (f:Rat),p.length+2-j≤k→DvI p q S U j sl r f→∃ s r f,DvP p q S U s r f:=by
   intro k;induction k with
   | zero=>intro j sl r f hk h;have:=h.jl;omega
   | succ k ih =>
    intro j sl r f hk h;by_cases h2:r.length<q.length
    ·exact ⟨sl,r,f,h.done h2⟩
    ·refine ih (j+1) _ _ _ zo (h.step hpos hlead hq zo rfl (r2:=(List.range r.length).map fun i=>r.getD i 0*(((aO r / aO q).den:Int):Rat)-if r.length-q.length≤i then ((aO r / aO q).num:Rat)*q.getD (i-(r.length-q.length)) 0 else 0) (by simp) (fun i hi=>by rw [dk,if_pos hi]))
  exact key _ 0 _ _ _ (nXe _) (DvI.start hp htp hl)
 ·exact ⟨[],p,1,DvP.short hp htp zo⟩
theorem AA{q:List Rat}{U E:Nat}(hq:FrL U E q)(h0:aO q≠0)(hE:0<E)(hU:1≤U):∀ (f:Nat) (u p:List Rat) (S D:Nat),FrL S D p→1≤S→0<D→D<W32 ^ S→p.length≤f →
  SzL (S+p.length*(U+1)) (kx q f u p).2:=by
 intro f;induction f with
 | zero =>
  intro u p S D hp hS hD hD2 hl;exact (hp.sz hS hD hD2).mono zo
 | succ f ih =>
  intro u p S D hp hS hD hD2 hl;show SzL _ (if q.length≤p.length then kx q f (u.set (p.length-q.length) (aO p / aO q)) (ep p q) else (u,p)).2;by_cases h:q.length≤p.length
  ·rw [if_pos h];have hr:=ik p q;have hql:0<q.length:=by
    refine Nat.pos_of_ne_zero fun h1=>h0 ?_
    rw [nXj.1 h1];rfl
   have h1:=sA hp hq h0;have h2:D*ldD q E<W32 ^ (S+U+1):=by
    have h3:D*ldD q E<W32 ^ (S+U):=by
     rw [Nat.pow_add];exact Nat.mul_lt_mul_of_lt_of_le hD2 (nYm (s5 hq)) (nYn aw)
    exact nXn h3 (nF zo)
   refine (ih _ _ _ _ h1 zo (Nat.mul_pos hD (oA hq h0 hE)) h2 zo).mono ?_;have h4:(ep p q).length*(U+1)+(U+1)≤p.length*(U+1):=by
    rw [←nXz];exact nXh _ zo
   omega
  ·rw [if_neg h];exact (hp.sz hS hD hD2).mono zo
theorem sG{p q:List Rat}{S U D E:Nat}(hp:FrL S D p)(hq:FrL U E q)(h0:tz q≠[])(hS:1≤S)(hU:1≤U)(hD:0<D)(hD2:D<W32 ^ S)(hE:0<E):SzL (S+(p.length+1)*(U+1)) (bC p q):=by
 have h1:=AA hq.tz (co h0) hE hU (tz p).length (List.replicate ((tz p).length+1-(tz q).length) 0) (tz p) S D hp.tz hS hD hD2 (nXe _);refine SzL.mono h1 ?_;have:=ae p;have h2:(tz p).length*(U+1)≤(p.length+1)*(U+1):=nXh _ zo;omega
theorem ow{a:List Rat}{X:Nat}(ha:∀ x ∈ a,Wz X x)(ht:tz a=a)(hX:1≤X):∃ D,0<D∧D<W32 ^ X∧FrL X D (bF a):=by
 have hf:FrL X 1 a:=fun x hx=>Fr.one (ha x hx)
 by_cases h:tz a=[]
 ·refine ⟨1,dZ,Nat.one_lt_pow zo dZ,?_⟩;have:bF a=[]:=by unfold bF;rw [if_pos h]
  rw [this];exact fun x hx=>by simp at hx
 ·exact ⟨ldD (tz a) 1,oA hf.tz (co h) dZ,s5 hf.tz,wA hf⟩
theorem As(pa qa:Option Addr)(P pc Q qc:Nat)(p q:List Rat)(S D E:Nat)(w:World)(hp:aD w ⟨pa,P,pc⟩ p)(hq:aD w ⟨qa,Q,qc⟩ q)(hP:P≤100000)(hQ:Q≤100000)
 (hS:1≤S)(hD:0<D)(hD2:D<W32 ^ S)(hEn:0<E)(hE2:E<W32 ^ S)(hpf:FrL S D p)(hqf:FrL S E q)(K:Nat)(hsz:GZ K S p q)(hK:K≤8000000) :
  ak 135 [.slice pa P pc,.slice qa Q qc] w SH.v (fun x w'=>aD w' x (cY p q)∧GcR K (cY p q)):=by
 have HX:=Hi (Ext.refl w);have LP:=Hi hp.lin;have LQ:=Hi hq.lin;have HZP:=Hi (hpf.sz hS hD hD2);have HZQ:=Hi (hqf.sz hS hEn hE2);obtain ⟨X0,hX0⟩:=GcI.start hS hD hEn hpf hqf hsz (by have:=hp.len;simp only at this;omega) (by have:=hq.len;simp only at this;omega);have hSs:S+1≤8000000:=by
  obtain ⟨X1,h2,h3⟩:=hsz;have:=h3.small;omega
 have HG:=Hi hX0;clear hX0;have HMP:Hid (bF p=bF (av p)):=Hi ((jG p).mon).symm;have HMQ:Hid (bF q=bF (av q)):=Hi ((jG q).mon).symm;clear hp hq hpf hqf hsz;unfold ak;go_enter Tryz.func135,Tryz.ntmps135
 go_wp2_with fail
 refine cM (kT pa P pc p S _ LP.out.can zo zo HZP.out) fun x9 w9 hE G9=>?_
 refine mV2 hE ?_ HX LQ;clear HX LQ;intro HX LQ
 go_wp2_with fail
 refine cM (kT qa Q qc q S _ LQ.out.can zo zo HZQ.out) fun x11 w11 hE G11=>?_
 refine mV2 hE ?_ G9 HX;clear G9 HX;intro G9 HX;rw [HMP.out] at G9;rw [HMQ.out] at G11;clear LP;clear LQ;go_wp2
 go_loopg [0,1] (av q).length (fun g u v wr=>∃ (x y:SH) (a b:List Rat) (X:Nat),u=x.v∧v=y.v∧b.length≤g∧Ext w wr∧aD wr x (bF a)∧aD wr y (bF b)∧GcI K p q a b X)
 case atStart=>exact ⟨_,_,_,_,X0,rfl,rfl,nXe _,HX.out,G9.out.can,G11.out.can,HG.out⟩
 case round =>
  obtain ⟨⟨xa,xn,xc⟩,⟨ya,yn,yc⟩,a,b,X,rfl,rfl,hg,g1,g2,g3,g4⟩:=hrel;clear HX G9 G11 HG;have HX:=Hi g1;have LA:=Hi g2.lin;have LB:=Hi g3.lin;have HG:=Hi g4;have hxl:a.length=xn:=by have:=g2.len;rw [dm,g4.1] at this;exact this
  have hyl:b.length=yn:=by have:=g3.len;rw [dm,g4.2.1] at this;exact this
  clear g1 g2 g3 g4;simp only [SH.v];by_cases h0:yn=0
  case pos =>
   subst h0;have hb:b=[]:=nXj.1 hyl;have HV:Hid (cY p q=bF a):=Hi (by have:=HG.out.2.2.2.2.2.2.1;rw [hb] at this;exact this.symm);go_wp2
   go_ret
   exact ⟨⟨xa,xn,xc⟩,rfl,HX.out,by rw [HV.out];exact LA.out.can,HG.out.done hb⟩
  obtain ⟨m,rfl⟩:∃ m,yn=m+1:=⟨yn-1,zo⟩;have hpos:(0:Int)<(m:Int)+1:=zo;have Hb0:Hid (b≠[]):=Hi (by intro h;rw [h] at hyl;simp at hyl);obtain ⟨e1,e2,e3,e4,e5,e6,e7,e8,e9⟩:=HG.out;have hdz:=HG.out.dsz;obtain ⟨Da,u1,u2,u3⟩:=ow e3 e1 e5;obtain ⟨Db,v1,v2,v3⟩:=ow e4 e2 e5;have HM0:Hid (tz (bF b)≠[]):=Hi (by
   rw [fK];intro h;have h2:(bF b).length=m+1:=by rw [dm,e2];exact hyl
   rw [h] at h2;simp at h2)
  obtain ⟨s,r,f,hdv⟩:=xH e3 e4 e1 e2 Hb0.out;obtain ⟨X2,hnx⟩:=HG.out.next Hb0.out hdv;have HNX:=Hi hnx;clear hnx;have hml:(bF a).length=xn:=by rw [dm,e1];exact hxl
  have HRS:Hid (SzL 8000000 (bC (bF a) (bF b))):=Hi ((sG u3 v3 HM0.out e5 e5 u1 u2 v1).mono (by rw [hml,←hxl];omega));have HRM:Hid (bF (bC (bF a) (bF b))=bF (av r)):=Hi (by
   obtain ⟨d0,d1,d2,d3,d4,d5,d6,d7⟩:=hdv;have hbt:tz b≠[]:=by rw [e2];exact Hb0.out
   have h1:Pr (bC (bF a) (bF b)) (bC a b):=lT (fL a) (fL b) hbt;have h2:Pr r (bC a b):=nW hbt d0 (Bd.seq s) (by rw [e2];exact d5) d7;rw [h1.mon,←h2.mon,(jG r).mon])
  have hrl:(av r).length<b.length:=by obtain ⟨d0,d1,d2,d3,d4,d5,d6,d7⟩:=hdv;rw [ay,d4];exact d5
  clear hdv hml
  go_wp2_with fail
  refine cM (rJ xa ya xn xc (m+1) yc (bF a) (bF b) X X Da Db _ LA.out.can LB.out.can zo zo e5 e5 u1 u2 v1 v2 u3 v3 HM0.out (by rw [←hxl];omega)) fun x18 w18 hE G18=>?_
  refine mV2 hE ?_ HX LB;clear HX LB;intro HX LB;obtain ⟨xq,⟨ra,rn,rc⟩⟩:=x18;have HR1:=Hi G18.out.2.lin;have hrl2:=G18.out.2.len;clear G18;simp only [QT] at *
  have hrn:rn≤100000:=by
   have h1:=(cx (bF a) HM0.out).1;have h2:(tz (bF b)).length=m+1:=by rw [fK,dm,e2];exact hyl
   rw [hrl2] at h1;omega
  clear hrl2 u1 u2 u3 v1 v2 v3 e1 e2 e3 e4 e7
  go_wp2_with fail
  refine cM (kT ra rn rc (bC (bF a) (bF b)) 8000000 _ HR1.out.can zo zo HRS.out) fun x24 w24 hE G24=>?_
  refine mV2 hE ?_ HX LB;clear HX LB;intro HX LB;rw [HRM.out] at G24;go_wp2
  go_roundg (gk-1)
  case measure=>omega
  case rel=>exact ⟨⟨ya,m+1,yc⟩,_,b,av r,_,rfl,rfl,zo,HX.out,LB.out.can,G24.out.can,HNX.out⟩
theorem my(l:List Rat)(x:Rat){k:Nat}(hk:k<l.length):evV (l.drop k) x=evV (l.drop (k+1)) x*x+l.getD k 0:=by
 rw [List.drop_eq_getElem_cons hk,nXd,List.getElem?_eq_getElem hk];rfl
theorem jZ(ao:Option Addr)(n c:Nat)(l:List Rat)(t:RH)(x:Rat)(w:World)(h:aD w ⟨ao,n,c⟩ l)(ht:aA w t x)(hn:n≤100)(hl:SzL 40000000 l)(hx:Sz 10000000 x)(hE:∀ k,k≤l.length→Sz 40000000 (evV (l.drop k) x)) :
  ak 50 [.slice ao n c,t.v] w RH.v (fun y w'=>aA w' y (evV l x)):=by
 obtain ⟨tn,ta,tl,tc,tb,tm,td⟩:=t;have HX:=Hi (Ext.refl w);have LA:=Hi h.lin;have HT:=Hi ht;have HZ:=Hi hl;have ZX:=Hi hx;have HLn:=Hi h.len;have HEs:=Hi hE;simp only at HLn;clear h ht hl hx hE;unfold ak;go_enter Tryz.func50,Tryz.ntmps50
 go_upto_region 1 with fail
 refine kE ?_;intro w1 hE B3 B4 hz_w1 hr_w1;refine mV3 hE ?_ HX LA HT;clear HX LA HT;intro HX LA HT
 go_wp2_with fail
 refine cM (ck 0 _ dZ dZ) fun x7 w7 hE G7=>?_
 refine mV5 hE ?_ B3 B4 HX LA HT;clear B3 B4 HX LA HT;intro B3 B4 HX LA HT;have hs_w7:=hE.size
 go_upto_region 2 with fail
 refine nmA ?_;intro w8 hE B5 hz_w8 hr_w8;refine mV6 hE ?_ G7 B3 B4 HX LA HT;clear G7 B3 B4 HX LA HT;intro G7 B3 B4 HX LA HT;obtain ⟨b3,hb3⟩:∃ b,b=w.heap.size:=⟨_,rfl⟩;obtain ⟨b4,hb4⟩:∃ b,b=w.heap.size+1:=⟨_,rfl⟩;obtain ⟨b5,hb5⟩:∃ b,b=w7.heap.size:=⟨_,rfl⟩;have hw4:w.heap.size≤b4:=zo;have hw5:w.heap.size≤b5:=zo;have h35:b3≠b5:=zo;have h45:b4≠b5:=zo;rw [←hb4] at B4 ⊢;rw [←hb3] at B3 ⊢;rw [←hb5] at B5 ⊢;clear hb3 hb4 hb5;have HY:Hid (aA w8 x7 (evV (l.drop n) x)):=Hi (by rw [List.drop_eq_nil_of_le (by rw [HLn.out];exact nXe _)];exact G7.out);have LA0:Hid (LIn w8 ⟨ao,n,c⟩ l 0 w.heap.size):=Hi LA.out;go_wp2
 go_loopg [6] n (fun g v wr=>∃ (y:RH),v=.int .i64 ((g:Int)-1)∧g≤n∧Ext w wr∧LIn wr ⟨ao,n,c⟩ l 0 w.heap.size∧aA wr ⟨tn,ta,tl,tc,tb,tm,td⟩ x∧wr.heap[b3]?=some (.cells #[.bool tn,.slice ta tl tc,.slice tb tm td] 34 (0,0))∧wr.heap[b4]?=some (.cells #[.bool false,.slice none 0 0,.slice none 0 0] 34 (0,0))∧wr.heap[b5]?=some (.cells #[.bool y.neg,.slice y.a y.n y.c,.slice y.b y.m y.d] 34 (0,0))∧aA wr y (evV (l.drop g) x))
 case atStart=>exact ⟨x7,rfl,nXe _,HX.out,LA0.out,HT.out,B3.out,B4.out,B5.out,HY.out⟩
 case round =>
  obtain ⟨⟨yn,ya,yl,yc,yb,ym,yd⟩,rfl,hg,g1,g2,g3,g4,g5,g6,g7⟩:=hrel;clear HX LA LA0 HT B3 B4 B5 HY G7;have HX:=Hi g1;have LA:=Hi g2;have HT:=Hi g3;have B3:=Hi g4;have B4:=Hi g5;have B5:=Hi g6;have HY:=Hi g7;clear g1 g2 g3 g4 g5 g6 g7;replace b_B3:=bX3 B3;replace b_B4:=bX3 B4;replace b_B5:=bX3 B5;by_cases h0:gk=0
  case pos =>
   subst h0;go_wp2;refine aU (F:=fun W=>bodyPost _ _ _ _ _ W) B4.out rfl ?_;intro w9 T;replace HX:=Hi (T.ext HX.out zo);replace HY:=Hi (HY.out.keep T.keep);replace B4:=Hi (T.bx);clear T;replace b_B4:=bX3 B4;exact nXa (v:=RH.v ⟨yn,ya,yl,yc,yb,ym,yd⟩) (by simp [results,Tryz.results50,go_sem,b_B4.1]) rfl ⟨⟨yn,ya,yl,yc,yb,ym,yd⟩,rfl,HX.out,HY.out⟩
  obtain ⟨k,rfl⟩:∃ k,gk=k+1:=⟨gk-1,zo⟩;have hk1:((k+1:Nat):Int)-1=(k:Nat):=zo;rw [hk1];have hkn:k<n:=zo;have hk0:(0:Int)≤(k:Nat):=zo;have hin:(k:Int)<n:=zo;have ZY:Hid (Sz 40000000 (evV (l.drop (k+1)) x)):=Hi (HEs.out (k+1) (by rw [HLn.out];omega));have HE:=Hi (my l x (k:=k) (by rw [HLn.out];exact hkn));have ZK:Hid (Sz 40000000 (l.getD k 0)):=Hi (HZ.out.at (by rw [HLn.out];exact hkn));obtain ⟨ba,oa,r,hao,hbl,⟨hc1,hc2,hc3⟩,hPc⟩:=LA.out.celx (k:=k) hkn;obtain ⟨rneg,ra,rn,rc,rb,rm,rd⟩:=r;simp only at hc1 hc2 hc3;have HC:=Hi hPc;clear hPc;subst hao
  go_upto_region 5 with fail
  refine wpG 8 (fun opIx=>match opIx with
   | 2=>sR (evV (l.drop (k+1)) x*x)
   | 7=>sR (evV (l.drop (k+1)) x*x+l.getD k 0)
   | _=>.quiet) (fun|7=>[2]|_=>[]) fun w0 he0 hz0 hc0 hf0=>?_
  refine wps he0 (fun w1 hW hG=>?_) fun x30=>?_
  ·exact spc [RH.v ⟨yn,ya,yl,yc,yb,ym,yd⟩,RH.v ⟨tn,ta,tl,tc,tb,tm,td⟩] Tryz.func48 (fV _ _ _ _ _ ((HY.out.ext hW).raw ZY.out dZ) ((HT.out.ext hW).raw ZX.out dZ))
  refine qZ ?_;refine wps he0 (fun w1 hW hG=>?_) fun x31=>?_
  ·have g30:=gS (hG 2 dZ);exact spc [x30.v,RH.v ⟨rneg,ra,rn,rc,rb,rm,rd⟩] Tryz.func46 (fY x30 _ _ _ _ (g30.raw (ZY.out.mul ZX.out) dZ) ((HC.out.ext hW).raw ZK.out dZ))
  refine qZ ?_;refine aj ?_;intro w14 hI;have hE:=he0.out.trans hI.ext;have G31:=gT (hI.facts 7);clear hI he0 hz0 hc0 hf0;refine mV6 hE ?_ LA B3 B5 HX B4 HT;clear LA B3 B5 HX B4 HT;intro LA B3 B5 HX B4 HT;replace b_B5:=bX3 B5;simp only [pD];clear hc1 hc2 hc3;rw [←HE.out] at G31
  go_upto_region 4 with fail
  refine aU B5.out rfl ?_;intro w15 T;replace HX:=Hi (T.ext HX.out zo);replace LA:=Hi (LA.out.put T zo);replace HT:=Hi (HT.out.keep T.keep);replace B3:=Hi (T.rest _ _ zo B3.out);replace B4:=Hi (T.rest _ _ zo B4.out);replace B5:=Hi (T.bx);replace G31:=Hi (G31.out.keep T.keep);clear T;go_wp2
  go_roundg k
  case measure=>omega
  case rel=>exact ⟨x31,by go_num,zo,HX.out,LA.out,HT.out,B3.out,B4.out,B5.out,G31.out⟩
open Sg
theorem o4{p q:List Rat}{c:Rat}(hc:0<c)(h:∀ n,seq p n=seq q n*c):bg p=bg q:=by
 have hc0:c≠0:=fun h=>by rw [h] at hc;exact absurd hc Rat.lt_irrefl
 have h1:tz p=(tz q).map (·*c):=by
  rw [←fT hc0];exact jQ fun n=>by rw [aX];exact h n
 by_cases h0:tz q=[]
 ·unfold bg;rw [h1,h0];rfl
 ·have hl:((tz q).getLast?.getD 0).abs≠0:=fun k=>by
   have h2:=yR h0;rw [k] at h2;have e0:(1:Rat) / 0=0:=by rw [Rat.div_def,Rat.inv_zero,nYc]
   rw [e0] at h2;exact absurd h2 Rat.lt_irrefl
  have e:((tz p).getLast?.getD 0).abs=((tz q).getLast?.getD 0).abs*c:=by
   rw [h1,List.getLast?_map];cases k:(tz q).getLast? with
   | none=>exact absurd (List.getLast?_eq_none_iff.1 k) h0
   | some y=>exact oU hc y
  unfold bg;rw [e,h1,List.map_map];refine List.map_congr_left fun x hx=>?_
  show x*c*(1 / (((tz q).getLast?.getD 0).abs*c))=x*(1 / ((tz q).getLast?.getD 0).abs);have h3:=k9 hc0 1 hl;rw [Rat.one_mul] at h3;rw [←h3];rw [Rat.div_def,Rat.div_def];grind
theorem qE(p:List Rat):bg (bg p)=bg p:=by
 by_cases h:tz p=[]
 ·rw [gY.2 h];rfl
 ·exact o4 (yR h) (fun n=>by unfold bg;rw [aX,aZ])
theorem jA(p:List Rat):bg (av p)=bg p:=by
 by_cases h:tz p=[]
 ·rw [cu.2 h,gY.2 h];rfl
 ·exact (o4 (bM h) (fun n=>by rw [cQ p n];grind)).symm
theorem Cl:∀ (n:Nat) (a b:List Rat),bg a=a→bg b=b→∀ m ∈ rch n a b,bg m=m:=by
 intro n;induction n with
 | zero=>intro a b _ _ m hm;simp [rch] at hm
 | succ n ih =>
  intro a b ha hb m hm;unfold rch at hm;split at hm
  ·simp at hm
  ·split at hm
   ·obtain rfl:m=a:=by simpa using hm
    exact ha
   ·rcases List.mem_cons.1 hm with rfl|hm
    ·exact ha
    ·exact ih _ _ hb (qE _) m hm
theorem oR(q:List Rat):jp q=(remsV q).map bg:=by
 have h1:=qT (q.length+1) (bg q) (bg (derL q)) (i7 _) (i7 _);rw [gX,gX] at h1;show _=(chn (q.length+1) (av q) (av (derL q))).map bg;rw [←h1,List.map_map];have h2:=Cl (q.length+1) (bg q) (bg (derL q)) (qE _) (qE _);show rch (q.length+1) (bg q) (bg (derL q))=_;refine (List.map_id _).symm.trans (List.map_congr_left fun m hm=>?_);show m=bg (av m);rw [jA,h2 m hm]
theorem zW{a b:List Rat}(ha:tz a≠[])(hb:tz b≠[]):bg (bX (bC (bg a) (bg b)) ((-1:Int):Rat))=bg (av ((bC a b).map (·*-1))):=by
 have hua:tz (bg a)≠[]:=fun h=>by rw [i7] at h;exact ha (gY.1 h)
 have hub:tz (bg b)≠[]:=fun h=>by rw [i7] at h;exact hb (gY.1 h)
 have h1:=og hua hub;have h2:=og ha hb;rw [gX,gX] at h1;have h3:∀ l:List Rat,bg (bX l ((-1:Int):Rat))=bg (l.map (·*-1)):=fun l=>by
  unfold bX bg;rw [aI];rfl
 rw [h3,←jA,←h1,h2]
theorem xG{a b:List Rat}{S U:Nat}(h:∃ s r f,DvP a b S U s r f):∃ s r f,0<f∧DvP a b S U s r f:=by
 obtain ⟨s,r,f,h⟩:=h;rcases tri f 0 with h0|h0|h0
 ·obtain ⟨d0,d1,d2,d3,d4,d5,d6,d7⟩:=h;refine ⟨s.map (·*-1),r.map (·*-1),-f,by grind,by grind,d1.neg,fun x hx=>?_,fun x hx=>?_,by rw [fT dZ,d4],by simpa using d5,by simpa using d6,fun n=>?_⟩
  ·obtain ⟨y,hy,rfl⟩:=nYg.1 hx;rw [show y*-1=-y by grind];exact (d2 y hy).neg
  ·obtain ⟨y,hy,rfl⟩:=nYg.1 hx;rw [show y*-1=-y by grind];exact (d3 y hy).neg
  ·have e:seq (s.map (·*-1))=fun i=>-1*seq s i:=by funext i;rw [aX];grind
   rw [e,fF,aX];have:=d7 n;grind
 ·exact absurd h0 h.1
 ·exact ⟨s,r,f,h0,h⟩
theorem BY(p:List Rat):bg p=bF p∨bg p=(bF p).map (·*-1):=by
 by_cases h:tz p=[]
 ·left;rw [gY.2 h];unfold bF;rw [if_pos h]
 ·obtain ⟨n,hn,h0⟩:=fu h;have hl:aO (tz p)=seq p n:=by unfold aO;rw [hn,bi];rfl
  have hl2:(tz p).getLast?.getD 0=seq p n:=by
   rw [List.getLast?_eq_getElem?,hn,Nat.add_sub_cancel,←nXd,bi];rfl
  rw [ku h,hl];unfold bg;rw [hl2];unfold Rat.abs;split
  ·left;rfl
  ·right
   rw [List.map_map];refine List.map_congr_left fun x hx=>?_
   show x*(1 / -(seq p n))=x*(((1:Int):Rat) / seq p n)*-1;have e3:1 / -(seq p n)=-(1 / seq p n):=by
    have h3:(1 / -(seq p n)+1 / seq p n)*seq p n=0:=by grind
    rcases nXr.1 h3 with h4|h4
    ·grind
    ·contradiction
   rw [e3,show ((1:Int):Rat)=1 from rfl];grind
theorem nI{a:List Rat}{X:Nat}(ha:∀ x ∈ a,Wz X x)(ht:tz a=a)(hX:1≤X):∃ D,0<D∧D<W32 ^ X∧FrL X D (bg a):=by
 obtain ⟨D,h1,h2,h3⟩:=ow ha ht hX;refine ⟨D,h1,h2,?_⟩;rcases BY a with e|e
 ·rw [e];exact h3
 ·rw [e];intro x hx;obtain ⟨y,hy,rfl⟩:=nYg.1 hx;rw [show y*-1=-y by grind];exact (h3 y hy).neg
theorem kg(p:List Rat):(bg p).length=(tz p).length:=by unfold bg;rw [nXl]
theorem xk{T:Nat}{x:Rat}(h:Sz T x):Fr T x.den x:=by
 refine Fr.int (z:=x.num) h.1 ?_;exact low x
theorem Fi{S D T:Nat}{l:List Rat}{x:Rat}(hl:FrL S D l)(hx:Sz T x):∀ j k,k+j=l.length→Fr (S+j*(T+1)) (D*x.den ^ j) (evV (l.drop k) x):=by
 intro j;induction j with
 | zero =>
  intro k hk;rw [List.drop_eq_nil_of_le zo];exact Fr.zero _ _
 | succ j ih =>
  intro k hk;rw [my l x zo];have h1:=(ih (k+1) zo).mul (xk hx);have hd:x.den ^ (j+1)≤W32 ^ (T*(j+1)):=by
   rw [Nat.pow_mul];exact Nat.pow_le_pow_left (nYm hx.2) _
  have h2:=(hl.at k).up (E:=x.den ^ (j+1)) hd (nYn x.den_pos);rw [Nat.mul_assoc,←nXu] at h1;have e1:j*(T+1)=j*T+j:=Nat.mul_succ _ _;have e2:(j+1)*(T+1)=j*T+j+(T+1):=by rw [nXz,e1]
  have e3:T*(j+1)=j*T+T:=by rw [Nat.mul_succ,nYf]
  refine ((h1.mono (S':=S+j*T+j+T) zo).add (h2.mono zo)).mono zo
theorem nw{S D T:Nat}{l:List Rat}{x:Rat}(hl:FrL S D l)(hx:Sz T x)(hS:1≤S)(hD:0<D)(hD2:D<W32 ^ S)(k:Nat):Sz (S+l.length*(T+1)) (evV (l.drop k) x):=by
 rcases Nat.lt_or_ge l.length k with h|h
 ·rw [List.drop_eq_nil_of_le zo];exact (Sz.int (z:=0) dZ).mono zo
 ·have h1:=Fi hl hx (l.length-k) k zo;have hm:(l.length-k)*(T+1)≤l.length*(T+1):=nXh _ zo;refine (h1.sz zo (Nat.mul_pos hD (nYn x.den_pos)) ?_).mono zo;have hd:x.den ^ (l.length-k)≤W32 ^ ((l.length-k)*(T+1)):=by
   rw [nYf,Nat.pow_mul];refine Nat.pow_le_pow_left (nXf (nYm hx.2) (nXp aw zo)) _
  rw [Nat.pow_add];exact Nat.mul_lt_mul_of_lt_of_le hD2 hd (nYn aw)
end Go.Proofs.YtafgmcimcbhhjaaGreat
