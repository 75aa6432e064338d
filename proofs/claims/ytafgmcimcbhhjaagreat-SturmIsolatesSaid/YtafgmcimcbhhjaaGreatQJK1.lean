import Derived.Test.YtafgmcimcbhhjaaGreatQJM7
set_option linter.unusedVariables false
set_option maxHeartbeats 4000000
set_option maxRecDepth 8000
namespace Go.Proofs.YtafgmcimcbhhjaaGreat
open Go.RowKit Go.Front Go.Num
attribute [local go_sem] XW.cell XW.frozen
theorem sP(n m:Int)(hm:0<m):(if n.tmod m<0 then n.tmod m+m else n.tmod m)=n % m:=by
 rw [Int.tmod_eq_emod];have h1:=Int.emod_nonneg n (show m≠0 by omega);have h2:=Int.emod_lt_of_pos n hm;have h3:((m.natAbs:Nat):Int)=m:=by omega
 split
 ·split <;> omega
 ·rw [h3];split <;> omega
theorem zA(n m:Int)(hm:0<m):-m<n.tmod m∧n.tmod m<m:=by
 rw [Int.tmod_eq_emod];have h1:=Int.emod_nonneg n (show m≠0 by omega);have h2:=Int.emod_lt_of_pos n hm;have h3:((m.natAbs:Nat):Int)=m:=by omega
 split
 ·omega
 ·rw [h3];omega
theorem t8(n m:Int)(w:World)(hn:-9223372036854775808≤n)(hn2:n≤9223372036854775807)(hm:0<m)(hm2:m≤9223372036854775807) :
  au 47 [.int .i64 n,.int .i64 m] w (fun _:Unit=>.int .i64 (n % m)) (fun _ _=>True):=by
 have He:=Hi (sP n m hm);obtain ⟨hb1,hb2⟩:=zA n m hm;have hm0:m≠0:=zo;unfold au;go_enter Tryz.func47,Tryz.ntmps47;obtain ⟨r,hr⟩:∃ r,r=n.tmod m:=⟨_,rfl⟩;rw [←hr] at He hb1 hb2;by_cases h0:r<0
 ·rw [if_pos h0] at He;go_wp2
  go_ret
  exact ⟨(),bg (by rw [←hr];exact He.out),Ext.refl _,trivial⟩
 ·rw [if_neg h0] at He;go_wp2
  go_ret
  exact ⟨(),bg (by rw [←hr];exact He.out),Ext.refl _,trivial⟩
def InR(xs:List Int):Prop:=∀ x ∈ xs,-9223372036854775808≤x∧x≤9223372036854775807
theorem eV(q:Rat):dJ q 0=0↔q=0:=by
 unfold dJ;constructor
 ·intro h;split at h
  ·cases h
  ·split at h
   ·assumption
   ·cases h
 ·rintro rfl;rw [if_neg Rat.lt_irrefl,if_pos rfl]
theorem fi(ao:Option Addr)(n cap:Nat)(qs:List Rat)(w:World)(h:cD w ⟨ao,n,cap⟩ qs) :
  au 167 [.slice ao n cap] w (fun _:Unit=>.slice ao (tz qs).length cap) (fun _ _=>tz qs=qs.take (tz qs).length∧(tz qs).length≤n):=by
 have H:=Hi h;have hle:=h.le;have hmx:=h.max;have Hlen:=Hi h.len;simp only at hle hmx Hlen;clear h;unfold au
 change Calls Tryz.prog _ #[.slice ao n cap] w _
 go_enter Tryz.func167,Tryz.ntmps167;go_wp2
 go_loopg [3] n (fun g nv wr=>nv=.int .i64 (g:Nat)∧g≤n∧tz qs=tz (qs.take g)∧Ext w wr)
 case atStart=>exact ⟨rfl,nXe _,by rw [nXm (by rw [Hlen.out];exact nXe _)],Ext.refl _⟩
 case round =>
  obtain ⟨rfl,hg,hs,hE⟩:=hrel;have Hs:=Hi hs;have HE:=Hi hE;clear hs hE;by_cases h0:gk=0
  ·subst h0;go_wp2
   go_ret
   have e:tz qs=[]:=by rw [Hs.out];rfl
   refine ⟨(),?_,HE.out,?_,?_⟩
   ·rw [e];simp
   ·rw [e];simp
   ·rw [e];simp
  ·obtain ⟨k,rfl⟩:∃ m,gk=m+1:=⟨gk-1,zo⟩;obtain ⟨b,off,r,hao,⟨hc1,hc2,hc3⟩,hP⟩:=(H.out.ext HE.out).at (k:=k) zo;subst hao;have hbl:b<wr.heap.size:=nXq _ _ hc1;obtain ⟨rneg,ra,rn,rc,rb,rm,rd⟩:=r;simp only at hc1 hc2 hc3;have HP:=Hi hP;clear hP h0
   go_wp2_with fail
   refine Calls.mono (fU ⟨rneg,ra,rn,rc,rb,rm,rd⟩ _ _ HP.out) ?_;rintro e w1 ⟨x1,rfl,hE1,-⟩;replace HE:=Hi (HE.out.trans hE1);have HZ:=Hi (eV (qs.getD k 0));obtain ⟨c,hc⟩:∃ c,c=dJ (qs.getD k 0) 0:=⟨_,rfl⟩;rw [←hc] at HZ ⊢;clear hc hE1 HP hc1 hc2 hc3 hbl;by_cases hz:c=0
   ·subst hz;have Hz0:=Hi (HZ.out.1 rfl);clear HZ;go_wp2
    go_roundg k
    case measure=>omega
    case rel=>exact ⟨by go_num,zo,by rw [Hs.out,ju (by rw [Hlen.out];omega) Hz0.out],HE.out⟩
   ·have hzb:(c == 0)=false:=by simpa using hz
    have HF:Hid (tz qs=qs.take (k+1)):=Hi (by rw [Hs.out,oS (by rw [Hlen.out];omega) (fun h=>hz (HZ.out.2 h))]);clear HZ hz;go_wp2
    go_ret
    have e:(tz qs).length=k+1:=by rw [HF.out,nXk,Hlen.out];omega
    refine ⟨(),?_,HE.out,?_,?_⟩
    ·rw [e];rfl
    ·rw [e];exact HF.out
    ·omega
theorem kM(ao:Option Addr)(n cap:Nat)(qs:List Rat)(w:World)(h:cD w ⟨ao,n,cap⟩ qs) :
  au 105 [.slice ao n cap] w (fun _:Unit=>.int .i64 (((tz qs).length:Int)-1)) (fun _ _=>True):=by
 have H:=Hi h;have hle:=h.le;have hmx:=h.max;simp only at hle hmx;clear h;unfold au
 change Calls Tryz.prog _ #[.slice ao n cap] w _
 go_enter Tryz.func105,Tryz.ntmps105
 go_wp2_with fail
 refine Calls.mono (fi _ _ _ _ _ H.out) ?_;rintro e w1 ⟨x1,rfl,hE1,-,h2⟩;have HE:=Hi hE1;clear hE1;go_wp2
 go_ret
 exact ⟨(),rfl,HE.out,trivial⟩
theorem iQ{l:List Rat}{j:Nat}(h:j<l.length):l.take j++[l.getD j 0]=l.take (j+1):=by
 rw [List.take_succ_eq_append_getElem h];simp [h]
theorem ah(qs:List Rat):(tz qs).length≤qs.length:=by
 unfold tz;rw [List.length_reverse];have:=(List.dropWhile_sublist (l:=qs.reverse) (· == 0)).length_le;rw [List.length_reverse] at this;exact this
theorem cD.cells'{w:World}{ao:Option Addr}{n c:Nat}{qs:List Rat}(h:cD w ⟨ao,n,c⟩ qs){k:Nat}(hk:k<n):∃ b off r,ao=some ⟨b,off,none⟩∧b<w.heap.size∧RAt w b (off+k*3) r∧aS w r (qs.getD k 0) :=
 let ⟨b,off,r,h1,h2,h3⟩:=h.at hk;⟨b,off,r,h1,nXq _ _ h2.1,h2,h3⟩
theorem bJ(ao:Option Addr)(n cap:Nat)(qs:List Rat)(w:World)(h:cD w ⟨ao,n,cap⟩ qs)(hn:n≤1073741824) :
  au 57 [.slice ao n cap] w SH.v (fun s w'=>eL w.heap.size w' s (tz qs)):=by
 have H:=Hi h;have HX:=Hi (Ext.refl w);have hle:=h.le;have hmx:=h.max;have Hlen:=Hi h.len;simp only at hle hmx Hlen;clear h;unfold au;go_enter Tryz.func57,Tryz.ntmps57;go_wp2
 go_loopg [3] n (fun g nv wr=>nv=.int .i64 (g:Nat)∧g≤n∧tz qs=tz (qs.take g)∧Ext w wr)
 case atStart=>exact ⟨rfl,nXe _,by rw [nXm (by rw [Hlen.out];exact nXe _)],Ext.refl _⟩
 case round =>
  obtain ⟨rfl,hg,hs,hE⟩:=hrel;clear HX;have Hs:=Hi hs;have HX:=Hi hE;have hsz:=hE.size;clear hs hE;by_cases h0:gk=0
  ·subst h0;have HT:Hid (tz qs=qs.take 0):=Hi (by rw [Hs.out];rfl);have HTl:Hid ((tz qs).length=0):=Hi (by rw [HT.out];rfl);go_wp2
   go_loopg [4,26] 0 (fun g v i wr=>∃ j:Nat,j+g=0∧i=.int .i64 (j:Nat)∧Ext w wr∧dw wr (w.heap.size≤·) v ((tz qs).take j))
   case atStart=>exact ⟨0,zo,rfl,HX.out,dw.nil _ _⟩
   case round =>
    obtain ⟨j,hj,rfl,g1,g2⟩:=hrel;obtain ⟨s,rfl⟩:=g2.sh;clear HX;have HX:=Hi g1;have HO:=Hi g2;have hsz:=g1.size;clear g1 g2;by_cases h0:gk=0
    ·subst h0;obtain rfl:j=0:=by omega
     go_wp2
     go_ret
     refine ⟨s,rfl,HX.out,?_⟩;have:=HO.out.lin
     rwa [nXm (by rw [HTl.out];exact nXe _)] at this
    ·omega
  ·obtain ⟨k,rfl⟩:∃ m,gk=m+1:=⟨gk-1,zo⟩;obtain ⟨b,off,r,hao,hbl,⟨hc1,hc2,hc3⟩,hP⟩:=(H.out.ext HX.out).cells' (k:=k) zo;obtain ⟨rneg,ra,rn,rc,rb,rm,rd⟩:=r;simp only at hc1 hc2 hc3;have HP:=Hi hP;clear hP h0;have Hao:=Hi hao;subst hao
   go_wp2_with fail
   refine cM (jy ⟨rneg,ra,rn,rc,rb,rm,rd⟩ _ _ HP.out) fun x1 w1 hE _=>?_
   replace HX:=hE.tr HX;have hs_w1:=hE.size;have HZ:=Hi (eV (qs.getD k 0));obtain ⟨c,hc⟩:∃ c,c=dJ (qs.getD k 0) 0:=⟨_,rfl⟩;rw [←hc] at HZ ⊢;clear hc HP hc1 hc2 hc3 hbl;by_cases hz:c=0
   ·subst hz;have Hz0:=Hi (HZ.out.1 rfl);clear HZ;go_wp2
    go_roundg k
    case measure=>omega
    case rel=>exact ⟨by go_num,zo,by rw [Hs.out,ju (by rw [Hlen.out];omega) Hz0.out],HX.out⟩
   ·have hzb:(c == 0)=false:=by simpa using hz
    have HT:Hid (tz qs=qs.take (k+1)):=Hi (by rw [Hs.out,oS (by rw [Hlen.out];omega) (fun h=>hz (HZ.out.2 h))]);have HTl:Hid ((tz qs).length=k+1):=Hi (by rw [HT.out,nXk,Hlen.out];omega);clear HZ hz;go_wp2
    go_loopg [4,26] (k+1) (fun g v i wr=>∃ j:Nat,j+g=(k+1)∧i=.int .i64 (j:Nat)∧Ext w wr∧dw wr (w.heap.size≤·) v ((tz qs).take j))
    case atStart=>exact ⟨0,zo,rfl,HX.out,dw.nil _ _⟩
    case round =>
     obtain ⟨j,hj,rfl,g1,g2⟩:=hrel;obtain ⟨s,rfl⟩:=g2.sh;clear HX;have HX:=Hi g1;have HO:=Hi g2;have hsz:=g1.size;clear g1 g2;by_cases h0:gk=0
     ·subst h0;obtain rfl:j=(k+1):=by omega
      go_wp2
      go_ret
      refine ⟨s,rfl,HX.out,?_⟩;have:=HO.out.lin
      rwa [nXm (by rw [HTl.out];exact nXe _)] at this
     ·obtain ⟨b',off',r,hao,hbl,⟨hc1,hc2,hc3⟩,hP⟩:=(H.out.ext HX.out).cells' (k:=j) zo;obtain ⟨rfl,rfl⟩:b=b'∧off=off':=by simpa using hao
      obtain ⟨rneg,ra,rn,rc,rb,rm,rd⟩:=r;simp only at hc1 hc2 hc3;have HP:=Hi hP;clear hP;have hjn:(j:Int)<(k+1):=zo
      go_upto_region 8 with fail
      refine nmA ?_;intro w1 hE B6 hz_w1 hr_w1;refine mV3 hE ?_ HX HO HP;clear HX HO HP;intro HX HO HP;have hs_w1:=hE.size;replace b_B6:=bX3 B6
      go_wp2_with fail
      refine cM (cN ⟨rneg,ra,rn,rc,rb,rm,rd⟩ (qs.getD j 0) _ HP.out) fun x2 w2 hE G2=>?_
      refine mV4 hE ?_ B6 HX HO HP;clear B6 HX HO HP;intro B6 HX HO HP;have hs_w2:=hE.size;replace b_B6:=bX3 B6
      go_wp2_with (at_builtin;refine dY rfl (.tmp 30) (.tmp 33) 24 Tryz.underlying24 rfl (w.heap.size≤·) _ _ x2 _ rfl HO.out rfl G2.out (by simp;omega) (fun k hk=>by omega) ?_;intro s' y3 q1 q2 q3)
      have HX3:=Hi (Ext.mods HX.out q2 (fun k h=>h));have HO3:Hid (dw y3 (w.heap.size≤·) s'.v ((tz qs).take (j+1))):=Hi (by
       rw [←iQ (l:=tz qs) (by rw [HTl.out];omega)];have e:(tz qs).getD j 0=qs.getD j 0:=by
        rw [HT.out];simp [show j<(k+1) by omega]
       rw [e];exact q1)
      clear q1 q2 q3;go_wp2
      go_roundg (gk-1)
      case measure=>omega
      case rel=>exact ⟨j+1,zo,by go_num,HX3.out,HO3.out⟩
end Go.Proofs.YtafgmcimcbhhjaaGreat
/- Stab, StbP, Stb1, Stb2, Stb3 -/
namespace Go.Stab
def sm:Nat→(Nat→Rat)→Rat
 | 0,_=>0
 | n+1,f=>sm n f+f n
theorem sm_congr{n:Nat}{f g:Nat→Rat}(h:∀ i,i<n→f i=g i):sm n f=sm n g:=by
 induction n with
 | zero=>rfl
 | succ n ih=>simp only [sm];rw [ih (fun i hi=>h i zo),h n zo]
theorem yt(n:Nat)(f g:Nat→Rat):sm n (fun i=>f i+g i)=sm n f+sm n g:=by
 induction n with
 | zero=>simp only [sm];grind
 | succ n ih=>simp only [sm];rw [ih];grind
theorem lO(n:Nat)(c:Rat)(f:Nat→Rat):sm n (fun i=>c*f i)=c*sm n f:=by
 induction n with
 | zero=>simp [sm]
 | succ n ih=>simp only [sm];rw [ih];grind
theorem sm_zero(n:Nat):sm n (fun _=>0)=0:=by
 induction n with
 | zero=>rfl
 | succ n ih=>simp only [sm];rw [ih];grind
theorem By{n:Nat}{f g:Nat→Rat}(h:∀ i,i<n→f i≤g i):sm n f≤sm n g:=by
 induction n with
 | zero=>exact Rat.le_refl
 | succ n ih =>
  simp only [sm];have h1:=ih (fun i hi=>h i zo);have h2:=h n zo;grind
theorem iU(n:Nat)(f:Nat→Rat):sm (n+1) f=f 0+sm n (fun i=>f (i+1)):=by
 induction n with
 | zero=>simp [sm];grind
 | succ n ih=>rw [sm,ih];simp only [sm];grind
theorem sm_split(n m:Nat)(f:Nat→Rat):sm (n+m) f=sm n f+sm m (fun i=>f (n+i)):=by
 induction m with
 | zero=>simp [sm];grind
 | succ m ih=>rw [←Nat.add_assoc];simp only [sm];rw [ih];grind
theorem Bw(n:Nat)(f:Nat→Rat):sm n f=sm n (fun i=>f (n-1-i)):=by
 induction n with
 | zero=>rfl
 | succ n ih =>
  rw [iU n (fun i=>f (n+1-1-i))];simp only [sm];rw [ih];have:sm n (fun i=>f (n+1-1-(i+1)))=sm n (fun i=>f (n-1-i)):=sm_congr (fun i hi=>by congr 1;omega);rw [this];simp only [Nat.add_sub_cancel,Nat.sub_zero];grind
def sh(u:Nat→Rat):Nat→Rat
 | 0=>0
 | n+1=>u n
def ap:List Rat→(Nat→Rat)→Nat→Rat
 | [],_=>fun _=>0
 | a :: l,u=>fun n=>a*u n+sh (ap l u) n
def E(n:Nat)(u:Nat→Rat):Rat:=sm n (fun i=>u i*u i)
def DO(a b:List Rat):List Rat:=List.zipWith (·+·) a b
def DN(c:Rat)(a:List Rat):List Rat:=a.map (c*·)
def up(c:List Rat)(k:Rat):List Rat:=DO (c++[0]) (DN k (0 :: c.reverse))
def Inv(c:List Rat):Prop:=∃ C:Rat,0≤C∧∀ u N,E N u≤C*E N (ap c u)
def shn(i:Nat)(u:Nat→Rat)(n:Nat):Rat:=if i≤n then u (n-i) else 0
theorem wt(i:Nat)(u:Nat→Rat)(n:Nat):shn (i+1) u (n+1)=shn i u n:=by
 unfold shn;by_cases h:i≤n
 ·rw [if_pos h,if_pos zo];congr 1;omega
 ·rw [if_neg h,if_neg zo]
theorem ap_sum(c:List Rat)(u:Nat→Rat)(n:Nat):ap c u n=sm c.length (fun i=>c.getD i 0*shn i u n):=by
 induction c generalizing n with
 | nil=>rfl
 | cons a l ih =>
  simp only [ap,List.length_cons];rw [iU];have e0:shn 0 u n=u n:=by unfold shn;simp
  have e1:sh (ap l u) n=sm l.length (fun i=>(a :: l).getD (i+1) 0*shn (i+1) u n):=by
   cases n with
   | zero =>
    simp only [sh];rw [sm_congr (g:=fun _=>0) (fun i _=>by simp [shn]),sm_zero]
   | succ n =>
    simp only [sh];rw [ih];exact sm_congr (fun i _=>by rw [wt];simp)
  rw [e1,e0];simp
def G(L:Nat)(u:Nat→Rat)(i j:Nat):Rat:=sm L (fun n=>shn i u n*shn j u n)
theorem xe(a b:Rat):a<b∨b≤a:=by
 rcases Rat.le_total (a:=b) (b:=a) with h|h
 ·exact Or.inr h
 ·by_cases h1:a=b
  ·right;rw [h1];exact Rat.le_refl
  ·left;exact Rat.lt_of_le_of_ne h h1
theorem wm(n:Nat)(c:Rat):sm n (fun _=>c)=(n:Rat)*c:=by
 induction n with
 | zero=>simp only [sm];grind
 | succ n ih=>simp only [sm];rw [ih,Rat.natCast_add];grind
theorem yC{J:Nat}{f:Nat→Rat}{S:Rat}(hJ:1≤J)(h:sm J f≤S):∃ j,j<J∧(J:Rat)*f j≤S:=by
 apply Classical.byContradiction;intro hn;have hall:∀ j,j<J→S<(J:Rat)*f j:=by
  intro j hj;rcases xe (S) ((J:Rat)*f j) with h1|h1
  ·exact h1
  ·exact absurd ⟨j,hj,h1⟩ hn
 have h1:sm J (fun _=>S)≤sm J (fun j=>(J:Rat)*f j):=By (fun j hj=>Rat.le_of_lt (hall j hj));have h2:sm J (fun _=>S)<sm J (fun j=>(J:Rat)*f j):=by
  obtain ⟨J',rfl⟩:∃ J',J=J'+1:=⟨J-1,zo⟩;simp only [sm];have a1:=hall J' zo;have a2:sm J' (fun _=>S)≤sm J' (fun j=>((J'+1:Nat):Rat)*f j):=By (fun j hj=>Rat.le_of_lt (hall j zo));grind
 rw [wm,lO] at h2;have h3:=Rat.mul_le_mul_of_nonneg_left h (c:=(J:Rat)) (by exact Rat.natCast_nonneg);grind
def seq(c:List Rat)(n:Nat):Rat:=c.getD n 0
def cv(s u:Nat→Rat)(n:Nat):Rat:=sm (n+1) (fun i=>s i*u (n-i))
theorem gi(s u:Nat→Rat):cv s u=cv u s:=by
 funext n
 unfold cv;rw [Bw];exact sm_congr (fun i hi=>by rw [show n-(n+1-1-i)=i by omega,show n+1-1-i=n-i by omega];grind)
theorem CB(t u:Nat→Rat):cv (sh t) u=sh (cv t u):=by
 funext n
 cases n with
 | zero=>simp only [cv,sm,sh];grind
 | succ n =>
  simp only [sh];unfold cv;rw [iU];simp only [sh];rw [sm_congr (f:=fun i=>t i*u (n+1-(i+1))) (g:=fun i=>t i*u (n-i)) (fun i hi=>by rw [show n+1-(i+1)=n-i by omega])];grind
theorem oG(s t u:Nat→Rat):cv (fun n=>s n+t n) u=fun n=>cv s u n+cv t u n:=by
 funext n
 unfold cv;rw [←yt];exact sm_congr (fun i _=>by grind)
theorem fF(c:Rat)(s u:Nat→Rat):cv (fun n=>c*s n) u=fun n=>c*cv s u n:=by
 funext n
 unfold cv;rw [←lO];exact sm_congr (fun i _=>by grind)
theorem DY(p:List Rat)(s u:Nat→Rat):cv (ap p s) u=ap p (cv s u):=by
 induction p with
 | nil=>funext n;unfold cv ap;rw [sm_congr (g:=fun _=>0) (fun i _=>by grind),sm_zero]
 | cons a l ih=>simp only [ap];rw [oG,fF,CB,ih]
theorem wv(a:Rat)(l:List Rat):seq (a :: l)=fun n=>a*(if n=0 then 1 else 0)+sh (seq l) n:=by
 funext n
 cases n with
 | zero=>simp only [seq,sh,List.getD_cons_zero,if_true];grind
 | succ n=>simp only [seq,sh,List.getD_cons_succ,if_neg (Nat.succ_ne_zero n)];grind
theorem CC(u:Nat→Rat):cv (fun n=>if n=0 then 1 else 0) u=u:=by
 funext n
 unfold cv;rw [iU,sm_congr (f:=fun i=>(if i+1=0 then 1 else 0)*u (n-(i+1))) (g:=fun _=>0) (fun i _=>by rw [if_neg (Nat.succ_ne_zero i)];grind),sm_zero];simp only [if_true,Nat.sub_zero];grind
theorem iC(p:List Rat)(u:Nat→Rat):ap p u=cv (seq p) u:=by
 induction p with
 | nil=>funext n;unfold cv ap;rw [sm_congr (g:=fun _=>0) (fun i _=>by simp only [seq,List.getD_nil];grind),sm_zero]
 | cons a l ih=>rw [wv,oG,fF,CB,CC,←ih];rfl
theorem xB{a b:List Rat}{i:Nat}(h:i<a.length):(a++b).getD i 0=a.getD i 0:=by
 rw [nXd,nXd,List.getElem?_append_left h]
theorem uA{a b:List Rat}{i:Nat}(h:a.length≤i):(a++b).getD i 0=b.getD (i-a.length) 0:=by
 rw [nXd,nXd,List.getElem?_append_right h]
theorem getD_ext{a b:List Rat}(hl:a.length=b.length)(h:∀ i,i<a.length→a.getD i 0=b.getD i 0):a=b:=by
 apply List.ext_getElem hl;intro i h1 h2;have:=h i h1;simpa [nXd,List.getElem?_eq_getElem h1,List.getElem?_eq_getElem h2] using this
theorem snoc0_getD(c:List Rat)(i:Nat):(c++[0]).getD i 0=c.getD i 0:=by
 rcases Nat.lt_or_ge i c.length with h|h
 ·exact xB h
 ·rw [uA h,nXd,nXd,List.getElem?_eq_none (l:=c) h];cases h':i-c.length <;> simp
theorem snoc_ind{P:List Rat→Prop}(h0:P [])(h1:∀ l r,P l→P (l++[r]))(l:List Rat):P l:=by
 have:∀ l:List Rat,P l.reverse:=by
  intro l;induction l with
  | nil=>exact h0
  | cons a l ih=>rw [List.reverse_cons];exact h1 _ _ ih
 have:=this l.reverse
 rwa [List.reverse_reverse] at this
end Go.Stab
namespace Go.Proofs.YtafgmcimcbhhjaaGreat
open Go.RowKit Go.Front Go.Num
attribute [local go_sem] XW.cell XW.frozen
theorem Sz.abs{k:Nat}{q:Rat}(h:Sz k q):Sz k q.abs:=by
 unfold Rat.abs;split
 ·exact h
 ·exact h.neg
theorem RAt.lt{w:World}{b o:Nat}{r:RH}(h:RAt w b o r):b<w.heap.size:=nXq _ _ h.1
theorem ez(l:List Rat):tz (l++[0])=tz l:=by simp [tz]
theorem fM(l:List Rat){r:Rat}(h:r≠0):tz (l++[r])=l++[r]:=by simp [tz,h]
theorem iL(l:List Rat):tz l=l.take (tz l).length:=by
 induction l using Stab.snoc_ind with
 | h0=>rfl
 | h1 l r ih =>
  by_cases h:r=0
  ·subst h;rw [ez,List.take_append_of_le_length (ah l)];exact ih
  ·rw [fM l h,List.take_length]
theorem oT{l:List Rat}{i:Nat}(h:i<(tz l).length):(tz l).getD i 0=l.getD i 0:=by
 rw [iL l];simp [h]
theorem sN{l:List Rat}{i:Nat}(h:(tz l).length≤i):l.getD i 0=0:=by
 induction l using Stab.snoc_ind with
 | h0=>rfl
 | h1 l r ih =>
  by_cases hr:r=0
  ·subst hr;rw [ez] at h;rw [Stab.snoc0_getD];exact ih h
  ·rw [fM l hr] at h;rw [nXd,List.getElem?_eq_none h];rfl
theorem bp(l:List Rat)(i:Nat):(tz l).getD i 0=l.getD i 0:=by
 rcases Nat.lt_or_ge i (tz l).length with h|h
 ·exact oT h
 ·rw [sN h,nXd,List.getElem?_eq_none h];rfl
theorem SzL.tz{k:Nat}{qs:List Rat}(h:SzL k qs):SzL k (tz qs):=by
 rw [iL];exact fun q hq=>h q (List.mem_of_mem_take hq)
def jT(w:World)(p:Nat×RH)(q:Rat):Prop:=RBk w p.1 [p.2] #[]∧aB w p.2 q
theorem jT.ext{w w':World}{p:Nat×RH}{q:Rat}(h:jT w p q)(he:Ext w w'):jT w' p q:=⟨h.1.ext he,h.2.ext he⟩
instance {w w':World} {p:Nat×RH} {q:Rat}:Go.Front.Mv w w' (jT w p q) (jT w' p q):=⟨fun e h=>jT.ext h e⟩

theorem rI{P:Program}{o:Oper}{a:Act}{w:World}{T:TypeId}(x:RH)(q:Rat)(hx:aB w x q)(hT:T=34)
 (hrun:(execOp a.eval o).run P w=.ok (.value (.slice (some ⟨w.heap.size,0,none⟩) 1 1)) (w.alloc (.cells #[.bool x.neg,.slice x.a x.n x.c,.slice x.b x.m x.d] T))) :
  eA P o a w (fun p:Nat×RH=>.slice (some ⟨p.1,0,none⟩) 1 1) (fun p w'=>jT w' p q):=by
 subst hT;unfold eA;rw [hrun];exact ⟨Ext.alloc _ _,(w.heap.size,x),rfl,tC (heap_alloc_new _ _) rfl,hx.ext (Ext.alloc _ _)⟩
theorem Sz.zero{k:Nat}(hk:1≤k):Sz k 0:=(Sz.int (z:=0) dZ).mono hk
def grow:Nat→Nat→Nat
 | 0,s=>s
 | m+1,s=>grow m (5*s+3)
theorem aM(l:List Rat):tz (tz l)=tz l:=by
 induction l using Stab.snoc_ind with
 | h0=>rfl
 | h1 l r ih =>
  by_cases h:r=0
  ·subst h;rw [ez];exact ih
  ·rw [fM l h,fM l h]
theorem CN{w:World}{N:Nat}{x:RH}{p:Rat}(h:w.heap[N]?=some (.cells #[.bool x.neg,.slice x.a x.n x.c,.slice x.b x.m x.d] 34 (0,0)))(hx:aB w x p):bw w ⟨some ⟨N,0,none⟩,1,1⟩ [p] :=
 ⟨[x],RBk.rs (rs:=[x]) (re:=#[]) h rfl (nXe _) dZ,(dX.nil _ _).snoc hx⟩
theorem CM{w:World}{N:Nat}{x y:RH}{p q:Rat}(h:w.heap[N]?=some (.cells #[.bool x.neg,.slice x.a x.n x.c,.slice x.b x.m x.d,.bool y.neg,.slice y.a y.n y.c,.slice y.b y.m y.d] 34 (0,0)))(hx:aB w x p)(hy:aB w y q):bw w ⟨some ⟨N,0,none⟩,2,2⟩ [p,q] :=
 ⟨[x,y],RBk.rs (rs:=[x,y]) (re:=#[]) h rfl (nXe _) dZ,((dX.nil _ _).snoc hx).snoc hy⟩
theorem zh{w:World}{N:Nat}{x y z:RH}{p q r:Rat}(h:w.heap[N]?=some (.cells #[.bool x.neg,.slice x.a x.n x.c,.slice x.b x.m x.d,.bool y.neg,.slice y.a y.n y.c,.slice y.b y.m y.d,.bool z.neg,.slice z.a z.n z.c,.slice z.b z.m z.d] 34 (0,0)))(hx:aB w x p)(hy:aB w y q)(hz:aB w z r):bw w ⟨some ⟨N,0,none⟩,3,3⟩ [p,q,r] :=
 ⟨[x,y,z],RBk.rs (rs:=[x,y,z]) (re:=#[]) h rfl (nXe _) dZ,(((dX.nil _ _).snoc hx).snoc hy).snoc hz⟩
def fr(a b:Int):Rat:=(a:Rat) / (b:Rat)
theorem gF{qs:List Rat}{i:Nat}(h:qs.length≤i):qs.getD i 0=0:=by
 rw [nXd,List.getElem?_eq_none h];rfl
theorem Dw(ao:Option Addr)(n cap:Nat)(qs:List Rat)(i:Nat)(w:World)(h:cD w ⟨ao,n,cap⟩ qs)(hi:i≤1073741824) :
  au 170 [.slice ao n cap,.int .i64 (i:Nat)] w RH.v (fun x w'=>aB w' x (qs.getD i 0)):=by
 have HX:=Hi (Ext.refl w);have hle:=h.le;have hmx:=h.max;have hlen:=h.len;simp only at hle hmx hlen;unfold au;by_cases hin:i<n
 ·obtain ⟨b,off,r,hao,hbl,⟨hc1,hc2,hc3⟩,hP⟩:=h.cells' (k:=i) hin;subst hao;obtain ⟨rneg,ra,rn,rc,rb,rm,rd⟩:=r;simp only at hc1 hc2 hc3;have HP:=Hi hP;clear hP h hlen;go_enter Tryz.func170,Tryz.ntmps170
  go_wp2_with fail
  refine nmA (F:=fun W=>Calls _ _ _ W _) ?_;intro w1 hE B4 hz_w1 hr_w1;refine mV2 hE ?_ HX HP;clear HX HP;intro HX HP;have hs_w1:=hE.size;replace b_B4:=bX3 B4
  change Calls _ _ _ _ _
  refine cM (cN ⟨rneg,ra,rn,rc,rb,rm,rd⟩ (qs.getD i 0) _ HP.out) fun x2 w2 hE G2=>?_
  refine mV3 hE ?_ B4 HX HP;clear B4 HX HP;intro B4 HX HP;have hs_w2:=hE.size;replace b_B4:=bX3 B4;go_wp2;have hF:=((((Fin.start (L:=w.heap.size) HX.out (aj B4.out rfl)).set zo (i:=0) (v:=.bool x2.neg) rfl).set zo (i:=1) (v:=.slice x2.a x2.n x2.c) rfl).set zo (i:=2) (v:=.slice x2.b x2.m x2.d) rfl);exact nXa (v:=x2.v) (by simp [results,Tryz.results170,go_sem,ae B4.out]) rfl ⟨x2,rfl,hF.ext,G2.out.keep hF.keep⟩
 ·have HZ:Hid (qs.getD i 0=((0:Int):Rat)):=Hi (gF zo);clear h hlen;go_enter Tryz.func170,Tryz.ntmps170
  go_wp2_with fail
  refine nmA (F:=fun W=>Calls _ _ _ W _) ?_;intro w1 hE B4 hz_w1 hr_w1;replace HX:=hE.tr HX;have hs_w1:=hE.size;replace b_B4:=bX3 B4
  change Calls _ _ _ _ _
  refine cM (aO 0 _ dZ dZ) fun x2 w2 hE G2=>?_
  refine mV2 hE ?_ B4 HX;clear B4 HX;intro B4 HX;have hs_w2:=hE.size;replace b_B4:=bX3 B4;go_wp2;have hF:=((((Fin.start (L:=w.heap.size) HX.out (aj B4.out rfl)).set zo (i:=0) (v:=.bool x2.neg) rfl).set zo (i:=1) (v:=.slice x2.a x2.n x2.c) rfl).set zo (i:=2) (v:=.slice x2.b x2.m x2.d) rfl);exact nXa (v:=x2.v) (by simp [results,Tryz.results170,go_sem,ae B4.out]) rfl ⟨x2,rfl,hF.ext,(by rw [HZ.out];exact G2.out.keep hF.keep)⟩
theorem kH(g:Nat→Rat)(j:Nat):(List.range (j+1)).map g=(List.range j).map g++[g j]:=by rw [List.range_succ,List.map_append];rfl
def gU(ps qs:List Rat):List Rat:=tz ((List.range (max ps.length qs.length)).map (fun i=>ps.getD i 0+qs.getD i 0))
def pmS(p q:List Rat)(i k n:Nat):Rat:=Stab.sm i (fun i'=>p.getD i' 0*Stab.shn i' (Stab.seq q) n)+if i≤n∧n<i+k then p.getD i 0*q.getD (n-i) 0 else 0
theorem wG(p q:List Rat)(n:Nat):pmS p q 0 0 n=0:=by
 unfold pmS;rw [if_neg zo];show (0:Rat)+0=0;grind
theorem wI(p q:List Rat)(i k:Nat):pmS p q i (k+1) (i+k)=pmS p q i k (i+k)+p.getD i 0*q.getD k 0:=by
 unfold pmS;rw [if_pos zo,if_neg zo,show i+k-i=k by omega];grind
theorem wJ{p q:List Rat}{i k n:Nat}(h:n≠i+k):pmS p q i (k+1) n=pmS p q i k n:=by
 unfold pmS;by_cases h1:i≤n∧n<i+k
 ·rw [if_pos h1,if_pos zo]
 ·rw [if_neg h1,if_neg zo]
theorem wH{p q:List Rat}{i k:Nat}(hk:q.length=k)(n:Nat):pmS p q (i+1) 0 n=pmS p q i k n:=by
 unfold pmS;rw [if_neg zo];simp only [Stab.sm];have e:Stab.shn i (Stab.seq q) n=if i≤n∧n<i+k then q.getD (n-i) 0 else 0:=by
  unfold Stab.shn Stab.seq;by_cases h1:i≤n
  ·rw [if_pos h1];by_cases h2:n<i+k
   ·rw [if_pos ⟨h1,h2⟩]
   ·rw [if_neg zo,gF zo]
  ·rw [if_neg h1,if_neg zo]
 rw [e];split <;> grind
theorem zR(p q:List Rat)(n:Nat):pmS p q p.length 0 n=Stab.ap p (Stab.seq q) n:=by
 unfold pmS;rw [if_neg zo,Stab.ap_sum];grind
def lB(w:World)(L:Nat)(os:List Rat)(b:Nat):Prop:=∃ rs,RBk w L rs #[]∧dX aS w rs os∧SzL b os
theorem lB.ext{w w':World}{L b:Nat}{os:List Rat}(h:lB w L os b)(he:Ext w w'):lB w' L os b:=let ⟨rs,h1,h2,h3⟩:=h;⟨rs,h1.ext he,h2.raw_ext he,h3⟩
instance {w w':World} {L b:Nat} {os:List Rat}:Go.Front.Mv w w' (lB w L os b) (lB w' L os b):=⟨fun e h=>lB.ext h e⟩

theorem lB.lt{w:World}{L b:Nat}{os:List Rat}(h:lB w L os b):L<w.heap.size:=let ⟨_,h1,_⟩:=h;h1.lt
theorem nR(w:World):aS w default 0:=⟨[],[],bX _,bX _,by decide +kernel,dZ,dZ⟩
theorem lB.start{w:World}{L M:Nat}(h:RBk w L (List.replicate M default) #[]):lB w L (List.replicate M 0) 1:=by
 refine ⟨_,h,⟨by simp,fun k hk=>?_⟩,fun q hq=>?_⟩
 ·simp only [nXw] at hk;rw [show (List.replicate M (default:RH)).getD k default=default by simp [hk],show (List.replicate M (0:Rat)).getD k 0=0 by simp [hk]];exact nR w
 ·rw [List.eq_of_mem_replicate hq];exact Sz.zero dZ
theorem lB.cells{w:World}{L b:Nat}{os:List Rat}(h:lB w L os b){k:Nat}(hk:k<os.length):∃ r,RAt w L (k*3) r∧aS w r (os.getD k 0):=by
 obtain ⟨rs,h1,h2,h3⟩:=h;exact ⟨_,h1.at (by rw [h2.1];exact hk),h2.2 k hk⟩
theorem dX.rawkeep{w w':World}{rs:List RH}{qs:List Rat}(h:dX aS w rs qs)(he:gP w w'):dX aS w' rs qs:=⟨h.1,fun k hk=>(h.2 k hk).keep he⟩
theorem dX.set{P:World→RH→Rat→Prop}{w:World}{rs:List RH}{qs:List Rat}(h:dX P w rs qs){r:RH}{q:Rat}(hr:P w r q)(k:Nat):dX P w (rs.set k r) (qs.set k q):=by
 refine ⟨by simp [h.1],fun j hj=>?_⟩;simp only [nXo] at hj;by_cases hjk:k=j
 ·subst hjk;rw [show (rs.set k r).getD k default=r by simp [show k<rs.length by rw [h.1];exact hj],show (qs.set k q).getD k 0=q by simp [hj]];exact hr
 ·rw [show (rs.set k r).getD j default=rs.getD j default by rw [nXd,nXd,List.getElem?_set_ne hjk],show (qs.set k q).getD j 0=qs.getD j 0 by rw [nXd,nXd,List.getElem?_set_ne hjk]];exact h.2 j hj
theorem BR{w1:World}{L b b' k:Nat}{os:List Rat}{q:Rat}{F:World→Prop}{x:RH}(h:lB w1 L os b)(hk:k<os.length)(hx:aS w1 x q)(hz:Sz b' q)(hb:b≤b')
 (H:∀ w2,(∃ cs,dK w1 L 34 cs w2)→lB w2 L (os.set k q) b'→F w2) :
  F (((w1.setCell ⟨L,k*3,none⟩ (.bool x.neg)).setCell ⟨L,k*3+1,none⟩ (.slice x.a x.n x.c)).setCell ⟨L,k*3+2,none⟩ (.slice x.b x.m x.d)):=by
 obtain ⟨rs,h1,h2,h3⟩:=h;refine jc h1 rfl (by rw [h2.1];exact hk) fun w2 T=>H w2 ⟨_,T⟩ ⟨rs.set k x,T.bx,(h2.rawkeep T.keep).set (hx.keep T.keep) k,fun y hy=>?_⟩
 rcases List.mem_or_eq_of_mem_set hy with h4|h4
 ·exact (h3 y h4).mono hb
 ·rw [h4];exact hz
def aI(ps qs:List Rat):List Rat:=tz ((List.range ((tz ps).length+(tz qs).length-1)).map (Stab.ap (tz ps) (Stab.seq (tz qs))))
theorem vV{l:List Rat}(h:∀ x ∈ l,x=0):tz l=[]:=by
 induction l using Stab.snoc_ind with
 | h0=>rfl
 | h1 l r ih =>
  obtain rfl:r=0:=h r (by simp);rw [ez];exact ih (fun x hx=>h x (by simp [hx]))
theorem CP(n:Nat)(p:List Rat):Stab.ap p (Stab.seq []) n=0:=by
 rw [Stab.ap_sum,Stab.sm_congr (g:=fun _=>0) (fun i _=>?_),Stab.sm_zero];have:Stab.shn i (Stab.seq []) n=0:=by unfold Stab.shn Stab.seq;split <;> rfl
 rw [this];grind
theorem qE{ps qs:List Rat}(h:tz ps=[]∨tz qs=[]):aI ps qs=[]:=by
 unfold aI;apply vV;intro x hx;obtain ⟨n,-,rfl⟩:=nYf.1 hx;rcases h with h|h
 ·rw [h];rfl
 ·rw [h];exact CP n _
theorem Di{os:List Rat}{M:Nat}{f:Nat→Rat}(hl:os.length=M)(h:∀ n,n<M→os.getD n 0=f n):os=(List.range M).map f:=by
 apply Stab.getD_ext
 ·simp [hl]
 ·intro i hi;rw [hl] at hi;rw [h i hi];simp [hi]
theorem lB.raw{w:World}{L b M:Nat}{os:List Rat}(h:lB w L os b)(hl:os.length=M)(hM:M≤9223372036854775807):cD w ⟨some ⟨L,0,none⟩,M,M⟩ os:=by
 obtain ⟨rs,h1,h2,h3⟩:=h;exact ⟨rs,h1.rs (by rw [h2.1,hl]) (nXe _) hM,h2⟩
theorem wu{p q os:List Rat}{M i k:Nat}(hl:os.length=M)(h:∀ n,n<M→os.getD n 0=pmS p q i k n)(hj:i+k<M):∀ n,n<M→(os.set (i+k) (os.getD (i+k) 0+p.getD i 0*q.getD k 0)).getD n 0=pmS p q i (k+1) n:=by
 intro n hn;by_cases he:n=i+k
 ·subst he;rw [show (os.set (i+k) (os.getD (i+k) 0+p.getD i 0*q.getD k 0)).getD (i+k) 0=os.getD (i+k) 0+p.getD i 0*q.getD k 0 by simp [hl,hj],h _ hn,wI]
 ·rw [show (os.set (i+k) (os.getD (i+k) 0+p.getD i 0*q.getD k 0)).getD n 0=os.getD n 0 by rw [nXd,List.getElem?_set_ne (Ne.symm he),←nXd],h _ hn,wJ he]
theorem tZ(ao bo:Option Addr)(n c m d:Nat)(ps qs:List Rat)(s:Nat)(w:World)(h:cD w ⟨ao,n,c⟩ ps)(k:cD w ⟨bo,m,d⟩ qs)(hn:n≤100)(hm:m≤100)(hz:SzL s ps)(kz:SzL s qs)(hs:s≤1000000)(hnm:n*m*(2*s+1)≤100010000) :
  au 13 [.slice ao n c,.slice bo m d] w SH.v (fun s w'=>eL w.heap.size w' s (aI ps qs)):=by
 obtain ⟨i0,hi0,hz0,hz1,hz2⟩:=info_parts k9;have H:=Hi h;have K:=Hi k;have HX:=Hi (Ext.refl w);have Hn:=Hi h.len;have Hm:=Hi k.len;simp only at Hn Hm;have HZ:=Hi hz;have KZ:=Hi kz;have Hnm:=Hi hnm;clear h k hz kz hnm;unfold au;go_enter Tryz.func13,Tryz.ntmps13
 go_wp2_with fail
 refine cM (bJ ao n c ps _ H.out zo) fun x1 w1 hE G1=>?_
 replace HX:=hE.tr HX;have hs_w1:=hE.size
 go_wp2_with fail
 refine cM (bJ bo m d qs _ (K.out.ext HX.out) zo) fun x2 w2 hE G2=>?_
 refine mV2 hE ?_ G1 HX;clear G1 HX;intro G1 HX;have hs_w2:=hE.size;obtain ⟨pa,P,pc⟩:=x1;obtain ⟨qa,Q,qc⟩:=x2;simp only [SH.v];have hP:=G1.out.len;have hQ:=G2.out.len;have hp1:=LIn.can G1.out |>.le
 have hp2:=LIn.can G1.out |>.max
 have hq1:=LIn.can G2.out |>.le
 have hq2:=LIn.can G2.out |>.max
 have hPn:=ah ps;have hQn:=ah qs;rw [Hn.out] at hPn;rw [Hm.out] at hQn;simp only at hP hQ hp1 hp2 hq1 hq2;rw [hP] at hPn;rw [hQ] at hQn;have HPl:=Hi hP;have HQl:=Hi hQ;have HPz:=Hi HZ.out.tz;have HQz:=Hi KZ.out.tz;have HV:Hid (aI ps qs=tz ((List.range (P+Q-1)).map (Stab.ap (tz ps) (Stab.seq (tz qs))))):=Hi (by unfold aI;rw [hP,hQ]);clear hP hQ;by_cases hP0:P=0
 ·subst hP0;have hv:aI ps qs=[]:=qE (Or.inl (nXj.1 HPl.out));go_wp2
  go_ret
  exact ⟨⟨none,0,0⟩,rfl,HX.out,by rw [hv];exact eL.nil _ _⟩
 have hPb:((P:Int) == 0)=false:=by rw [nXs];omega
 by_cases hQ0:Q=0
 ·subst hQ0;have hv:aI ps qs=[]:=qE (Or.inr (nXj.1 HQl.out));go_wp2
  go_ret
  exact ⟨⟨none,0,0⟩,rfl,HX.out,by rw [hv];exact eL.nil _ _⟩
 have hQb:((Q:Int) == 0)=false:=by rw [nXs];omega
 obtain ⟨p,hp⟩:∃ p,p=tz ps:=⟨_,rfl⟩;obtain ⟨q,hq⟩:∃ q,q=tz qs:=⟨_,rfl⟩;rw [←hp] at HPl HPz HV G1;rw [←hq] at HQl HQz HV G2;clear hp hq;obtain ⟨M,hM⟩:∃ M,P+Q=M+1:=⟨P+Q-1,zo⟩;rw [show P+Q-1=M by omega] at HV;have hMi:(P:Int)+Q-1=M:=by omega
 have hwL:w.heap.size≤w2.heap.size:=zo;have HPL:=Hi (LIn.can G1.out);have HQL:=Hi (LIn.can G2.out)
 go_upto_region 5 with (refine aF rfl (.tmp 25) (.tmp 25) 24 rfl 34 i0 (RH.v default) 3 Tryz.underlying24 hi0 hz0 hz1 _ _ M rfl rfl zo zo (by rw [hz2];omega) zo ?_;intro w3 hnew hE)
 have HOB:=Hi (lB.start (RBk.make rfl hnew));have HX2:=Hi hE;clear hnew hE;obtain ⟨L,hL⟩:∃ L,L=w2.heap.size:=⟨_,rfl⟩;have hL2:w2.heap.size≤L:=zo;rw [←hL] at HOB ⊢;clear hL;obtain ⟨t,ht⟩:∃ t,t=2*s+1:=⟨_,rfl⟩;have Ht:=Hi ht;go_wp2
 go_loopg [29] P (fun g v wr=>∃ (i:Nat) (os:List Rat),i+g=P∧v=.int .i64 (i:Nat)∧Ext w2 wr∧lB wr L os (1+i*Q*t)∧os.length=M∧∀ n,n<M→os.getD n 0=pmS p q i 0 n)
 case atStart=>exact ⟨0,_,zo,rfl,HX2.out,by rw [Nat.zero_mul,Nat.zero_mul];exact HOB.out,by simp,fun n hn=>by rw [wG];simp [hn]⟩
 case round =>
  obtain ⟨i,os,hi,rfl,g1,g2,g3,g4⟩:=hrel;clear HX2 HOB;have HX2:=Hi g1;have HOB:=Hi g2;have HOl:=Hi g3;have HOv:=Hi g4;clear g1 g2 g3 g4;by_cases h0:gk=0
  ·subst h0;obtain rfl:i=P:=by omega
   have HXw:=Hi (HX.out.trans HX2.out);have hwr:=HX2.out.size
   go_wp2_with fail
   refine cM (bJ (some ⟨L,0,none⟩) M M os _ (HOB.out.raw HOl.out zo) zo) fun x3 w3 hE G3=>?_
   replace HXw:=hE.tr HXw;have hs_w3:=hE.size;have HOe:Hid (os=(List.range M).map (Stab.ap p (Stab.seq q))):=Hi (Di HOl.out (fun n hn=>by rw [HOv.out n hn,←HPl.out,zR]));go_wp2
   go_ret
   refine ⟨x3,rfl,HXw.out,?_⟩;rw [HV.out,←HOe.out];exact G3.out.mono zo
  ·obtain ⟨g0,rfl⟩:∃ g0,gk=g0+1:=⟨gk-1,zo⟩;go_wp2
   go_loopg [34] Q (fun g v wr=>∃ (k:Nat) (os:List Rat),k+g=Q∧v=.int .i64 (k:Nat)∧Ext w2 wr∧lB wr L os (1+(i*Q+k)*t)∧os.length=M∧∀ n,n<M→os.getD n 0=pmS p q i k n)
   case atStart=>exact ⟨0,os,zo,rfl,HX2.out,HOB.out,HOl.out,HOv.out⟩
   case round =>
    obtain ⟨k,os,hk,rfl,g1,g2,g3,g4⟩:=hrel;clear HX2 HOB HOl HOv;have HX2:=Hi g1;have HOB:=Hi g2;have HOl:=Hi g3;have HOv:=Hi g4;have hszr:=g1.size;clear g1 g2 g3 g4;by_cases h1:gk=0
    ·subst h1;obtain rfl:k=Q:=by omega
     have HOB':Hid (lB wr L os (1+(i+1)*k*t)):=Hi (by rw [nXy];exact HOB.out);go_wp2
     go_roundg g0
     case measure=>omega
     case rel=>exact ⟨i+1,os,zo,by go_num,HX2.out,HOB'.out,HOl.out,fun n hn=>by rw [wH HQl.out];exact HOv.out n hn⟩
    ·have hjM:i+k<M:=zo;have hiQ:(i+1)*Q≤n*m:=nXx zo zo;rw [nXy] at hiQ;have hNt:(i*Q+k+1)*t≤10000*10001:=nXf (nXh t (show i*Q+k+1≤n*m by omega)) (by rw [Ht.out];exact Hnm.out);have hst:(i*Q+k+1)*t=(i*Q+k)*t+t:=nXy _ _;have Hst:=Hi hst;have HNt:=Hi hNt;obtain ⟨ro,hro,hrr⟩:=HOB.out.cells (k:=i+k) (by rw [HOl.out];exact hjM);have hzo:=(let ⟨_,_,_,h3⟩:=HOB.out;h3:SzL _ os).at (i:=i+k) (by rw [HOl.out];exact hjM);obtain ⟨b,off,rp,hpa,hp3,hp4⟩:=(HPL.out.ext HX2.out).at (k:=i) zo;obtain ⟨b',off',rq,hqa,hq3,hq4⟩:=(HQL.out.ext HX2.out).at (k:=k) zo;have hbl:=RAt.lt hp3;have hbl':=RAt.lt hq3;have hLl:=HOB.out.lt;have hfr:∀ x,wr.frozen? ⟨L,x,none⟩=false:=let ⟨_,h1,_⟩:=HOB.out;h1.frozen;subst hpa hqa;obtain ⟨on,oa,ol,oc,ob,om,od⟩:=ro;obtain ⟨pn,pa,pl,pc',pb,pm,pd⟩:=rp;obtain ⟨qn,qa,ql,qc',qb,qm,qd⟩:=rq;obtain ⟨a1,a2,a3⟩:=hro;obtain ⟨a4,a5,a6⟩:=hp3;obtain ⟨a7,a8,a9⟩:=hq3;simp only at a1 a2 a3 a4 a5 a6 a7 a8 a9;obtain ⟨j,hj⟩:∃ j,j=i+k:=⟨_,rfl⟩;obtain ⟨v,hv⟩:∃ v,v=os.getD (i+k) 0:=⟨_,rfl⟩;rw [←hv] at hrr hzo;have hji:(i:Int)+k=j:=by omega
     rw [←hj] at a1 a2 a3 hjM;have Hj:=Hi hj;have Hv:=Hi hv;have RO:=Hi hrr;have RP:=Hi (hp4.raw (HPz.out.at (by rw [HPl.out];omega)) zo);have RQ:=Hi (hq4.raw (HQz.out.at (by rw [HQl.out];omega)) zo);have ZP:=Hi (HPz.out.at (i:=i) (by rw [HPl.out];omega));have ZQ:=Hi (HQz.out.at (i:=k) (by rw [HQl.out];omega));have ZO:=Hi hzo;clear hrr hp4 hq4 hzo hj hv hst hNt hiQ;have hiP:(i:Int)<P:=zo;have hkQ:(k:Int)<Q:=zo
     go_upto_region 11 with fail
     refine wpG 21 (fun opIx=>match opIx with
      | 18=>sR (p.getD i 0*q.getD k 0)
      | 19=>sR (v+p.getD i 0*q.getD k 0)
      | _=>.quiet) (fun|19=>[18]|_=>[]) fun w0 he0 hz0 hc0 hf0=>?_
     refine wps he0 (fun w1 hW hG=>?_) fun x18=>?_
     ·exact spc [RH.v ⟨pn,pa,pl,pc',pb,pm,pd⟩,RH.v ⟨qn,qa,ql,qc',qb,qm,qd⟩] Tryz.func48 (fV _ _ _ _ _ (RP.out.ext hW) (RQ.out.ext hW))
     refine qZ ?_;refine wps he0 (fun w1 hW hG=>?_) fun x19=>?_
     ·have g18:=gS (hG 18 dZ);exact spc [RH.v ⟨on,oa,ol,oc,ob,om,od⟩,x18.v] Tryz.func46 (kI _ x18 _ _ _ (RO.out.ext hW) (g18.raw (ZP.out.mul ZQ.out) zo))
     refine qZ ?_;refine aq ?_;intro w5 hI;have hE:=he0.out.trans hI.ext;have G18:=gT (hI.facts 18);have G19:=gT (hI.facts 19);clear hI he0 hz0 hc0 hf0;refine mV2 hE ?_ HX2 HOB;clear HX2 HOB;intro HX2 HOB;have hs_w5:=hE.size;simp only [pD];have hfr5:∀ x,w5.frozen? ⟨L,x,none⟩=false:=let ⟨_,h1,_⟩:=HOB.out;h1.frozen;have hLl5:=HOB.out.lt;obtain ⟨ro5,⟨e1,e2,e3⟩,-⟩:=HOB.out.cells (k:=j) (by rw [HOl.out];exact hjM);have ZS:Hid (Sz (1+(i*Q+(k+1))*t) (v+p.getD i 0*q.getD k 0)):=Hi ((ZO.out.add (ZP.out.mul ZQ.out)).mono (by have:=Hst.out;rw [show i*Q+(k+1)=i*Q+k+1 by omega];omega));have RS5:=Hi (G19.out.raw ZS.out (by have:=HNt.out;rw [show i*Q+(k+1)=i*Q+k+1 by omega];omega))
     go_upto_region 12 with fail
     refine BR (k:=j) (x:=x19) HOB.out (by rw [HOl.out];exact hjM) RS5.out ZS.out (by have:=Hst.out;rw [show i*Q+(k+1)=i*Q+k+1 by omega];omega) ?_;intro w6 hT hOB6;obtain ⟨cs,T⟩:=hT;have HOB6:=Hi hOB6;have HX6:=Hi (T.ext HX2.out zo);have HOv6:=Hi (wu HOl.out HOv.out (by rw [←Hj.out];exact hjM));rw [←Hv.out,←Hj.out] at HOv6;clear T hOB6;go_wp2
     go_roundg (gk-1)
     case measure=>omega
     case rel=>exact ⟨k+1,_,zo,by go_num,HX6.out,HOB6.out,by rw [nXo];exact HOl.out,HOv6.out⟩
theorem wX(ao bo:Option Addr)(n c m d:Nat)(ps qs:List Rat)(s:Nat)(w:World)(h:cD w ⟨ao,n,c⟩ ps)(k:cD w ⟨bo,m,d⟩ qs)(hn:n≤100)(hm:m≤100)(hz:SzL s ps)(kz:SzL s qs)(hs:s≤5000) :
  au 13 [.slice ao n c,.slice bo m d] w SH.v (fun s w'=>eL w.heap.size w' s (aI ps qs)):=tZ ao bo n c m d ps qs s w h k hn hm hz kz zo (nXx (nXx hn hm) (show 2*s+1≤10001 by omega))
theorem qF(ao bo:Option Addr)(n c m d:Nat)(ps qs:List Rat)(s:Nat)(w:World)(h:cD w ⟨ao,n,c⟩ ps)(k:cD w ⟨bo,m,d⟩ qs)(hn:n≤100)(hm:m≤100)(hz:SzL s ps)(kz:SzL s qs)(hs:s≤400) :
  au 13 [.slice ao n c,.slice bo m d] w SH.v (fun s w'=>eL w.heap.size w' s (aI ps qs)):=wX ao bo n c m d ps qs s w h k hn hm hz kz zo
theorem AZ{p q:List Rat}{n:Nat}(h:p.length+q.length≤n+1):Stab.ap p (Stab.seq q) n=0:=by
 rw [Stab.ap_sum,Stab.sm_congr (g:=fun _=>0) (fun i hi=>?_),Stab.sm_zero];have:Stab.shn i (Stab.seq q) n=0:=by
  unfold Stab.shn Stab.seq;split
  ·exact gF zo
  ·rfl
 rw [this];grind
theorem wW(ps qs:List Rat):Stab.seq (aI ps qs)=Stab.ap (tz ps) (Stab.seq (tz qs)):=by
 funext n
 unfold Stab.seq aI;rw [bp];rcases Nat.lt_or_ge n ((tz ps).length+(tz qs).length-1) with h|h
 ·rw [nXd,nXv,List.getElem?_range h];rfl
 ·rw [gF (by simpa using h)];exact (AZ zo).symm
theorem tY(ps qs:List Rat):tz (aI ps qs)=aI ps qs:=by unfold aI;exact aM _
end Go.Proofs.YtafgmcimcbhhjaaGreat
