import Derived.Test.YtafgmcimcbhhjaaGreatQFK20
import Derived.Deep.DeepCutAuto
import Derived.Deep.RegionWith
import Derived.Laws.EntriesVeiled
set_option linter.unusedVariables false
set_option maxHeartbeats 8000000
set_option maxRecDepth 100000
namespace Go.Proofs.YtafgmcimcbhhjaaGreat
open Go.RowKit Go.Front Go.Num Stab Sg
attribute [local go_sem] XW.cell XW.frozen
theorem FrK.spl{p:List Rat}{n:Nat}(hn:n≤9)(h:FrL 2 (16*12 ^ n) p)(hl:p.length≤12):FrK 2125764 (ak p):=by
 have h1:(ak p).length≤12:=by rw [ax];exact nXf (af p) hl
 have h2:3 ^ (ak p).length≤3 ^ 12:=nXp dZ h1;have h3:(3:Nat) ^ 12=531441:=by decide
 exact ⟨2,1,dZ,dZ,dZ,fun x hx=>Fr.one (cG (fun y hy=>h y (dA hy)) (Nat.mul_pos dZ (nYm dZ)) x hx),Or.inl zo⟩
theorem RoF.pok{p rl:List Rat}{b:Option Rat}(h:RoF p rl b)(hl:rl.length≤9)(P:Nat):PoK 2125764 P p:=by
 have h2:=h.len;have:=Bm b;exact ⟨h.tz,vj hl (h.fr hl) zo,pP h.fac h.sx h.tw hl,AE _ _ rl b (h.fac.spl h.ne) h.sx h.tw hl (FrK.spl hl (h.fr hl) zo)⟩
theorem yS(z:Int)(h:z.natAbs≤1):Tw (z:Rat):=⟨z*12,by rw [Rat.intCast_mul];rfl,zo⟩
abbrev q4:List Rat:=[((0:Int):Rat),((-1:Int):Rat),((0:Int):Rat),((1:Int):Rat)]
abbrev q3:List Rat:=[((1:Int):Rat),((-2:Int):Rat),((1:Int):Rat)]
theorem zh:RoF q4 [((0:Int):Rat),((1:Int):Rat),((-1:Int):Rat)] none:=by
 refine ⟨⟨1,dZ,dZ,fun x=>?_⟩,fun c e=>(by cases e),fun a ha=>?_,by decide +kernel⟩
 ·have e:=yK;show ((((0*x+((1:Int):Rat))*x+((0:Int):Rat))*x+((-1:Int):Rat))*x+((0:Int):Rat):Rat)=((1:Int):Rat)*((x-((0:Int):Rat))*((x-((1:Int):Rat))*((x-((-1:Int):Rat))*1))*1);have e0:((0:Int):Rat)=0:=rfl;have e1:((1:Int):Rat)=1:=rfl;have e2:((-1:Int):Rat)=-1:=rfl;rw [e0,e1,e2];grind
 ·simp only [List.mem_cons,List.not_mem_nil,or_false] at ha;rcases ha with rfl|rfl|rfl <;> exact yS _ dZ
theorem Cq:RoF q3 [((1:Int):Rat),((1:Int):Rat)] none:=by
 refine ⟨⟨1,dZ,dZ,fun x=>?_⟩,fun c e=>(by cases e),fun a ha=>?_,by decide +kernel⟩
 ·show (((0*x+((1:Int):Rat))*x+((-2:Int):Rat))*x+((1:Int):Rat):Rat)=((1:Int):Rat)*((x-((1:Int):Rat))*((x-((1:Int):Rat))*1)*1);have e1:((1:Int):Rat)=1:=rfl;have e2:((-2:Int):Rat)=-2:=rfl;rw [e1,e2];grind
 ·simp only [List.mem_cons,List.not_mem_nil,or_false] at ha;rcases ha with rfl|rfl <;> exact yS _ dZ
theorem Et:cntV q4 (loV (loV ((-1:Int):Rat) ((1:Int):Rat)) (hiV ((-1:Int):Rat) ((1:Int):Rat))) (hiV (loV ((-1:Int):Rat) ((1:Int):Rat)) (hiV ((-1:Int):Rat) ((1:Int):Rat)))=3:=by decide +kernel
theorem Er:dX q3 (loV (loV ((0:Int):Rat) ((2:Int):Rat)) (hiV ((0:Int):Rat) ((2:Int):Rat))) (hiV (loV ((0:Int):Rat) ((2:Int):Rat)) (hiV ((0:Int):Rat) ((2:Int):Rat)))=true:=by decide +kernel
theorem Ep:posV q3 (loV (loV ((0:Int):Rat) ((2:Int):Rat)) (hiV ((0:Int):Rat) ((2:Int):Rat))) (hiV (loV ((0:Int):Rat) ((2:Int):Rat)) (hiV ((0:Int):Rat) ((2:Int):Rat)))=false:=by decide +kernel
theorem Af(w:World):ar 67 [] w IvV (fun x w'=>aB w' x.1 (loV ((-1:Int):Rat) ((1:Int):Rat))∧aB w' x.2 (hiV ((-1:Int):Rat) ((1:Int):Rat))):=by
 have HX:=Hi (Ext.refl w);unfold ar;go_enter Tryz.func67,Tryz.ntmps67
 go_upto_region 1 with fail
 refine nmA ?_;intro w0 hE B0 hz_w0 hr_w0;replace HX:=hE.tr HX;have hs_w0:=hE.size;replace b_B0:=bX3 B0
 go_wp2_with fail
 refine cM (aO (-1) _ dZ dZ) fun x1 w1 hE G1=>?_
 refine mV2 hE ?_ B0 HX;clear B0 HX;intro B0 HX;have hs_w1:=hE.size;replace b_B0:=bX3 B0
 go_wp2_with fail
 refine cM (aO 1 _ dZ dZ) fun x2 w2 hE G2=>?_
 refine mV3 hE ?_ G1 B0 HX;clear G1 B0 HX;intro G1 B0 HX;have hs_w2:=hE.size;replace b_B0:=bX3 B0
 go_wp2_with fail
 refine cM (fK x1 x2 _ _ _ (G1.out.raw (Sz.int dZ) dZ) (G2.out.raw (Sz.int dZ) dZ)) fun x3 w3 hE G3=>?_
 refine mV4 hE ?_ G2 G1 B0 HX;clear G2 G1 B0 HX;intro G2 G1 B0 HX;have hs_w3:=hE.size;replace b_B0:=bX3 B0;have HL:=Hi G3.out.1;have HH:=Hi G3.out.2;clear G3;go_wp2;refine cz (F:=fun W=>bodyPost _ _ _ _ _ W) B0.out rfl ?_;intro w10 T;replace HX:=Hi (T.ext HX.out zo);replace B0:=Hi (T.bx);replace G1:=Hi (G1.out.keep T.keep);replace G2:=Hi (G2.out.keep T.keep);replace HL:=Hi (HL.out.keep T.keep);replace HH:=Hi (HH.out.keep T.keep);have hs_w10:=nle T.size;have hr_w10:=nle T.size.symm;clear T;replace b_B0:=bX3 B0;exact nXa (v:=IvV x3) (by simp [results,Tryz.results67,go_sem,b_B0.1]) rfl ⟨x3,rfl,HX.out,HL.out,HH.out⟩
theorem ig(w:World):ar 21 [] w (fun _:Unit=>.bool true) (fun _ _=>True):=by
 have HX:=Hi (Ext.refl w);have Z0:Hid (Sz 1 ((0:Int):Rat)):=Hi (Sz.int dZ);have Z1:Hid (Sz 1 ((1:Int):Rat)):=Hi (Sz.int dZ);have Z2:Hid (Sz 1 ((2:Int):Rat)):=Hi (Sz.int dZ);have ZM:Hid (Sz 1 ((-1:Int):Rat)):=Hi (Sz.int dZ);have Q4:=Hi (zh.pok dZ 4);have Q3:=Hi (Cq.pok dZ 3);have N4:=Hi zh.ne;unfold ar;go_enter Tryz.func21,Tryz.ntmps21
 go_wp2_with fail
 refine cM (aO 0 _ dZ dZ) fun x9 w9 hE G9=>?_
 replace HX:=hE.tr HX;have hs_w9:=hE.size
 go_wp2_with fail
 refine cM (aO (-1) _ dZ dZ) fun x10 w10 hE G10=>?_
 refine mV2 hE ?_ G9 HX;clear G9 HX;intro G9 HX;have hs_w10:=hE.size
 go_wp2_with fail
 refine cM (aO 0 _ dZ dZ) fun x11 w11 hE G11=>?_
 refine mV3 hE ?_ G10 G9 HX;clear G10 G9 HX;intro G10 G9 HX;have hs_w11:=hE.size
 go_wp2_with fail
 refine cM (aO 1 _ dZ dZ) fun x12 w12 hE G12=>?_
 refine mV4 hE ?_ G11 G10 G9 HX;clear G11 G10 G9 HX;intro G11 G10 G9 HX;have hs_w12:=hE.size
 go_wp2_with fail
 refine nmA (F:=fun W=>Calls _ _ _ W _) ?_;intro w13 hE B13 hz_w13 hr_w13;refine mV5 hE ?_ G12 G11 G10 G9 HX;clear G12 G11 G10 G9 HX;intro G12 G11 G10 G9 HX;have hs_w13:=hE.size;replace b_B13:=bX3 B13
 change Calls _ _ _ _ _
 have L4:Hid (bB w13 ⟨some ⟨w12.heap.size,0,none⟩,4,4⟩ q4):=Hi (Dd B13.out G9.out G10.out G11.out G12.out)
 (try clear b_B13);(try clear B13)
 clear G9;clear G10;clear G11;clear G12;refine cM (Af _) fun x14 w14 hE G14=>?_
 refine mV2 hE ?_ HX L4;clear HX L4;intro HX L4;have hs_w14:=hE.size;obtain ⟨xl,xh⟩:=x14;have HL:=Hi G14.out.1;have HH:=Hi G14.out.2;clear G14;have ZL:Hid (Sz 1 (loV ((-1:Int):Rat) ((1:Int):Rat))):=Hi ((lC _ _).elim (fun e=>by rw [e];exact ZM.out) (fun e=>by rw [e];exact Z1.out));have ZH:Hid (Sz 1 (hiV ((-1:Int):Rat) ((1:Int):Rat))):=Hi ((lJ _ _).elim (fun e=>by rw [e];exact ZM.out) (fun e=>by rw [e];exact Z1.out))
 go_wp2_with fail
 refine cM (mu _ 4 4 q4 2125764 xl xh _ _ 1 _ L4.out dZ N4.out Q4.out.fr dZ dZ Q4.out.sq (HL.out.raw ZL.out dZ) (HH.out.raw ZH.out dZ) ZL.out ZH.out dZ dZ) fun x15 w15 hE _=>?_
 refine mV2 hE ?_ HX L4;clear HX L4;intro HX L4;have hs_w15:=hE.size;rw [Et];clear HL HH ZL ZH;clear L4
 go_wp2_with fail
 refine cM (aO 1 _ dZ dZ) fun x18 w18 hE G18=>?_
 replace HX:=hE.tr HX;have hs_w18:=hE.size
 go_wp2_with fail
 refine cM (aO (-2) _ dZ dZ) fun x19 w19 hE G19=>?_
 refine mV2 hE ?_ G18 HX;clear G18 HX;intro G18 HX;have hs_w19:=hE.size
 go_wp2_with fail
 refine cM (aO 1 _ dZ dZ) fun x20 w20 hE G20=>?_
 refine mV3 hE ?_ G19 G18 HX;clear G19 G18 HX;intro G19 G18 HX;have hs_w20:=hE.size
 go_upto_region 3 with fail
 refine nmA ?_;intro w21 hE B21 hz_w21 hr_w21;refine mV4 hE ?_ G20 G19 G18 HX;clear G20 G19 G18 HX;intro G20 G19 G18 HX;have hs_w21:=hE.size;replace b_B21:=bX3 B21;have L3:Hid (bB w21 ⟨some ⟨w20.heap.size,0,none⟩,3,3⟩ q3):=Hi (zV B21.out G18.out G19.out G20.out)
 (try clear b_B21);(try clear B21)
 clear G18;clear G19;clear G20;have ZL:Hid (Sz 1 (loV ((0:Int):Rat) ((2:Int):Rat))):=Hi ((lC _ _).elim (fun e=>by rw [e];exact Z0.out) (fun e=>by rw [e];exact Z2.out));have ZH:Hid (Sz 1 (hiV ((0:Int):Rat) ((2:Int):Rat))):=Hi ((lJ _ _).elim (fun e=>by rw [e];exact Z0.out) (fun e=>by rw [e];exact Z2.out))
 go_wp2_with fail
 refine cM (aO 0 _ dZ dZ) fun x24 w24 hE G24=>?_
 refine mV2 hE ?_ HX L3;clear HX L3;intro HX L3;have hs_w24:=hE.size
 go_wp2_with fail
 refine cM (aO 2 _ dZ dZ) fun x25 w25 hE G25=>?_
 refine mV3 hE ?_ G24 HX L3;clear G24 HX L3;intro G24 HX L3;have hs_w25:=hE.size
 go_wp2_with fail
 refine cM (fK x24 x25 _ _ _ (G24.out.raw Z0.out dZ) (G25.out.raw Z2.out dZ)) fun x26 w26 hE G26=>?_
 refine mV4 hE ?_ G25 G24 HX L3;clear G25 G24 HX L3;intro G25 G24 HX L3;have hs_w26:=hE.size;obtain ⟨xl2,xh2⟩:=x26;have HL:=Hi G26.out.1;have HH:=Hi G26.out.2;clear G26
 go_wp2_with fail
 refine cM (wP _ 3 3 q3 2125764 xl2 xh2 _ _ 1 _ L3.out dZ Q3.out dZ dZ (HL.out.raw ZL.out dZ) (HH.out.raw ZH.out dZ) ZL.out ZH.out dZ dZ) fun x27 w27 hE _=>?_
 refine mV4 hE ?_ G25 G24 HX L3;clear G25 G24 HX L3;intro G25 G24 HX L3;have hs_w27:=hE.size;rw [Er];clear HL HH
 go_wp2_with fail
 refine cM (aO 0 _ dZ dZ) fun x32 w32 hE G32=>?_
 refine mV4 hE ?_ G25 G24 HX L3;clear G25 G24 HX L3;intro G25 G24 HX L3;have hs_w32:=hE.size
 go_wp2_with fail
 refine cM (aO 2 _ dZ dZ) fun x33 w33 hE G33=>?_
 refine mV5 hE ?_ G32 G25 G24 HX L3;clear G32 G25 G24 HX L3;intro G32 G25 G24 HX L3;have hs_w33:=hE.size
 go_wp2_with fail
 refine cM (fK x32 x33 _ _ _ (G32.out.raw Z0.out dZ) (G33.out.raw Z2.out dZ)) fun x34 w34 hE G34=>?_
 refine mV6 hE ?_ G33 G32 G25 G24 HX L3;clear G33 G32 G25 G24 HX L3;intro G33 G32 G25 G24 HX L3;have hs_w34:=hE.size;obtain ⟨xl3,xh3⟩:=x34;have HL:=Hi G34.out.1;have HH:=Hi G34.out.2;clear G34
 go_wp2_with fail
 refine cM (wL _ 3 3 q3 2125764 xl3 xh3 _ _ 1 _ L3.out dZ Q3.out dZ dZ (HL.out.raw ZL.out dZ) (HH.out.raw ZH.out dZ) ZL.out ZH.out dZ dZ) fun x35 w35 hE _=>?_
 refine mV6 hE ?_ G33 G32 G25 G24 HX L3;clear G33 G32 G25 G24 HX L3;intro G33 G32 G25 G24 HX L3;have hs_w35:=hE.size;rw [Ep];clear HL HH;go_wp2
 go_ret
 exact ⟨(),rfl,HX.out,trivial⟩
end Go.Proofs.YtafgmcimcbhhjaaGreat
/- Bernstein coefficients and the algorithm of de Casteljau. Plain facts. -/
namespace Go.Proofs.YtafgmcimcbhhjaaGreat
open Go.RowKit Go.Front Go.Num Stab
def row(n:Nat)(f:Nat→Rat):List Rat:=(List.range n).map f
def cs(t:Rat)(b:Nat→Rat)(i:Nat):Rat:=(1-t)*b i+t*b (i+1)
def csn:Nat→Rat→(Nat→Rat)→Nat→Rat
 | 0,_,b=>b
 | n+1,t,b=>csn n t (cs t b)
def vl(n:Nat)(b:Nat→Rat)(t:Rat):Rat:=csn n t b 0
def hf:Rat:=((1:Int):Rat) / ((2:Int):Rat)
theorem hf2:hf+hf=1:=by decide +kernel
def lfb(b:Nat→Rat)(j:Nat):Rat:=csn j hf b 0
def up(c:Rat)(u:Nat→Rat)(k:Nat):Rat:=u k+c*u (k+1)
def upn:Nat→Rat→(Nat→Rat)→Nat→Rat
 | 0,_,u=>u
 | n+1,c,u=>upn n c (up c u)
def bt(u:Nat→Rat)(i:Nat):Rat:=upn i 1 u 0
def ch:Nat→Nat→Nat
 | _,0=>1
 | 0,_+1=>0
 | n+1,k+1=>ch n k+ch n (k+1)
def hq(p:List Rat)(a w:Rat):Nat→Nat→Rat
 | 0,_=>0
 | j+1,0=>hq p a w j 0*a+p.getD (p.length-1-j) 0
 | j+1,k+1=>hq p a w j (k+1)*a+hq p a w j k*w
def fc:Nat→Nat
 | 0=>1
 | n+1=>fc n*(n+1)
def hc(p:List Rat)(a w F G:Rat)(j k:Nat):Rat:=F*G ^ (j-1)*hq p a w j k
def hlL(l:List Rat):List Rat:=row l.length (fun j=>(2:Rat) ^ (l.length-1)*lfb (fun i=>l.getD i 0) j)
attribute [local go_sem] XW.cell XW.frozen
def hc1(h h':Nat→Rat)(j k0 x:Nat):Rat:=if k0<x∧x≤j then h' x else h x
theorem Ds(w:World)(a:Option Addr)(n c:Nat):(binOp .eql 23 (.slice a n c) (.slice none 0 0)).run Tryz.prog w=.ok (.bool a.isNone) w:=by
 have h:∀ d:Nat,(Op.equalIn (d+1) 23 (.slice a n c) (.slice none 0 0)).run Tryz.prog w=.ok a.isNone w:=fun d=>by
  cases a <;> simp [Op.equalIn,run_underlying Tryz.underlying23]
 simp only [binOp];simp [Op.equal,Op.maxDepth,h]
attribute [local go_sem] Ds
abbrev HT(x:SH×SH):Value:=.tuple #[x.1.v,x.2.v]
theorem CD{T:Nat}{a b:Rat}(za:Sz T a)(zb:Sz T b):Sz T (loV a b):=by rcases lC a b with e|e <;> rw [e] <;> assumption
theorem CI{T:Nat}{a b:Rat}(za:Sz T a)(zb:Sz T b):Sz T (hiV a b):=by rcases lJ a b with e|e <;> rw [e] <;> assumption
set_option maxRecDepth 4000
def SmD(k:Nat)(rs:List RH):Prop:=∀ r ∈ rs,r.n≤k∧r.m≤k
def sm4(n m:Nat):Bool:=decide (n≤4∧m≤4)
theorem gu(s:RH)(w:World):ar 20 [s.v] w (fun _:Unit=>.bool (sm4 s.n s.m)) (fun _ _=>True):=by
 obtain ⟨neg,ao,n,c,bo,m,d⟩:=s;have HX:=Hi (Ext.refl w);unfold ar;by_cases h1:n≤4
 ·have h1i:(n:Int)≤4:=zo;by_cases h2:m≤4
  ·have h2i:(m:Int)≤4:=zo;have hv:Hid (sm4 n m=true):=Hi (decide_eq_true ⟨h1,h2⟩);go_enter Tryz.func20,Tryz.ntmps20
   go_upto_region 1 with fail
   refine nmA ?_;intro w1 hE B1 hz_w1 hr_w1;replace HX:=hE.tr HX;have hs_w1:=hE.size;replace b_B1:=bX3 B1;go_wp2
   go_ret
   exact ⟨(),by rw [hv.out];rfl,HX.out,trivial⟩
  ·have h2i:¬ (m:Int)≤4:=zo;have hv:Hid (sm4 n m=false):=Hi (decide_eq_false (fun h=>h2 h.2));go_enter Tryz.func20,Tryz.ntmps20
   go_upto_region 1 with fail
   refine nmA ?_;intro w1 hE B1 hz_w1 hr_w1;replace HX:=hE.tr HX;have hs_w1:=hE.size;replace b_B1:=bX3 B1;go_wp2
   go_ret
   exact ⟨(),by rw [hv.out];rfl,HX.out,trivial⟩
 ·have h1i:¬ (n:Int)≤4:=zo;have hv:Hid (sm4 n m=false):=Hi (decide_eq_false (fun h=>h1 h.1));go_enter Tryz.func20,Tryz.ntmps20
  go_upto_region 1 with fail
  refine nmA ?_;intro w1 hE B1 hz_w1 hr_w1;replace HX:=hE.tr HX;have hs_w1:=hE.size;replace b_B1:=bX3 B1;go_wp2
  go_ret
  exact ⟨(),by rw [hv.out];rfl,HX.out,trivial⟩
theorem SmD.take_succ{k j:Nat}{rs:List RH}(h:SmD k (rs.take j))(hj:j<rs.length)(hr:(rs.getD j default).n≤k∧(rs.getD j default).m≤k):SmD k (rs.take (j+1)):=by
 intro r hm;rw [List.take_succ_eq_append_getElem hj] at hm;rcases List.mem_append.1 hm with h1|h1
 ·exact h r h1
 ·obtain rfl:r=rs[j]:=by simpa using h1
  rw [show rs.getD j default=rs[j] by simp [hj]] at hr;exact hr
def Ex(n:Nat)(rs:List RH)(b:Bool):Prop:=b=true↔n≤8∧SmD 2 rs
theorem mZ(ao:Option Addr)(n cap:Nat)(rs:List RH)(w:World)(h:RS w ⟨ao,n,cap⟩ rs) :
  ar 18 [.slice ao n cap] w (fun b:Bool=>.bool b) (fun b _=>Ex n rs b):=by
 have H:=Hi h;have HX:=Hi (Ext.refl w);have hle:=h.le;have hmx:=h.max;have Hlen:=Hi h.len;simp only at hle hmx Hlen;clear h;unfold ar;by_cases h8:8<n
 case pos =>
  have h8i:(8:Int)<n:=zo;go_enter Tryz.func18,Tryz.ntmps18;go_wp2
  go_ret
  exact ⟨false,rfl,HX.out,⟨fun h=>(by cases h),fun h=>by omega⟩⟩
 go_enter Tryz.func18,Tryz.ntmps18;go_wp2
 go_loopg [10] n (fun g i wr=>∃ j:Nat,j+g=n∧i=.int .i64 (j:Nat)∧Ext w wr∧SmD 2 (rs.take j))
 case atStart=>exact ⟨0,zo,rfl,HX.out,fun r hr=>by simp at hr⟩
 case round =>
  obtain ⟨j,hj,rfl,g1,g2⟩:=hrel;clear HX;have HX:=Hi g1;have HS:=Hi g2;clear g1 g2;by_cases h0:gk=0
  case pos =>
   subst h0;obtain rfl:j=n:=by omega
   have HE:Hid (rs.take j=rs):=Hi (nXm (by rw [Hlen.out];exact nXe _));rw [HE.out] at HS;go_wp2
   go_ret
   exact ⟨true,rfl,HX.out,⟨fun _=>⟨zo,HS.out⟩,fun _=>rfl⟩⟩
  have hjn:(j:Int)<n:=zo;obtain ⟨b,off,hao,⟨hc1,hc2,hc3⟩⟩:=(H.out.ext HX.out).at (k:=j) zo;obtain ⟨r,hr⟩:∃ r,r=rs.getD j default:=⟨_,rfl⟩;rw [←hr] at hc1 hc2 hc3;have Hr:=Hi hr;obtain ⟨rneg,ra,rn,rc,rb,rm,rd⟩:=r;simp only at hc1 hc2 hc3;subst hao;have hbl:b<wr.heap.size:=nXq _ _ hc1;have hmem:Hid ((⟨rneg,ra,rn,rc,rb,rm,rd⟩:RH) ∈ rs):=Hi (by rw [hr,show rs.getD j default=rs[j]'(by rw [Hlen.out];omega) by simp [show j<rs.length by rw [Hlen.out];omega]];exact List.getElem_mem _);clear hr
  go_upto_region 6 with fail
  refine nmA ?_;intro y1 hE B4 hz_y1 hr_y1;replace HX:=hE.tr HX;have hs_y1:=hE.size;replace b_B4:=bX3 B4;clear hc1 hc2 hc3 hbl;by_cases h1:rn≤2
  ·have h1i:¬ (2:Int)<rn:=zo;by_cases h2:rm≤2
   ·have h2i:¬ (2:Int)<rm:=zo;have HS2:Hid (SmD 2 (rs.take (j+1))):=Hi (HS.out.take_succ (by rw [Hlen.out];omega) (by rw [←Hr.out];exact ⟨h1,h2⟩));go_wp2
    go_roundg (gk-1)
    case measure=>omega
    case rel=>exact ⟨j+1,zo,by go_num,HX.out,HS2.out⟩
   ·have h2i:(2:Int)<rm:=zo;go_wp2
    go_ret
    exact ⟨false,rfl,HX.out,⟨fun h=>(by cases h),fun h=>absurd (h.2 _ hmem.out).2 h2⟩⟩
  ·have h1i:(2:Int)<rn:=zo;go_wp2
   go_ret
   exact ⟨false,rfl,HX.out,⟨fun h=>(by cases h),fun h=>absurd (h.2 _ hmem.out).1 h1⟩⟩
def Cg(s t:RH):Bool:=sm4 s.n s.m && sm4 t.n t.m
set_option maxRecDepth 8000 in
theorem pj(s t:RH)(w:World):ar 19 [IvV (s,t)] w (fun _:Unit=>.bool (Cg s t)) (fun _ _=>True):=by
 have HX:=Hi (Ext.refl w);obtain ⟨sn,sa,sl,sc,sb,sm,sd⟩:=s;obtain ⟨tn,ta,tl,tc,tb,tm,td⟩:=t;have HV:Hid (Cg ⟨sn,sa,sl,sc,sb,sm,sd⟩ ⟨tn,ta,tl,tc,tb,tm,td⟩=(sm4 sl sm && sm4 tl tm)):=Hi rfl;unfold ar;go_enter Tryz.func19,Tryz.ntmps19
 go_upto_region 1 with fail
 refine nmA ?_;intro w1 hE B1 hz_w1 hr_w1;replace HX:=hE.tr HX;have hs_w1:=hE.size;replace b_B1:=bX3 B1
 go_wp2_with fail
 refine cM (gu ⟨sn,sa,sl,sc,sb,sm,sd⟩ _) fun x5 w5 hE _=>?_
 refine mV2 hE ?_ B1 HX;clear B1 HX;intro B1 HX;have hs_w5:=hE.size;replace b_B1:=bX3 B1;obtain ⟨r,hr⟩:∃ r,r=sm4 sl sm:=⟨_,rfl⟩;rw [←hr] at HV;rw [show sm4 (RH.n ⟨sn,sa,sl,sc,sb,sm,sd⟩) (RH.m ⟨sn,sa,sl,sc,sb,sm,sd⟩)=r from hr.symm];clear hr;cases r with
 | false =>
  go_wp2
  go_ret
  exact ⟨(),by rw [HV.out];rfl,HX.out,trivial⟩
 | true =>
 go_wp2_with fail
 refine cM (gu ⟨tn,ta,tl,tc,tb,tm,td⟩ _) fun x9 w9 hE _=>?_
 refine mV2 hE ?_ B1 HX;clear B1 HX;intro B1 HX;have hs_w9:=hE.size;replace b_B1:=bX3 B1;obtain ⟨r,hr⟩:∃ r,r=sm4 tl tm:=⟨_,rfl⟩;rw [←hr] at HV;rw [show sm4 (RH.n ⟨tn,ta,tl,tc,tb,tm,td⟩) (RH.m ⟨tn,ta,tl,tc,tb,tm,td⟩)=r from hr.symm];clear hr;go_wp2
 go_ret
 exact ⟨(),by rw [HV.out];rfl,HX.out,trivial⟩
def rX(b n:Nat)(ao:Option Addr)(c:Nat)(N:Int)(w:World)(e:Ending)(w':World):Prop :=
 ∃ (v at':Int) (w1:World),e=.returned (.int .i64 v)∧0≤v∧v<N∧0≤at'∧at'≤n∧fe w b 103 #[.slice ao n c,.int .i64 at'] w1∧Ext w1 w'
theorem fe.same{w w':World}{b:Nat}{T:TypeId}{cs:Array Value}(h:w.heap[b]?=some (.cells cs T (0,0))):fe w b T cs w :=
 ⟨fZ.refl w,h,fun _ _ _ h=>h,rfl,Below.refl _ _⟩
theorem fe.drewN{w w2:World}{b n:Nat}{T:TypeId}{cs:Array Value}(h:fe (w.drewN n) b T cs w2)(hb:b≤w.heap.size):fe w b T cs w2 :=
 ⟨fZ.trans (eK (Ext.drewN w n)) h.keep,h.bx,h.rest,h.size,Below.trans (Below.mono (Ext.drewN w n) hb) h.below⟩
theorem AJ{w1:World}{b:Nat}{T:TypeId}{c0 c1 v1:Value}{F:World→Prop}(hb:w1.heap[b]?=some (.cells #[c0,c1] T (0,0)))(hn:#[c0,c1].toList.all fY=true)(h:∀ w2,fe w1 b T #[c0,v1] w2→F w2):F (w1.setCell ⟨b,1,none⟩ v1) :=
 h _ (fe.of (nXb.1 hb).1 (ai hb hn) (bi.setCell w1 ⟨b,1,none⟩ v1) (by simp [World.setCell]) (aV hb 1 v1))
set_option maxRecDepth 4000 in
theorem xL(b n c:Nat)(ao:Option Addr)(xs:List Int)(at' N:Int)(w:World)(hB:w.heap[b]?=some (.cells #[.slice ao n c,.int .i64 at'] 103 (0,0)))(h:eQ w ao xs)(hr:InR xs)(hl:xs.length=n)(hm:n≤9223372036854775807)(hc:n≤c)(hcm:c≤9223372036854775807)
 (hsep:xs≠[]→∀ p,ao=some p→p.block≠b)(h0:0≤at')(h1:at'≤n)(hN:0<N)(hN2:N≤9223372036854775807) :
  Calls Tryz.prog 82 #[ptr b,.int .i64 N] w (rX b n ao c N w):=by
 obtain ⟨k,rfl⟩:∃ k:Nat,at'=(k:Nat):=⟨at'.toNat,zo⟩;have HX:=Hi (Ext.refl w);have BT:=Hi hB;have H:=Hi h;have hbl:b<w.heap.size:=(nXb.1 hB).1;clear hB h;simp only [ptr];go_enter Tryz.func82,Tryz.ntmps82;replace b_BT:=bX3 BT;by_cases hk:k=n
 ·subst hk
  go_upto_region 1 with fail
  go_quiet (fail)
  go_wp2
  go_ret
  exact ⟨0,(k:Int),w,rfl,zo,hN,zo,zo,fe.same (w':=w) BT.out,Ext.drewN w _⟩
 ·have hkn:(k:Int)<n:=zo;have hne:xs≠[]:=by intro h;rw [h] at hl;simp at hl;omega
  obtain ⟨bx,off,hao,hcell⟩:=H.out.at (k:=k) zo;have hbx:bx≠b:=hsep hne _ hao;obtain ⟨x,hx⟩:∃ x,x=xs.getD k 0:=⟨_,rfl⟩;have hxr:-9223372036854775808≤x∧x≤9223372036854775807:=by
   refine hr x ?_;rw [hx,show xs.getD k 0=xs[k]'zo by simp [show k<xs.length by omega]];exact List.getElem_mem _
  obtain ⟨hx1,hx2⟩:=hxr;rw [←hx] at hcell;subst hao;have hble:b≤w.heap.size:=zo;clear hx hsep hr H hne
  go_upto_region 1 with fail
  go_quiet (fail)
  go_upto_region 4 with fail
  refine AJ BT.out rfl ?_;intro w2 T;have T0:=Hi T;replace hcell:=T.cell hbx hcell;have hbl2:bx<w2.heap.size:=nXq _ _ hcell;clear b_BT hbl;replace BT:=Hi T.bx;clear T;have E2:=Hi (Ext.refl w2);replace b_BT:=bX3 BT;refine ah 13 (fun opIx=>match opIx with
   | 12=>sU (.int .i64 (x % N))
   | _=>.quiet) (fun _=>[]) kZ kZ (fun w0 he0 hz0 hc0 hf0=>?_)
  replace he0:=Hi he0;simp only [pT]
  repeat (first|(refine wpq fun K h=>?_;go_big_quiet_op;refine h _ ?_;clear h K)|(refine jV rfl rfl rfl rfl ?_;simp only [pS]))
  refine wps he0 (fun w1 hW hG=>?_) fun x12=>?_
  ·exact spc [.int .i64 x,.int .i64 N] Tryz.func47 (uH x N _ hx1 hx2 hN hN2)
  simp only [pS]
  repeat (first|(refine wpq fun K h=>?_;go_big_quiet_op;refine h _ ?_;clear h K)|(refine jV rfl rfl rfl rfl ?_;simp only [pS]))
  refine am ?_;intro w3 hI;have hE:=he0.out.trans hI.ext;clear hI he0 hz0 hc0 hf0;refine mV2 hE ?_ BT E2;clear BT E2;intro BT E2;have hs_w3:=hE.size;replace b_BT:=bX3 BT;simp only [pD];have hm1:=Int.emod_nonneg x (show N≠0 by omega);have hm2:=Int.emod_lt_of_pos x hN;go_wp2
  go_ret
  exact ⟨x % N,(k:Int)+1,w2,rfl,hm1,hm2,zo,zo,T0.out.drewN hble,E2.out⟩
end Go.Proofs.YtafgmcimcbhhjaaGreat
