import Derived.Test.YtkcpmclnocmalaaGreatQMM5
set_option linter.unusedVariables false
set_option maxRecDepth 1000000
set_option maxHeartbeats 4000000
namespace Go.Proofs.YtkcpmclnocmalaaGreat
open Go.RowKit Go.Front Go.Num
attribute [local go_sem] XW.cell XW.frozen
theorem Cq(U V N m2 L Qb ql cap vb vc:Nat)(s9:Value)(re:Array Value)(w:World)(vs:List Nat)(hv:U32 w (some ⟨vb,0,none⟩) (m2+2) vc vs)(hvv:val vs=V)(hV:V<W32 ^ (m2+2))(hLQ:L≠Qb)(hvL:vb≠L)(hvQ:vb≠Qb)(htop:2147483648≤vs.getD (m2+1) 0)(hm:m2+2≤N)(hN:N≤2147483648)(hql:ql=N-(m2+2)+1)(n0:Nat)(a0:Act)(w0:World)(Q:Exit→Act→World→Prop)
 (h0:DMI U V N (m2+2) L Qb ql cap vb vc s9 re w n0 a0 w0)(hx:∀ a' w',DMI U V N (m2+2) L Qb ql cap vb vc s9 re w 0 a' w'→Q (.exit 2) a' w'):Code.wp Tryz.prog (Code.loop AL) Q a0 w0:=by
 subst hql;refine wp_loop_ghost_k (fun n a w'=>DMI U V N (m2+2) L Qb (N-(m2+2)+1) cap vb vc s9 re w n a w') n0 h0 ?_;intro n a w' h J K hJ hKK;unfold DMI at h;obtain ⟨x0,x1,x2,x3,x4,x5,x6,x7,h⟩:=h;obtain ⟨x8,x15,x16,x17,x18,x19,x20,x21,h⟩:=h;obtain ⟨x22,x23,x24,x25,x26,x27,x28,x29,h⟩:=h;obtain ⟨x30,x31,x32,x33,x34,x35,x36,x37,h⟩:=h;obtain ⟨x38,x39,x40,x41,x42,x43,x44,x45,h⟩:=h;obtain ⟨x46,x47,x48,x49,x50,x51,x52,x53,h⟩:=h;obtain ⟨x54,x55,x56,x57,x58,x59,x60,x61,h⟩:=h;obtain ⟨x62,x63,x64,x65,x66,x67,x68,x69,h⟩:=h;obtain ⟨x70,x71,x72,x73,x74,x75,x76,x77,h⟩:=h;obtain ⟨x78,x79,x80,x81,x82,x83,x84,x85,h⟩:=h;obtain ⟨x86,x87,x88,x89,x90,x91,x92,x93,h⟩:=h;obtain ⟨x94,x95,x96,x97,x98,x99,x100,x101,h⟩:=h;obtain ⟨x102,x103,x104,x105,x106,x107,x108,x109,h⟩:=h;obtain ⟨x110,x111,x112,x113,x114,x115,x116,x117,h⟩:=h;obtain ⟨x118,x119,x120,x121,x122,x123,x124,x125,h⟩:=h;obtain ⟨x126,x127,x128,x129,x130,x131,x132,x133,h⟩:=h;obtain ⟨x134,x135,x136,x137,x138,x139,x140,x141,h⟩:=h;obtain ⟨x142,x143,x144,x145,x146,x147,x148,x149,h⟩:=h;obtain ⟨x150,x151,x152,x153,x154,x155,x156,x157,h⟩:=h;obtain ⟨x158,x159,x160,x161,x162,x163,x164,x165,h⟩:=h;obtain ⟨x166,x167,x168,x169,x170,x171,x172,x173,h⟩:=h;obtain ⟨x174,x175,x176,x177,x178,x179,x180,x181,h⟩:=h;obtain ⟨x182,x183,x184,x185,x186,x187,x188,x189,h⟩:=h;obtain ⟨x190,x191,x192,x193,x194,x195,x196,x197,h⟩:=h;obtain ⟨x198,x199,x200,x201,x202,x203,x204,x205,h⟩:=h;obtain ⟨x206,x207,x208,x209,x210,x211,x212,x213,h⟩:=h;obtain ⟨x214,x215,x216,x217,x218,x219,x220,x221,h⟩:=h;obtain ⟨x222,x223,x224,x225,x226,x227,x228,x229,h⟩:=h;obtain ⟨x230,x231,x232,x233,x234,x235,x236,x237,h⟩:=h;obtain ⟨x238,x239,x240,x241,x242,x243,x244,x245,h⟩:=h;obtain ⟨x246,x247,x248,x249,x250,x251,x252,x253,h⟩:=h;obtain ⟨x254,x255,x256,x257,x258,x259,x260,x261,h⟩:=h;obtain ⟨x262,x263,x264,x265,x266,x267,x268,x269,h⟩:=h;obtain ⟨x270,x271,x272,x273,x274,x275,x276,x277,h⟩:=h;obtain ⟨x278,x279,x280,x281,x282,x283,x284,h⟩:=h;obtain ⟨⟨hn,hD⟩,rfl⟩:=h;cases n with
 | zero =>
  have HD:=Hi hD;clear hD hJ hKK
  conv=>arg 2;whnf
  go_wp2;unfold DMI;refine ⟨_,_,_,_,_,_,_,_,_,_,_,_,_,_,_,_,_,_,_,_,_,_,_,_,_,_,_,_,_,_,_,_,_,_,_,_,_,_,_,_,_,_,_,_,_,_,_,_,_,_,_,_,_,_,_,_,_,_,_,_,_,_,_,_,_,_,_,_,_,_,_,_,_,_,_,_,_,_,_,_,_,_,_,_,_,_,_,_,_,_,_,_,_,_,_,_,_,_,_,_,_,_,_,_,_,_,_,_,_,_,_,_,_,_,_,_,_,_,_,_,_,_,_,_,_,_,_,_,_,_,_,_,_,_,_,_,_,_,_,_,_,_,_,_,_,_,_,_,_,_,_,_,_,_,_,_,_,_,_,_,_,_,_,_,_,_,_,_,_,_,_,_,_,_,_,_,_,_,_,_,_,_,_,_,_,_,_,_,_,_,_,_,_,_,_,_,_,_,_,_,_,_,_,_,_,_,_,_,_,_,_,_,_,_,_,_,_,_,_,_,_,_,_,_,_,_,_,_,_,_,_,_,_,_,_,_,_,_,_,_,_,_,_,_,_,_,_,_,_,_,_,_,_,_,_,_,_,_,_,_,_,_,_,_,_,_,_,_,_,_,_,_,_,_,_,_,_,_,_,⟨zo,HD.out⟩,rfl⟩
 | succ g1 =>
  rw [show ((g1+1:Nat):Int)-1=(g1:Int) by omega];exact Co U V N m2 L Qb (N-(m2+2)+1) cap vb vc s9 re w vs hv hvv hV hLQ hvL hvQ htop hm hN rfl g1 zo x0 x1 x2 x3 x4 x5 x6 x7 x8 x15 x16 x17 x18 x19 x20 x21 x22 x23 x24 x25 x26 x27 x28 x29 x30 x31 x32 x33 x34 x35 x36 x37 x38 x39 x40 x41 x42 x43 x44 x45 x46 x47 x48 x49 x50 x51 x52 x53 x54 x55 x56 x57 x58 x59 x60 x61 x62 x63 x64 x65 x66 x67 x68 x69 x70 x71 x72 x73 x74 x75 x76 x77 x78 x79 x80 x81 x82 x83 x84 x85 x86 x87 x88 x89 x90 x91 x92 x93 x94 x95 x96 x97 x98 x99 x100 x101 x102 x103 x104 x105 x106 x107 x108 x109 x110 x111 x112 x113 x114 x115 x116 x117 x118 x119 x120 x121 x122 x123 x124 x125 x126 x127 x128 x129 x130 x131 x132 x133 x134 x135 x136 x137 x138 x139 x140 x141 x142 x143 x144 x145 x146 x147 x148 x149 x150 x151 x152 x153 x154 x155 x156 x157 x158 x159 x160 x161 x162 x163 x164 x165 x166 x167 x168 x169 x170 x171 x172 x173 x174 x175 x176 x177 x178 x179 x180 x181 x182 x183 x184 x185 x186 x187 x188 x189 x190 x191 x192 x193 x194 x195 x196 x197 x198 x199 x200 x201 x202 x203 x204 x205 x206 x207 x208 x209 x210 x211 x212 x213 x214 x215 x216 x217 x218 x219 x220 x221 x222 x223 x224 x225 x226 x227 x228 x229 x230 x231 x232 x233 x234 x235 x236 x237 x238 x239 x240 x241 x242 x243 x244 x245 x246 x247 x248 x249 x250 x251 x252 x253 x254 x255 x256 x257 x258 x259 x260 x261 x262 x263 x264 x265 x266 x267 x268 x269 x270 x271 x272 x273 x274 x275 x276 x277 x278 x279 x280 x281 x282 x283 x284 w' Q K (fun a' w'' h'=>hKK _ _ (Handed.intro g1 zo (hJ _ _ _ h'))) hD
theorem sE(a:SH)(ds:List Nat)(s:Nat)(w:World)(ha:a.U w ds)(hm:a.n≤1073741824)(hs:s<32):ar 178 [a.v,.int .i64 (-(s:Int))] w SH.v (fun x w'=>x.U w' (digs (val ds / 2 ^ s))):=by
 have key:Calls Tryz.prog 178 #[.slice a.a a.n a.c,.int .i64 (-(s:Int))] w (tv (digs (val ds / 2 ^ s)) w):=by
  by_cases h0:s=0
  ·subst h0;have:=ks a.a a.n a.c ds 0 w ha hm zo;simpa using this
  ·exact pi a.a a.n a.c ds s w ha hm zo hs
 refine key.mono ?_;intro e w' hp;obtain ⟨ao,m,c,rfl,h1,h2⟩:=hp.dpost (cF _);exact ⟨⟨ao,m,c⟩,rfl,h2,h1⟩
theorem sC{ao:Option Addr}{n c R s:Nat}{ds:List Nat}{w:World}(hv:val ds=R*2 ^ s)(ha:U32 w ao n c ds)(hm:n≤1073741824)(hs:s<32):ar 178 [.slice ao n c,.int .i64 (-(s:Int))] w SH.v (fun x w'=>x.U w' (digs R)):=by
 have:=sE ⟨ao,n,c⟩ ds s w ha hm hs
 rwa [hv,Nat.mul_div_cancel _ (Nat.two_pow_pos s)] at this
theorem oN(a b:SH)(X Y:Nat)(ds es:List Nat)(w:World)(ha:a.U w ds)(hb:b.U w es)(hn:a.n≤1073741824)(hm:b.n≤1073741824)(hX:X=val ds)(hYe:Y=val es)(hle:Y≤X)(h1:2≤(digs Y).length) :
  ar 147 [a.v,b.v] w DM (fun p w'=>p.1.U w' (digs (X / Y))∧p.2.U w' (digs (X % Y))):=by
 obtain ⟨i0,hi0,hz0,hz1,hz2⟩:=info_parts eO;obtain ⟨ao,n,c⟩:=a;obtain ⟨bo,m,d⟩:=b;simp only at hn hm;have HA:=Hi ha;have HB:=Hi hb;have HXe:=Hi hX;have HYe:=Hi hYe;have hdl:=aE ha.dig;rw [ha.len,←hX] at hdl;have hel:=aE hb.dig;rw [hb.len,←hYe] at hel;simp only at hdl hel;clear ha hb hX hYe;unfold ar
 change Calls Tryz.prog _ #[.slice ao n c,.slice bo m d] w _
 go_enter Tryz.func147,Tryz.ntmps147
 go_wp2_with fail
 refine cM (aU ⟨ao,n,c⟩ ds _ HA.out hn) fun x1 w1 hE G1=>?_
 obtain ⟨hcw,hfw⟩:=ak hE;have hsw:=hE.size
 (try simp only [nXc] at hsw)
 have E1:=Hi ((Ext.refl w).trans hE);have X1:=Hi hE
 go_wp2_with fail
 refine cM (aU ⟨bo,m,d⟩ es _ (HB.out.ext E1.out) hm) fun x2 w2 hE G2=>?_
 obtain ⟨hcw,hfw⟩:=ak hE;have hsw:=hE.size
 (try simp only [nXc] at hsw)
 have E2:=Hi ((E1.out).trans hE);have X2:=Hi hE;have g1:=G1.out.ext X2.out;have g2:=G2.out;rw [←HXe.out] at g1;rw [←HYe.out] at g2;obtain ⟨ao1,n1,c1⟩:=x1;obtain ⟨bo1,m1,d1⟩:=x2
 change U32 w2 ao1 n1 c1 _ at g1
 change U32 w2 bo1 m1 d1 _ at g2
 have hn1:=g1.len;have hm1:=g2.len;have hmn:=bT hle;rw [hn1,hm1] at hmn;rw [hn1] at hdl;rw [hm1] at hel h1;have hl0:((m1:Int) == 0)=false:=by rw [nXs];omega
 have hl1:((m1:Int) == 1)=false:=by rw [nXs];omega
 have H1:=Hi g1;have H2:=Hi g2;have HN1:=Hi hn1;have HM1:=Hi hm1;obtain ⟨yb,yoff,d0,hbo,hcy,hd0,hdl0⟩:=g2.at (k:=m1-1) zo;subst hbo;obtain ⟨mm,hmm⟩:∃ mm,m1=mm+1:=⟨m1-1,zo⟩;have hd0':d0=(digs Y).getD mm 0:=by rw [hd0,hmm];rfl
 have hd00:=(mB (by rw [hm1,hmm]) hd0').1;obtain ⟨s,hs⟩:∃ s,s=32-Lib.bitLen d0:=⟨_,rfl⟩;obtain ⟨hs32,hYs,htop⟩:=kr (by rw [hm1,hmm]) hd0' hs hdl0;obtain ⟨bl1,bl2,-,-⟩:=er hd00 hdl0;have HS:=Hi hs;have HMM:=Hi hmm;have HYs:=Hi hYs;have HTop:=Hi htop;have hcI:(m1:Int)-1=((m1-1:Nat):Int):=zo;have hY1:U32 w2 (some ⟨yb,yoff+(m1-1),none⟩) 1 (d1-(m1-1)) [d0]:=by
  have hle1:=g2.le;have hmx:=g2.max;refine ⟨rfl,zo,zo,Dig.cons hdl0 Dig.nil,Or.inr ⟨yb,yoff+(m1-1),rfl,fun k hk=>?_⟩⟩;obtain rfl:k=0:=by omega
  simpa using hcy
 have HY1:=Hi hY1;simp only [SH.v];clear g1 g2 hn1 hm1 G1 G2 hcw hfw hd0 hd0' hs hYs htop hmm hY1;have hcmp:decide (bU ((X:Nat):Int) ((Y:Nat):Int)<0)=false:=by
  unfold bU;rw [if_neg zo];split <;> rfl
 have Hcmp:=Hi hcmp;clear hcmp
 go_wp2_with fail
 refine cM (j0 ⟨ao1,n1,c1⟩ ⟨some ⟨yb,yoff,none⟩,m1,d1⟩ _ _ _ H1.out H2.out (by simp only;omega) (by simp only;omega)) fun x3 w3 hE G3=>?_
 obtain ⟨hcw,hfw⟩:=ak hE;have hsw:=hE.size
 (try simp only [nXc] at hsw)
 have E3:=Hi ((E2.out).trans hE);have X3:=Hi hE;rw [ag,ag];obtain ⟨cc,hcc⟩:∃ cc,cc=bU ((X:Nat):Int) ((Y:Nat):Int):=⟨_,rfl⟩;rw [←hcc];have hcd:decide (cc<0)=false:=by rw [hcc];exact Hcmp.out
 clear hcc;have hle2:=H2.out.le;have hmx2:=H2.out.max
 go_wp2_with fail
 rw [show m1-(m1-1)=1 by omega];refine Calls.mono (pY ⟨some ⟨yb,yoff+(m1-1),none⟩,1,d1-(m1-1)⟩ d0 _ (HY1.out.ext X3.out) hd00) ?_;rintro e w4 ⟨-,rfl,hE4,-⟩;obtain ⟨k0,hk0⟩:∃ k0,k0=Lib.bitLen d0:=⟨_,rfl⟩;rw [←hk0] at bl1 bl2 ⊢;have hsk:s=32-k0:=by rw [HS.out,hk0]
 have E4:=Hi (E3.out.trans hE4);have X4:=Hi (X3.out.trans hE4);clear hE4 hk0;have hsI:(32:Int)-k0=(s:Int):=zo;clear hsk
 go_wp2_with fail
 refine (ks _ _ _ _ s _ (H1.out.ext X4.out) zo zo).mono ?_;rintro e w5 ⟨v5,rfl,g5,hE5⟩;rw [ag] at g5;have X5:=Hi hE5;have G5:=Hi g5;clear hE5 g5
 go_wp2_with fail
 refine (ks _ _ _ _ s _ ((H2.out.ext X4.out).ext X5.out) zo zo).mono ?_;rintro e w6 ⟨v6,rfl,g6,hE6⟩;rw [ag] at g6;have X6:=Hi hE6;have hX0:X*2 ^ s≠0:=Nat.mul_ne_zero (by have:=hle;intro h;subst h;have:=HM1.out;rw [show Y=0 by omega,aS] at this;simp at this;omega) (Nat.pos_iff_ne_zero.1 (Nat.two_pow_pos _));have hY0:Y*2 ^ s≠0:=Nat.mul_ne_zero (by intro h;subst h;have:=HM1.out;rw [aS] at this;simp at this;omega) (Nat.pos_iff_ne_zero.1 (Nat.two_pow_pos _));rcases G5.out.form with ⟨-,h0⟩|⟨L0,cap0,re0,rfl,hL0,-,-,-,-⟩
 ·exact absurd (bD.1 h0) hX0
 rcases g6.form with ⟨-,h0⟩|⟨vb,vc,re1,rfl,hvb,-,-,-,-⟩
 ·exact absurd (bD.1 h0) hY0
 have hL0w:=(G5.out.lt L0 rfl).2;have hvbw:=(g6.lt vb rfl).2;have hvU:=g6.u32 (cF _);have hvl:(digs (Y*2 ^ s)).length=m1:=by
  apply Nat.le_antisymm
  ·exact bI (by have:=HYs.out;rwa [←HMM.out] at this)
  ·have:=bT (Nat.le_mul_of_pos_right Y (Nat.two_pow_pos s));rw [HM1.out] at this;exact this
 have hus:(digs (X*2 ^ s)).length≤n1+1:=by
  apply bI;have h2:=bE (cF X);rw [ag,HN1.out] at h2;have h3:2 ^ s≤W32:=by have:=nXp (n:=2) dZ (show s≤32 by omega);exact this
  calc X*2 ^ s<W32 ^ n1*2 ^ s:=Nat.mul_lt_mul_of_pos_right h2 (Nat.two_pow_pos _)
   _≤W32 ^ n1*W32:=nXg _ h3
   _=W32 ^ (n1+1):=(nXu ..).symm
 rw [hvl] at hvU ⊢;obtain ⟨vs,hvs⟩:∃ vs,vs=digs (Y*2 ^ s):=⟨_,rfl⟩;obtain ⟨us,husE⟩:∃ us,us=digs (X*2 ^ s):=⟨_,rfl⟩;have S0:oW X Y s n1 m1 w4 w6 L0 us vb vc vs cap0:=⟨by rw [husE];exact G5.out.ext hE6,by rw [husE];exact cF _,by rw [husE,ag],by rw [hvs];exact hvU,by rw [hvs,ag],zo,X5.out.trans hE6,by have:=hE6.size;omega,hvbw⟩;have hvsl:vs.length=m1:=by rw [hvs];exact hvl
 rw [←husE] at hus ⊢;have HS0:=Hi S0;have HVsl:=Hi hvsl;clear S0 hvs husE hvU g6 G5 hvl hE6 hX0 hY0 hvsl
 go_wp2_with (at_builtin;refine d8 rfl (.tmp 67) (.tmp 68) rfl w4.heap.size L0 us.length cap0 us 0 w6.heap.size rfl (HS0.out.own.ext (Ext.alloc _ _)) rfl rfl (eE _ 0 dZ) zo (by have:=HS0.out.ext.size;simp;omega) ?_;intro L1 cap1 w7 g1 g2 g3)
 have S1:=(HS0.out.later (Ext.alloc _ _)).grow g2 g3 g1;have HS1:=Hi S1;have hu1:(us++[0]).length≤n1+2:=by simp;omega
 rw [show us.length+1=(us++[0]).length by simp];obtain ⟨us1,hus1⟩:∃ us1,us1=us++[0]:=⟨_,rfl⟩;rw [←hus1] at HS1 hu1 ⊢;clear S1 g1 g2 g3 HS0 hus1 hus
 go_loopg [10] (n1+2-us1.length) (fun g u wr=>∃ (L cap:Nat) (us:List Nat),u=.slice (some ⟨L,0,none⟩) us.length cap∧oW X Y s n1 m1 w4 wr L us vb vc vs cap∧us.length+g=n1+2)
 case atStart=>exact ⟨_,_,us1,rfl,HS1.out,zo⟩
 case round =>
  obtain ⟨L,cap,us2,rfl,hS,hg⟩:=hrel;have HS2:=Hi hS;clear hS HS1;have hsz4:=HS2.out.ext.size;by_cases hlt:us2.length<n1+1
  ·obtain ⟨gr,rfl⟩:∃ gr,gk=gr+1:=⟨gk-1,zo⟩
   go_wp2_with (at_builtin;refine d8 rfl (.tmp 76) (.tmp 77) rfl w4.heap.size L us2.length cap us2 0 wr.heap.size rfl (HS2.out.own.ext (Ext.alloc _ _)) rfl rfl (eE _ 0 dZ) zo (by simp;omega) ?_;intro L1' cap1' w7' g1 g2 g3)
   have S1:=(HS2.out.later (Ext.alloc _ _)).grow g2 g3 g1;have HS1:=Hi S1;clear S1 g1 g2 g3
   go_roundg gr
   case measure=>omega
   case rel=>exact ⟨_,_,us2++[0],by rw [nXi];rfl,HS1.out,by simp;omega⟩
  ·have hN1:n1+1≤us2.length:=zo;have hmI:(us2.length:Int)-m1=((us2.length-m1:Nat):Int):=zo;have huf:=HS2.out.own.form;obtain ⟨re,hre⟩:∃ re,DB wr L us2 re:=by
    rcases HS2.out.own.db with h|h
    ·rw [h] at hN1;simp at hN1
    ·exact h
   have HRe:=Hi hre;clear huf hre
   go_wp2_with (refine aB rfl (.tmp 84) (.tmp 84) 33 rfl 124 i0 (.int .u32 0) 1 Tryz.underlying33 hi0 hz0 hz1 _ _ (us2.length-m1) rfl rfl zo zo (by rw [hz2];omega) zo ?_;intro w8 hnew hE)
   have hDB:=DB.make rfl hnew;have hQ8:wr.heap.size<w8.heap.size:=(nXb.1 hDB).1;have hLw:=HS2.out.l;have hvw:=HS2.out.vl;have hvu:=HS2.out.vu.ext hE;have HVU:=Hi hvu;have I0:DR (X*2 ^ s) (Y*2 ^ s) (us2.length-1) m1 L wr.heap.size re w8 w8 (us2.length-m1):=by
    refine ⟨aL.refl _ _,us2,HRe.out.ext hE,zo,HS2.out.dig,?_,[],by rw [List.append_nil];exact hDB,by simp;omega,Dig.nil,by rw [val,Nat.mul_zero,Nat.zero_mul,Nat.zero_add,HS2.out.v]⟩;have hM:=HMM.out;have:=vf (N:=us2.length-1) (m:=mm) (us:=us2) HN1.out (by rw [HM1.out,hM]) zo zo zo HS2.out.v
    rwa [show us2.length-m1=us2.length-1-(mm+1)+1 by omega]
   have HI0:=Hi I0;have X8:=Hi (HS2.out.ext.trans hE);have HVne:=Hi HS2.out.ne;clear I0 hDB hnew hE hvu;go_wp2;obtain ⟨m2,rfl⟩:∃ m2,m1=m2+2:=⟨m1-2,zo⟩;obtain ⟨N,hN⟩:∃ N,us2.length=N+1:=⟨us2.length-1,zo⟩;have HI1:=HI0;rw [hN,Nat.add_sub_cancel] at HI1;rw [hN];refine Cq (X*2 ^ s) (Y*2 ^ s) N m2 L wr.heap.size (N+1-(m2+2)) cap vb vc (.int .i64 (s:Int)) re w8 vs HVU.out HS2.out.vv (by have:=HYs.out;rwa [←HMM.out] at this) zo HVne.out zo (by have:=HTop.out vs (by rw [HVsl.out,HMM.out]) HS2.out.vu.dig HS2.out.vv;have hM:=HMM.out;rwa [show m2+1=mm by omega]) zo zo zo (N+1-(m2+2)) _ _ _ ?_ ?_
   ·unfold DMI;refine ⟨_,_,_,_,_,_,_,_,_,_,_,_,_,_,_,_,_,_,_,_,_,_,_,_,_,_,_,_,_,_,_,_,_,_,_,_,_,_,_,_,_,_,_,_,_,_,_,_,_,_,_,_,_,_,_,_,_,_,_,_,_,_,_,_,_,_,_,_,_,_,_,_,_,_,_,_,_,_,_,_,_,_,_,_,_,_,_,_,_,_,_,_,_,_,_,_,_,_,_,_,_,_,_,_,_,_,_,_,_,_,_,_,_,_,_,_,_,_,_,_,_,_,_,_,_,_,_,_,_,_,_,_,_,_,_,_,_,_,_,_,_,_,_,_,_,_,_,_,_,_,_,_,_,_,_,_,_,_,_,_,_,_,_,_,_,_,_,_,_,_,_,_,_,_,_,_,_,_,_,_,_,_,_,_,_,_,_,_,_,_,_,_,_,_,_,_,_,_,_,_,_,_,_,_,_,_,_,_,_,_,_,_,_,_,_,_,_,_,_,_,_,_,_,_,_,_,_,_,_,_,_,_,_,_,_,_,_,_,_,_,_,_,_,_,_,_,_,_,_,_,_,_,_,_,_,_,_,_,_,_,_,_,_,_,_,_,_,_,_,_,_,_,_,_,_,_,_,_,_,⟨zo,HI1.out⟩,rfl⟩
   ·intro a' w' h;unfold DMI at h;obtain ⟨x0,x1,x2,x3,x4,x5,x6,x7,h⟩:=h;obtain ⟨x8,x15,x16,x17,x18,x19,x20,x21,h⟩:=h;obtain ⟨x22,x23,x24,x25,x26,x27,x28,x29,h⟩:=h;obtain ⟨x30,x31,x32,x33,x34,x35,x36,x37,h⟩:=h;obtain ⟨x38,x39,x40,x41,x42,x43,x44,x45,h⟩:=h;obtain ⟨x46,x47,x48,x49,x50,x51,x52,x53,h⟩:=h;obtain ⟨x54,x55,x56,x57,x58,x59,x60,x61,h⟩:=h;obtain ⟨x62,x63,x64,x65,x66,x67,x68,x69,h⟩:=h;obtain ⟨x70,x71,x72,x73,x74,x75,x76,x77,h⟩:=h;obtain ⟨x78,x79,x80,x81,x82,x83,x84,x85,h⟩:=h;obtain ⟨x86,x87,x88,x89,x90,x91,x92,x93,h⟩:=h;obtain ⟨x94,x95,x96,x97,x98,x99,x100,x101,h⟩:=h;obtain ⟨x102,x103,x104,x105,x106,x107,x108,x109,h⟩:=h;obtain ⟨x110,x111,x112,x113,x114,x115,x116,x117,h⟩:=h;obtain ⟨x118,x119,x120,x121,x122,x123,x124,x125,h⟩:=h;obtain ⟨x126,x127,x128,x129,x130,x131,x132,x133,h⟩:=h;obtain ⟨x134,x135,x136,x137,x138,x139,x140,x141,h⟩:=h;obtain ⟨x142,x143,x144,x145,x146,x147,x148,x149,h⟩:=h;obtain ⟨x150,x151,x152,x153,x154,x155,x156,x157,h⟩:=h;obtain ⟨x158,x159,x160,x161,x162,x163,x164,x165,h⟩:=h;obtain ⟨x166,x167,x168,x169,x170,x171,x172,x173,h⟩:=h;obtain ⟨x174,x175,x176,x177,x178,x179,x180,x181,h⟩:=h;obtain ⟨x182,x183,x184,x185,x186,x187,x188,x189,h⟩:=h;obtain ⟨x190,x191,x192,x193,x194,x195,x196,x197,h⟩:=h;obtain ⟨x198,x199,x200,x201,x202,x203,x204,x205,h⟩:=h;obtain ⟨x206,x207,x208,x209,x210,x211,x212,x213,h⟩:=h;obtain ⟨x214,x215,x216,x217,x218,x219,x220,x221,h⟩:=h;obtain ⟨x222,x223,x224,x225,x226,x227,x228,x229,h⟩:=h;obtain ⟨x230,x231,x232,x233,x234,x235,x236,x237,h⟩:=h;obtain ⟨x238,x239,x240,x241,x242,x243,x244,x245,h⟩:=h;obtain ⟨x246,x247,x248,x249,x250,x251,x252,x253,h⟩:=h;obtain ⟨x254,x255,x256,x257,x258,x259,x260,x261,h⟩:=h;obtain ⟨x262,x263,x264,x265,x266,x267,x268,x269,h⟩:=h;obtain ⟨x270,x271,x272,x273,x274,x275,x276,x277,h⟩:=h;obtain ⟨x278,x279,x280,x281,x282,x283,x284,h⟩:=h;obtain ⟨⟨-,hD⟩,rfl⟩:=h;have HD:=Hi hD;clear hD;obtain ⟨us,g1,g2,g3,g4,qs,g5,g6,g7,g8⟩:=HD.out.u;rw [List.drop_zero] at g4;rw [List.replicate_zero,List.nil_append] at g5;rw [Nat.pow_zero,Nat.one_mul] at g8;obtain ⟨e1,e2⟩:=dP (q:=val qs) (O:=val us) (U:=X*2 ^ s) (V:=Y*2 ^ s) zo (by rw [Nat.add_mul];omega) (by rw [nYj];exact g8);rw [Nat.mul_div_mul_right _ _ (Nat.two_pow_pos s)] at e1;rw [Nat.mul_mod_mul_right] at e2;have hut:val (us.take (m2+2))=X % Y*2 ^ s:=by
     have h1:=bY us (m2+2) zo;have h2:=HYs.out;rw [←HMM.out] at h2;have h3:val (us.drop (m2+2))=0:=by
      rcases Nat.eq_zero_or_pos (val (us.drop (m2+2))) with h|h
      ·exact h
      ·have:=nXg (W32 ^ (m2+2)) h;omega
     rw [h3,Nat.mul_zero,Nat.add_zero] at h1;rw [←h1];exact e2
    have hcap:N+1≤cap∧cap≤9223372036854775807:=by
     rcases HS2.out.own.form with ⟨h,-⟩|⟨L',cap',re',h,-,-,h4,h5,-⟩
     ·cases h
     ·injection h with _ _ h3
      subst h3;exact ⟨zo,h5⟩
    have hUu:U32 w' (some ⟨L,0,none⟩) (m2+2) cap (us.take (m2+2)):=(g1.u32 (n:=N+1) (cap:=cap) g2 hcap.1 hcap.2 g3).take zo;have hUq:U32 w' (some ⟨wr.heap.size,0,none⟩) (N+1-(m2+2)) (N+1-(m2+2)) qs:=g5.u32 zo (nXe _) zo g7;have hmodsE:=HD.out.mods;have hw8E:Ext w w8:=E4.out.trans X8.out;have hEw:Ext w w':=Ext.of_below hw8E (hmodsE.below (N:=w.heap.size) (by have:=hw8E.size;omega) (fun k hk=>by have:=E4.out.size;have:=(HS2.out.own.lt L rfl).1;rcases hk with rfl|rfl <;> omega)) (nXe _);have HUq:=Hi hUq;have HUu:=Hi hUu;have HE1:=Hi e1;have HUt:=Hi hut;have HEw:=Hi hEw;obtain ⟨hcap1,hcap2⟩:=hcap;clear g1 g2 g3 g4 g5 g6 g7 g8 e1 e2 hut hUq hUu hmodsE hw8E hEw
    dsimp only
    go_wp2;refine ah 11 (fun opIx=>match opIx with
     | 1=>sD (X / Y)
     | 7=>sD (X % Y)
     | _=>.quiet) (fun _=>[]) kZ kZ (fun w0 he0 hz0 hc0 hf0=>?_)
    have he1:=Hi he0;replace he0:=Hi (((Ext.refl w')).trans he0);simp only [pT];refine qQ ?_;refine wps he0 (fun w1 hW hG=>?_) fun x1=>?_
    ·exact spc [.slice (some ⟨wr.heap.size,0,none⟩) (N+1-(m2+2)) (N+1-(m2+2))] Tryz.func89 (HE1.out ▸ dU ⟨_,_,_⟩ _ _ (HUq.out.ext hW) (by simp only;omega))
    refine qZ ?_;refine wps he0 (fun w1 hW hG=>?_) fun x7=>?_
    ·exact spc [.slice (some ⟨L,0,none⟩) (m2+2) cap,.int .i64 (-(s:Int))] Tryz.func178 (sC HUt.out (HUu.out.ext hW) zo hs32)
    refine qZ ?_;refine aq ?_;intro w1 hI;have G1:=gT (hI.facts 1);have G7:=gT (hI.facts 7);have HX:=Hi (he0.out.trans hI.ext);have hX1:=Hi (he1.out.trans hI.ext);obtain ⟨hcw,hfw⟩:=ak (he1.out.trans hI.ext);have hsw:=(he1.out.trans hI.ext).size
    (try simp only [nXc] at hsw)
    clear hI he0 he1 hz0 hc0 hf0;simp only [pD];go_wp2;exact nXa (v:=DM (x1,x7)) (by simp [results,Tryz.results147,go_sem]) rfl ⟨(x1,x7),rfl,HEw.out.trans HX.out,G1.out,G7.out⟩
theorem oO(a b:SH)(X Y:Nat)(ds es:List Nat)(w:World)(ha:a.U w ds)(hb:b.U w es)(hn:a.n≤1073741824)(hm:b.n≤1073741824)(hX:X=val ds)(hYe:Y=val es)(hlt:X<Y)(h1:2≤(digs Y).length) :
  ar 147 [a.v,b.v] w DM (fun p w'=>p.1.U w' (digs (X / Y))∧p.2.U w' (digs (X % Y))):=by
 obtain ⟨ao,n,c⟩:=a;obtain ⟨bo,m,d⟩:=b;simp only at hn hm;have HA:=Hi ha;have HB:=Hi hb;have HXe:=Hi hX;have HYe:=Hi hYe;have hdl:=aE ha.dig;rw [ha.len,←hX] at hdl;have hel:=aE hb.dig;rw [hb.len,←hYe] at hel;simp only at hdl hel;clear ha hb hX hYe;unfold ar
 change Calls Tryz.prog _ #[.slice ao n c,.slice bo m d] w _
 go_enter Tryz.func147,Tryz.ntmps147
 go_wp2_with fail
 refine cM (aU ⟨ao,n,c⟩ ds _ HA.out hn) fun x1 w1 hE G1=>?_
 obtain ⟨hcw,hfw⟩:=ak hE;have hsw:=hE.size
 (try simp only [nXc] at hsw)
 have E1:=Hi ((Ext.refl w).trans hE);have X1:=Hi hE
 go_wp2_with fail
 refine cM (aU ⟨bo,m,d⟩ es _ (HB.out.ext E1.out) hm) fun x2 w2 hE G2=>?_
 obtain ⟨hcw,hfw⟩:=ak hE;have hsw:=hE.size
 (try simp only [nXc] at hsw)
 have E2:=Hi ((E1.out).trans hE);have X2:=Hi hE;have g1:=G1.out.ext X2.out;have g2:=G2.out;rw [←HXe.out] at g1;rw [←HYe.out] at g2;obtain ⟨ao1,n1,c1⟩:=x1;obtain ⟨bo1,m1,d1⟩:=x2
 change U32 w2 ao1 n1 c1 _ at g1
 change U32 w2 bo1 m1 d1 _ at g2
 have hn1:=g1.len;have hm1:=g2.len;rw [hn1] at hdl;rw [hm1] at hel h1;have hl0:((m1:Int) == 0)=false:=by rw [nXs];omega
 have hl1:((m1:Int) == 1)=false:=by rw [nXs];omega
 have H1:=Hi g1;have H2:=Hi g2;simp only [SH.v];clear g1 g2 hn1 hm1 G1 G2 hcw hfw
 go_wp2_with fail
 refine cM (j0 ⟨ao1,n1,c1⟩ ⟨bo1,m1,d1⟩ _ _ _ H1.out H2.out (by simp only;omega) (by simp only;omega)) fun x3 w3 hE G3=>?_
 obtain ⟨hcw,hfw⟩:=ak hE;have hsw:=hE.size
 (try simp only [nXc] at hsw)
 have E3:=Hi ((E2.out).trans hE);have X3:=Hi hE;rw [ag,ag,dG zo];go_wp2;refine nXa (v:=DM (⟨none,0,0⟩,⟨ao1,n1,c1⟩)) (by simp [results,Tryz.results147,go_sem]) rfl ⟨(⟨none,0,0⟩,⟨ao1,n1,c1⟩),rfl,E3.out,?_,?_⟩
 ·rw [Nat.div_eq_of_lt hlt,aS];exact bP _
 ·rw [Nat.mod_eq_of_lt hlt];exact H1.out.ext X3.out
theorem li(a b:SH)(ds es:List Nat)(w:World)(ha:a.U w ds)(hb:b.U w es)(hn:a.n≤1073741824)(hm:b.n≤1073741824)(hz:val es≠0) :
  ar 147 [a.v,b.v] w DM (fun p w'=>p.1.U w' (digs (val ds / val es))∧p.2.U w' (digs (val ds % val es))):=by
 by_cases h1:(digs (val es)).length=1
 ·exact pU a b _ _ ds es w ha hb hn hm rfl rfl hz h1
 ·have h2:2≤(digs (val es)).length:=by
   have:(digs (val es)).length≠0:=fun h=>hz (bD.1 (nXj.1 h))
   omega
  by_cases hlt:val ds<val es
  ·exact oO a b _ _ ds es w ha hb hn hm rfl rfl hlt h2
  ·exact oN a b _ _ ds es w ha hb hn hm rfl rfl zo h2
theorem yX(a b:SH)(ds es:List Nat)(w:World)(ha:a.U w ds)(hb:b.U w es)(hn:a.n≤1073741824)(hm:b.n≤1073741824) :
  ar 146 [a.v,b.v] w SH.v (fun s w'=>s.U w' (digs (Nat.gcd (val ds) (val es)))):=by
 obtain ⟨ao,n,c⟩:=a;obtain ⟨bo,m,d⟩:=b;simp only at hn hm;have HA:=Hi ha;have HB:=Hi hb;have hdl:=aE ha.dig;have hel:=aE hb.dig;rw [ha.len] at hdl;rw [hb.len] at hel;simp only at hdl hel;clear ha hb;unfold ar
 change Calls Tryz.prog _ #[.slice ao n c,.slice bo m d] w _
 go_enter Tryz.func146,Tryz.ntmps146
 go_wp2_with fail
 refine cM (aU ⟨ao,n,c⟩ ds _ HA.out hn) fun x1 w1 hE G1=>?_
 obtain ⟨hcw,hfw⟩:=ak hE;have hsw:=hE.size
 (try simp only [nXc] at hsw)
 have E1:=Hi ((Ext.refl w).trans hE);have X1:=Hi hE
 go_wp2_with fail
 refine cM (aU ⟨bo,m,d⟩ es _ (HB.out.ext E1.out) hm) fun x2 w2 hE G2=>?_
 obtain ⟨hcw,hfw⟩:=ak hE;have hsw:=hE.size
 (try simp only [nXc] at hsw)
 have E2:=Hi ((E1.out).trans hE);have X2:=Hi hE;have g1:=G1.out.ext X2.out;have g2:=G2.out;obtain ⟨ao1,n1,c1⟩:=x1;obtain ⟨bo1,m1,d1⟩:=x2
 change U32 w2 ao1 n1 c1 _ at g1
 change U32 w2 bo1 m1 d1 _ at g2
 have hn1:n1≤1073741824:=by have:=g1.len;omega
 have hm1:m1≤1073741824:=by have:=g2.len;omega
 have H1:=Hi g1;have H2:=Hi g2;simp only [SH.v];clear g1 g2 G1 G2 hcw hfw;go_wp2
 go_loopg [0,1] (val es) (fun g p q wr=>∃ X ao n ac bo m bc,p=.slice ao n ac∧q=.slice bo m bc∧U32 wr ao n ac (digs X)∧U32 wr bo m bc (digs g)∧n≤1073741824∧m≤1073741824∧Nat.gcd X g=Nat.gcd (val ds) (val es)∧Ext w wr)
 case atStart=>exact ⟨_,_,_,_,_,_,_,rfl,rfl,H1.out,H2.out,hn1,hm1,rfl,E2.out⟩
 case round =>
  obtain ⟨X1,xo1,n1',xc1,yo1,m1',yc1,rfl,rfl,h1,h2,h3,h4,h5,h6⟩:=hrel;have K1:=Hi h1;have K2:=Hi h2;have K5:=Hi h5;have K6:=Hi h6;clear h1 h2 h5 h6 H1 H2;by_cases hm0:m1'=0
  ·subst hm0;go_wp2
   go_ret
   have hg0:gk=0:=bD.1 (nXj.1 K2.out.len);have:=K5.out;rw [hg0,Nat.gcd_zero_right] at this;exact ⟨⟨_,_,_⟩,rfl,K6.out,by rw [←this];exact K1.out⟩
  ·have hg0:gk≠0:=by
    intro h;have:=K2.out.len;rw [h,aS] at this;exact hm0 this.symm
   have hd0:decide (0<(m1':Int))=true:=by simp;omega
   go_wp2_with fail
   refine Calls.mono (li ⟨xo1,n1',xc1⟩ ⟨yo1,m1',yc1⟩ _ _ _ K1.out K2.out h3 h4 (by rw [ag];exact hg0)) ?_;rintro e w4 ⟨⟨p1,p2⟩,rfl,hE,g1,g2⟩;rw [ag,ag] at g2;have J2:=Hi g2;have HE4:=Hi hE;have hl:p2.n≤1073741824:=by
    have e1:(digs (X1 % gk)).length=p2.n:=g2.len;have:=bT (nYm (Nat.mod_lt X1 (Nat.pos_of_ne_zero hg0)));have e2:=K2.out.len;omega
   clear g1 g2 hE;go_wp2
   go_roundg (X1 % gk)
   case measure=>exact Nat.mod_lt _ (Nat.pos_of_ne_zero hg0)
   case rel=>exact ⟨gk,_,_,_,_,_,_,rfl,rfl,K2.out.ext HE4.out,J2.out,h4,hl,by rw [Nat.gcd_comm gk,←Nat.gcd_rec,Nat.gcd_comm];exact K5.out,K6.out.trans HE4.out⟩
end Go.Proofs.YtkcpmclnocmalaaGreat
