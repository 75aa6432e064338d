import Derived.Test.YtkcpmclnocmalaaGreatQMM4
import Derived.Deep.CutBlock
import Derived.Deep.DeepCutAuto
set_option linter.unusedVariables false
set_option maxRecDepth 1000000
namespace Go.Proofs.YtkcpmclnocmalaaGreat
open Go.RowKit Go.Front Go.Num
attribute [local go_sem] XW.cell XW.frozen
def iF:Code→List Code
 | .loop c=>[c]
 | .seq a b=>iF a++iF b
 | .block _ c=>iF c
 | .scope c=>iF c
 | .cond _ a b=>iF a++iF b
 | _=>[]
noncomputable def AL:Code:=((Tryz.f147.body.map iF).getD [])[1]?.getD .skip
def DMI(U V N m L Qb ql cap vb vc:Nat)(s9:Value)(re:Array Value)(w:World)(n:Nat)(a:Act)(w':World):Prop :=
 ∃ x0 x1 x2 x3 x4 x5 x6 x7 x8 x15 x16 x17 x18 x19 x20 x21 x22 x23 x24 x25 x26 x27 x28 x29 x30 x31 x32 x33 x34 x35 x36 x37 x38 x39 x40 x41 x42 x43 x44 x45 x46 x47 x48 x49 x50 x51 x52 x53 x54 x55 x56 x57 x58 x59 x60 x61 x62 x63 x64 x65 x66 x67 x68 x69 x70 x71 x72 x73 x74 x75 x76 x77 x78 x79 x80 x81 x82 x83 x84 x85 x86 x87 x88 x89 x90 x91 x92 x93 x94 x95 x96 x97 x98 x99 x100 x101 x102 x103 x104 x105 x106 x107 x108 x109 x110 x111 x112 x113 x114 x115 x116 x117 x118 x119 x120 x121 x122 x123 x124 x125 x126 x127 x128 x129 x130 x131 x132 x133 x134 x135 x136 x137 x138 x139 x140 x141 x142 x143 x144 x145 x146 x147 x148 x149 x150 x151 x152 x153 x154 x155 x156 x157 x158 x159 x160 x161 x162 x163 x164 x165 x166 x167 x168 x169 x170 x171 x172 x173 x174 x175 x176 x177 x178 x179 x180 x181 x182 x183 x184 x185 x186 x187 x188 x189 x190 x191 x192 x193 x194 x195 x196 x197 x198 x199 x200 x201 x202 x203 x204 x205 x206 x207 x208 x209 x210 x211 x212 x213 x214 x215 x216 x217 x218 x219 x220 x221 x222 x223 x224 x225 x226 x227 x228 x229 x230 x231 x232 x233 x234 x235 x236 x237 x238 x239 x240 x241 x242 x243 x244 x245 x246 x247 x248 x249 x250 x251 x252 x253 x254 x255 x256 x257 x258 x259 x260 x261 x262 x263 x264 x265 x266 x267 x268 x269 x270 x271 x272 x273 x274 x275 x276 x277 x278 x279 x280 x281 x282 x283 x284:Value,(n≤N+1-m∧DR U V N m L Qb re w w' n)∧a=⟨#[x0,x1,x2,x3,x4,x5,x6,x7,x8,s9,.slice (some ⟨L,0,none⟩) (N+1) cap,.slice (some ⟨vb,0,none⟩) m vc,.int .i64 (m:Nat),.slice (some ⟨Qb,0,none⟩) ql ql,.int .i64 ((n:Int)-1),x15,x16,x17,x18,x19,x20,x21,x22,x23,x24,x25,x26,x27,x28,x29,x30,x31,x32,x33,x34,x35,x36,x37,x38,x39,x40,x41,x42,x43,x44,x45,x46,x47,x48,x49,x50,x51,x52,x53,x54,x55,x56,x57,x58,x59,x60,x61,x62,x63,x64,x65,x66,x67,x68,x69,x70,x71,x72,x73,x74,x75,x76,x77,x78,x79,x80,x81,x82,x83,x84,x85,x86,x87,x88,x89,x90,x91,x92,x93,x94,x95,x96,x97,x98,x99,x100,x101,x102,x103,x104,x105,x106,x107,x108,x109,x110,x111,x112,x113,x114,x115,x116,x117,x118,x119,x120,x121,x122,x123,x124,x125,x126,x127,x128,x129,x130,x131,x132,x133,x134,x135,x136,x137,x138,x139,x140,x141,x142,x143,x144,x145,x146,x147,x148,x149,x150,x151,x152,x153,x154,x155,x156,x157,x158,x159,x160,x161,x162,x163,x164,x165,x166,x167,x168,x169,x170,x171,x172,x173,x174,x175,x176,x177,x178,x179,x180,x181,x182,x183,x184,x185,x186,x187,x188,x189,x190,x191,x192,x193,x194,x195,x196,x197,x198,x199,x200,x201,x202,x203,x204,x205,x206,x207,x208,x209,x210,x211,x212,x213,x214,x215,x216,x217,x218,x219,x220,x221,x222,x223,x224,x225,x226,x227,x228,x229,x230,x231,x232,x233,x234,x235,x236,x237,x238,x239,x240,x241,x242,x243,x244,x245,x246,x247,x248,x249,x250,x251,x252,x253,x254,x255,x256,x257,x258,x259,x260,x261,x262,x263,x264,x265,x266,x267,x268,x269,x270,x271,x272,x273,x274,x275,x276,x277,x278,x279,x280,x281,x282,x283,x284],[]⟩
theorem EU{O q V U B:Nat}(h:O+q*V=U+B)(hO:O<B):1≤q:=by
 rcases Nat.eq_zero_or_pos q with h0|h0
 ·subst h0;rw [Nat.zero_mul] at h;omega
 ·exact h0
theorem AB.later{U:Nat}{pre m post:List Nat}{re:Array Value}{v:List Nat}{w wr wr':World}{i c:Nat}(h:AB U pre m post re v w wr i c)(he:Ext wr wr'):AB U pre m post re v w wr' i c :=
 ⟨h.mods.trans (aL.of_ext he),let ⟨os,h1,h2⟩:=h.db;⟨os,h1.ext he,h2⟩,h.c1⟩
theorem Ax{os u vs:List Nat}{m2 q r cc bb x b':Nat}(h2:os.length=m2+2)(h4:val os+q*val (vs.take (m2+2))=val (u.take (m2+2))+W32 ^ (m2+2)*(cc+bb))(hu:u.length=m2+3)(hv:vs.length=m2+2)(hx:x=u.getD (m2+2) 0)(e:r+cc+bb=x+4294967296*b') :
  val (os++[r])+q*val vs=val u+W32 ^ (m2+3)*b':=by
 have h:=au (ds:=u) (k:=m2+2) zo;rw [aw zo,←hx] at h;rw [aw (ds:=vs) zo] at h4;rw [bp,h2,h,show m2+3=m2+2+1 from rfl,nXu];have e6:W32 ^ (m2+2)*(r+cc+bb)=W32 ^ (m2+2)*(x+W32*b'):=by rw [e];rfl
 exact Ay h4 e6
theorem zX{p:Nat}(h:p<18446744073709551616):bits .and .u64 (p:Int) 4294967295=((p % 4294967296:Nat):Int):=by
 rw [show (4294967295:Int)=((4294967295:Nat):Int) from rfl,u64_and_nat _ _ h dZ,show (4294967295:Nat)=2 ^ 32-1 from rfl,Nat.and_two_pow_sub_one_eq_mod]
set_option maxHeartbeats 4000000 in
theorem Co(U V N m2 L Qb ql cap vb vc:Nat)(s9:Value)(re:Array Value)(w:World)(vs:List Nat)(hv:U32 w (some ⟨vb,0,none⟩) (m2+2) vc vs)(hvv:val vs=V)(hV:V<W32 ^ (m2+2))(hLQ:L≠Qb)(hvL:vb≠L)(hvQ:vb≠Qb)(htop:2147483648≤vs.getD (m2+1) 0)(hm:m2+2≤N)(hN:N≤2147483648)(hql:ql=N-(m2+2)+1)(g1:Nat)(hg1:g1+(m2+2)≤N)
   (x0 x1 x2 x3 x4 x5 x6 x7 x8 x15 x16 x17 x18 x19 x20 x21 x22 x23 x24 x25 x26 x27 x28 x29 x30 x31 x32 x33 x34 x35 x36 x37 x38 x39 x40 x41 x42 x43 x44 x45 x46 x47 x48 x49 x50 x51 x52 x53 x54 x55 x56 x57 x58 x59 x60 x61 x62 x63 x64 x65 x66 x67 x68 x69 x70 x71 x72 x73 x74 x75 x76 x77 x78 x79 x80 x81 x82 x83 x84 x85 x86 x87 x88 x89 x90 x91 x92 x93 x94 x95 x96 x97 x98 x99 x100 x101 x102 x103 x104 x105 x106 x107 x108 x109 x110 x111 x112 x113 x114 x115 x116 x117 x118 x119 x120 x121 x122 x123 x124 x125 x126 x127 x128 x129 x130 x131 x132 x133 x134 x135 x136 x137 x138 x139 x140 x141 x142 x143 x144 x145 x146 x147 x148 x149 x150 x151 x152 x153 x154 x155 x156 x157 x158 x159 x160 x161 x162 x163 x164 x165 x166 x167 x168 x169 x170 x171 x172 x173 x174 x175 x176 x177 x178 x179 x180 x181 x182 x183 x184 x185 x186 x187 x188 x189 x190 x191 x192 x193 x194 x195 x196 x197 x198 x199 x200 x201 x202 x203 x204 x205 x206 x207 x208 x209 x210 x211 x212 x213 x214 x215 x216 x217 x218 x219 x220 x221 x222 x223 x224 x225 x226 x227 x228 x229 x230 x231 x232 x233 x234 x235 x236 x237 x238 x239 x240 x241 x242 x243 x244 x245 x246 x247 x248 x249 x250 x251 x252 x253 x254 x255 x256 x257 x258 x259 x260 x261 x262 x263 x264 x265 x266 x267 x268 x269 x270 x271 x272 x273 x274 x275 x276 x277 x278 x279 x280 x281 x282 x283 x284:Value)(wr:World)(Q:Exit→Act→World→Prop)(K:Act→World→Prop)(hK:∀ a' w',DMI U V N (m2+2) L Qb ql cap vb vc s9 re w g1 a' w'→K a' w')(hI:DR U V N (m2+2) L Qb re w wr (g1+1)) :
    Code.wp Tryz.prog AL (Exit.then K Q) ⟨#[x0,x1,x2,x3,x4,x5,x6,x7,x8,s9,.slice (some ⟨L,0,none⟩) (N+1) cap,.slice (some ⟨vb,0,none⟩) (m2+2) vc,.int .i64 ((m2+2:Nat):Int),.slice (some ⟨Qb,0,none⟩) ql ql,.int .i64 (g1:Nat),x15,x16,x17,x18,x19,x20,x21,x22,x23,x24,x25,x26,x27,x28,x29,x30,x31,x32,x33,x34,x35,x36,x37,x38,x39,x40,x41,x42,x43,x44,x45,x46,x47,x48,x49,x50,x51,x52,x53,x54,x55,x56,x57,x58,x59,x60,x61,x62,x63,x64,x65,x66,x67,x68,x69,x70,x71,x72,x73,x74,x75,x76,x77,x78,x79,x80,x81,x82,x83,x84,x85,x86,x87,x88,x89,x90,x91,x92,x93,x94,x95,x96,x97,x98,x99,x100,x101,x102,x103,x104,x105,x106,x107,x108,x109,x110,x111,x112,x113,x114,x115,x116,x117,x118,x119,x120,x121,x122,x123,x124,x125,x126,x127,x128,x129,x130,x131,x132,x133,x134,x135,x136,x137,x138,x139,x140,x141,x142,x143,x144,x145,x146,x147,x148,x149,x150,x151,x152,x153,x154,x155,x156,x157,x158,x159,x160,x161,x162,x163,x164,x165,x166,x167,x168,x169,x170,x171,x172,x173,x174,x175,x176,x177,x178,x179,x180,x181,x182,x183,x184,x185,x186,x187,x188,x189,x190,x191,x192,x193,x194,x195,x196,x197,x198,x199,x200,x201,x202,x203,x204,x205,x206,x207,x208,x209,x210,x211,x212,x213,x214,x215,x216,x217,x218,x219,x220,x221,x222,x223,x224,x225,x226,x227,x228,x229,x230,x231,x232,x233,x234,x235,x236,x237,x238,x239,x240,x241,x242,x243,x244,x245,x246,x247,x248,x249,x250,x251,x252,x253,x254,x255,x256,x257,x258,x259,x260,x261,x262,x263,x264,x265,x266,x267,x268,x269,x270,x271,x272,x273,x274,x275,x276,x277,x278,x279,x280,x281,x282,x283,x284],[]⟩ wr:=by
  subst hql
  conv=>arg 2;whnf
  obtain ⟨pre,u,post,hU,hj,hul,du,hlt,hnext⟩:=hI.next hg1 hV hLQ;obtain ⟨vb',voff',v1,hvo,hcv1,hev1,hvl1⟩:=hv.at (k:=m2+1) zo;obtain ⟨rfl,rfl⟩:vb=vb'∧0=voff':=by cases hvo;exact ⟨rfl,rfl⟩
  clear hvo;obtain ⟨vb',voff',v2,hvo,hcv2,hev2,hvl2⟩:=hv.at (k:=m2) zo;obtain ⟨rfl,rfl⟩:vb=vb'∧0=voff':=by cases hvo;exact ⟨rfl,rfl⟩
  clear hvo;rw [Nat.zero_add] at hcv1 hcv2;have hmods:=hI.mods;have hvS:¬ (vb=L∨vb=Qb):=by omega
  replace hcv1:=hmods.cell (p:=⟨vb,m2+1,none⟩) hvS hcv1;replace hcv2:=hmods.cell (p:=⟨vb,m2,none⟩) hvS hcv2;have hcell:∀ i,i<m2+3→wr.cell? ⟨L,g1+i,none⟩=some (.int .u32 ((u.getD i 0:Nat):Int)):=fun i hi=>by
    have h1:=hU.cell (i:=g1+i) (by simp;omega);rw [h1,←hj,nXd,List.getElem?_append_right zo,List.getElem?_append_left zo];simp
  obtain ⟨u1,hu1⟩:∃ x,x=u.getD (m2+2) 0:=⟨_,rfl⟩;obtain ⟨u0,hu0⟩:∃ x,x=u.getD (m2+1) 0:=⟨_,rfl⟩;obtain ⟨u2,hu2⟩:∃ x,x=u.getD m2 0:=⟨_,rfl⟩;have hcu1:=hcell (m2+2) zo;have hcu0:=hcell (m2+1) zo;have hcu2:=hcell m2 zo;rw [←hu1] at hcu1;rw [←hu0] at hcu0;rw [←hu2] at hcu2;have hul1:u1<4294967296:=by rw [hu1];exact du.at _
  have hul0:u0<4294967296:=by rw [hu0];exact du.at _
  have hul2:u2<4294967296:=by rw [hu2];exact du.at _
  rw [←hev1] at htop;have T:=AX.of du hv.dig hul hv.len;rw [←hu1,←hu0,←hu2,←hev1,←hev2] at T;rw [←hvv] at hlt;have hle:=Ag T hlt hvl2;have G0:=jp.first T zo hul2;have HT:=Hi T;have HU:=Hi hU;have HV:=Hi hv;have HG0:=Hi G0;have HLT:=Hi hlt;have DU:=Hi du;have HJ:=Hi hj;have HUL:=Hi hul;have HI:=Hi hI;have HNext:=Hi hnext;have HVV:=Hi hvv;have hbL:L<wr.heap.size:=(nXb.1 hU).1;have hbV:vb<wr.heap.size:=nXq _ _ hcv1;clear hcell hu1 hu0 hu2 hev1 hev2 T hU hv hlt du hj hul G0 hI hnext hmods hvS hvv;have hv0:((v1:Int) == 0)=false:=by simp;omega
  have a1:IntKind.i64.wrap ((g1:Int)+(m2+2:Nat))=(g1:Int)+(m2+2:Nat):=IntWalk.i64_in _ zo;have a2:(0:Int)≤(g1:Int)+(m2+2:Nat):=zo;have a3:((g1:Int)+(m2+2:Nat)).toNat=g1+(m2+2):=by omega
  have a4:IntKind.i64.wrap ((g1:Int)+(m2+2:Nat)-1)=(g1:Int)+(m2+2:Nat)-1:=IntWalk.i64_in _ zo;have a5:(0:Int)≤(g1:Int)+(m2+2:Nat)-1:=zo;have a6:((g1:Int)+(m2+2:Nat)-1).toNat=g1+(m2+1):=by omega
  have a7:g1+(m2+2)<N+1:=zo;have a8:g1+(m2+1)<N+1:=zo;go_wp2
  go_quiet (fail)
  rw [kH hul1 hul0];obtain ⟨t,ht⟩:∃ t,t=u1*4294967296+u0:=⟨_,rfl⟩;rw [←ht];have htb:t<18446744073709551616:=zo;have b1:((m2+2:Nat):Int)-1=((m2+1:Nat):Int):=zo;have b2:((m2+2:Nat):Int)-2=((m2:Nat):Int):=zo
  go_upto_block 4 with fail
  go_cut [16,17] from 128 to 163 (fun q r wq=>Ext wr wq∧∃ qq:Nat,q=.int .u64 qq∧qq<4294967296∧val u<(qq+1)*val vs∧qq*val vs<val u+val vs)
  case first =>
    go_wp2_with fail
    go_loopg [16,17] (t / v1) (fun g q r wq=>∃ rr:Nat,q=.int .u64 (g:Nat)∧r=.int .u64 (rr:Nat)∧rr<4294967296∧jp u vs u1 u0 v1 g rr∧Ext wr wq)
    case atStart =>
      subst ht;have:(u1*4294967296+u0) % v1<v1:=Nat.mod_lt _ zo;exact ⟨(u1*4294967296+u0) % v1,congrArg _ (qP ..),congrArg _ (qN ..),zo,HG0.out,Ext.drewN _ _⟩
    case round =>
      obtain ⟨rr,rfl,rfl,hrr,hG,hE⟩:=hrel;obtain ⟨hb1,hb2,hb3⟩:=kY hG hle htop hul0;unfold W32 at hb1 hb2 hb3;have hbL2:L<wr.heap.size:=nXn hbL hE.size;have hbV2:vb<wr.heap.size:=nXn hbV hE.size;have hm2b:m2≤4294967296:=zo;clear b1 b2;have hcv1:=hE.cell hcv1;have hcv2:=hE.cell hcv2;have hcu2:=hE.cell hcu2;have hcu2':wr.cell? ⟨L,g1+(m2+2)-2,none⟩=some (.int .u32 (u2:Int)):=by rw [show g1+(m2+2)-2=g1+m2 by omega];exact hcu2
      have HG:=Hi hG;have HE:=Hi hE;clear hG hE;by_cases hgW:4294967296≤gk
      · have hgd:decide ((4294967296:Int)≤gk)=true:=by simp;omega
        have hstep:=HG.out.step zo (nXn HLT.out (nXh _ hgW));have HSt:=Hi hstep;clear hstep;have hgt:gk≤4294967297:=hb1;by_cases hrW:4294967296≤rr+v1
        · have hrd:decide ((4294967296:Int)≤rr+v1)=true:=by simp;omega
          go_wp2
          go_quiet (fail)
          go_wp2
          go_meet
          case rel =>
            have hg1:=HSt.out.ge;exact ⟨HE.out.trans (Ext.drewN _ _),gk-1,congrArg _ zo,zo,hg1,HSt.out.fine HT.out (gZ zo hvl2 hrW) (by unfold W32;omega) zo⟩
        · have hrd:decide ((4294967296:Int)≤rr+v1)=false:=by simp;omega
          go_wp2
          go_quiet (fail)
          go_wp2
          go_roundg (gk-1)
          case measure=>omega
          case rel=>exact ⟨rr+v1,congrArg _ zo,rfl,zo,HSt.out,HE.out.trans (Ext.drewN _ _)⟩
      · have hgd:decide ((4294967296:Int)≤gk)=false:=by simp;omega
        have hbm:=fy (show gk<4294967296 by omega) hvl2;have hgv:(gk:Int)*v2≤18446744065119617025:=by rw [←Int.natCast_mul];exact Int.ofNat_le.2 hbm
        have hgv0:0≤(gk:Int)*v2:=Int.mul_nonneg zo zo;have hor:=kH hrr hul2;by_cases hcmp:rr*4294967296+u2<gk*v2
        · have hcd:decide (bits BinOp.or IntKind.u64 ((rr:Int)*4294967296) (u2:Int)<(gk:Int)*v2)=true:=by
            rw [hor,←Int.natCast_mul];simp only [decide_eq_true_eq];exact Int.ofNat_lt.2 hcmp
          have hg0 : 0 < gk := by rcases Nat.eq_zero_or_pos gk with h | h
                                  · subst h;simp at hcmp
                                  · exact h
          have hstep:=HG.out.step hg0 (HG.out.big HT.out hcmp);have HSt:=Hi hstep;clear hstep hor;by_cases hrW:4294967296≤rr+v1
          · have hrd:decide ((4294967296:Int)≤rr+v1)=true:=by simp;omega
            go_wp2
            go_quiet (fail)
            go_wp2
            go_meet
            case rel =>
              have hg1:=HSt.out.ge;exact ⟨HE.out.trans (Ext.drewN _ _),gk-1,congrArg _ zo,zo,hg1,HSt.out.fine HT.out (gZ zo hvl2 hrW) (by unfold W32;omega) zo⟩
          · have hrd:decide ((4294967296:Int)≤rr+v1)=false:=by simp;omega
            go_wp2
            go_quiet (fail)
            go_wp2
            go_roundg (gk-1)
            case measure=>omega
            case rel=>exact ⟨rr+v1,congrArg _ zo,rfl,zo,HSt.out,HE.out.trans (Ext.drewN _ _)⟩
        · have hcd:decide (bits BinOp.or IntKind.u64 ((rr:Int)*4294967296) (u2:Int)<(gk:Int)*v2)=false:=by
            rw [hor,←Int.natCast_mul];simp only [decide_eq_false_iff_not];intro h;exact hcmp (Int.ofNat_lt.1 h)
          have hcm:=Hi hcmp;clear hor hcmp;go_wp2
          go_quiet (fail)
          go_wp2
          go_meet
          case rel=>exact ⟨HE.out.trans (Ext.drewN _ _),gk,rfl,zo,HG.out.ge,HG.out.fine HT.out (by have:=hcm.out;unfold W32;omega) (by unfold W32;omega) zo⟩
  case rest =>
    obtain ⟨hE,q,rfl,hq,hq1,hq2⟩:=hcut;obtain ⟨wb,rfl⟩:∃ wb,wb=wr:=⟨wr,rfl⟩;have HQ1:=Hi hq1;have HQ2:=Hi hq2;have hj:=HJ.out;have S0:MS L pre u post re vs q wb wc 0 0 0:=⟨aL.of_ext hE,⟨[],by simpa using HU.out.ext hE,rfl,Dig.nil,by simp [val]⟩,dZ,dZ⟩;have HS0:=Hi S0;have hbLc:L<wc.heap.size:=nXn hbL hE.size;have hbVc:vb<wc.heap.size:=nXn hbV hE.size;clear hq1 hq2 hE S0 HG0 HU a1 a2 a3 a4 a5 a6 a8 hcv1 hcv2 hcu1 hcu0 hcu2 b1 b2 hj;go_wp2
    go_loopg [18,19,20] (m2+2) (fun g b c k wq=>∃ i cc bb:Nat,i+g=m2+2∧k=.int .i64 (i:Nat)∧c=.int .u64 (cc:Nat)∧b=.int .u64 (bb:Nat)∧MS L pre u post re vs q wb wq i cc bb)
    case atStart=>exact ⟨0,0,0,zo,rfl,rfl,rfl,HS0.out⟩
    case round =>
      obtain ⟨i,cc,bb,hi,rfl,rfl,rfl,hS⟩:=hrel;have hcc:=hS.c1;have hbb:=hS.b1;have HS:=Hi hS;clear hS HS0;have hbLq:L<wr.heap.size:=nXn hbL HS.out.mods.size;have hig:i+g1=pre.length+i:=by have:=HJ.out;omega
      have Hig:=Hi hig;have hcU:wr.cell? ⟨L,i+g1,none⟩=some (.int .u32 ((u.getD i 0:Nat):Int)):=by
        obtain ⟨os,h1,h2,_⟩:=HS.out.db;rw [hig,h1.cell (eM rfl h2 (by rw [HUL.out];omega)),m9 rfl h2 (by rw [HUL.out];omega)]
      have hfU:wr.frozen? ⟨L,i+g1,none⟩=false:=by obtain ⟨os,h1,h2,_⟩:=HS.out.db;exact h1.frozen _
      obtain ⟨x,hx⟩:∃ x,x=u.getD i 0:=⟨_,rfl⟩;have hxl:x<4294967296:=by rw [hx];exact DU.out.at _
      rw [←hx] at hcU;have HX:=Hi hx;clear hx hig;by_cases hlt:i<m2+2
      · obtain ⟨gr,rfl⟩:∃ gr,gk=gr+1:=⟨gk-1,zo⟩
        obtain ⟨vb2,voff2,d,hvo2,hcv,hd,hdl⟩:=HV.out.at hlt;obtain ⟨rfl,rfl⟩:vb=vb2∧0=voff2:=by cases hvo2;exact ⟨rfl,rfl⟩
        clear hvo2;rw [Nat.zero_add] at hcv;replace hcv:=HI.out.mods.cell (p:=⟨vb,i,none⟩) (by show ¬ (vb=L∨vb=Qb);omega) hcv;replace hcv:=HS.out.mods.cell (p:=⟨vb,i,none⟩) hvL hcv;have Hd:=Hi hd;clear hd;have hbm:=fy hq hdl;have hgv:(q:Int)*d≤18446744065119617025:=by rw [←Int.natCast_mul];exact Int.ofNat_le.2 hbm
        have hgv0:0≤(q:Int)*d:=Int.mul_nonneg zo zo;have e0:(cc:Int)+(q:Int)*d=((q*d+cc:Nat):Int):=by rw [Int.natCast_add,Int.natCast_mul];omega
        obtain ⟨p,hp⟩:∃ p,p=q*d+cc:=⟨_,rfl⟩;have hpb:p<18446744073709551616:=zo;have hpi:(cc:Int)+(q:Int)*d=(p:Int):=by rw [e0,hp]
        have hand:bits .and .u64 ((cc:Int)+(q:Int)*d) 4294967295=((p % 4294967296:Nat):Int):=by rw [hpi];exact zX hpb
        obtain ⟨pm,hpm⟩:∃ pm,pm=p % 4294967296:=⟨_,rfl⟩;rw [←hpm] at hand;have hpml:pm<4294967296:=by rw [hpm];exact Nat.mod_lt _ dZ
        have Hp:=Hi hp;have Hpi:=Hi hpi;have Hpm:=Hi hpm;clear e0 hp hpi hpm;have hiN:i+g1<N+1:=zo;by_cases hb:x<pm+bb
        · have hbd:decide ((x:Int)<(pm:Int)+bb)=true:=by simp;omega
          go_wp2
          go_roundg gr
          case measure=>omega
          case rel =>
            refine ⟨i+1,p / 4294967296,1,zo,by go_num,congrArg _ (by rw [Hpi.out];omega),rfl,?_⟩;rw [show (x:Int)+4294967296-((pm:Int)+bb)=((x+4294967296-(pm+bb):Nat):Int) by omega,Hig.out];exact HS.out.next (by rw [HUL.out];omega) (by rw [HV.out.len];omega) Hd.out HX.out Hp.out zo (by rw [←Hpm.out];omega) zo zo
        · have hbd:decide ((x:Int)<(pm:Int)+bb)=false:=by simp;omega
          go_wp2
          go_roundg gr
          case measure=>omega
          case rel =>
            refine ⟨i+1,p / 4294967296,0,zo,by go_num,congrArg _ (by rw [Hpi.out];omega),rfl,?_⟩;rw [show (x:Int)-((pm:Int)+bb)=((x-(pm+bb):Nat):Int) by omega,Hig.out];exact HS.out.next (by rw [HUL.out];omega) (by rw [HV.out.len];omega) Hd.out HX.out Hp.out zo (by rw [←Hpm.out];omega) zo zo
      · obtain rfl:i=m2+2:=by omega
        have hcU2:wr.cell? ⟨L,g1+(m2+2),none⟩=some (.int .u32 (x:Int)):=by rw [show g1+(m2+2)=m2+2+g1 by omega];exact hcU
        have hfU2:wr.frozen? ⟨L,g1+(m2+2),none⟩=false:=by rw [show g1+(m2+2)=m2+2+g1 by omega];exact hfU
        clear hcU hfU;have hv0':0<val vs:=by
          rcases Nat.eq_zero_or_pos (val vs) with h|h
          · have:=HLT.out;rw [h] at this;omega
          · exact h
        by_cases hb:x<cc+bb
        · have hbd:decide ((x:Int)<(cc:Int)+bb)=true:=by simp;omega
          obtain ⟨os,h1,h2,h3,h4⟩:=HS.out.db;obtain ⟨r,hr⟩:∃ r,r=x+4294967296-(cc+bb):=⟨_,rfl⟩;have hri:(x:Int)+4294967296-((cc:Int)+bb)=(r:Int):=zo;have hrl:r<4294967296:=zo;have hD:=h1.set (i:=pre.length+(m2+2)) (eM rfl h2 (by rw [HUL.out];omega)) r;rw [iD rfl h2 (by rw [HUL.out];omega),List.drop_of_length_le (by rw [HUL.out];omega),List.nil_append,show pre.length+(m2+2)=g1+(m2+2) by have:=HJ.out;omega] at hD;have hML:(os++[r]).length=m2+3:=by simp [h2]
          have hMD:Dig (os++[r]):=h3.append (Dig.cons hrl Dig.nil);have hM:val (os++[r])+q*val vs=val u+W32 ^ (m2+3):=(Ax (b':=1) h2 h4 HUL.out HV.out.len HX.out zo).trans (by rw [Nat.mul_one]);obtain ⟨M,hMe⟩:∃ M,M=os++[r]:=⟨_,rfl⟩;rw [←hMe] at hM hML hMD hD;have hMo:=HS.out.mods.trans (aL.setCell wr ⟨L,g1+(m2+2),none⟩ (.int .u32 (r:Int)));obtain ⟨w6,hw6⟩:∃ w6,w6=wr.setCell ⟨L,g1+(m2+2),none⟩ (.int .u32 (r:Int)):=⟨_,rfl⟩;rw [←hw6] at hD hMo;have hq0:1≤q:=EU hM (by have:=bE hMD;rwa [hML] at this);have A0:AB L pre M post re vs wb w6 0 0:=⟨hMo,⟨[],by simpa using hD,rfl,Dig.nil,by simp [val]⟩,dZ⟩;have HA0:=Hi A0;have HM:=Hi hM;have HML:=Hi hML;have HMD:=Hi hMD;have HW6:=Hi hw6;clear h1 h2 h3 h4 hD hML hMD hM hMe hMo hr A0 hw6;go_wp2;rw [←HW6.out];clear HW6 hcU2 hfU2 HS
          go_loopg [25,26] (m2+2) (fun g c k wq=>∃ i ca:Nat,i+g=m2+2∧k=.int .i64 (i:Nat)∧c=.int .u64 (ca:Nat)∧AB L pre M post re vs wb wq i ca)
          case atStart=>exact ⟨0,0,zo,rfl,rfl,HA0.out⟩
          case round =>
            obtain ⟨i,ca,hi,rfl,rfl,hA⟩:=hrel;have hca:=hA.c1;have HA:=Hi hA;clear hA HA0;have hbLq2:L<wr.heap.size:=nXn hbL HA.out.mods.size;have hbVq2:vb<wr.heap.size:=nXn hbV HA.out.mods.size;have hig:i+g1=pre.length+i:=by have:=HJ.out;omega
            have Hig:=Hi hig;have hcU:wr.cell? ⟨L,i+g1,none⟩=some (.int .u32 ((M.getD i 0:Nat):Int)):=by
              obtain ⟨os,h1,h2,_⟩:=HA.out.db;rw [hig,h1.cell (eM rfl h2 (by rw [HML.out];omega)),m9 rfl h2 (by rw [HML.out];omega)]
            have hfU:wr.frozen? ⟨L,i+g1,none⟩=false:=by obtain ⟨os,h1,h2,_⟩:=HA.out.db;exact h1.frozen _
            obtain ⟨y,hy⟩:∃ y,y=M.getD i 0:=⟨_,rfl⟩;have hyl:y<4294967296:=by rw [hy];exact HMD.out.at _
            rw [←hy] at hcU;have HY:=Hi hy;clear hy hig;by_cases hlt2:i<m2+2
            · obtain ⟨gr,rfl⟩:∃ gr,gk=gr+1:=⟨gk-1,zo⟩
              obtain ⟨vb2,voff2,d,hvo2,hcv,hd,hdl⟩:=HV.out.at hlt2;obtain ⟨rfl,rfl⟩:vb=vb2∧0=voff2:=by cases hvo2;exact ⟨rfl,rfl⟩
              clear hvo2;rw [Nat.zero_add] at hcv;replace hcv:=HI.out.mods.cell (p:=⟨vb,i,none⟩) (by show ¬ (vb=L∨vb=Qb);omega) hcv;replace hcv:=HA.out.mods.cell (p:=⟨vb,i,none⟩) hvL hcv;have Hd:=Hi hd;clear hd;have hiN:i+g1<N+1:=zo;have z1:IntKind.i64.wrap ((i:Int)+g1)=(i:Int)+g1:=IntWalk.i64_in _ zo;have z2:(0:Int)≤(i:Int)+g1:=zo;have z3:((i:Int)+g1).toNat=i+g1:=by omega
              have z4:IntKind.u64.wrap ((y:Int)+d)=(y:Int)+d:=by rw [bF];omega
              have z5:IntKind.u64.wrap ((ca:Int)+((y:Int)+d))=(ca:Int)+((y:Int)+d):=by rw [bF];omega
              go_wp2
              go_quiet (fail)
              go_wp2
              go_roundg gr
              case measure=>omega
              case rel =>
                rw [show ((ca:Int)+((y:Int)+d)) % 4294967296=(((y+d+ca) % 4294967296:Nat):Int) by omega,Hig.out];exact ⟨i+1,(y+d+ca) / 4294967296,zo,by go_num,congrArg _ zo,(HA.out.later (Ext.drewN _ _)).next (by rw [HML.out];omega) (by rw [HV.out.len];omega) Hd.out HY.out hdl hyl rfl⟩
            · obtain rfl:i=m2+2:=by omega
              have hcU2:wr.cell? ⟨L,g1+(m2+2),none⟩=some (.int .u32 (y:Int)):=by rw [show g1+(m2+2)=m2+2+g1 by omega];exact hcU
              have hfU2:wr.frozen? ⟨L,g1+(m2+2),none⟩=false:=by rw [show g1+(m2+2)=m2+2+g1 by omega];exact hfU
              clear hcU hfU;obtain ⟨os,h1,h2,h3,h4⟩:=HA.out.db;obtain ⟨r',hr'⟩:∃ r',r'=(y+ca) % 4294967296:=⟨_,rfl⟩;have hri':((y:Int)+ca) % 4294967296=(r':Int):=zo;have hrl':r' < 4294967296:=by rw [hr'];exact Nat.mod_lt _ dZ
              have hDD:=h1.set (i:=pre.length+(m2+2)) (eM rfl h2 (by rw [HML.out];omega)) r';rw [iD rfl h2 (by rw [HML.out];omega),List.drop_of_length_le (by rw [HML.out];omega),List.nil_append,show pre.length+(m2+2)=g1+(m2+2) by have:=HJ.out;omega] at hDD;have hR:val (os++[r'])+W32 ^ (m2+3)*((y+ca) / 4294967296)=val M+val vs:=by
                have hmm:=au (ds:=M) (k:=m2+2) (by rw [HML.out];omega);rw [aw (by rw [HML.out];omega),←HY.out] at hmm;rw [aw (ds:=vs) (by rw [HV.out.len];omega)] at h4;rw [bp,h2,hmm,hr'];exact si h4
              have hRD:Dig (os++[r']):=h3.append (Dig.cons hrl' Dig.nil);have hRL:(os++[r']).length=m2+3:=by simp [h2]
              have hfin:=mi (B:=W32 ^ (m2+3)) hv0' HQ2.out (by have:=bE HMD.out;rwa [HML.out] at this) (by have:=bE hRD;rwa [hRL] at this) HM.out hR zo;obtain ⟨-,f1,f2⟩:=hfin;have hMo:=HA.out.mods.trans (aL.setCell wr ⟨L,g1+(m2+2),none⟩ (.int .u32 (r':Int)));rw [HVV.out] at f1 f2;obtain ⟨hNx,z,hcQ,hfQ⟩:=HNext.out _ (os++[r']) hDD (by rw [hRL,HUL.out]) hRD f2 hMo;rw [←f1] at hNx;have HNx:=Hi hNx;have hQw:Qb<wr.heap.size:=by
                have:=nXq _ _ hcQ;simpa using this
              have hgq:g1<N-(m2+2)+1:=zo;clear h1 h2 h3 h4 hDD hR hRD hRL f1 f2 hMo hNx hr';go_wp2;rw [show (q:Int)-1=((q-1:Nat):Int) by omega];unfold DMI;refine ⟨_,_,_,_,_,_,_,_,_,_,_,_,_,_,_,_,_,_,_,_,_,_,_,_,_,_,_,_,_,_,_,_,_,_,_,_,_,_,_,_,_,_,_,_,_,_,_,_,_,_,_,_,_,_,_,_,_,_,_,_,_,_,_,_,_,_,_,_,_,_,_,_,_,_,_,_,_,_,_,_,_,_,_,_,_,_,_,_,_,_,_,_,_,_,_,_,_,_,_,_,_,_,_,_,_,_,_,_,_,_,_,_,_,_,_,_,_,_,_,_,_,_,_,_,_,_,_,_,_,_,_,_,_,_,_,_,_,_,_,_,_,_,_,_,_,_,_,_,_,_,_,_,_,_,_,_,_,_,_,_,_,_,_,_,_,_,_,_,_,_,_,_,_,_,_,_,_,_,_,_,_,_,_,_,_,_,_,_,_,_,_,_,_,_,_,_,_,_,_,_,_,_,_,_,_,_,_,_,_,_,_,_,_,_,_,_,_,_,_,_,_,_,_,_,_,_,_,_,_,_,_,_,_,_,_,_,_,_,_,_,_,_,_,_,_,_,_,_,_,_,_,_,_,_,_,_,_,_,_,_,_,_,_,_,_,_,_,_,_,_,_,_,_,_,_,_,_,_,_,⟨zo,HNx.out⟩,rfl⟩
        · have hbd:decide ((x:Int)<(cc:Int)+bb)=false:=by simp;omega
          obtain ⟨os,h1,h2,h3,h4⟩:=HS.out.db;obtain ⟨r,hr⟩:∃ r,r=x-(cc+bb):=⟨_,rfl⟩;have hri:(x:Int)-((cc:Int)+bb)=(r:Int):=zo;have hrl:r<4294967296:=zo;have hD:=h1.set (i:=pre.length+(m2+2)) (eM rfl h2 (by rw [HUL.out];omega)) r;rw [iD rfl h2 (by rw [HUL.out];omega),List.drop_of_length_le (by rw [HUL.out];omega),List.nil_append,show pre.length+(m2+2)=g1+(m2+2) by have:=HJ.out;omega] at hD;have hML:(os++[r]).length=u.length:=by simp [h2,HUL.out]
          have hMD:Dig (os++[r]):=h3.append (Dig.cons hrl Dig.nil);have hM:val (os++[r])+q*val vs=val u:=(Ax (b':=0) h2 h4 HUL.out HV.out.len HX.out zo).trans (by rw [Nat.mul_zero,Nat.add_zero]);obtain ⟨f1,f2⟩:=dP hv0' HQ1.out hM;have hMo:=HS.out.mods.trans (aL.setCell wr ⟨L,g1+(m2+2),none⟩ (.int .u32 (r:Int)));rw [HVV.out] at f1 f2;obtain ⟨hNx,z,hcQ,hfQ⟩:=HNext.out _ (os++[r]) hD hML hMD f2 hMo;rw [←f1] at hNx;have HNx:=Hi hNx;have hQw:Qb<wr.heap.size:=by
            have:=nXq _ _ hcQ;simpa using this
          have hgq:g1<N-(m2+2)+1:=zo;obtain ⟨w6,hw6⟩:∃ w6,w6=wr.setCell ⟨L,g1+(m2+2),none⟩ (.int .u32 (r:Int)):=⟨_,rfl⟩;clear h1 h2 h3 h4 hD hML hMD hM f1 f2 hMo hNx hr;clear hw6 w6;go_wp2;unfold DMI;refine ⟨_,_,_,_,_,_,_,_,_,_,_,_,_,_,_,_,_,_,_,_,_,_,_,_,_,_,_,_,_,_,_,_,_,_,_,_,_,_,_,_,_,_,_,_,_,_,_,_,_,_,_,_,_,_,_,_,_,_,_,_,_,_,_,_,_,_,_,_,_,_,_,_,_,_,_,_,_,_,_,_,_,_,_,_,_,_,_,_,_,_,_,_,_,_,_,_,_,_,_,_,_,_,_,_,_,_,_,_,_,_,_,_,_,_,_,_,_,_,_,_,_,_,_,_,_,_,_,_,_,_,_,_,_,_,_,_,_,_,_,_,_,_,_,_,_,_,_,_,_,_,_,_,_,_,_,_,_,_,_,_,_,_,_,_,_,_,_,_,_,_,_,_,_,_,_,_,_,_,_,_,_,_,_,_,_,_,_,_,_,_,_,_,_,_,_,_,_,_,_,_,_,_,_,_,_,_,_,_,_,_,_,_,_,_,_,_,_,_,_,_,_,_,_,_,_,_,_,_,_,_,_,_,_,_,_,_,_,_,_,_,_,_,_,_,_,_,_,_,_,_,_,_,_,_,_,_,_,_,_,_,_,_,_,_,_,_,_,_,_,_,_,_,_,_,_,_,_,_,_,⟨zo,HNx.out⟩,rfl⟩
end Go.Proofs.YtkcpmclnocmalaaGreat
