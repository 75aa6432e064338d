/- Fb, Crs, Acr, Amp, Awk8 -/
import Derived.Test.YtpieblkklbilgaaGreatQKM12
set_option linter.unusedVariables false
namespace Go.Proofs.YtpieblkklbilgaaGreat
open Go.RowKit Go.Front Go.Num
attribute [local go_sem] XW.cell XW.frozen
theorem OutB.put {w1 w2:World} {L B b:Nat} {os:List Rat} {T:TypeId} {cs:Array Value} (h:OutB w1 L os B) (T2:PutB w1 b T cs w2) (hb:b ≠ L):OutB w2 L os B:=by
 obtain ⟨rs,h1,h2,h3⟩:=h
 exact ⟨rs,T2.rest L _ (Ne.symm hb) h1,h2.rawkeep T2.keep,h3⟩
def crE (b c:List Rat) (k:Nat):Rat:=if k=0 then corV b c k else corV b c k+corV c b k
def crossV (ps qs:List Rat):List Rat:=fbV ((List.range (max (tz ps).length (tz qs).length)).map (crE (tz ps) (tz qs)))
end Go.Proofs.YtpieblkklbilgaaGreat
namespace Go.Proofs.YtpieblkklbilgaaGreat
open Go.RowKit Go.Front Go.Num
theorem sm_extend {n m:Nat} {f:Nat→Rat} (h:n≤m) (h0:∀ i,n≤i→i < m→f i=0):Stab.sm n f=Stab.sm m f:=by
 obtain ⟨d,rfl⟩:∃ d,m=n+d:=⟨m - n,by omega⟩
 rw [Stab.sm_split,Stab.sm_congr (n:=d) (g:=fun _=>0) (fun i hi=>h0 (n+i) (by omega) (by omega)),Stab.sm_zero]
 grind
end Go.Proofs.YtpieblkklbilgaaGreat
namespace Go.Proofs.YtpieblkklbilgaaGreat
open Go.RowKit Go.Front Go.Num
attribute [local go_sem] XW.cell XW.frozen
def OwnW (w:World) (D:Nat→Prop) (v:Value) (qs:List Rat):Prop:=∃ rs,OwnL w D v rs∧Vals RawR w rs qs
theorem OwnW.ext {w w':World} {D:Nat→Prop} {v:Value} {qs:List Rat} (h:OwnW w D v qs) (he:Ext w w'):OwnW w' D v qs:=let ⟨rs,h1,h2⟩:=h;⟨rs,h1.ext he,h2.raw_ext he⟩
theorem OwnW.raw {w:World} {D:Nat→Prop} {s:SH} {qs:List Rat} (h:OwnW w D s.v qs):RawL w s qs:=by
 obtain ⟨ao,n,c⟩:=s
 obtain ⟨rs,h1,h2⟩:=h
 rcases h1 with ⟨e,rfl⟩ | ⟨L,cap,re,e,hB,h3,h4,h5,h6,h7⟩
 ·have:qs=[]:=List.length_eq_zero_iff.1 (by rw [← h2.1];rfl)
  subst this
  obtain ⟨rfl,rfl,rfl⟩:ao=none∧n=0∧c=0:=by simpa using e
  exact ⟨[],RS.nil _ _ _ (by decide),Vals.nil _ _⟩
 ·obtain ⟨rfl,rfl,rfl⟩:ao=some ⟨L,0,none⟩∧n=rs.length∧c=cap:=by simpa using e
  exact ⟨rs,h3.rs rfl h4 h5,h2⟩
theorem OwnW.put {w1 w2:World} {D:Nat→Prop} {v:Value} {qs:List Rat} {b:Nat} {T:TypeId} {cs:Array Value} (h:OwnW w1 D v qs) (T2:PutB w1 b T cs w2) (hb:¬ D b):OwnW w2 D v qs:=by
 obtain ⟨rs,h1,h2⟩:=h
 exact ⟨rs,h1.imp id fun ⟨L,cap,re,g1,g2,g3,g4⟩=>⟨L,cap,re,g1,g2,T2.rest L _ (fun e=>hb (e ▸ g2)) g3,g4⟩,h2.rawkeep T2.keep⟩
end Go.Proofs.YtpieblkklbilgaaGreat
