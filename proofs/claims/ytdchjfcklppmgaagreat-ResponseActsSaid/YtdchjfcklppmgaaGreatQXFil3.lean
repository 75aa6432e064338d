/- Series, Parallel, Run of the filters of make: what they return. Plain facts. -/
import Derived.Test.YtdchjfcklppmgaaGreatQXFil
import Derived.Test.YtdchjfcklppmgaaGreatQXRp3
import Derived.Test.YtdchjfcklppmgaaGreatQXRp4
import Derived.Test.YtdchjfcklppmgaaGreatQXRp5
import Derived.Test.YtdchjfcklppmgaaGreatQXRp6
set_option linter.unusedVariables false
namespace Go.Proofs.YtdchjfcklppmgaaGreat
open Go.RowKit Go.Front Go.Num Stab
structure FilP (b a:List Rat):Prop where
 lb:b.length≤4
 la:a.length≤4
 zb:FrB 7 b
 za:FrB 7 a
 tb:tz b = b
 ta:tz a = a
 head:a.getD 0 0 = 1
theorem fil_p (xs ks:List Int):FilP (filB xs) (filA ks):=⟨filB_len xs,filA_len ks,filB_frb xs,filA_frb ks,filB_tz xs,filA_tz ks,filA_head ks⟩
theorem FilP.vf {b a:List Rat} (h:FilP b a):VF b a:=⟨by rw [h.tb]; have:=h.lb; omega,by rw [h.ta]; have:=h.la; omega,h.head⟩
structure SerP (b a:List Rat):Prop where
 lb:b.length≤7
 la:a.length≤7
 zb:FrB 31 b
 za:FrB 31 a
 tb:tz b = b
 ta:tz a = a
 head:a.getD 0 0 = 1
theorem SerP.vf {b a:List Rat} (h:SerP b a):VF b a:=⟨by rw [h.tb]; have:=h.lb; omega,by rw [h.ta]; have:=h.la; omega,h.head⟩
theorem runK_mono {sb sa sx lb la sb' sa' sx' lb' la':Nat} (h1:sb≤sb') (h2:sa≤sa') (h3:sx≤sx') (h4:lb≤lb') (h5:la≤la'):runK sb sa sx lb la≤runK sb' sa' sx' lb' la':=by
 unfold runK
 have a1:=Nat.mul_le_mul h4 (show sb + sx + 1≤sb' + sx' + 1 by omega)
 have a2:=Nat.mul_le_mul h5 (show sa + 1≤sa' + 1 by omega)
 omega
end Go.Proofs.YtdchjfcklppmgaaGreat
