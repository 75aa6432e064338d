/- The filters of make: their numbers. Plain facts. -/
import Derived.Test.YtpieblkklbilgaaGreatQPM27
import Derived.Test.YtpieblkklbilgaaGreatQPM11
import Derived.Test.YtpieblkklbilgaaGreatQPM10
import Derived.Test.YtpieblkklbilgaaGreatQPRp1
set_option linter.unusedVariables false
namespace Go.Proofs.YtpieblkklbilgaaGreat
open Go.RowKit Go.Front Go.Num
def filB (xs:List Int):List Rat:=polyQ xs 3
def keL (xs:List Int):List Rat:=(xs.take 3).map keptQ
def filA (xs:List Int):List Rat:=tz (Stab.ups (keL xs))
theorem keq_all:∀ m:Nat,m < 15→(-1 < (((m:Int) - 7:Int):Rat) / ((8:Int):Rat)∧(((m:Int) - 7:Int):Rat) / ((8:Int):Rat) < 1)∧((((m:Int) - 7:Int):Rat) / ((8:Int):Rat)).num.natAbs < W32∧((((m:Int) - 7:Int):Rat) / ((8:Int):Rat)).den < W32 ∧
  ((((m:Int) - 7:Int):Rat) / ((8:Int):Rat) * ((8:Nat):Rat)).den=1∧((((m:Int) - 7:Int):Rat) / ((8:Int):Rat) * ((8:Nat):Rat)).num.natAbs < W32:=by decide +kernel
theorem keq_ok (n:Int):(-1 < keptQ n∧keptQ n < 1)∧Sz 1 (keptQ n)∧Fr 1 8 (keptQ n):=by
 have h1:=Int.emod_nonneg n (show (15:Int) ≠ 0 by decide)
 have h2:=Int.emod_lt_of_pos n (show (0:Int) < 15 by decide)
 have h:=keq_all (n % 15).toNat (by omega)
 rw [show (((n % 15).toNat:Nat):Int)=n % 15 by omega] at h
 exact ⟨h.1,⟨by rw [Nat.pow_one];exact h.2.1,by rw [Nat.pow_one];exact h.2.2.1⟩,h.2.2.2.1,by rw [Nat.pow_one];exact h.2.2.2.2⟩
theorem keL_len (xs:List Int):(keL xs).length≤3:=by unfold keL;rw [List.length_map,List.length_take];omega
theorem keL_in (xs:List Int):∀ r ∈ keL xs,-1 < r∧r < 1:=fun r hr=>by obtain ⟨n,-,rfl⟩:=List.mem_map.1 hr;exact (keq_ok n).1
theorem keL_sz (xs:List Int):SzL 1 (keL xs):=fun r hr=>by obtain ⟨n,-,rfl⟩:=List.mem_map.1 hr;exact (keq_ok n).2.1
theorem keL_fr (xs:List Int):FrL 1 8 (keL xs):=fun r hr=>by obtain ⟨n,-,rfl⟩:=List.mem_map.1 hr;exact (keq_ok n).2.2
theorem ups_fr (k:List Rat) (h:FrL 1 8 k):FrL (2 * k.length+1) (8 ^ k.length) (Stab.ups k):=by
 induction k using Stab.snoc_ind with
 | h0 =>
  intro q hq
  obtain rfl:q=1:=by simpa [Stab.ups] using hq
  exact Fr.int (z:=1) (by decide) (by decide +kernel)
 | h1 l r ih =>
  have ih':=ih (fun x hx=>h x (by simp [hx]))
  rw [Stab.ups_snoc,List.length_append,List.length_singleton]
  intro q hq
  obtain ⟨i,hi,rfl⟩:=List.mem_iff_getElem.1 hq
  rw [Stab.up_length,Stab.ups_length] at hi
  have e:=Stab.up_at (c:=Stab.ups l) (k:=r) (i:=i) (Stab.ups_length l) (by omega)
  rw [List.getD_eq_getElem?_getD,List.getElem?_eq_getElem (by rw [Stab.up_length,Stab.ups_length];omega)] at e
  simp only [Option.getD_some] at e
  rw [e]
  have h8:8 < W32 ^ 1:=by decide
  have h1:=(ih'.at i).den h8
  have h2:=(h r (by simp)).mul (ih'.at (l.length+1 - i))
  rw [Nat.mul_comm 8] at h2
  rw [show 2 * (l.length+1)+1=2 * l.length+1+1+1 by omega,Nat.pow_succ]
  exact h1.add (h2.mono (by omega))
theorem filA_frb (xs:List Int):FrB 7 (filA xs):=by
 have hl:=keL_len xs
 have h:=ups_fr _ (keL_fr xs)
 have hp:8 ^ (keL xs).length≤8 ^ 3:=Nat.pow_le_pow_right (by decide) hl
 exact FrB.tz ⟨by decide,_,Nat.pow_pos (by decide),Nat.lt_of_le_of_lt hp (by decide),h.mono (by omega)⟩
theorem filB_len (xs:List Int):(filB xs).length≤4:=by
 unfold filB polyQ
 refine Nat.le_trans (tz_len_le _) ?_
 rw [List.length_map,List.length_take]
 omega
theorem filB_sz (xs:List Int):SzL 1 (filB xs):=SzL.tz (rats_sz _)
theorem filB_frb (xs:List Int):FrB 7 (filB xs):=(FrB.of (filB_sz xs) (filB_len xs)).mono (by decide)
theorem filA_len (xs:List Int):(filA xs).length≤4:=by
 have h:=tz_len_le (Stab.ups (keL xs))
 rw [Stab.ups_length] at h
 have:=keL_len xs
 show (tz (Stab.ups (keL xs))).length≤4
 omega
theorem filA_up (xs:List Int):upV (keL xs)=(0,filA xs):=upV_ok (keL_in xs) (by have:=keL_len xs;omega)
end Go.Proofs.YtpieblkklbilgaaGreat
