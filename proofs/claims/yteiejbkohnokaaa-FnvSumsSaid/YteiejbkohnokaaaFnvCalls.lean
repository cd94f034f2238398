/- The contracts of the program's functions fnv.More, fnv.Sum and the law's awake, in the words of the plain hash; each text of at most 2^47 - 4096 bytes, each word a word of 64 bits. -/
import Derived.Test.YteiejbkohnokaaaPFnvApartx1
import Derived.Test.YteiejbkohnokaaaPureFnvApart
import Derived.Lib.IndexBytes
namespace Go.Proofs.Yteiejbkohnokaaa.FnvCalls
open Go.RowKit Go.Proofs.YteiejbkohnokaaaW.PrintWords Go.Proofs.YteiejbkohnokaaaW.PrintLast Go.Proofs.YteiejbkohnokaaaW.PrintMore Go.Proofs.Yteiejbkohnokaaa.FnvMath

/-- The hash of a text, begun with a word. -/
def HI (h : Int) (s : ByteArray) : Int := ((hashN h.toNat s.data.toList : Nat) : Int)
/-- The hash of a text. -/
def SI (s : ByteArray) : Int := ((hashN 14695981039346656037 s.data.toList : Nat) : Int)
theorem HI_range {h : Int} (h1 : h < 18446744073709551616) (s : ByteArray) : 0 ≤ HI h s ∧ HI h s < 18446744073709551616 := by
  have := hashN_lt s.data.toList h.toNat (by omega)
  unfold HI; omega
theorem SI_range (s : ByteArray) : 0 ≤ SI s ∧ SI s < 18446744073709551616 := by
  have := hashN_lt s.data.toList 14695981039346656037 (by decide)
  unfold SI; omega
theorem toNat_SI (s : ByteArray) : (SI s).toNat = hashN 14695981039346656037 s.data.toList := by unfold SI; exact Int.toNat_natCast _
theorem toNat_HI (h : Int) (s : ByteArray) : (HI h s).toNat = hashN h.toNat s.data.toList := by unfold HI; exact Int.toNat_natCast _

theorem more_any (h : Int) (h0 : 0 ≤ h) (h1 : h < 18446744073709551616) (s : ByteArray) (hs : s.size ≤ 140737488351232) (w : World) :
    Calls Try.prog 15 #[.int .u64 h, .string s] w fun e w' => e = .returned (.int .u64 (HI h s)) ∧ Drawn0 w w' := by
  have e := Pure.FnvApart.more_is s hs (s.size + 1) h.toNat (by omega) (by omega)
  rw [Int.toNat_of_nonneg h0] at e
  exact PFnvApart.fnv_More.calls (s.size + 1) h s _ w e

theorem sum_any (s : ByteArray) (hs : s.size ≤ 140737488351232) (w : World) :
    Calls Try.prog 16 #[.string s] w fun e w' => e = .returned (.int .u64 (SI s)) ∧ Drawn0 w w' := by
  have e := Pure.FnvApart.more_is s hs (s.size + 1) 14695981039346656037 (by omega) (by decide)
  refine PFnvApart.fnv_Sum.calls (s.size + 1) s _ w ?_
  unfold PFnvApart.fnv_Sum.f
  rw [show (14695981039346656037 : Int) = ((14695981039346656037 : Nat) : Int) from rfl, e]
  rfl

theorem awake_any (w : World) : Calls Try.prog 14 #[] w fun e w' => e = .returned (.bool true) ∧ Drawn0 w w' :=
  PFnvApart.usherlaw06_awake.calls 7 true w (Pure.FnvApart.awake_is 7 (by decide))

end Go.Proofs.Yteiejbkohnokaaa.FnvCalls
