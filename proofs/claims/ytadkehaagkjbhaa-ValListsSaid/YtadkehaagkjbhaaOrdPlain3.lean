/-
  The plain laws of layer 3, part 3.
-/
import Derived.Test.YtadkehaagkjbhaaOrdPlain2
namespace Go.AV.Ord
open Go.Op
theorem pref_out {a b : List (List UInt8)} {k : Nat} (h : (decide (a.length ≤ b.length) && pref (a.take k) b) = false) : (decide (a.length ≤ b.length) && pref (a.take k) b) = pref a b := by
  rw [h]
  by_cases hab : a.length ≤ b.length
  · exact (pref_none (k := k) (by simpa [hab] using h)).symm
  · exact (pref_len (by omega)).symm
end Go.AV.Ord
