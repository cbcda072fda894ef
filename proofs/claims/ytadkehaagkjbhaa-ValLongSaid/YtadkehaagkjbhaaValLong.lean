/-
  Plain theory of long texts: values as long as may be, and longer.
-/
import Derived.Test.YtadkehaagkjbhaaValOrd3
import Derived.Test.YtadkehaagkjbhaaMakeB
namespace Go.AV.Val
open Go.AV.Ord Go.AV.Oct
theorem and255 (n : Int) : ∃ m : Nat, m ≤ 255 ∧ IntKind.i64.wrap ((BitVec.ofInt IntKind.i64.bits n &&& BitVec.ofInt IntKind.i64.bits 255).toNat : Int) = (m : Int) := by
  refine ⟨(BitVec.ofInt IntKind.i64.bits n).toNat % 256, by omega, ?_⟩
  have e : (BitVec.ofInt IntKind.i64.bits 255).toNat = 2 ^ 8 - 1 := by decide
  rw [BitVec.toNat_and, e, Nat.and_two_pow_sub_one_eq_mod, wrap_i64 ⟨by omega, by omega⟩]
def zerosT (m : Nat) : List UInt8 := List.replicate m 0
def longF (m : Nat) : F := ⟨[97], ofText (zerosT m)⟩
def longV (b : Bool) (m : Nat) : V := if b then ofMapV [longF m] else ofText (zerosT m)
theorem ofMap_one (m : Nat) : ofMapV [longF m] = .mk 5 false 0 [] [] [longF m] := rfl
theorem right_text (d : Nat) (s : List UInt8) : rightV (d + 1) (ofText s) = true := by
  simp [rightV, ofText, onlyV, rises, V.kind, V.yes, V.num, V.text, V.list, V.fields]
theorem right_long (b : Bool) (m : Nat) : rightV 32 (longV b m) = true := by
  cases b
  · exact right_text 31 _
  · show rightV 32 (ofMapV [longF m]) = true
    rw [ofMap_one]
    simp [rightV, longF, F.val, onlyV, rises, V.kind, V.yes, V.num, V.text, V.list, V.fields, ofText]
theorem wf_textV (s : List UInt8) : WfV (ofText s) := .mk _ _ _ _ _ _ (by unfold i64; decide) (by unfold i64; decide) (fun _ h => by cases h) (fun _ h => by cases h)
theorem wf_long (b : Bool) (m : Nat) : WfV (longV b m) := by
  cases b
  · exact wf_textV _
  · show WfV (ofMapV [longF m])
    rw [ofMap_one]
    exact .mk _ _ _ _ _ _ (by unfold i64; decide) (by unfold i64; decide) (fun _ h => by cases h) (fun f h => by rw [List.mem_singleton.1 h]; exact wf_textV _)
theorem small_long (b : Bool) (m : Nat) : SmallV (longV b m) := by
  cases b
  · exact small_text _
  · show SmallV (ofMapV [longF m])
    rw [ofMap_one]
    exact .mk _ _ _ _ _ _ (by simp) (by simp) (fun _ h => by cases h) (fun f h => by rw [List.mem_singleton.1 h]; exact small_text _)
theorem len_text {m : Nat} (h : 256 ≤ m) (h2 : m ≤ 65535) : (encV (ofText (zerosT m))).length = 4 + m := by
  have hz : szN m = 2 := szN_eq (k := 1) (by omega) (by omega)
  rw [encV_eq]
  simp only [ofText, V.kind, V.text, show ¬ (3 : Int) = 1 by decide, show ¬ (3 : Int) = 2 by decide, if_false, if_true, List.length_cons, textB, List.length_append, numB_len, zerosT, List.length_replicate, hz]
  omega
theorem len_long {b : Bool} {m : Nat} (h : 256 ≤ m) (h2 : m ≤ 65535) : (encV (longV b m)).length = 4 + m + (if b then 6 else 0) := by
  have hz1 : szN 1 = 1 := by rw [szN_pos (by decide), show (1 : Nat) / 256 = 0 by decide, szN_zero]
  cases b
  · exact len_text h h2
  · show (encV (ofMapV [longF m])).length = _
    rw [ofMap_one, encV_eq]
    simp only [V.kind, V.fields, show ¬ (5 : Int) = 1 by decide, show ¬ (5 : Int) = 2 by decide, show ¬ (5 : Int) = 3 by decide, show ¬ (5 : Int) = 4 by decide, if_false, if_true, List.length_cons, List.length_append, List.length_nil, numB_len, List.flatMap_cons, List.flatMap_nil, fieldB, longF, F.name, F.val, textB, hz1, len_text h h2]
    omega
theorem enc_long {b : Bool} {m : Nat} {s : List UInt8} {e : Int} (hO : encO (longV b m) = (s, e)) (hl : 4096 < (encV (longV b m)).length) : s = [] ∧ e = 4 := by
  refine encO_long hO (right_long b m) fun h0 => ?_
  have := (encO_yes hO (right_long b m) h0).2
  omega
theorem enc_short {b : Bool} {m : Nat} {s : List UInt8} {e : Int} (hO : encO (longV b m) = (s, e)) (hl : (encV (longV b m)).length ≤ 4096) : s = encV (longV b m) ∧ e = 0 := by
  unfold encO at hO
  rw [if_pos (right_long b m), if_neg (by omega)] at hO
  cases hO
  exact ⟨rfl, rfl⟩
end Go.AV.Val
