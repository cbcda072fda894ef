/-
  Plain theory of layer 2 (val): the order of two values.
-/
import Derived.Test.YtjamnhofbkgblaaValAV2
import Derived.Test.YtjamnhofbkgblaaA18
namespace Go.AV.Val
open Go.AV.Ord Go.AV.Oct
def cmpI (a b : Int) : Int := if a < b then -1 else if b < a then 1 else 0
def yesI (b : Bool) : Int := if b then 1 else 0
mutual
def cmpV : V → V → Int
  | .mk k y i t l fs, o => if cmpI k o.kind ≠ 0 then cmpI k o.kind else if k = 1 then cmpI (yesI y) (yesI o.yes) else if k = 2 then cmpI i o.num else if k = 3 then Lib.compareBytes t o.text else if k = 4 then cmpL l o.list else if k = 5 then cmpF fs o.fields else 0
def cmpL : List V → List V → Int
  | [], [] => 0
  | [], _ :: _ => -1
  | _ :: _, [] => 1
  | a :: l, b :: m => if cmpV a b ≠ 0 then cmpV a b else cmpL l m
def cmpF : List F → List F → Int
  | [], [] => 0
  | [], _ :: _ => -1
  | _ :: _, [] => 1
  | .mk n v :: l, g :: m => if (if Lib.compareBytes n g.name ≠ 0 then Lib.compareBytes n g.name else cmpV v g.val) ≠ 0 then (if Lib.compareBytes n g.name ≠ 0 then Lib.compareBytes n g.name else cmpV v g.val) else cmpF l m
end
def orI (a b : Int) : Int := if a ≠ 0 then a else b
def cmpF1 (f g : F) : Int := orI (Lib.compareBytes f.name g.name) (cmpV f.val g.val)
theorem cmpV_mk (k : Int) (y : Bool) (i : Int) (t : List UInt8) (l : List V) (fs : List F) (o : V) : cmpV (.mk k y i t l fs) o = if cmpI k o.kind ≠ 0 then cmpI k o.kind else if k = 1 then cmpI (yesI y) (yesI o.yes) else if k = 2 then cmpI i o.num else if k = 3 then Lib.compareBytes t o.text else if k = 4 then cmpL l o.list else if k = 5 then cmpF fs o.fields else 0 := by rw [cmpV]
theorem cmpL_cons (a b : V) (l m : List V) : cmpL (a :: l) (b :: m) = if cmpV a b ≠ 0 then cmpV a b else cmpL l m := by rw [cmpL]
theorem cmpF_cons (f g : F) (l m : List F) : cmpF (f :: l) (g :: m) = if cmpF1 f g ≠ 0 then cmpF1 f g else cmpF l m := by
  cases f
  rw [cmpF]; rfl
theorem cmpL_nn : cmpL [] [] = 0 := by rw [cmpL]
theorem cmpL_nc (b : V) (m : List V) : cmpL [] (b :: m) = -1 := by rw [cmpL]
theorem cmpL_cn (b : V) (m : List V) : cmpL (b :: m) [] = 1 := by rw [cmpL]
theorem cmpF_nn : cmpF [] [] = 0 := by rw [cmpF]
theorem cmpF_nc (b : F) (m : List F) : cmpF [] (b :: m) = -1 := by rw [cmpF]
theorem cmpF_cn (b : F) (m : List F) : cmpF (b :: m) [] = 1 := by rw [cmpF]
section
variable {xs zs : List V} {fs gs : List F} {k : Nat}
theorem cmpL_step {x z : V} (hx : xs[k]? = some x) (hz : zs[k]? = some z) (h : cmpV x z = 0) : cmpL (xs.drop k) (zs.drop k) = cmpL (xs.drop (k + 1)) (zs.drop (k + 1)) := by
  rw [drop_one hx, drop_one hz, cmpL_cons, h]; rfl
theorem cmpL_at {x z : V} (hx : xs[k]? = some x) (hz : zs[k]? = some z) (h : ¬ cmpV x z = 0) : cmpL (xs.drop k) (zs.drop k) = cmpV x z := by
  rw [drop_one hx, drop_one hz, cmpL_cons, if_pos h]
theorem cmpL_gt {x : V} (hx : xs[k]? = some x) (hz : zs.length ≤ k) : cmpL (xs.drop k) (zs.drop k) = 1 := by
  rw [drop_one hx, List.drop_eq_nil_of_le hz, cmpL_cn]
theorem cmpL_lt {z : V} (hx : xs.length ≤ k) (hz : zs[k]? = some z) : cmpL (xs.drop k) (zs.drop k) = -1 := by
  rw [drop_one hz, List.drop_eq_nil_of_le hx, cmpL_nc]
theorem cmpL_eq (hx : xs.length ≤ k) (hz : zs.length ≤ k) : cmpL (xs.drop k) (zs.drop k) = 0 := by
  rw [List.drop_eq_nil_of_le hz, List.drop_eq_nil_of_le hx, cmpL_nn]
theorem cmpF_step {x z : F} (hx : fs[k]? = some x) (hz : gs[k]? = some z) (h : cmpF1 x z = 0) : cmpF (fs.drop k) (gs.drop k) = cmpF (fs.drop (k + 1)) (gs.drop (k + 1)) := by
  rw [drop_one hx, drop_one hz, cmpF_cons, h]; rfl
theorem cmpF_at {x z : F} (hx : fs[k]? = some x) (hz : gs[k]? = some z) (h : ¬ cmpF1 x z = 0) : cmpF (fs.drop k) (gs.drop k) = cmpF1 x z := by
  rw [drop_one hx, drop_one hz, cmpF_cons, if_pos h]
theorem cmpF_gt {x : F} (hx : fs[k]? = some x) (hz : gs.length ≤ k) : cmpF (fs.drop k) (gs.drop k) = 1 := by
  rw [drop_one hx, List.drop_eq_nil_of_le hz, cmpF_cn]
theorem cmpF_lt {z : F} (hx : fs.length ≤ k) (hz : gs[k]? = some z) : cmpF (fs.drop k) (gs.drop k) = -1 := by
  rw [drop_one hz, List.drop_eq_nil_of_le hx, cmpF_nc]
theorem cmpF_eq (hx : fs.length ≤ k) (hz : gs.length ≤ k) : cmpF (fs.drop k) (gs.drop k) = 0 := by
  rw [List.drop_eq_nil_of_le hz, List.drop_eq_nil_of_le hx, cmpF_nn]
end
def ofInt (n : Int) : V := .mk 2 false n [] [] []
def ofText (s : List UInt8) : V := .mk 3 false 0 s [] []
def ofBool (b : Bool) : V := .mk 1 b 0 [] [] []
def ofList (l : List V) : V := .mk 4 false 0 [] l []
/-- What Encode gives. -/
def encO (v : V) : List UInt8 × Int := if rightV 32 v then if 4096 < (encV v).length then ([], 4) else (encV v, 0) else ([], 1)
theorem small_int (n : Int) : SmallV (ofInt n) := .mk _ _ _ _ _ _ (by decide) (by decide) (fun _ h => by cases h) (fun _ h => by cases h)
theorem wf_int {n : Int} (h : i64 n) : WfV (ofInt n) := .mk _ _ _ _ _ _ (by unfold i64; decide) h (fun _ h => by cases h) (fun _ h => by cases h)
theorem right_int (d : Nat) (n : Int) : rightV (d + 1) (ofInt n) = true := by
  simp [rightV, ofInt, onlyV, rises, V.kind, V.yes, V.num, V.text, V.list, V.fields]
theorem enc_one : encV (ofInt 1) = [2, 0, 1, 2] := by
  have h2 : numB 2 = [1, 2] := by
    have h : szN 2 = 1 := by rw [szN_pos (by decide)]; simp [szN_zero]
    rw [numB, h]; decide
  rw [encV_eq]
  simp only [ofInt, V.kind, V.num, intB]
  rw [show zigN 1 / 4294967296 = 0 by decide, show zigN 1 % 4294967296 = 2 by decide, numB_0, h2]
  decide
theorem encO_one : encO (ofInt 1) = ([2, 0, 1, 2], 0) := by
  unfold encO
  rw [right_int, enc_one]; rfl
theorem decV_enc {v : V} (h : rightV 32 v = true) (hw : WfV v) (hl : (encV v).length ≤ 4096) : decV (encV v) = (v, 0) := by
  have := rV_fwd 32 v [] h hw hl
  rw [List.append_nil] at this
  unfold decV
  rw [if_neg (by omega), this]
  rfl
theorem decV_one : decV [2, 0, 1, 2] = (ofInt 1, 0) := by
  rw [← enc_one]
  exact decV_enc (right_int _ _) (wf_int (by unfold i64; decide)) (by rw [enc_one]; decide)
theorem cmp_int (a b : Int) : cmpV (ofInt a) (ofInt b) = cmpI a b := by
  unfold ofInt
  rw [cmpV_mk]; rfl
/-- What decoding tells: a value that is just these bytes, or an error. -/
theorem decV_ok {s : List UInt8} (h : (decV s).2 = 0) : rightV 32 (decV s).1 = true ∧ encV (decV s).1 = s ∧ s.length ≤ 4096 := by
  unfold decV at h ⊢
  split at h
  · cases h
  · rename_i hl
    rw [if_neg hl]
    obtain ⟨v, ⟨⟨s', b⟩, e⟩, hr⟩ : ∃ v st, rV 32 ((s, false), 0) = (v, st) := ⟨_, _, rfl⟩
    simp only [hr] at h ⊢
    split at h
    · rename_i he; exact absurd h he
    · rename_i he
      have he : e = 0 := Decidable.not_not.1 he
      rw [if_neg (by simpa using he)]
      split at h
      · cases h
      · rename_i hd
        rw [if_neg hd]
        have hd : rEnd (s', b) = 0 := Decidable.not_not.1 hd
        unfold rEnd rErr at hd
        split at hd
        · cases hd
        · rename_i h0
          split at hd
          · cases hd
          · rename_i hb
            have e1 : s' = [] := List.length_eq_zero_iff.1 (by simp at h0 ⊢; exact h0)
            have e2 : b = false := by simpa using hb
            subst e1 e2 he
            obtain ⟨h1, h2⟩ := (rV_back 32).back _ _ _ hr
            exact ⟨h2, by rw [List.append_nil] at h1; exact h1.symm, by omega⟩
theorem decV_err {s : List UInt8} (h : ¬ (decV s).2 = 0) : (decV s).1 = V0 ∧ (((decV s).2 = 4 ∧ 4096 < s.length) ∨ (((decV s).2 = 2 ∨ (decV s).2 = 3) ∧ s.length ≤ 4096)) := by
  unfold decV at h ⊢
  split at h
  · rename_i hl
    rw [if_pos hl]
    exact ⟨rfl, .inl ⟨rfl, hl⟩⟩
  · rename_i hl
    rw [if_neg hl]
    have he := rV_err 32 ((s, false), 0) (.inl rfl)
    obtain ⟨v, st, hr⟩ : ∃ v st, rV 32 ((s, false), 0) = (v, st) := ⟨_, _, rfl⟩
    simp only [hr] at h he ⊢
    split at h
    · rename_i hn
      rw [if_pos hn]
      exact ⟨rfl, .inr ⟨he.resolve_left hn, by omega⟩⟩
    · rename_i hn
      rw [if_neg hn]
      split at h
      · rename_i hd; rw [if_pos hd]; exact ⟨rfl, .inr ⟨.inl rfl, by omega⟩⟩
      · exact absurd rfl h
theorem rL_wf {f : DS → V × DS} (hf : ∀ st, WfV (f st).1) : ∀ n st, ∀ x ∈ (rL f n st).1, WfV x
  | 0, _, x, hx => by cases hx
  | n + 1, st, x, hx => by
    simp only [rL] at hx
    split at hx
    · exact rL_wf hf n st x hx
    · rcases List.mem_append.1 hx with h | h
      · exact rL_wf hf n st x h
      · rw [List.mem_singleton.1 h]; exact hf _
theorem rF_wf {f : DS → V × DS} (hf : ∀ st, WfV (f st).1) : ∀ n st, ∀ x ∈ (rF f n st).1, WfV x.val
  | 0, _, x, hx => by cases hx
  | n + 1, st, x, hx => by
    simp only [rF] at hx
    split at hx
    · exact rF_wf hf n st x hx
    · rcases List.mem_append.1 hx with h | h
      · exact rF_wf hf n st x h
      · rw [List.mem_singleton.1 h]; exact hf _
theorem i64_0 : i64 0 := by unfold i64; decide
theorem wf_0 (k : Int) (hk : i64 k) (y : Bool) (t : List UInt8) : WfV (.mk k y 0 t [] []) := .mk _ _ _ _ _ _ hk i64_0 (fun _ h => by cases h) (fun _ h => by cases h)
theorem unzig_i64 {x : Nat} (h : x < 18446744073709551616) : i64 (unzig x) := by
  unfold unzig i64
  split <;> omega
theorem rV_wf : ∀ d st, WfV (rV d st).1
  | 0, st => by
    simp only [rV]
    split <;> exact wf_0 0 i64_0 _ _
  | d + 1, st => by
    simp only [rV]
    split
    · exact wf_0 0 i64_0 _ _
    · have hk : i64 (rKind st).1 := by
        unfold rKind
        split
        · exact i64_0
        · split
          · exact i64_0
          · rename_i c r _ _
            have := c.toNat_lt
            unfold i64; simp only []; omega
      unfold rBody
      split
      · exact wf_0 _ (by unfold i64; decide) _ _
      · split
        · refine .mk _ _ _ _ _ _ (by unfold i64; decide) (unzig_i64 ?_) (fun _ h => by cases h) (fun _ h => by cases h)
          obtain ⟨a, st2, ha⟩ : ∃ a st2, rNum 4294967295 (rKind st).2.1 = (a, st2) := ⟨_, _, rfl⟩
          obtain ⟨b, st3, hb⟩ : ∃ a st3, rNum 4294967295 st2 = (a, st3) := ⟨_, _, rfl⟩
          have h1 := rNum_most ha
          have h2 := rNum_most hb
          simp only [ha, hb]
          omega
        · split
          · exact wf_0 _ (by unfold i64; decide) _ _
          · split
            · exact .mk _ _ _ _ _ _ (by unfold i64; decide) i64_0 (rL_wf (rV_wf d) _ _) (fun _ h => by cases h)
            · split
              · exact .mk _ _ _ _ _ _ (by unfold i64; decide) i64_0 (fun _ h => by cases h) (rF_wf (rV_wf d) _ _)
              · exact wf_0 _ hk _ _
theorem decV_wf (s : List UInt8) : WfV (decV s).1 := by
  unfold decV
  split
  · exact wf_0 0 i64_0 _ _
  · simp only []
    split
    · exact wf_0 0 i64_0 _ _
    · split
      · exact wf_0 0 i64_0 _ _
      · exact rV_wf _ _
end Go.AV.Val
namespace Go.AV.Val
open Go.AV.Ord Go.AV.Oct
theorem vC_at0 (v : V) : ((vC v).map AV.d)[0]? = some (.d (I v.kind)) := by rw [vC_eq]; rfl
theorem vC_at1 (v : V) : ((vC v).map AV.d)[1]? = some (.d (TF v.yes)) := by rw [vC_eq]; rfl
theorem vC_at2 (v : V) : ((vC v).map AV.d)[2]? = some (.d (.v (.int .i64 v.num))) := by rw [vC_eq]; rfl
theorem vC_at3 (v : V) : ((vC v).map AV.d)[3]? = some (.d (S v.text)) := by rw [vC_eq]; rfl
theorem vC_at4 (v : V) : ((vC v).map AV.d)[4]? = some (.d (.lst 6 (v.list.map vD))) := by rw [vC_eq]; rfl
theorem vC_at5 (v : V) : ((vC v).map AV.d)[5]? = some (.d (.lst 7 (v.fields.map fD))) := by rw [vC_eq]; rfl
theorem decV_long {s : List UInt8} (h : ¬ (decV s).2 = 0) : ((decV s).2 == 4) = decide (4096 < (s.length : Int)) := by
  obtain ⟨_, h2⟩ := decV_err h
  rw [Bool.eq_iff_iff]
  simp only [beq_iff_eq, decide_eq_true_eq]
  constructor <;> intro h3 <;> omega
theorem encO_dec {s : List UInt8} (h : (decV s).2 = 0) : encO (decV s).1 = (s, 0) := by
  obtain ⟨h1, h2, h3⟩ := decV_ok h
  unfold encO
  rw [if_pos h1, h2, if_neg (by omega)]
end Go.AV.Val
