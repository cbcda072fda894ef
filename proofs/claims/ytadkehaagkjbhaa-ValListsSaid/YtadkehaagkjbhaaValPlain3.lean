/-
  Plain theory of layer 2 (val): what was written is read; errors; values in each other.
-/
import Derived.Test.YtadkehaagkjbhaaValPlain2
import Derived.Test.YtadkehaagkjbhaaOrdPlain4
namespace Go.AV.Val
open Go.AV.Ord Go.AV.Oct
/-- Numbers that there are, in all parts. -/
inductive WfV : V → Prop
  | mk (k : Int) (y : Bool) (n : Int) (t : List UInt8) (l : List V) (fs : List F) (hk : i64 k) (hn : i64 n) (hl : ∀ x ∈ l, WfV x) (hf : ∀ f ∈ fs, WfV f.val) : WfV (.mk k y n t l fs)
theorem WfV.k {v : V} (h : WfV v) : i64 v.kind := by cases h; assumption
theorem WfV.n {v : V} (h : WfV v) : i64 v.num := by cases h; assumption
theorem WfV.l {v : V} (h : WfV v) : ∀ x ∈ v.list, WfV x := by cases h; assumption
theorem WfV.f {v : V} (h : WfV v) : ∀ f ∈ v.fields, WfV f.val := by cases h; assumption
theorem rL_fwd {f : DS → V × DS} {l : List V} {r : List UInt8} (hf : ∀ x ∈ l, ∀ r, f ((encV x ++ r, false), 0) = (x, ((r, false), 0))) : ∀ k, k ≤ l.length → rL f k ((l.flatMap encV ++ r, false), 0) = (l.take k, (((l.drop k).flatMap encV ++ r, false), 0))
  | 0, _ => rfl
  | k + 1, h => by
    have ih := rL_fwd (r := r) hf k (by omega)
    obtain ⟨x, hx⟩ : ∃ x, l[k]? = some x := ⟨_, List.getElem?_eq_getElem (by omega)⟩
    have hd := drop_one hx
    simp only [rL, ih, broke_ok, Bool.false_eq_true, if_false]
    rw [hd, List.flatMap_cons, List.append_assoc, hf x (List.mem_of_getElem? hx), take_snoc hx]
theorem rises_pre : ∀ (b a : List F), rises (a ++ b) = true → rises a = true
  | [], a, h => by simpa using h
  | x :: b, a, h => by
    have h1 := rises_pre b (a ++ [x]) (by simpa using h)
    rw [rises_snoc] at h1
    simp at h1
    exact h1.1
theorem rises_at {l : List F} (h : rises l = true) {k : Nat} {x : F} (hx : l[k]? = some x) : notBelow (l.take k) x.name = false := by
  have h1 : rises (l.take (k + 1)) = true := rises_pre (l.drop (k + 1)) _ (by rw [List.take_append_drop]; exact h)
  rw [take_snoc hx, rises_snoc] at h1
  simpa using (by simpa using h1 : rises (l.take k) = true ∧ notBelow (l.take k) x.name = false).2
theorem rF_fwd {f : DS → V × DS} {l : List F} {r : List UInt8} (hl : rises l = true) (hn : ∀ x ∈ l, x.name.length ≤ 4096) (hf : ∀ x ∈ l, ∀ r, f ((encV x.val ++ r, false), 0) = (x.val, ((r, false), 0))) : ∀ k, k ≤ l.length → rF f k ((l.flatMap fieldB ++ r, false), 0) = (l.take k, (((l.drop k).flatMap fieldB ++ r, false), 0))
  | 0, _ => rfl
  | k + 1, h => by
    have ih := rF_fwd (r := r) hl hn hf k (by omega)
    obtain ⟨x, hx⟩ : ∃ x, l[k]? = some x := ⟨_, List.getElem?_eq_getElem (by omega)⟩
    have hd := drop_one hx
    have hm := List.mem_of_getElem? hx
    simp only [rF, ih, broke_ok, Bool.false_eq_true, if_false]
    rw [hd, List.flatMap_cons, fieldB, List.append_assoc, List.append_assoc, rText_fwd _ (by decide) (by have := hn x hm; omega)]
    simp only [rises_at hl hx, Bool.false_eq_true, if_false]
    rw [hf x hm, take_snoc hx]
    rw [← F.eta]
theorem encV_pos (v : V) : 1 ≤ (encV v).length := by rw [encV_eq]; simp
theorem flat_ge {α : Type} (g : α → List UInt8) (h : ∀ x, 1 ≤ (g x).length) : ∀ l : List α, l.length ≤ (l.flatMap g).length
  | [] => by simp
  | x :: l => by
    have := flat_ge g h l
    have := h x
    simp only [List.flatMap_cons, List.length_append, List.length_cons]; omega
theorem flat_mem {α : Type} (g : α → List UInt8) : ∀ (l : List α) (x : α), x ∈ l → (g x).length ≤ (l.flatMap g).length
  | y :: l, x, h => by
    simp only [List.flatMap_cons, List.length_append]
    rcases List.mem_cons.1 h with rfl | h
    · omega
    · have := flat_mem g l x h; omega
theorem fieldB_pos (f : F) : 1 ≤ (fieldB f).length := by unfold fieldB; have := encV_pos f.val; simp; omega
theorem rInt_fwd {n : Int} (hn : i64 n) (r : List UInt8) : rInt (intB n ++ r, false) = (n, (r, false)) := by
  have hz : zigN n < 18446744073709551616 := zig_lt (by unfold i64 at hn; omega) (by unfold i64 at hn; omega)
  unfold rInt intB
  rw [List.append_assoc, rNum_fwd _ (szN_4 (by omega)) (by omega)]
  simp only []
  rw [rNum_fwd _ (szN_4 (by omega)) (by omega)]
  simp only []
  rw [show zigN n / 4294967296 * 4294967296 + zigN n % 4294967296 = zigN n by omega, unzig_zig]
theorem rV_fwd : ∀ (d : Nat) (v : V) (r : List UInt8), rightV d v = true → WfV v → (encV v).length ≤ 4096 → rV d ((encV v ++ r, false), 0) = (v, ((r, false), 0))
  | 0, _, _, h, _, _ => by simp [rightV] at h
  | d + 1, v, r, h, hw, hl => by
    obtain ⟨k, y, n, t, l, fs, rfl⟩ : ∃ k y n t l fs, v = .mk k y n t l fs := ⟨_, _, _, _, _, _, v.eta⟩
    have hn := hw.n
    have hwl := hw.l
    have hwf := hw.f
    simp only [rightV, onlyV, V.kind, V.yes, V.num, V.text, V.list, V.fields, Bool.and_eq_true, Bool.or_eq_true, beq_iff_eq, List.isEmpty_iff, List.all_eq_true] at h hn hwl hwf
    obtain ⟨⟨⟨⟨⟨⟨⟨⟨⟨h0, h5⟩, hy⟩, hnn⟩, ht⟩, hll⟩, hff⟩, hr⟩, hfs⟩, hls⟩ := h
    replace h0 : 0 ≤ k := of_decide_eq_true h0
    replace h5 : k ≤ 5 := of_decide_eq_true h5
    have hk : (UInt8.ofNat k.toNat).toNat = k.toNat := ofNat_toNat (by omega)
    have hkk : ((k.toNat : Nat) : Int) = k := by omega
    rw [encV_eq] at hl ⊢
    simp only [V.kind, V.yes, V.num, V.text, V.list, V.fields] at hl ⊢
    simp only [rV, broke_ok, Bool.false_eq_true, if_false, List.cons_append, rKind, hk, hkk, show ¬ 5 < k.toNat by omega]
    by_cases h1 : k = 1
    · subst h1
      obtain rfl := hnn.resolve_left (by decide)
      obtain rfl := ht.resolve_left (by decide)
      obtain rfl := hll.resolve_left (by decide)
      obtain rfl := hff.resolve_left (by decide)
      simp only [rBody, if_true, rFlag_fwd]
    · obtain rfl := hy.resolve_left h1
      by_cases h2 : k = 2
      · subst h2
        obtain rfl := ht.resolve_left (by decide)
        obtain rfl := hll.resolve_left (by decide)
        obtain rfl := hff.resolve_left (by decide)
        simp only [rBody, if_true, rInt_fwd hn, show ¬ (2 : Int) = 1 by decide, if_false]
      · obtain rfl := hnn.resolve_left h2
        by_cases h3 : k = 3
        · subst h3
          obtain rfl := hll.resolve_left (by decide)
          obtain rfl := hff.resolve_left (by decide)
          have htl : t.length ≤ 4096 := by
            have := Sch.textB_ge t
            simp at hl; omega
          simp only [rBody, if_true, rText_fwd (most := 4096) (s := t) r (by decide) (by omega), show ¬ (3 : Int) = 1 by decide, show ¬ (3 : Int) = 2 by decide, if_false]
        · obtain rfl := ht.resolve_left h3
          by_cases h4 : k = 4
          · subst h4
            obtain rfl := hff.resolve_left (by decide)
            simp only [show ¬ (4 : Int) = 1 by decide, show ¬ (4 : Int) = 2 by decide, show ¬ (4 : Int) = 3 by decide, if_true, if_false, List.length_cons, List.length_append] at hl
            have hge := flat_ge encV encV_pos l
            have hmem := flat_mem encV l
            have := rL_fwd (f := rV d) (l := l) (r := r) (fun x hx r => rV_fwd d x r (hls x hx) (hwl x hx) (by have := hmem x hx; omega)) l.length (Nat.le_refl _)
            simp only [rBody, if_true, show ¬ (4 : Int) = 1 by decide, show ¬ (4 : Int) = 2 by decide, show ¬ (4 : Int) = 3 by decide, if_false, List.append_assoc]
            rw [rNum_fwd _ (szN_4 (by omega)) (by omega)]
            simp only [this]
            simp
          · obtain rfl := hll.resolve_left h4
            by_cases h5' : k = 5
            · subst h5'
              simp only [show ¬ (5 : Int) = 1 by decide, show ¬ (5 : Int) = 2 by decide, show ¬ (5 : Int) = 3 by decide, show ¬ (5 : Int) = 4 by decide, if_true, if_false, List.length_cons, List.length_append] at hl
              have hge := flat_ge fieldB fieldB_pos fs
              have hmem := flat_mem fieldB fs
              have hfl : ∀ x ∈ fs, x.name.length ≤ 4096 ∧ (encV x.val).length ≤ 4096 := fun x hx => by
                have h1 := hmem x hx
                have h2 := Sch.textB_ge x.name
                simp only [fieldB, List.length_append] at h1
                omega
              have := rF_fwd (f := rV d) (l := fs) (r := r) hr (fun x hx => (hfl x hx).1) (fun x hx r => rV_fwd d x.val r (hfs x hx) (hwf x hx) (hfl x hx).2) fs.length (Nat.le_refl _)
              simp only [rBody, if_true, show ¬ (5 : Int) = 1 by decide, show ¬ (5 : Int) = 2 by decide, show ¬ (5 : Int) = 3 by decide, show ¬ (5 : Int) = 4 by decide, if_false, List.append_assoc]
              rw [rNum_fwd _ (szN_4 (by omega)) (by omega)]
              simp only [this]
              simp
            · obtain rfl := hff.resolve_left h5'
              simp only [rBody, h1, h2, h3, h4, h5', if_false, List.nil_append]
/-- The errors that reading has. -/
def okE (e : Int) : Prop := e = 0 ∨ e = 2 ∨ e = 3
theorem rL_err {f : DS → V × DS} (hf : ∀ st, okE st.2 → okE (f st).2.2) : ∀ n st, okE st.2 → okE (rL f n st).2.2
  | 0, _, h => h
  | n + 1, st, h => by
    have ih := rL_err hf n st h
    simp only [rL]
    split
    · exact ih
    · exact hf _ ih
theorem rF_err {f : DS → V × DS} (hf : ∀ st, okE st.2 → okE (f st).2.2) : ∀ n st, okE st.2 → okE (rF f n st).2.2
  | 0, _, h => h
  | n + 1, st, h => by
    have ih := rF_err hf n st h
    simp only [rF]
    split
    · exact ih
    · refine hf _ ?_
      show okE (if _ then _ else _)
      split
      · exact .inr (.inl rfl)
      · exact ih
theorem rKind_err {st : DS} (h : okE st.2) : okE (rKind st).2.2 := by
  unfold rKind
  split
  · exact .inr (.inl rfl)
  · split
    · exact .inr (.inl rfl)
    · exact h
theorem rV_err : ∀ d st, okE st.2 → okE (rV d st).2.2
  | 0, st, h => by
    simp only [rV]
    split
    · exact h
    · exact .inr (.inr rfl)
  | d + 1, st, h => by
    simp only [rV]
    split
    · exact h
    · have hk := rKind_err h
      unfold rBody
      split
      · exact hk
      · split
        · exact hk
        · split
          · exact hk
          · split
            · exact rL_err (rV_err d) _ _ hk
            · split
              · exact rF_err (rV_err d) _ _ hk
              · exact hk
/-- Lists in each other. -/
def nestV : Nat → V
  | 0 => .mk 2 false 5 [] [] []
  | n + 1 => .mk 4 false 0 [] [nestV n] []
def nestB : Nat → List UInt8
  | 0 => [2, 0, 1, 10]
  | n + 1 => [4, 1, 1] ++ nestB n
theorem numB_0 : numB 0 = [0] := by simp [numB, szN_zero, be]
theorem numB_1 : numB 1 = [1, 1] := by
  have h : szN 1 = 1 := by rw [szN_pos (by decide)]; simp [szN_zero]
  rw [numB, h]; decide
theorem numB_10 : numB 10 = [1, 10] := by
  have h : szN 10 = 1 := by rw [szN_pos (by decide)]; simp [szN_zero]
  rw [numB, h]; decide
theorem enc_nest : ∀ n, encV (nestV n) = nestB n
  | 0 => by
    rw [encV_eq]
    simp only [nestV, V.kind, V.num, intB]
    rw [show zigN 5 / 4294967296 = 0 by decide, show zigN 5 % 4294967296 = 10 by decide, numB_0, numB_10]
    decide
  | n + 1 => by
    rw [encV_eq]
    simp only [nestV, V.kind, V.list, List.flatMap_cons, List.flatMap_nil, enc_nest n, List.length_cons, List.length_nil, nestB]
    simp [numB_1]
theorem wf_nest : ∀ n, WfV (nestV n)
  | 0 => .mk _ _ _ _ _ _ (by unfold i64; decide) (by unfold i64; decide) (fun x h => by cases h) (fun x h => by cases h)
  | n + 1 => .mk _ _ _ _ _ _ (by unfold i64; decide) (by unfold i64; decide) (fun x h => by rcases List.mem_singleton.1 h with rfl; exact wf_nest n) (fun x h => by cases h)
theorem right_nest : ∀ d n, rightV d (nestV n) = decide (n < d)
  | 0, n => by simp [rightV]
  | d + 1, 0 => by simp [rightV, nestV, onlyV, rises, V.kind, V.yes, V.num, V.text, V.list, V.fields]
  | d + 1, n + 1 => by simp [rightV, nestV, onlyV, rises, V.kind, V.yes, V.num, V.text, V.list, V.fields, right_nest d n]
theorem nest_len : ∀ n, (nestB n).length = 3 * n + 4
  | 0 => rfl
  | n + 1 => by simp [nestB, nest_len n]; omega
theorem rV_deep : ∀ (d n : Nat) (r : List UInt8), d ≤ n → (rV d ((nestB n ++ r, false), 0)).2.2 = 3
  | 0, n, r, _ => by simp [rV, broke]
  | d + 1, 0, _, h => by omega
  | d + 1, n + 1, r, h => by
    have ih := rV_deep d n r (by omega)
    have hn := rNum_fwd (most := 4096) (x := 1) (nestB n ++ r) (szN_4 (by decide)) (by decide)
    rw [numB_1] at hn
    simp only [rV, broke_ok, Bool.false_eq_true, if_false, nestB, List.cons_append, rKind, List.nil_append, show ¬ 5 < (4 : UInt8).toNat by decide]
    simp only [List.cons_append, List.nil_append] at hn
    simp only [rBody, show ((4 : UInt8).toNat : Int) = 4 by decide, if_true, show ¬ (4 : Int) = 1 by decide, show ¬ (4 : Int) = 2 by decide, show ¬ (4 : Int) = 3 by decide, if_false, hn, rL, broke_ok, Bool.false_eq_true]
    exact ih
end Go.AV.Val
