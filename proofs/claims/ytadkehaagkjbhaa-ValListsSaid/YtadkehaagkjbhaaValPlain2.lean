/-
  Plain theory of layer 2 (val): what is read is what was written, and the other way round.
-/
import Derived.Test.YtadkehaagkjbhaaValPlain
namespace Go.AV.Oct
open Go.AV.Ord
theorem ofNat_toNat {n : Nat} (h : n < 256) : (UInt8.ofNat n).toNat = n := by
  simp; omega
/-- A number that was written is read. -/
theorem rNum_fwd {most : Int} {x : Nat} (r : List UInt8) (hz : szN x ≤ 8) (hx : (x : Int) ≤ most) : rNum most (numB x ++ r, false) = (x, (r, false)) := by
  have hc : (UInt8.ofNat (szN x)).toNat = szN x := ofNat_toNat (by omega)
  have hlen : (be (szN x) x).length = szN x := be_len _ _
  have hbad : badN (numB x ++ r) = false := by
    show badN (UInt8.ofNat (szN x) :: (be (szN x) x ++ r)) = false
    have h1 : ¬ 8 < szN x := by omega
    have h2 : ¬ (be (szN x) x ++ r).length < szN x := by rw [List.length_append, hlen]; omega
    by_cases hx0 : x = 0
    · subst hx0; simp [badN, szN_zero]
    · have h3 : szN x ≠ 0 := by rw [szN_pos hx0]; omega
      have h4 := be_get (szN x) x 0 (by omega)
      have h5 := szN_top hx0
      have h6 := szN_lt x
      have h7 : x / 256 ^ (szN x - 1) < 256 := by
        rw [Nat.div_lt_iff_lt_mul (Nat.pow_pos (by decide)), ← Nat.pow_succ']
        rw [show (szN x - 1).succ = szN x by omega]; exact h6
      have h8 : 1 ≤ x / 256 ^ (szN x - 1) := (Nat.le_div_iff_mul_le (Nat.pow_pos (by decide))).2 (by omega)
      have h9 : (be (szN x) x ++ r).headD 0 = UInt8.ofNat (x / 256 ^ (szN x - 1)) := by
        cases hq : be (szN x) x with
        | nil => rw [hq] at h4; cases h4
        | cons c q =>
          rw [hq] at h4
          simp only [List.getElem?_cons_zero, Option.some.injEq, Nat.sub_zero] at h4
          rw [Nat.mod_eq_of_lt h7] at h4
          rw [h4]; rfl
      have h10 : ((be (szN x) x ++ r).headD 0 == 0) = false := by
        rw [h9, beq_eq_false_iff_ne]
        intro h
        have := congrArg UInt8.toNat h
        rw [ofNat_toNat h7] at this
        have h0 : (0 : UInt8).toNat = 0 := rfl
        omega
      simp only [badN, hc, h1, h2, h10]
      simp
  have hv : val (be (szN x) x) = x := val_be _ _ (szN_lt x)
  have ht : ((numB x ++ r).drop 1).take (szN x) = be (szN x) x := by
    show (be (szN x) x ++ r).take (szN x) = _
    exact List.take_left' hlen
  have hd : (numB x ++ r).drop (1 + szN x) = r := by
    rw [Nat.add_comm]
    show (be (szN x) x ++ r).drop (szN x) = r
    exact List.drop_left' hlen
  have hh : ((numB x ++ r).headD 0).toNat = szN x := hc
  simp only [rNum, hbad, hh, ht, hv, hd, Bool.false_eq_true, if_false]
  rw [if_neg (by omega)]
theorem szN_4 {x : Nat} (h : x ≤ 4294967295) : szN x ≤ 8 := by
  refine szN_le 8 _ ?_
  have : x < 18446744073709551616 := by omega
  simpa using this
theorem rText_fwd {most : Int} {s : List UInt8} (r : List UInt8) (hm : most ≤ 4294967295) (hx : (s.length : Int) ≤ most) : rText most (textB s ++ r, false) = (s, (r, false)) := by
  have h := rNum_fwd (most := most) (x := s.length) (s ++ r) (szN_4 (by omega)) hx
  have e : textB s ++ r = numB s.length ++ (s ++ r) := by simp [textB]
  simp only [rText, e, h, Bool.false_eq_true, if_false]
  rw [if_neg (by simp)]
  simp
theorem rFlag_fwd (b : Bool) (r : List UInt8) : rFlag (flagB b ++ r, false) = (b, (r, false)) := by
  cases b <;> rfl
theorem rText_len {most : Int} {st : RS} : ((rText most st).1.length : Int) ≤ max most 0 := by
  unfold rText
  obtain ⟨n, ⟨s1, b1⟩, hr⟩ : ∃ n st', rNum most st = (n, st') := ⟨_, _, rfl⟩
  have := rNum_most hr
  simp only [hr]
  split
  · simp; omega
  · split
    · simp; omega
    · simp; omega
end Go.AV.Oct
namespace Go.AV.Val
open Go.AV.Ord Go.AV.Oct
theorem broke_ok (s : List UInt8) : broke ((s, false), 0) = false := rfl
theorem broke_false {st : DS} (h : broke st = false) : st = ((st.1.1, false), 0) := by
  obtain ⟨⟨s, b⟩, e⟩ := st
  simp [broke] at h
  simp [h]
theorem rV_broke {d : Nat} {st : DS} (h : broke st = true) : rV d st = (V0, st) := by
  cases d <;> simp [rV, h]
theorem rL_broke {f : DS → V × DS} {st : DS} (h : broke st = true) : ∀ n, rL f n st = ([], st)
  | 0 => rfl
  | n + 1 => by simp [rL, rL_broke h n, h]
theorem rF_broke {f : DS → V × DS} {st : DS} (h : broke st = true) : ∀ n, rF f n st = ([], st)
  | 0 => rfl
  | n + 1 => by simp [rF, rF_broke h n, h]
/-- What a reader of parts has to do. -/
structure Reads (f : DS → V × DS) (rt : V → Bool) : Prop where
  br : ∀ st, broke st = true → f st = (V0, st)
  back : ∀ s v s', f ((s, false), 0) = (v, ((s', false), 0)) → s = encV v ++ s' ∧ rt v = true
theorem good_of {st : DS} {s' : List UInt8} (f : DS → V × DS) (h : ∀ st, broke st = true → (f st).2 = st) (e : (f st).2 = ((s', false), 0)) : broke st = false := by
  cases hb : broke st with
  | false => rfl
  | true => rw [h st hb] at e; rw [e] at hb; cases hb
theorem rL_back {f : DS → V × DS} {rt : V → Bool} (hf : Reads f rt) : ∀ (n : Nat) (s : List UInt8) (l : List V) (s' : List UInt8), rL f n ((s, false), 0) = (l, ((s', false), 0)) → s = l.flatMap encV ++ s' ∧ l.length = n ∧ l.all rt = true
  | 0, s, l, s', h => by
    simp only [rL, Prod.mk.injEq] at h
    obtain ⟨rfl, ⟨rfl, _⟩, _⟩ := h
    exact ⟨rfl, rfl, rfl⟩
  | n + 1, s, l, s', h => by
    obtain ⟨l1, st1, h1⟩ : ∃ l st, rL f n ((s, false), 0) = (l, st) := ⟨_, _, rfl⟩
    simp only [rL, h1] at h
    split at h
    · rename_i hb
      simp only [Prod.mk.injEq] at h
      rw [h.2] at hb; cases hb
    · rename_i hb
      have hb' : broke st1 = false := by simpa using hb
      have e1 := broke_false hb'
      rw [e1] at h1
      obtain ⟨i1, i2, i3⟩ := rL_back hf n s l1 _ h1
      obtain ⟨x, st2, h2⟩ : ∃ x st, f st1 = (x, st) := ⟨_, _, rfl⟩
      simp only [h2, Prod.mk.injEq] at h
      obtain ⟨rfl, rfl⟩ := h
      rw [e1] at h2
      obtain ⟨j1, j2⟩ := hf.back _ _ _ h2
      refine ⟨?_, by simp [i2], by simp [i3, j2]⟩
      rw [i1, j1]; simp
theorem notBelow_nil (n : List UInt8) : notBelow [] n = false := rfl
theorem rises_snoc : ∀ (l : List F) (f : F), rises (l ++ [f]) = (rises l && !notBelow l f.name)
  | [], _ => rfl
  | [a], f => by simp [rises, notBelow]
  | a :: b :: l, f => by
    have ih := rises_snoc (b :: l) f
    have e : notBelow (a :: b :: l) f.name = notBelow (b :: l) f.name := by simp [notBelow]
    simp only [List.cons_append, rises] at ih ⊢
    rw [ih, e, Bool.and_assoc]
theorem rF_back {f : DS → V × DS} {rt : V → Bool} (hf : Reads f rt) : ∀ (n : Nat) (s : List UInt8) (l : List F) (s' : List UInt8), rF f n ((s, false), 0) = (l, ((s', false), 0)) → s = l.flatMap fieldB ++ s' ∧ l.length = n ∧ rises l = true ∧ (l.all fun f => rt f.val) = true
  | 0, s, l, s', h => by
    simp only [rF, Prod.mk.injEq] at h
    obtain ⟨rfl, ⟨rfl, _⟩, _⟩ := h
    exact ⟨rfl, rfl, rfl, rfl⟩
  | n + 1, s, l, s', h => by
    obtain ⟨l1, st1, h1⟩ : ∃ l st, rF f n ((s, false), 0) = (l, st) := ⟨_, _, rfl⟩
    simp only [rF, h1] at h
    split at h
    · rename_i hb
      simp only [Prod.mk.injEq] at h
      rw [h.2] at hb; cases hb
    · rename_i hb
      have hb' : broke st1 = false := by simpa using hb
      have e1 := broke_false hb'
      rw [e1] at h1
      obtain ⟨i1, i2, i3, i4⟩ := rF_back hf n s l1 _ h1
      obtain ⟨t, ⟨s2, b2⟩, h2⟩ : ∃ x st, rText 4096 st1.1 = (x, st) := ⟨_, _, rfl⟩
      obtain ⟨x, st3, h3⟩ : ∃ x st, f ((s2, b2), if notBelow l1 t then 2 else st1.2) = (x, st) := ⟨_, _, rfl⟩
      simp only [h2, h3, Prod.mk.injEq] at h
      obtain ⟨rfl, rfl⟩ := h
      have hg := good_of f (fun st h => by rw [hf.br st h]) (by rw [h3])
      have e2 := broke_false hg
      simp only [Prod.mk.injEq] at e2
      obtain ⟨⟨_, rfl⟩, e2⟩ := e2
      rw [e2] at h3
      have hnb : notBelow l1 t = false := by
        cases hn : notBelow l1 t with
        | false => rfl
        | true => rw [hn] at e2; cases e2
      obtain ⟨j1, j2⟩ := hf.back _ _ _ h3
      have k1 : st1.1 = (st1.1.1, false) := by rw [e1]
      rw [k1] at h2
      have h4 := (rText_back h2).1
      refine ⟨?_, by simp [i2], by rw [rises_snoc, i3]; simp [F.name, hnb], by rw [List.all_append, i4]; simp [F.val, j2]⟩
      rw [i1, h4, j1]; simp [fieldB, F.name, F.val]
theorem rInt_back {s s' : List UInt8} {n : Int} (h : rInt (s, false) = (n, (s', false))) : s = intB n ++ s' := by
  unfold rInt at h
  obtain ⟨a, ⟨s1, b1⟩, h1⟩ : ∃ n st, rNum 4294967295 (s, false) = (n, st) := ⟨_, _, rfl⟩
  obtain ⟨b, ⟨s2, b2⟩, h2⟩ : ∃ n st, rNum 4294967295 (s1, b1) = (n, st) := ⟨_, _, rfl⟩
  simp only [h1, h2, Prod.mk.injEq] at h
  obtain ⟨rfl, rfl, rfl⟩ := h
  cases b1 with
  | true => rw [rNum_bad] at h2; cases h2
  | false =>
    have k1 := rNum_back h1
    have k2 := rNum_back h2
    have hb := k2.2
    unfold intB
    rw [zig_unzig, show (a * 4294967296 + b) / 4294967296 = a by omega, show (a * 4294967296 + b) % 4294967296 = b by omega, k1.1, k2.1]
    simp
theorem ofNat_byte (c : UInt8) : UInt8.ofNat ((c.toNat : Int).toNat) = c := by simp
theorem rV_back : ∀ d, Reads (rV d) (rightV d)
  | 0 => ⟨fun st h => rV_broke h, fun s v s' h => by simp [rV, broke] at h⟩
  | d + 1 => by
    refine ⟨fun st h => rV_broke h, fun s v s' h => ?_⟩
    have ih := rV_back d
    simp only [rV, broke_ok, Bool.false_eq_true, if_false] at h
    cases s with
    | nil => simp [rKind, rBody] at h
    | cons c r =>
      simp only [rKind] at h
      split at h
      · simp [rBody] at h
      · rename_i hc
        simp only [rBody] at h
        have hk := ofNat_byte c
        have hlt : (c.toNat : Int) ≤ 5 := by omega
        generalize hK : (c.toNat : Int) = K at h hk hlt
        have hK0 : 0 ≤ K := by omega
        clear hK
        rw [encV_eq]
        split at h
        · rename_i h1
          obtain ⟨y, st, h2⟩ : ∃ n st, rFlag (r, false) = (n, st) := ⟨_, _, rfl⟩
          simp only [h2, Prod.mk.injEq] at h
          obtain ⟨rfl, rfl, _⟩ := h
          subst h1
          exact ⟨by rw [rFlag_back h2, ← hk]; simp [V.kind, V.yes], by simp [rightV, onlyV, rises, V.kind, V.yes, V.num, V.text, V.list, V.fields]⟩
        · rename_i g1
          split at h
          · rename_i h1
            obtain ⟨y, st, h2⟩ : ∃ n st, rInt (r, false) = (n, st) := ⟨_, _, rfl⟩
            simp only [h2, Prod.mk.injEq] at h
            obtain ⟨rfl, rfl, _⟩ := h
            subst h1
            exact ⟨by rw [rInt_back h2, ← hk]; simp [V.kind, V.num], by simp [rightV, onlyV, rises, V.kind, V.yes, V.num, V.text, V.list, V.fields]⟩
          · rename_i g2
            split at h
            · rename_i h1
              obtain ⟨y, st, h2⟩ : ∃ n st, rText 4096 (r, false) = (n, st) := ⟨_, _, rfl⟩
              simp only [h2, Prod.mk.injEq] at h
              obtain ⟨rfl, rfl, _⟩ := h
              subst h1
              exact ⟨by rw [(rText_back h2).1, ← hk]; simp [V.kind, V.text], by simp [rightV, onlyV, rises, V.kind, V.yes, V.num, V.text, V.list, V.fields]⟩
            · rename_i g3
              split at h
              · rename_i h1
                obtain ⟨n, ⟨s1, b1⟩, h2⟩ : ∃ n st, rNum 4096 (r, false) = (n, st) := ⟨_, _, rfl⟩
                simp only [h2] at h
                obtain ⟨l, st, h3⟩ : ∃ l st, rL (rV d) n ((s1, b1), 0) = (l, st) := ⟨_, _, rfl⟩
                simp only [h3, Prod.mk.injEq] at h
                obtain ⟨rfl, rfl⟩ := h
                cases b1 with
                | true => rw [rL_broke rfl] at h3; cases h3
                | false =>
                  obtain ⟨k1, k2, k3⟩ := rL_back ih _ _ _ _ h3
                  subst h1
                  exact ⟨by rw [(rNum_back h2).1, ← hk, k1]; simp [V.kind, V.list, k2], by simp [rightV, onlyV, rises, V.kind, V.yes, V.num, V.text, V.list, V.fields]; simpa using k3⟩
              · rename_i g4
                split at h
                · rename_i h1
                  obtain ⟨n, ⟨s1, b1⟩, h2⟩ : ∃ n st, rNum 4096 (r, false) = (n, st) := ⟨_, _, rfl⟩
                  simp only [h2] at h
                  obtain ⟨l, st, h3⟩ : ∃ l st, rF (rV d) n ((s1, b1), 0) = (l, st) := ⟨_, _, rfl⟩
                  simp only [h3, Prod.mk.injEq] at h
                  obtain ⟨rfl, rfl⟩ := h
                  cases b1 with
                  | true => rw [rF_broke rfl] at h3; cases h3
                  | false =>
                    obtain ⟨k1, k2, k3, k4⟩ := rF_back ih _ _ _ _ h3
                    subst h1
                    exact ⟨by rw [(rNum_back h2).1, ← hk, k1]; simp [V.kind, V.fields, k2], by simp [rightV, onlyV, V.kind, V.yes, V.num, V.text, V.list, V.fields, k3]; simpa using k4⟩
                · rename_i h5
                  simp only [Prod.mk.injEq] at h
                  obtain ⟨rfl, ⟨rfl, _⟩, _⟩ := h
                  have : K = 0 := by omega
                  subst this
                  exact ⟨by rw [← hk]; simp [V.kind], by simp [rightV, onlyV, rises, V.kind, V.yes, V.num, V.text, V.list, V.fields]⟩
end Go.AV.Val
