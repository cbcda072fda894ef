/-
  Plain theory of layer 2 (val): values, as bytes, and read again.
-/
import Derived.Test.YtjamnhofbkgblaaSchPlain
import Derived.Test.YtjamnhofbkgblaaOrdPlain
namespace Go.AV.Val
open Go.AV.Ord Go.AV.Oct
mutual
inductive V where
  | mk (kind : Int) (yes : Bool) (num : Int) (text : List UInt8) (list : List V) (fields : List F)
inductive F where
  | mk (name : List UInt8) (val : V)
end
def V.kind : V → Int | .mk k _ _ _ _ _ => k
def V.yes : V → Bool | .mk _ y _ _ _ _ => y
def V.num : V → Int | .mk _ _ n _ _ _ => n
def V.text : V → List UInt8 | .mk _ _ _ t _ _ => t
def V.list : V → List V | .mk _ _ _ _ l _ => l
def V.fields : V → List F | .mk _ _ _ _ _ fs => fs
def F.name : F → List UInt8 | .mk n _ => n
def F.val : F → V | .mk _ v => v
mutual
def vC : V → List DV
  | .mk k y n t l fs => [I k, TF y, .v (.int .i64 n), S t, .lst 6 (vsD l), .lst 7 (fsD fs)]
def vsD : List V → List DV
  | [] => []
  | v :: l => .agg (vC v) :: vsD l
def fsD : List F → List DV
  | [] => []
  | f :: l => .agg (fC f) :: fsD l
def fC : F → List DV
  | .mk n v => S n :: vC v
end
def vD (v : V) : DV := .agg (vC v)
def fD (f : F) : DV := .agg (fC f)
theorem vsD_map : ∀ l : List V, vsD l = l.map vD
  | [] => by simp [vsD]
  | v :: l => by rw [vsD, vsD_map l]; rfl
theorem fsD_map : ∀ l : List F, fsD l = l.map fD
  | [] => by simp [fsD]
  | v :: l => by rw [fsD, fsD_map l]; rfl
theorem vC_eq (v : V) : vC v = [I v.kind, TF v.yes, .v (.int .i64 v.num), S v.text, .lst 6 (v.list.map vD), .lst 7 (v.fields.map fD)] := by
  cases v
  rw [vC, vsD_map, fsD_map]; rfl
theorem fC_eq (f : F) : fC f = S f.name :: vC f.val := by
  cases f
  rw [fC]; rfl
def V0 : V := .mk 0 false 0 [] [] []
theorem V.eta (v : V) : v = .mk v.kind v.yes v.num v.text v.list v.fields := by cases v; rfl
theorem F.eta (v : F) : v = .mk v.name v.val := by cases v; rfl
theorem list_lt {v x : V} (h : x ∈ v.list) : SizeOf.sizeOf x < SizeOf.sizeOf v := by
  cases v
  have h1 := List.sizeOf_lt_of_mem h
  simp only [V.list, V.mk.sizeOf_spec] at *
  omega
theorem field_lt {v : V} {f : F} (h : f ∈ v.fields) : SizeOf.sizeOf f.val < SizeOf.sizeOf v := by
  cases v
  have h1 := List.sizeOf_lt_of_mem h
  cases f
  simp only [V.fields, F.val, V.mk.sizeOf_spec, F.mk.sizeOf_spec] at *
  omega

/-- Do the names rise? -/
def rises : List F → Bool
  | [] => true
  | [_] => true
  | a :: b :: l => Op.bytesLess a.name b.name && rises (b :: l)
/-- What a kind has: nothing else. -/
def onlyV (v : V) : Bool := decide (0 ≤ v.kind) && decide (v.kind ≤ 5) && (v.kind == 1 || v.yes == false) && (v.kind == 2 || v.num == 0) && (v.kind == 3 || v.text == []) && (v.kind == 4 || v.list.isEmpty) && (v.kind == 5 || v.fields.isEmpty)
def rightV : Nat → V → Bool
  | 0, _ => false
  | d + 1, v => onlyV v && rises v.fields && v.fields.all (fun f => rightV d f.val) && v.list.all (rightV d)
def zigN (n : Int) : Nat := if 0 ≤ n then 2 * n.toNat else 2 * (-n - 1).toNat + 1
def unzig (x : Nat) : Int := if x % 2 = 0 then x / 2 else -(x / 2) - 1
theorem unzig_zig (n : Int) : unzig (zigN n) = n := by
  unfold unzig zigN
  split <;> split <;> omega
theorem zig_unzig (x : Nat) : zigN (unzig x) = x := by
  unfold unzig zigN
  split <;> split <;> omega
theorem zig_lt {n : Int} (h1 : -9223372036854775808 ≤ n) (h2 : n ≤ 9223372036854775807) : zigN n < 18446744073709551616 := by
  unfold zigN
  split <;> omega
def intB (n : Int) : List UInt8 := numB (zigN n / 4294967296) ++ numB (zigN n % 4294967296)
mutual
def encV : V → List UInt8
  | .mk k y n t l fs => UInt8.ofNat k.toNat :: (if k = 1 then flagB y else if k = 2 then intB n else if k = 3 then textB t else if k = 4 then numB l.length ++ encL l else if k = 5 then numB fs.length ++ encF fs else [])
def encL : List V → List UInt8
  | [] => []
  | v :: l => encV v ++ encL l
def encF : List F → List UInt8
  | [] => []
  | .mk n v :: l => textB n ++ encV v ++ encF l
end
theorem encL_flat : ∀ l : List V, encL l = l.flatMap encV
  | [] => by simp [encL]
  | v :: l => by rw [encL, encL_flat l]; rfl
def fieldB (f : F) : List UInt8 := textB f.name ++ encV f.val
theorem encF_flat : ∀ l : List F, encF l = l.flatMap fieldB
  | [] => by simp [encF]
  | .mk n v :: l => by rw [encF, encF_flat l]; rfl
theorem encV_eq (v : V) : encV v = UInt8.ofNat v.kind.toNat :: (if v.kind = 1 then flagB v.yes else if v.kind = 2 then intB v.num else if v.kind = 3 then textB v.text else if v.kind = 4 then numB v.list.length ++ v.list.flatMap encV else if v.kind = 5 then numB v.fields.length ++ v.fields.flatMap fieldB else []) := by
  cases v
  rw [encV, encL_flat, encF_flat]; rfl

/-- The state of a reader of values: the bytes, and the error. -/
abbrev DS := RS × Int
def broke (st : DS) : Bool := !(st.2 == 0) || st.1.2
def rKind (st : DS) : Int × DS := match st.1.1 with
  | [] => (0, (st.1, 2))
  | c :: r => if 5 < c.toNat then (0, ((r, st.1.2), 2)) else (c.toNat, ((r, st.1.2), st.2))
def rL (f : DS → V × DS) : Nat → DS → List V × DS
  | 0, st => ([], st)
  | n + 1, st => let r := rL f n st; if broke r.2 then r else let x := f r.2; (r.1 ++ [x.1], x.2)
/-- The last name of a list of fields isn't below a name. -/
def notBelow (l : List F) (n : List UInt8) : Bool := match l.getLast? with
  | some f => !Op.bytesLess f.name n
  | none => false
def rF (f : DS → V × DS) : Nat → DS → List F × DS
  | 0, st => ([], st)
  | n + 1, st => let r := rF f n st; if broke r.2 then r else
    let t := rText 4096 r.2.1
    let x := f (t.2, if notBelow r.1 t.1 then 2 else r.2.2)
    (r.1 ++ [.mk t.1 x.1], x.2)
def rInt (st : RS) : Int × RS := let a := rNum 4294967295 st; let b := rNum 4294967295 a.2; (unzig (a.1 * 4294967296 + b.1), b.2)
def rBody (f : DS → V × DS) (k : Int) (st : DS) : V × DS :=
  if k = 1 then let y := rFlag st.1; (.mk 1 y.1 0 [] [] [], (y.2, st.2))
  else if k = 2 then let x := rInt st.1; (.mk 2 false x.1 [] [] [], (x.2, st.2))
  else if k = 3 then let t := rText 4096 st.1; (.mk 3 false 0 t.1 [] [], (t.2, st.2))
  else if k = 4 then let n := rNum 4096 st.1; let l := rL f n.1 (n.2, st.2); (.mk 4 false 0 [] l.1 [], l.2)
  else if k = 5 then let n := rNum 4096 st.1; let l := rF f n.1 (n.2, st.2); (.mk 5 false 0 [] [] l.1, l.2)
  else (.mk k false 0 [] [] [], st)
def rV : Nat → DS → V × DS
  | 0, st => if broke st then (V0, st) else (V0, (st.1, 3))
  | d + 1, st => if broke st then (V0, st) else let k := rKind st; rBody (rV d) k.1 k.2
end Go.AV.Val
/-
  Plain theory of layer 2 (val): what is read is what was written, and the other way round.
-/
namespace Go.AV.Oct
open Go.AV.Ord
theorem ofNat_toNat {n : Nat} (h : n < 256) : (UInt8.ofNat n).toNat = n := by
  simp; omega
/-- A number that was written is read. -/
theorem rNum_fwd {most : Int} {x : Nat} (r : List UInt8) (hz : szN x ≤ 8) (hx : (x : Int) ≤ most) : rNum most (numB x ++ r, false) = (x, (r, false)) := by
  have hc : (UInt8.ofNat (szN x)).toNat = szN x := ofNat_toNat (by omega)
  have hlen : (be (szN x) x).length = szN x := be_len _ _
  have hbad : badN (numB x ++ r) = false := by
    show badN (UInt8.ofNat (szN x) :: (be (szN x) x ++ r)) = false
    have h1 : ¬ 8 < szN x := by omega
    have h2 : ¬ (be (szN x) x ++ r).length < szN x := by rw [List.length_append, hlen]; omega
    by_cases hx0 : x = 0
    · subst hx0; simp [badN, szN_zero]
    · have h3 : szN x ≠ 0 := by rw [szN_pos hx0]; omega
      have h4 := be_get (szN x) x 0 (by omega)
      have h5 := szN_top hx0
      have h6 := szN_lt x
      have h7 : x / 256 ^ (szN x - 1) < 256 := by
        rw [Nat.div_lt_iff_lt_mul (Nat.pow_pos (by decide)), ← Nat.pow_succ']
        rw [show (szN x - 1).succ = szN x by omega]; exact h6
      have h8 : 1 ≤ x / 256 ^ (szN x - 1) := (Nat.le_div_iff_mul_le (Nat.pow_pos (by decide))).2 (by omega)
      have h9 : (be (szN x) x ++ r).headD 0 = UInt8.ofNat (x / 256 ^ (szN x - 1)) := by
        cases hq : be (szN x) x with
        | nil => rw [hq] at h4; cases h4
        | cons c q =>
          rw [hq] at h4
          simp only [List.getElem?_cons_zero, Option.some.injEq, Nat.sub_zero] at h4
          rw [Nat.mod_eq_of_lt h7] at h4
          rw [h4]; rfl
      have h10 : ((be (szN x) x ++ r).headD 0 == 0) = false := by
        rw [h9, beq_eq_false_iff_ne]
        intro h
        have := congrArg UInt8.toNat h
        rw [ofNat_toNat h7] at this
        have h0 : (0 : UInt8).toNat = 0 := rfl
        omega
      simp only [badN, hc, h1, h2, h10]
      simp
  have hv : val (be (szN x) x) = x := val_be _ _ (szN_lt x)
  have ht : ((numB x ++ r).drop 1).take (szN x) = be (szN x) x := by
    show (be (szN x) x ++ r).take (szN x) = _
    exact List.take_left' hlen
  have hd : (numB x ++ r).drop (1 + szN x) = r := by
    rw [Nat.add_comm]
    show (be (szN x) x ++ r).drop (szN x) = r
    exact List.drop_left' hlen
  have hh : ((numB x ++ r).headD 0).toNat = szN x := hc
  simp only [rNum, hbad, hh, ht, hv, hd, Bool.false_eq_true, if_false]
  rw [if_neg (by omega)]
theorem szN_4 {x : Nat} (h : x ≤ 4294967295) : szN x ≤ 8 := by
  refine szN_le 8 _ ?_
  have : x < 18446744073709551616 := by omega
  simpa using this
theorem rText_fwd {most : Int} {s : List UInt8} (r : List UInt8) (hm : most ≤ 4294967295) (hx : (s.length : Int) ≤ most) : rText most (textB s ++ r, false) = (s, (r, false)) := by
  have h := rNum_fwd (most := most) (x := s.length) (s ++ r) (szN_4 (by omega)) hx
  have e : textB s ++ r = numB s.length ++ (s ++ r) := by simp [textB]
  simp only [rText, e, h, Bool.false_eq_true, if_false]
  rw [if_neg (by simp)]
  simp
theorem rFlag_fwd (b : Bool) (r : List UInt8) : rFlag (flagB b ++ r, false) = (b, (r, false)) := by
  cases b <;> rfl
theorem rText_len {most : Int} {st : RS} : ((rText most st).1.length : Int) ≤ max most 0 := by
  unfold rText
  obtain ⟨n, ⟨s1, b1⟩, hr⟩ : ∃ n st', rNum most st = (n, st') := ⟨_, _, rfl⟩
  have := rNum_most hr
  simp only [hr]
  split
  · simp; omega
  · split
    · simp; omega
    · simp; omega
end Go.AV.Oct
namespace Go.AV.Val
open Go.AV.Ord Go.AV.Oct
theorem broke_ok (s : List UInt8) : broke ((s, false), 0) = false := rfl
theorem broke_false {st : DS} (h : broke st = false) : st = ((st.1.1, false), 0) := by
  obtain ⟨⟨s, b⟩, e⟩ := st
  simp [broke] at h
  simp [h]
theorem rV_broke {d : Nat} {st : DS} (h : broke st = true) : rV d st = (V0, st) := by
  cases d <;> simp [rV, h]
theorem rL_broke {f : DS → V × DS} {st : DS} (h : broke st = true) : ∀ n, rL f n st = ([], st)
  | 0 => rfl
  | n + 1 => by simp [rL, rL_broke h n, h]
theorem rF_broke {f : DS → V × DS} {st : DS} (h : broke st = true) : ∀ n, rF f n st = ([], st)
  | 0 => rfl
  | n + 1 => by simp [rF, rF_broke h n, h]
/-- What a reader of parts has to do. -/
structure Reads (f : DS → V × DS) (rt : V → Bool) : Prop where
  br : ∀ st, broke st = true → f st = (V0, st)
  back : ∀ s v s', f ((s, false), 0) = (v, ((s', false), 0)) → s = encV v ++ s' ∧ rt v = true
theorem good_of {st : DS} {s' : List UInt8} (f : DS → V × DS) (h : ∀ st, broke st = true → (f st).2 = st) (e : (f st).2 = ((s', false), 0)) : broke st = false := by
  cases hb : broke st with
  | false => rfl
  | true => rw [h st hb] at e; rw [e] at hb; cases hb
theorem rL_back {f : DS → V × DS} {rt : V → Bool} (hf : Reads f rt) : ∀ (n : Nat) (s : List UInt8) (l : List V) (s' : List UInt8), rL f n ((s, false), 0) = (l, ((s', false), 0)) → s = l.flatMap encV ++ s' ∧ l.length = n ∧ l.all rt = true
  | 0, s, l, s', h => by
    simp only [rL, Prod.mk.injEq] at h
    obtain ⟨rfl, ⟨rfl, _⟩, _⟩ := h
    exact ⟨rfl, rfl, rfl⟩
  | n + 1, s, l, s', h => by
    obtain ⟨l1, st1, h1⟩ : ∃ l st, rL f n ((s, false), 0) = (l, st) := ⟨_, _, rfl⟩
    simp only [rL, h1] at h
    split at h
    · rename_i hb
      simp only [Prod.mk.injEq] at h
      rw [h.2] at hb; cases hb
    · rename_i hb
      have hb' : broke st1 = false := by simpa using hb
      have e1 := broke_false hb'
      rw [e1] at h1
      obtain ⟨i1, i2, i3⟩ := rL_back hf n s l1 _ h1
      obtain ⟨x, st2, h2⟩ : ∃ x st, f st1 = (x, st) := ⟨_, _, rfl⟩
      simp only [h2, Prod.mk.injEq] at h
      obtain ⟨rfl, rfl⟩ := h
      rw [e1] at h2
      obtain ⟨j1, j2⟩ := hf.back _ _ _ h2
      refine ⟨?_, by simp [i2], by simp [i3, j2]⟩
      rw [i1, j1]; simp
theorem notBelow_nil (n : List UInt8) : notBelow [] n = false := rfl
theorem rises_snoc : ∀ (l : List F) (f : F), rises (l ++ [f]) = (rises l && !notBelow l f.name)
  | [], _ => rfl
  | [a], f => by simp [rises, notBelow]
  | a :: b :: l, f => by
    have ih := rises_snoc (b :: l) f
    have e : notBelow (a :: b :: l) f.name = notBelow (b :: l) f.name := by simp [notBelow]
    simp only [List.cons_append, rises] at ih ⊢
    rw [ih, e, Bool.and_assoc]
theorem rF_back {f : DS → V × DS} {rt : V → Bool} (hf : Reads f rt) : ∀ (n : Nat) (s : List UInt8) (l : List F) (s' : List UInt8), rF f n ((s, false), 0) = (l, ((s', false), 0)) → s = l.flatMap fieldB ++ s' ∧ l.length = n ∧ rises l = true ∧ (l.all fun f => rt f.val) = true
  | 0, s, l, s', h => by
    simp only [rF, Prod.mk.injEq] at h
    obtain ⟨rfl, ⟨rfl, _⟩, _⟩ := h
    exact ⟨rfl, rfl, rfl, rfl⟩
  | n + 1, s, l, s', h => by
    obtain ⟨l1, st1, h1⟩ : ∃ l st, rF f n ((s, false), 0) = (l, st) := ⟨_, _, rfl⟩
    simp only [rF, h1] at h
    split at h
    · rename_i hb
      simp only [Prod.mk.injEq] at h
      rw [h.2] at hb; cases hb
    · rename_i hb
      have hb' : broke st1 = false := by simpa using hb
      have e1 := broke_false hb'
      rw [e1] at h1
      obtain ⟨i1, i2, i3, i4⟩ := rF_back hf n s l1 _ h1
      obtain ⟨t, ⟨s2, b2⟩, h2⟩ : ∃ x st, rText 4096 st1.1 = (x, st) := ⟨_, _, rfl⟩
      obtain ⟨x, st3, h3⟩ : ∃ x st, f ((s2, b2), if notBelow l1 t then 2 else st1.2) = (x, st) := ⟨_, _, rfl⟩
      simp only [h2, h3, Prod.mk.injEq] at h
      obtain ⟨rfl, rfl⟩ := h
      have hg := good_of f (fun st h => by rw [hf.br st h]) (by rw [h3])
      have e2 := broke_false hg
      simp only [Prod.mk.injEq] at e2
      obtain ⟨⟨_, rfl⟩, e2⟩ := e2
      rw [e2] at h3
      have hnb : notBelow l1 t = false := by
        cases hn : notBelow l1 t with
        | false => rfl
        | true => rw [hn] at e2; cases e2
      obtain ⟨j1, j2⟩ := hf.back _ _ _ h3
      have k1 : st1.1 = (st1.1.1, false) := by rw [e1]
      rw [k1] at h2
      have h4 := (rText_back h2).1
      refine ⟨?_, by simp [i2], by rw [rises_snoc, i3]; simp [F.name, hnb], by rw [List.all_append, i4]; simp [F.val, j2]⟩
      rw [i1, h4, j1]; simp [fieldB, F.name, F.val]
theorem rInt_back {s s' : List UInt8} {n : Int} (h : rInt (s, false) = (n, (s', false))) : s = intB n ++ s' := by
  unfold rInt at h
  obtain ⟨a, ⟨s1, b1⟩, h1⟩ : ∃ n st, rNum 4294967295 (s, false) = (n, st) := ⟨_, _, rfl⟩
  obtain ⟨b, ⟨s2, b2⟩, h2⟩ : ∃ n st, rNum 4294967295 (s1, b1) = (n, st) := ⟨_, _, rfl⟩
  simp only [h1, h2, Prod.mk.injEq] at h
  obtain ⟨rfl, rfl, rfl⟩ := h
  cases b1 with
  | true => rw [rNum_bad] at h2; cases h2
  | false =>
    have k1 := rNum_back h1
    have k2 := rNum_back h2
    have hb := k2.2
    unfold intB
    rw [zig_unzig, show (a * 4294967296 + b) / 4294967296 = a by omega, show (a * 4294967296 + b) % 4294967296 = b by omega, k1.1, k2.1]
    simp
theorem ofNat_byte (c : UInt8) : UInt8.ofNat ((c.toNat : Int).toNat) = c := by simp
theorem rV_back : ∀ d, Reads (rV d) (rightV d)
  | 0 => ⟨fun st h => rV_broke h, fun s v s' h => by simp [rV, broke] at h⟩
  | d + 1 => by
    refine ⟨fun st h => rV_broke h, fun s v s' h => ?_⟩
    have ih := rV_back d
    simp only [rV, broke_ok, Bool.false_eq_true, if_false] at h
    cases s with
    | nil => simp [rKind, rBody] at h
    | cons c r =>
      simp only [rKind] at h
      split at h
      · simp [rBody] at h
      · rename_i hc
        simp only [rBody] at h
        have hk := ofNat_byte c
        have hlt : (c.toNat : Int) ≤ 5 := by omega
        generalize hK : (c.toNat : Int) = K at h hk hlt
        have hK0 : 0 ≤ K := by omega
        clear hK
        rw [encV_eq]
        split at h
        · rename_i h1
          obtain ⟨y, st, h2⟩ : ∃ n st, rFlag (r, false) = (n, st) := ⟨_, _, rfl⟩
          simp only [h2, Prod.mk.injEq] at h
          obtain ⟨rfl, rfl, _⟩ := h
          subst h1
          exact ⟨by rw [rFlag_back h2, ← hk]; simp [V.kind, V.yes], by simp [rightV, onlyV, rises, V.kind, V.yes, V.num, V.text, V.list, V.fields]⟩
        · rename_i g1
          split at h
          · rename_i h1
            obtain ⟨y, st, h2⟩ : ∃ n st, rInt (r, false) = (n, st) := ⟨_, _, rfl⟩
            simp only [h2, Prod.mk.injEq] at h
            obtain ⟨rfl, rfl, _⟩ := h
            subst h1
            exact ⟨by rw [rInt_back h2, ← hk]; simp [V.kind, V.num], by simp [rightV, onlyV, rises, V.kind, V.yes, V.num, V.text, V.list, V.fields]⟩
          · rename_i g2
            split at h
            · rename_i h1
              obtain ⟨y, st, h2⟩ : ∃ n st, rText 4096 (r, false) = (n, st) := ⟨_, _, rfl⟩
              simp only [h2, Prod.mk.injEq] at h
              obtain ⟨rfl, rfl, _⟩ := h
              subst h1
              exact ⟨by rw [(rText_back h2).1, ← hk]; simp [V.kind, V.text], by simp [rightV, onlyV, rises, V.kind, V.yes, V.num, V.text, V.list, V.fields]⟩
            · rename_i g3
              split at h
              · rename_i h1
                obtain ⟨n, ⟨s1, b1⟩, h2⟩ : ∃ n st, rNum 4096 (r, false) = (n, st) := ⟨_, _, rfl⟩
                simp only [h2] at h
                obtain ⟨l, st, h3⟩ : ∃ l st, rL (rV d) n ((s1, b1), 0) = (l, st) := ⟨_, _, rfl⟩
                simp only [h3, Prod.mk.injEq] at h
                obtain ⟨rfl, rfl⟩ := h
                cases b1 with
                | true => rw [rL_broke rfl] at h3; cases h3
                | false =>
                  obtain ⟨k1, k2, k3⟩ := rL_back ih _ _ _ _ h3
                  subst h1
                  exact ⟨by rw [(rNum_back h2).1, ← hk, k1]; simp [V.kind, V.list, k2], by simp [rightV, onlyV, rises, V.kind, V.yes, V.num, V.text, V.list, V.fields]; simpa using k3⟩
              · rename_i g4
                split at h
                · rename_i h1
                  obtain ⟨n, ⟨s1, b1⟩, h2⟩ : ∃ n st, rNum 4096 (r, false) = (n, st) := ⟨_, _, rfl⟩
                  simp only [h2] at h
                  obtain ⟨l, st, h3⟩ : ∃ l st, rF (rV d) n ((s1, b1), 0) = (l, st) := ⟨_, _, rfl⟩
                  simp only [h3, Prod.mk.injEq] at h
                  obtain ⟨rfl, rfl⟩ := h
                  cases b1 with
                  | true => rw [rF_broke rfl] at h3; cases h3
                  | false =>
                    obtain ⟨k1, k2, k3, k4⟩ := rF_back ih _ _ _ _ h3
                    subst h1
                    exact ⟨by rw [(rNum_back h2).1, ← hk, k1]; simp [V.kind, V.fields, k2], by simp [rightV, onlyV, V.kind, V.yes, V.num, V.text, V.list, V.fields, k3]; simpa using k4⟩
                · rename_i h5
                  simp only [Prod.mk.injEq] at h
                  obtain ⟨rfl, ⟨rfl, _⟩, _⟩ := h
                  have : K = 0 := by omega
                  subst this
                  exact ⟨by rw [← hk]; simp [V.kind], by simp [rightV, onlyV, rises, V.kind, V.yes, V.num, V.text, V.list, V.fields]⟩
end Go.AV.Val
/-
  Plain theory of layer 2 (val): what was written is read; errors; values in each other.
-/
namespace Go.AV.Val
open Go.AV.Ord Go.AV.Oct
/-- Numbers that there are, in all parts. -/
inductive WfV : V → Prop
  | mk (k : Int) (y : Bool) (n : Int) (t : List UInt8) (l : List V) (fs : List F) (hk : i64 k) (hn : i64 n) (hl : ∀ x ∈ l, WfV x) (hf : ∀ f ∈ fs, WfV f.val) : WfV (.mk k y n t l fs)
theorem WfV.k {v : V} (h : WfV v) : i64 v.kind := by cases h; assumption
theorem WfV.n {v : V} (h : WfV v) : i64 v.num := by cases h; assumption
theorem WfV.l {v : V} (h : WfV v) : ∀ x ∈ v.list, WfV x := by cases h; assumption
theorem WfV.f {v : V} (h : WfV v) : ∀ f ∈ v.fields, WfV f.val := by cases h; assumption
theorem rL_fwd {f : DS → V × DS} {l : List V} {r : List UInt8} (hf : ∀ x ∈ l, ∀ r, f ((encV x ++ r, false), 0) = (x, ((r, false), 0))) : ∀ k, k ≤ l.length → rL f k ((l.flatMap encV ++ r, false), 0) = (l.take k, (((l.drop k).flatMap encV ++ r, false), 0))
  | 0, _ => rfl
  | k + 1, h => by
    have ih := rL_fwd (r := r) hf k (by omega)
    obtain ⟨x, hx⟩ : ∃ x, l[k]? = some x := ⟨_, List.getElem?_eq_getElem (by omega)⟩
    have hd := drop_one hx
    simp only [rL, ih, broke_ok, Bool.false_eq_true, if_false]
    rw [hd, List.flatMap_cons, List.append_assoc, hf x (List.mem_of_getElem? hx), take_snoc hx]
theorem rises_pre : ∀ (b a : List F), rises (a ++ b) = true → rises a = true
  | [], a, h => by simpa using h
  | x :: b, a, h => by
    have h1 := rises_pre b (a ++ [x]) (by simpa using h)
    rw [rises_snoc] at h1
    simp at h1
    exact h1.1
theorem rises_at {l : List F} (h : rises l = true) {k : Nat} {x : F} (hx : l[k]? = some x) : notBelow (l.take k) x.name = false := by
  have h1 : rises (l.take (k + 1)) = true := rises_pre (l.drop (k + 1)) _ (by rw [List.take_append_drop]; exact h)
  rw [take_snoc hx, rises_snoc] at h1
  simpa using (by simpa using h1 : rises (l.take k) = true ∧ notBelow (l.take k) x.name = false).2
theorem rF_fwd {f : DS → V × DS} {l : List F} {r : List UInt8} (hl : rises l = true) (hn : ∀ x ∈ l, x.name.length ≤ 4096) (hf : ∀ x ∈ l, ∀ r, f ((encV x.val ++ r, false), 0) = (x.val, ((r, false), 0))) : ∀ k, k ≤ l.length → rF f k ((l.flatMap fieldB ++ r, false), 0) = (l.take k, (((l.drop k).flatMap fieldB ++ r, false), 0))
  | 0, _ => rfl
  | k + 1, h => by
    have ih := rF_fwd (r := r) hl hn hf k (by omega)
    obtain ⟨x, hx⟩ : ∃ x, l[k]? = some x := ⟨_, List.getElem?_eq_getElem (by omega)⟩
    have hd := drop_one hx
    have hm := List.mem_of_getElem? hx
    simp only [rF, ih, broke_ok, Bool.false_eq_true, if_false]
    rw [hd, List.flatMap_cons, fieldB, List.append_assoc, List.append_assoc, rText_fwd _ (by decide) (by have := hn x hm; omega)]
    simp only [rises_at hl hx, Bool.false_eq_true, if_false]
    rw [hf x hm, take_snoc hx]
    rw [← F.eta]
theorem encV_pos (v : V) : 1 ≤ (encV v).length := by rw [encV_eq]; simp
theorem flat_ge {α : Type} (g : α → List UInt8) (h : ∀ x, 1 ≤ (g x).length) : ∀ l : List α, l.length ≤ (l.flatMap g).length
  | [] => by simp
  | x :: l => by
    have := flat_ge g h l
    have := h x
    simp only [List.flatMap_cons, List.length_append, List.length_cons]; omega
theorem flat_mem {α : Type} (g : α → List UInt8) : ∀ (l : List α) (x : α), x ∈ l → (g x).length ≤ (l.flatMap g).length
  | y :: l, x, h => by
    simp only [List.flatMap_cons, List.length_append]
    rcases List.mem_cons.1 h with rfl | h
    · omega
    · have := flat_mem g l x h; omega
theorem fieldB_pos (f : F) : 1 ≤ (fieldB f).length := by unfold fieldB; have := encV_pos f.val; simp; omega
theorem rInt_fwd {n : Int} (hn : i64 n) (r : List UInt8) : rInt (intB n ++ r, false) = (n, (r, false)) := by
  have hz : zigN n < 18446744073709551616 := zig_lt (by unfold i64 at hn; omega) (by unfold i64 at hn; omega)
  unfold rInt intB
  rw [List.append_assoc, rNum_fwd _ (szN_4 (by omega)) (by omega)]
  simp only []
  rw [rNum_fwd _ (szN_4 (by omega)) (by omega)]
  simp only []
  rw [show zigN n / 4294967296 * 4294967296 + zigN n % 4294967296 = zigN n by omega, unzig_zig]
theorem rV_fwd : ∀ (d : Nat) (v : V) (r : List UInt8), rightV d v = true → WfV v → (encV v).length ≤ 4096 → rV d ((encV v ++ r, false), 0) = (v, ((r, false), 0))
  | 0, _, _, h, _, _ => by simp [rightV] at h
  | d + 1, v, r, h, hw, hl => by
    obtain ⟨k, y, n, t, l, fs, rfl⟩ : ∃ k y n t l fs, v = .mk k y n t l fs := ⟨_, _, _, _, _, _, v.eta⟩
    have hn := hw.n
    have hwl := hw.l
    have hwf := hw.f
    simp only [rightV, onlyV, V.kind, V.yes, V.num, V.text, V.list, V.fields, Bool.and_eq_true, Bool.or_eq_true, beq_iff_eq, List.isEmpty_iff, List.all_eq_true] at h hn hwl hwf
    obtain ⟨⟨⟨⟨⟨⟨⟨⟨⟨h0, h5⟩, hy⟩, hnn⟩, ht⟩, hll⟩, hff⟩, hr⟩, hfs⟩, hls⟩ := h
    replace h0 : 0 ≤ k := of_decide_eq_true h0
    replace h5 : k ≤ 5 := of_decide_eq_true h5
    have hk : (UInt8.ofNat k.toNat).toNat = k.toNat := ofNat_toNat (by omega)
    have hkk : ((k.toNat : Nat) : Int) = k := by omega
    rw [encV_eq] at hl ⊢
    simp only [V.kind, V.yes, V.num, V.text, V.list, V.fields] at hl ⊢
    simp only [rV, broke_ok, Bool.false_eq_true, if_false, List.cons_append, rKind, hk, hkk, show ¬ 5 < k.toNat by omega]
    by_cases h1 : k = 1
    · subst h1
      obtain rfl := hnn.resolve_left (by decide)
      obtain rfl := ht.resolve_left (by decide)
      obtain rfl := hll.resolve_left (by decide)
      obtain rfl := hff.resolve_left (by decide)
      simp only [rBody, if_true, rFlag_fwd]
    · obtain rfl := hy.resolve_left h1
      by_cases h2 : k = 2
      · subst h2
        obtain rfl := ht.resolve_left (by decide)
        obtain rfl := hll.resolve_left (by decide)
        obtain rfl := hff.resolve_left (by decide)
        simp only [rBody, if_true, rInt_fwd hn, show ¬ (2 : Int) = 1 by decide, if_false]
      · obtain rfl := hnn.resolve_left h2
        by_cases h3 : k = 3
        · subst h3
          obtain rfl := hll.resolve_left (by decide)
          obtain rfl := hff.resolve_left (by decide)
          have htl : t.length ≤ 4096 := by
            have := Sch.textB_ge t
            simp at hl; omega
          simp only [rBody, if_true, rText_fwd (most := 4096) (s := t) r (by decide) (by omega), show ¬ (3 : Int) = 1 by decide, show ¬ (3 : Int) = 2 by decide, if_false]
        · obtain rfl := ht.resolve_left h3
          by_cases h4 : k = 4
          · subst h4
            obtain rfl := hff.resolve_left (by decide)
            simp only [show ¬ (4 : Int) = 1 by decide, show ¬ (4 : Int) = 2 by decide, show ¬ (4 : Int) = 3 by decide, if_true, if_false, List.length_cons, List.length_append] at hl
            have hge := flat_ge encV encV_pos l
            have hmem := flat_mem encV l
            have := rL_fwd (f := rV d) (l := l) (r := r) (fun x hx r => rV_fwd d x r (hls x hx) (hwl x hx) (by have := hmem x hx; omega)) l.length (Nat.le_refl _)
            simp only [rBody, if_true, show ¬ (4 : Int) = 1 by decide, show ¬ (4 : Int) = 2 by decide, show ¬ (4 : Int) = 3 by decide, if_false, List.append_assoc]
            rw [rNum_fwd _ (szN_4 (by omega)) (by omega)]
            simp only [this]
            simp
          · obtain rfl := hll.resolve_left h4
            by_cases h5' : k = 5
            · subst h5'
              simp only [show ¬ (5 : Int) = 1 by decide, show ¬ (5 : Int) = 2 by decide, show ¬ (5 : Int) = 3 by decide, show ¬ (5 : Int) = 4 by decide, if_true, if_false, List.length_cons, List.length_append] at hl
              have hge := flat_ge fieldB fieldB_pos fs
              have hmem := flat_mem fieldB fs
              have hfl : ∀ x ∈ fs, x.name.length ≤ 4096 ∧ (encV x.val).length ≤ 4096 := fun x hx => by
                have h1 := hmem x hx
                have h2 := Sch.textB_ge x.name
                simp only [fieldB, List.length_append] at h1
                omega
              have := rF_fwd (f := rV d) (l := fs) (r := r) hr (fun x hx => (hfl x hx).1) (fun x hx r => rV_fwd d x.val r (hfs x hx) (hwf x hx) (hfl x hx).2) fs.length (Nat.le_refl _)
              simp only [rBody, if_true, show ¬ (5 : Int) = 1 by decide, show ¬ (5 : Int) = 2 by decide, show ¬ (5 : Int) = 3 by decide, show ¬ (5 : Int) = 4 by decide, if_false, List.append_assoc]
              rw [rNum_fwd _ (szN_4 (by omega)) (by omega)]
              simp only [this]
              simp
            · obtain rfl := hff.resolve_left h5'
              simp only [rBody, h1, h2, h3, h4, h5', if_false, List.nil_append]
/-- The errors that reading has. -/
def okE (e : Int) : Prop := e = 0 ∨ e = 2 ∨ e = 3
theorem rL_err {f : DS → V × DS} (hf : ∀ st, okE st.2 → okE (f st).2.2) : ∀ n st, okE st.2 → okE (rL f n st).2.2
  | 0, _, h => h
  | n + 1, st, h => by
    have ih := rL_err hf n st h
    simp only [rL]
    split
    · exact ih
    · exact hf _ ih
theorem rF_err {f : DS → V × DS} (hf : ∀ st, okE st.2 → okE (f st).2.2) : ∀ n st, okE st.2 → okE (rF f n st).2.2
  | 0, _, h => h
  | n + 1, st, h => by
    have ih := rF_err hf n st h
    simp only [rF]
    split
    · exact ih
    · refine hf _ ?_
      show okE (if _ then _ else _)
      split
      · exact .inr (.inl rfl)
      · exact ih
theorem rKind_err {st : DS} (h : okE st.2) : okE (rKind st).2.2 := by
  unfold rKind
  split
  · exact .inr (.inl rfl)
  · split
    · exact .inr (.inl rfl)
    · exact h
theorem rV_err : ∀ d st, okE st.2 → okE (rV d st).2.2
  | 0, st, h => by
    simp only [rV]
    split
    · exact h
    · exact .inr (.inr rfl)
  | d + 1, st, h => by
    simp only [rV]
    split
    · exact h
    · have hk := rKind_err h
      unfold rBody
      split
      · exact hk
      · split
        · exact hk
        · split
          · exact hk
          · split
            · exact rL_err (rV_err d) _ _ hk
            · split
              · exact rF_err (rV_err d) _ _ hk
              · exact hk
/-- Lists in each other. -/
def nestV : Nat → V
  | 0 => .mk 2 false 5 [] [] []
  | n + 1 => .mk 4 false 0 [] [nestV n] []
def nestB : Nat → List UInt8
  | 0 => [2, 0, 1, 10]
  | n + 1 => [4, 1, 1] ++ nestB n
theorem numB_0 : numB 0 = [0] := by simp [numB, szN_zero, be]
theorem numB_1 : numB 1 = [1, 1] := by
  have h : szN 1 = 1 := by rw [szN_pos (by decide)]; simp [szN_zero]
  rw [numB, h]; decide
theorem numB_10 : numB 10 = [1, 10] := by
  have h : szN 10 = 1 := by rw [szN_pos (by decide)]; simp [szN_zero]
  rw [numB, h]; decide
theorem enc_nest : ∀ n, encV (nestV n) = nestB n
  | 0 => by
    rw [encV_eq]
    simp only [nestV, V.kind, V.num, intB]
    rw [show zigN 5 / 4294967296 = 0 by decide, show zigN 5 % 4294967296 = 10 by decide, numB_0, numB_10]
    decide
  | n + 1 => by
    rw [encV_eq]
    simp only [nestV, V.kind, V.list, List.flatMap_cons, List.flatMap_nil, enc_nest n, List.length_cons, List.length_nil, nestB]
    simp [numB_1]
theorem wf_nest : ∀ n, WfV (nestV n)
  | 0 => .mk _ _ _ _ _ _ (by unfold i64; decide) (by unfold i64; decide) (fun x h => by cases h) (fun x h => by cases h)
  | n + 1 => .mk _ _ _ _ _ _ (by unfold i64; decide) (by unfold i64; decide) (fun x h => by rcases List.mem_singleton.1 h with rfl; exact wf_nest n) (fun x h => by cases h)
theorem right_nest : ∀ d n, rightV d (nestV n) = decide (n < d)
  | 0, n => by simp [rightV]
  | d + 1, 0 => by simp [rightV, nestV, onlyV, rises, V.kind, V.yes, V.num, V.text, V.list, V.fields]
  | d + 1, n + 1 => by simp [rightV, nestV, onlyV, rises, V.kind, V.yes, V.num, V.text, V.list, V.fields, right_nest d n]
theorem nest_len : ∀ n, (nestB n).length = 3 * n + 4
  | 0 => rfl
  | n + 1 => by simp [nestB, nest_len n]; omega
theorem rV_deep : ∀ (d n : Nat) (r : List UInt8), d ≤ n → (rV d ((nestB n ++ r, false), 0)).2.2 = 3
  | 0, n, r, _ => by simp [rV, broke]
  | d + 1, 0, _, h => by omega
  | d + 1, n + 1, r, h => by
    have ih := rV_deep d n r (by omega)
    have hn := rNum_fwd (most := 4096) (x := 1) (nestB n ++ r) (szN_4 (by decide)) (by decide)
    rw [numB_1] at hn
    simp only [rV, broke_ok, Bool.false_eq_true, if_false, nestB, List.cons_append, rKind, List.nil_append, show ¬ 5 < (4 : UInt8).toNat by decide]
    simp only [List.cons_append, List.nil_append] at hn
    simp only [rBody, show ((4 : UInt8).toNat : Int) = 4 by decide, if_true, show ¬ (4 : Int) = 1 by decide, show ¬ (4 : Int) = 2 by decide, show ¬ (4 : Int) = 3 by decide, if_false, hn, rL, broke_ok, Bool.false_eq_true]
    exact ih
end Go.AV.Val
