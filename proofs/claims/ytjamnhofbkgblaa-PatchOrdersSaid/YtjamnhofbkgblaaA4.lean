/-
  The AV logic, part 4: a region that draws its order: run in the order of the text, and every order comes to the same.
-/
import Derived.Test.YtjamnhofbkgblaaA3
namespace Go.AV
open Go.RowKit

/-- One operation of the reference run: at mark 0 it doesn't look at the state, at 1 it may, and leaves it, at 2 it may change it. -/
def Step (P : Program) (Φ : HS → Prop) (ops : Array Oper) (o : Oper) (f : Nat) (T : List AV) (H : HS) (v : AV) (H' : HS) : Prop :=
  (∃ b, (match o.guard with
    | none => b = true
    | some (g, want) => (∃ d x, (ops[g]?).bind (·.dst) = some d ∧ T[d]? = some (.d (.v (.bool x))) ∧ b = (x == want)) ∨ (∃ d, (ops[g]?).bind (·.dst) = some d ∧ T[d]? = some .nv ∧ b = false)) ∧
   match b with
   | true => match f with
     | 0 => H' = H ∧ ∀ H, Φ H → OpR P o (evalT T) H (Ret v H)
     | 1 => H' = H ∧ OpR P o (evalT T) H (Ret v H)
     | _ => OpR P o (evalT T) H (Ret v H')
   | false => v = .nv ∧ H' = H)

def DRunX (P : Program) (Φ : HS → Prop) (ops : Array Oper) : List Oper → List Nat → List AV → HS → (List AV → HS → Prop) → Prop
  | [], _, T, H, Q => Q T H
  | o :: l, fl, T, H, Q => ∃ v H', Step P Φ ops o (fl.headD 2) T H v H' ∧ (l = [] ∨ (Φ H → Φ H')) ∧ DRunX P Φ ops l fl.tail (putT T o.dst v) H' Q
/-- Nothing is asked of the states. -/
abbrev DRun (P : Program) (ops : Array Oper) := DRunX P (fun _ => True) ops

def bit (B : Array Nat) (i j : Nat) : Bool := (B.getD j 0).testBit i
def clash (ops : Array Oper) (fl : List Nat) (i j : Nat) (oi oj : Oper) : Bool :=
  (match oi.dst with
   | some d => (oj.looksAt ops).contains d || oj.dst == some d
   | none => false) ||
  (match oj.dst with
   | some d => (oi.looksAt ops).contains d
   | none => false) ||
  (fl.getD i 2 ≥ 2 && fl.getD j 2 ≥ 1) || (fl.getD j 2 ≥ 2 && fl.getD i 2 ≥ 1)
def drawOk (ops : Array Oper) (fl : List Nat) (B : Array Nat) : Bool :=
  (List.range ops.size).all fun j => match ops[j]? with
    | none => false
    | some oj =>
      (oj.after.all fun e => !Region.binds .any e || e.on < j) &&
      (List.range ops.size).all fun i => match ops[i]? with
        | none => false
        | some oi => (!bit B i j || oj.after.any fun e => Region.binds .any e && (e.on == i || bit B i e.on)) && (!(i < j) || !(clash ops fl i j oi oj || clash ops fl j i oj oi) || bit B i j)

section
variable {P : Program} {Q : Post} {ops : Array Oper} {fl : List Nat} {B : Array Nat} {T0 : List AV} {vs : Nat → AV} {hs : Nat → HS}

def dstAt (ops : Array Oper) (i : Nat) : Option Tmp := (ops[i]?).bind (·.dst)
/-- What stands in a slot when the operations of S below k have run. -/
def W (ops : Array Oper) (T0 : List AV) (vs : Nat → AV) (S : Nat → Bool) : Nat → Nat → AV
  | 0, t => T0.getD t .un
  | k + 1, t => if S k = true ∧ dstAt ops k = some t then vs k else W ops T0 vs S k t
/-- The state when the operations of S below k have run. -/
def Hc (fl : List Nat) (hs : Nat → HS) (S : Nat → Bool) : Nat → HS
  | 0 => hs 0
  | k + 1 => if S k = true ∧ fl.getD k 2 ≥ 2 then hs (k + 1) else Hc fl hs S k
def Tref (ops : Array Oper) (T0 : List AV) (vs : Nat → AV) : Nat → List AV
  | 0 => T0
  | k + 1 => putT (Tref ops T0 vs k) (dstAt ops k) (vs k)
theorem putT_length (T : List AV) (d : Option Tmp) (v : AV) : (putT T d v).length = T.length := by cases d <;> simp [putT]
theorem Tref_length : ∀ k, (Tref ops T0 vs k).length = T0.length
  | 0 => rfl
  | k + 1 => by rw [Tref, putT_length, Tref_length k]
theorem Tref_getD {t : Nat} (ht : t < T0.length) : ∀ k, (Tref ops T0 vs k).getD t .un = W ops T0 vs (fun _ => true) k t
  | 0 => rfl
  | k + 1 => by
    have ih := Tref_getD ht k
    have hl : t < (Tref ops T0 vs k).length := by rw [Tref_length]; exact ht
    simp only [Tref, W]
    cases hd : dstAt ops k with
    | none => simpa [putT] using ih
    | some d =>
      by_cases hdt : d = t
      · subst hdt
        simp [putT, List.getD_eq_getElem?_getD, hl]
      · rw [if_neg (by simpa using hdt), ← ih]
        simp [putT, List.getD_eq_getElem?_getD, List.getElem?_set_ne hdt]
theorem W_agree {S S' : Nat → Bool} {t : Nat} : ∀ k, (∀ i, i < k → dstAt ops i = some t → S i = S' i) → W ops T0 vs S k t = W ops T0 vs S' k t
  | 0, _ => rfl
  | k + 1, h => by
    have ih := W_agree k fun i hi => h i (by omega)
    simp only [W]
    by_cases hd : dstAt ops k = some t
    · rw [h k (by omega) hd, ih]
    · rw [if_neg (fun hh => hd hh.2), if_neg (fun hh => hd hh.2), ih]
/-- The slots at j: what stands there in the reference run, and with what has run of S. -/
theorem W_at {S : Nat → Bool} {t j n : Nat} (hj : j ≤ n) (h : ∀ i, i < n → dstAt ops i = some t → S i = decide (i < j)) : W ops T0 vs S n t = W ops T0 vs (fun _ => true) j t := by
  induction n with
  | zero => have : j = 0 := by omega
            subst this; rfl
  | succ n ih =>
    by_cases hjn : j = n + 1
    · subst hjn
      exact W_agree (n + 1) fun i hi hd => by rw [h i hi hd]; simpa using hi
    · have hd : ¬ (S n = true ∧ dstAt ops n = some t) := by
        rintro ⟨h1, h2⟩
        have := h n (by omega) h2
        rw [h1] at this
        have : n < j := by simpa using this.symm
        omega
      rw [W, if_neg hd]
      exact ih (by omega) fun i hi => h i (by omega)
theorem Hc_agree {S S' : Nat → Bool} : ∀ k, (∀ i, i < k → fl.getD i 2 ≥ 2 → S i = S' i) → Hc fl hs S k = Hc fl hs S' k
  | 0, _ => rfl
  | k + 1, h => by
    have ih := Hc_agree k fun i hi => h i (by omega)
    simp only [Hc]
    by_cases hd : fl.getD k 2 ≥ 2
    · rw [h k (by omega) hd, ih]
    · rw [if_neg (fun hh => hd hh.2), if_neg (fun hh => hd hh.2), ih]
theorem Hc_at {S : Nat → Bool} {j n : Nat} (hj : j ≤ n) (h : ∀ i, i < n → fl.getD i 2 ≥ 2 → S i = decide (i < j)) : Hc fl hs S n = Hc fl hs (fun _ => true) j := by
  induction n with
  | zero => have : j = 0 := by omega
            subst this; rfl
  | succ n ih =>
    by_cases hjn : j = n + 1
    · subst hjn
      exact Hc_agree (n + 1) fun i hi hd => by rw [h i hi hd]; simpa using hi
    · have hd : ¬ (S n = true ∧ fl.getD n 2 ≥ 2) := by
        rintro ⟨h1, h2⟩
        have := h n (by omega) h2
        rw [h1] at this
        have : n < j := by simpa using this.symm
        omega
      rw [Hc, if_neg hd]
      exact ih (by omega) fun i hi => h i (by omega)

theorem filter_lt (l : List Nat) (S S' : Nat → Bool) (j : Nat) (hj : j ∈ l) (h1 : S j = false) (h2 : S' j = true) (h : ∀ i, S i = true → S' i = true) :
    (l.filter fun i => !S' i).length < (l.filter fun i => !S i).length := by
  have le : ∀ l : List Nat, (l.filter fun i => !S' i).length ≤ (l.filter fun i => !S i).length := by
    intro l
    induction l with
    | nil => simp
    | cons x l ih =>
      cases hx : S x <;> cases hx' : S' x <;> simp [hx, hx'] <;> first | omega | (have := h x hx; rw [hx'] at this; cases this)
  induction l with
  | nil => cases hj
  | cons x l ih =>
    by_cases hxj : x = j
    · subst hxj
      have := le l
      simp [h1, h2]
      omega
    · have hj' : j ∈ l := by
        cases hj with
        | head => exact absurd rfl hxj
        | tail _ h => exact h
      have := ih hj'
      cases hx : S x <;> cases hx' : S' x <;> simp [hx, hx'] <;> first | omega | (have := h x hx; rw [hx'] at this; cases this)

structure RefRun (P : Program) (Φ : HS → Prop) (B : Array Nat) (ops : Array Oper) (fl : List Nat) (T0 : List AV) (vs : Nat → AV) (hs : Nat → HS) : Prop where
  step : ∀ k o, ops[k]? = some o → Step P Φ ops o (fl.getD k 2) (Tref ops T0 vs k) (hs k) (vs k) (hs (k + 1))
  phi : ∀ k, k < ops.size → Φ (hs k)
  last : Φ (hs ops.size) ∨ ∀ j, j + 1 < ops.size → bit B j (ops.size - 1) = true
theorem Hc_phi {Φ : HS → Prop} {S : Nat → Bool} : ∀ n, (∀ k, k ≤ n → Φ (hs k)) → Φ (Hc fl hs S n)
  | 0, h => h 0 (Nat.le_refl _)
  | n + 1, h => by
    simp only [Hc]
    split
    · exact h (n + 1) (Nat.le_refl _)
    · exact Hc_phi n fun k hk => h k (by omega)
theorem RefRun.Hc {Φ : HS → Prop} (h : RefRun P Φ B ops fl T0 vs hs) : ∀ k, k ≤ ops.size → Hc fl hs (fun _ => true) k = hs k
  | 0, _ => rfl
  | k + 1, hk => by
    have ih := h.Hc k (by omega)
    simp only [AV.Hc]
    by_cases hd : fl.getD k 2 ≥ 2
    · rw [if_pos ⟨trivial, hd⟩]
    · rw [if_neg (fun hh => hd hh.2), ih]
      obtain ⟨b, _, hb⟩ := h.step k ops[k] (by simp [show k < ops.size by omega])
      cases b with
      | false => exact hb.2.symm
      | true =>
        rcases hf : fl.getD k 2 with _ | _ | f
        · rw [hf] at hb; exact hb.1.symm
        · rw [hf] at hb; exact hb.1.symm
        · omega

/-- The check, in words. -/
theorem drawOk_edge (h : drawOk ops fl B = true) {j : Nat} {oj : Oper} (hj : ops[j]? = some oj) {e : Edge} (he : e ∈ oj.after) (hb : Region.binds .any e = true) : e.on < j := by
  have hlt : j < ops.size := (Array.getElem?_eq_some_iff.1 hj).1
  have := List.all_eq_true.1 h j (List.mem_range.2 hlt)
  simp only [hj, Bool.and_eq_true] at this
  have := Array.all_eq_true_iff_forall_mem.1 this.1 e he
  simpa [hb] using this
theorem drawOk_pre (h : drawOk ops fl B = true) {i j : Nat} {oi oj : Oper} (hi : ops[i]? = some oi) (hj : ops[j]? = some oj) (hb : bit B i j = true) :
    ∃ e ∈ oj.after, Region.binds .any e = true ∧ (e.on = i ∨ bit B i e.on = true) := by
  have hlt : j < ops.size := (Array.getElem?_eq_some_iff.1 hj).1
  have hlt' : i < ops.size := (Array.getElem?_eq_some_iff.1 hi).1
  have h1 := List.all_eq_true.1 h j (List.mem_range.2 hlt)
  simp only [hj, Bool.and_eq_true] at h1
  have h2 := List.all_eq_true.1 h1.2 i (List.mem_range.2 hlt')
  simp only [hi, Bool.and_eq_true, hb, Bool.not_true, Bool.false_or] at h2
  obtain ⟨e, he, h3⟩ := Array.any_eq_true'.1 h2.1
  simp only [Bool.and_eq_true, Bool.or_eq_true, beq_iff_eq] at h3
  exact ⟨e, he, h3.1, h3.2⟩
theorem drawOk_clash (h : drawOk ops fl B = true) {i j : Nat} {oi oj : Oper} (hi : ops[i]? = some oi) (hj : ops[j]? = some oj) (hij : i < j) (hc : (clash ops fl i j oi oj || clash ops fl j i oj oi) = true) : bit B i j = true := by
  have hlt : j < ops.size := (Array.getElem?_eq_some_iff.1 hj).1
  have hlt' : i < ops.size := (Array.getElem?_eq_some_iff.1 hi).1
  have h1 := List.all_eq_true.1 h j (List.mem_range.2 hlt)
  simp only [hj, Bool.and_eq_true] at h1
  have h2 := List.all_eq_true.1 h1.2 i (List.mem_range.2 hlt')
  simp only [hi, Bool.and_eq_true, hij, decide_true, hc, Bool.not_true, Bool.false_or] at h2
  exact h2.2

def inS (listed : Array Bool) (i : Nat) : Bool := listed.getD i false
/-- What has run is closed: whatever is before it has run. -/
def Closed (ops : Array Oper) (B : Array Nat) (S : Nat → Bool) : Prop := ∀ i j, j < ops.size → i < ops.size → S j = true → bit B i j = true → S i = true

theorem step_sets (hok : drawOk ops fl B = true) {S : Nat → Bool} (hS : Closed ops B S) {i j : Nat} {oi oj : Oper} (hi : ops[i]? = some oi) (hj : ops[j]? = some oj) (hne : i ≠ j) (hjS : S j = false)
    (hpre : ∀ k, k < ops.size → bit B k j = true → S k = true) (hc : (clash ops fl i j oi oj || clash ops fl j i oj oi) = true) : S i = decide (i < j) := by
  have hlt : j < ops.size := (Array.getElem?_eq_some_iff.1 hj).1
  have hlt' : i < ops.size := (Array.getElem?_eq_some_iff.1 hi).1
  by_cases hij : i < j
  · have hb : bit B i j = true := drawOk_clash hok hi hj hij hc
    rw [hpre i hlt' hb]
    simpa using hij
  · have hb : bit B j i = true := drawOk_clash hok hj hi (by omega) (by rw [Bool.or_comm]; exact hc)
    have : S i = false := by
      cases hs : S i with
      | false => rfl
      | true => rw [hS j i hlt' hlt hs hb] at hjS; cases hjS
    rw [this]
    simpa using hij

theorem clash_dst {i j : Nat} {oi oj : Oper} {t : Tmp} (hd : oi.dst = some t) (h : t ∈ oj.looksAt ops ∨ oj.dst = some t) : (clash ops fl i j oi oj || clash ops fl j i oj oi) = true := by
  have h1 : clash ops fl i j oi oj = true := by
    unfold clash
    simp only [hd]
    rcases h with h | h
    · have : (oj.looksAt ops).contains t = true := by simpa using h
      simp only [this, Bool.true_or]
    · simp [h]
  simp [h1]
theorem clash_state {i j : Nat} {oi oj : Oper} (h1 : fl.getD i 2 ≥ 2) (h2 : fl.getD j 2 ≥ 1) : (clash ops fl i j oi oj || clash ops fl j i oj oi) = true := by
  have h : clash ops fl i j oi oj = true := by
    unfold clash
    have a1 : decide (fl.getD i 2 ≥ 2) = true := decide_eq_true h1
    have a2 : decide (fl.getD j 2 ≥ 1) = true := decide_eq_true h2
    simp only [a1, a2, Bool.and_self, Bool.or_true, Bool.true_or]
  simp [h]

theorem draw_main {Φ : HS → Prop} (hok : drawOk ops fl B = true) (href : RefRun P Φ B ops fl T0 vs hs) (hend : Q .normal (Tref ops T0 vs ops.size) (hs ops.size)) (B0 : Nat) (w0 : World) (c0 : Ctx) :
    ∀ (fuel : Nat) (listed : Array Bool) (c : Ctx) (w : World) (a : Act), listed.size = ops.size → ((List.range ops.size).filter fun i => !inS listed i).length ≤ fuel → Closed ops B (inS listed) → Le c0 c →
      Inv B0 w0 c (Hc fl hs (inS listed) ops.size) w → a.tmps.size = T0.length → (∀ t, t < T0.length → Rep c (a.tmps.getD t undef) (W ops T0 vs (inS listed) ops.size t)) → a.defers = [] →
      wpAny P .any ops (Done B0 w0 c0 Q) fuel listed a w := by
  have getD_eq : ∀ {listed : Array Bool} {i : Nat}, listed.size = ops.size → i < ops.size → listed.getD i true = inS listed i := by
    intro listed i h1 h2
    have : i < listed.size := by omega
    simp [inS, this]
  have done : ∀ (listed : Array Bool) (c : Ctx) (w : World) (a : Act), listed.size = ops.size → Region.ready .any ops listed = [] → Le c0 c →
      Inv B0 w0 c (Hc fl hs (inS listed) ops.size) w → a.tmps.size = T0.length → (∀ t, t < T0.length → Rep c (a.tmps.getD t undef) (W ops T0 vs (inS listed) ops.size t)) → a.defers = [] → Done B0 w0 c0 Q .normal a w := by
    intro listed c w a hsz hr hle hI hts hT hdef
    have hall : ∀ j, j < ops.size → inS listed j = true := by
      intro j
      induction j using Nat.strongRecOn with
      | _ j ih =>
        intro hj
        cases hs : inS listed j with
        | true => rfl
        | false =>
          have hmem : j ∈ Region.ready .any ops listed := by
            rw [mem_ready]
            refine ⟨by rw [getD_eq hsz hj]; exact hs, ops[j], by simp [hj], fun e he hb => ?_⟩
            have := drawOk_edge hok (show ops[j]? = some ops[j] by simp [hj]) he hb
            exact ih e.on this (by omega)
          rw [hr] at hmem
          cases hmem
    refine ⟨c, Tref ops T0 vs ops.size, hs ops.size, hle, ?_, ⟨by rw [hts, Tref_length], fun t ht => ?_⟩, hdef, hend⟩
    · rw [Hc_at (Nat.le_refl _) (fun i hi _ => by rw [hall i hi]; simpa using hi), href.Hc _ (Nat.le_refl _)] at hI
      exact hI
    · rw [Tref_length] at ht
      rw [Tref_getD ht, ← W_at (S := inS listed) (n := ops.size) (Nat.le_refl _) (fun i hi _ => by rw [hall i hi]; simpa using hi)]
      exact hT t ht
  intro fuel
  induction fuel with
  | zero =>
    intro listed c w a hsz hcount hcl hle hI hts hT hdef
    have hr : Region.ready .any ops listed = [] := by
      cases hr : Region.ready .any ops listed with
      | nil => rfl
      | cons j l =>
        have hj : j ∈ Region.ready .any ops listed := by rw [hr]; exact List.mem_cons_self ..
        obtain ⟨h1, o, ho, _⟩ := mem_ready.1 hj
        have hlt : j < ops.size := (Array.getElem?_eq_some_iff.1 ho).1
        rw [getD_eq hsz hlt] at h1
        have : j ∈ (List.range ops.size).filter fun i => !inS listed i := by simp [hlt, h1]
        have := List.length_pos_of_mem this
        omega
    exact ⟨hr, done listed c w a hsz hr hle hI hts hT hdef⟩
  | succ fuel ih =>
    intro listed c w a hsz hcount hcl hle hI hts hT hdef
    refine ⟨fun hr => done listed c w a hsz hr hle hI hts hT hdef, fun j hj => ?_⟩
    obtain ⟨h1, oj, hoj, hedge⟩ := mem_ready.1 hj
    have hlt : j < ops.size := (Array.getElem?_eq_some_iff.1 hoj).1
    have hjS : inS listed j = false := by rw [← getD_eq hsz hlt]; exact h1
    have hpre : ∀ k, k < ops.size → bit B k j = true → inS listed k = true := by
      intro k hk hb
      obtain ⟨e, he, hbind, hh⟩ := drawOk_pre hok (show ops[k]? = some ops[k] by simp [hk]) hoj hb
      have h2 : inS listed e.on = true := hedge e he hbind
      rcases hh with rfl | hh
      · exact h2
      · have := drawOk_edge hok hoj he hbind
        exact hcl k e.on (by omega) hk h2 hh
    -- the new set
    have hS' : ∀ i, inS (listed.setIfInBounds j true) i = if i = j then true else inS listed i := by
      intro i
      unfold inS
      by_cases hij : i = j
      · subst hij
        have : i < listed.size := by omega
        simp [this]
      · rw [if_neg hij]
        have := getD_set_ne (listed := listed) (i := j) (j := i) false (fun e => hij e.symm)
        exact this
    have hcl' : Closed ops B (inS (listed.setIfInBounds j true)) := by
      intro i k hk hi hS hb
      rw [hS'] at hS ⊢
      by_cases hij : i = j
      · rw [if_pos hij]
      · rw [if_neg hij]
        by_cases hkj : k = j
        · subst hkj; exact hpre i hi hb
        · rw [if_neg hkj] at hS; exact hcl i k hk hi hS hb
    have hcount' : ((List.range ops.size).filter fun i => !inS (listed.setIfInBounds j true) i).length ≤ fuel := by
      have := filter_lt (List.range ops.size) (inS listed) (inS (listed.setIfInBounds j true)) j (by simpa using hlt) hjS (by rw [hS', if_pos rfl]) (fun i hi => by rw [hS']; split; rfl; exact hi)
      omega
    -- writers of a slot that j looks at or writes
    have writers : ∀ t, (t ∈ oj.looksAt ops ∨ oj.dst = some t) → ∀ i, i < ops.size → i ≠ j → dstAt ops i = some t → inS listed i = decide (i < j) := by
      intro t ht i hi hne hd
      have hio : ops[i]? = some ops[i] := by simp [hi]
      have hd' : (ops[i]).dst = some t := by simpa [dstAt, hio] using hd
      exact step_sets hok hcl hio hoj hne hjS hpre (clash_dst hd' ht)
    have slot : ∀ t, t ∈ oj.looksAt ops → W ops T0 vs (inS listed) ops.size t = W ops T0 vs (fun _ => true) j t := by
      intro t ht
      refine W_at (Nat.le_of_lt hlt) fun i hi hd => ?_
      by_cases hij : i = j
      · subst hij; rw [hjS]; simp
      · exact writers t (.inl ht) i hi hij hd
    have state : fl.getD j 2 ≥ 1 → Hc fl hs (inS listed) ops.size = hs j := by
      intro hf
      rw [Hc_at (Nat.le_of_lt hlt) fun i hi hd => ?_]
      · exact href.Hc j (Nat.le_of_lt hlt)
      · by_cases hij : i = j
        · subst hij; rw [hjS]; simp
        · exact step_sets hok hcl (show ops[i]? = some ops[i] by simp [hi]) hoj hij hjS hpre (clash_state hd hf)
    -- the slots behind j
    have slots' : ∀ (c' : Ctx) (v' : Value), Le c c' → Rep c' v' (vs j) → ∀ t, t < T0.length → Rep c' ((a.put oj.dst v').tmps.getD t undef) (W ops T0 vs (inS (listed.setIfInBounds j true)) ops.size t) := by
      intro c' v' hl hv t ht
      by_cases hd : oj.dst = some t
      · have e1 : W ops T0 vs (inS (listed.setIfInBounds j true)) ops.size t = vs j := by
          rw [W_at (j := j + 1) (by omega) fun i hi hdi => ?_]
          · simp only [W]
            rw [if_pos ⟨trivial, by simp [dstAt, hoj, hd]⟩]
          · rw [hS']
            by_cases hij : i = j
            · subst hij; simp
            · rw [if_neg hij, writers t (.inr hd) i hi hij hdi]
              have : (i < j) ↔ (i < j + 1) := by omega
              simp [this]
        rw [e1]
        have : t < a.tmps.size := Nat.lt_of_lt_of_eq ht hts.symm
        simp [Act.put, hd, this]
        exact hv
      · have e1 : W ops T0 vs (inS (listed.setIfInBounds j true)) ops.size t = W ops T0 vs (inS listed) ops.size t := by
          refine W_agree _ fun i hi hdi => ?_
          rw [hS', if_neg]
          intro hij
          subst hij
          rw [dstAt, hoj] at hdi
          exact hd hdi
        rw [e1]
        have e2 : (a.put oj.dst v').tmps.getD t undef = a.tmps.getD t undef := by
          cases hdd : oj.dst with
          | none => rfl
          | some d =>
            have hne : d ≠ t := fun e => hd (by rw [hdd, e])
            simp [Act.put, Array.getElem?_setIfInBounds_ne hne]
        rw [e2]
        exact (hT t ht).mono hl
    have size' : ∀ v', (a.put oj.dst v').tmps.size = T0.length := by
      intro v'
      cases oj.dst <;> simp [Act.put, hts]
    have hc' : ∀ (v' : Value) (w' : World) (c' : Ctx), Le c c' → Rep c' v' (vs j) → Inv B0 w0 c' (Hc fl hs (inS (listed.setIfInBounds j true)) ops.size) w' →
        wpAny P .any ops (Done B0 w0 c0 Q) fuel (listed.setIfInBounds j true) (a.put oj.dst v') w' := by
      intro v' w' c' hl hv hI'
      exact ih _ c' w' _ (by simpa using hsz) hcount' hcl' (hle.trans hl) hI' (size' v') (slots' c' v' hl hv) (by rw [put_defers]; exact hdef)
    -- the state behind j
    have keep : fl.getD j 2 < 2 → Hc fl hs (inS (listed.setIfInBounds j true)) ops.size = Hc fl hs (inS listed) ops.size := by
      intro hf
      refine Hc_agree _ fun i hi hd => ?_
      rw [hS', if_neg]
      intro hij
      subst hij
      omega
    have turn : fl.getD j 2 ≥ 2 → Hc fl hs (inS (listed.setIfInBounds j true)) ops.size = hs (j + 1) := by
      intro hf
      rw [Hc_at (j := j + 1) (by omega) fun i hi hd => ?_]
      · exact href.Hc (j + 1) hlt
      · rw [hS']
        by_cases hij : i = j
        · subst hij; simp
        · rw [if_neg hij, step_sets hok hcl (show ops[i]? = some ops[i] by simp [hi]) hoj hij hjS hpre (clash_state hd (by omega))]
          have : (i < j) ↔ (i < j + 1) := by omega
          simp [this]
    obtain ⟨b, hg, hb⟩ := href.step j oj hoj
    have hslotRep : ∀ t, t ∈ oj.looksAt ops → Rep c (a.tmps.getD t undef) ((Tref ops T0 vs j).getD t .un) := by
      intro t ht
      by_cases hlt' : t < T0.length
      · rw [Tref_getD hlt', ← slot t ht]
        exact hT t hlt'
      · have : (Tref ops T0 vs j).getD t .un = .un := by
          rw [List.getD_eq_getElem?_getD, List.getElem?_eq_none (by rw [Tref_length]; exact Nat.le_of_not_lt hlt')]; rfl
        rw [this]; exact .un _
    have hops : ∀ x ∈ oj.op.operands, Rep c (a.eval x) (evalT (Tref ops T0 vs j) x) := by
      intro x hx
      cases x with
      | tmp t => exact hslotRep t (List.mem_append_left _ (List.mem_filterMap.2 ⟨.tmp t, by simpa using hx, rfl⟩))
      | const v => exact rep_const c v
      | func f => exact rep_func c f
      | global g => exact .un _
    have hwant : Region.wanted oj (yielded ops a.tmps) = b := by
      cases hgd : oj.guard with
      | none => rw [hgd] at hg; simp only [] at hg; simp [Region.wanted, hgd, hg]
      | some gw =>
        obtain ⟨g, want⟩ := gw
        rw [hgd] at hg
        rcases hg with ⟨d, x, hd, hx, rfl⟩ | ⟨d, hd, hx, rfl⟩
        · have hlt' : d < T0.length := by
            have := (List.getElem?_eq_some_iff.1 hx).1
            rwa [Tref_length] at this
          have hdt : d < a.tmps.size := Nat.lt_of_lt_of_eq hlt' hts.symm
          have hrep := hslotRep d (by
            refine List.mem_append_right _ ?_
            simp [hgd, hd])
          rw [List.getD_eq_getElem?_getD, hx] at hrep
          have e := hrep.v_eq
          have hs := hdt
          have hy : yielded ops a.tmps g = some x := by
            unfold yielded
            rw [hd]
            simp [hs] at e ⊢
            rw [e]
          simp only [Region.wanted, hgd, hy]
          cases x <;> cases want <;> rfl
        · have hlt' : d < T0.length := by
            have := (List.getElem?_eq_some_iff.1 hx).1
            rwa [Tref_length] at this
          have hdt : d < a.tmps.size := Nat.lt_of_lt_of_eq hlt' hts.symm
          have hrep := hslotRep d (by
            refine List.mem_append_right _ ?_
            simp [hgd, hd])
          rw [List.getD_eq_getElem?_getD, hx] at hrep
          have e := hrep.nv_eq
          have hs := hdt
          have hy : yielded ops a.tmps g = none := by
            unfold yielded
            rw [hd]
            simp [hs] at e ⊢
            simp [e, undef]
          simp only [Region.wanted, hgd, hy]
          cases want <;> rfl
    unfold wpOp
    simp only [hoj, hwant]
    cases b with
    | false =>
      rw [if_neg (by simp)]
      obtain ⟨hv, hH⟩ := hb
      refine hc' undef w c (Le.refl c) (by rw [hv]; exact .nv) ?_
      by_cases hf : fl.getD j 2 ≥ 2
      · rw [turn hf, hH]
        rw [state (by omega)] at hI
        exact hI
      · rw [keep (by omega)]; exact hI
    | true =>
      rw [if_pos rfl]
      refine .inl ?_
      rcases hf : fl.getD j 2 with _ | _ | f
      · rw [hf] at hb
        obtain ⟨hH, hR⟩ := hb
        have hphi : Φ (Hc fl hs (inS listed) ops.size) := by
          rcases href.last with hL | hL
          · exact Hc_phi _ fun k hk => by
              rcases Nat.lt_or_ge k ops.size with h | h
              · exact href.phi k h
              · rw [show k = ops.size by omega]; exact hL
          · obtain ⟨m, hm⟩ : ∃ m, ops.size = m + 1 := ⟨ops.size - 1, by omega⟩
            have hlast : inS listed m = false := by
              by_cases hjm : j = m
              · rw [← hjm]; exact hjS
              · cases hs' : inS listed m with
                | false => rfl
                | true =>
                  have hb2 := hL j (by omega)
                  rw [hm, Nat.add_sub_cancel] at hb2
                  rw [hcl j m (by omega) hlt hs' hb2] at hjS
                  cases hjS
            rw [hm]
            simp only [AV.Hc]
            rw [if_neg (by rw [hlast]; simp)]
            exact Hc_phi _ fun k hk => href.phi k (by omega)
        refine hR _ hphi B0 w0 c w a _ _ hI hops ?_
        rintro v' w' c' av H' l1 r1 i1 ⟨rfl, rfl⟩
        refine hc' v' w' c' l1 r1 ?_
        rw [keep (by omega)]; exact i1
      · rw [hf] at hb
        obtain ⟨hH, hR⟩ := hb
        have hst := state (by omega)
        rw [hst] at hI
        refine hR B0 w0 c w a _ _ hI hops ?_
        rintro v' w' c' av H' l1 r1 i1 ⟨rfl, rfl⟩
        refine hc' v' w' c' l1 r1 ?_
        rw [keep (by omega), hst]; exact i1
      · rw [hf] at hb
        have hst := state (by omega)
        rw [hst] at hI
        refine hb B0 w0 c w a _ _ hI hops ?_
        rintro v' w' c' av H' l1 r1 i1 ⟨rfl, rfl⟩
        refine hc' v' w' c' l1 r1 ?_
        rw [turn (by omega)]; exact i1

theorem drun_ref {Φ : HS → Prop} : ∀ (l : List Oper) (k : Nat) (fl' : List Nat) (T : List AV) (H : HS) (R : List AV → HS → Prop), (∀ i, l[i]? = ops[k + i]?) → (∀ i, fl'.getD i 2 = fl.getD (k + i) 2) → DRunX P Φ ops l fl' T H R →
    ∃ (vs : Nat → AV) (hs : Nat → HS), hs k = H ∧ (Φ H → ∀ i, i < l.length → Φ (hs (k + i))) ∧ (∀ i o, l[i]? = some o → Step P Φ ops o (fl.getD (k + i) 2) ((List.range i).foldl (fun T j => putT T (dstAt ops (k + j)) (vs (k + j))) T) (hs (k + i)) (vs (k + i)) (hs (k + i + 1))) ∧
      R ((List.range l.length).foldl (fun T j => putT T (dstAt ops (k + j)) (vs (k + j))) T) (hs (k + l.length))
  | [], k, fl', T, H, R, _, _, h => ⟨fun _ => .un, fun _ => H, rfl, fun hp i hi => by simp at hi, fun i o hi => by simp at hi, by simpa [DRunX] using h⟩
  | o :: l, k, fl', T, H, R, hl, hf, h => by
    obtain ⟨v, H', hs1, hp1, hrest⟩ := h
    obtain ⟨vs, hs, e1, ep, e2, e3⟩ := drun_ref l (k + 1) fl'.tail (putT T o.dst v) H' R (fun i => by have := hl (i + 1); simpa [Nat.add_assoc, Nat.add_comm 1 i] using this)
      (fun i => by
        have := hf (i + 1)
        rw [show k + 1 + i = k + (i + 1) by omega, ← this]
        cases fl' <;> simp) hrest
    have hok : ops[k]? = some o := by have := hl 0; simpa using this.symm
    have hdst : dstAt ops k = o.dst := by simp [dstAt, hok]
    have fold : ∀ n, (List.range (n + 1)).foldl (fun T j => putT T (dstAt ops (k + j)) ((fun i => if i = k then v else vs i) (k + j))) T =
        (List.range n).foldl (fun T j => putT T (dstAt ops (k + 1 + j)) (vs (k + 1 + j))) (putT T o.dst v) := by
      intro n
      rw [List.range_succ_eq_map, List.foldl_cons, List.foldl_map]
      simp only [Nat.add_zero, hdst, if_true]
      have hfun : (fun (x : List AV) (y : Nat) => putT x (dstAt ops (k + y.succ)) (if k + y.succ = k then v else vs (k + y.succ))) = (fun T j => putT T (dstAt ops (k + 1 + j)) (vs (k + 1 + j))) := by
        funext x y
        have h1 : ¬ (k + y.succ = k) := by omega
        have h2 : k + y.succ = k + 1 + y := by omega
        have h3 : ¬ (k + 1 + y = k) := by omega
        simp only [h2, if_neg h3]
      rw [hfun]
    refine ⟨fun i => if i = k then v else vs i, fun i => if i = k then H else hs i, if_pos rfl, ?_, ?_, ?_⟩
    · intro hp i hi
      cases i with
      | zero => simpa using hp
      | succ i =>
        have h1 : ¬ (k + (i + 1) = k) := by omega
        simp only [if_neg h1]
        have hi' : i < l.length := by simpa using hi
        have hp2 : Φ H' := by
          rcases hp1 with h0 | h0
          · subst h0; simp at hi'
          · exact h0 hp
        have := ep hp2 i hi'
        rw [show k + (i + 1) = k + 1 + i by omega]
        exact this
    · intro i o' hi
      cases i with
      | zero =>
        simp at hi
        subst hi
        have hh := hf 0
        simp only [Nat.add_zero] at hh ⊢
        have hk1 : ¬ (k + 1 = k) := by omega
        simp only [List.range_zero, List.foldl_nil, if_true, if_neg hk1, e1]
        rw [← hh]
        have : fl'.headD 2 = fl'.getD 0 2 := by cases fl' <;> rfl
        rw [← this]; exact hs1
      | succ i =>
        have hh := e2 i o' (by simpa using hi)
        rw [fold i]
        have h1 : ¬ (k + (i + 1) = k) := by omega
        have h2 : ¬ (k + (i + 1) + 1 = k) := by omega
        have h3 : k + 1 + i = k + (i + 1) := by omega
        simp only [if_neg h1, if_neg h2]
        rw [← h3]
        exact hh
    · rw [List.length_cons, fold l.length]
      have h1 : ¬ (k + (l.length + 1) = k) := by omega
      simp only [if_neg h1]
      have h3 : k + 1 + l.length = k + (l.length + 1) := by omega
      rw [← h3]
      exact e3

theorem inS_none (n i : Nat) : inS (Array.replicate n false) i = false := by
  by_cases h : i < n <;> simp [inS, h]

theorem aw_drawX (Φ : HS → Prop) {id : Nat} {T : List AV} {H : HS} {l : List Oper} (fl : List Nat) (hm : P.follows .mixedOrders = true) (hok : drawOk l.toArray fl (Region.before l.toArray) = true)
    (hΦ : Φ H) (hlast : (∀ K, Φ K) ∨ ((List.range (l.length - 1)).all fun j => bit (Region.before l.toArray) j (l.length - 1)) = true) (hrun : DRunX P Φ l.toArray l fl T H fun T' H' => Q .normal T' H') : AW P (.region id l.toArray true) Q T H := by
  intro B0 w0 c0 c w a h0 h1 h2 h3
  obtain ⟨vs, hs, e1, ep, e2, e3⟩ := drun_ref (P := P) (ops := l.toArray) (fl := fl) l 0 fl T H _ (fun i => by simp) (fun i => by simp) hrun
  have htref : ∀ k, (List.range k).foldl (fun T j => putT T (dstAt l.toArray (0 + j)) (vs (0 + j))) T = Tref l.toArray T vs k := by
    intro k
    induction k with
    | zero => rfl
    | succ k ih => rw [List.range_succ, List.foldl_append, ih]; simp [Tref]
  simp only [htref] at e2 e3
  refine wp_region_any hm (draw_main (Q := Q) (vs := vs) (hs := hs) (T0 := T) hok ⟨fun k o hk => ?_, fun k hk => by have := ep hΦ k (by simpa using hk); simpa using this, hlast.imp (fun h => h _) (fun h j hj => by simp at hj ⊢; exact List.all_eq_true.1 h j (by simp; omega))⟩ ?_ B0 w0 c0 _ _ c _ a (by simp) ?_ ?_ h0 ?_ h2.size ?_ h3)
  · have := e2 k o (by simpa using hk)
    simpa using this
  · simpa using e3
  · have : ((List.range l.toArray.size).filter fun i => !inS (Array.replicate l.toArray.size false) i).length ≤ (List.range l.toArray.size).length := List.length_filter_le _ _
    simpa using this
  · intro i j hj hi hS hb
    simp only [inS] at hS
    simp at hS hj
    simp [hj] at hS
  · rw [Hc_at (j := 0) (Nat.zero_le _) (fun i hi _ => by rw [inS_none]; rfl)]
    show Inv B0 w0 c (hs 0) _
    rw [e1]
    exact h1.drew
  · intro t ht
    rw [W_at (j := 0) (Nat.zero_le _) (fun i hi _ => by rw [inS_none]; rfl)]
    exact h2.at_ t ht
theorem aw_draw {id : Nat} {T : List AV} {H : HS} {l : List Oper} (fl : List Nat) (hm : P.follows .mixedOrders = true) (hok : drawOk l.toArray fl (Region.before l.toArray) = true)
    (hrun : DRun P l.toArray l fl T H fun T' H' => Q .normal T' H') : AW P (.region id l.toArray true) Q T H := aw_drawX (fun _ => True) fl hm hok trivial (.inl fun _ => trivial) hrun
end
end Go.AV
