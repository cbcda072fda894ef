/- Part 2 of what the law needs: A4, A5, A6, A7, A8, A9, A10, Facts, OrdPlain, OctPlain, A11, X4, A12. -/
import Derived.Test.YtdiibbbbdhkepaaGreatDoorWs1
import Derived.Orders
import Derived.Laws.Strings
import Derived.Lib.Strings
import Derived.IntWalk
import Derived.Laws.IdiomStrings
import Derived.Laws.BytesArg
import Derived.ProofKit
import Derived.ChangeOld
import Derived.Test.YtdiibbbbdhkepaaGreatDoorProg
import Derived.KernelRfl
import Derived.ControlIn
import Derived.Lib.Builder
import Derived.Lib.UnsafeStr
import Derived.Laws.Externs
set_option linter.unusedSectionVars false
set_option linter.unusedVariables false
set_option linter.unusedSimpArgs false
namespace Go.AV
open Go.RowKit
def Step (P : Program) [Wins P] (Φ : HS → Prop) (ops : Array Oper) (o : Oper) (f : Nat) (T : List AV) (H : HS) (v : AV) (H' : HS) : Prop :=
  (∃ b, (match o.guard with
    | none => b = true
    | some (g, want) => (∃ d x, (ops[g]?).bind (·.dst) = some d ∧ T[d]? = some (.d (.v (.bool x))) ∧ b = (x == want)) ∨ (∃ d, (ops[g]?).bind (·.dst) = some d ∧ T[d]? = some .nv ∧ b = false)) ∧
   match b with
   | true => match f with
     | 0 => H' = H ∧ ∀ H, Φ H → OpR P o (evalT T) H (Ret v H)
     | 1 => H' = H ∧ OpR P o (evalT T) H (Ret v H)
     | _ => OpR P o (evalT T) H (Ret v H')
   | false => v = .nv ∧ H' = H)
def DRunX (P : Program) [Wins P] (Φ : HS → Prop) (ops : Array Oper) : List Oper → List Nat → List AV → HS → (List AV → HS → Prop) → Prop
  | [], _, T, H, Q => Q T H
  | o :: l, fl, T, H, Q => ∃ v H', Step P Φ ops o (fl.headD 2) T H v H' ∧ (l = [] ∨ (Φ H → Φ H')) ∧ DRunX P Φ ops l fl.tail (putT T o.dst v) H' Q
abbrev DRun (P : Program) [Wins P] (ops : Array Oper) := DRunX P (fun _ => True) ops
def bit (B : Array Nat) (i j : Nat) : Bool := (B.getD j 0).testBit i
def clash (ops : Array Oper) (fl : List Nat) (i j : Nat) (oi oj : Oper) : Bool :=
  (match oi.dst with
   | some d => (oj.looksAt ops).contains d || oj.dst == some d
   | none => false) ||
  (match oj.dst with
   | some d => (oi.looksAt ops).contains d
   | none => false) ||
  (fl.getD i 2 ≥ 2 && fl.getD j 2 ≥ 1) || (fl.getD j 2 ≥ 2 && fl.getD i 2 ≥ 1)
def drawOk (ops : Array Oper) (fl : List Nat) (B : Array Nat) : Bool :=
  (List.range ops.size).all fun j => match ops[j]? with
    | none => false
    | some oj =>
      (oj.after.all fun e => !Region.binds .any e || e.on < j) &&
      (List.range ops.size).all fun i => match ops[i]? with
        | none => false
        | some oi => (!bit B i j || oj.after.any fun e => Region.binds .any e && (e.on == i || bit B i e.on)) && (!(i < j) || !(clash ops fl i j oi oj || clash ops fl j i oj oi) || bit B i j)
section
variable {P : Program} {Q : Post} {ops : Array Oper} {fl : List Nat} {B : Array Nat} {T0 : List AV} {vs : Nat → AV} {hs : Nat → HS}
def dstAt (ops : Array Oper) (i : Nat) : Option Tmp := (ops[i]?).bind (·.dst)
def W (ops : Array Oper) (T0 : List AV) (vs : Nat → AV) (S : Nat → Bool) : Nat → Nat → AV
  | 0, t => T0.getD t .un
  | k + 1, t => if S k = true ∧ dstAt ops k = some t then vs k else W ops T0 vs S k t
def Hc (fl : List Nat) (hs : Nat → HS) (S : Nat → Bool) : Nat → HS
  | 0 => hs 0
  | k + 1 => if S k = true ∧ fl.getD k 2 ≥ 2 then hs (k + 1) else Hc fl hs S k
def Tref (ops : Array Oper) (T0 : List AV) (vs : Nat → AV) : Nat → List AV
  | 0 => T0
  | k + 1 => putT (Tref ops T0 vs k) (dstAt ops k) (vs k)
theorem putT_length (T : List AV) (d : Option Tmp) (v : AV) : (putT T d v).length = T.length := by cases d <;> simp [putT]
theorem Tref_length : ∀ k, (Tref ops T0 vs k).length = T0.length
  | 0 => rfl
  | k + 1 => by rw [Tref, putT_length, Tref_length k]
theorem Tref_getD {t : Nat} (ht : t < T0.length) : ∀ k, (Tref ops T0 vs k).getD t .un = W ops T0 vs (fun _ => true) k t
  | 0 => rfl
  | k + 1 => by
    have ih := Tref_getD ht k
    have hl : t < (Tref ops T0 vs k).length := by rw [Tref_length]; exact ht
    simp only [Tref, W]
    cases hd : dstAt ops k with
    | none => simpa [putT] using ih
    | some d =>
      by_cases hdt : d = t
      · subst hdt
        simp [putT, List.getD_eq_getElem?_getD, hl]
      · rw [if_neg (by simpa using hdt), ← ih]
        simp [putT, List.getD_eq_getElem?_getD, List.getElem?_set_ne hdt]
theorem W_agree {S S' : Nat → Bool} {t : Nat} : ∀ k, (∀ i, i < k → dstAt ops i = some t → S i = S' i) → W ops T0 vs S k t = W ops T0 vs S' k t
  | 0, _ => rfl
  | k + 1, h => by
    have ih := W_agree k fun i hi => h i (by omega)
    simp only [W]
    by_cases hd : dstAt ops k = some t
    · rw [h k (by omega) hd, ih]
    · rw [if_neg (fun hh => hd hh.2), if_neg (fun hh => hd hh.2), ih]
theorem W_at {S : Nat → Bool} {t j n : Nat} (hj : j ≤ n) (h : ∀ i, i < n → dstAt ops i = some t → S i = decide (i < j)) : W ops T0 vs S n t = W ops T0 vs (fun _ => true) j t := by
  induction n with
  | zero => have : j = 0 := by omega
            subst this; rfl
  | succ n ih =>
    by_cases hjn : j = n + 1
    · subst hjn
      exact W_agree (n + 1) fun i hi hd => by rw [h i hi hd]; simpa using hi
    · have hd : ¬ (S n = true ∧ dstAt ops n = some t) := by
        rintro ⟨h1, h2⟩
        have := h n (by omega) h2
        rw [h1] at this
        have : n < j := by simpa using this.symm
        omega
      rw [W, if_neg hd]
      exact ih (by omega) fun i hi => h i (by omega)
theorem Hc_agree {S S' : Nat → Bool} : ∀ k, (∀ i, i < k → fl.getD i 2 ≥ 2 → S i = S' i) → Hc fl hs S k = Hc fl hs S' k
  | 0, _ => rfl
  | k + 1, h => by
    have ih := Hc_agree k fun i hi => h i (by omega)
    simp only [Hc]
    by_cases hd : fl.getD k 2 ≥ 2
    · rw [h k (by omega) hd, ih]
    · rw [if_neg (fun hh => hd hh.2), if_neg (fun hh => hd hh.2), ih]
theorem Hc_at {S : Nat → Bool} {j n : Nat} (hj : j ≤ n) (h : ∀ i, i < n → fl.getD i 2 ≥ 2 → S i = decide (i < j)) : Hc fl hs S n = Hc fl hs (fun _ => true) j := by
  induction n with
  | zero => have : j = 0 := by omega
            subst this; rfl
  | succ n ih =>
    by_cases hjn : j = n + 1
    · subst hjn
      exact Hc_agree (n + 1) fun i hi hd => by rw [h i hi hd]; simpa using hi
    · have hd : ¬ (S n = true ∧ fl.getD n 2 ≥ 2) := by
        rintro ⟨h1, h2⟩
        have := h n (by omega) h2
        rw [h1] at this
        have : n < j := by simpa using this.symm
        omega
      rw [Hc, if_neg hd]
      exact ih (by omega) fun i hi => h i (by omega)
theorem filter_lt (l : List Nat) (S S' : Nat → Bool) (j : Nat) (hj : j ∈ l) (h1 : S j = false) (h2 : S' j = true) (h : ∀ i, S i = true → S' i = true) :
    (l.filter fun i => !S' i).length < (l.filter fun i => !S i).length := by
  have le : ∀ l : List Nat, (l.filter fun i => !S' i).length ≤ (l.filter fun i => !S i).length := by
    intro l
    induction l with
    | nil => simp
    | cons x l ih =>
      cases hx : S x <;> cases hx' : S' x <;> simp [hx, hx'] <;> first | omega | (have := h x hx; rw [hx'] at this; cases this)
  induction l with
  | nil => cases hj
  | cons x l ih =>
    by_cases hxj : x = j
    · subst hxj
      have := le l
      simp [h1, h2]
      omega
    · have hj' : j ∈ l := by
        cases hj with
        | head => exact absurd rfl hxj
        | tail _ h => exact h
      have := ih hj'
      cases hx : S x <;> cases hx' : S' x <;> simp [hx, hx'] <;> first | omega | (have := h x hx; rw [hx'] at this; cases this)
structure RefRun (P : Program) [Wins P] (Φ : HS → Prop) (B : Array Nat) (ops : Array Oper) (fl : List Nat) (T0 : List AV) (vs : Nat → AV) (hs : Nat → HS) : Prop where
  step : ∀ k o, ops[k]? = some o → Step P Φ ops o (fl.getD k 2) (Tref ops T0 vs k) (hs k) (vs k) (hs (k + 1))
  phi : ∀ k, k < ops.size → Φ (hs k)
  last : Φ (hs ops.size) ∨ ∀ j, j + 1 < ops.size → bit B j (ops.size - 1) = true
theorem Hc_phi {Φ : HS → Prop} {S : Nat → Bool} : ∀ n, (∀ k, k ≤ n → Φ (hs k)) → Φ (Hc fl hs S n)
  | 0, h => h 0 (Nat.le_refl _)
  | n + 1, h => by
    simp only [Hc]
    split
    · exact h (n + 1) (Nat.le_refl _)
    · exact Hc_phi n fun k hk => h k (by omega)
theorem RefRun.Hc [Wins P] {Φ : HS → Prop} (h : RefRun P Φ B ops fl T0 vs hs) : ∀ k, k ≤ ops.size → Hc fl hs (fun _ => true) k = hs k
  | 0, _ => rfl
  | k + 1, hk => by
    have ih := h.Hc k (by omega)
    simp only [AV.Hc]
    by_cases hd : fl.getD k 2 ≥ 2
    · rw [if_pos ⟨trivial, hd⟩]
    · rw [if_neg (fun hh => hd hh.2), ih]
      obtain ⟨b, _, hb⟩ := h.step k ops[k] (by simp [show k < ops.size by omega])
      cases b with
      | false => exact hb.2.symm
      | true =>
        rcases hf : fl.getD k 2 with _ | _ | f
        · rw [hf] at hb; exact hb.1.symm
        · rw [hf] at hb; exact hb.1.symm
        · omega
theorem drawOk_edge (h : drawOk ops fl B = true) {j : Nat} {oj : Oper} (hj : ops[j]? = some oj) {e : Edge} (he : e ∈ oj.after) (hb : Region.binds .any e = true) : e.on < j := by
  have hlt : j < ops.size := (Array.getElem?_eq_some_iff.1 hj).1
  have := List.all_eq_true.1 h j (List.mem_range.2 hlt)
  simp only [hj, Bool.and_eq_true] at this
  have := Array.all_eq_true_iff_forall_mem.1 this.1 e he
  simpa [hb] using this
theorem drawOk_pre (h : drawOk ops fl B = true) {i j : Nat} {oi oj : Oper} (hi : ops[i]? = some oi) (hj : ops[j]? = some oj) (hb : bit B i j = true) :
    ∃ e ∈ oj.after, Region.binds .any e = true ∧ (e.on = i ∨ bit B i e.on = true) := by
  have hlt : j < ops.size := (Array.getElem?_eq_some_iff.1 hj).1
  have hlt' : i < ops.size := (Array.getElem?_eq_some_iff.1 hi).1
  have h1 := List.all_eq_true.1 h j (List.mem_range.2 hlt)
  simp only [hj, Bool.and_eq_true] at h1
  have h2 := List.all_eq_true.1 h1.2 i (List.mem_range.2 hlt')
  simp only [hi, Bool.and_eq_true, hb, Bool.not_true, Bool.false_or] at h2
  obtain ⟨e, he, h3⟩ := Array.any_eq_true'.1 h2.1
  simp only [Bool.and_eq_true, Bool.or_eq_true, beq_iff_eq] at h3
  exact ⟨e, he, h3.1, h3.2⟩
theorem drawOk_clash (h : drawOk ops fl B = true) {i j : Nat} {oi oj : Oper} (hi : ops[i]? = some oi) (hj : ops[j]? = some oj) (hij : i < j) (hc : (clash ops fl i j oi oj || clash ops fl j i oj oi) = true) : bit B i j = true := by
  have hlt : j < ops.size := (Array.getElem?_eq_some_iff.1 hj).1
  have hlt' : i < ops.size := (Array.getElem?_eq_some_iff.1 hi).1
  have h1 := List.all_eq_true.1 h j (List.mem_range.2 hlt)
  simp only [hj, Bool.and_eq_true] at h1
  have h2 := List.all_eq_true.1 h1.2 i (List.mem_range.2 hlt')
  simp only [hi, Bool.and_eq_true, hij, decide_true, hc, Bool.not_true, Bool.false_or] at h2
  exact h2.2
def inS (listed : Array Bool) (i : Nat) : Bool := listed.getD i false
def Closed (ops : Array Oper) (B : Array Nat) (S : Nat → Bool) : Prop := ∀ i j, j < ops.size → i < ops.size → S j = true → bit B i j = true → S i = true
theorem step_sets (hok : drawOk ops fl B = true) {S : Nat → Bool} (hS : Closed ops B S) {i j : Nat} {oi oj : Oper} (hi : ops[i]? = some oi) (hj : ops[j]? = some oj) (hne : i ≠ j) (hjS : S j = false)
    (hpre : ∀ k, k < ops.size → bit B k j = true → S k = true) (hc : (clash ops fl i j oi oj || clash ops fl j i oj oi) = true) : S i = decide (i < j) := by
  have hlt : j < ops.size := (Array.getElem?_eq_some_iff.1 hj).1
  have hlt' : i < ops.size := (Array.getElem?_eq_some_iff.1 hi).1
  by_cases hij : i < j
  · have hb : bit B i j = true := drawOk_clash hok hi hj hij hc
    rw [hpre i hlt' hb]
    simpa using hij
  · have hb : bit B j i = true := drawOk_clash hok hj hi (by omega) (by rw [Bool.or_comm]; exact hc)
    have : S i = false := by
      cases hs : S i with
      | false => rfl
      | true => rw [hS j i hlt' hlt hs hb] at hjS; cases hjS
    rw [this]
    simpa using hij
theorem clash_dst {i j : Nat} {oi oj : Oper} {t : Tmp} (hd : oi.dst = some t) (h : t ∈ oj.looksAt ops ∨ oj.dst = some t) : (clash ops fl i j oi oj || clash ops fl j i oj oi) = true := by
  have h1 : clash ops fl i j oi oj = true := by
    unfold clash
    simp only [hd]
    rcases h with h | h
    · have : (oj.looksAt ops).contains t = true := by simpa using h
      simp only [this, Bool.true_or]
    · simp [h]
  simp [h1]
theorem clash_state {i j : Nat} {oi oj : Oper} (h1 : fl.getD i 2 ≥ 2) (h2 : fl.getD j 2 ≥ 1) : (clash ops fl i j oi oj || clash ops fl j i oj oi) = true := by
  have h : clash ops fl i j oi oj = true := by
    unfold clash
    have a1 : decide (fl.getD i 2 ≥ 2) = true := decide_eq_true h1
    have a2 : decide (fl.getD j 2 ≥ 1) = true := decide_eq_true h2
    simp only [a1, a2, Bool.and_self, Bool.or_true, Bool.true_or]
  simp [h]
theorem sg_draw {main : Bool} {b : Frame} {a : Act} {k : List Item} {cs : List Frame} {w : World} {id : Nat} (hm : P.follows .mixedOrders = true) :
    ∃ td, stepG P main (Go.Conc.G (b.atR a (.code (.region id ops true) :: k)) cs) w = .go (Go.Conc.G (b.atR a (.inRegion ops (Region.linearise.go .any ops ops.size td (Array.replicate ops.size false) []) :: k)) cs) w.drew := by
  refine ⟨Question.cut (.order b.fn id) (w.tape w.drawn (.order b.fn id)), ?_⟩
  simp [Go.Conc.G, stepG, stepG.exec, Frame.atR, choose, Sem.run, Question.forced, Region.schedule, hm, Region.linearise]
theorem draw_main [Wins P] {Φ : HS → Prop} (hok : drawOk ops fl B = true) (href : RefRun P Φ B ops fl T0 vs hs) (B0 : Nat) (w0 : World) (c0 : Ctx) (d0 : List Deferred) (b : Frame) (k' : List Item) (cs : List Frame) (hbk : b.kind ≠ .early)
    (hend : ∀ a' w' c' t', Lw c0 c' → Inv B0 w0 c' (hs ops.size) w' → Held c' t' → RepT c' a'.tmps (Tref ops T0 vs ops.size) → a'.defers = d0 → Run P c'.x w' t' (b.atR a' k') cs) :
    ∀ (fuel td : Nat) (listed : Array Bool) (c : Ctx) (w : World) (a : Act) (tr : Trace), listed.size = ops.size → ((List.range ops.size).filter fun i => !inS listed i).length ≤ fuel → Closed ops B (inS listed) → Lw c0 c →
      Inv B0 w0 c (Hc fl hs (inS listed) ops.size) w → Held c tr → a.tmps.size = T0.length → (∀ t, t < T0.length → Rep c (a.tmps.getD t undef) (W ops T0 vs (inS listed) ops.size t)) → a.defers = d0 →
      Run P c.x w tr (b.atR a (.inRegion ops (Region.linearise.go .any ops fuel td listed []) :: k')) cs := by
  have getD_eq : ∀ {listed : Array Bool} {i : Nat}, listed.size = ops.size → i < ops.size → listed.getD i true = inS listed i := by
    intro listed i h1 h2
    have : i < listed.size := by omega
    simp [inS, this]
  have done : ∀ (listed : Array Bool) (c : Ctx) (w : World) (a : Act) (tr : Trace), listed.size = ops.size → Region.ready .any ops listed = [] → Lw c0 c →
      Inv B0 w0 c (Hc fl hs (inS listed) ops.size) w → Held c tr → a.tmps.size = T0.length → (∀ t, t < T0.length → Rep c (a.tmps.getD t undef) (W ops T0 vs (inS listed) ops.size t)) → a.defers = d0 → Run P c.x w tr (b.atR a (.inRegion ops [] :: k')) cs := by
    intro listed c w a tr hsz hr hle hI hB hts hT hdef
    have hall : ∀ j, j < ops.size → inS listed j = true := by
      intro j
      induction j using Nat.strongRecOn with
      | _ j ih =>
        intro hj
        cases hs : inS listed j with
        | true => rfl
        | false =>
          have hmem : j ∈ Region.ready .any ops listed := by
            rw [mem_ready]
            refine ⟨by rw [getD_eq hsz hj]; exact hs, ops[j], by simp [hj], fun e he hb => ?_⟩
            have := drawOk_edge hok (show ops[j]? = some ops[j] by simp [hj]) he hb
            exact ih e.on this (by omega)
          rw [hr] at hmem
          cases hmem
    refine run_quiet hI.xok sg_regionEnd (hend a w c tr hle ?_ hB ⟨by rw [hts, Tref_length], fun t ht => ?_⟩ hdef)
    · rw [Hc_at (Nat.le_refl _) (fun i hi _ => by rw [hall i hi]; simpa using hi), href.Hc _ (Nat.le_refl _)] at hI
      exact hI
    · rw [Tref_length] at ht
      rw [Tref_getD ht, ← W_at (S := inS listed) (n := ops.size) (Nat.le_refl _) (fun i hi _ => by rw [hall i hi]; simpa using hi)]
      exact hT t ht
  intro fuel
  induction fuel with
  | zero =>
    intro td listed c w a tr hsz hcount hcl hle hI hB hts hT hdef
    have hr : Region.ready .any ops listed = [] := by
      cases hr : Region.ready .any ops listed with
      | nil => rfl
      | cons j l =>
        have hj : j ∈ Region.ready .any ops listed := by rw [hr]; exact List.mem_cons_self ..
        obtain ⟨h1, o, ho, _⟩ := mem_ready.1 hj
        have hlt : j < ops.size := (Array.getElem?_eq_some_iff.1 ho).1
        rw [getD_eq hsz hlt] at h1
        have : j ∈ (List.range ops.size).filter fun i => !inS listed i := by simp [hlt, h1]
        have := List.length_pos_of_mem this
        omega
    simp only [Region.linearise.go, List.reverse_nil]
    exact done listed c w a tr hsz hr hle hI hB hts hT hdef
  | succ fuel ih =>
    intro td listed c w a tr hsz hcount hcl hle hI hB hts hT hdef
    simp only [Region.linearise.go]
    change Run P c.x w tr (b.atR a (.inRegion ops (match (Region.ready .any ops listed)[td % (Region.ready .any ops listed).length]? with
      | some i => Region.linearise.go .any ops fuel (td / (Region.ready .any ops listed).length) (listed.setIfInBounds i true) [i]
      | none => [].reverse) :: k')) cs
    cases hnext : (Region.ready .any ops listed)[td % (Region.ready .any ops listed).length]? with
    | none =>
      have hnil : Region.ready .any ops listed = [] := by
        cases hr : Region.ready .any ops listed with
        | nil => rfl
        | cons x xs =>
          rw [hr] at hnext
          have hlt : td % (x :: xs).length < (x :: xs).length := Nat.mod_lt _ (by simp)
          simp at hnext
          simp at hlt
          omega
      exact done listed c w a tr hsz hnil hle hI hB hts hT hdef
    | some j =>
    have hj : j ∈ Region.ready .any ops listed := List.mem_of_getElem? hnext
    dsimp only
    rw [linearise_go_acc, List.reverse_singleton, List.singleton_append]
    generalize td / (Region.ready .any ops listed).length = td'
    obtain ⟨h1, oj, hoj, hedge⟩ := mem_ready.1 hj
    have hlt : j < ops.size := (Array.getElem?_eq_some_iff.1 hoj).1
    have hjS : inS listed j = false := by rw [← getD_eq hsz hlt]; exact h1
    have hpre : ∀ k, k < ops.size → bit B k j = true → inS listed k = true := by
      intro k hk hb
      obtain ⟨e, he, hbind, hh⟩ := drawOk_pre hok (show ops[k]? = some ops[k] by simp [hk]) hoj hb
      have h2 : inS listed e.on = true := hedge e he hbind
      rcases hh with rfl | hh
      · exact h2
      · have := drawOk_edge hok hoj he hbind
        exact hcl k e.on (by omega) hk h2 hh
    have hS' : ∀ i, inS (listed.setIfInBounds j true) i = if i = j then true else inS listed i := by
      intro i
      unfold inS
      by_cases hij : i = j
      · subst hij
        have : i < listed.size := by omega
        simp [this]
      · rw [if_neg hij]
        have := getD_set_ne (listed := listed) (i := j) (j := i) false (fun e => hij e.symm)
        exact this
    have hcl' : Closed ops B (inS (listed.setIfInBounds j true)) := by
      intro i k hk hi hS hb
      rw [hS'] at hS ⊢
      by_cases hij : i = j
      · rw [if_pos hij]
      · rw [if_neg hij]
        by_cases hkj : k = j
        · subst hkj; exact hpre i hi hb
        · rw [if_neg hkj] at hS; exact hcl i k hk hi hS hb
    have hcount' : ((List.range ops.size).filter fun i => !inS (listed.setIfInBounds j true) i).length ≤ fuel := by
      have := filter_lt (List.range ops.size) (inS listed) (inS (listed.setIfInBounds j true)) j (by simpa using hlt) hjS (by rw [hS', if_pos rfl]) (fun i hi => by rw [hS']; split; rfl; exact hi)
      omega
    have writers : ∀ t, (t ∈ oj.looksAt ops ∨ oj.dst = some t) → ∀ i, i < ops.size → i ≠ j → dstAt ops i = some t → inS listed i = decide (i < j) := by
      intro t ht i hi hne hd
      have hio : ops[i]? = some ops[i] := by simp [hi]
      have hd' : (ops[i]).dst = some t := by simpa [dstAt, hio] using hd
      exact step_sets hok hcl hio hoj hne hjS hpre (clash_dst hd' ht)
    have slot : ∀ t, t ∈ oj.looksAt ops → W ops T0 vs (inS listed) ops.size t = W ops T0 vs (fun _ => true) j t := by
      intro t ht
      refine W_at (Nat.le_of_lt hlt) fun i hi hd => ?_
      by_cases hij : i = j
      · subst hij; rw [hjS]; simp
      · exact writers t (.inl ht) i hi hij hd
    have state : fl.getD j 2 ≥ 1 → Hc fl hs (inS listed) ops.size = hs j := by
      intro hf
      rw [Hc_at (Nat.le_of_lt hlt) fun i hi hd => ?_]
      · exact href.Hc j (Nat.le_of_lt hlt)
      · by_cases hij : i = j
        · subst hij; rw [hjS]; simp
        · exact step_sets hok hcl (show ops[i]? = some ops[i] by simp [hi]) hoj hij hjS hpre (clash_state hd hf)
    have slots' : ∀ (c' : Ctx) (v' : Value), Lw c c' → Rep c' v' (vs j) → ∀ t, t < T0.length → Rep c' ((a.put oj.dst v').tmps.getD t undef) (W ops T0 vs (inS (listed.setIfInBounds j true)) ops.size t) := by
      intro c' v' hl hv t ht
      by_cases hd : oj.dst = some t
      · have e1 : W ops T0 vs (inS (listed.setIfInBounds j true)) ops.size t = vs j := by
          rw [W_at (j := j + 1) (by omega) fun i hi hdi => ?_]
          · simp only [W]
            rw [if_pos ⟨trivial, by simp [dstAt, hoj, hd]⟩]
          · rw [hS']
            by_cases hij : i = j
            · subst hij; simp
            · rw [if_neg hij, writers t (.inr hd) i hi hij hdi]
              have : (i < j) ↔ (i < j + 1) := by omega
              simp [this]
        rw [e1]
        have : t < a.tmps.size := Nat.lt_of_lt_of_eq ht hts.symm
        simp [Act.put, hd, this]
        exact hv
      · have e1 : W ops T0 vs (inS (listed.setIfInBounds j true)) ops.size t = W ops T0 vs (inS listed) ops.size t := by
          refine W_agree _ fun i hi hdi => ?_
          rw [hS', if_neg]
          intro hij
          subst hij
          rw [dstAt, hoj] at hdi
          exact hd hdi
        rw [e1]
        have e2 : (a.put oj.dst v').tmps.getD t undef = a.tmps.getD t undef := by
          cases hdd : oj.dst with
          | none => rfl
          | some d =>
            have hne : d ≠ t := fun e => hd (by rw [hdd, e])
            simp [Act.put, Array.getElem?_setIfInBounds_ne hne]
        rw [e2]
        exact (hT t ht).mono hl
    have size' : ∀ v', (a.put oj.dst v').tmps.size = T0.length := by
      intro v'
      cases oj.dst <;> simp [Act.put, hts]
    have hc' : ∀ (v' : Value) (w' : World) (c' : Ctx) (t' : Trace), Lw c c' → Rep c' v' (vs j) → Inv B0 w0 c' (Hc fl hs (inS (listed.setIfInBounds j true)) ops.size) w' → Held c' t' →
        Run P c'.x w' t' (b.atR (a.put oj.dst v') (.inRegion ops (Region.linearise.go .any ops fuel td' (listed.setIfInBounds j true) []) :: k')) cs := by
      intro v' w' c' t' hl hv hI' hB'
      exact ih td' _ c' w' _ t' (by simpa using hsz) hcount' hcl' (hle.trans hl) hI' hB' (size' v') (slots' c' v' hl hv) (by rw [put_defers]; exact hdef)
    have keep : fl.getD j 2 < 2 → Hc fl hs (inS (listed.setIfInBounds j true)) ops.size = Hc fl hs (inS listed) ops.size := by
      intro hf
      refine Hc_agree _ fun i hi hd => ?_
      rw [hS', if_neg]
      intro hij
      subst hij
      omega
    have turn : fl.getD j 2 ≥ 2 → Hc fl hs (inS (listed.setIfInBounds j true)) ops.size = hs (j + 1) := by
      intro hf
      rw [Hc_at (j := j + 1) (by omega) fun i hi hd => ?_]
      · exact href.Hc (j + 1) hlt
      · rw [hS']
        by_cases hij : i = j
        · subst hij; simp
        · rw [if_neg hij, step_sets hok hcl (show ops[i]? = some ops[i] by simp [hi]) hoj hij hjS hpre (clash_state hd (by omega))]
          have : (i < j) ↔ (i < j + 1) := by omega
          simp [this]
    obtain ⟨bw, hg, hb⟩ := href.step j oj hoj
    have hslotRep : ∀ t, t ∈ oj.looksAt ops → Rep c (a.tmps.getD t undef) ((Tref ops T0 vs j).getD t .un) := by
      intro t ht
      by_cases hlt' : t < T0.length
      · rw [Tref_getD hlt', ← slot t ht]
        exact hT t hlt'
      · have : (Tref ops T0 vs j).getD t .un = .un := by
          rw [List.getD_eq_getElem?_getD, List.getElem?_eq_none (by rw [Tref_length]; exact Nat.le_of_not_lt hlt')]; rfl
        rw [this]; exact .un _
    have hops : ∀ x ∈ oj.op.operands, Rep c (a.eval x) (evalT (Tref ops T0 vs j) x) := by
      intro x hx
      cases x with
      | tmp t => exact hslotRep t (List.mem_append_left _ (List.mem_filterMap.2 ⟨.tmp t, by simpa using hx, rfl⟩))
      | const v => exact rep_const c v
      | func f => exact rep_func c f
      | global g => exact .un _
    have hwant : Region.wanted oj (yielded ops a.tmps) = bw := by
      cases hgd : oj.guard with
      | none => rw [hgd] at hg; simp only [] at hg; simp [Region.wanted, hgd, hg]
      | some gw =>
        obtain ⟨g, want⟩ := gw
        rw [hgd] at hg
        rcases hg with ⟨d, x, hd, hx, rfl⟩ | ⟨d, hd, hx, rfl⟩
        · have hlt' : d < T0.length := by
            have := (List.getElem?_eq_some_iff.1 hx).1
            rwa [Tref_length] at this
          have hdt : d < a.tmps.size := Nat.lt_of_lt_of_eq hlt' hts.symm
          have hrep := hslotRep d (by
            refine List.mem_append_right _ ?_
            simp [hgd, hd])
          rw [List.getD_eq_getElem?_getD, hx] at hrep
          have e := hrep.v_eq
          have hs := hdt
          have hy : yielded ops a.tmps g = some x := by
            unfold yielded
            rw [hd]
            simp [hs] at e ⊢
            rw [e]
          simp only [Region.wanted, hgd, hy]
          cases x <;> cases want <;> rfl
        · have hlt' : d < T0.length := by
            have := (List.getElem?_eq_some_iff.1 hx).1
            rwa [Tref_length] at this
          have hdt : d < a.tmps.size := Nat.lt_of_lt_of_eq hlt' hts.symm
          have hrep := hslotRep d (by
            refine List.mem_append_right _ ?_
            simp [hgd, hd])
          rw [List.getD_eq_getElem?_getD, hx] at hrep
          have e := hrep.nv_eq
          have hs := hdt
          have hy : yielded ops a.tmps g = none := by
            unfold yielded
            rw [hd]
            simp [hs] at e ⊢
            simp [e, undef]
          simp only [Region.wanted, hgd, hy]
          cases want <;> rfl
    cases bw with
    | false =>
      obtain ⟨hv, hH⟩ := hb
      refine run_quiet hI.xok (sg_unwanted hoj hwant) (hc' undef w c tr (Lw.refl c) (by rw [hv]; exact .nv) ?_ hB)
      by_cases hf : fl.getD j 2 ≥ 2
      · rw [turn hf, hH]
        rw [state (by omega)] at hI
        exact hI
      · rw [keep (by omega)]; exact hI
    | true =>
      rcases hf : fl.getD j 2 with _ | _ | f
      · rw [hf] at hb
        obtain ⟨hH, hR⟩ := hb
        have hphi : Φ (Hc fl hs (inS listed) ops.size) := by
          rcases href.last with hL | hL
          · exact Hc_phi _ fun k hk => by
              rcases Nat.lt_or_ge k ops.size with h | h
              · exact href.phi k h
              · rw [show k = ops.size by omega]; exact hL
          · obtain ⟨m, hm⟩ : ∃ m, ops.size = m + 1 := ⟨ops.size - 1, by omega⟩
            have hlast : inS listed m = false := by
              by_cases hjm : j = m
              · rw [← hjm]; exact hjS
              · cases hs' : inS listed m with
                | false => rfl
                | true =>
                  have hb2 := hL j (by omega)
                  rw [hm, Nat.add_sub_cancel] at hb2
                  rw [hcl j m (by omega) hlt hs' hb2] at hjS
                  cases hjS
            rw [hm]
            simp only [AV.Hc]
            rw [if_neg (by rw [hlast]; simp)]
            exact Hc_phi _ fun k hk => href.phi k (by omega)
        refine hR _ hphi B0 w0 c w a tr hI hB hops b ops j _ k' cs hbk hoj hwant ?_
        rintro v' w' c' av H' t' l1 r1 i1 s1 ⟨rfl, rfl⟩
        refine hc' v' w' c' t' l1 r1 ?_ s1
        rw [keep (by omega)]; exact i1
      · rw [hf] at hb
        obtain ⟨hH, hR⟩ := hb
        have hst := state (by omega)
        rw [hst] at hI
        refine hR B0 w0 c w a tr hI hB hops b ops j _ k' cs hbk hoj hwant ?_
        rintro v' w' c' av H' t' l1 r1 i1 s1 ⟨rfl, rfl⟩
        refine hc' v' w' c' t' l1 r1 ?_ s1
        rw [keep (by omega), hst]; exact i1
      · rw [hf] at hb
        have hst := state (by omega)
        rw [hst] at hI
        refine hb B0 w0 c w a tr hI hB hops b ops j _ k' cs hbk hoj hwant ?_
        rintro v' w' c' av H' t' l1 r1 i1 s1 ⟨rfl, rfl⟩
        refine hc' v' w' c' t' l1 r1 ?_ s1
        rw [turn (by omega)]; exact i1
theorem drun_ref [Wins P] {Φ : HS → Prop} : ∀ (l : List Oper) (k : Nat) (fl' : List Nat) (T : List AV) (H : HS) (R : List AV → HS → Prop), (∀ i, l[i]? = ops[k + i]?) → (∀ i, fl'.getD i 2 = fl.getD (k + i) 2) → DRunX P Φ ops l fl' T H R →
    ∃ (vs : Nat → AV) (hs : Nat → HS), hs k = H ∧ (Φ H → ∀ i, i < l.length → Φ (hs (k + i))) ∧ (∀ i o, l[i]? = some o → Step P Φ ops o (fl.getD (k + i) 2) ((List.range i).foldl (fun T j => putT T (dstAt ops (k + j)) (vs (k + j))) T) (hs (k + i)) (vs (k + i)) (hs (k + i + 1))) ∧
      R ((List.range l.length).foldl (fun T j => putT T (dstAt ops (k + j)) (vs (k + j))) T) (hs (k + l.length))
  | [], k, fl', T, H, R, _, _, h => ⟨fun _ => .un, fun _ => H, rfl, fun hp i hi => by simp at hi, fun i o hi => by simp at hi, by simpa [DRunX] using h⟩
  | o :: l, k, fl', T, H, R, hl, hf, h => by
    obtain ⟨v, H', hs1, hp1, hrest⟩ := h
    obtain ⟨vs, hs, e1, ep, e2, e3⟩ := drun_ref l (k + 1) fl'.tail (putT T o.dst v) H' R (fun i => by have := hl (i + 1); simpa [Nat.add_assoc, Nat.add_comm 1 i] using this)
      (fun i => by
        have := hf (i + 1)
        rw [show k + 1 + i = k + (i + 1) by omega, ← this]
        cases fl' <;> simp) hrest
    have hok : ops[k]? = some o := by have := hl 0; simpa using this.symm
    have hdst : dstAt ops k = o.dst := by simp [dstAt, hok]
    have fold : ∀ n, (List.range (n + 1)).foldl (fun T j => putT T (dstAt ops (k + j)) ((fun i => if i = k then v else vs i) (k + j))) T =
        (List.range n).foldl (fun T j => putT T (dstAt ops (k + 1 + j)) (vs (k + 1 + j))) (putT T o.dst v) := by
      intro n
      rw [List.range_succ_eq_map, List.foldl_cons, List.foldl_map]
      simp only [Nat.add_zero, hdst, if_true]
      have hfun : (fun (x : List AV) (y : Nat) => putT x (dstAt ops (k + y.succ)) (if k + y.succ = k then v else vs (k + y.succ))) = (fun T j => putT T (dstAt ops (k + 1 + j)) (vs (k + 1 + j))) := by
        funext x y
        have h1 : ¬ (k + y.succ = k) := by omega
        have h2 : k + y.succ = k + 1 + y := by omega
        have h3 : ¬ (k + 1 + y = k) := by omega
        simp only [h2, if_neg h3]
      rw [hfun]
    refine ⟨fun i => if i = k then v else vs i, fun i => if i = k then H else hs i, if_pos rfl, ?_, ?_, ?_⟩
    · intro hp i hi
      cases i with
      | zero => simpa using hp
      | succ i =>
        have h1 : ¬ (k + (i + 1) = k) := by omega
        simp only [if_neg h1]
        have hi' : i < l.length := by simpa using hi
        have hp2 : Φ H' := by
          rcases hp1 with h0 | h0
          · subst h0; simp at hi'
          · exact h0 hp
        have := ep hp2 i hi'
        rw [show k + (i + 1) = k + 1 + i by omega]
        exact this
    · intro i o' hi
      cases i with
      | zero =>
        simp at hi
        subst hi
        have hh := hf 0
        simp only [Nat.add_zero] at hh ⊢
        have hk1 : ¬ (k + 1 = k) := by omega
        simp only [List.range_zero, List.foldl_nil, if_true, if_neg hk1, e1]
        rw [← hh]
        have : fl'.headD 2 = fl'.getD 0 2 := by cases fl' <;> rfl
        rw [← this]; exact hs1
      | succ i =>
        have hh := e2 i o' (by simpa using hi)
        rw [fold i]
        have h1 : ¬ (k + (i + 1) = k) := by omega
        have h2 : ¬ (k + (i + 1) + 1 = k) := by omega
        have h3 : k + 1 + i = k + (i + 1) := by omega
        simp only [if_neg h1, if_neg h2]
        rw [← h3]
        exact hh
    · rw [List.length_cons, fold l.length]
      have h1 : ¬ (k + (l.length + 1) = k) := by omega
      simp only [if_neg h1]
      have h3 : k + 1 + l.length = k + (l.length + 1) := by omega
      rw [← h3]
      exact e3
theorem inS_none (n i : Nat) : inS (Array.replicate n false) i = false := by
  by_cases h : i < n <;> simp [inS, h]
theorem aw_drawX [Wins P] (Φ : HS → Prop) {id : Nat} {T : List AV} {H : HS} {l : List Oper} (fl : List Nat) (hm : P.follows .mixedOrders = true) (hok : drawOk l.toArray fl (Region.before l.toArray) = true)
    (hΦ : Φ H) (hlast : (∀ K, Φ K) ∨ ((List.range (l.length - 1)).all fun j => bit (Region.before l.toArray) j (l.length - 1)) = true) (hrun : DRunX P Φ l.toArray l fl T H fun T' H' => Q .normal T' H') : AW P (.region id l.toArray true) Q T H := by
  intro B0 w0 c w a tr h1 h2 h3 b k' cs hbk hn
  obtain ⟨vs, hs, e1, ep, e2, e3⟩ := drun_ref (P := P) (ops := l.toArray) (fl := fl) l 0 fl T H _ (fun i => by simp) (fun i => by simp) hrun
  have htref : ∀ k, (List.range k).foldl (fun T j => putT T (dstAt l.toArray (0 + j)) (vs (0 + j))) T = Tref l.toArray T vs k := by
    intro k
    induction k with
    | zero => rfl
    | succ k ih => rw [List.range_succ, List.foldl_append, ih]; simp [Tref]
  simp only [htref] at e2 e3
  obtain ⟨td, hst⟩ := sg_draw (ops := l.toArray) (main := c.x.me == 0) (b := b) (a := a) (k := k') (cs := cs) (w := w) (id := id) hm
  refine run_quiet h1.xok hst ?_
  refine draw_main (vs := vs) (hs := hs) (T0 := T) hok ⟨fun k o hk => ?_, fun k hk => by have := ep hΦ k (by simpa using hk); simpa using this, hlast.imp (fun h => h _) (fun h j hj => by simp at hj ⊢; exact List.all_eq_true.1 h j (by simp; omega))⟩ B0 w0 c a.defers b k' cs hbk ?_ _ td _ c _ a tr (by simp) ?_ ?_ (Lw.refl c) ?_ h2 h3.size ?_ rfl
  · have := e2 k o (by simpa using hk)
    simpa using this
  · intro a' w' c' t' x1 x2 x3 x4 x5
    refine hn .normal a' w' c' t' _ _ x1 x2 x3 x4 x5 ?_
    simpa using e3
  · have : ((List.range l.toArray.size).filter fun i => !inS (Array.replicate l.toArray.size false) i).length ≤ (List.range l.toArray.size).length := List.length_filter_le _ _
    simpa using this
  · intro i j hj hi hS hb
    simp only [inS] at hS
    simp at hS hj
    simp [hj] at hS
  · rw [Hc_at (j := 0) (Nat.zero_le _) (fun i hi _ => by rw [inS_none]; rfl)]
    show Inv B0 w0 c (hs 0) _
    rw [e1]
    exact h1.drew
  · intro t ht
    rw [W_at (j := 0) (Nat.zero_le _) (fun i hi _ => by rw [inS_none]; rfl)]
    exact h3.at_ t ht
theorem aw_draw [Wins P] {id : Nat} {T : List AV} {H : HS} {l : List Oper} (fl : List Nat) (hm : P.follows .mixedOrders = true) (hok : drawOk l.toArray fl (Region.before l.toArray) = true)
    (hrun : DRun P l.toArray l fl T H fun T' H' => Q .normal T' H') : AW P (.region id l.toArray true) Q T H := aw_drawX (fun _ => True) fl hm hok trivial (.inl fun _ => trivial) hrun
end
end Go.AV
namespace Go.AV
open Go.RowKit
def S (l : List UInt8) : DV := .v (.string ⟨l.toArray⟩)
def BY (b : UInt8) : DV := .v (.int .u8 (b.toNat : Int))
def I (n : Int) : DV := .v (.int .i64 n)
def TF (b : Bool) : DV := .v (.bool b)
abbrev nilS : AV := .d (.v (.slice none 0 0))
section
variable {P : Program} [Wins P] {E : Operand → AV} {H : HS} {R : AV → HS → Prop} {dst : Option Tmp} {ty : TypeId} {pos : String} {after : Array Edge} {gd : Option (Nat × Bool)}
theorem opR_pure {o : Oper} {v : AV} (h : ∀ (c : Ctx) (w : World) (a : Act), (∀ g o u, c.mem g o = some u → w.cell? ⟨g, o, none⟩ = some u) → (∀ x ∈ o.op.operands, Rep c (a.eval x) (E x)) →
    ∃ v', (execOp a.eval o).run P w = .ok (.value v') w ∧ Rep c v' v)
    (hw : ∀ (a : Act), (∃ c, ∀ x ∈ o.op.operands, Rep c (a.eval x) (E x)) → Sem.Wr P (fun _ _ => False) (execOp a.eval o) := by exact fun _ _ => wr_still _ _ rfl) : OpR P o E H (Ret v H) :=
  opR_value (fun B w0 c w a hI hops => by
    obtain ⟨v', h1, h2⟩ := h c w a hI.mem hops
    exact ⟨v', w, c, v, H, h1, Le.refl c, h2, hI, rfl, rfl⟩) fun _ _ c _ a _ hops => ⟨_, hw a ⟨c, hops⟩, fun _ _ h => h.elim⟩
theorem op_move {x : Operand} : OpR P ⟨dst, .move x, ty, pos, after, gd⟩ E H (Ret (E x) H) :=
  opR_pure fun c w a _ hops => ⟨a.eval x, rfl, hops x (by simp [Op.operands])⟩
theorem op_assign {x : Operand} : OpR P ⟨dst, .assign x, ty, pos, after, gd⟩ E H (Ret (E x) H) :=
  opR_pure fun c w a _ hops => ⟨a.eval x, rfl, hops x (by simp [Op.operands])⟩
theorem op_bin_of {op : BinOp} {x y : Operand} {t t' : TypeId} {X Y : Value} (r : Value) (hx : E x = .d (.v X)) (hy : E y = .d (.v Y)) (hp : plain r = true)
    (hg : ∀ w, (eqGuard op t x y X Y).run P w = .ok () w) (hr : ∀ w, (binOp op t X Y).run P w = .ok r w) : OpR P ⟨dst, .binOp op t x y t', ty, pos, after, gd⟩ E H (Ret (.d (.v r)) H) :=
  opR_pure fun c w a _ hops => by
    have h1 := hops x (by simp [Op.operands])
    have h2 := hops y (by simp [Op.operands])
    rw [hx] at h1
    rw [hy] at h2
    have e1 := h1.v_eq
    have e2 := h2.v_eq
    refine ⟨r, ?_, .d (.v r hp)⟩
    simp [execOp, e1, e2, hg w, hr w]
theorem guard_int {op : BinOp} {x y : Operand} {t : TypeId} {k k' : IntKind} {m n : Int} (w : World) : (eqGuard op t x y (.int k m) (.int k' n)).run P w = .ok () w := by
  cases op <;> simp [eqGuard]
theorem guard_bool {op : BinOp} {x y : Operand} {t : TypeId} {m n : Bool} (w : World) : (eqGuard op t x y (.bool m) (.bool n)).run P w = .ok () w := by
  cases op <;> simp [eqGuard]
theorem guard_str {op : BinOp} {x y : Operand} {t : TypeId} {m n : ByteArray} (w : World) : (eqGuard op t x y (.string m) (.string n)).run P w = .ok () w := by
  cases op <;> simp [eqGuard]
section
variable {x y : Operand} {t t' : TypeId} {k : IntKind} {m n : Int}
theorem op_add {r : Int} (hx : E x = .d (.v (.int k m))) (hy : E y = .d (.v (.int k n))) (hr : k.wrap (m + n) = r) : OpR P ⟨dst, .binOp .add t x y t', ty, pos, after, gd⟩ E H (Ret (.d (.v (.int k r))) H) :=
  op_bin_of (.int k r) hx hy rfl (fun w => guard_int w) fun w => by simp [binOp, Op.intArith, hr]
theorem op_sub {r : Int} (hx : E x = .d (.v (.int k m))) (hy : E y = .d (.v (.int k n))) (hr : k.wrap (m - n) = r) : OpR P ⟨dst, .binOp .sub t x y t', ty, pos, after, gd⟩ E H (Ret (.d (.v (.int k r))) H) :=
  op_bin_of (.int k r) hx hy rfl (fun w => guard_int w) fun w => by simp [binOp, Op.intArith, hr]
theorem op_mul {r : Int} (hx : E x = .d (.v (.int k m))) (hy : E y = .d (.v (.int k n))) (hr : k.wrap (m * n) = r) : OpR P ⟨dst, .binOp .mul t x y t', ty, pos, after, gd⟩ E H (Ret (.d (.v (.int k r))) H) :=
  op_bin_of (.int k r) hx hy rfl (fun w => guard_int w) fun w => by simp [binOp, Op.intArith, hr]
theorem op_quo {r : Int} (hx : E x = .d (.v (.int k m))) (hy : E y = .d (.v (.int k n))) (hn : n ≠ 0) (hr : k.wrap (m.tdiv n) = r) : OpR P ⟨dst, .binOp .quo t x y t', ty, pos, after, gd⟩ E H (Ret (.d (.v (.int k r))) H) :=
  op_bin_of (.int k r) hx hy rfl (fun w => guard_int w) fun w => by simp [binOp, Op.intDiv, hn, hr]
theorem op_rem {r : Int} (hx : E x = .d (.v (.int k m))) (hy : E y = .d (.v (.int k n))) (hn : n ≠ 0) (hr : m.tmod n = r) : OpR P ⟨dst, .binOp .rem t x y t', ty, pos, after, gd⟩ E H (Ret (.d (.v (.int k r))) H) :=
  op_bin_of (.int k r) hx hy rfl (fun w => guard_int w) fun w => by simp [binOp, Op.intDiv, hn, hr]
theorem op_and {r : Int} (hx : E x = .d (.v (.int k m))) (hy : E y = .d (.v (.int k n))) (hr : k.wrap (BitVec.ofInt k.bits m &&& BitVec.ofInt k.bits n).toNat = r) : OpR P ⟨dst, .binOp .and t x y t', ty, pos, after, gd⟩ E H (Ret (.d (.v (.int k r))) H) :=
  op_bin_of (.int k r) hx hy rfl (fun w => guard_int w) fun w => by
    subst hr
    show Sem.run P (if k ≠ k then _ else _) w = _
    rw [if_neg (fun h => h rfl)]
    rfl
theorem op_or {r : Int} (hx : E x = .d (.v (.int k m))) (hy : E y = .d (.v (.int k n))) (hr : k.wrap (BitVec.ofInt k.bits m ||| BitVec.ofInt k.bits n).toNat = r) : OpR P ⟨dst, .binOp .or t x y t', ty, pos, after, gd⟩ E H (Ret (.d (.v (.int k r))) H) :=
  op_bin_of (.int k r) hx hy rfl (fun w => guard_int w) fun w => by
    subst hr
    show Sem.run P (if k ≠ k then _ else _) w = _
    rw [if_neg (fun h => h rfl)]
    rfl
theorem op_xor {r : Int} (hx : E x = .d (.v (.int k m))) (hy : E y = .d (.v (.int k n))) (hr : k.wrap (BitVec.ofInt k.bits m ^^^ BitVec.ofInt k.bits n).toNat = r) : OpR P ⟨dst, .binOp .xor t x y t', ty, pos, after, gd⟩ E H (Ret (.d (.v (.int k r))) H) :=
  op_bin_of (.int k r) hx hy rfl (fun w => guard_int w) fun w => by
    subst hr
    show Sem.run P (if k ≠ k then _ else _) w = _
    rw [if_neg (fun h => h rfl)]
    rfl
theorem op_shl {k' : IntKind} {r : Int} (hx : E x = .d (.v (.int k m))) (hy : E y = .d (.v (.int k' n))) (hn : 0 ≤ n) (hr : k.wrap (m * 2 ^ (min n.toNat k.bits)) = r) : OpR P ⟨dst, .binOp .shl t x y t', ty, pos, after, gd⟩ E H (Ret (.d (.v (.int k r))) H) :=
  op_bin_of (.int k r) hx hy rfl (fun w => guard_int w) fun w => by
    have : ¬ n < 0 := by omega
    simp [binOp, Op.shift, this, hr]
theorem op_shr {k' : IntKind} {r : Int} (hx : E x = .d (.v (.int k m))) (hy : E y = .d (.v (.int k' n))) (hn : 0 ≤ n) (hr : m.fdiv (2 ^ (min n.toNat k.bits)) = r) : OpR P ⟨dst, .binOp .shr t x y t', ty, pos, after, gd⟩ E H (Ret (.d (.v (.int k r))) H) :=
  op_bin_of (.int k r) hx hy rfl (fun w => guard_int w) fun w => by
    have : ¬ n < 0 := by omega
    simp [binOp, Op.shift, this, hr]
theorem op_eqI (hx : E x = .d (.v (.int k m))) (hy : E y = .d (.v (.int k n))) : OpR P ⟨dst, .binOp .eql t x y t', ty, pos, after, gd⟩ E H (Ret (.d (TF (m == n))) H) :=
  op_bin_of _ hx hy rfl (fun w => guard_int w) fun w => by simp [binOp, Op.intCmp]
theorem op_neI (hx : E x = .d (.v (.int k m))) (hy : E y = .d (.v (.int k n))) : OpR P ⟨dst, .binOp .neq t x y t', ty, pos, after, gd⟩ E H (Ret (.d (TF (m != n))) H) :=
  op_bin_of _ hx hy rfl (fun w => guard_int w) fun w => by simp [binOp, Op.intCmp]
theorem op_ltI (hx : E x = .d (.v (.int k m))) (hy : E y = .d (.v (.int k n))) : OpR P ⟨dst, .binOp .lss t x y t', ty, pos, after, gd⟩ E H (Ret (.d (TF (decide (m < n)))) H) :=
  op_bin_of _ hx hy rfl (fun w => guard_int w) fun w => by simp [binOp, Op.intCmp]
theorem op_leI (hx : E x = .d (.v (.int k m))) (hy : E y = .d (.v (.int k n))) : OpR P ⟨dst, .binOp .leq t x y t', ty, pos, after, gd⟩ E H (Ret (.d (TF (decide (m ≤ n)))) H) :=
  op_bin_of _ hx hy rfl (fun w => guard_int w) fun w => by simp [binOp, Op.intCmp]
theorem op_gtI (hx : E x = .d (.v (.int k m))) (hy : E y = .d (.v (.int k n))) : OpR P ⟨dst, .binOp .gtr t x y t', ty, pos, after, gd⟩ E H (Ret (.d (TF (decide (n < m)))) H) :=
  op_bin_of _ hx hy rfl (fun w => guard_int w) fun w => by simp [binOp, Op.intCmp]
theorem op_geI (hx : E x = .d (.v (.int k m))) (hy : E y = .d (.v (.int k n))) : OpR P ⟨dst, .binOp .geq t x y t', ty, pos, after, gd⟩ E H (Ret (.d (TF (decide (n ≤ m)))) H) :=
  op_bin_of _ hx hy rfl (fun w => guard_int w) fun w => by simp [binOp, Op.intCmp]
theorem op_eqS {l l' : List UInt8} (hx : E x = .d (S l)) (hy : E y = .d (S l')) : OpR P ⟨dst, .binOp .eql t x y t', ty, pos, after, gd⟩ E H (Ret (.d (TF (l == l'))) H) :=
  op_bin_of _ hx hy rfl (fun w => guard_str w) fun w => by simp [binOp, Op.stringOp]
theorem op_neS {l l' : List UInt8} (hx : E x = .d (S l)) (hy : E y = .d (S l')) : OpR P ⟨dst, .binOp .neq t x y t', ty, pos, after, gd⟩ E H (Ret (.d (TF (!(l == l')))) H) :=
  op_bin_of _ hx hy rfl (fun w => guard_str w) fun w => by simp [binOp, Op.stringOp]
theorem op_ltS {l l' : List UInt8} (hx : E x = .d (S l)) (hy : E y = .d (S l')) : OpR P ⟨dst, .binOp .lss t x y t', ty, pos, after, gd⟩ E H (Ret (.d (TF (Op.bytesLess l l'))) H) :=
  op_bin_of _ hx hy rfl (fun w => guard_str w) fun w => by simp [binOp, Op.stringOp]
theorem op_gtS {l l' : List UInt8} (hx : E x = .d (S l)) (hy : E y = .d (S l')) : OpR P ⟨dst, .binOp .gtr t x y t', ty, pos, after, gd⟩ E H (Ret (.d (TF (!(Op.bytesLess l l' || l == l')))) H) :=
  op_bin_of _ hx hy rfl (fun w => guard_str w) fun w => by simp [binOp, Op.stringOp]
theorem op_leS {l l' : List UInt8} (hx : E x = .d (S l)) (hy : E y = .d (S l')) : OpR P ⟨dst, .binOp .leq t x y t', ty, pos, after, gd⟩ E H (Ret (.d (TF (Op.bytesLess l l' || l == l'))) H) :=
  op_bin_of _ hx hy rfl (fun w => guard_str w) fun w => by simp [binOp, Op.stringOp]
theorem op_geS {l l' : List UInt8} (hx : E x = .d (S l)) (hy : E y = .d (S l')) : OpR P ⟨dst, .binOp .geq t x y t', ty, pos, after, gd⟩ E H (Ret (.d (TF (!(Op.bytesLess l l')))) H) :=
  op_bin_of _ hx hy rfl (fun w => guard_str w) fun w => by simp [binOp, Op.stringOp]
theorem str_append (l l' : List UInt8) : (⟨l.toArray⟩ : ByteArray) ++ (⟨l'.toArray⟩ : ByteArray) = ⟨(l ++ l').toArray⟩ := by
  apply ByteArray.ext
  simp
theorem op_addS {l l' : List UInt8} (hx : E x = .d (S l)) (hy : E y = .d (S l')) (hl : l.length + l'.length ≤ 9223372036854775807) : OpR P ⟨dst, .binOp .add t x y t', ty, pos, after, gd⟩ E H (Ret (.d (S (l ++ l'))) H) :=
  op_bin_of _ hx hy rfl (fun w => guard_str w) fun w => by
    have h1 : (⟨l.toArray⟩ : ByteArray).size = l.length := by simp [ByteArray.size]
    have h2 : (⟨l'.toArray⟩ : ByteArray).size = l'.length := by simp [ByteArray.size]
    have h3 : ¬ ((((⟨l.toArray⟩ : ByteArray).size + (⟨l'.toArray⟩ : ByteArray).size : Nat) : Int) > IntKind.i64.max) := by
      have : IntKind.i64.max = 9223372036854775807 := by decide
      rw [h1, h2, this]
      omega
    simp only [binOp, Op.stringOp]
    rw [if_neg h3, str_append]
    rfl
theorem equalIn_bool (w : World) (d : Nat) {t : TypeId} (ht : P.underlying t = some .bool) (m n : Bool) : (Op.equalIn (d + 1) t (.bool m) (.bool n)).run P w = .ok (m == n) w := by
  simp [Op.equalIn, run_underlying ht]
theorem equalIn_ptr (w : World) (d : Nat) {t el : TypeId} (ht : P.underlying t = some (.pointer el)) (a : Addr) : (Op.equalIn (d + 1) t (.pointer (some a)) (.pointer none)).run P w = .ok false w := by
  simp [Op.equalIn, run_underlying ht]
theorem op_eqB {m n : Bool} (ht : P.underlying t = some .bool) (hx : E x = .d (.v (.bool m))) (hy : E y = .d (.v (.bool n))) : OpR P ⟨dst, .binOp .eql t x y t', ty, pos, after, gd⟩ E H (Ret (.d (TF (m == n))) H) :=
  op_bin_of _ hx hy rfl (fun w => guard_bool w) fun w => by
    simp only [binOp]
    simp [Op.equal, Op.maxDepth, equalIn_bool w 9999 ht m n]
theorem op_neB {m n : Bool} (ht : P.underlying t = some .bool) (hx : E x = .d (.v (.bool m))) (hy : E y = .d (.v (.bool n))) : OpR P ⟨dst, .binOp .neq t x y t', ty, pos, after, gd⟩ E H (Ret (.d (TF (!(m == n)))) H) :=
  op_bin_of _ hx hy rfl (fun w => guard_bool w) fun w => by
    simp only [binOp]
    simp [Op.equal, Op.maxDepth, equalIn_bool w 9999 ht m n]
theorem op_un_of {op : UnOp} {X : Value} (r : Value) (hx : E x = .d (.v X)) (hp : plain r = true) (hr : ∀ w, (Op.unary op X).run P w = .ok r w) : OpR P ⟨dst, .unOp op t x, ty, pos, after, gd⟩ E H (Ret (.d (.v r)) H) :=
  opR_pure fun c w a _ hops => by
    have h1 := hops x (by simp [Op.operands])
    rw [hx] at h1
    have e1 := h1.v_eq
    refine ⟨r, ?_, .d (.v r hp)⟩
    simp [execOp, e1, hr w]
theorem op_not {b : Bool} (hx : E x = .d (.v (.bool b))) : OpR P ⟨dst, .unOp .not t x, ty, pos, after, gd⟩ E H (Ret (.d (TF (!b))) H) := op_un_of _ hx rfl fun w => by simp [Op.unary]
theorem op_neg {r : Int} (hx : E x = .d (.v (.int k m))) (hr : k.wrap (0 - m) = r) : OpR P ⟨dst, .unOp .neg t x, ty, pos, after, gd⟩ E H (Ret (.d (.v (.int k r))) H) :=
  op_un_of _ hx rfl fun w => by rw [← hr]; rfl
theorem op_convI {k' : IntKind} {r : Int} (hs : (P.underlying t).isSome = true) (hd : P.underlying t' = some (.int k')) (hx : E x = .d (.v (.int k m))) (hr : k'.wrap m = r) : OpR P ⟨dst, .convert t t' x, ty, pos, after, gd⟩ E H (Ret (.d (.v (.int k' r))) H) :=
  opR_pure fun c w a _ hops => by
    have h1 := hops x (by simp [Op.operands])
    rw [hx] at h1
    have e1 := h1.v_eq
    refine ⟨.int k' r, ?_, .d (.v _ rfl)⟩
    obtain ⟨d, hd'⟩ := Option.isSome_iff_exists.1 hs
    simp [execOp, e1, convert, run_underlying hd, run_underlying hd', Conv.intToInt, hr]
theorem op_convSS {l : List UInt8} (hs : (P.underlying t).isSome = true) (hd : P.underlying t' = some .string) (hx : E x = .d (S l)) : OpR P ⟨dst, .convert t t' x, ty, pos, after, gd⟩ E H (Ret (.d (S l)) H) :=
  opR_pure fun c w a _ hops => by
    have h1 := hops x (by simp [Op.operands])
    rw [hx] at h1
    have e1 := h1.v_eq
    refine ⟨_, ?_, .d (.v _ rfl)⟩
    obtain ⟨d, hd'⟩ := Option.isSome_iff_exists.1 hs
    simp [execOp, e1, convert, run_underlying hd, run_underlying hd']
end
theorem op_max {x y : Operand} {ts : Array TypeId} {k k' : IntKind} {m n : Int} (hx : E x = .d (.v (.int k m))) (hy : E y = .d (.v (.int k' n))) :
    OpR P ⟨dst, .call ⟨.builtin .max, #[x, y], ts⟩, ty, pos, after, gd⟩ E H (Ret (.d (.v (.int k (if n > m then n else m)))) H) :=
  opR_pure fun c w a _ hops => by
    have h1 := hops x (by simp [Op.operands, Call.operands])
    have h2 := hops y (by simp [Op.operands, Call.operands])
    rw [hx] at h1
    rw [hy] at h2
    refine ⟨_, ?_, .d (.v _ rfl)⟩
    simp [execOp, resolve, invoke, builtin, h1.v_eq, h2.v_eq, Builtin.max_, Builtin.max2]
theorem op_min {x y : Operand} {ts : Array TypeId} {k k' : IntKind} {m n : Int} (hx : E x = .d (.v (.int k m))) (hy : E y = .d (.v (.int k' n))) :
    OpR P ⟨dst, .call ⟨.builtin .min, #[x, y], ts⟩, ty, pos, after, gd⟩ E H (Ret (.d (.v (.int k (if n < m then n else m)))) H) :=
  opR_pure fun c w a _ hops => by
    have h1 := hops x (by simp [Op.operands, Call.operands])
    have h2 := hops y (by simp [Op.operands, Call.operands])
    rw [hx] at h1
    rw [hy] at h2
    refine ⟨_, ?_, .d (.v _ rfl)⟩
    simp [execOp, resolve, invoke, builtin, h1.v_eq, h2.v_eq, Builtin.min_, Builtin.min2]
theorem op_pick {x y z : Operand} {b : Bool} (hx : E x = .d (.v (.bool b))) : OpR P ⟨dst, .pick x y z, ty, pos, after, gd⟩ E H (Ret (if b then E y else E z) H) :=
  opR_pure fun c w a _ hops => by
    have h1 := hops x (by simp [Op.operands])
    rw [hx] at h1
    cases b with
    | true => exact ⟨a.eval y, by simp [execOp, h1.v_eq, asBool], hops y (by simp [Op.operands])⟩
    | false => exact ⟨a.eval z, by simp [execOp, h1.v_eq, asBool], hops z (by simp [Op.operands])⟩
theorem str_size (l : List UInt8) : (⟨l.toArray⟩ : ByteArray).size = l.length := by simp [ByteArray.size]
theorem op_lenS {x : Operand} {t : TypeId} {l : List UInt8} (ht : P.underlying t = some .string) (hx : E x = .d (S l)) : OpR P ⟨dst, .call ⟨.builtin .len, #[x], #[t]⟩, ty, pos, after, gd⟩ E H (Ret (.d (I l.length)) H) :=
  opR_pure fun c w a _ hops => by
    have h1 := hops x (by simp [Op.operands, Call.operands])
    rw [hx] at h1
    refine ⟨_, ?_, .d (.v _ rfl)⟩
    simp [execOp, resolve, invoke, builtin, h1.v_eq, Builtin.len_, run_underlying ht, goInt, str_size]
theorem op_indexS {x y : Operand} {t : TypeId} {k : IntKind} {l : List UInt8} {n : Int} {b : UInt8} (ht : P.underlying t = some .string) (hx : E x = .d (S l)) (hy : E y = .d (.v (.int k n))) (h0 : 0 ≤ n) (hb : l[n.toNat]? = some b) :
    OpR P ⟨dst, .index t x y, ty, pos, after, gd⟩ E H (Ret (.d (BY b)) H) :=
  opR_pure fun c w a _ hops => by
    have h1 := hops x (by simp [Op.operands])
    have h2 := hops y (by simp [Op.operands])
    rw [hx] at h1
    rw [hy] at h2
    refine ⟨_, ?_, .d (.v _ rfl)⟩
    have hlt : n.toNat < l.length := (List.getElem?_eq_some_iff.1 hb).1
    have hg : (⟨l.toArray⟩ : ByteArray)[n.toNat]? = some b := by
      have hs : n.toNat < (⟨l.toArray⟩ : ByteArray).size := by rw [str_size]; exact hlt
      rw [getElem?_pos (⟨l.toArray⟩ : ByteArray) n.toNat hs]
      have := (List.getElem?_eq_some_iff.1 hb).2
      simp [ByteArray.getElem_eq_getElem_data, this]
    simp [execOp, h1.v_eq, h2.v_eq, Instr.index, run_underlying ht, asIntOf, h0, hg]
theorem extract_str (l : List UInt8) (i j : Nat) : (⟨l.toArray⟩ : ByteArray).extract i j = ⟨((l.drop i).take (j - i)).toArray⟩ := by
  apply ByteArray.ext
  apply Array.ext'
  rw [Lib.extract_data]
theorem bound_ok {k : IntKind} {n : Int} {y : Nat} {code : BoundsCode} (w : World) (h0 : 0 ≤ n) (h1 : n ≤ y) : (Instr.sliceBound (.int k n) y code).run P w = .ok n.toNat w := by
  simp [Instr.sliceBound, asIntOf, h0, h1]
theorem op_sliceS2 {x y z : Operand} {t : TypeId} {k k' : IntKind} {l : List UInt8} {i j : Int} (r : List UInt8) (ht : P.underlying t = some .string) (hx : E x = .d (S l)) (hy : E y = .d (.v (.int k i))) (hz : E z = .d (.v (.int k' j))) (h0 : 0 ≤ i) (h1 : i ≤ j) (h2 : j ≤ l.length)
    (hr : (l.drop i.toNat).take (j.toNat - i.toNat) = r) : OpR P ⟨dst, .slice t x (some y) (some z) none, ty, pos, after, gd⟩ E H (Ret (.d (S r)) H) :=
  opR_pure fun c w a _ hops => by
    have q1 := hops x (by simp [Op.operands])
    have q2 := hops y (by simp [Op.operands])
    have q3 := hops z (by simp [Op.operands])
    rw [hx] at q1
    rw [hy] at q2
    rw [hz] at q3
    refine ⟨_, ?_, .d (.v _ rfl)⟩
    have e1 := bound_ok (P := P) (k := k') (y := l.length) (code := .sliceAlen) w (show 0 ≤ j by omega) h2
    have e2 := bound_ok (P := P) (k := k) (y := j.toNat) (code := .sliceB) w h0 (by omega)
    simp [execOp, q1.v_eq, q2.v_eq, q3.v_eq, Instr.sliceAt, Instr.slice, Instr.sliceBounds, run_underlying ht, str_size, e1, e2, extract_str, hr]
theorem op_sliceS1 {x y : Operand} {t : TypeId} {k : IntKind} {l : List UInt8} {i : Int} (r : List UInt8) (ht : P.underlying t = some .string) (hx : E x = .d (S l)) (hy : E y = .d (.v (.int k i))) (h0 : 0 ≤ i) (h2 : i ≤ l.length)
    (hr : l.drop i.toNat = r) : OpR P ⟨dst, .slice t x (some y) none none, ty, pos, after, gd⟩ E H (Ret (.d (S r)) H) :=
  opR_pure fun c w a _ hops => by
    have q1 := hops x (by simp [Op.operands])
    have q2 := hops y (by simp [Op.operands])
    rw [hx] at q1
    rw [hy] at q2
    refine ⟨_, ?_, .d (.v _ rfl)⟩
    have e2 := bound_ok (P := P) (k := k) (y := l.length) (code := .sliceB) w h0 h2
    have e3 : (l.drop i.toNat).take (l.length - i.toNat) = r := by rw [← hr]; exact List.take_of_length_le (by simp)
    simp [execOp, q1.v_eq, q2.v_eq, Instr.sliceAt, Instr.slice, Instr.sliceBounds, run_underlying ht, str_size, e2, extract_str, e3]
theorem op_sliceS0 {x z : Operand} {t : TypeId} {k' : IntKind} {l : List UInt8} {j : Int} (r : List UInt8) (ht : P.underlying t = some .string) (hx : E x = .d (S l)) (hz : E z = .d (.v (.int k' j))) (h0 : 0 ≤ j) (h2 : j ≤ l.length)
    (hr : l.take j.toNat = r) : OpR P ⟨dst, .slice t x none (some z) none, ty, pos, after, gd⟩ E H (Ret (.d (S r)) H) :=
  opR_pure fun c w a _ hops => by
    have q1 := hops x (by simp [Op.operands])
    have q3 := hops z (by simp [Op.operands])
    rw [hx] at q1
    rw [hz] at q3
    refine ⟨_, ?_, .d (.v _ rfl)⟩
    have e1 := bound_ok (P := P) (k := k') (y := l.length) (code := .sliceAlen) w h0 h2
    have e3 : (l.drop 0).take (j.toNat - 0) = r := by simpa using hr
    simp only [List.drop_zero, Nat.sub_zero] at e3
    simp [execOp, q1.v_eq, q3.v_eq, Instr.sliceAt, Instr.slice, Instr.sliceBounds, run_underlying ht, str_size, e1, extract_str, e3]
theorem op_extract {x : Operand} {i : Nat} {cs : List AV} {v : AV} (hx : E x = .tup cs) (hv : cs[i]? = some v) : OpR P ⟨dst, .extract x i, ty, pos, after, gd⟩ E H (Ret v H) :=
  opR_pure fun c w a _ hops => by
    have h1 := hops x (by simp [Op.operands])
    rw [hx] at h1
    have hlt : i < cs.length := (List.getElem?_eq_some_iff.1 hv).1
    cases hq : a.eval x with
    | tuple vs =>
      rw [hq] at h1
      cases h1 with
      | tup _ _ hl h =>
      have h2 := h i hlt
      rw [(List.getElem?_eq_some_iff.1 hv).2] at h2
      refine ⟨vs.getD i undef, ?_, h2⟩
      have : i < vs.size := by omega
      simp [execOp, hq, Instr.extract, this]
    | _ => rw [hq] at h1; cases h1
theorem op_makeFunc {f0 : FuncId} {first cap : Array Operand} : OpR P ⟨dst, .makeFunc (.func f0) first cap, ty, pos, after, gd⟩ E H (Ret (.fn (.func f0) (first.toList.map E) (cap.toList.map E)) H) :=
  opR_pure fun c w a _ hops => by
    refine ⟨_, rfl, .fn _ _ _ _ _ (by simp) (fun i hi => ?_) (by simp) (fun i hi => ?_)⟩
    · have hi' : i < first.size := by simpa using hi
      have := hops first[i] (by simp [Op.operands])
      simpa [hi'] using this
    · have hi' : i < cap.size := by simpa using hi
      have := hops cap[i] (by simp [Op.operands])
      simpa [hi'] using this
def notAgg : TypeDesc → Bool
  | .struct _ => false
  | .array _ _ => false
  | _ => true
theorem run_isAgg {t : TypeId} {d : TypeDesc} (ht : P.underlying t = some d) (w : World) : (isAgg t).run P w = .ok (!notAgg d) w := by
  unfold isAgg
  rw [Sem.run_bind, run_underlying ht w]
  cases d <;> rfl
theorem run_sizeOf {t : TypeId} {n : Nat} (h : (P.info? t).map (·.size) = some n) (w : World) : (sizeOf t).run P w = .ok n w := by
  obtain ⟨i, h1, h2⟩ := Option.map_eq_some_iff.1 h
  simp [sizeOf, typeInfo, h1, h2]
theorem run_load_one {t : TypeId} {d : TypeDesc} (ht : P.underlying t = some d) (hd : notAgg d = true) {g o : Nat} {v : Value} (w : World) (h : w.cell? ⟨g, o, none⟩ = some v) : (loadVar t ⟨g, o, none⟩).run P w = .ok v w := by
  simp [loadVar, run_isAgg ht, hd, load, Sem.run, h]
theorem run_load_agg {t : TypeId} {d : TypeDesc} (ht : P.underlying t = some d) (hd : notAgg d = false) {n : Nat} (hn : (P.info? t).map (·.size) = some n) {g o : Nat} (cs : List Value) (hl : cs.length = n) (w : World) (h : ∀ j u, cs[j]? = some u → w.cell? ⟨g, o + j, none⟩ = some u) :
    (loadVar t ⟨g, o, none⟩).run P w = .ok (.agg cs.toArray) w := by
  have hc := run_loadCells_list (P := P) w ⟨g, o, none⟩ cs (fun j v hv => by rw [addr_add]; exact h j v hv)
  rw [hl] at hc
  simp [loadVar, run_isAgg ht, hd, run_sizeOf hn, hc]
theorem Rep.elt_inv {c : Ctx} {x : Value} {cs : List DV} (h : Rep c x (.elt cs)) : ∃ (g o : Nat) (us : Nat → Value), x = .pointer (some ⟨g, o, none⟩) ∧ (∀ y ∈ cs, y.one = true) ∧ (∀ i, i < cs.length → c.mem g (o + i) = some (us i)) ∧ ∀ i (hi : i < cs.length), RepD c.mem (us i) cs[i] := by
  cases h with
  | elt g o cs us h1 hm h => exact ⟨g, o, us, rfl, h1, hm, h⟩
theorem Rep.ptr_inv {c : Ctx} {x : Value} {id off : Nat} (h : Rep c x (.ptr id off)) : ∃ g, x = .pointer (some ⟨g, off, none⟩) ∧ c.blk[id]? = some g := by
  cases h with
  | ptr id off g h => exact ⟨g, rfl, h⟩
theorem op_load_elt {x : Operand} {t : TypeId} {d : TypeDesc} {cs : List DV} {y : DV} (ht : P.underlying t = some d) (hd : notAgg d = true) (hx : E x = .elt cs) (hy : cs[0]? = some y) : OpR P ⟨dst, .load t x, ty, pos, after, gd⟩ E H (Ret (.d y) H) :=
  opR_pure fun c w a hm hops => by
    have h1 := hops x (by simp [Op.operands])
    rw [hx] at h1
    obtain ⟨g, o, us, e, hone, hmem, hrep⟩ := h1.elt_inv
    have hlt : 0 < cs.length := (List.getElem?_eq_some_iff.1 hy).1
    have hr := hrep 0 hlt
    rw [(List.getElem?_eq_some_iff.1 hy).2] at hr
    refine ⟨us 0, ?_, .d hr⟩
    have hc := hm g o (us 0) (by simpa using hmem 0 hlt)
    simp [execOp, e, Instr.loadAt, Instr.sureAddr, run_load_one ht hd w hc]
theorem op_load_elts {x : Operand} {t : TypeId} {d : TypeDesc} {cs ds : List DV} {n : Nat} (ht : P.underlying t = some d) (hd : notAgg d = false) (hn : (P.info? t).map (·.size) = some n) (hx : E x = .elt cs) (hl : n ≤ cs.length) (hds : cs.take n = ds) :
    OpR P ⟨dst, .load t x, ty, pos, after, gd⟩ E H (Ret (.d (.agg ds)) H) :=
  opR_pure fun c w a hm hops => by
    have h1 := hops x (by simp [Op.operands])
    rw [hx] at h1
    obtain ⟨g, o, us, e, hone, hmem, hrep⟩ := h1.elt_inv
    subst hds
    refine ⟨.agg ((List.range n).map us).toArray, ?_, .d (.agg _ _ (by simp [hl]) (fun y hy => hone y (List.mem_of_mem_take hy)) fun i hi => ?_)⟩
    · have := run_load_agg (P := P) ht hd hn (g := g) (o := o) ((List.range n).map us) (by simp) w (fun j u hu => by
        have hj : j < n := by have := (List.getElem?_eq_some_iff.1 hu).1; simpa using this
        have : u = us j := by simp [hj] at hu; exact hu.symm
        subst this
        exact hm _ _ _ (hmem j (by omega)))
      simp [execOp, e, Instr.loadAt, Instr.sureAddr, this]
    · have hi' : i < n := by simp at hi; omega
      have := hrep i (by omega)
      simpa [hi'] using this
theorem Inv.cell {B : Nat} {w0 w : World} {c : Ctx} (h : Inv B w0 c H w) {id g : Nat} (hg : c.blk[id]? = some g) {b : HB} (hb : H.blks[id]? = some b) {off : Nat} {v : AV} (hv : b.cs[off]? = some v) : ∃ u, w.cell? ⟨g, off, none⟩ = some u ∧ Rep c u v := by
  obtain ⟨_, _, cur, fr, hw, hl, _, hr⟩ := h.blk id g b hg hb
  have hlt : off < b.cs.length := (List.getElem?_eq_some_iff.1 hv).1
  have h1 := hr off hlt
  rw [(List.getElem?_eq_some_iff.1 hv).2] at h1
  have hs : off < cur.size := by omega
  exact ⟨cur.getD off undef, by simp [World.cell?, hw, hs], h1⟩
theorem op_load_ptr {x : Operand} {t : TypeId} {d : TypeDesc} {id off : Nat} {b : HB} {v : AV} (ht : P.underlying t = some d) (hd : notAgg d = true) (hx : E x = .ptr id off) (hb : H.blks[id]? = some b) (hv : b.cs[off]? = some v) :
    OpR P ⟨dst, .load t x, ty, pos, after, gd⟩ E H (Ret v H) :=
  opR_value fun B w0 c w a hI hops => by
    have h1 := hops x (by simp [Op.operands])
    rw [hx] at h1
    obtain ⟨g, e, hg⟩ := h1.ptr_inv
    obtain ⟨u, hc, hr⟩ := hI.cell hg hb hv
    refine ⟨u, w, c, v, H, ?_, Le.refl c, hr, hI, rfl, rfl⟩
    simp [execOp, e, Instr.loadAt, Instr.sureAddr, run_load_one ht hd w hc]
theorem op_load_ptrs {x : Operand} {t : TypeId} {d : TypeDesc} {id off n : Nat} {b : HB} {vs : List AV} (ht : P.underlying t = some d) (hd : notAgg d = false) (hn : (P.info? t).map (·.size) = some n) (hx : E x = .ptr id off) (hb : H.blks[id]? = some b)
    (hl : off + n ≤ b.cs.length) (hvs : (b.cs.drop off).take n = vs) : OpR P ⟨dst, .load t x, ty, pos, after, gd⟩ E H (Ret (.agg vs) H) :=
  opR_value fun B w0 c w a hI hops => by
    have h1 := hops x (by simp [Op.operands])
    rw [hx] at h1
    obtain ⟨g, e, hg⟩ := h1.ptr_inv
    subst hvs
    have hall : ∀ j, j < n → ∃ u, w.cell? ⟨g, off + j, none⟩ = some u ∧ ∃ v, b.cs[off + j]? = some v ∧ Rep c u v := fun j hj => by
      have hlt : off + j < b.cs.length := by omega
      obtain ⟨u, h2, h3⟩ := hI.cell hg hb (List.getElem?_eq_getElem hlt)
      exact ⟨u, h2, _, List.getElem?_eq_getElem hlt, h3⟩
    let f : Nat → Value := fun j => (w.cell? ⟨g, off + j, none⟩).getD undef
    refine ⟨.agg ((List.range n).map f).toArray, w, c, _, H, ?_, Le.refl c, .agg _ _ (by simp; omega) (fun i hi => ?_), hI, rfl, rfl⟩
    · have := run_load_agg (P := P) ht hd hn (g := g) (o := off) ((List.range n).map f) (by simp) w (fun j u hu => by
        have hj : j < n := by have := (List.getElem?_eq_some_iff.1 hu).1; simpa using this
        have : u = f j := by simp [hj] at hu; exact hu.symm
        subst this
        obtain ⟨u, h2, _⟩ := hall j hj
        simp [f, h2])
      simp [execOp, e, Instr.loadAt, Instr.sureAddr, this]
    · have hi' : i < n := by simp at hi; omega
      obtain ⟨u, h2, v, h3, h4⟩ := hall i hi'
      have e1 : (((List.range n).map f).toArray).getD i undef = u := by simp [hi', f, h2]
      rw [e1]
      have e2 : ((b.cs.drop off).take n)[i] = v := by
        rw [List.getElem_take, List.getElem_drop]
        have := (List.getElem?_eq_some_iff.1 h3).2
        exact this
      rw [e2]
      exact h4
theorem op_fieldAddr_elt {x : Operand} {t : TypeId} {i : Nat} {fs : Array Field} {f : Field} {n : Nat} {cs ds : List DV} (ht : P.underlying t = some (.struct fs)) (hf : fs[i]? = some f) (hn : (P.info? f.type).map (·.size) = some n) (hn0 : (n == 0) = false) (hx : E x = .elt cs)
    (hds : cs.drop f.offset = ds) : OpR P ⟨dst, .fieldAddr t x i, ty, pos, after, gd⟩ E H (Ret (.elt ds) H) :=
  opR_pure fun c w a hm hops => by
    have h1 := hops x (by simp [Op.operands])
    rw [hx] at h1
    obtain ⟨g, o, us, e, hone, hmem, hrep⟩ := h1.elt_inv
    subst hds
    have hn0' : n ≠ 0 := by simpa using hn0
    refine ⟨.pointer (some ⟨g, o + f.offset, none⟩), ?_, .elt g (o + f.offset) _ (fun j => us (f.offset + j)) (fun y hy => hone y (List.mem_of_mem_drop hy)) (fun j hj => ?_) (fun j hj => ?_)⟩
    · simp [execOp, e, Instr.fieldAt, run_underlying ht, hf, Instr.sureAddr, fieldPlace, run_sizeOf hn, hn0', addr_add]
    · simp at hj
      rw [Nat.add_assoc]
      exact hmem (f.offset + j) (by omega)
    · simp at hj
      rw [List.getElem_drop]
      exact hrep (f.offset + j) (by omega)
theorem op_fieldAddr_ptr {x : Operand} {t : TypeId} {i : Nat} {fs : Array Field} {f : Field} {n id off : Nat} (ht : P.underlying t = some (.struct fs)) (hf : fs[i]? = some f) (hn : (P.info? f.type).map (·.size) = some n) (hn0 : (n == 0) = false) (hx : E x = .ptr id off) :
    OpR P ⟨dst, .fieldAddr t x i, ty, pos, after, gd⟩ E H (Ret (.ptr id (off + f.offset)) H) :=
  opR_pure fun c w a hm hops => by
    have h1 := hops x (by simp [Op.operands])
    rw [hx] at h1
    obtain ⟨g, e, hg⟩ := h1.ptr_inv
    have hn0' : n ≠ 0 := by simpa using hn0
    refine ⟨.pointer (some ⟨g, off + f.offset, none⟩), ?_, .ptr id _ g hg⟩
    simp [execOp, e, Instr.fieldAt, run_underlying ht, hf, Instr.sureAddr, fieldPlace, run_sizeOf hn, hn0', addr_add]
theorem op_nilCheck_ptr {x : Operand} {id off : Nat} (hx : E x = .ptr id off) : OpR P ⟨dst, .nilCheck x, ty, pos, after, gd⟩ E H (Ret (.ptr id off) H) :=
  opR_pure (fun c w a hm hops => by
    have h1 := hops x (by simp [Op.operands])
    rw [hx] at h1
    obtain ⟨g, e, hg⟩ := h1.ptr_inv
    exact ⟨_, by simp [execOp, e], .ptr id _ g hg⟩) fun a ⟨c, hops⟩ => by
    have h1 := hops x (by simp [Op.operands])
    rw [hx] at h1
    obtain ⟨g, e, hg⟩ := h1.ptr_inv
    exact wr_nilCheck e
theorem op_nilCheck_elt {x : Operand} {cs : List DV} (hx : E x = .elt cs) : OpR P ⟨dst, .nilCheck x, ty, pos, after, gd⟩ E H (Ret (.elt cs) H) :=
  opR_pure (fun c w a hm hops => by
    have h1 := hops x (by simp [Op.operands])
    rw [hx] at h1
    obtain ⟨g, o, us, e, hone, hmem, hrep⟩ := h1.elt_inv
    exact ⟨.pointer (some ⟨g, o, none⟩), by simp [execOp, e], by rw [← e]; exact h1⟩) fun a ⟨c, hops⟩ => by
    have h1 := hops x (by simp [Op.operands])
    rw [hx] at h1
    obtain ⟨g, o, us, e, hone, hmem, hrep⟩ := h1.elt_inv
    exact wr_nilCheck e
theorem op_ptr_nil {x y : Operand} {t t' el : TypeId} {id off : Nat} (ht : P.underlying t = some (.pointer el)) (hx : E x = .ptr id off) (hy : E y = .d (.v (.pointer none))) : OpR P ⟨dst, .binOp .eql t x y t', ty, pos, after, gd⟩ E H (Ret (.d (TF false)) H) :=
  opR_pure fun c w a hm hops => by
    have h1 := hops x (by simp [Op.operands])
    have h2 := hops y (by simp [Op.operands])
    rw [hx] at h1
    rw [hy] at h2
    obtain ⟨g, e, hg⟩ := h1.ptr_inv
    refine ⟨.bool false, ?_, .d (.v _ rfl)⟩
    have hb : (binOp .eql t (.pointer (some ⟨g, off, none⟩)) (.pointer none)).run P w = .ok (.bool false) w := by
      simp only [binOp]
      simp [Op.equal, Op.maxDepth, equalIn_ptr w 9999 ht]
    simp [execOp, e, h2.v_eq, eqGuard, hb]
theorem op_ptr_some {x y : Operand} {t t' el : TypeId} {id off : Nat} (ht : P.underlying t = some (.pointer el)) (hx : E x = .ptr id off) (hy : E y = .d (.v (.pointer none))) : OpR P ⟨dst, .binOp .neq t x y t', ty, pos, after, gd⟩ E H (Ret (.d (TF true)) H) :=
  opR_pure fun c w a hm hops => by
    have h1 := hops x (by simp [Op.operands])
    have h2 := hops y (by simp [Op.operands])
    rw [hx] at h1
    rw [hy] at h2
    obtain ⟨g, e, hg⟩ := h1.ptr_inv
    refine ⟨.bool true, ?_, .d (.v _ rfl)⟩
    have hb : (binOp .neq t (.pointer (some ⟨g, off, none⟩)) (.pointer none)).run P w = .ok (.bool true) w := by
      simp only [binOp]
      simp [Op.equal, Op.maxDepth, equalIn_ptr w 9999 ht]
    simp [execOp, e, h2.v_eq, eqGuard, hb]
end
end Go.AV
namespace Go.AV
open Go.RowKit
inductive LL : AV → Nat → List DV → Prop
  | d (sz : Nat) (xs : List DV) : LL (.d (.lst sz xs)) sz xs
  | own (t : Option Nat) (sz : Nat) (xs : List DV) : LL (.own t sz xs) sz xs
  | nil (sz : Nat) : LL nilS sz []
theorem LL.rep {c : Ctx} {x : Value} {v : AV} {sz : Nat} {xs : List DV} (h : LL v sz xs) (hr : Rep c x v) : ∃ a n cap, x = .slice a n cap ∧ RepD c.mem (.slice a n cap) (.lst sz xs) := by
  cases h with
  | d =>
    cases hr with
    | d h =>
      cases h with
      | lst g o n cap sz xs us hn hc hsz h1 hm h => exact ⟨_, _, _, rfl, .lst g o n cap sz xs us hn hc hsz h1 hm h⟩
      | lstE a cap sz => exact ⟨_, _, _, rfl, .lstE a cap sz⟩
  | own =>
    cases hr with
    | own0 sz => exact ⟨_, _, _, rfl, .lstE _ _ _⟩
    | own1 g o n sz xs h => exact ⟨_, _, _, rfl, h⟩
    | ownt i e g n cap sz xs h => exact ⟨_, _, _, rfl, h⟩
  | nil sz => rw [hr.v_eq]; exact ⟨_, _, _, rfl, .lstE _ _ _⟩
theorem RepD.lst_len {m : Mem} {a : Option Addr} {n cap sz : Nat} {xs : List DV} (h : RepD m (.slice a n cap) (.lst sz xs)) : xs.length = n ∧ n ≤ cap := by
  cases h with
  | lst g o n cap sz xs us hn hc => exact ⟨hn, hc⟩
  | lstE => exact ⟨rfl, Nat.zero_le _⟩
section
variable {P : Program} [Wins P] {E : Operand → AV} {H : HS} {R : AV → HS → Prop} {dst : Option Tmp} {ty : TypeId} {pos : String} {after : Array Edge} {gd : Option (Nat × Bool)}
theorem op_lenL {x : Operand} {t e : TypeId} {sz : Nat} {xs : List DV} (ht : P.underlying t = some (.slice e)) (hx : LL (E x) sz xs) : OpR P ⟨dst, .call ⟨.builtin .len, #[x], #[t]⟩, ty, pos, after, gd⟩ E H (Ret (.d (I xs.length)) H) :=
  opR_pure fun c w a _ hops => by
    obtain ⟨ad, n, cap, e1, h⟩ := hx.rep (hops x (by simp [Op.operands, Call.operands]))
    refine ⟨_, ?_, .d (.v _ rfl)⟩
    simp [execOp, resolve, invoke, builtin, e1, Builtin.len_, run_underlying ht, goInt, h.lst_len.1]
theorem op_indexAddr {x y : Operand} {t e : TypeId} {sz : Nat} {xs : List DV} {k : IntKind} {n : Int} {z : DV} {cs : List DV} (ht : P.underlying t = some (.slice e)) (hn : (P.info? e).map (·.size) = some sz) (hx : LL (E x) sz xs) (hy : E y = .d (.v (.int k n))) (h0 : 0 ≤ n)
    (hz : xs[n.toNat]? = some z) (hcs : z.cells = cs) : OpR P ⟨dst, .indexAddr t x y, ty, pos, after, gd⟩ E H (Ret (.elt cs) H) :=
  opR_pure fun c w a hm hops => by
    obtain ⟨ad, m, cap, e1, h⟩ := hx.rep (hops x (by simp [Op.operands]))
    have h2 := hops y (by simp [Op.operands])
    rw [hy] at h2
    have hlt : n.toNat < xs.length := (List.getElem?_eq_some_iff.1 hz).1
    cases h with
    | lstE => simp at hlt
    | lst g o m cap sz xs us hm1 hc hsz h1 hmem hrep =>
      have hfl := flat_length hsz
      have hbase : ∀ j, j < sz → n.toNat * sz + j < (flat xs).length := by
        intro j hj
        rw [hfl]
        have : (n.toNat + 1) * sz ≤ xs.length * sz := Nat.mul_le_mul_right _ hlt
        rw [Nat.add_mul] at this
        omega
      have hzl : z.cells.length = sz := by rw [← (List.getElem?_eq_some_iff.1 hz).2]; exact hsz _ (List.getElem_mem hlt)
      have hget : ∀ j (hj : j < sz), (flat xs)[n.toNat * sz + j]? = z.cells[j]? := by
        intro j hj
        rw [flat_get hsz n.toNat hlt j hj, (List.getElem?_eq_some_iff.1 hz).2]
      subst hcs
      refine ⟨.pointer (some ⟨g, o + n.toNat * sz, none⟩), ?_, .elt g _ _ (fun j => us (n.toNat * sz + j)) (fun y hy => ?_) (fun j hj => ?_) (fun j hj => ?_)⟩
      · have hlt' : n < (m : Int) := by omega
        simp [execOp, e1, h2.v_eq, Instr.indexAt, asIntOf, run_underlying ht, h0, hlt', run_sizeOf hn, addr_add]
      · obtain ⟨j, hj, rfl⟩ := List.getElem_of_mem hy
        have := hget j (by omega)
        rw [List.getElem?_eq_getElem hj, List.getElem?_eq_getElem (hbase j (by omega))] at this
        rw [← Option.some.inj this]
        exact h1 _ (List.getElem_mem _)
      · rw [Nat.add_assoc]
        exact hmem _ (hbase j (by omega))
      · have := hget j (by omega)
        rw [List.getElem?_eq_getElem hj, List.getElem?_eq_getElem (hbase j (by omega))] at this
        have h3 := hrep _ (hbase j (by omega))
        rwa [Option.some.inj this] at h3
theorem RepD.sub {m : Mem} {a : Option Addr} {n cap sz : Nat} {xs : List DV} (h : RepD m (.slice a n cap) (.lst sz xs)) {l k : Nat} (hl : l ≤ k) (hk : k ≤ n) :
    RepD m (.slice (if cap = l then a else a.map (·.add (l * sz))) (k - l) (cap - l)) (.lst sz ((xs.drop l).take (k - l))) := by
  by_cases hlk : k - l = 0
  · rw [hlk]
    simp only [List.take_zero]
    exact .lstE _ _ _
  · cases h with
    | lstE => omega
    | lst g o n cap sz xs us hn hc hsz h1 hmem hrep =>
      rw [if_neg (by omega)]
      have hsz' : ∀ x ∈ (xs.drop l).take (k - l), x.cells.length = sz := fun x hx => hsz x (List.mem_of_mem_drop (List.mem_of_mem_take hx))
      have hlen : ((xs.drop l).take (k - l)).length = k - l := by simp; omega
      have hfl := flat_length hsz
      have hfl' := flat_length hsz'
      have hb : ∀ i, i < (flat ((xs.drop l).take (k - l))).length → l * sz + i < (flat xs).length := by
        intro i hi
        rw [hfl', hlen] at hi
        rw [hfl]
        have : (l + (k - l)) * sz ≤ xs.length * sz := Nat.mul_le_mul_right _ (by omega)
        rw [Nat.add_mul] at this
        omega
      have hget : ∀ i, i < (flat ((xs.drop l).take (k - l))).length → (flat ((xs.drop l).take (k - l)))[i]? = (flat xs)[l * sz + i]? := by
        intro i hi
        rw [hfl', hlen] at hi
        have hsp : 0 < sz := by
          rcases Nat.eq_zero_or_pos sz with h0 | h0
          · subst h0; simp at hi
          · exact h0
        have e1 : i = (i / sz) * sz + i % sz := by rw [Nat.mul_comm]; exact (Nat.div_add_mod i sz).symm
        have e2 : i % sz < sz := Nat.mod_lt _ hsp
        have e3 : i / sz < k - l := by rw [Nat.div_lt_iff_lt_mul hsp]; exact hi
        have e4 : l * sz + i = (l + i / sz) * sz + i % sz := by rw [Nat.add_mul]; omega
        rw [e4, flat_get hsz (l + i / sz) (by omega) _ e2]
        rw [show (flat ((xs.drop l).take (k - l)))[i]? = (flat ((xs.drop l).take (k - l)))[i / sz * sz + i % sz]? from by rw [← e1]]
        rw [flat_get hsz' (i / sz) (by omega) _ e2]
        simp
      have ha : Option.map (fun x => x.add (l * sz)) (some (⟨g, o, none⟩ : Addr)) = some ⟨g, o + l * sz, none⟩ := by simp [addr_add]
      rw [ha]
      refine .lst g (o + l * sz) (k - l) (cap - l) sz _ (fun i => us (l * sz + i)) hlen (by omega) hsz' (fun x hx => ?_) (fun i hi => ?_) (fun i hi => ?_)
      · obtain ⟨i, hi, rfl⟩ := List.getElem_of_mem hx
        have := hget i hi
        rw [List.getElem?_eq_getElem hi, List.getElem?_eq_getElem (hb i hi)] at this
        rw [Option.some.inj this]
        exact h1 _ (List.getElem_mem _)
      · rw [Nat.add_assoc]
        exact hmem _ (hb i hi)
      · have := hget i hi
        rw [List.getElem?_eq_getElem hi, List.getElem?_eq_getElem (hb i hi)] at this
        rw [Option.some.inj this]
        exact hrep _ (hb i hi)
theorem op_sliceL2 {x y z : Operand} {t e : TypeId} {sz : Nat} {xs : List DV} {k k' : IntKind} {i j : Int} (r : List DV) (ht : P.underlying t = some (.slice e)) (hn : (P.info? e).map (·.size) = some sz) (hx : LL (E x) sz xs) (hy : E y = .d (.v (.int k i))) (hz : E z = .d (.v (.int k' j)))
    (h0 : 0 ≤ i) (h1 : i ≤ j) (h2 : j ≤ xs.length) (hr : (xs.drop i.toNat).take (j.toNat - i.toNat) = r) : OpR P ⟨dst, .slice t x (some y) (some z) none, ty, pos, after, gd⟩ E H (Ret (.d (.lst sz r)) H) :=
  opR_pure fun c w a _ hops => by
    obtain ⟨ad, m, cap, e1, h⟩ := hx.rep (hops x (by simp [Op.operands]))
    have q2 := hops y (by simp [Op.operands])
    have q3 := hops z (by simp [Op.operands])
    rw [hy] at q2
    rw [hz] at q3
    have hl := h.lst_len
    refine ⟨_, ?_, .d (hr ▸ h.sub (l := i.toNat) (k := j.toNat) (by omega) (by omega))⟩
    have b1 := bound_ok (P := P) (k := k') (y := cap) (code := .sliceAcap) w (show 0 ≤ j by omega) (by omega)
    have b2 := bound_ok (P := P) (k := k) (y := j.toNat) (code := .sliceB) w h0 (by omega)
    simp [execOp, e1, q2.v_eq, q3.v_eq, Instr.sliceAt, Instr.slice, Instr.sliceBounds, run_underlying ht, b1, b2, run_sizeOf hn]
theorem op_sliceL1 {x y : Operand} {t e : TypeId} {sz : Nat} {xs : List DV} {k : IntKind} {i : Int} (r : List DV) (ht : P.underlying t = some (.slice e)) (hn : (P.info? e).map (·.size) = some sz) (hx : LL (E x) sz xs) (hy : E y = .d (.v (.int k i)))
    (h0 : 0 ≤ i) (h2 : i ≤ xs.length) (hr : xs.drop i.toNat = r) : OpR P ⟨dst, .slice t x (some y) none none, ty, pos, after, gd⟩ E H (Ret (.d (.lst sz r)) H) :=
  opR_pure fun c w a _ hops => by
    obtain ⟨ad, m, cap, e1, h⟩ := hx.rep (hops x (by simp [Op.operands]))
    have q2 := hops y (by simp [Op.operands])
    rw [hy] at q2
    have hl := h.lst_len
    have hr' : (xs.drop i.toNat).take (m - i.toNat) = r := by rw [← hr]; exact List.take_of_length_le (by simp; omega)
    refine ⟨_, ?_, .d (hr' ▸ h.sub (l := i.toNat) (k := m) (by omega) (by omega))⟩
    have b2 := bound_ok (P := P) (k := k) (y := m) (code := .sliceB) w h0 (by omega)
    simp [execOp, e1, q2.v_eq, Instr.sliceAt, Instr.slice, Instr.sliceBounds, run_underlying ht, b2, run_sizeOf hn]
theorem op_sliceL0 {x z : Operand} {t e : TypeId} {sz : Nat} {xs : List DV} {k' : IntKind} {j : Int} (r : List DV) (ht : P.underlying t = some (.slice e)) (hn : (P.info? e).map (·.size) = some sz) (hx : LL (E x) sz xs) (hz : E z = .d (.v (.int k' j)))
    (h1 : 0 ≤ j) (h2 : j ≤ xs.length) (hr : xs.take j.toNat = r) : OpR P ⟨dst, .slice t x none (some z) none, ty, pos, after, gd⟩ E H (Ret (.d (.lst sz r)) H) :=
  opR_pure fun c w a _ hops => by
    obtain ⟨ad, m, cap, e1, h⟩ := hx.rep (hops x (by simp [Op.operands]))
    have q3 := hops z (by simp [Op.operands])
    rw [hz] at q3
    have hl := h.lst_len
    have hr' : (xs.drop 0).take (j.toNat - 0) = r := by simpa using hr
    refine ⟨_, ?_, .d (hr' ▸ h.sub (l := 0) (k := j.toNat) (by omega) (by omega))⟩
    have b1 := bound_ok (P := P) (k := k') (y := cap) (code := .sliceAcap) w (show 0 ≤ j by omega) (by omega)
    simp [execOp, e1, q3.v_eq, Instr.sliceAt, Instr.slice, Instr.sliceBounds, run_underlying ht, b1, run_sizeOf hn]
theorem RepD.cells {m : Mem} {x : Value} {y : DV} (h : RepD m x y) : x.cells.size = y.cells.length ∧ (∀ z ∈ y.cells, z.one = true) ∧ ∀ i (hi : i < y.cells.length), RepD m (x.cells.getD i undef) y.cells[i] := by
  cases h with
  | v x h =>
    have hc : x.cells = #[x] := by cases x <;> first | rfl | (simp [plain] at h)
    rw [hc]
    refine ⟨rfl, by simp [DV.cells, DV.one], fun i hi => ?_⟩
    simp [DV.cells] at hi
    subst hi
    exact .v x h
  | agg vs cs hl h1 h => exact ⟨hl, h1, h⟩
  | lst g o n cap sz xs us hn hc hsz h1 hmem hrep =>
    refine ⟨rfl, by simp [DV.cells, DV.one], fun i hi => ?_⟩
    simp [DV.cells] at hi
    subst hi
    exact .lst g o n cap sz xs us hn hc hsz h1 hmem hrep
  | lstE a cap sz =>
    refine ⟨rfl, by simp [DV.cells, DV.one], fun i hi => ?_⟩
    simp [DV.cells] at hi
    subst hi
    exact .lstE a cap sz
theorem Rep.cells {c : Ctx} {x : Value} {y : AV} (h : Rep c x y) (hu : y ≠ .un) : x.cells.size = y.cells.length ∧ ∀ i (hi : i < y.cells.length), Rep c (x.cells.getD i undef) y.cells[i] := by
  have lone : ∀ (x : Value) (y : AV), Rep c x y → x.cells = #[x] → y.cells = [y] → x.cells.size = y.cells.length ∧ ∀ i (hi : i < y.cells.length), Rep c (x.cells.getD i undef) y.cells[i] := by
    intro x y h e1 e2
    rw [e1]
    refine ⟨by rw [e2]; rfl, fun i hi => ?_⟩
    have hi' : i < 1 := by rw [e2] at hi; exact hi
    have : i = 0 := by omega
    subst this
    have : y.cells[0] = y := by simp [e2]
    rw [this]
    exact h
  cases h with
  | un => exact absurd rfl hu
  | nv => exact lone _ _ .nv rfl rfl
  | @d x y h =>
    have hd := h.cells
    cases y with
    | v X => 
      have := h.v_eq
      subst this
      cases h with
      | v _ hp =>
        refine lone _ _ (.d (.v x hp)) ?_ rfl
        cases x <;> first | rfl | (simp [plain] at hp)
    | lst sz xs =>
      refine lone _ _ (.d h) ?_ rfl
      cases h <;> rfl
    | agg cs =>
      refine ⟨by rw [hd.1]; simp [DV.cells, AV.cells], fun i hi => ?_⟩
      simp [AV.cells] at hi
      have h2 : RepD c.mem (x.cells.getD i undef) cs[i] := hd.2.2 i hi
      have e : (AV.cells (.d (.agg cs)))[i]'(by simp [AV.cells, hi]) = .d cs[i] := by simp [AV.cells]
      rw [e]
      exact .d h2
  | own0 sz => exact lone _ _ (.own0 sz) rfl rfl
  | own1 g o n sz xs h => exact lone _ _ (.own1 g o n sz xs h) rfl rfl
  | ownt i e g n cap sz xs h ht hn he => exact lone _ _ (.ownt i e g n cap sz xs h ht hn he) rfl rfl
  | elt g o cs us h1 hm h => exact lone _ _ (.elt g o cs us h1 hm h) rfl rfl
  | ptr id off g h => exact lone _ _ (.ptr id off g h) rfl rfl
  | arr id n cap g h => exact lone _ _ (.arr id n cap g h) rfl rfl
  | sub id off n cap g h => exact lone _ _ (.sub id off n cap g h) rfl rfl
  | agg vs cs hl h => exact ⟨hl, h⟩
  | tup vs cs hl h => exact lone _ _ (.tup vs cs hl h) rfl rfl
  | fn f fs cs fs' cs' hl h hl' h' hy => exact lone _ _ (.fn f fs cs fs' cs' hl h hl' h' hy) rfl rfl
  | yld l idx hm => exact lone _ _ (.yld l idx hm) rfl rfl
  | map id g h => exact lone _ _ (.map id g h) rfl rfl
  | iter id g h => exact lone _ _ (.iter id g h) rfl rfl
theorem Rep.d_inv {c : Ctx} {x : Value} {y : DV} (h : Rep c x (.d y)) : RepD c.mem x y := by
  cases h with
  | d h => exact h
theorem op_box_elt {x : Operand} {t : TypeId} {y : DV} {cs : List DV} (hx : E x = .d y) (hcs : y.cells = cs) : OpR P ⟨dst, .box t x, ty, pos, after, gd⟩ E H (Ret (.elt cs) H) :=
  opR_value fun B w0 c w a hI hops => by
    have h1 := hops x (by simp [Op.operands])
    rw [hx] at h1
    obtain ⟨hl, hone, hr⟩ := h1.d_inv.cells
    obtain ⟨i1, l1⟩ := hI.allocProt (a.eval x).cells t (0, 0) (a.eval x).cells.size (Nat.le_refl _)
    subst hcs
    refine ⟨.pointer (some ⟨w.heap.size, 0, none⟩), _, _, _, H, ?_, l1, .elt w.heap.size 0 _ (fun j => (a.eval x).cells.getD j undef) hone (fun i hi => ?_) (fun i hi => (hr i hi).mono l1.mem), i1, rfl, rfl⟩
    · rfl
    · simp [Ctx.prot, hl, hi]
theorem op_box_ptr {x : Operand} {t : TypeId} {cs : List AV} (hu : E x ≠ .un) (hcs : (E x).cells = cs) : OpR P ⟨dst, .box t x, ty, pos, after, gd⟩ E H (Ret (.ptr H.nb 0) (H.push t cs)) :=
  opR_value fun B w0 c w a hI hops => by
    have h1 := hops x (by simp [Op.operands])
    obtain ⟨hl, hr⟩ := h1.cells hu
    subst hcs
    obtain ⟨i1, l1⟩ := hI.allocBlk (a.eval x).cells t _ hl hr
    refine ⟨.pointer (some ⟨w.heap.size, 0, none⟩), _, _, _, _, ?_, l1, .ptr _ _ w.heap.size ?_, i1, rfl, rfl⟩
    · rfl
    · simp [HS.nb, ← hI.blkLen]
theorem const_cells (z : Value) (c : Ctx) : ∀ i (hi : i < (z.cells.toList.map constAV).length), Rep c (z.cells.getD i undef) (z.cells.toList.map constAV)[i] := by
  intro i hi
  have hi' : i < z.cells.size := by simpa using hi
  have := rep_const c z.cells[i]
  simpa [hi'] using this
theorem op_alloc {t : TypeId} {z : Value} {cs : List AV} (hz : (P.info? t).map (·.zero) = some (some z)) (hcs : z.cells.toList.map constAV = cs) : OpR P ⟨dst, .alloc t, ty, pos, after, gd⟩ E H (Ret (.ptr H.nb 0) (H.push t cs)) :=
  opR_value fun B w0 c w a hI hops => by
    obtain ⟨inf, hi1, hi2⟩ := Option.map_eq_some_iff.1 hz
    subst hcs
    obtain ⟨i1, l1⟩ := hI.allocBlk z.cells t (z.cells.toList.map constAV) (by simp) (const_cells z c)
    refine ⟨.pointer (some ⟨w.heap.size, 0, none⟩), _, _, _, _, ?_, l1, .ptr _ _ w.heap.size ?_, i1, rfl, rfl⟩
    · have hzv : (zeroValue t).run P w = .ok z w := by simp [zeroValue, typeInfo, hi1, hi2]
      have : (Instr.alloc t true (.tuple #[])).run P w = .ok (.pointer (some ⟨w.heap.size, 0, none⟩)) (w.alloc (.cells z.cells t)) := by
        unfold Instr.alloc
        rw [Sem.run_bind, hzv]
        rfl
      simp [execOp, this]
    · simp [HS.nb, ← hI.blkLen]
theorem own_store {x y : Operand} {t : TypeId} {id off : Nat} {b : HB} (hx : E x = .ptr id off) (hb : H.blks[id]? = some b) (B : Nat) (w0 : World) (c : Ctx) (w : World) (a : Act) (hI : Inv B w0 c H w) (hops : ∀ z ∈ (Op.store t x y).operands, Rep c (a.eval z) (E z)) :
    ∃ W : Nat → Nat → Prop, Sem.Wr P W (execOp a.eval ⟨dst, .store t x y, ty, pos, after, gd⟩) ∧ ∀ b j, W b j → c.mem b j = none ∧ ∃ cs t fr, w.heap[b]? = some (.cells cs t fr) := by
  have h1 := hops x (by simp [Op.operands])
  rw [hx] at h1
  obtain ⟨g, e, hg⟩ := h1.ptr_inv
  exact ⟨fun b _ => b = g, wr_store e fun _ => rfl, hI.own hg hb⟩
theorem op_store {x y : Operand} {t : TypeId} {id off n : Nat} {b : HB} {vs : List AV} (hn : (P.info? t).map (·.size) = some n) (hx : E x = .ptr id off) (hb : H.blks[id]? = some b) (hu : E y ≠ .un) (hvs : (E y).cells = vs) (hl : vs.length = n) (hfit : off + n ≤ b.cs.length)
    (hone : ∀ v ∈ vs, v.one = true) (hfz : b.frz = false := by rfl) : OpR P ⟨dst, .store t x y, ty, pos, after, gd⟩ E H (Ret .un (H.put id off vs)) :=
  opR_skip (hw := own_store hx hb) fun B w0 c w a hI hops => by
    have h1 := hops x (by simp [Op.operands])
    have h2 := hops y (by simp [Op.operands])
    rw [hx] at h1
    obtain ⟨g, e, hg⟩ := h1.ptr_inv
    obtain ⟨hl2, hr⟩ := h2.cells hu
    subst hvs
    obtain ⟨p1, p2, cur, fr, p3, p4, p5, p6⟩ := hI.blk id g b hg hb
    have hlen : (a.eval y).cells.toList.length = (E y).cells.length := by simpa using hl2
    have i1 := hI.putBlk id g off b hg hb (a.eval y).cells.toList (E y).cells hlen (fun j hj hj' => by
      have := hr j hj'
      have hj2 : j < (a.eval y).cells.size := by omega
      simpa [hj2] using this) (by omega) cur _ fr p3
    refine ⟨_, c, _, ?_, Le.refl c, i1, rfl, rfl⟩
    have hst := run_storeCells_fr P g off b.elem fr (a.eval y).cells.toList 0 cur w p3 (fun o _ => p5 hfz o) (by simp; omega) (fun v hv => by
      obtain ⟨j, hj, rfl⟩ := List.getElem_of_mem hv
      have hj' : j < (E y).cells.length := by omega
      have := hr j hj'
      have hj2 : j < (a.eval y).cells.size := by omega
      have h3 := this.one (hone _ (List.getElem_mem hj'))
      simpa [hj2] using h3)
    simp only [Nat.add_zero] at hst
    have hsz : (a.eval y).cells.size = n := by omega
    simp [execOp, e, Instr.storeAt, Instr.sureAddr, storeVar, run_sizeOf hn, hsz, hst]
theorem bytes_flat (l : List UInt8) : flat (l.map BY) = l.map BY := by
  induction l with
  | nil => rfl
  | cons b l ih => simp only [List.map_cons, flat, List.flatMap_cons] at ih ⊢; rw [ih]; rfl
theorem RepD.bytes {m : Mem} {g n cap : Nat} (l : List UInt8) (hl : l.length = n) (hc : n ≤ cap) (h : ∀ j (hj : j < l.length), m g j = some (.int .u8 (l[j].toNat : Int))) : RepD m (.slice (some ⟨g, 0, none⟩) n cap) (.lst 1 (l.map BY)) := by
  refine .lst g 0 n cap 1 _ (fun i => .int .u8 (((l[i]?).getD 0).toNat : Int)) (by simpa using hl) hc (by simp [BY, DV.cells]) (by rw [bytes_flat]; simp [BY, DV.one]) (fun i hi => ?_) (fun i hi => ?_)
  · rw [bytes_flat] at hi
    have hi' : i < l.length := by simpa using hi
    simp [h i hi', hi']
  · have hi' : i < l.length := by rw [bytes_flat] at hi; simpa using hi
    have : (flat (l.map BY))[i] = BY l[i] := by simp [bytes_flat]
    rw [this]
    simp only [List.getElem?_eq_getElem hi', Option.getD_some]
    exact .v _ rfl
theorem bytesRow_get (l : List UInt8) (cap j : Nat) (hj : j < l.length) : (bytesRow ⟨l.toArray⟩ cap)[j]? = some (.int .u8 (l[j].toNat : Int)) := by
  simp [bytesRow, hj, Array.getElem?_append]
theorem bytesRow_size (l : List UInt8) (cap : Nat) (h : l.length ≤ cap) : (bytesRow ⟨l.toArray⟩ cap).size = cap := by
  simp [bytesRow, ByteArray.size]
  omega
theorem op_bytes {x : Operand} {t t' e : TypeId} {l : List UInt8} (ht : P.underlying t = some .string) (ht' : P.underlying t' = some (.slice e)) (he : P.underlying e = some (.int .u8)) (hx : E x = .d (S l)) :
    OpR P ⟨dst, .convert t t' x, ty, pos, after, gd⟩ E H (Ret (.d (.lst 1 (l.map BY))) H) :=
  opR_value fun B w0 c w a hI hops => by
    have h1 := hops x (by simp [Op.operands])
    rw [hx] at h1
    have hr := run_bytes_of_string w t t' e ⟨l.toArray⟩ ht ht' he
    have hge : l.length ≤ grownCap w (⟨l.toArray⟩ : ByteArray).size 0 e := by have := grownCap_ge w (⟨l.toArray⟩ : ByteArray).size 0 e; rwa [str_size] at this
    have hsz := bytesRow_size l _ hge
    obtain ⟨i1, l1⟩ := hI.drew.allocProt (bytesRow ⟨l.toArray⟩ (grownCap w (⟨l.toArray⟩ : ByteArray).size 0 e)) e
      ((bytesRow ⟨l.toArray⟩ (grownCap w (⟨l.toArray⟩ : ByteArray).size 0 e)).size, (bytesRow ⟨l.toArray⟩ (grownCap w (⟨l.toArray⟩ : ByteArray).size 0 e)).size + 1) l.length (by omega)
    refine ⟨_, _, _, _, _, ?_, l1, .d (RepD.bytes (g := w.heap.size) l rfl hge fun j hj => ?_), i1, rfl, rfl⟩
    · have e2 : (execOp a.eval ⟨dst, .convert t t' x, ty, pos, after, gd⟩).run P w = ((convert t t' (.string ⟨l.toArray⟩)).run P w).andThen fun v w => .ok (.value v) w := by
        simp [execOp, h1.v_eq]
      rw [e2, hr]
      simp only [str_size]
      rfl
    · have h2 := bytesRow_get l (grownCap w (⟨l.toArray⟩ : ByteArray).size 0 e) j hj
      have h3 : j < (bytesRow ⟨l.toArray⟩ (grownCap w (⟨l.toArray⟩ : ByteArray).size 0 e)).size := by omega
      show (if w.heap.size = w.drew.heap.size ∧ j < l.length then _ else _) = _
      rw [if_pos ⟨rfl, hj⟩]
      simp only [Array.getD_eq_getD_getElem?, h2, Option.getD_some]
theorem RepD.lst_inv {m : Mem} {a : Option Addr} {n cap sz : Nat} {xs : List DV} (h : RepD m (.slice a n cap) (.lst sz xs)) : xs = [] ∧ n = 0 ∨
    ∃ (g o : Nat) (us : Nat → Value), a = some ⟨g, o, none⟩ ∧ (∀ x ∈ xs, x.cells.length = sz) ∧ (∀ i, i < (flat xs).length → m g (o + i) = some (us i)) ∧ ∀ i (hi : i < (flat xs).length), RepD m (us i) (flat xs)[i] := by
  cases h with
  | lst g o n cap sz xs us hn hc hsz h1 hmem hrep => exact .inr ⟨g, o, us, rfl, hsz, hmem, hrep⟩
  | lstE => exact .inl ⟨rfl, rfl⟩
theorem op_string {x : Operand} {t t' e : TypeId} {xs : List DV} {l : List UInt8} (ht : P.underlying t = some (.slice e)) (ht' : P.underlying t' = some .string) (he : P.underlying e = some (.int .u8)) (hx : LL (E x) 1 xs) (hl : xs = l.map BY) :
    OpR P ⟨dst, .convert t t' x, ty, pos, after, gd⟩ E H (Ret (.d (S l)) H) :=
  opR_pure fun c w a hm hops => by
    obtain ⟨ad, n, cap, e1, h⟩ := hx.rep (hops x (by simp [Op.operands]))
    subst hl
    refine ⟨.string ⟨l.toArray⟩, ?_, .d (.v _ rfl)⟩
    have e2 : (execOp a.eval ⟨dst, .convert t t' x, ty, pos, after, gd⟩).run P w = ((convert t t' (.slice ad n cap)).run P w).andThen fun v w => .ok (.value v) w := by
      simp [execOp, e1]
    rw [e2]
    have hlen : l.length = n := by simpa using h.lst_len.1
    rcases h.lst_inv with ⟨h0, hn0⟩ | ⟨g, o, us, rfl, hsz, hmem, hrep⟩
    · have hl0 : l = [] := by simpa using h0
      subst hl0
      subst hn0
      cases ad with
      | none =>
        rw [run_convert_bytes_nil w t e ht he 0 cap t' ht']
        rfl
      | some ad =>
        have := run_convert_bytes_back w t t' e ad cap [] ht he ht' (fun j hj => by simp at hj)
        simp only [List.length_nil] at this
        rw [this]
        rfl
    · have := run_convert_bytes_back w t t' e ⟨g, o, none⟩ cap l ht he ht' (fun j hj => by
        rw [addr_add]
        have hj' : j < (flat (l.map BY)).length := by rw [bytes_flat]; simpa using hj
        have h3 := hm _ _ _ (hmem j hj')
        have h4 := hrep j hj'
        have h5 : (flat (l.map BY))[j] = BY l[j] := by simp [bytes_flat]
        rw [h5] at h4
        rw [h3, h4.v_eq])
      rw [hlen] at this
      rw [this]
      rfl
end
end Go.AV
namespace Go.AV
open Go.RowKit
def tInfo (P : Program) (e : TypeId) (z : Value) (sz bytes : Nat) : Prop := (P.info? e).map (fun i => (i.zero, i.size, i.bytes)) = some (some z, sz, bytes)
theorem tInfo.size {P : Program} {e : TypeId} {z : Value} {sz bytes : Nat} (h : tInfo P e z sz bytes) : (P.info? e).map (·.size) = some sz := by
  unfold tInfo at h
  cases hi : P.info? e with
  | none => rw [hi] at h; cases h
  | some i =>
    rw [hi] at h
    simp only [Option.map_some, Option.some.injEq, Prod.mk.injEq] at h ⊢
    exact h.2.1
theorem tInfo.get {P : Program} {e : TypeId} {z : Value} {sz bytes : Nat} (h : tInfo P e z sz bytes) : ∃ i, P.info? e = some i ∧ i.zero = some z ∧ i.size = sz ∧ i.bytes = bytes := by
  unfold tInfo at h
  cases hi : P.info? e with
  | none => rw [hi] at h; cases h
  | some i =>
    rw [hi] at h
    simp only [Option.map_some, Option.some.injEq, Prod.mk.injEq] at h
    exact ⟨i, rfl, h⟩
section
variable {P : Program} [Wins P]
def Src (P : Program) (tx : TypeId) (x : Value) (w : World) (sz m : Nat) (news : List Value) : Prop :=
  (P.underlying tx = some .string ∨ ∃ e', P.underlying tx = some (.slice e')) ∧ (∀ w', (Builtin.lenOf x).run P w' = .ok m w') ∧ (∀ w', w'.heap = w.heap → (Builtin.firstCells sz m x).run P w' = .ok news.toArray w')
theorem run_app_room (w : World) (t tx ty e : TypeId) (z : Value) (sz bytes : Nat) (ht : P.underlying t = some (.slice e)) (hi : tInfo P e z sz bytes) (x : Value) (m : Nat) (news : List Value) (hsrc : Src P tx x w sz m news)
    (g n cap : Nat) (cur : Array Value) (fr : Nat × Nat) (hg : w.heap[g]? = some (.cells cur e fr)) (hfr : ∀ o, o < cur.size → ¬ (fr.1 ≤ o ∧ o < fr.2)) (h1 : ∀ u ∈ news, u.oneCell' = true) (hroom : n + m ≤ cap) (hfit : n * sz + news.length ≤ cur.size) :
    (Builtin.append_ #[t, tx] ty #[.slice (some ⟨g, 0, none⟩) n cap, x]).run P w = .ok (.slice (some ⟨g, 0, none⟩) (n + m) cap) (w.setRow g (putA cur (n * sz) news)) := by
  obtain ⟨hd, hlen, hf⟩ := hsrc
  obtain ⟨i, h2, h3, h4, h5⟩ := hi.get
  subst h4
  have hst := run_storeCells_fr P g (n * i.size) e fr news 0 cur w hg hfr (by simpa using hfit) h1
  simp only [Nat.add_zero] at hst
  have hadd : (⟨g, 0, none⟩ : Addr).add (n * i.size) = ⟨g, n * i.size, none⟩ := by rw [addr_add]; simp
  have hti : ∀ w, (typeInfo e).run P w = .ok i w := fun w => by simp [typeInfo, h2]
  have hso : ∀ w, (sizeOf e).run P w = .ok i.size w := fun w => by simp [sizeOf, hti]
  rcases hd with hd | ⟨e', hd⟩ <;> simp [Builtin.append_, run_underlying ht, run_underlying hd, hso, hlen, hroom, hf w rfl, hadd, hst]
theorem run_app_grow (w : World) (t tx ty e : TypeId) (z : Value) (sz bytes : Nat) (ht : P.underlying t = some (.slice e)) (hi : tInfo P e z sz bytes) (x : Value) (m : Nat) (news : List Value) (hsrc : Src P tx x w sz m news)
    (base : Option Addr) (n cap : Nat) (olds : List Value) (hold : ∀ w', w'.heap = w.heap → (Builtin.firstCells sz n (.slice base n cap)).run P w' = .ok olds.toArray w') (hroom : cap < n + m) (hb : (n + m) * bytes ≤ 140737488355328) (hn : n + m ≤ 140737488355328) :
    (Builtin.append_ #[t, tx] ty #[.slice base n cap, x]).run P w = .ok (.slice (some ⟨w.heap.size, 0, none⟩) (n + m) (grownCap w (n + m) cap e))
      (w.drew.alloc (.cells (olds.toArray ++ (news.toArray ++ Builtin.zeroCells z.cells (grownCap w (n + m) cap e - (n + m)))) e)) := by
  obtain ⟨hd, hlen, hf⟩ := hsrc
  obtain ⟨i, h2, h3, h4, h5⟩ := hi.get
  subst h4
  subst h5
  have hr : ¬ (n + m ≤ cap) := by omega
  have hfit := growslice_fits (need := n + m) (old := cap) (bytes := i.bytes) (by omega) hb
  have h48 : ¬ (281474976710656 < Builtin.nextslicecap (n + m) cap * i.bytes) := by omega
  have h63 : ¬ (9223372036854775807 < ((n : Int) + (m : Int))) := by omega
  have hwd : w.drew.heap = w.heap := rfl
  have hti : ∀ w, (typeInfo e).run P w = .ok i w := fun w => by simp [typeInfo, h2]
  have hso : ∀ w, (sizeOf e).run P w = .ok i.size w := fun w => by simp [sizeOf, hti]
  have hzv : ∀ w, (zeroValue e).run P w = .ok z w := fun w => by simp [zeroValue, hti, h3]
  rcases hd with hd | ⟨e', hd⟩ <;> simp [Builtin.append_, run_underlying ht, run_underlying hd, hso, hti, hzv, hlen, hr, h48, h63, Question.forced, hf w.drew hwd, hold w.drew hwd, newRow, grownCap]
inductive App : AV → Option Nat → Nat → List DV → Prop
  | own (t : Option Nat) (sz : Nat) (xs : List DV) : App (.own t sz xs) t sz xs
  | nil (sz : Nat) : App nilS none sz []
inductive Adds (P : Program) (tx : TypeId) : AV → Nat → List DV → Prop
  | list (v : AV) (sz : Nat) (ys : List DV) (e' : TypeId) (ht : P.underlying tx = some (.slice e')) (h : LL v sz ys) : Adds P tx v sz ys
  | str (l : List UInt8) (ht : P.underlying tx = some .string) : Adds P tx (.d (S l)) 1 (l.map BY)
theorem firstCells_of {w : World} {g o n sz m c : Nat} {us : List Value} (hl : us.length = n * sz) (h : ∀ j u, us[j]? = some u → w.cell? ⟨g, o + j, none⟩ = some u) :
    ∀ w', w'.heap = w.heap → (Builtin.firstCells sz n (.slice (some ⟨g, o, none⟩) m c)).run P w' = .ok us.toArray w' := by
  intro w' hw
  refine run_firstCells_some w' sz n ⟨g, o, none⟩ m c us hl fun j u hu => ?_
  rw [addr_add]
  have := h j u hu
  simp only [World.cell?, hw] at this ⊢
  exact this
theorem Adds.src {B : Nat} {w0 w : World} {c : Ctx} {H : HS} (hI : Inv B w0 c H w) {tx : TypeId} {v : AV} {sz : Nat} {ys : List DV} (h : Adds P tx v sz ys) {x : Value} (hr : Rep c x v) :
    ∃ news : List Value, Src P tx x w sz ys.length news ∧ news.length = ys.length * sz ∧ news.length = (flat ys).length ∧ (∀ y ∈ ys, y.cells.length = sz) ∧ (∀ y ∈ flat ys, y.one = true) ∧ (∀ u ∈ news, u.oneCell' = true) ∧
      ∀ i (hi : i < news.length) (hi' : i < (flat ys).length), RepD c.mem news[i] (flat ys)[i] := by
  cases h with
  | list v sz ys e' ht h =>
    obtain ⟨a, n, cap, rfl, hd⟩ := h.rep hr
    obtain ⟨h1, h2, h3, h4, us, h5, h6, h7, h8, h9⟩ := hd.lst_cells hI
    refine ⟨us, ⟨.inr ⟨e', ht⟩, fun w' => by simp [Builtin.lenOf, h1], ?_⟩, by rw [h5, h1], h6, h3, h4, h8, h7⟩
    rcases h9 with h9 | ⟨g, o, rfl, h9⟩
    · have : us = [] := List.eq_nil_of_length_eq_zero (by rw [h5, h9, Nat.zero_mul])
      subst this
      intro w' _
      rw [h1, h9]
      cases a with
      | none => simp [Builtin.firstCells]
      | some a => simp [Builtin.firstCells, loadCells, loadCellsFrom]
    · rw [h1]
      exact firstCells_of h5 fun j u hu => (h9 j u hu).2
  | str l ht =>
    rw [hr.v_eq]
    have hf := bytes_flat l
    refine ⟨l.map fun b => .int .u8 (b.toNat : Int), ⟨.inl ht, fun w' => by simp [Builtin.lenOf, str_size], fun w' _ => ?_⟩, by simp, by rw [hf]; simp, by simp [BY, DV.cells], by rw [hf]; simp [BY, DV.one], by simp [Value.oneCell'], fun i hi hi' => ?_⟩
    · have : (⟨l.toArray⟩ : ByteArray).extract 0 (l.map BY).length = ⟨l.toArray⟩ := by rw [extract_str]; simp
      simp only [Builtin.firstCells, this]
      simp
    · have e : (flat (l.map BY))[i] = BY (l[i]'(by simpa using hi)) := by simp [hf]
      rw [e]
      simp only [List.getElem_map]
      exact .v _ rfl
section
variable {E : Operand → AV} {H : HS} {R : AV → HS → Prop} {dst : Option Tmp} {ty : TypeId} {pos : String} {after : Array Edge} {gd : Option (Nat × Bool)}
theorem app_grown {B : Nat} {w0 w : World} {c : Ctx} (hI : Inv B w0 c H w) (t : Option Nat) (e : TypeId) (z : Value) (sz n m cap : Nat) (hzs : z.cells.size = sz) (xs ys : List DV) (olds news : List Value) (hok : H.ok t xs.length) (hm : 0 < m)
    (hxl : xs.length = n) (hyl : ys.length = m) (hol : olds.length = n * sz) (hnl : news.length = m * sz) (hxs : ∀ x ∈ xs, x.cells.length = sz) (hys : ∀ x ∈ ys, x.cells.length = sz) (hx1 : ∀ x ∈ flat xs, x.one = true) (hy1 : ∀ x ∈ flat ys, x.one = true)
    (hxr : ∀ i (hi : i < olds.length) (hi' : i < (flat xs).length), RepD c.mem olds[i] (flat xs)[i]) (hyr : ∀ i (hi : i < news.length) (hi' : i < (flat ys).length), RepD c.mem news[i] (flat ys)[i]) (hcap : n + m ≤ cap) :
    ∃ c', Le c c' ∧ Inv B w0 c' (H.up t (n + m)) (w.drew.alloc (.cells (olds.toArray ++ (news.toArray ++ Builtin.zeroCells z.cells (cap - (n + m)))) e)) ∧
      Rep c' (.slice (some ⟨w.heap.size, 0, none⟩) (n + m) cap) (.own (some (H.tk t)) sz (xs ++ ys)) := by
  have hsize : (olds.toArray ++ (news.toArray ++ Builtin.zeroCells z.cells (cap - (n + m)))).size = cap * sz := by
    simp only [Array.size_append, List.size_toArray, size_zeroCells, hzs, hol, hnl]
    rw [← Nat.add_mul, ← Nat.add_mul]
    congr 1
    omega
  obtain ⟨c', l1, i1, hmem, htk, _⟩ := hI.drew.newTok t xs.length hok (olds.toArray ++ (news.toArray ++ Builtin.zeroCells z.cells (cap - (n + m)))) e (0, 0) cap sz (n + m) (by
    cases t with
    | none => exact .inr rfl
    | some i => exact .inl (by omega)) hcap hsize (fun o _ => by simp)
  have hfx := flat_length hxs
  have hfy := flat_length hys
  refine ⟨c', l1, i1, .ownt _ _ w.heap.size (n + m) cap sz _ (RepD.mk_lst (olds ++ news) (by simp [hxl, hyl]) hcap ?_ ?_ ?_ ?_ ?_) htk (Nat.le_refl _) (fun _ => ⟨rfl, rfl, rfl⟩)⟩
  · intro x hx
    rcases List.mem_append.1 hx with h | h
    · exact hxs x h
    · exact hys x h
  · intro x hx
    rw [flat_append] at hx
    rcases List.mem_append.1 hx with h | h
    · exact hx1 x h
    · exact hy1 x h
  · rw [flat_append]
    simp only [List.length_append, hfx, hfy, hol, hnl, hxl, hyl]
  · intro j u hu
    have hj : j < (olds ++ news).length := (List.getElem?_eq_some_iff.1 hu).1
    have hj' : j < (n + m) * sz := by
      rw [Nat.add_mul]
      simp [hol, hnl] at hj
      exact hj
    have h2 := hmem j hj'
    have hh : c'.mem w.heap.size (0 + j) = c'.mem w.drew.heap.size j := by rw [Nat.zero_add]; rfl
    rw [hh, h2, ← hu]
    have e1 : (olds.toArray ++ (news.toArray ++ Builtin.zeroCells z.cells (cap - (n + m))))[j]? = ((olds ++ news) ++ (Builtin.zeroCells z.cells (cap - (n + m))).toList)[j]? := by
      rw [← Array.getElem?_toList]
      simp
    rw [e1, List.getElem?_append_left hj]
  · intro i hi hi'
    have hi2 : i < (flat xs ++ flat ys).length := by rw [flat_append] at hi'; exact hi'
    have e0 : (flat (xs ++ ys))[i] = (flat xs ++ flat ys)[i]'hi2 := by simp [flat_append]
    rw [e0]
    by_cases hlt : i < olds.length
    · have hlt' : i < (flat xs).length := by rw [hfx, hxl, ← hol]; exact hlt
      rw [List.getElem_append_left hlt, List.getElem_append_left hlt']
      exact (hxr i hlt hlt').mono l1.mem
    · have hle : (flat xs).length ≤ i := by rw [hfx, hxl, ← hol]; omega
      have he : (flat xs).length = olds.length := by rw [hfx, hxl, ← hol]
      rw [List.getElem_append_right (by omega), List.getElem_append_right hle]
      have h3 : i - olds.length < news.length := by simp at hi; omega
      have h4 : i - olds.length < (flat ys).length := by rw [hfy, hyl, ← hnl]; exact h3
      have h5 := (hyr (i - olds.length) h3 h4).mono l1.mem
      have h6 : (flat ys)[i - (flat xs).length]'(by rw [he]; exact h4) = (flat ys)[i - olds.length] := by congr 1; rw [he]
      rw [h6]
      exact h5
theorem own_app {x y : Operand} {t' tx e : TypeId} {z : Value} {sz bytes : Nat} {t : Option Nat} {xs ys : List DV} (ht : P.underlying t' = some (.slice e)) (hi : tInfo P e z sz bytes) (hx : App (E x) t sz xs) (hy : Adds P tx (E y) sz ys) (hok : H.ok t xs.length)
    (B : Nat) (w0 : World) (c : Ctx) (w : World) (a : Act) (hI : Inv B w0 c H w) (hops : ∀ u ∈ (Op.call ⟨.builtin .append, #[x, y], #[t', tx]⟩).operands, Rep c (a.eval u) (E u)) :
    ∃ W : Nat → Nat → Prop, Sem.Wr P W (execOp a.eval ⟨dst, .call ⟨.builtin .append, #[x, y], #[t', tx]⟩, ty, pos, after, gd⟩) ∧ ∀ b j, W b j → c.mem b j = none ∧ ∃ cs t fr, w.heap[b]? = some (.cells cs t fr) := by
  have q1 := hops x (by simp [Op.operands, Call.operands])
  have hX : (∃ e, P.underlying tx = some (.slice e)) ∨ P.underlying tx = some .string := by
    generalize E y = vy at hy
    cases hy with
    | list v sz ys e' ht' h => exact .inl ⟨e', ht'⟩
    | str l ht' => exact .inr ht'
  have none : ∀ ad n, a.eval x = .slice ad n n → ∃ W : Nat → Nat → Prop, Sem.Wr P W (execOp a.eval ⟨dst, .call ⟨.builtin .append, #[x, y], #[t', tx]⟩, ty, pos, after, gd⟩) ∧ ∀ b j, W b j → c.mem b j = .none ∧ ∃ cs t fr, w.heap[b]? = some (.cells cs t fr) := fun ad n ev =>
    ⟨fun _ _ => False, wr_appOp ht hX fun b m k h hlt => by rw [ev] at h; cases h; omega, fun _ _ h => h.elim⟩
  generalize hE : E x = v at hx q1
  generalize hv : a.eval x = ev at q1
  cases hx with
  | nil sz =>
    have := q1.v_eq
    exact none .none 0 (by rw [hv, this])
  | own t sz xs =>
    cases q1 with
    | own0 => exact none .none 0 hv
    | own1 g o n _ _ h => exact none _ _ hv
    | ownt i tk g n cap _ _ h htk hn he =>
      obtain ⟨p1, _⟩ := hI.tok i tk htk
      have hm : tk.mark = xs.length := by
        have := hok i rfl
        rw [p1] at this
        exact Option.some.inj this
      have hnl : n = xs.length := by
        have := h.lst_len
        omega
      obtain ⟨rfl, rfl, rfl⟩ := he (by omega)
      refine ⟨fun b j => b = tk.g ∧ tk.mark * tk.sz ≤ j, wr_appOp ht hX fun b m k h' hlt ad had zz hz j => ?_, hI.ownT htk⟩
      rw [hv] at h'
      cases h'
      cases had
      obtain ⟨inf, hinf, _, hs0, _⟩ := hi.get
      rw [hinf] at hz
      cases hz
      refine ⟨rfl, ?_⟩
      show tk.mark * tk.sz ≤ 0 + n * inf.size + j
      rw [hs0, hm, ← hnl]
      omega
theorem op_append {x y : Operand} {t' tx e : TypeId} {z : Value} {sz bytes : Nat} {t : Option Nat} {xs ys : List DV} (ht : P.underlying t' = some (.slice e)) (hi : tInfo P e z sz bytes) (hzs : z.cells.size = sz) (hx : App (E x) t sz xs) (hy : Adds P tx (E y) sz ys)
    (hok : H.ok t xs.length) (hne : 0 < ys.length) (hb : (xs.length + ys.length) * bytes ≤ 140737488355328) (hn : xs.length + ys.length ≤ 140737488355328) :
    OpR P ⟨dst, .call ⟨.builtin .append, #[x, y], #[t', tx]⟩, ty, pos, after, gd⟩ E H (Ret (.own (some (H.tk t)) sz (xs ++ ys)) (H.up t (xs.length + ys.length))) :=
  opR_value (hw := own_app ht hi hx hy hok) fun B w0 c w a hI hops => by
    have q1 := hops x (by simp [Op.operands, Call.operands])
    have q2 := hops y (by simp [Op.operands, Call.operands])
    obtain ⟨news, hsrc, hnl, hnf, hys, hy1, hone, hyr⟩ := hy.src hI q2
    have hrun : ∀ r, (Builtin.append_ #[t', tx] ty #[a.eval x, a.eval y]).run P w = r → (execOp a.eval ⟨dst, .call ⟨.builtin .append, #[x, y], #[t', tx]⟩, ty, pos, after, gd⟩).run P w = r.andThen fun v w => .ok (.value v) w := by
      intro r hr
      simp [execOp, resolve, invoke, builtin, hr]
    have grow : ∀ (base : Option Addr) (n cap : Nat) (olds : List Value), a.eval x = .slice base n cap → n = xs.length → cap < n + ys.length → olds.length = n * sz → (∀ x ∈ xs, x.cells.length = sz) → (∀ x ∈ flat xs, x.one = true) →
        (∀ i (hi : i < olds.length) (hi' : i < (flat xs).length), RepD c.mem olds[i] (flat xs)[i]) → (∀ w', w'.heap = w.heap → (Builtin.firstCells sz n (.slice base n cap)).run P w' = .ok olds.toArray w') →
        ∃ v' w' c' av H', (execOp a.eval ⟨dst, .call ⟨.builtin .append, #[x, y], #[t', tx]⟩, ty, pos, after, gd⟩).run P w = .ok (.value v') w' ∧ Le c c' ∧ Rep c' v' av ∧ Inv B w0 c' H' w' ∧
          Ret (.own (some (H.tk t)) sz (xs ++ ys)) (H.up t (xs.length + ys.length)) av H' := by
      intro base n cap olds hev hn' hcap hol hxs hx1 hxr hold
      subst hn'
      have hr := run_app_grow w t' tx ty e z sz bytes ht hi (a.eval y) ys.length news hsrc base xs.length cap olds hold hcap hb hn
      rw [← hev] at hr
      obtain ⟨c', l1, i1, r1⟩ := app_grown hI t e z sz xs.length ys.length (grownCap w (xs.length + ys.length) cap e) hzs xs ys olds news hok hne rfl rfl hol hnl hxs hys hx1 hy1 hxr hyr (grownCap_ge _ _ _ _)
      exact ⟨_, _, c', _, _, hrun _ hr, l1, r1, i1, rfl, rfl⟩
    have atNil : xs = [] → a.eval x = .slice none 0 0 → _ := fun hxs hev => grow none 0 0 [] hev (by simp [hxs]) (by omega) (by simp) (by simp [hxs]) (by simp [hxs, flat]) (by simp) (fun w' _ => by simp [Builtin.firstCells])
    cases hE : E x with
    | d dv =>
      rw [hE] at hx
      cases hx with
      | nil sz =>
        rw [hE] at q1
        exact atNil rfl q1.v_eq
    | own t'' sz'' xs'' =>
      rw [hE] at hx q1
      cases hx with
      | own =>
      generalize hev : a.eval x = X at q1
      cases q1 with
      | own0 => exact atNil rfl hev
      | own1 g o n _ _ h =>
        obtain ⟨h1, h2, h3, h4, us, h5, h6, h7, h8, h9⟩ := h.lst_cells hI
        refine grow _ n n us hev h1.symm (by omega) h5 h3 h4 h7 ?_
        rcases h9 with h9 | ⟨g', o', he, h9⟩
        · have : us = [] := List.eq_nil_of_length_eq_zero (by rw [h5, h9, Nat.zero_mul])
          subst this
          intro w' _
          rw [h9]
          simp [Builtin.firstCells, loadCells, loadCellsFrom]
        · cases he
          exact firstCells_of h5 fun j u hu => (h9 j u hu).2
      | ownt i e1 g n cap _ _ h htk hnm heq =>
        obtain ⟨h1, h2, h3, h4, us, h5, h6, h7, h8, h9⟩ := h.lst_cells hI
        have hmark : e1.mark = xs.length := by
          have := (hI.tok i e1 htk).1
          rw [hok i rfl] at this
          exact (Option.some.inj this).symm
        obtain ⟨he1, he2, he3⟩ := heq (by rw [hmark, h1])
        by_cases hroom : n + ys.length ≤ cap
        · obtain ⟨p1, p2, p3, p4, p5, cur, et, fr, p6, p7, p8⟩ := hI.tok i e1 htk
          have hnl' : news.length = ys.length * e1.sz := by rw [he3]; exact hnl
          obtain ⟨c', l1, i1, hm', htk', _⟩ := hI.growTok i e1 htk cur et fr p6 news ys.length hnl' hne (by rw [hmark, he2, h1]; exact hroom)
          have hfit : n * sz + news.length ≤ cur.size := by
            rw [hnl, p7, he2, he3, ← Nat.add_mul]
            exact Nat.mul_le_mul_right _ hroom
          have hput : e1.mark * e1.sz = n * sz := by rw [hmark, he3, h1]
          rw [he1, hput] at i1
          rw [he1] at p6
          have hr : (Builtin.append_ #[t', tx] ty #[.slice (some ⟨g, 0, none⟩) n cap, a.eval y]).run P w = .ok (.slice (some ⟨g, 0, none⟩) (n + ys.length) cap) (w.setRow g (putA cur (n * sz) news)) := by
            obtain ⟨hd', hlen', hf'⟩ := hsrc
            obtain ⟨inf, hinf, hz0, hsz0, hby0⟩ := hi.get
            subst hsz0
            have hst := run_storeCells_fr P g (n * inf.size) et fr news 0 cur w p6 p8 (by simpa using hfit) hone
            simp only [Nat.add_zero] at hst
            have hadd : (⟨g, 0, none⟩ : Addr).add (n * inf.size) = ⟨g, n * inf.size, none⟩ := by rw [addr_add]; simp
            have hso : ∀ w, (sizeOf e).run P w = .ok inf.size w := fun w => by simp [sizeOf, typeInfo, hinf]
            rcases hd' with hd' | ⟨e', hd'⟩ <;> simp [Builtin.append_, run_underlying ht, run_underlying hd', hso, hlen', hroom, hf' w rfl, hadd, hst]
          rw [← hev] at hr
          rw [hmark] at i1
          refine ⟨_, _, c', _, _, hrun _ hr, l1, ?_, i1, rfl, rfl⟩
          have hfx := flat_length h3
          have hfy := flat_length hys
          refine .ownt i _ g (n + ys.length) cap sz _ (RepD.mk_lst (us ++ news) (by simp [h1]) hroom ?_ ?_ ?_ ?_ ?_) htk' (by show n + ys.length ≤ e1.mark + ys.length; omega) (fun _ => ⟨he1, he2, he3⟩)
          · intro x hx
            rcases List.mem_append.1 hx with h | h
            · exact h3 x h
            · exact hys x h
          · intro x hx
            rw [flat_append] at hx
            rcases List.mem_append.1 hx with h | h
            · exact h4 x h
            · exact hy1 x h
          · rw [flat_append]
            simp only [List.length_append, h6, hnf]
          · intro j u hu
            by_cases hlt : j < us.length
            · rw [List.getElem?_append_left hlt] at hu
              rcases h9 with h9 | ⟨g', o', he, h9⟩
              · rw [h5, h9, Nat.zero_mul] at hlt; omega
              · cases he
                exact l1.mem _ _ _ (h9 j u hu).1
            · rw [List.getElem?_append_right (by omega)] at hu
              have := hm' _ u hu
              rw [he1, hput, ← h5, show us.length + (j - us.length) = 0 + j by omega] at this
              exact this
          · intro i2 hi1 hi2
            have hi3 : i2 < (flat xs ++ flat ys).length := by rw [flat_append] at hi2; exact hi2
            have e0 : (flat (xs ++ ys))[i2] = (flat xs ++ flat ys)[i2]'hi3 := by simp [flat_append]
            rw [e0]
            by_cases hlt : i2 < us.length
            · have hlt' : i2 < (flat xs).length := by rw [← h6]; exact hlt
              rw [List.getElem_append_left hlt, List.getElem_append_left hlt']
              exact (h7 i2 hlt hlt').mono l1.mem
            · have hle : (flat xs).length ≤ i2 := by rw [← h6]; omega
              rw [List.getElem_append_right (by omega), List.getElem_append_right hle]
              have h10 : i2 - us.length < news.length := by simp at hi1; omega
              have h11 : i2 - us.length < (flat ys).length := by rw [← hnf]; exact h10
              have h12 := (hyr (i2 - us.length) h10 h11).mono l1.mem
              have h13 : (flat ys)[i2 - (flat xs).length]'(by rw [← h6]; exact h11) = (flat ys)[i2 - us.length] := by congr 1; rw [← h6]
              rw [h13]
              exact h12
        · refine grow _ n cap us hev h1.symm (by omega) h5 h3 h4 h7 ?_
          rcases h9 with h9 | ⟨g', o', he, h9⟩
          · have : us = [] := List.eq_nil_of_length_eq_zero (by rw [h5, h9, Nat.zero_mul])
            subst this
            intro w' _
            rw [h9]
            simp [Builtin.firstCells, loadCells, loadCellsFrom]
          · cases he
            exact firstCells_of h5 fun j u hu => (h9 j u hu).2
    | un => rw [hE] at hx; cases hx
    | nv => rw [hE] at hx; cases hx
    | elt => rw [hE] at hx; cases hx
    | ptr => rw [hE] at hx; cases hx
    | arr => rw [hE] at hx; cases hx
    | sub => rw [hE] at hx; cases hx
    | agg => rw [hE] at hx; cases hx
    | tup => rw [hE] at hx; cases hx
    | fn => rw [hE] at hx; cases hx
    | map => rw [hE] at hx; cases hx
    | iter => rw [hE] at hx; cases hx
theorem own_app0 {x y : Operand} {t' tx e : TypeId} {sz : Nat} (ht : P.underlying t' = some (.slice e)) (hy : Adds P tx (E y) sz [])
    (B : Nat) (w0 : World) (c : Ctx) (w : World) (a : Act) (hI : Inv B w0 c H w) (hops : ∀ u ∈ (Op.call ⟨.builtin .append, #[x, y], #[t', tx]⟩).operands, Rep c (a.eval u) (E u)) :
    ∃ W : Nat → Nat → Prop, Sem.Wr P W (execOp a.eval ⟨dst, .call ⟨.builtin .append, #[x, y], #[t', tx]⟩, ty, pos, after, gd⟩) ∧ ∀ b j, W b j → c.mem b j = none ∧ ∃ cs t fr, w.heap[b]? = some (.cells cs t fr) := by
  have q2 := hops y (by simp [Op.operands, Call.operands])
  obtain ⟨news, ⟨hd', hlen', hf'⟩, _⟩ := hy.src hI q2
  have h0 : Builtin.lenOf (a.eval y) = Pure.pure 0 := len_zero (P := P) (w := w) (by simpa using hlen' w)
  exact ⟨fun _ _ => False, wr_appOp0 ht hd'.symm h0, fun _ _ h => h.elim⟩
theorem op_append0 {x y : Operand} {t' tx e : TypeId} {z : Value} {sz bytes : Nat} {xs : List DV} (ht : P.underlying t' = some (.slice e)) (hi : tInfo P e z sz bytes) (hx : LL (E x) sz xs) (hy : Adds P tx (E y) sz []) :
    OpR P ⟨dst, .call ⟨.builtin .append, #[x, y], #[t', tx]⟩, ty, pos, after, gd⟩ E H (Ret (E x) H) :=
  opR_value (hw := own_app0 ht hy) fun B w0 c w a hI hops => by
    have q1 := hops x (by simp [Op.operands, Call.operands])
    have q2 := hops y (by simp [Op.operands, Call.operands])
    obtain ⟨news, ⟨hd', hlen', hf'⟩, hnl, _⟩ := hy.src hI q2
    have hn : news = [] := List.eq_nil_of_length_eq_zero (by simpa using hnl)
    subst hn
    obtain ⟨ad, n, cap, e1, h⟩ := hx.rep q1
    have hl := h.lst_len
    refine ⟨a.eval x, w, c, _, H, ?_, Le.refl c, q1, hI, rfl, rfl⟩
    obtain ⟨inf, hinf, hz0, hsz0, hby0⟩ := hi.get
    subst hsz0
    have hso : ∀ w, (sizeOf e).run P w = .ok inf.size w := fun w => by simp [sizeOf, typeInfo, hinf]
    have hr : (Builtin.append_ #[t', tx] ty #[.slice ad n cap, a.eval y]).run P w = .ok (.slice ad n cap) w := by
      have hf0 := hf' w rfl
      have hl0 := hlen'
      simp only [List.length_nil] at hf0 hl0
      cases ad <;> rcases hd' with hd' | ⟨e', hd'⟩ <;> simp [Builtin.append_, run_underlying ht, run_underlying hd', hso, hl0, hl.2, hf0, storeCells]
    simp [execOp, resolve, invoke, builtin, e1, hr]
end
end
end Go.AV
namespace Go.AV
open Go.RowKit
def AV.known : AV → Bool
  | .un => false
  | _ => true
theorem AV.known_ne {v : AV} (h : v.known = true) : v ≠ .un := by intro e; subst e; cases h
def putV : Array Value → Nat → List Value → Array Value
  | cs, _, [] => cs
  | cs, k, v :: vs => putV (cs.setIfInBounds k v) (k + 1) vs
theorem foldl_putV (off : Nat) : ∀ (l : List Value) (k : Nat) (cells : Array Value), (l.zipIdx k).foldl (fun cs (p : Value × Nat) => cs.setIfInBounds (off + p.2) p.1) cells = putV cells (off + k) l
  | [], _, _ => rfl
  | v :: l, k, cells => by
    rw [List.zipIdx_cons, List.foldl_cons, foldl_putV off l (k + 1)]
    rfl
structure Cells (c : Ctx) (vs : Array Value) (cs : List AV) : Prop where
  size : vs.size = cs.length
  at_ : ∀ i (hi : i < cs.length), Rep c (vs.getD i undef) cs[i]
theorem Cells.put {c : Ctx} : ∀ {l : List Value} {m : List AV} {vs : Array Value} {cs : List AV} {k : Nat}, Cells c vs cs → l.length = m.length → (∀ i (hi : i < m.length), Rep c (l.getD i undef) m[i]) → Cells c (putV vs k l) (putL cs k m)
  | [], [], _, _, _, h, _, _ => h
  | v :: l, x :: m, vs, cs, k, h, hl, hr => by
    refine Cells.put (l := l) (m := m) ⟨by simp [h.size], fun i hi => ?_⟩ (by simpa using hl) (fun i hi => by
      have := hr (i + 1) (by simp; omega)
      simpa using this)
    have hi' : i < cs.length := by simpa using hi
    have hi2 : i < vs.size := by rw [h.size]; exact hi'
    by_cases hik : k = i
    · subst hik
      have h0 := hr 0 (by simp)
      simp [hi2]
      simpa using h0
    · have := h.at_ i hi'
      rw [Array.getD_eq_getD_getElem?] at this ⊢
      rw [Array.getElem?_setIfInBounds_ne hik]
      simpa [List.getElem_set_ne hik] using this
  | [], _ :: _, _, _, _, _, hl, _ => by simp at hl
  | _ :: _, [], _, _, _, _, hl, _ => by simp at hl
def fillA (place : Nat → Option (Nat × Nat)) : List AV → List (Nat × List AV) → Option (List AV)
  | cs, [] => some cs
  | cs, (i, v) :: rest =>
    match place i with
    | none => none
    | some (off, size) => if v.length = size then if off + v.length ≤ cs.length then fillA place (putL cs off v) rest else none else none
theorem fill_rep {c : Ctx} {place : Nat → Option (Nat × Nat)} : ∀ (ps : List (Nat × List AV)) (parts : List (Nat × Value)) (vs : Array Value) (cs cs' : List AV), Cells c vs cs → parts.length = ps.length →
    (∀ j (hj : j < parts.length) (hj' : j < ps.length), parts[j].1 = ps[j].1 ∧ Cells c parts[j].2.cells ps[j].2) → fillA place cs ps = some cs' → ∃ vs', Instr.fill place vs parts = some vs' ∧ Cells c vs' cs'
  | [], [], vs, cs, cs', h, _, _, hf => by
    simp [fillA] at hf
    subst hf
    exact ⟨vs, rfl, h⟩
  | (i, m) :: ps, (i', v) :: parts, vs, cs, cs', h, hl, hp, hf => by
    obtain ⟨e1, e2⟩ := hp 0 (by simp) (by simp)
    simp at e1 e2
    subst e1
    simp only [fillA] at hf
    cases hpl : place i' with
    | none => rw [hpl] at hf; cases hf
    | some os =>
      obtain ⟨off, size⟩ := os
      rw [hpl] at hf
      simp only [] at hf
      by_cases h1 : m.length = size
      · rw [if_pos h1] at hf
        by_cases h2 : off + m.length ≤ cs.length
        · rw [if_pos h2] at hf
          have hc := Cells.put (k := off) h (l := v.cells.toList) (m := m) (by simpa using e2.size) (fun i hi => by
            have := e2.at_ i hi
            have hi2 : i < v.cells.size := by rw [e2.size]; exact hi
            simpa [hi2] using this)
          obtain ⟨vs', q1, q2⟩ := fill_rep ps parts _ _ cs' hc (by simpa using hl) (fun j hj hj' => by
            have := hp (j + 1) (by simp; omega) (by simp; omega)
            simpa using this) hf
          refine ⟨vs', ?_, q2⟩
          have hfold : v.cells.zipIdx.foldl (fun cs (p : Value × Nat) => cs.setIfInBounds (off + p.2) p.1) vs = putV vs off v.cells.toList := by
            rw [← Array.foldl_toList, Array.toList_zipIdx, foldl_putV]
            rfl
          simp only [Instr.fill, hpl]
          rw [if_neg (by
            simp only [Bool.or_eq_true, decide_eq_true_eq, not_or, ne_eq]
            have := e2.size
            have := h.size
            omega)]
          rw [← q1, ← hfold]
        · rw [if_neg h2] at hf; cases hf
      · rw [if_neg h1] at hf; cases hf
  | [], _ :: _, _, _, _, _, hl, _, _ => by simp at hl
  | _ :: _, [], _, _, _, _, hl, _, _ => by simp at hl
def places (P : Program) : List Field → Option (List (Nat × Nat))
  | [] => some []
  | f :: fs => match P.info? f.type, places P fs with
    | some i, some r => some ((f.offset, i.size) :: r)
    | _, _ => none
theorem run_places {P : Program} : ∀ (fs : List Field) (pl : List (Nat × Nat)), places P fs = some pl → ∀ w, (fs.mapM fun f => (do pure (f.offset, ← sizeOf f.type) : Sem (Nat × Nat))).run P w = .ok pl w
  | [], pl, h, w => by simp [places] at h; subst h; rfl
  | f :: fs, pl, h, w => by
    simp only [places] at h
    cases hi : P.info? f.type with
    | none => rw [hi] at h; cases h
    | some i =>
      rw [hi] at h
      cases hr : places P fs with
      | none => rw [hr] at h; cases h
      | some r =>
        rw [hr] at h
        simp at h
        subst h
        have ih := run_places fs r hr w
        have hs : (sizeOf f.type).run P w = .ok i.size w := by simp [sizeOf, typeInfo, hi]
        rw [List.mapM_cons]
        simp [hs]
        simp at ih
        rw [ih]
        rfl
section
variable {P : Program} [Wins P] {E : Operand → AV} {H : HS} {R : AV → HS → Prop} {dst : Option Tmp} {ty : TypeId} {pos : String} {after : Array Edge} {gd : Option (Nat × Bool)}
def evP (a : Act) (l : List (Nat × Operand)) : List (Nat × Value) := l.map fun p => (p.1, a.eval p.2)
theorem parts_cells {c : Ctx} {a : Act} {parts : Array (Nat × Operand)} {ps : List (Nat × List AV)} (hk : parts.toList.all (fun p => (E p.2).known) = true) (hps : parts.toList.map (fun p => (p.1, (E p.2).cells)) = ps) (hops : ∀ x ∈ (parts.toList.map (·.2)), Rep c (a.eval x) (E x)) :
    (evP a parts.toList).length = ps.length ∧ ∀ j (hj : j < (evP a parts.toList).length) (hj' : j < ps.length), ((evP a parts.toList)[j]).1 = ps[j].1 ∧ Cells c ((evP a parts.toList)[j]).2.cells ps[j].2 := by
  subst hps
  refine ⟨by simp [evP], fun j hj hj' => ?_⟩
  have hj2 : j < parts.toList.length := by simpa [evP] using hj
  simp only [evP, List.getElem_map]
  have hmem : parts.toList[j] ∈ parts.toList := List.getElem_mem hj2
  have h1 := hops _ (List.mem_map.2 ⟨_, hmem, rfl⟩)
  have h2 := List.all_eq_true.1 hk _ hmem
  obtain ⟨h3, h4⟩ := h1.cells (AV.known_ne h2)
  refine ⟨trivial, h3, h4⟩
theorem op_build {t : TypeId} {parts : Array (Nat × Operand)} {fs : Array Field} {z : Value} {pl : List (Nat × Nat)} {ps : List (Nat × List AV)} {cs : List AV} (ht : P.underlying t = some (.struct fs)) (hz : (P.info? t).map (·.zero) = some (some z)) (hpl : places P fs.toList = some pl)
    (hk : parts.toList.all (fun p => (E p.2).known) = true) (hps : parts.toList.map (fun p => (p.1, (E p.2).cells)) = ps) (hcs : fillA (fun i => pl[i]?) (z.cells.toList.map constAV) ps = some cs) :
    OpR P ⟨dst, .build t parts, ty, pos, after, gd⟩ E H (Ret (.agg cs) H) :=
  opR_pure fun c w a hm hops => by
    obtain ⟨inf, hi1, hi2⟩ := Option.map_eq_some_iff.1 hz
    obtain ⟨q1, q2⟩ := parts_cells (c := c) (a := a) hk hps (fun x hx => hops x (by simpa [Op.operands] using hx))
    obtain ⟨vs', f1, f2⟩ := fill_rep (c := c) ps (evP a parts.toList) z.cells (z.cells.toList.map constAV) cs ⟨by simp, const_cells z c⟩ q1 q2 hcs
    have hzv : ∀ w, (zeroValue t).run P w = .ok z w := fun w => by simp [zeroValue, typeInfo, hi1, hi2]
    have hpr := run_places (P := P) fs.toList pl hpl
    refine ⟨.agg vs', ?_, .agg _ _ f2.size f2.at_⟩
    have hfill : Instr.fill (fun i => pl.toArray[i]?) z.cells (parts.map fun p => (p.1, a.eval p.2)).toList = some vs' := by
      rw [Array.toList_map, ← f1]
      congr 1
      funext i
      simp
    have hmap : (fs.mapM fun f => (do pure (f.offset, ← sizeOf f.type) : Sem (Nat × Nat))).run P w = .ok pl.toArray w := by
      rw [Array.mapM_eq_mapM_toList]
      have := hpr w
      simp at this ⊢
      rw [this]
      rfl
    have hb : (Instr.build t (parts.map fun p => (p.1, a.eval p.2))).run P w = .ok (.agg vs') w := by
      unfold Instr.build
      rw [Sem.run_bind, hzv]
      simp only [Result.andThen_ok]
      rw [Sem.run_bind, run_underlying ht]
      simp only [Result.andThen_ok]
      rw [Sem.run_bind, hmap]
      simp only [Result.andThen_ok]
      rw [hfill]
      rfl
    simp [execOp, hb]
theorem rep_agg_d {c : Ctx} {x : Value} {ds : List DV} (h1 : ∀ d ∈ ds, d.one = true) (h : Rep c x (.agg (ds.map .d))) : Rep c x (.d (.agg ds)) := by
  cases h with
  | agg vs cs hl h =>
    refine .d (.agg vs ds (by simpa using hl) h1 fun i hi => ?_)
    have := h i (by simpa using hi)
    simp at this
    simpa using this.d_inv
theorem opR_weaken {o : Oper} {v v' : AV} {H' : HS} (h : OpR P o E H (Ret v H')) (hw : ∀ c x, Rep c x v → Rep c x v') : OpR P o E H (Ret v' H') := by
  intro B w0 c w a t hI hB hops b ops i rest k cs hk ho hwt hnext
  refine h B w0 c w a t hI hB hops b ops i rest k cs hk ho hwt ?_
  rintro x w' c' av H'' t' l1 r1 i1 s1 ⟨rfl, rfl⟩
  exact hnext x w' c' v' _ t' l1 (hw _ _ r1) i1 s1 ⟨rfl, rfl⟩
theorem op_buildD {t : TypeId} {parts : Array (Nat × Operand)} {fs : Array Field} {z : Value} {pl : List (Nat × Nat)} {ps : List (Nat × List AV)} (ds : List DV) (ht : P.underlying t = some (.struct fs)) (hz : (P.info? t).map (·.zero) = some (some z)) (hpl : places P fs.toList = some pl)
    (hk : parts.toList.all (fun p => (E p.2).known) = true) (hps : parts.toList.map (fun p => (p.1, (E p.2).cells)) = ps) (hcs : fillA (fun i => pl[i]?) (z.cells.toList.map constAV) ps = some (ds.map .d)) (h1 : ∀ d ∈ ds, d.one = true) :
    OpR P ⟨dst, .build t parts, ty, pos, after, gd⟩ E H (Ret (.d (.agg ds)) H) :=
  opR_weaken (op_build ht hz hpl hk hps hcs) fun _ _ h => rep_agg_d h1 h
theorem cells_un (c : Ctx) (vs : Array Value) : Cells c vs (List.replicate vs.size .un) := ⟨by simp, fun i hi => by simp; exact .un _⟩
theorem op_buildSlice {t e : TypeId} {len sz : Nat} {parts : Array (Nat × Operand)} {z : Value} {ps : List (Nat × List AV)} (ys : List DV) (ht : P.underlying t = some (.slice e)) (hz : (P.info? e).map (fun i => (i.zero, i.size)) = some (some z, sz))
    (hk : parts.toList.all (fun p => (E p.2).known) = true) (hps : parts.toList.map (fun p => (p.1, (E p.2).cells)) = ps) (hcs : fillA (fun i => some (i * sz, sz)) (List.replicate (len * sz) .un) ps = some ((flat ys).map .d)) (hl : ys.length = len) (hy : ∀ y ∈ ys, y.cells.length = sz)
    (h1 : ∀ d ∈ flat ys, d.one = true) (hsm : len * sz ≤ 16777216) : OpR P ⟨dst, .buildSlice t len parts, ty, pos, after, gd⟩ E H (Ret (.own none sz ys) H) :=
  opR_value fun B w0 c w a hI hops => by
    obtain ⟨inf, hi1, hi2⟩ := Option.map_eq_some_iff.1 hz
    simp only [Prod.mk.injEq] at hi2
    obtain ⟨hi2, hi3⟩ := hi2
    obtain ⟨q1, q2⟩ := parts_cells (c := c) (a := a) hk hps (fun x hx => hops x (by simpa [Op.operands] using hx))
    have hzv : ∀ w, (zeroValue e).run P w = .ok z w := fun w => by simp [zeroValue, typeInfo, hi1, hi2]
    have hso : ∀ w, (sizeOf e).run P w = .ok sz w := fun w => by simp [sizeOf, typeInfo, hi1, hi3]
    have run : ∀ (zero : Array Value), ((Array.range (len * sz)).map (zero[· % zero.size]!)).size = len * sz → ∃ vs', Instr.fill (fun i => some (i * sz, sz)) ((Array.range (len * sz)).map (zero[· % zero.size]!)) (parts.map fun p => (p.1, a.eval p.2)).toList = some vs' ∧ Cells c vs' ((flat ys).map .d) := by
      intro zero hs
      have hc := cells_un c ((Array.range (len * sz)).map (zero[· % zero.size]!))
      rw [hs] at hc
      obtain ⟨vs', f1, f2⟩ := fill_rep (c := c) ps (evP a parts.toList) _ _ _ hc q1 q2 hcs
      exact ⟨vs', by rw [Array.toList_map]; exact f1, f2⟩
    have hbs : ∃ vs', (Instr.buildSlice t len (parts.map fun p => (p.1, a.eval p.2))).run P w = .ok (.slice (some ⟨w.heap.size, 0, none⟩) len len) (w.alloc (.cells vs' e)) ∧ Cells c vs' ((flat ys).map .d) := by
      unfold Instr.buildSlice
      rw [Sem.run_bind, run_underlying ht]
      simp only [Result.andThen_ok]
      rw [Sem.run_bind, hso]
      simp only [Result.andThen_ok]
      have hsm' : ¬ (len * sz > 2 ^ 24) := by omega
      rw [if_neg hsm']
      by_cases h0 : len * sz = 0
      · rw [if_pos h0]
        obtain ⟨vs', f1, f2⟩ := run #[] (by simp)
        refine ⟨vs', ?_, f2⟩
        simp only [Sem.run_bind, Sem.run_pure, Result.andThen_ok]
        rw [f1]
        simp [newRow]
      · rw [if_neg h0]
        obtain ⟨vs', f1, f2⟩ := run z.cells (by simp)
        refine ⟨vs', ?_, f2⟩
        simp only [Sem.run_bind, Sem.run_pure, Result.andThen_ok, hzv]
        rw [f1]
        simp [newRow]
    obtain ⟨vs', hr, hc⟩ := hbs
    have hfl := flat_length hy
    have hvl : vs'.size = len * sz := by rw [hc.size]; simp [hfl, hl]
    obtain ⟨i1, l1⟩ := hI.allocProt vs' e (0, 0) vs'.size (Nat.le_refl _)
    refine ⟨_, _, _, _, _, ?_, l1, .own1 w.heap.size 0 len sz ys (RepD.mk_lst vs'.toList hl (Nat.le_refl _) hy h1 (by simp [hvl, hfl, hl]) (fun j u hu => ?_) (fun i hi hi' => ?_)), i1, rfl, rfl⟩
    · simp [execOp, hr]
    · have hj : j < vs'.size := by have := (List.getElem?_eq_some_iff.1 hu).1; simpa using this
      show (if w.heap.size = w.heap.size ∧ 0 + j < vs'.size then some (vs'.getD (0 + j) undef) else _) = _
      rw [if_pos ⟨rfl, by omega⟩, ← hu]
      simp [hj]
    · have h2 := hc.at_ i (by simpa using hi')
      have hi2 : i < vs'.size := by simpa using hi
      simp [hi2] at h2
      simpa using (h2.d_inv).mono l1.mem
end
end Go.AV
namespace Go.AV
open Go.RowKit
theorem App.ll {v : AV} {t : Option Nat} {sz : Nat} {xs : List DV} (h : App v t sz xs) : LL v sz xs := by
  cases h with
  | own => exact .own _ _ _
  | nil => exact .nil _
structure Heir (H : HS) (t : Option Nat) (H' : HS) (t' : Option Nat) : Prop where
  up : ∀ n, H'.up t' n = H.up t n
  tk : H'.tk t' = H.tk t
theorem Heir.refl (H : HS) (t : Option Nat) : Heir H t H t := ⟨fun _ => rfl, rfl⟩
theorem Heir.step {H H' : HS} {t t' : Option Nat} (h : Heir H t H' t') (n : Nat) : Heir H t (H'.up t' n) (some (H'.tk t')) := ⟨fun m => by rw [HS.up_up]; exact h.up m, by rw [HS.tk_some]; exact h.tk⟩
theorem Heir.trans {H H' H'' : HS} {t t' t'' : Option Nat} (h : Heir H t H' t') (k : Heir H' t' H'' t'') : Heir H t H'' t'' := ⟨fun n => (k.up n).trans (h.up n), k.tk.trans h.tk⟩
structure Bytes (H : HS) (t : Option Nat) (v : AV) (H' : HS) (l : List UInt8) : Prop where
  ex : ∃ t', App v t' 1 (l.map BY) ∧ Heir H t H' t' ∧ H'.ok t' l.length
theorem Bytes.own {H : HS} {t : Option Nat} {v : AV} {l : List UInt8} (h : App v t 1 (l.map BY)) (hok : H.ok t l.length) : Bytes H t v H l := ⟨⟨t, h, Heir.refl _ _, hok⟩⟩
abbrev ownB (H : HS) (t : Option Nat) (l : List UInt8) : AV := .own (some (H.tk t)) 1 (l.map BY)
abbrev upB (H : HS) (t : Option Nat) (l : List UInt8) : HS := H.up t l.length
def Grew (H : HS) (t : Option Nat) (v0 : AV) (bs : List UInt8) (v : AV) (H' : HS) (ys : List UInt8) : Prop := (ys = [] ∧ v = v0 ∧ H' = H) ∨ (v = ownB H t (bs ++ ys) ∧ H' = upB H t (bs ++ ys))
theorem Grew.none (H : HS) (t : Option Nat) (v0 : AV) (bs : List UInt8) : Grew H t v0 bs v0 H [] := .inl ⟨rfl, rfl, rfl⟩
theorem Grew.mk {H H' : HS} {t t' : Option Nat} {v0 : AV} {bs ys : List UInt8} {xs : List DV} {n : Nat} (hh : Heir H t H' t') (hx : xs = (bs ++ ys).map BY) (hn : n = (bs ++ ys).length) : Grew H t v0 bs (.own (some (H'.tk t')) 1 xs) (H'.up t' n) ys :=
  .inr ⟨by rw [hh.tk, hx], by rw [hh.up, hn]⟩
theorem Grew.use {H H' : HS} {t : Option Nat} {v0 v : AV} {bs ys : List UInt8} (h : Grew H t v0 bs v H' ys) (hv : App v0 t 1 (bs.map BY)) (hok : H.ok t bs.length) : ∃ t', App v t' 1 ((bs ++ ys).map BY) ∧ Heir H t H' t' ∧ H'.ok t' (bs ++ ys).length := by
  rcases h with ⟨rfl, rfl, rfl⟩ | ⟨rfl, rfl⟩
  · exact ⟨t, by simpa using hv, Heir.refl _ _, by simpa using hok⟩
  · exact ⟨_, .own _ _ _, (Heir.refl H t).step _, HS.ok_up H t _ hok⟩
theorem Grew.ret {H H' : HS} {t : Option Nat} {v0 v : AV} {bs ys : List UInt8} (h : Grew H t v0 bs v H' ys) (hne : ys ≠ []) : v = ownB H t (bs ++ ys) ∧ H' = upB H t (bs ++ ys) := by
  rcases h with ⟨rfl, _⟩ | h
  · exact absurd rfl hne
  · exact h
theorem okB (H : HS) (t : Option Nat) {m : Nat} (l : List UInt8) (h : H.ok t m) : (upB H t l).ok (some (H.tk t)) l.length := HS.ok_up H t _ h
theorem up_upB (H : HS) (t : Option Nat) (l m : List UInt8) : upB (upB H t l) (some (H.tk t)) m = upB H t m := HS.up_up H t _ _
theorem Rep.fits {c : Ctx} {x : Value} {y : AV} (h : Rep c x y) : Fits c.blk.length c.tok.length y := by
  induction h with
  | un x => exact .un
  | nv => exact .nv
  | d h => exact .d _
  | own0 sz => exact .own0 _ _
  | own1 g o n sz xs h => exact .own0 _ _
  | ownt i e g n cap sz xs h ht hn he => exact .own _ _ _ (List.getElem?_eq_some_iff.1 ht).1
  | elt g o cs us h1 hm h => exact .elt _
  | ptr id off g h => exact .ptr _ _ (List.getElem?_eq_some_iff.1 h).1
  | arr id n cap g h => exact .arr _ _ _ (List.getElem?_eq_some_iff.1 h).1
  | sub id off n cap g h => exact .sub _ _ _ _ (List.getElem?_eq_some_iff.1 h).1
  | agg vs cs hl _ ih => exact .agg _ ih
  | tup vs cs hl _ ih => exact .tup _ ih
  | fn f fs cs fs' cs' hl _ hl' _ _ ih ih' => exact .fn _ _ _ ih ih'
  | yld l idx hm =>
    refine .fn _ _ _ (fun i hi => by simp at hi) fun i hi => ?_
    have : i = 0 := by simp at hi; omega
    subst this
    exact .iter _
  | map id g h => exact .map _
  | iter id g h => exact .iter _
theorem Inv.mfits {B : Nat} {w0 w : World} {c : Ctx} {H : HS} (h : Inv B w0 c H w) : MFits H.blks.length H.toks.length H := by
  intro i ps asg bd st pend T hm j hj
  have hlt : i < c.maps.length := by rw [h.maps.len]; exact (List.getElem?_eq_some_iff.1 hm).1
  obtain ⟨_, q⟩ := h.maps.is i _ _ (List.getElem?_eq_getElem hlt) hm
  cases q with
  | recd _ fn D tmps _ _ _ _ _ _ hw hs hT =>
    have := (hT j hj).fits
    rwa [h.blkLen, h.tokLen] at this
theorem HS.up_maps (H : HS) (t : Option Nat) (n : Nat) : (H.up t n).maps = H.maps := by cases t <;> rfl
structure Ext (H H' : HS) : Prop where
  blks : ∃ l, H'.blks = H.blks ++ l
  toks : ∃ l, H'.toks = H.toks ++ l
  maps : H'.maps = H.maps
  x : H'.x = H.x
theorem Ext.refl (H : HS) : Ext H H := ⟨⟨[], by simp⟩, ⟨[], by simp⟩, rfl, rfl⟩
theorem Ext.trans {a b c : HS} (h : Ext a b) (k : Ext b c) : Ext a c := by
  obtain ⟨⟨l1, h1⟩, ⟨l2, h2⟩, hm, hx⟩ := h
  obtain ⟨⟨l3, h3⟩, ⟨l4, h4⟩, km, kx⟩ := k
  exact ⟨⟨l1 ++ l3, by rw [h3, h1, List.append_assoc]⟩, ⟨l2 ++ l4, by rw [h4, h2, List.append_assoc]⟩, km.trans hm, kx.trans hx⟩
theorem Ext.push {H H' : HS} (h : Ext H H') (e : TypeId) (cs : List AV) : Ext H (H'.push e cs) := h.trans ⟨⟨[⟨e, cs, false⟩], rfl⟩, ⟨[], by simp [HS.push]⟩, rfl, rfl⟩
theorem Ext.new {H H' : HS} (h : Ext H H') (n : Nat) : Ext H (H'.up none n) := h.trans ⟨⟨[], by simp [HS.up]⟩, ⟨[n], rfl⟩, rfl, rfl⟩
theorem Ext.up {H H' : HS} (h : Ext H H') {i : Nat} (hi : H.toks.length ≤ i) (n : Nat) : Ext H (H'.up (some i) n) := by
  obtain ⟨⟨l1, h1⟩, ⟨l2, h2⟩, hm, hx⟩ := h
  refine ⟨⟨l1, by simp [HS.up, h1]⟩, ⟨l2.set (i - H.toks.length) n, ?_⟩, hm, hx⟩
  simp only [HS.up, h2]
  rw [List.set_append_right _ _ hi]
theorem Ext.put {H H' : HS} (h : Ext H H') {id : Nat} (hi : H.blks.length ≤ id) (o : Nat) (vs : List AV) : Ext H (H'.put id o vs) := by
  obtain ⟨⟨l1, h1⟩, ⟨l2, h2⟩, hm, hx⟩ := h
  refine ⟨⟨l1.modify (id - H.blks.length) fun b => { b with cs := putL b.cs o vs }, ?_⟩, ⟨l2, by simp [HS.put, h2]⟩, hm, hx⟩
  simp only [HS.put, h1]
  apply List.ext_getElem?
  intro j
  by_cases hj : j < H.blks.length
  · rw [List.getElem?_append_left hj, List.getElem?_modify, List.getElem?_append_left hj]
    have : ¬ id = j := by omega
    cases hq : H.blks[j]? <;> simp [this]
  · rw [List.getElem?_append_right (by omega), List.getElem?_modify, List.getElem?_append_right (by omega), List.getElem?_modify]
    by_cases he : id = j
    · subst he; simp
    · have : ¬ (id - H.blks.length = j - H.blks.length) := by omega
      cases hq : l1[j - H.blks.length]? <;> simp [this, he]
theorem Heir.ext {H H' : HS} {t' : Option Nat} (h : Heir H none H' t') : Ext H H' := by
  have h0 := h.up 0
  cases t' with
  | none =>
    have h1 : H'.blks = H.blks := by have := congrArg HS.blks h0; simpa [HS.up] using this
    have h2 : H'.toks ++ [0] = H.toks ++ [0] := congrArg HS.toks h0
    exact ⟨⟨[], by simp [h1]⟩, ⟨[], by simpa using List.append_cancel_right h2⟩, by have := congrArg HS.maps h0; simpa [HS.up] using this, by have := congrArg HS.x h0; simpa [HS.up] using this⟩
  | some i =>
    have hi : i = H.toks.length := h.tk
    have h1 : H'.blks = H.blks := by have := congrArg HS.blks h0; simpa [HS.up] using this
    have h2 : H'.toks.set i 0 = H.toks ++ [0] := congrArg HS.toks h0
    refine ⟨⟨[], by simp [h1]⟩, ⟨H'.toks.drop H.toks.length, ?_⟩, by have := congrArg HS.maps h0; simpa [HS.up] using this, by have := congrArg HS.x h0; simpa [HS.up] using this⟩
    have h3 : H'.toks.take H.toks.length = H.toks := by
      have := congrArg (List.take H.toks.length) h2
      rw [List.take_left, hi, List.take_set, List.set_eq_of_length_le (by simp; omega)] at this
      exact this
    have h4 := (List.take_append_drop H.toks.length H'.toks).symm
    rw [h3] at h4
    exact h4
theorem ACalls.tidy {P : Program} [Wins P] {f : FuncId} {args : List AV} {H : HS} {R : AV → Prop} (h : ACalls P f args H fun av H' => Fits H.blks.length H.toks.length av ∧ Ext H H' ∧ R av) : ACalls P f args H fun av H' => R av ∧ H' = H := by
  intro B w0 c w t vs hI hB hs ha kind cs hk hn
  refine h B w0 c w t vs hI hB hs ha kind cs hk ?_
  rintro v w' c' av H' t' fr h1 h2 h3 hB' ⟨h4, ⟨⟨l1, h5⟩, ⟨l2, h6⟩, hmm, hxx⟩, h7⟩ hl
  have hcut : H'.cut H.blks.length H.toks.length = H := by
    cases H
    simp only [HS.cut, h5, h6, List.take_left, hmm, hxx]
  have i1 := h3.cut H.blks.length H.toks.length (fun i b hi hb j hj => by
    have hb' : H.blks[i]? = some b := by rw [h5, List.getElem?_append_left hi] at hb; exact hb
    have hlt : i < c.blk.length := by rw [hI.blkLen]; exact hi
    obtain ⟨_, _, cur, fr, _, _, _, q⟩ := hI.blk i _ b (List.getElem?_eq_getElem hlt) hb'
    have := (q j hj).fits
    rwa [hI.blkLen, hI.tokLen] at this) (fun i ps asg bd st pend T hm => hI.mfits i ps asg bd st pend T (hmm ▸ hm))
  rw [hcut] at i1
  refine hn v w' (c'.cut H.blks.length H.toks.length) av H t' fr ⟨h1.mem, fun i g hi => ?_, fun i e he => ?_, fun i g hi => h1.maps i g hi, h1.me⟩ (h2.cut h4) i1 hB' ⟨h7, rfl⟩ hl
  · have : i < c.blk.length := (List.getElem?_eq_some_iff.1 hi).1
    show (c'.blk.take _)[i]? = _
    rw [List.getElem?_take, if_pos (by have := hI.blkLen; omega)]
    exact h1.blk i g hi
  · have : i < c.tok.length := (List.getElem?_eq_some_iff.1 he).1
    obtain ⟨e', q1, q2⟩ := h1.tok i e he
    refine ⟨e', ?_, q2⟩
    show (c'.tok.take _)[i]? = _
    rw [List.getElem?_take, if_pos (by have := hI.tokLen; omega)]
    exact q1
theorem ACalls.tidy1 {P : Program} [Wins P] {f : FuncId} {args : List AV} {H : HS} {x : DV} (h : ACalls P f args H fun av H' => av = .d x ∧ Ext H H') : ACalls P f args H (Ret (.d x) H) :=
  ACalls.tidy (R := fun av => av = .d x) (h.mono fun v H' ⟨h1, h2⟩ => ⟨by rw [h1]; exact .d _, h2, h1⟩)
theorem opR_to {P : Program} [Wins P] {o : Oper} {E : Operand → AV} {H : HS} {R R' : AV → HS → Prop} (h : OpR P o E H R) (hr : ∀ v H', R v H' → R' v H') : OpR P o E H R' :=
  fun B w0 c w a t hI hB hops b ops i rest k cs hk ho hwt hnext => h B w0 c w a t hI hB hops b ops i rest k cs hk ho hwt fun v' w' c' av H'' t' l1 r1 i1 s1 q => hnext v' w' c' av H'' t' l1 r1 i1 s1 (hr _ _ q)
inductive TLe : List AV → List AV → Prop
  | nil : TLe [] []
  | same {x : AV} {l m : List AV} (h : TLe l m) : TLe (x :: l) (x :: m)
  | un {x : AV} {l m : List AV} (h : TLe l m) : TLe (x :: l) (.un :: m)
theorem TLe.rep {c : Ctx} {tmps : Array Value} {T T' : List AV} (h : TLe T T') (hr : RepT c tmps T) : RepT c tmps T' := by
  have key : ∀ {T T' : List AV}, TLe T T' → T.length = T'.length ∧ ∀ i, T'.getD i .un = T.getD i .un ∨ T'.getD i .un = .un := by
    intro T T' h
    induction h with
    | nil => exact ⟨rfl, fun i => .inl rfl⟩
    | same h ih => exact ⟨by simp [ih.1], fun i => by cases i with
      | zero => exact .inl rfl
      | succ i => simpa using ih.2 i⟩
    | un h ih => exact ⟨by simp [ih.1], fun i => by cases i with
      | zero => exact .inr rfl
      | succ i => simpa using ih.2 i⟩
  obtain ⟨h1, h2⟩ := key h
  refine ⟨by rw [hr.size, h1], fun i hi => ?_⟩
  rcases h2 i with e | e
  · rw [e]; exact hr.at_ i (by omega)
  · rw [e]; exact .un _
section
variable {P : Program} [Wins P] {Q : Post} {T T' : List AV} {H : HS}
theorem aw_forget {k : Code} (h : AW P k Q T' H) (hT : TLe T T') : AW P k Q T H :=
  fun B w0 c w a t h1 h2 h3 => h B w0 c w a t h1 h2 (hT.rep h3)
def maskT : List Bool → List AV → List AV
  | b :: bs, x :: l => (match b with | true => x | false => .un) :: maskT bs l
  | _, _ => []
theorem maskT_le : ∀ (m : List Bool) (T : List AV), m.length = T.length → TLe T (maskT m T)
  | [], [], _ => .nil
  | true :: m, x :: T, h => .same (maskT_le m T (by simpa using h))
  | false :: m, x :: T, h => .un (maskT_le m T (by simpa using h))
  | [], _ :: _, h => by simp at h
  | _ :: _, [], h => by simp at h
theorem aw_loopF {k : Code} (I : Nat → List AV → HS → Prop) (n : Nat) (m : List Bool) (hm : maskT m T = T') (hl : m.length = T.length) (h0 : I n T' H) (h : ∀ n T H, I n T H → AW P k (Again n (fun m T H => ∃ T', TLe T T' ∧ I m T' H) Q) T H) : AW P (.loop k) Q T H := by
  refine aw_loop (fun m T H => ∃ T', TLe T T' ∧ I m T' H) n ⟨T', hm ▸ maskT_le m T hl, h0⟩ ?_
  rintro n T H ⟨T1, hT1, hI⟩
  exact aw_forget (h n T1 H hI) hT1
theorem again_to {n : Nat} {I : Nat → List AV → HS → Prop} (k : Nat) (m : List Bool) (hm : maskT m T = T') (hl : m.length = T.length) (hlt : k < n) (h : I k T' H) : Again n (fun m T H => ∃ T', TLe T T' ∧ I m T' H) Q .normal T H := ⟨k, hlt, T', hm ▸ maskT_le m T hl, h⟩
end
theorem wrap_i64 {n : Int} (h : -9223372036854775808 ≤ n ∧ n ≤ 9223372036854775807) : IntKind.i64.wrap n = n := IntWalk.i64_in n h
theorem wrap_u64 {n : Int} (h : 0 ≤ n ∧ n ≤ 18446744073709551615) : IntKind.u64.wrap n = n := IntWalk.u64_in n h
section
variable {P : Program} [Wins P] {T T' : List AV} {H : HS} {Q : Post} {dst : Option Tmp} {ty : TypeId} {pos : String} {after : Array Edge} {gd : Option (Nat × Bool)}
theorem evalT_tmp {i : Nat} {v : AV} (h : T[i]? = some v) : evalT T (.tmp i) = v := by simp [evalT, List.getD_eq_getElem?_getD, h]
theorem evalT_const {x : Value} (h : plain x = true) : evalT T (.const x) = .d (.v x) := by simp [evalT, constAV, h]
theorem op_move_tmp {i : Nat} {v : AV} (h : T[i]? = some v) : OpR P ⟨dst, .move (.tmp i), ty, pos, after, gd⟩ (evalT T) H (Ret v H) := by
  rw [← evalT_tmp h]; exact op_move
theorem op_assign_tmp {i : Nat} {v : AV} (h : T[i]? = some v) : OpR P ⟨dst, .assign (.tmp i), ty, pos, after, gd⟩ (evalT T) H (Ret v H) := by
  rw [← evalT_tmp h]; exact op_assign
theorem op_move_const {x : Value} (h : plain x = true) : OpR P ⟨dst, .move (.const x), ty, pos, after, gd⟩ (evalT T) H (Ret (.d (.v x)) H) := by
  have h2 := op_move (P := P) (E := evalT T) (H := H) (dst := dst) (ty := ty) (pos := pos) (after := after) (gd := gd) (x := .const x)
  rwa [evalT_const h] at h2
theorem op_assign_const {x : Value} (h : plain x = true) : OpR P ⟨dst, .assign (.const x), ty, pos, after, gd⟩ (evalT T) H (Ret (.d (.v x)) H) := by
  have h2 := op_assign (P := P) (E := evalT T) (H := H) (dst := dst) (ty := ty) (pos := pos) (after := after) (gd := gd) (x := .const x)
  rwa [evalT_const h] at h2
theorem al_end {ops : Array Oper} (hT : T = T') (h : Q .normal T' H) : AL P ops [] Q T H := by subst hT; exact al_nil h
theorem aw_cut {x y : Code} (R : List AV → HS → Prop) (h1 : AW P x (fun e T H => match e with | .normal => ∃ T', TLe T T' ∧ R T' H | e => Q e T H) T H) (h2 : ∀ T H, R T H → AW P y Q T H) : AW P (.seq x y) Q T H := by
  refine aw_seq (aw_mono h1 ?_)
  intro e T H hq
  cases e with
  | normal =>
    obtain ⟨T', hT, hR⟩ := hq
    exact aw_forget (h2 T' H hR) hT
  | _ => exact hq
inductive Els (E : Operand → AV) : Nat → List (Nat × Operand) → List DV → Prop
  | nil (i : Nat) : Els E i [] []
  | cons {i : Nat} {x : Operand} {y : DV} {l : List (Nat × Operand)} {ys : List DV} (hx : E x = .d y) (h : Els E (i + 1) l ys) : Els E i ((i, x) :: l) (y :: ys)
theorem d_cells (y : DV) : (AV.d y).cells = y.cells.map .d := by cases y <;> rfl
theorem Els.known {E : Operand → AV} {i : Nat} {l : List (Nat × Operand)} {ys : List DV} (h : Els E i l ys) : l.all (fun p => (E p.2).known) = true := by
  induction h with
  | nil i => rfl
  | cons hx h ih => simp only [List.all_cons, hx, ih, Bool.and_true]; rfl
theorem Els.parts {E : Operand → AV} {i : Nat} {l : List (Nat × Operand)} {ys : List DV} (h : Els E i l ys) : l.map (fun p => (p.1, (E p.2).cells)) = (ys.zipIdx i).map fun p => (p.2, p.1.cells.map .d) := by
  induction h with
  | nil i => rfl
  | cons hx h ih => simp only [List.map_cons, hx, d_cells, ih, List.zipIdx_cons]
theorem putL_block : ∀ (v A R : List AV), putL (A ++ (List.replicate v.length .un ++ R)) A.length v = A ++ (v ++ R)
  | [], A, R => rfl
  | x :: v, A, R => by
    rw [putL]
    have e1 : (A ++ (List.replicate (x :: v).length AV.un ++ R)).set A.length x = (A ++ [x]) ++ (List.replicate v.length .un ++ R) := by
      rw [List.set_append_right _ _ (Nat.le_refl _)]
      simp [List.replicate_succ]
    rw [e1]
    have := putL_block v (A ++ [x]) R
    simp only [List.length_append, List.length_cons, List.length_nil] at this
    rw [this]
    simp
theorem fill_els {sz : Nat} : ∀ (ys done : List DV), (∀ y ∈ ys, y.cells.length = sz) → (∀ y ∈ done, y.cells.length = sz) →
    fillA (fun i => some (i * sz, sz)) ((flat done).map .d ++ List.replicate (ys.length * sz) .un) ((ys.zipIdx done.length).map fun p => (p.2, p.1.cells.map .d)) = some ((flat (done ++ ys)).map .d)
  | [], done, _, _ => by simp [fillA]
  | y :: ys, done, h, hd => by
    have hy := h y (by simp)
    have hfl := flat_length hd
    rw [List.zipIdx_cons, List.map_cons, fillA]
    simp only []
    rw [if_pos (by simp [hy]), if_pos (by simp [hfl, hy, Nat.add_mul])]
    have e1 : List.replicate ((y :: ys).length * sz) AV.un = List.replicate (y.cells.map AV.d).length .un ++ List.replicate (ys.length * sz) .un := by
      rw [List.replicate_append_replicate]
      congr 1
      simp [hy, Nat.add_mul]
      omega
    have e2 : done.length * sz = ((flat done).map AV.d).length := by simp [hfl]
    rw [e1, e2, putL_block]
    have ih := fill_els ys (done ++ [y]) (fun z hz => h z (by simp [hz])) (fun z hz => by
      rcases List.mem_append.1 hz with h1 | h1
      · exact hd z h1
      · simp at h1; subst h1; exact hy)
    simp only [flat_append, List.map_append, List.length_append, List.length_cons, List.length_nil, List.append_assoc] at ih
    have e3 : flat [y] = y.cells := by simp [flat]
    rw [e3] at ih
    rw [ih]
    simp [flat]
theorem op_lit {t e : TypeId} {len sz : Nat} {parts : Array (Nat × Operand)} {z : Value} {ys : List DV} (ht : P.underlying t = some (.slice e)) (hz : (P.info? e).map (fun i => (i.zero, i.size)) = some (some z, sz)) (hE : Els (evalT T) 0 parts.toList ys) (hl : ys.length = len)
    (hy : ∀ y ∈ ys, y.cells.length = sz) (h1 : ∀ d ∈ flat ys, d.one = true) (hsm : len * sz ≤ 16777216) : OpR P ⟨dst, .buildSlice t len parts, ty, pos, after, gd⟩ (evalT T) H (Ret (.own none sz ys) H) := by
  have hf := fill_els ys [] hy (by simp)
  simp only [flat, List.flatMap_nil, List.map_nil, List.nil_append, List.length_nil] at hf
  rw [hl] at hf
  exact op_buildSlice ys ht hz hE.known hE.parts hf hl hy h1 hsm
theorem aw_start {k : Code} (hT : T = T') (h : AW P k Q T' H) : AW P k Q T H := by subst hT; exact h
theorem set_same {d : Nat} {v : AV} (hd : T[d]? = some v) : T.set d v = T := by
  have hlt := (List.getElem?_eq_some_iff.1 hd).1
  have := (List.getElem?_eq_some_iff.1 hd).2
  rw [← this]
  exact List.set_getElem_self hlt
theorem al_split {ops : Array Oper} {l : List Oper} {b : Bool} (d : Nat) (hd : T[d]? = some (.d (.v (.bool b)))) (ht : b = true → AL P ops l Q (T.set d (.d (.v (.bool true)))) H) (hf : b = false → AL P ops l Q (T.set d (.d (.v (.bool false)))) H) : AL P ops l Q T H := by
  cases b with
  | true => have := ht rfl; rwa [set_same hd] at this
  | false => have := hf rfl; rwa [set_same hd] at this
theorem drun_split {Φ : HS → Prop} {ops : Array Oper} {l : List Oper} {fl : List Nat} {R : List AV → HS → Prop} {b : Bool} (d : Nat) (hd : T[d]? = some (.d (.v (.bool b)))) (ht : b = true → DRunX P Φ ops l fl (T.set d (.d (.v (.bool true)))) H R) (hf : b = false → DRunX P Φ ops l fl (T.set d (.d (.v (.bool false)))) H R) : DRunX P Φ ops l fl T H R := by
  cases b with
  | true => have := ht rfl; rwa [set_same hd] at this
  | false => have := hf rfl; rwa [set_same hd] at this
section
variable {Φ : HS → Prop} {ops : Array Oper} {o : Oper} {l : List Oper} {fl : List Nat} {v : AV} {H' : HS} {R : List AV → HS → Prop} {g d : Nat} {x y : Bool}
theorem drun0 (ho : ∀ H, OpR P o (evalT T) H (Ret v H)) (hg : o.guard = none) (h : DRunX P Φ ops l fl (putT T o.dst v) H R) : DRunX P Φ ops (o :: l) (0 :: fl) T H R := ⟨v, H, ⟨true, by rw [hg], rfl, fun H _ => ho H⟩, .inr fun h => h, h⟩
theorem drun1 (ho : OpR P o (evalT T) H (Ret v H)) (hg : o.guard = none) (h : DRunX P Φ ops l fl (putT T o.dst v) H R) : DRunX P Φ ops (o :: l) (1 :: fl) T H R := ⟨v, H, ⟨true, by rw [hg], rfl, ho⟩, .inr fun h => h, h⟩
theorem drun0w (hg : o.guard = some (g, x)) (hd : ((ops[g]?).bind (·.dst)) = some d) (hx : T[d]? = some (.d (.v (.bool x)))) (ho : ∀ H, OpR P o (evalT T) H (Ret v H)) (h : DRunX P Φ ops l fl (putT T o.dst v) H R) : DRunX P Φ ops (o :: l) (0 :: fl) T H R :=
  ⟨v, H, ⟨true, by rw [hg]; exact .inl ⟨d, x, hd, hx, by simp⟩, rfl, fun H _ => ho H⟩, .inr fun h => h, h⟩
theorem drun1w (hg : o.guard = some (g, x)) (hd : ((ops[g]?).bind (·.dst)) = some d) (hx : T[d]? = some (.d (.v (.bool x)))) (ho : OpR P o (evalT T) H (Ret v H)) (h : DRunX P Φ ops l fl (putT T o.dst v) H R) : DRunX P Φ ops (o :: l) (1 :: fl) T H R :=
  ⟨v, H, ⟨true, by rw [hg]; exact .inl ⟨d, x, hd, hx, by simp⟩, rfl, ho⟩, .inr fun h => h, h⟩
theorem drunU {f : Nat} (hg : o.guard = some (g, y)) (hd : ((ops[g]?).bind (·.dst)) = some d) (hx : T[d]? = some (.d (.v (.bool x)))) (hne : (x == y) = false) (h : DRunX P Φ ops l fl (putT T o.dst .nv) H R) : DRunX P Φ ops (o :: l) (f :: fl) T H R :=
  ⟨.nv, H, ⟨false, by rw [hg]; exact .inl ⟨d, x, hd, hx, hne.symm⟩, rfl, rfl⟩, .inr fun h => h, h⟩
theorem drunU0 {f : Nat} (hg : o.guard = some (g, y)) (hd : ((ops[g]?).bind (·.dst)) = some d) (hx : T[d]? = some .nv) (h : DRunX P Φ ops l fl (putT T o.dst .nv) H R) : DRunX P Φ ops (o :: l) (f :: fl) T H R :=
  ⟨.nv, H, ⟨false, by rw [hg]; exact .inr ⟨d, hd, hx, rfl⟩, rfl, rfl⟩, .inr fun h => h, h⟩
theorem drun_end (hT : T = T') (h : Q .normal T' H) : DRunX P Φ ops [] fl T H (fun T H => Q .normal T H) := by subst hT; exact h
end
theorem al_stepN {ops : Array Oper} {o : Oper} {l : List Oper} {v : AV} {H' : HS} (ho : OpR P o (evalT T) H (Ret v H')) (hg : o.guard = none) (hT : putT T o.dst v = T') (h : AL P ops l Q T' H') : AL P ops (o :: l) Q T H := by
  subst hT; exact al_step ho hg h
theorem al_wantedN {ops : Array Oper} {o : Oper} {l : List Oper} {v : AV} {H' : HS} {g d : Nat} {x : Bool} (hg : o.guard = some (g, x)) (hd : ((ops[g]?).bind (·.dst)) = some d) (hx : T[d]? = some (.d (.v (.bool x))))
    (ho : OpR P o (evalT T) H (Ret v H')) (hT : putT T o.dst v = T') (h : AL P ops l Q T' H') : AL P ops (o :: l) Q T H := by
  subst hT; exact al_wanted hg hd hx ho h
theorem al_normT {ops : Array Oper} {l : List Oper} (hT : T = T') (h : AL P ops l Q T' H) : AL P ops l Q T H := by subst hT; exact h
theorem drun_normT {Φ : HS → Prop} {ops : Array Oper} {l : List Oper} {fl : List Nat} {R : List AV → HS → Prop} (hT : T = T') (h : DRunX P Φ ops l fl T' H R) : DRunX P Φ ops l fl T H R := by subst hT; exact h
section
variable {ops : Array Oper} {o : Oper} {l : List Oper} {v : AV} {H' : HS} {g d : Nat} {x y : Bool}
theorem zst (ho : OpR P o (evalT T) H (Ret v H')) (hg : o.guard = none) (hT : putT T o.dst v = T') (h : AL P ops l Q T' H') : AL P ops (o :: l) Q T H := al_stepN ho hg hT h
theorem zsw (hg : o.guard = some (g, x)) (hd : ((ops[g]?).bind (·.dst)) = some d) (hx : T[d]? = some (.d (.v (.bool x)))) (ho : OpR P o (evalT T) H (Ret v H')) (hT : putT T o.dst v = T') (h : AL P ops l Q T' H') : AL P ops (o :: l) Q T H := al_wantedN hg hd hx ho hT h
theorem zuw (hg : o.guard = some (g, y)) (hd : ((ops[g]?).bind (·.dst)) = some d) (hx : T[d]? = some (.d (.v (.bool x)))) (hne : (x == y) = false) (hT : putT T o.dst .nv = T') (h : AL P ops l Q T' H) : AL P ops (o :: l) Q T H := by
  subst hT; exact al_unwanted hg hd hx hne h
end
section
variable {Φ : HS → Prop} {ops : Array Oper} {o : Oper} {l : List Oper} {fl : List Nat} {v : AV} {H' : HS} {R : List AV → HS → Prop} {g d : Nat} {x y : Bool}
theorem zd0 (ho : ∀ H, OpR P o (evalT T) H (Ret v H)) (hg : o.guard = none) (hT : putT T o.dst v = T') (h : DRunX P Φ ops l fl T' H R) : DRunX P Φ ops (o :: l) (0 :: fl) T H R := by subst hT; exact drun0 ho hg h
theorem zd1 (ho : OpR P o (evalT T) H (Ret v H)) (hg : o.guard = none) (hT : putT T o.dst v = T') (h : DRunX P Φ ops l fl T' H R) : DRunX P Φ ops (o :: l) (1 :: fl) T H R := by subst hT; exact drun1 ho hg h
theorem zd0w (hg : o.guard = some (g, x)) (hd : ((ops[g]?).bind (·.dst)) = some d) (hx : T[d]? = some (.d (.v (.bool x)))) (ho : ∀ H, OpR P o (evalT T) H (Ret v H)) (hT : putT T o.dst v = T') (h : DRunX P Φ ops l fl T' H R) : DRunX P Φ ops (o :: l) (0 :: fl) T H R := by subst hT; exact drun0w hg hd hx ho h
theorem zd1w (hg : o.guard = some (g, x)) (hd : ((ops[g]?).bind (·.dst)) = some d) (hx : T[d]? = some (.d (.v (.bool x)))) (ho : OpR P o (evalT T) H (Ret v H)) (hT : putT T o.dst v = T') (h : DRunX P Φ ops l fl T' H R) : DRunX P Φ ops (o :: l) (1 :: fl) T H R := by subst hT; exact drun1w hg hd hx ho h
theorem zdU {f : Nat} (hg : o.guard = some (g, y)) (hd : ((ops[g]?).bind (·.dst)) = some d) (hx : T[d]? = some (.d (.v (.bool x)))) (hne : (x == y) = false) (hT : putT T o.dst .nv = T') (h : DRunX P Φ ops l fl T' H R) : DRunX P Φ ops (o :: l) (f :: fl) T H R := by subst hT; exact drunU hg hd hx hne h
theorem zdV {f : Nat} (hg : o.guard = some (g, y)) (hd : ((ops[g]?).bind (·.dst)) = some d) (hx : T[d]? = some .nv) (hT : putT T o.dst .nv = T') (h : DRunX P Φ ops l fl T' H R) : DRunX P Φ ops (o :: l) (f :: fl) T H R := by subst hT; exact drunU0 hg hd hx h
end
theorem y1 {p : Prop} [Decidable p] : (decide p = true) = p := decide_eq_true_eq
theorem y2 {p : Prop} [Decidable p] : decide p = false ↔ ¬p := decide_eq_false_iff_not
theorem y3 {α : Type} [BEq α] [LawfulBEq α] {a b : α} : (a == b) = true ↔ a = b := beq_iff_eq
theorem y4 {α : Type} [BEq α] [LawfulBEq α] {a b : α} : (a == b) = false ↔ a ≠ b := beq_eq_false_iff_ne
theorem y5 {b : Bool} : ((!b) = true) = (b = false) := Bool.not_eq_true' b
theorem y6 {b : Bool} : ((!b) = false) = (b = true) := Bool.not_eq_false' b
theorem y7 {α : Type} [BEq α] [LawfulBEq α] {a b : α} : (a != b) = true ↔ a ≠ b := bne_iff_ne
theorem y8 {α : Type} [BEq α] [LawfulBEq α] {a b : α} : (a != b) = false ↔ a = b := bne_eq_false_iff_eq
theorem y9 {α : Type} {a b : α} : (a ≠ b) = ¬(a = b) := rfl
theorem y0 {p : Prop} [Decidable p] : ¬¬p ↔ p := Decidable.not_not
theorem val_tmp {i : Nat} {v : AV} (h : T[i]? = some v) : evalT T (.tmp i) = v := evalT_tmp h
theorem val_const {x : Value} (h : plain x = true) : evalT T (.const x) = .d (.v x) := evalT_const h
theorem op_pick_tt {x y z : Operand} {v : AV} (hx : evalT T x = .d (.v (.bool true))) (hy : evalT T y = v) : OpR P ⟨dst, .pick x y z, ty, pos, after, gd⟩ (evalT T) H (Ret v H) := by
  have h := op_pick (P := P) (E := evalT T) (H := H) (dst := dst) (ty := ty) (pos := pos) (after := after) (gd := gd) (x := x) (y := y) (z := z) hx
  rw [if_pos rfl, hy] at h
  exact h
theorem op_pick_ff {x y z : Operand} {v : AV} (hx : evalT T x = .d (.v (.bool false))) (hz : evalT T z = v) : OpR P ⟨dst, .pick x y z, ty, pos, after, gd⟩ (evalT T) H (Ret v H) := by
  have h := op_pick (P := P) (E := evalT T) (H := H) (dst := dst) (ty := ty) (pos := pos) (after := after) (gd := gd) (x := x) (y := y) (z := z) hx
  rw [if_neg (by simp), hz] at h
  exact h
inductive Vals (T : List AV) : List Operand → List AV → Prop
  | nil : Vals T [] []
  | tmp {i : Nat} {v : AV} {l : List Operand} {vs : List AV} (h : T[i]? = some v) (r : Vals T l vs) : Vals T (.tmp i :: l) (v :: vs)
  | const {x : Value} {l : List Operand} {vs : List AV} (h : plain x = true) (r : Vals T l vs) : Vals T (.const x :: l) (.d (.v x) :: vs)
  | func {f : FuncId} {l : List Operand} {vs : List AV} (r : Vals T l vs) : Vals T (.func f :: l) (.fn (.func f) [] [] :: vs)
theorem Vals.eq {l : List Operand} {vs : List AV} (h : Vals T l vs) : l.map (evalT T) = vs := by
  induction h with
  | nil => rfl
  | tmp h _ ih => rw [List.map_cons, ih, evalT_tmp h]
  | const h _ ih => rw [List.map_cons, ih, evalT_const h]
  | func _ ih => rw [List.map_cons, ih]; rfl
theorem op_callF {args : Array Operand} {ts : Array TypeId} {f : FuncId} {fn : Func} {avs : List AV} {R : AV → HS → Prop} (hfn : P.funcs[f]? = some fn) (hname : (fn.name == "runtime.NumGoroutine") = false) (hbody : fn.body.isNone = false) (hargs : Vals T args.toList avs)
    (h : ACalls P f avs H R) : OpR P ⟨dst, .call ⟨.value (.func f), args, ts⟩, ty, pos, after, gd⟩ (evalT T) H R :=
  op_call (fs := []) (cs := []) rfl hfn hname hbody (by simpa [hargs.eq] using h)
end
end Go.AV
namespace Go.AV
open Go.RowKit
def x0 : Crowd := ⟨0, #[default]⟩
theorem x0_ok : x0.Ok := ⟨by decide, fun j g h hj => by
  have : j < 1 := (Array.getElem?_eq_some_iff.1 h).1
  simp only [x0] at hj
  omega⟩
def ctx0 (w : World) : Ctx := { mem := fun g o => w.cell? ⟨g, o, none⟩, blk := [], tok := [], x := x0 }
def H0 : HS := { blks := [], toks := [], x := x0 }
theorem inv0 (w : World) : Inv w.heap.size w (ctx0 w) H0 w :=
  ⟨Nat.le_refl _, Below.refl _ _, fun _ _ _ h => h, rfl, fun i g b h => by simp [ctx0] at h, fun i j g h => by simp [ctx0] at h, rfl, fun i e h => by simp [ctx0] at h, fun i j e e' h => by simp [ctx0] at h, ⟨rfl, fun i j g h => by simp [ctx0] at h, fun i g m h => by simp [ctx0] at h⟩, rfl, x0_ok⟩
section
variable {H : Type} {enc : TypeId × Value → H} {P : Program} {W : World} {sp : Nat → Bool} {held : Bool}
theorem mapM_opt {α β : Type} {f : α → Option β} : ∀ {l : List α} {r : List β}, l.mapM f = some r → r.length = l.length ∧ ∀ i (hi : i < l.length) (hi' : i < r.length), f l[i] = some r[i]
  | [], r, h => by
    simp at h
    subst h
    exact ⟨rfl, fun i hi => by simp at hi⟩
  | x :: l, r, h => by
    rw [List.mapM_cons] at h
    cases hx : f x with
    | none => rw [hx] at h; cases h
    | some y =>
      cases hl : l.mapM f with
      | none => rw [hx, hl] at h; cases h
      | some ys =>
        rw [hx, hl] at h
        have e : r = y :: ys := by simpa using h.symm
        subst e
        obtain ⟨h1, h2⟩ := mapM_opt hl
        refine ⟨by simp [h1], fun i hi hi' => ?_⟩
        cases i with
        | zero => simpa using hx
        | succ i => simpa using h2 i (by simpa using hi) (by simpa using hi')
theorem cells_opt {a : Addr} {n : Nat} {cs : List Value} (h : W.cells? 0 a n = some cs) : cs.length = n ∧ ∀ i (_ : i < n) (hi' : i < cs.length), W.cell? (a.add i) = some cs[i] := by
  unfold World.cells? at h
  rw [if_pos (Nat.zero_le _)] at h
  obtain ⟨h1, h2⟩ := mapM_opt h
  simp at h1
  refine ⟨h1, fun i hi hi' => ?_⟩
  have := h2 i (by simpa using hi) hi'
  simpa using this
structure Reads (W : World) (Good : DV → Prop) (sz : Nat) (cs : List Value) (y : DV) : Prop where
  len : cs.length = sz
  ylen : y.cells.length = sz
  one : ∀ z ∈ y.cells, z.one = true
  good : Good y
  at_ : ∀ i (hi : i < cs.length) (hi' : i < y.cells.length), RepD (ctx0 W).mem cs[i] y.cells[i]
theorem choose_list {α : Type} {n : Nat} {p : Nat → α → Prop} (h : ∀ i, i < n → ∃ y, p i y) : ∃ ys : List α, ys.length = n ∧ ∀ i (hi : i < ys.length), p i ys[i] := by
  induction n with
  | zero => exact ⟨[], rfl, fun i hi => by simp at hi⟩
  | succ n ih =>
    obtain ⟨ys, h1, h2⟩ := ih fun i hi => h i (by omega)
    obtain ⟨y, hy⟩ := h n (by omega)
    refine ⟨ys ++ [y], by simp [h1], fun i hi => ?_⟩
    by_cases hlt : i < ys.length
    · rw [List.getElem_append_left hlt]; exact h2 i hlt
    · have : i = n := by simp at hi; omega
      subst this
      rw [List.getElem_append_right (by omega)]
      simpa [h1] using hy
theorem addr_spot (a : Addr) {v : Value} (h : W.cell? a = some v) : a = ⟨a.block, a.off, none⟩ := by
  unfold World.cell? at h
  split at h
  · split at h
    · cases h
    · rename_i hs
      cases a with
      | mk b o s => cases s with
        | none => rfl
        | some _ => simp at hs
  · cases h
theorem add_add (a : Addr) (m n : Nat) : ((a.add m).add n) = if m + n = 0 then a else ⟨a.block, a.off + (m + n), none⟩ := by
  unfold Addr.add
  by_cases h1 : m = 0 <;> by_cases h2 : n = 0 <;> simp [h1, h2, Nat.add_assoc]
theorem rep_slice {fuel : Nat} {t e : TypeId} {sz : Nat} (hsz0 : 0 < sz) (Good : DV → Prop) (ht : P.underlying t = some (.slice e)) (hsz : P.cellsOf e = sz)
    (hel : ∀ cs d p, DataW.trod enc P W 0 sp held fuel e cs = some (d, p) → cs.length = sz → ∃ y, Reads W Good sz cs y) {a : Option Addr} {n cap : Nat} {d : DataW H} {p : List MemPlace} (h : DataW.trod enc P W 0 sp held (fuel + 1) t [.slice a n cap] = some (d, p)) :
    ∃ ys, RepD (ctx0 W).mem (.slice a n cap) (.lst sz ys) ∧ (∀ y ∈ ys, Good y) := by
  simp only [DataW.trod, ht] at h
  cases a with
  | none =>
    cases n with
    | zero => exact ⟨[], .lstE _ _ _, by simp⟩
    | succ n => simp at h
  | some ad =>
    simp only [] at h
    split at h
    · rename_i hc
      obtain ⟨es, he, _⟩ := Option.bind_eq_some_iff.1 h
      obtain ⟨h1, h2⟩ := mapM_opt he
      simp at h1
      rw [hsz] at h2
      by_cases hn0 : n = 0
      · subst hn0
        exact ⟨[], .lstE _ _ _, by simp⟩
      have hall : ∀ i, i < n → ∃ (cs : List Value) (y : DV), W.cells? 0 (ad.add (i * sz)) sz = some cs ∧ Reads W Good sz cs y := by
        intro i hi
        have h3 := h2 i (by simpa using hi) (by omega)
        simp only [List.getElem_range] at h3
        obtain ⟨cs, h4, h5⟩ := Option.bind_eq_some_iff.1 h3
        have hl := (cells_opt h4).1
        obtain ⟨y, hy⟩ := hel cs _ _ h5 hl
        exact ⟨cs, y, h4, hy⟩
      obtain ⟨ys, hy1, hy2⟩ := choose_list (p := fun i y => ∃ cs, W.cells? 0 (ad.add (i * sz)) sz = some cs ∧ Reads W Good sz cs y) (n := n) (fun i hi => by
        obtain ⟨cs, y, h⟩ := hall i hi
        exact ⟨y, cs, h⟩)
      have hysz : ∀ y ∈ ys, y.cells.length = sz := by
        intro y hy
        obtain ⟨i, hi, rfl⟩ := List.getElem_of_mem hy
        obtain ⟨cs, _, h4⟩ := hy2 i hi
        exact h4.ylen
      have hfl := flat_length hysz
      have had : ad = ⟨ad.block, ad.off, none⟩ := by
        obtain ⟨cs, h3, h4⟩ := hy2 0 (by omega)
        obtain ⟨h5, h6⟩ := cells_opt h3
        have h7 := h6 0 hsz0 (by omega)
        rw [add_add, if_pos (by simp)] at h7
        exact addr_spot ad h7
      have hcell : ∀ i (hi : i < ys.length) k (hk : k < sz), ∃ u, W.cell? ⟨ad.block, ad.off + (i * sz + k), none⟩ = some u ∧ ∃ z, (ys[i]).cells[k]? = some z ∧ RepD (ctx0 W).mem u z := by
        intro i hi k hk
        obtain ⟨cs, h3, h4⟩ := hy2 i hi
        obtain ⟨h5, h6⟩ := cells_opt h3
        have h7 := h6 k hk (by omega)
        rw [had, addr_add, addr_add, Nat.add_assoc] at h7
        exact ⟨_, h7, _, List.getElem?_eq_getElem (by rw [h4.ylen]; exact hk), h4.at_ k (by omega) (by rw [h4.ylen]; exact hk)⟩
      have split : ∀ i, i < (flat ys).length → ∃ u, W.cell? ⟨ad.block, ad.off + i, none⟩ = some u ∧ ∃ z, (flat ys)[i]? = some z ∧ RepD (ctx0 W).mem u z := by
        intro i hi
        rw [hfl] at hi
        have e1 : i = (i / sz) * sz + i % sz := by rw [Nat.mul_comm]; exact (Nat.div_add_mod i sz).symm
        have e2 : i % sz < sz := Nat.mod_lt _ hsz0
        have e3 : i / sz < ys.length := by rw [Nat.div_lt_iff_lt_mul hsz0]; exact hi
        obtain ⟨u, h3, z, h4, h5⟩ := hcell (i / sz) e3 (i % sz) e2
        refine ⟨u, by rw [e1]; exact h3, z, ?_, h5⟩
        have h6 := flat_get hysz (i / sz) e3 (i % sz) e2
        rw [← e1] at h6
        rw [h6, h4]
      refine ⟨ys, ?_, fun y hy => ?_⟩
      · rw [had]
        refine .lst ad.block ad.off n cap sz ys (fun i => (W.cell? ⟨ad.block, ad.off + i, none⟩).getD undef) hy1 hc.2.1 hysz (fun z hz => ?_) (fun i hi => ?_) (fun i hi => ?_)
        · obtain ⟨y, hy, hz'⟩ := List.mem_flatMap.1 hz
          obtain ⟨i, hi, rfl⟩ := List.getElem_of_mem hy
          obtain ⟨cs, _, h4⟩ := hy2 i hi
          exact h4.one z hz'
        · obtain ⟨u, h3, _⟩ := split i hi
          show W.cell? _ = _
          rw [h3]; rfl
        · obtain ⟨u, h3, z, h4, h5⟩ := split i hi
          have : (flat ys)[i] = z := by rw [List.getElem?_eq_getElem hi] at h4; exact Option.some.inj h4
          rw [this, h3]
          exact h5
      · obtain ⟨i, hi, rfl⟩ := List.getElem_of_mem hy
        obtain ⟨cs, _, h4⟩ := hy2 i hi
        exact h4.good
    · cases h
theorem reads_str {fuel : Nat} {t : TypeId} (ht : P.underlying t = some .string) {cs : List Value} {d : DataW H} {p : List MemPlace} (h : DataW.trod enc P W 0 sp held fuel t cs = some (d, p)) : ∃ y, Reads W (fun y => ∃ l : List UInt8, y = S l) 1 cs y := by
  cases fuel with
  | zero => cases h
  | succ fuel =>
    simp only [DataW.trod, ht] at h
    split at h <;> first | (rename_i e; cases e; done) | skip
    all_goals first | (cases h; done) | skip
    rename_i s e1
    refine ⟨S s.data.toList, rfl, rfl, by simp [S, DV.cells, DV.one], ⟨_, rfl⟩, fun i hi hi' => ?_⟩
    have : i = 0 := by simp at hi; omega
    subst this
    have e2 : (⟨s.data.toList.toArray⟩ : ByteArray) = s := by cases s; simp
    have e3 : (DV.cells (S s.data.toList))[0] = .v (.string s) := by simp [S, DV.cells, e2]
    simp only [List.getElem_cons_zero]
    rw [e3]
    exact .v _ rfl
theorem reads_int {fuel : Nat} {t : TypeId} {k : IntKind} (ht : P.underlying t = some (.int k)) {cs : List Value} {d : DataW H} {p : List MemPlace} (h : DataW.trod enc P W 0 sp held fuel t cs = some (d, p)) : ∃ y, Reads W (fun y => ∃ n : Int, y = .v (.int k n) ∧ (Lit.int k n).wf = true) 1 cs y := by
  cases fuel with
  | zero => cases h
  | succ fuel =>
    simp only [DataW.trod, ht] at h
    split at h <;> first | (rename_i e; cases e; done) | skip
    all_goals first | (cases h; done) | skip
    rename_i k1 k' n e1
    cases e1
    split at h
    · rename_i hc
      obtain ⟨rfl, hw⟩ := hc
      refine ⟨.v (.int k' n), rfl, rfl, by simp [DV.cells, DV.one], ⟨n, rfl, hw⟩, fun i hi hi' => ?_⟩
      have : i = 0 := by simp at hi; omega
      subst this
      exact .v _ rfl
    · cases h
theorem reads_bool {fuel : Nat} {t : TypeId} (ht : P.underlying t = some .bool) {cs : List Value} {d : DataW H} {p : List MemPlace} (h : DataW.trod enc P W 0 sp held fuel t cs = some (d, p)) : ∃ y, Reads W (fun y => ∃ b : Bool, y = TF b) 1 cs y := by
  cases fuel with
  | zero => cases h
  | succ fuel =>
    simp only [DataW.trod, ht] at h
    split at h <;> first | (rename_i e; cases e; done) | skip
    all_goals first | (cases h; done) | skip
    rename_i b _
    refine ⟨TF b, rfl, rfl, by simp [TF, DV.cells, DV.one], ⟨b, rfl⟩, fun i hi hi' => ?_⟩
    have : i = 0 := by simp at hi; omega
    subst this
    exact .v _ rfl
theorem Reads.imp {Good Good' : DV → Prop} {sz : Nat} {cs : List Value} {y : DV} (h : Reads W Good sz cs y) (hg : Good y → Good' y) : Reads W Good' sz cs y := ⟨h.len, h.ylen, h.one, hg h.good, h.at_⟩
theorem all_map {α : Type} {f : α → DV} : ∀ {ys : List DV}, (∀ y ∈ ys, ∃ x, y = f x) → ∃ xs : List α, ys = xs.map f
  | [], _ => ⟨[], rfl⟩
  | y :: ys, h => by
    obtain ⟨x, rfl⟩ := h y (by simp)
    obtain ⟨xs, rfl⟩ := all_map (ys := ys) fun z hz => h z (by simp [hz])
    exact ⟨x :: xs, rfl⟩
section
variable {r : Reach} {b0 : Nat} {t : TypeId} {v : Value} {d : DataW H} {ps : List MemPlace}
theorem arg_int {k : IntKind} (ht : P.underlying t = some (.int k)) (hval : Value.okWide P W r b0 t v) (hd : DataW.Trod enc P W 0 sp held t v d ps) : ∃ n : Int, (Lit.int k n).wf = true ∧ Rep (ctx0 W) v (.d (.v (.int k n))) := by
  obtain ⟨n, rfl, _, _, hw⟩ := ChangeShapes.open_int ht hval hd
  exact ⟨n, hw, .d (.v _ rfl)⟩
theorem arg_list {e : TypeId} {sz : Nat} (hsz0 : 0 < sz) (Good : DV → Prop) (ht : P.underlying t = some (.slice e)) (hsz : P.cellsOf e = sz) (hval : Value.okWide P W r b0 t v) (hd : DataW.Trod enc P W 0 sp held t v d ps)
    (hel : ∀ fuel cs d p, DataW.trod enc P W 0 sp held fuel e cs = some (d, p) → cs.length = sz → ∃ y, Reads W Good sz cs y) : ∃ ys : List DV, (∀ y ∈ ys, Good y) ∧ Rep (ctx0 W) v (.d (.lst sz ys)) := by
  obtain ⟨a, n, cap, rfl⟩ := WideShapes.okWide_slice ht hval
  obtain ⟨fuel, hf⟩ := hd
  cases fuel with
  | zero => cases hf
  | succ fuel =>
    obtain ⟨ys, h1, h2⟩ := rep_slice hsz0 Good ht hsz (hel fuel) hf
    exact ⟨ys, h2, .d h1⟩
end
end
end Go.AV
namespace Go.Proofs.YtdiibbbbdhkepaaGreatDoor
open Go.AV
set_option linter.unusedVariables false
set_option linter.unusedSimpArgs false
theorem Inf3 : tInfo Tryz.prog 3 (Value.int IntKind.i64 (0)) 1 8 := by unfold tInfo; kernel_rfl
theorem Sz3 : (Tryz.prog.info? 3).map (·.size) = some 1 := Inf3.size
theorem ZS3 : (Tryz.prog.info? 3).map (fun i => (i.zero, i.size)) = some (some (Value.int IntKind.i64 (0)), 1) := by kernel_rfl
theorem Inf4 : tInfo Tryz.prog 4 (Value.bool false) 1 1 := by unfold tInfo; kernel_rfl
theorem Sz4 : (Tryz.prog.info? 4).map (·.size) = some 1 := Inf4.size
theorem Inf5 : tInfo Tryz.prog 5 (Value.int IntKind.u8 (0)) 1 1 := by unfold tInfo; kernel_rfl
theorem Sz5 : (Tryz.prog.info? 5).map (·.size) = some 1 := Inf5.size
theorem ZS5 : (Tryz.prog.info? 5).map (fun i => (i.zero, i.size)) = some (some (Value.int IntKind.u8 (0)), 1) := by kernel_rfl
theorem Inf9 : tInfo Tryz.prog 9 (Value.string { data := { toList := [] } }) 1 16 := by unfold tInfo; kernel_rfl
theorem Sz9 : (Tryz.prog.info? 9).map (·.size) = some 1 := Inf9.size
theorem Inf25 : tInfo Tryz.prog 25 (Value.int IntKind.i64 (0)) 1 8 := by unfold tInfo; kernel_rfl
theorem Sz25 : (Tryz.prog.info? 25).map (·.size) = some 1 := Inf25.size
theorem Inf26 : tInfo Tryz.prog 26 (Value.slice none 0 0) 1 24 := by unfold tInfo; kernel_rfl
theorem Sz26 : (Tryz.prog.info? 26).map (·.size) = some 1 := Inf26.size
theorem Inf28 : tInfo Tryz.prog 28 (Value.agg { toList := [Value.int IntKind.i64 (0), Value.int IntKind.i64 (0), Value.int IntKind.i64 (0), Value.string { data := { toList := [] } }, Value.slice none 0 0] }) 5 64 := by unfold tInfo; kernel_rfl
theorem Sz28 : (Tryz.prog.info? 28).map (·.size) = some 5 := Inf28.size
theorem Zr28 : (Tryz.prog.info? 28).map (·.zero) = some (some (Value.agg { toList := [Value.int IntKind.i64 (0), Value.int IntKind.i64 (0), Value.int IntKind.i64 (0), Value.string { data := { toList := [] } }, Value.slice none 0 0] })) := by kernel_rfl
theorem ZS28 : (Tryz.prog.info? 28).map (fun i => (i.zero, i.size)) = some (some (Value.agg { toList := [Value.int IntKind.i64 (0), Value.int IntKind.i64 (0), Value.int IntKind.i64 (0), Value.string { data := { toList := [] } }, Value.slice none 0 0] }), 5) := by kernel_rfl
theorem Zr78 : (Tryz.prog.info? 78).map (·.zero) = some (some (Value.agg { toList := [Value.string { data := { toList := [] } }, Value.bool false] })) := by kernel_rfl
theorem mixed : Tryz.prog.follows .mixedOrders = true := by kernel_rfl
end Go.Proofs.YtdiibbbbdhkepaaGreatDoor
namespace Go.AV.Ord
open Go.Op
def enc1 (c : UInt8) : List UInt8 := if c = 0 then [0, 255] else [c]
def enc0 (l : List UInt8) : List UInt8 := l.flatMap enc1
def encT (l : List UInt8) : List UInt8 := enc0 l ++ [0, 1]
theorem enc1_len (c : UInt8) : 1 ≤ (enc1 c).length ∧ (enc1 c).length ≤ 2 := by unfold enc1; split <;> simp
theorem enc0_len : ∀ l, l.length ≤ (enc0 l).length ∧ (enc0 l).length ≤ 2 * l.length
  | [] => by simp [enc0]
  | c :: l => by
    have h1 := enc1_len c
    have h2 := enc0_len l
    simp only [enc0, List.flatMap_cons, List.length_append, List.length_cons] at h2 ⊢
    omega
theorem encT_len (l : List UInt8) : (encT l).length = (enc0 l).length + 2 := by simp [encT]
theorem take_snoc {α : Type} {l : List α} {k : Nat} {c : α} (h : l[k]? = some c) : l.take (k + 1) = l.take k ++ [c] := by
  rw [List.take_add_one, h]; rfl
theorem less_irrefl : ∀ a : List UInt8, bytesLess a a = false
  | [] => rfl
  | c :: a => by simp [bytesLess, less_irrefl a]
theorem less_append : ∀ (x m o : List UInt8), bytesLess (x ++ m) (x ++ o) = bytesLess m o
  | [], _, _ => rfl
  | c :: x, m, o => by simp [bytesLess, less_append x m o]
theorem less_total : ∀ {a b : List UInt8}, a ≠ b → bytesLess b a = !bytesLess a b
  | [], [], h => absurd rfl h
  | [], _ :: _, _ => by simp [bytesLess]
  | _ :: _, [], _ => by simp [bytesLess]
  | c :: a, d :: b, h => by
    by_cases hcd : c = d
    · subst hcd
      have := less_total (a := a) (b := b) (fun e => h (by rw [e]))
      simp [bytesLess, this]
    · have h1 : (c == d) = false := by simpa using hcd
      have h2 : (d == c) = false := by simpa using Ne.symm hcd
      have hn : c.toNat ≠ d.toNat := fun e => hcd (UInt8.toNat_inj.1 e)
      have h3 : decide (d < c) = !decide (c < d) := by
        by_cases hlt : c < d
        · have : ¬ d < c := by rw [UInt8.lt_iff_toNat_lt] at *; omega
          simp [hlt, this]
        · have : d < c := by rw [UInt8.lt_iff_toNat_lt] at *; omega
          simp [hlt, this]
      simp [bytesLess, h1, h2, h3]
theorem less_ne {a b : List UInt8} (h : bytesLess a b = true) : a ≠ b := by
  intro e; subst e; rw [less_irrefl] at h; cases h
theorem less_asymm {a b : List UInt8} (h : bytesLess a b = true) : bytesLess b a = false := by
  rw [less_total (less_ne h), h]; rfl
theorem less_trans : ∀ {a b c : List UInt8}, bytesLess a b = true → bytesLess b c = true → bytesLess a c = true
  | _, _, [], _, h => by cases ‹List UInt8› <;> simp [bytesLess] at h
  | [], _, _ :: _, _, _ => rfl
  | _ :: _, [], _, h, _ => by simp [bytesLess] at h
  | x :: a, y :: b, z :: c, h, k => by
    simp only [bytesLess, Bool.or_eq_true, decide_eq_true_eq, Bool.and_eq_true, beq_iff_eq] at h k ⊢
    rcases h with h | ⟨rfl, h⟩
    · rcases k with k | ⟨rfl, k⟩
      · exact .inl (by rw [UInt8.lt_iff_toNat_lt] at *; omega)
      · exact .inl h
    · rcases k with k | ⟨rfl, k⟩
      · exact .inl k
      · exact .inr ⟨rfl, less_trans h k⟩
theorem less_ext : ∀ {a b : List UInt8}, a.length = b.length → bytesLess a b = true → ∀ m o, bytesLess (a ++ m) (b ++ o) = true
  | [], [], _, h => by simp [bytesLess] at h
  | x :: a, y :: b, hl, h => by
    intro m o
    simp only [bytesLess, Bool.or_eq_true, decide_eq_true_eq, Bool.and_eq_true, beq_iff_eq, List.cons_append] at h ⊢
    rcases h with h | ⟨rfl, h⟩
    · exact .inl h
    · exact .inr ⟨rfl, less_ext (by simpa using hl) h m o⟩
  | [], _ :: _, hl, _ => by simp at hl
  | _ :: _, [], hl, _ => by simp at hl
theorem pos_of_ne {c : UInt8} (h : c ≠ 0) : 0 < c := by
  rw [UInt8.lt_iff_toNat_lt]
  have : c.toNat ≠ 0 := fun e => h (UInt8.toNat_inj.1 (by simpa using e))
  simpa using Nat.pos_of_ne_zero this
theorem not_lt_zero (c : UInt8) : ¬ c < 0 := by rw [UInt8.lt_iff_toNat_lt]; simp
theorem encT_cons (c : UInt8) (l : List UInt8) : encT (c :: l) = enc1 c ++ encT l := by simp [encT, enc0]
theorem less_encT : ∀ {a b : List UInt8}, a ≠ b → ∀ m o, bytesLess (encT a ++ m) (encT b ++ o) = bytesLess a b
  | [], [], h, _, _ => absurd rfl h
  | [], d :: b, _, m, o => by
    rw [encT_cons]
    by_cases hd : d = 0
    · subst hd; simp [encT, enc0, enc1, bytesLess]
    · have := pos_of_ne hd
      simp [encT, enc0, enc1, bytesLess, hd, this]
  | c :: a, [], _, m, o => by
    rw [encT_cons]
    by_cases hc : c = 0
    · subst hc; simp [encT, enc0, enc1, bytesLess]
    · have := not_lt_zero c
      simp [encT, enc0, enc1, bytesLess, hc, this]
  | c :: a, d :: b, h, m, o => by
    rw [encT_cons, encT_cons]
    by_cases hcd : c = d
    · subst hcd
      rw [List.append_assoc, List.append_assoc, less_append, less_encT (fun e => h (by rw [e]))]
      simp [bytesLess]
    · have hb : (c == d) = false := by simpa using hcd
      by_cases hc : c = 0
      · subst hc
        have hd : d ≠ 0 := fun e => hcd e.symm
        have := pos_of_ne hd
        simp [enc1, bytesLess, hd, this]
      · by_cases hd : d = 0
        · subst hd
          have := not_lt_zero c
          simp [enc1, bytesLess, hc, hb, this]
        · simp [enc1, hc, hd, bytesLess, hb]
theorem encT_inj {a b : List UInt8} {m o : List UInt8} (h : encT a ++ m = encT b ++ o) : a = b := by
  by_cases hab : a = b
  · exact hab
  · have h1 := less_encT hab m o
    rw [h, less_irrefl] at h1
    have h2 := less_encT (Ne.symm hab) m m
    have h3 := less_total hab
    rw [← h1] at h3
    have h4 := less_encT (Ne.symm hab) o m
    rw [← h, less_irrefl] at h4
    rw [← h4] at h3
    simp at h3
def byL (a b : List UInt8) : Int := if bytesLess a b then -1 else if !(bytesLess a b || a == b) then 1 else 0
theorem byL_append (x m o : List UInt8) : byL (x ++ m) (x ++ o) = byL m o := by
  have : (x ++ m == x ++ o) = (m == o) := by
    rw [Bool.eq_iff_iff]
    simp only [beq_iff_eq]
    exact ⟨fun e => List.append_cancel_left e, fun e => by rw [e]⟩
  simp only [byL, less_append, this]
theorem byL_self (a : List UInt8) : byL a a = 0 := by simp [byL, less_irrefl]
theorem byL_lt {a b : List UInt8} (h : bytesLess a b = true) : byL a b = -1 := by simp [byL, h]
theorem byL_gt {a b : List UInt8} (h : bytesLess b a = true) : byL a b = 1 := by
  have h1 := less_asymm h
  have h2 : (a == b) = false := by simpa using (less_ne h).symm
  simp [byL, h1, h2]
def be : Nat → Nat → List UInt8
  | 0, _ => []
  | k + 1, x => UInt8.ofNat (x / 256 ^ k % 256) :: be k x
theorem be_len : ∀ k x, (be k x).length = k
  | 0, _ => rfl
  | k + 1, x => by simp [be, be_len k]
theorem be_mod (k : Nat) : ∀ j x, j ≤ k → be j (x % 256 ^ k) = be j x
  | 0, _, _ => rfl
  | j + 1, x, h => by
    have : x % 256 ^ k / 256 ^ j % 256 = x / 256 ^ j % 256 := by
      have e : (256 : Nat) ^ k = 256 ^ j * (256 * 256 ^ (k - (j + 1))) := by
        rw [← Nat.mul_assoc, ← Nat.pow_succ, ← Nat.pow_add]
        congr 1
        omega
      rw [e, Nat.mod_mul_right_div_self, Nat.mod_mul_right_mod]
    rw [be, be, this, be_mod k j x (by omega)]
theorem ofNat_lt {m n : Nat} (hm : m < 256) (hn : n < 256) : (UInt8.ofNat m < UInt8.ofNat n) ↔ m < n := by
  rw [UInt8.lt_iff_toNat_lt]
  simp [UInt8.toNat_ofNat', Nat.mod_eq_of_lt hm, Nat.mod_eq_of_lt hn]
theorem be_less : ∀ k x y, x < 256 ^ k → y < 256 ^ k → x < y → bytesLess (be k x) (be k y) = true
  | 0, x, y, hx, hy, h => by simp at hx hy; omega
  | k + 1, x, y, hx, hy, h => by
    have hp : 0 < 256 ^ k := Nat.pow_pos (by decide)
    have h1 : x / 256 ^ k < 256 := by rw [Nat.div_lt_iff_lt_mul hp]; rw [Nat.pow_succ] at hx; omega
    have h2 : y / 256 ^ k < 256 := by rw [Nat.div_lt_iff_lt_mul hp]; rw [Nat.pow_succ] at hy; omega
    have h3 : x / 256 ^ k ≤ y / 256 ^ k := Nat.div_le_div_right (Nat.le_of_lt h)
    simp only [be, bytesLess, Nat.mod_eq_of_lt h1, Nat.mod_eq_of_lt h2, Bool.or_eq_true, decide_eq_true_eq, Bool.and_eq_true, beq_iff_eq]
    by_cases he : x / 256 ^ k = y / 256 ^ k
    · refine .inr ⟨by rw [he], ?_⟩
      have hx' := be_mod k k x (Nat.le_refl _)
      have hy' := be_mod k k y (Nat.le_refl _)
      rw [← hx', ← hy']
      refine be_less k _ _ (Nat.mod_lt _ hp) (Nat.mod_lt _ hp) ?_
      have e1 := Nat.div_add_mod x (256 ^ k)
      have e2 := Nat.div_add_mod y (256 ^ k)
      rw [he] at e1
      omega
    · exact .inl ((ofNat_lt h1 h2).2 (by omega))
def off (n : Int) : Nat := (n + 9223372036854775808).toNat
def i64 (n : Int) : Prop := -9223372036854775808 ≤ n ∧ n ≤ 9223372036854775807
def val (l : List UInt8) : Nat := l.foldl (fun x c => x * 256 + c.toNat) 0
theorem val_snoc (l : List UInt8) (c : UInt8) : val (l ++ [c]) = val l * 256 + c.toNat := by simp [val]
theorem val_from : ∀ (l : List UInt8) (x : Nat), l.foldl (fun x c => x * 256 + c.toNat) x = x * 256 ^ l.length + val l
  | [], x => by simp [val]
  | c :: l, x => by
    have h1 := val_from l (x * 256 + c.toNat)
    have h2 := val_from l (0 * 256 + c.toNat)
    simp only [val, List.foldl_cons, List.length_cons, Nat.pow_succ] at h1 h2 ⊢
    rw [h1, h2]
    simp only [Nat.zero_mul, Nat.zero_add, Nat.add_mul]
    rw [Nat.mul_comm (256 ^ l.length) 256, Nat.mul_assoc]
    omega
theorem val_cons (c : UInt8) (l : List UInt8) : val (c :: l) = c.toNat * 256 ^ l.length + val l := by
  have := val_from l (0 * 256 + c.toNat)
  simpa [val] using this
theorem val_lt : ∀ l : List UInt8, val l < 256 ^ l.length
  | [] => by simp [val]
  | c :: l => by
    have h1 := val_lt l
    have h2 := c.toNat_lt
    rw [val_cons, List.length_cons, Nat.pow_succ]
    have h3 : c.toNat * 256 ^ l.length ≤ 255 * 256 ^ l.length := Nat.mul_le_mul_right _ (by omega)
    omega
theorem val_be : ∀ k x, x < 256 ^ k → val (be k x) = x
  | 0, x, h => by simp at h; subst h; rfl
  | k + 1, x, h => by
    have hp : 0 < 256 ^ k := Nat.pow_pos (by decide)
    have h1 : x / 256 ^ k < 256 := by rw [Nat.div_lt_iff_lt_mul hp]; rw [Nat.pow_succ] at h; omega
    rw [be, val_cons, be_len, ← be_mod k k x (Nat.le_refl _), val_be k _ (Nat.mod_lt _ hp), Nat.mod_eq_of_lt h1]
    have : (UInt8.ofNat (x / 256 ^ k)).toNat = x / 256 ^ k := by rw [UInt8.toNat_ofNat']; exact Nat.mod_eq_of_lt h1
    rw [this, Nat.mul_comm]
    exact Nat.div_add_mod x (256 ^ k)
theorem be_val : ∀ l : List UInt8, be l.length (val l) = l
  | [] => rfl
  | c :: l => by
    have hp : 0 < 256 ^ l.length := Nat.pow_pos (by decide)
    have h1 := val_lt l
    rw [List.length_cons, be, val_cons]
    have e1 : (c.toNat * 256 ^ l.length + val l) / 256 ^ l.length = c.toNat := by
      rw [Nat.add_comm, Nat.add_mul_div_right _ _ hp, Nat.div_eq_of_lt h1]; omega
    have e2 : (c.toNat * 256 ^ l.length + val l) % 256 ^ l.length = val l := by
      rw [Nat.add_comm, Nat.add_mul_mod_self_right, Nat.mod_eq_of_lt h1]
    rw [e1, ← be_mod l.length l.length _ (Nat.le_refl _), e2, be_val l]
    have := c.toNat_lt
    rw [Nat.mod_eq_of_lt (by omega), UInt8.ofNat_toNat]
def afterN (l : List UInt8) : Nat → Option (List UInt8)
  | 0 => none
  | n + 1 => match l[n]? with
    | some c => if c.toNat < 255 then some (l.take n ++ [c + 1]) else afterN l n
    | none => none
def after (l : List UInt8) : Option (List UInt8) := afterN l l.length
def begins (a b : List UInt8) : Bool := decide (b.length ≤ a.length) && (a.take b.length == b)
end Go.AV.Ord
namespace Go.AV.Ord
theorem or_byte {x c : Nat} (hx : x < 256 ^ 7) (hc : c < 256) : IntKind.u64.wrap ((BitVec.ofInt IntKind.u64.bits ((x : Int) * 256) ||| BitVec.ofInt IntKind.u64.bits (c : Int)).toNat : Int) = ((x * 256 + c : Nat) : Int) := by
  have hx' : x < 72057594037927936 := by simpa using hx
  have hb : IntKind.u64.bits = 64 := rfl
  have e1 : (BitVec.ofInt IntKind.u64.bits ((x : Int) * 256)).toNat = 2 ^ 8 * x := by
    rw [hb, BitVec.toNat_ofInt]
    omega
  have e2 : (BitVec.ofInt IntKind.u64.bits (c : Int)).toNat = c := by
    rw [hb, BitVec.toNat_ofInt]
    omega
  rw [BitVec.toNat_or, e1, e2, ← Nat.two_pow_add_eq_or_of_lt (by simpa using hc), wrap_u64 (by omega)]
  omega
end Go.AV.Ord
namespace Go.AV.Ord
def keyL (ps : List (List UInt8)) : List UInt8 := ps.flatMap encT
theorem keyL_le : ∀ ps : List (List UInt8), (keyL ps).length ≤ 2 * (ps.map List.length).sum + 2 * ps.length
  | [] => by simp [keyL]
  | p :: ps => by
    have h1 := keyL_le ps
    have h2 := enc0_len p
    have h3 := encT_len p
    simp only [keyL, List.flatMap_cons, List.length_append, List.map_cons, List.sum_cons, List.length_cons] at h1 ⊢
    omega
theorem sum_take_le : ∀ (ls : List Nat) (k : Nat) (x : Nat), ls[k]? = some x → (ls.take k).sum + x ≤ ls.sum
  | [], k, x, h => by simp at h
  | y :: ls, 0, x, h => by simp at h; subst h; simp
  | y :: ls, k + 1, x, h => by
    have := sum_take_le ls k x (by simpa using h)
    simp only [List.take_succ_cons, List.sum_cons]
    omega
end Go.AV.Ord
namespace Go.AV.Ord
theorem be_get : ∀ (k x j : Nat), j < k → (be k x)[j]? = some (UInt8.ofNat (x / 256 ^ (k - 1 - j) % 256))
  | 0, _, _, h => by omega
  | k + 1, x, 0, _ => by simp [be]
  | k + 1, x, j + 1, h => by
    have := be_get k x j (by omega)
    rw [be, List.getElem?_cons_succ, this]
    have e : k - 1 - j = k + 1 - 1 - (j + 1) := by omega
    rw [e]
theorem shr_off (X : Nat) {j : Nat} (h : j < 8) : ((X : Nat) : Int).fdiv (2 ^ (min ((8 : Int) * (7 - (j : Int))).toNat IntKind.u64.bits)) = ((X / 256 ^ (7 - j) : Nat) : Int) := by
  have e1 : min ((8 : Int) * (7 - (j : Int))).toNat IntKind.u64.bits = 8 * (7 - j) := by
    have : IntKind.u64.bits = 64 := rfl
    rw [this]
    omega
  have e2 : (2 : Int) ^ (8 * (7 - j)) = ((256 ^ (7 - j) : Nat) : Int) := by
    rw [show (256 : Nat) = 2 ^ 8 from rfl, ← Nat.pow_mul]
    exact (Int.natCast_pow 2 _).symm
  rw [e1, e2, Int.fdiv_eq_ediv_of_nonneg _ (Int.natCast_nonneg _)]
  rfl
theorem shl8 {x : Nat} (h : x < 256 ^ 7) : IntKind.u64.wrap ((x : Int) * 2 ^ (min (8 : Int).toNat IntKind.u64.bits)) = (x : Int) * 256 := by
  have h' : x < 72057594037927936 := by simpa using h
  have : (2 : Int) ^ (min (8 : Int).toNat IntKind.u64.bits) = 256 := by decide
  rw [this, wrap_u64 (by omega)]
theorem conv_byte (q : Nat) : IntKind.u8.wrap ((q : Nat) : Int) = ((UInt8.ofNat (q % 256)).toNat : Int) := by
  have : IntKind.u8.wrap ((q : Nat) : Int) = ((q : Nat) : Int) % 256 := by simp [IntKind.wrap, IntKind.bits, IntKind.signed]
  rw [this, UInt8.toNat_ofNat']
  omega
theorem afterN_succ {l : List UInt8} {n : Nat} {c : UInt8} (h : l[n]? = some c) : afterN l (n + 1) = if c.toNat < 255 then some (l.take n ++ [c + 1]) else afterN l n := by
  rw [afterN, h]
theorem byte_succ {c : UInt8} (h : c.toNat < 255) : ((c.toNat : Nat) : Int) + 1 = ((c + 1).toNat : Int) := by
  rw [UInt8.toNat_add]
  have : (1 : UInt8).toNat = 1 := rfl
  rw [this]
  omega
end Go.AV.Ord
namespace Go.AV.Ord
open Go.Op
theorem wf_i64 {n : Int} (h : (Lit.int .i64 n).wf = true) : i64 n := by
  have hb : IntKind.i64.min = -9223372036854775808 ∧ IntKind.i64.max = 9223372036854775807 := by decide
  simp only [Lit.wf, Bool.and_eq_true, decide_eq_true_eq, hb.1, hb.2] at h
  exact h
def aft : List UInt8 → Option (List UInt8)
  | [] => none
  | c :: p => match aft p with
    | some x => some (c :: x)
    | none => if c.toNat < 255 then some [c + 1] else none
theorem aft_snoc (c : UInt8) : ∀ l : List UInt8, aft (l ++ [c]) = if c.toNat < 255 then some (l ++ [c + 1]) else aft l
  | [] => by simp [aft]
  | d :: l => by
    rw [List.cons_append, aft, aft_snoc c l]
    by_cases h : c.toNat < 255
    · simp [h]
    · simp only [h, if_false]
      rfl
theorem afterN_eq (l : List UInt8) : ∀ k, k ≤ l.length → afterN l k = aft (l.take k)
  | 0, _ => by simp [afterN, aft]
  | k + 1, h => by
    have hc : l[k]? = some l[k] := by simp [show k < l.length by omega]
    rw [afterN_succ hc, take_snoc hc, aft_snoc, afterN_eq l k (by omega)]
theorem aft_none : ∀ l : List UInt8, (aft l).isSome = !(l.all fun c => c == 255)
  | [] => rfl
  | c :: l => by
    have ih := aft_none l
    rw [aft, List.all_cons]
    cases h : aft l with
    | some x => rw [h] at ih; simp at ih; simp [ih]
    | none =>
      rw [h] at ih
      have hl : (l.all fun c => c == 255) = true := by simpa using ih
      by_cases hc : c.toNat < 255
      · have : (c == 255) = false := by
          have : c ≠ 255 := by intro e; subst e; exact absurd hc (by decide)
          simpa using this
        simp [hc, this]
      · have : c = 255 := UInt8.toNat_inj.1 (by have := c.toNat_lt; show c.toNat = 255; omega)
        subst this
        simp [hl]
theorem begins_iff {a b : List UInt8} : begins a b = true ↔ ∃ r, a = b ++ r := by
  simp only [begins, Bool.and_eq_true, decide_eq_true_eq, beq_iff_eq]
  constructor
  · rintro ⟨_, h⟩
    exact ⟨a.drop b.length, by have := List.take_append_drop b.length a; rw [h] at this; exact this.symm⟩
  · rintro ⟨r, rfl⟩
    simp
theorem begins_cons (c d : UInt8) (a b : List UInt8) : begins (c :: a) (d :: b) = (c == d && begins a b) := by
  rw [Bool.eq_iff_iff]
  simp only [begins_iff, Bool.and_eq_true, beq_iff_eq, List.cons_append, List.cons.injEq]
  constructor
  · rintro ⟨r, rfl, rfl⟩; exact ⟨rfl, r, rfl⟩
  · rintro ⟨rfl, r, rfl⟩; exact ⟨r, rfl, rfl⟩
theorem begins_nil (a : List UInt8) : begins a [] = true := begins_iff.2 ⟨a, rfl⟩
theorem nil_begins (c : UInt8) (a : List UInt8) : begins [] (c :: a) = false := by simp [begins]
theorem aft_all : ∀ (p s : List UInt8), aft p = none → (bytesLess s p || begins s p) = true
  | [], s, _ => by simp [begins_nil]
  | c :: p, s, h => by
    have h2 : aft p = none ∧ c = 255 := by
      rw [aft] at h
      cases hp : aft p with
      | some x => rw [hp] at h; cases h
      | none =>
        rw [hp] at h
        refine ⟨rfl, UInt8.toNat_inj.1 ?_⟩
        have := c.toNat_lt
        by_cases hc : c.toNat < 255
        · simp [hc] at h
        · show c.toNat = 255; omega
    obtain ⟨h2, rfl⟩ := h2
    cases s with
    | nil => simp [bytesLess]
    | cons d s =>
      have ih := aft_all p s h2
      rw [begins_cons]
      by_cases hd : d = 255
      · subst hd; simpa [bytesLess] using ih
      · have : d < 255 := by
          rw [UInt8.lt_iff_toNat_lt]
          have := d.toNat_lt
          have h3 : d.toNat ≠ 255 := fun e => hd (UInt8.toNat_inj.1 e)
          show d.toNat < 255
          omega
        simp [bytesLess, this]
theorem lt_succ {c : UInt8} (h : c.toNat < 255) (d : UInt8) : d < c + 1 ↔ d.toNat ≤ c.toNat := by
  rw [UInt8.lt_iff_toNat_lt]
  have := byte_succ h
  omega
theorem aft_above : ∀ {p a : List UInt8}, aft p = some a → ∀ r, bytesLess (p ++ r) a = true
  | [], a, h, _ => by cases h
  | c :: p, a, h, r => by
    rw [aft] at h
    cases hp : aft p with
    | some x =>
      rw [hp] at h
      cases h
      have := aft_above hp r
      simp [bytesLess, this]
    | none =>
      rw [hp] at h
      by_cases hc : c.toNat < 255
      · simp [hc] at h
        subst h
        have := (lt_succ hc c).2 (Nat.le_refl _)
        simp [bytesLess, this]
      · simp [hc] at h
theorem aft_below : ∀ {p a s : List UInt8}, aft p = some a → bytesLess s p = false → bytesLess s a = true → begins s p = true
  | [], a, s, h, _, _ => by cases h
  | c :: p, a, [], h, h1, _ => by simp [bytesLess] at h1
  | c :: p, a, d :: s, h, h1, h2 => by
    rw [begins_cons]
    rw [aft] at h
    simp only [bytesLess, Bool.or_eq_false_iff, decide_eq_false_iff_not, Bool.and_eq_false_iff] at h1
    cases hp : aft p with
    | some x =>
      rw [hp] at h
      cases h
      simp only [bytesLess, Bool.or_eq_true, decide_eq_true_eq, Bool.and_eq_true, beq_iff_eq] at h2
      rcases h2 with h2 | ⟨rfl, h2⟩
      · exact absurd h2 h1.1
      · have h3 : bytesLess s p = false := by
          rcases h1.2 with h | h
          · simp at h
          · exact h
        simp [aft_below hp h3 h2]
    | none =>
      rw [hp] at h
      by_cases hc : c.toNat < 255
      · simp [hc] at h
        subst h
        have hd : d.toNat ≤ c.toNat := by
          cases s <;> simp only [bytesLess, Bool.or_eq_true, decide_eq_true_eq, Bool.and_eq_true, beq_iff_eq] at h2
          all_goals
            rcases h2 with h2 | ⟨_, h2⟩
            · exact (lt_succ hc d).1 h2
            · cases h2
        have hdc : d = c := UInt8.toNat_inj.1 (by
          have := h1.1
          rw [UInt8.lt_iff_toNat_lt] at this
          omega)
        subst hdc
        have h3 : bytesLess s p = false := by
          rcases h1.2 with h | h
          · simp at h
          · exact h
        have h4 := aft_all p s hp
        rw [h3] at h4
        simpa using h4
      · simp [hc] at h
theorem aft_not : ∀ {p a : List UInt8}, aft p = some a → begins a p = false
  | [], a, h => by cases h
  | c :: p, a, h => by
    rw [aft] at h
    cases hp : aft p with
    | some x =>
      rw [hp] at h
      cases h
      simp [begins_cons, aft_not hp]
    | none =>
      rw [hp] at h
      by_cases hc : c.toNat < 255
      · simp [hc] at h
        subst h
        have : ¬ c + 1 = c := by
          intro e
          have := byte_succ hc
          rw [e] at this
          omega
        simp [begins_cons, this]
      · simp [hc] at h
end Go.AV.Ord
namespace Go.AV.Ord
open Go.Op
theorem encT_ne (l : List UInt8) : ∃ c r, encT l = c :: r := by
  cases l with
  | nil => exact ⟨0, [1], rfl⟩
  | cons c l => rw [encT_cons]; unfold enc1; split <;> exact ⟨_, _, rfl⟩
def pref : List (List UInt8) → List (List UInt8) → Bool
  | [], _ => true
  | _ :: _, [] => false
  | a :: as1, b :: bs => a == b && pref as1 bs
theorem begins_encT {a b : List UInt8} {x y : List UInt8} : begins (encT a ++ x) (encT b ++ y) = (a == b && begins x y) := by
  rw [Bool.eq_iff_iff]
  constructor
  · intro h
    obtain ⟨r, hr⟩ := begins_iff.1 h
    rw [List.append_assoc] at hr
    have e := encT_inj hr
    subst e
    rw [List.append_cancel_left hr]
    simp [begins_iff]
  · intro h
    simp only [Bool.and_eq_true, beq_iff_eq] at h
    obtain ⟨rfl, h⟩ := h
    obtain ⟨r, rfl⟩ := begins_iff.1 h
    exact begins_iff.2 ⟨r, by simp⟩
theorem begins_keyL : ∀ (b a : List (List UInt8)), begins (keyL b) (keyL a) = pref a b
  | b, [] => by simp [keyL, begins_nil, pref]
  | [], a :: as1 => by
    obtain ⟨c, r, h⟩ := encT_ne a
    simp [keyL, h, nil_begins, pref]
  | b :: bs, a :: as1 => by
    have h := begins_keyL bs as1
    simp only [keyL, List.flatMap_cons] at h ⊢
    rw [begins_encT, h, pref]
    by_cases e : b = a
    · subst e; simp
    · rw [beq_eq_false_iff_ne.2 e, beq_eq_false_iff_ne.2 (Ne.symm e)]
theorem aft_some {l : List UInt8} {c : UInt8} (h : c ∈ l) (hc : c ≠ 255) : (aft l).isSome = true := by
  rw [aft_none]
  simp only [Bool.not_eq_true', List.all_eq_false]
  exact ⟨c, h, by simpa using hc⟩
theorem aft_keyL (a : List (List UInt8)) : (aft (keyL a)).isSome = !a.isEmpty := by
  cases a with
  | nil => rfl
  | cons x xs => exact aft_some (c := 1) (by simp [keyL, encT]) (by decide)
theorem pref_take (a b : List (List UInt8)) (k : Nat) {x y : List UInt8} (hx : a[k]? = some x) (hy : b[k]? = some y) : pref (a.take (k + 1)) b = (pref (a.take k) b && x == y) := by
  induction k generalizing a b with
  | zero =>
    cases a <;> cases b <;> simp_all [pref]
  | succ k ih =>
    cases a with
    | nil => simp at hx
    | cons c as1 =>
      cases b with
      | nil => simp at hy
      | cons d bs =>
        simp only [List.getElem?_cons_succ] at hx hy
        have := ih as1 bs hx hy
        simp only [List.take_succ_cons, pref] at this ⊢
        rw [this, Bool.and_assoc]
theorem sum_short : ∀ {l : List (List UInt8)}, (∀ x ∈ l, x.length ≤ 40) → (l.map List.length).sum ≤ 40 * l.length
  | [], _ => by simp
  | x :: l, h => by
    have h1 := h x (by simp)
    have h2 := sum_short (l := l) fun y hy => h y (by simp [hy])
    simp only [List.map_cons, List.sum_cons, List.length_cons]
    omega
theorem pref_len : ∀ {a b : List (List UInt8)}, b.length < a.length → pref a b = false
  | [], _, h => by simp at h
  | _ :: _, [], _ => rfl
  | a :: as1, b :: bs, h => by
    have := pref_len (a := as1) (b := bs) (by simpa using h)
    simp [pref, this]
theorem pref_none {a b : List (List UInt8)} {k : Nat} (h : pref (a.take k) b = false) : pref a b = false := by
  induction k generalizing a b with
  | zero => simp [pref] at h
  | succ k ih =>
    cases a with
    | nil => simp [pref] at h
    | cons c as1 =>
      cases b with
      | nil => rfl
      | cons d bs =>
        simp only [List.take_succ_cons, pref] at h ⊢
        cases hc : (c == d) with
        | false => simp
        | true => rw [hc] at h; simpa using ih (by simpa using h)
end Go.AV.Ord
namespace Go.AV.Ord
open Go.Op
end Go.AV.Ord
namespace Go.AV.Ord
open Go.Op
def cutL : List UInt8 → Option (List UInt8 × List UInt8)
  | [] => none
  | c :: r => if c = 0 then match r with
      | [] => none
      | d :: r => if d = 1 then some ([], r) else if d = 255 then (cutL r).map fun p => (0 :: p.1, p.2) else none
    else (cutL r).map fun p => (c :: p.1, p.2)
theorem cutL_ne {c : UInt8} (r : List UInt8) (h : c ≠ 0) : cutL (c :: r) = (cutL r).map fun p => (c :: p.1, p.2) := by
  rw [cutL.eq_def]
  simp only []
  rw [if_neg h]
theorem cutL_0 (d : UInt8) (r : List UInt8) : cutL (0 :: d :: r) = if d = 1 then some ([], r) else if d = 255 then (cutL r).map fun p => (0 :: p.1, p.2) else none := by
  rw [cutL.eq_def]
  simp only [if_true]
theorem cutL_00 : cutL [0] = none := rfl
theorem cut_encT : ∀ (a r : List UInt8), cutL (encT a ++ r) = some (a, r)
  | [], r => rfl
  | c :: a, r => by
    have ih := cut_encT a r
    rw [encT_cons, List.append_assoc]
    unfold enc1
    by_cases hc : c = 0
    · subst hc
      rw [if_pos rfl]
      show cutL (0 :: 255 :: (encT a ++ r)) = _
      rw [cutL_0, if_neg (by decide), if_pos rfl]
      simp [ih]
    · rw [if_neg hc]
      show cutL (c :: (encT a ++ r)) = _
      rw [cutL_ne _ hc]
      simp [ih]
theorem encT_cut : ∀ (n : Nat) (k a r : List UInt8), k.length ≤ n → cutL k = some (a, r) → encT a ++ r = k
  | 0, [], a, r, _, h => by simp [cutL] at h
  | 0, c :: k, a, r, hl, h => by simp at hl
  | n + 1, [], a, r, _, h => by simp [cutL] at h
  | n + 1, c :: k, a, r, hl, h => by
    by_cases hc : c = 0
    · subst hc
      match k, hl, h with
      | [], _, h => simp [cutL_00] at h
      | d :: k, hl, h =>
        rw [cutL_0] at h
        by_cases h1 : d = 1
        · subst h1
          simp at h
          obtain ⟨rfl, rfl⟩ := h
          rfl
        · rw [if_neg h1] at h
          by_cases h2 : d = 255
          · subst h2
            rw [if_pos rfl, Option.map_eq_some_iff] at h
            obtain ⟨⟨a', r'⟩, h3, h4⟩ := h
            cases h4
            rw [encT_cons]
            have := encT_cut n k a' r' (by simp at hl; omega) h3
            simp [enc1, this]
          · rw [if_neg h2] at h
            cases h
    · rw [cutL_ne _ hc, Option.map_eq_some_iff] at h
      obtain ⟨⟨a', r'⟩, h3, h4⟩ := h
      cases h4
      rw [encT_cons]
      have := encT_cut n k a' r' (by simp at hl; omega) h3
      simp [enc1, hc, this]
theorem cutL_iff {k a r : List UInt8} : cutL k = some (a, r) ↔ k = encT a ++ r :=
  ⟨fun h => (encT_cut _ k a r (Nat.le_refl _) h).symm, fun h => h ▸ cut_encT a r⟩
theorem drop_one {α : Type} {l : List α} {i : Nat} {c : α} (h : l[i]? = some c) : l.drop i = c :: l.drop (i + 1) := by
  obtain ⟨h1, rfl⟩ := List.getElem?_eq_some_iff.1 h
  rw [List.drop_eq_getElem_cons h1]
def partsN : Nat → List UInt8 → Option (List (List UInt8))
  | _, [] => some []
  | 0, _ :: _ => none
  | n + 1, k@(_ :: _) => (cutL k).bind fun p => (partsN n p.2).map (p.1 :: ·)
theorem cutL_len {k a r : List UInt8} (h : cutL k = some (a, r)) : r.length + 2 ≤ k.length := by
  rw [cutL_iff.1 h]
  have := encT_len a
  simp; omega
theorem partsN_fuel : ∀ (n m : Nat) (k : List UInt8), k.length ≤ n → k.length ≤ m → partsN n k = partsN m k
  | n, m, [], _, _ => by cases n <;> cases m <;> rfl
  | 0, _, _ :: _, h, _ => by simp at h
  | _, 0, _ :: _, _, h => by simp at h
  | n + 1, m + 1, c :: k, h, h' => by
    simp only [partsN]
    cases hc : cutL (c :: k) with
    | none => rfl
    | some p =>
      have := cutL_len (a := p.1) (r := p.2) hc
      simp only [Option.bind_some]
      rw [partsN_fuel n m p.2 (by omega) (by omega)]
def partsL (k : List UInt8) : Option (List (List UInt8)) := partsN k.length k
theorem partsL_nil : partsL [] = some [] := rfl
theorem partsL_step {k : List UInt8} (h : k ≠ []) : partsL k = (cutL k).bind fun p => (partsL p.2).map (p.1 :: ·) := by
  unfold partsL
  match k, h with
  | c :: k, _ =>
    simp only [List.length_cons, partsN]
    cases hc : cutL (c :: k) with
    | none => rfl
    | some p =>
      have := cutL_len (a := p.1) (r := p.2) hc
      simp only [Option.bind_some]
      rw [partsN_fuel k.length p.2.length p.2 (by simp at this; omega) (by omega)]
theorem parts_keyL : ∀ ps : List (List UInt8), partsL (keyL ps) = some ps
  | [] => rfl
  | p :: ps => by
    have hk : keyL (p :: ps) = encT p ++ keyL ps := by simp [keyL]
    have hne : keyL (p :: ps) ≠ [] := by rw [hk]; simp [encT]
    rw [partsL_step hne, hk, cut_encT]
    simp [parts_keyL ps]
theorem keyL_parts : ∀ (n : Nat) (k : List UInt8) (ps : List (List UInt8)), k.length ≤ n → partsL k = some ps → keyL ps = k
  | n, [], ps, _, h => by simp [partsL_nil] at h; subst h; rfl
  | 0, _ :: _, _, h, _ => by simp at h
  | n + 1, c :: k, ps, hl, h => by
    rw [partsL_step (by simp)] at h
    cases hc : cutL (c :: k) with
    | none => rw [hc] at h; cases h
    | some p =>
      rw [hc] at h
      simp only [Option.bind_some, Option.map_eq_some_iff] at h
      obtain ⟨qs, h1, rfl⟩ := h
      have h2 := cutL_len (a := p.1) (r := p.2) hc
      have h3 := keyL_parts n p.2 qs (by simp at hl h2; omega) h1
      have h4 := (cutL_iff (a := p.1) (r := p.2)).1 hc
      rw [h4]
      simp [keyL] at h3 ⊢
      exact h3
end Go.AV.Ord
namespace Go.AV.Ord
def partsA (k : List UInt8) : List (List UInt8) := (partsL k).getD []
def partsE (k : List UInt8) : Int := if (partsL k).isSome then 0 else 2
end Go.AV.Ord
namespace Go.AV.Ord
theorem keyL_ne {p : List UInt8} {ps : List (List UInt8)} : keyL (p :: ps) ≠ [] := by simp [keyL, encT]
theorem byL_nil : ∀ b : List (List UInt8), byL (keyL []) (keyL b) = if b = [] then 0 else -1
  | [] => by simp [byL_self]
  | p :: ps => by
    have h : keyL (p :: ps) ≠ [] := keyL_ne
    cases hk : keyL (p :: ps) with
    | nil => exact absurd hk h
    | cons c r => simp [byL, keyL, Go.Op.bytesLess]
theorem nil_byL : ∀ b : List (List UInt8), byL (keyL b) (keyL []) = if b = [] then 0 else 1
  | [] => by simp [byL_self]
  | p :: ps => by
    have h : keyL (p :: ps) ≠ [] := keyL_ne
    cases hk : keyL (p :: ps) with
    | nil => exact absurd hk h
    | cons c r => simp [byL, keyL, Go.Op.bytesLess]
end Go.AV.Ord
namespace Go.AV.Ord
end Go.AV.Ord
namespace Go.AV.Ord
theorem keyL_ge : ∀ ps : List (List UInt8), (ps.map List.length).sum + 2 * ps.length ≤ (keyL ps).length
  | [] => by simp
  | p :: ps => by
    have h1 := keyL_ge ps
    have h2 := encT_len p
    have h3 := enc0_len p
    simp only [keyL, List.flatMap_cons, List.length_append, List.map_cons, List.sum_cons, List.length_cons] at h1 ⊢
    omega
theorem parts_none {k : List UInt8} (h : ¬ partsE k = 0) : partsL k = none := by
  unfold partsE at h
  cases hp : partsL k with
  | none => rfl
  | some ps => simp [hp] at h
theorem parts_back {k : List UInt8} (h : partsE k = 0) : keyL (partsA k) = k := by
  unfold partsE at h
  cases hp : partsL k with
  | none => simp [hp] at h
  | some ps => simp only [partsA, hp, Option.getD_some]; exact keyL_parts _ k ps (Nat.le_refl _) hp
end Go.AV.Ord
namespace Go.AV.Oct
open Go.AV.Ord
def szN (x : Nat) : Nat := if h : x = 0 then 0 else szN (x / 256) + 1
termination_by x
decreasing_by omega
theorem szN_zero : szN 0 = 0 := by unfold szN; rfl
theorem szN_pos {x : Nat} (h : x ≠ 0) : szN x = szN (x / 256) + 1 := by rw [szN]; simp [h]
theorem szN_le : ∀ (k x : Nat), x < 256 ^ k → szN x ≤ k
  | 0, x, h => by have : x = 0 := by simpa using h
                  subst this; rw [szN_zero]; exact Nat.le_refl _
  | k + 1, x, h => by
    by_cases hx : x = 0
    · subst hx; rw [szN_zero]; omega
    · rw [szN_pos hx]
      have := szN_le k (x / 256) (by rw [Nat.pow_succ] at h; omega)
      omega
theorem lt_szN : ∀ (n x : Nat), x ≤ n → x < 256 ^ szN x
  | 0, x, h => by have : x = 0 := by omega
                  subst this; rw [szN_zero]; decide
  | n + 1, x, h => by
    by_cases hx : x = 0
    · subst hx; rw [szN_zero]; decide
    · rw [szN_pos hx, Nat.pow_succ]
      have := lt_szN n (x / 256) (by omega)
      omega
theorem szN_lt (x : Nat) : x < 256 ^ szN x := lt_szN x x (Nat.le_refl _)
theorem szN_ge : ∀ (n x : Nat), x ≤ n → x ≠ 0 → 256 ^ (szN x - 1) ≤ x
  | 0, x, h, hx => by omega
  | n + 1, x, h, hx => by
    rw [szN_pos hx]
    by_cases h2 : x / 256 = 0
    · rw [h2, szN_zero]; simp; omega
    · have h3 := szN_ge n (x / 256) (by omega) h2
      have h4 : szN (x / 256) ≠ 0 := by rw [szN_pos h2]; omega
      obtain ⟨m, hm⟩ : ∃ m, szN (x / 256) = m + 1 := ⟨szN (x / 256) - 1, by omega⟩
      rw [hm] at h3 ⊢
      simp only [Nat.add_sub_cancel] at h3 ⊢
      rw [Nat.pow_succ]
      omega
theorem szN_top {x : Nat} (h : x ≠ 0) : 256 ^ (szN x - 1) ≤ x := szN_ge x x (Nat.le_refl _) h
def numB (x : Nat) : List UInt8 := UInt8.ofNat (szN x) :: be (szN x) x
def textB (s : List UInt8) : List UInt8 := numB s.length ++ s
def flagB (b : Bool) : List UInt8 := [if b then 1 else 0]
theorem numB_len (x : Nat) : (numB x).length = szN x + 1 := by simp [numB, be_len]
abbrev RS := List UInt8 × Bool
def badN (s : List UInt8) : Bool := match s with
  | [] => true
  | c :: r => decide (8 < c.toNat) || decide (r.length < c.toNat) || (decide (0 < c.toNat) && (r.headD 0 == 0))
def rNum (most : Int) (st : RS) : Nat × RS :=
  if st.2 then (0, st) else if badN st.1 then (0, ([], true)) else
    let n := (st.1.headD 0).toNat
    let x := val ((st.1.drop 1).take n)
    if (max most 0) < (x : Int) then (0, ([], true)) else (x, (st.1.drop (1 + n), false))
def rText (most : Int) (st : RS) : List UInt8 × RS :=
  let r := rNum most st
  if r.2.2 then ([], r.2) else if r.2.1.length < r.1 then ([], ([], true)) else (r.2.1.take r.1, (r.2.1.drop r.1, false))
def rFlag (st : RS) : Bool × RS :=
  if st.2 then (false, st) else match st.1 with
    | [] => (false, ([], true))
    | c :: r => if 1 < c.toNat then (false, ([], true)) else (c == 1, (r, false))
def rErr (st : RS) : Int := if st.2 then 2 else 0
def rEnd (st : RS) : Int := if 0 < st.1.length then 2 else rErr st
end Go.AV.Oct
namespace Go.AV
section
variable {P : Program} [Wins P] {T T' : List AV} {H : HS} {Q : Post} {dst : Option Tmp} {ty : TypeId} {pos : String} {after : Array Edge} {gd : Option (Nat × Bool)}
end
end Go.AV
namespace Go.AV
open Go.RowKit
variable {P : Program} {W : Nat → Nat → Prop}
theorem wr_callExt {f : FuncId} {fn : Func} {ext : Array Value → Sem Value} {args : Array Value} (hfn : P.funcs[f]? = some fn) (hname : (fn.name == "runtime.NumGoroutine") = false) (hb : fn.body.isNone = true) (hn : Extern.findNext fn = none) (he : Extern.find fn = some ext) (h : Sem.Wr P W (ext args)) :
    Sem.Wr P W (callFunc f args) := by
  change Sem.Wr P W (match P.funcs[f]? with | none => _ | some fn => _)
  rw [hfn]
  dsimp only
  rw [if_neg (by rw [hname]; decide), if_pos hb, hn, he]
  refine Sem.Wr.bind ⟨.inl ⟨f, rfl⟩, trivial⟩ fun _ => ?_
  exact Sem.Wr.bind h fun _ => trivial
theorem wr_extOp {a : Act} {f : FuncId} {fn : Func} {ext : Array Value → Sem Value} {args : Array Operand} {ts : Array TypeId} {dst : Option Tmp} {ty : TypeId} {pos : String} {after : Array Edge} {gd : Option (Nat × Bool)}
    (hfn : P.funcs[f]? = some fn) (hname : (fn.name == "runtime.NumGoroutine") = false) (hb : fn.body.isNone = true) (hn : Extern.findNext fn = none) (he : Extern.find fn = some ext) (h : Sem.Wr P W (ext (args.map a.eval))) :
    Sem.Wr P W (execOp a.eval ⟨dst, .call ⟨.value (.func f), args, ts⟩, ty, pos, after, gd⟩) := by
  have ef : a.eval (.func f) = .func (.func f) #[] #[] := rfl
  have := wr_callExt (args := args.map a.eval) hfn hname hb hn he h
  simpa [execOp, resolve, Deferred.ofValue, invoke, ef] using this
theorem wr_usd {ρ : Operand → Value} {args : Array Operand} {ts : Array TypeId} {dst : Option Tmp} {ty : TypeId} {pos : String} {after : Array Edge} {gd : Option (Nat × Bool)} : Sem.Wr P W (execOp ρ ⟨dst, .call ⟨.builtin .unsafeSliceData, args, ts⟩, ty, pos, after, gd⟩) := by
  change Sem.Wr P W (Bind.bind (Builtin.unsafeSliceData_ ts ty (args.map ρ)) fun v => Pure.pure (Next.value v))
  generalize args.map ρ = vs
  refine Sem.Wr.bind ?_ fun _ => trivial
  rcases vs with ⟨_ | ⟨x, _ | ⟨y, l⟩⟩⟩
  · exact trivial
  · cases x with
    | slice a n c => cases a with
      | none => exact trivial
      | some a =>
        change Sem.Wr P W (if c ≠ 0 then Pure.pure (Value.pointer (some a)) else _)
        (repeat' (first | with_reducible assumption | with_reducible exact Sem.Wr.pure _ | with_reducible exact wr_newObj _ | with_reducible exact wr_elemOf _ | with_reducible exact wr_viewAt _ | exact wr_storeCells _ _ (by intro j; rw [addBlock, add_off, Nat.add_zero]; exact h _ _ _ (by first | rfl | assumption) (by omega) _ rfl _ hz j) | (with_reducible apply Sem.Wr.bind) | (with_reducible apply Sem.Wr.map) | (with_reducible apply Sem.Wr.ite) | (with_reducible intro _) | split | exact trivial | (dsimp only)))
    | _ => exact trivial
  · exact trivial
theorem wr_uns {ρ : Operand → Value} {args : Array Operand} {ts : Array TypeId} {dst : Option Tmp} {ty : TypeId} {pos : String} {after : Array Edge} {gd : Option (Nat × Bool)} : Sem.Wr P W (execOp ρ ⟨dst, .call ⟨.builtin .unsafeString, args, ts⟩, ty, pos, after, gd⟩) := by
  change Sem.Wr P W (Bind.bind (Builtin.unsafeString_ ts ty (args.map ρ)) fun v => Pure.pure (Next.value v))
  generalize args.map ρ = vs
  refine Sem.Wr.bind ?_ fun _ => trivial
  rcases vs with ⟨_ | ⟨x, _ | ⟨y, _ | ⟨z, l⟩⟩⟩⟩
  · exact trivial
  · exact trivial
  · cases x with
    | pointer p =>
        refine (show Sem.Wr P W (Bind.bind (asInt y) _) from Sem.Wr.bind (wr_asInt _) fun n => ?_)
        dsimp only
        split
        all_goals (repeat' (first | with_reducible assumption | with_reducible exact Sem.Wr.pure _ | with_reducible exact wr_freeze _ _ | with_reducible exact wr_elemOf _ | with_reducible exact wr_runtimePanic _ | with_reducible exact wr_asInt _ | with_reducible exact wr_variablesAt _ _ _ | with_reducible exact wr_loadBytes _ _ _ | exact wr_storeCells _ _ (by intro j; rw [addBlock, add_off, Nat.add_zero]; exact h _ _ _ (by first | rfl | assumption) (by omega) _ rfl _ hz j) | (with_reducible apply Sem.Wr.bind) | (with_reducible apply Sem.Wr.map) | (with_reducible apply Sem.Wr.ite) | (with_reducible intro _) | split | exact trivial | (dsimp only)))
    | _ => exact trivial
  · exact trivial
theorem wr_overlaps {ps rs : Array TypeId} {a b : Option Addr} {la ca lb cb : Nat} : Sem.Wr P W (Extern.SlicesOverlaps.overlaps ps rs #[.slice a la ca, .slice b lb cb]) := by
  unfold Extern.SlicesOverlaps.overlaps
  cases hp : ps[0]? with
  | none => exact trivial
  | some t =>
    change Sem.Wr P W (Bind.bind (underlying t) _)
    refine Sem.Wr.bind (wr_underlying _) fun d => ?_
    cases d with
    | slice el =>
      refine Sem.Wr.bind (wr_sizeOf _) fun d => ?_
      cases a <;> cases b
      case some.some a b => dsimp only; (repeat' (first | with_reducible assumption | with_reducible exact Sem.Wr.pure _ | with_reducible exact wr_choose _ | with_reducible exact wr_frozen _ | with_reducible exact wr_underlying _ | with_reducible exact wr_sizeOf _ | with_reducible exact wr_noView _ | with_reducible exact wr_mayBeOne _ _ | exact wr_storeCells _ _ (by intro j; rw [addBlock, add_off, Nat.add_zero]; exact h _ _ _ (by first | rfl | assumption) (by omega) _ rfl _ hz j) | (with_reducible apply Sem.Wr.bind) | (with_reducible apply Sem.Wr.map) | (with_reducible apply Sem.Wr.ite) | (with_reducible intro _) | split | exact trivial | (dsimp only)))
      all_goals exact trivial
    | _ => exact trivial
theorem wr_cmps {s t : ByteArray} : Sem.Wr P W (Extern.BytealgCompare.compare #[.string s, .string t]) := trivial
end Go.AV
namespace Go.AV
open Go.RowKit
inductive Arr (H : HS) (e : TypeId) (sz : Nat) : AV → Nat → List AV → Prop
  | nil : Arr H e sz nilS 0 []
  | arr (id n cap : Nat) (cs us : List AV) (hb : H.blks[id]? = some ⟨e, cs, false⟩) (hc : cs.length = cap * sz) (hn : n ≤ cap) (hu : cs.take (n * sz) = us) : Arr H e sz (.arr id n cap) n us
structure Kept (H H' : HS) (v : AV) : Prop where
  toks : H'.toks = H.toks
  nb : H.nb ≤ H'.nb
  blks : ∀ j, j < H.nb → (∀ n cap, v ≠ .arr j n cap) → H'.blks[j]? = H.blks[j]?
  maps : H'.maps = H.maps
  x : H'.x = H.x
theorem putL_take (vs cs : List AV) (k : Nat) (h : k + vs.length ≤ cs.length) : (putL cs k vs).take (k + vs.length) = cs.take k ++ vs := by
  apply List.ext_getElem?
  intro j
  rw [List.getElem?_take]
  by_cases hj : j < k + vs.length
  · rw [if_pos hj, putL_get _ _ _ _ h]
    by_cases hk : k ≤ j
    · rw [if_pos ⟨hk, hj⟩, List.getElem?_append_right (by simp; omega)]
      congr 1
      simp
      omega
    · rw [if_neg (by omega), List.getElem?_append_left (by simp; omega), List.getElem?_take, if_pos (by omega)]
  · rw [if_neg hj, List.getElem?_eq_none (by simp; omega)]
section
variable {P : Program} [Wins P] {E : Operand → AV} {H : HS} {R : AV → HS → Prop} {dst : Option Tmp} {ty : TypeId} {pos : String} {after : Array Edge} {gd : Option (Nat × Bool)}
end
inductive AddsX (P : Program) (tx : TypeId) (H : HS) : AV → Nat → List DV → Prop
  | adds {v : AV} {sz : Nat} {ys : List DV} (h : Adds P tx v sz ys) : AddsX P tx H v sz ys
  | arr {id n cap sz : Nat} {ys : List DV} {e' : TypeId} {b : HB} (ht : P.underlying tx = some (.slice e')) (hb : H.blks[id]? = some b) (hn : ys.length = n) (hv : b.cs.take (n * sz) = (flat ys).map .d) (hl : n * sz ≤ b.cs.length) (hy : ∀ y ∈ ys, y.cells.length = sz) (h1 : ∀ d ∈ flat ys, d.one = true) : AddsX P tx H (.arr id n cap) sz ys
theorem AddsX.src {P : Program} [Wins P] {B : Nat} {w0 w : World} {c : Ctx} {H : HS} (hI : Inv B w0 c H w) {tx : TypeId} {v : AV} {sz : Nat} {ys : List DV} (h : AddsX P tx H v sz ys) {x : Value} (hr : Rep c x v) :
    ∃ news : List Value, Src P tx x w sz ys.length news ∧ news.length = ys.length * sz ∧ news.length = (flat ys).length ∧ (∀ y ∈ ys, y.cells.length = sz) ∧ (∀ y ∈ flat ys, y.one = true) ∧ (∀ u ∈ news, u.oneCell' = true) ∧
      ∀ i (hi : i < news.length) (hi' : i < (flat ys).length), RepD c.mem news[i] (flat ys)[i] := by
  cases h with
  | adds h => exact h.src hI hr
  | @arr id n cap _ _ e' b ht hb hn hv hl hy h1 =>
    subst hn
    generalize ha : AV.arr id ys.length cap = v at hr
    cases hr with
    | arr _ _ _ g hg =>
      cases ha
      obtain ⟨p1, p2, cur, fr, p3, p4, p5, p6⟩ := hI.blk id g b hg hb
      have p4' : cur.size = b.cs.length := p4
      have hfl := flat_length hy
      have hul : (cur.toList.take (ys.length * sz)).length = ys.length * sz := by
        have hcl : cur.toList.length = cur.size := Array.length_toList
        rw [List.length_take]; omega
      have hrep : ∀ i (hi : i < (cur.toList.take (ys.length * sz)).length) (hi' : i < (flat ys).length), Rep c (cur.toList.take (ys.length * sz))[i] (.d (flat ys)[i]) := by
        intro i hi hi'
        have h3 : i < b.cs.length := by omega
        have h4 := p6 i h3
        have h5 : (.d (flat ys)[i] : AV) = b.cs[i]'h3 := by
          have : ((flat ys).map AV.d)[i]? = (b.cs.take (ys.length * sz))[i]? := by rw [hv]
          rw [List.getElem?_map, List.getElem?_eq_getElem hi', List.getElem?_take, if_pos (by omega), List.getElem?_eq_getElem h3] at this
          exact Option.some.inj this
        have h6 : (cur.toList.take (ys.length * sz))[i] = cur.getD i undef := by
          have : i < cur.size := by omega
          simp [this]
        rw [h5, h6]; exact h4
      refine ⟨cur.toList.take (ys.length * sz), ⟨.inr ⟨e', ht⟩, fun w' => by simp [Builtin.lenOf], fun w' hw' => ?_⟩, hul, by rw [hul, hfl], hy, h1, fun u hu => ?_, fun i hi hi' => ?_⟩
      · refine firstCells_of hul (fun j u hu => ?_) w' hw'
        rw [List.getElem?_take] at hu
        split at hu
        · simp only [World.cell?, p3]
          simpa using hu
        · cases hu
      · obtain ⟨j, hj, rfl⟩ := List.getElem_of_mem hu
        have hj' : j < (flat ys).length := by omega
        exact (hrep j hj hj').one (by
          have := h1 _ (List.getElem_mem hj')
          exact this)
      · exact (hrep i hi hi').d_inv
    | _ => cases ha
section
variable {P : Program} [Wins P] {E : Operand → AV} {H : HS} {R : AV → HS → Prop} {dst : Option Tmp} {ty : TypeId} {pos : String} {after : Array Edge} {gd : Option (Nat × Bool)}
theorem AddsX.und {tx : TypeId} {v : AV} {sz : Nat} {ys : List DV} (h : AddsX P tx H v sz ys) : (∃ e, P.underlying tx = some (.slice e)) ∨ P.underlying tx = some .string := by
  cases h with
  | adds h => cases h with
    | list v sz ys e' ht' h => exact .inl ⟨e', ht'⟩
    | str l ht' => exact .inr ht'
  | arr ht hb hn hv hl hy h1 => exact .inl ⟨_, ht⟩
theorem own_arrX {x y : Operand} {t' tx e : TypeId} {sz n : Nat} {us : List AV} (ht : P.underlying t' = some (.slice e)) (hX : (∃ e, P.underlying tx = some (.slice e)) ∨ P.underlying tx = some .string) (hx : Arr H e sz (E x) n us)
    (B : Nat) (w0 : World) (c : Ctx) (w : World) (a : Act) (hI : Inv B w0 c H w) (hops : ∀ u ∈ (Op.call ⟨.builtin .append, #[x, y], #[t', tx]⟩).operands, Rep c (a.eval u) (E u)) :
    ∃ W : Nat → Nat → Prop, Sem.Wr P W (execOp a.eval ⟨dst, .call ⟨.builtin .append, #[x, y], #[t', tx]⟩, ty, pos, after, gd⟩) ∧ ∀ b j, W b j → c.mem b j = none ∧ ∃ cs t fr, w.heap[b]? = some (.cells cs t fr) := by
  have q1 := hops x (by simp [Op.operands, Call.operands])
  generalize E x = v at hx q1
  generalize hv : a.eval x = ev at q1
  cases hx with
  | nil =>
    have := q1.v_eq
    exact ⟨fun _ _ => False, wr_appOp ht hX fun b m k h hlt => by rw [hv, this] at h; cases h; omega, fun _ _ h => h.elim⟩
  | arr id n cap cs us hb hc hn hu =>
    cases q1 with
    | arr _ _ _ g hg =>
      refine ⟨fun b j => b = g, wr_appOp ht hX fun b m k h' hlt ad had zz hz j => ?_, fun b j => hI.own hg hb b j⟩
      rw [hv] at h'
      cases h'
      cases had
      rfl
theorem op_append_arrX {x y : Operand} {t' tx e : TypeId} {z : Value} {sz bytes n : Nat} {us : List AV} {ys : List DV} (ht : P.underlying t' = some (.slice e)) (hi : tInfo P e z sz bytes) (hzs : z.cells.size = sz) (hx : Arr H e sz (E x) n us) (hy : AddsX P tx H (E y) sz ys)
    (hne : 0 < ys.length) (hb : (n + ys.length) * bytes ≤ 140737488355328) (hn : n + ys.length ≤ 140737488355328) :
    OpR P ⟨dst, .call ⟨.builtin .append, #[x, y], #[t', tx]⟩, ty, pos, after, gd⟩ E H (fun av H' => Arr H' e sz av (n + ys.length) (us ++ (flat ys).map .d) ∧ Kept H H' (E x) ∧ ∃ id m cap, av = .arr id m cap ∧ (E x = nilS → H.nb ≤ id) ∧ ∀ j n cap, E x = .arr j n cap → id = j ∨ H.nb ≤ id) :=
  opR_value (hw := own_arrX ht hy.und hx) fun B w0 c w a hI hops => by
    have q1 := hops x (by simp [Op.operands, Call.operands])
    have q2 := hops y (by simp [Op.operands, Call.operands])
    obtain ⟨news, hsrc, hnl, hnf, hys, hy1, hone, hyr⟩ := hy.src hI q2
    have hfy := flat_length hys
    have hrun : ∀ r, (Builtin.append_ #[t', tx] ty #[a.eval x, a.eval y]).run P w = r → (execOp a.eval ⟨dst, .call ⟨.builtin .append, #[x, y], #[t', tx]⟩, ty, pos, after, gd⟩).run P w = r.andThen fun v w => .ok (.value v) w := by
      intro r hr
      simp [execOp, resolve, invoke, builtin, hr]
    have grow : ∀ (base : Option Addr) (cap : Nat) (olds : List Value), a.eval x = .slice base n cap → cap < n + ys.length → olds.length = n * sz → us.length = n * sz →
        (∀ i (hi : i < olds.length) (hi' : i < us.length), Rep c olds[i] us[i]) → (∀ w', w'.heap = w.heap → (Builtin.firstCells sz n (.slice base n cap)).run P w' = .ok olds.toArray w') →
        ∃ v' w' c' av H', (execOp a.eval ⟨dst, .call ⟨.builtin .append, #[x, y], #[t', tx]⟩, ty, pos, after, gd⟩).run P w = .ok (.value v') w' ∧ Le c c' ∧ Rep c' v' av ∧ Inv B w0 c' H' w' ∧
          (Arr H' e sz av (n + ys.length) (us ++ (flat ys).map .d) ∧ Kept H H' (E x) ∧ ∃ id m cap, av = .arr id m cap ∧ (E x = nilS → H.nb ≤ id) ∧ ∀ j n cap, E x = .arr j n cap → id = j ∨ H.nb ≤ id) := by
      intro base cap olds hev hcap hol hul hxr hold
      have hr := run_app_grow w t' tx ty e z sz bytes ht hi (a.eval y) ys.length news hsrc base n cap olds hold hcap hb hn
      rw [← hev] at hr
      have hge := grownCap_ge w (n + ys.length) cap e
      generalize grownCap w (n + ys.length) cap e = ncap at hr hge
      have hsize : (olds.toArray ++ (news.toArray ++ Builtin.zeroCells z.cells (ncap - (n + ys.length)))).size = (us ++ (flat ys).map AV.d ++ List.replicate ((ncap - (n + ys.length)) * sz) AV.un).length := by
        simp only [Array.size_append, List.size_toArray, size_zeroCells, hzs, hol, hnl, List.length_append, List.length_map, List.length_replicate, hul, hfy]
        omega
      have hlen : (us ++ (flat ys).map AV.d ++ List.replicate ((ncap - (n + ys.length)) * sz) AV.un).length = ncap * sz := by
        simp only [List.length_append, List.length_map, List.length_replicate, hul, hfy, ← Nat.add_mul]
        congr 1
        omega
      obtain ⟨i1, l1⟩ := hI.drew.allocBlk (olds.toArray ++ (news.toArray ++ Builtin.zeroCells z.cells (ncap - (n + ys.length)))) e (us ++ (flat ys).map AV.d ++ List.replicate ((ncap - (n + ys.length)) * sz) AV.un) hsize (fun j hj => by
        have e1 : (olds.toArray ++ (news.toArray ++ Builtin.zeroCells z.cells (ncap - (n + ys.length)))).getD j undef = (((olds ++ news) ++ (Builtin.zeroCells z.cells (ncap - (n + ys.length))).toList)[j]?).getD undef := by
          rw [Array.getD_eq_getD_getElem?, ← Array.getElem?_toList]
          simp
        rw [e1]
        by_cases h1 : j < (us ++ (flat ys).map AV.d).length
        · rw [List.getElem_append_left h1]
          have h1' : j < (olds ++ news).length := by
            simp only [List.length_append, List.length_map, hol, hnl, hul, hfy] at h1 ⊢
            exact h1
          rw [List.getElem?_append_left h1', List.getElem?_eq_getElem h1']
          show Rep c (olds ++ news)[j] _
          by_cases h2 : j < us.length
          · rw [List.getElem_append_left h2, List.getElem_append_left (by omega)]
            exact hxr j (by omega) h2
          · rw [List.getElem_append_right (by omega), List.getElem_append_right (by omega)]
            have h3 : j - olds.length < (flat ys).length := by simp at h1; omega
            have h4 : (List.map AV.d (flat ys))[j - us.length]'(by simp; omega) = .d ((flat ys)[j - olds.length]'h3) := by
              simp only [List.getElem_map]
              congr 2
              omega
            rw [h4]
            exact .d (hyr (j - olds.length) (by omega) h3)
        · rw [List.getElem_append_right (by omega)]
          simp only [List.getElem_replicate]
          exact .un _)
      refine ⟨_, _, _, _, _, hrun _ hr, l1, .arr c.blk.length (n + ys.length) ncap w.heap.size (by simp), i1, ?_, ⟨rfl, by simp [HS.push, HS.nb], fun j hj _ => ?_, rfl, rfl⟩, c.blk.length, _, _, rfl, fun _ => by rw [hI.blkLen]; exact Nat.le_refl _, fun _ _ _ _ => .inr (by rw [hI.blkLen]; exact Nat.le_refl _)⟩
      · refine .arr _ _ _ (us ++ (flat ys).map AV.d ++ List.replicate ((ncap - (n + ys.length)) * sz) AV.un) _ ?_ hlen hge ?_
        · rw [hI.blkLen]; simp [HS.push]
        · have : (n + ys.length) * sz = (us ++ (flat ys).map AV.d).length := by simp [hul, hfy, Nat.add_mul]
          rw [this, List.take_left' rfl]
      · simp only [HS.push]
        rw [List.getElem?_append_left hj]
    cases hE : E x with
    | d dv =>
      rw [hE] at hx q1
      cases hx with
      | nil =>
        have hev := q1.v_eq
        rw [hE] at grow
        exact grow none 0 [] hev (by omega) (by simp) (by simp) (by simp) (fun w' _ => by simp [Builtin.firstCells])
    | arr id n1 cap =>
      rw [hE] at hx q1
      rw [hE] at grow
      generalize hev : a.eval x = X at q1
      cases q1 with
      | arr _ _ _ g hg =>
      cases hx with
      | arr _ _ _ cs _ hbk hc hnc hu =>
      obtain ⟨p1, p2, cur, fr, p3, p4, p5, p6⟩ := hI.blk id g _ hg hbk
      have hcz : n * sz ≤ cap * sz := Nat.mul_le_mul_right _ hnc
      have hul : us.length = n * sz := by rw [← hu]; simp; omega
      have p4' : cur.size = cs.length := p4
      by_cases hroom : n + ys.length ≤ cap
      · have hfit : n * sz + news.length ≤ cur.size := by
          rw [hnl, p4', hc, ← Nat.add_mul]
          exact Nat.mul_le_mul_right _ hroom
        have hr := run_app_room w t' tx ty e z sz bytes ht hi (a.eval y) ys.length news hsrc g n cap cur fr p3 (fun o _ => p5 rfl o) hone hroom hfit
        rw [← hev] at hr
        have hal : news.length = ((flat ys).map AV.d).length := by simp [hnf]
        have i1 := hI.putBlk id g (n * sz) _ hg hbk news ((flat ys).map AV.d) hal (fun j hj hj' => by
          simp only [List.getElem_map]
          exact .d (hyr j hj (by simpa using hj'))) (by show n * sz + ((flat ys).map AV.d).length ≤ cs.length; omega) cur _ fr p3
        have hnb : (H.put id (n * sz) ((flat ys).map AV.d)).nb = H.nb := by simp [HS.put, HS.nb]
        refine ⟨_, _, c, _, _, hrun _ hr, Le.refl c, .arr id (n + ys.length) cap g hg, i1, ?_, ⟨rfl, by rw [hnb]; exact Nat.le_refl _, fun j hj hne => ?_, rfl, rfl⟩, id, n + ys.length, cap, rfl, (fun h => by cases h), (fun j _ _ h => Or.inl (by cases h; rfl))⟩
        · refine .arr _ _ _ (putL cs (n * sz) ((flat ys).map AV.d)) _ (by simp [HS.put, hbk]) (by rw [putL_length]; exact hc) hroom ?_
          have e1 : (n + ys.length) * sz = n * sz + ((flat ys).map AV.d).length := by simp [hfy, Nat.add_mul]
          rw [e1, putL_take _ _ _ (by omega), hu]
        · have hji : id ≠ j := fun h => hne n cap (by rw [h])
          simp [HS.put, hji]
      · have hol : (cur.toList.take (n * sz)).length = n * sz := by simp; omega
        refine grow _ cap (cur.toList.take (n * sz)) hev (by omega) hol hul ?_ ?_
        · intro i hi1 hi2
          have hi3 : i < cs.length := by omega
          have h1 := p6 i hi3
          have h2 : us[i] = cs[i]'hi3 := by simp [← hu]
          have h4 : i < cur.size := by omega
          have h3 : (cur.toList.take (n * sz))[i] = cur.getD i undef := by simp [h4]
          rw [h2, h3]
          exact h1
        · refine firstCells_of hol fun j u hu' => ?_
          rw [List.getElem?_take] at hu'
          split at hu'
          · simp only [World.cell?, p3]
            simpa using hu'
          · cases hu'
    | own => rw [hE] at hx; cases hx
    | un => rw [hE] at hx; cases hx
    | nv => rw [hE] at hx; cases hx
    | elt => rw [hE] at hx; cases hx
    | ptr => rw [hE] at hx; cases hx
    | sub => rw [hE] at hx; cases hx
    | agg => rw [hE] at hx; cases hx
    | tup => rw [hE] at hx; cases hx
    | fn => rw [hE] at hx; cases hx
    | map => rw [hE] at hx; cases hx
    | iter => rw [hE] at hx; cases hx
theorem op_nil_nil {x y : Operand} {t t' el : TypeId} (ht : P.underlying t = some (.pointer el)) (hx : E x = .d (.v (.pointer none))) (hy : E y = .d (.v (.pointer none))) : OpR P ⟨dst, .binOp .eql t x y t', ty, pos, after, gd⟩ E H (Ret (.d (TF true)) H) :=
  op_bin_of (.bool true) hx hy rfl (fun w => by simp [eqGuard]) fun w => by
    have h : ∀ d : Nat, (Op.equalIn (d + 1) t (.pointer none) (.pointer none)).run P w = .ok true w := fun d => by simp [Op.equalIn, run_underlying ht]
    simp only [binOp]
    simp [Op.equal, Op.maxDepth, h 9999]
theorem op_sliceData_arr {x : Operand} {ts : Array TypeId} {id n cap : Nat} (hx : E x = .arr id n cap) (hc : cap ≠ 0) : OpR P ⟨dst, .call ⟨.builtin .unsafeSliceData, #[x], ts⟩, ty, pos, after, gd⟩ E H (Ret (.ptr id 0) H) :=
  opR_pure (hw := fun _ _ => wr_usd) fun c w a hm hops => by
    have h1 := hops x (by simp [Op.operands, Call.operands])
    rw [hx] at h1
    generalize hev : a.eval x = X at h1
    cases h1 with
    | arr _ _ _ g hg =>
    refine ⟨_, ?_, .ptr id 0 g hg⟩
    simp [execOp, resolve, invoke, builtin, hev, Lib.run_unsafeSliceData_row w ts ty ⟨g, 0, none⟩ n cap hc]
theorem op_sliceData_nil {x : Operand} {ts : Array TypeId} (hx : E x = nilS) : OpR P ⟨dst, .call ⟨.builtin .unsafeSliceData, #[x], ts⟩, ty, pos, after, gd⟩ E H (Ret (.d (.v (.pointer none))) H) :=
  opR_pure (hw := fun _ _ => wr_usd) fun c w a hm hops => by
    have h1 := hops x (by simp [Op.operands, Call.operands])
    rw [hx] at h1
    refine ⟨_, ?_, .d (.v _ rfl)⟩
    simp [execOp, resolve, invoke, builtin, h1.v_eq, Lib.run_unsafeSliceData_nil w ts ty 0 0]
def HS.frz (H : HS) (id : Nat) : HS := { H with blks := H.blks.modify id fun b => { b with frz := true } }
theorem Inv.freeze {B : Nat} {w0 w : World} {c : Ctx} {H : HS} (h : Inv B w0 c H w) (id g n : Nat) (b : HB) (hg : c.blk[id]? = some g) (hb : H.blks[id]? = some b) (hn : n ≠ 0) : Inv B w0 c (H.frz id) (w.freeze ⟨g, 0, none⟩ n) := by
  obtain ⟨p1, p2, cur, fr, p3, p4, p5, p6⟩ := h.blk id g b hg hb
  obtain ⟨lo, hi⟩ := fr
  have hfz : w.freeze ⟨g, 0, none⟩ n = { w with heap := w.heap.modify g fun | .cells c elem (lo, hi) => .cells c elem (if lo == hi then (0, 0 + n) else (min lo 0, max hi (0 + n))) | o => o } := by
    unfold World.freeze
    rw [if_neg hn]
    rfl
  have hother : ∀ k, k ≠ g → (w.freeze ⟨g, 0, none⟩ n).heap[k]? = w.heap[k]? := by
    intro k hk
    rw [hfz]
    simp only [Array.getElem?_modify]
    rw [if_neg (fun e => hk e.symm)]
  have hat : (w.freeze ⟨g, 0, none⟩ n).heap[g]? = some (.cells cur b.elem (if lo == hi then (0, 0 + n) else (min lo 0, max hi (0 + n)))) := by
    rw [hfz]
    show (w.heap.modify g _)[g]? = _
    rw [Array.getElem?_modify, if_pos rfl, p3]
    rfl
  have hsize : (w.freeze ⟨g, 0, none⟩ n).heap.size = w.heap.size := by rw [hfz]; simp
  have hcell : ∀ a u, w.cell? a = some u → (w.freeze ⟨g, 0, none⟩ n).cell? a = some u := by
    intro a u hu
    by_cases ha : a.block = g
    · have e1 := hat
      simp only [World.cell?, ha, p3] at hu
      simp only [World.cell?, ha, e1]
      exact hu
    · simp only [World.cell?] at hu ⊢
      rw [hother _ ha]
      exact hu
  refine ⟨by rw [hsize]; exact h.base, Lib.below_freeze h.below p1 n, fun g' o u hu => hcell _ _ (h.mem g' o u hu), by simp [HS.frz, h.blkLen], fun i g' b' hg' hb' => ?_, h.blkInj, h.tokLen, fun i e he => ?_, h.tokInj, h.maps.keep (.refl c) rfl rfl fun k o hk hn => by
    by_cases hkg : k = g
    · subst hkg; rw [p3] at hk; exact absurd (Option.some.inj hk).symm (hn _ _ _)
    · rw [hother _ hkg]; exact hk, h.cx, h.xok⟩
  · by_cases hi' : i = id
    · subst hi'
      have e1 : g' = g := by rw [hg] at hg'; exact (Option.some.inj hg').symm
      subst e1
      have e2 : b' = { b with frz := true } := by
        have : (H.frz i).blks[i]? = some { b with frz := true } := by simp [HS.frz, hb]
        rw [this] at hb'; exact (Option.some.inj hb').symm
      subst e2
      exact ⟨p1, p2, cur, _, hat, p4, fun hh => by simp at hh, p6⟩
    · have hb3 : H.blks[i]? = some b' := by
        have hne2 : ¬ id = i := fun e => hi' e.symm
        have : (H.frz id).blks[i]? = H.blks[i]? := by cases hq : H.blks[i]? <;> simp [HS.frz, hne2, hq]
        rw [← this]; exact hb'
      have hne : g' ≠ g := fun hh => hi' (h.blkInj i id g (hh ▸ hg') hg)
      obtain ⟨q1, q2, cur', fr', q3, q4⟩ := h.blk i g' b' hg' hb3
      exact ⟨q1, q2, cur', fr', by rw [hother _ hne]; exact q3, q4⟩
  · obtain ⟨q1, q2, q3, q4, q5, cur', et', fr', q6, q7⟩ := h.tok i e he
    have hne : e.g ≠ g := fun hh => q5 id (hh ▸ hg)
    exact ⟨q1, q2, q3, q4, q5, cur', et', fr', by rw [hother _ hne]; exact q6, q7⟩
theorem op_unsafeString {x y : Operand} {pt it e : TypeId} {id : Nat} {cs : List AV} {f : Bool} {l : List UInt8} (hp : P.underlying pt = some (.pointer e)) (hc : P.cellsOf e = 1) (hx : E x = .ptr id 0) (hy : E y = .d (I l.length)) (hb : H.blks[id]? = some ⟨e, cs, f⟩) (h0 : l ≠ []) (h63 : l.length ≤ 9223372036854775807)
    (hl : cs.take l.length = l.map fun c => .d (BY c)) : OpR P ⟨dst, .call ⟨.builtin .unsafeString, #[x, y], #[pt, it]⟩, ty, pos, after, gd⟩ E H (Ret (.d (S l)) (H.frz id)) :=
  opR_value (hw := fun _ _ _ _ _ _ _ => ⟨fun _ _ => False, wr_uns, fun _ _ h => h.elim⟩) fun B w0 c w a hI hops => by
    have h1 := hops x (by simp [Op.operands, Call.operands])
    have h2 := hops y (by simp [Op.operands, Call.operands])
    rw [hx] at h1
    rw [hy] at h2
    obtain ⟨g, ev, hg⟩ := h1.ptr_inv
    obtain ⟨p1, p2, cur, fr, p3, p4, p5, p6⟩ := hI.blk id g _ hg hb
    have hlen : l.length ≤ cs.length := by
      have := congrArg List.length hl
      simp at this
      omega
    have hr := Lib.run_unsafeString_row (P := P) w pt it ty e hp hc g cur.size (by simp [World.shape?, p3]) l h0 (by rw [p4]; exact hlen) h63 (fun j x hj => by
      rw [addr_add, Nat.zero_add]
      have hj1 : j < l.length := (List.getElem?_eq_some_iff.1 hj).1
      have hj2 : j < cs.length := by omega
      have e1 : cs[j]? = some (.d (BY x)) := by
        have := congrArg (fun q => q[j]?) hl
        simp only [List.getElem?_take, if_pos hj1, List.getElem?_map, hj] at this
        exact this
      have e2 : cs[j]'hj2 = .d (BY x) := by rw [List.getElem?_eq_getElem hj2] at e1; exact Option.some.inj e1
      have h3 := p6 j hj2
      have h3' : Rep c (cur.getD j undef) (.d (BY x)) := e2 ▸ h3
      have h4 := h3'.v_eq
      have hj3 : j < cur.size := by have : cur.size = cs.length := p4; omega
      simp only [World.cell?, p3]
      simp [hj3] at h4 ⊢
      exact h4)
    refine ⟨_, _, c, _, _, ?_, Le.refl c, .d (.v _ rfl), hI.freeze id g l.length _ hg hb (by simpa using h0), rfl, rfl⟩
    have h5 : a.eval y = .int .i64 l.length := h2.v_eq
    simp [execOp, resolve, invoke, builtin, ev, h5, hr]
theorem op_unsafeString0 {x y : Operand} {pt it : TypeId} (hx : E x = .d (.v (.pointer none))) (hy : E y = .d (I 0)) : OpR P ⟨dst, .call ⟨.builtin .unsafeString, #[x, y], #[pt, it]⟩, ty, pos, after, gd⟩ E H (Ret (.d (S [])) H) :=
  opR_pure (hw := fun _ _ => wr_uns) fun c w a hm hops => by
    have h1 := hops x (by simp [Op.operands, Call.operands])
    have h2 := hops y (by simp [Op.operands, Call.operands])
    rw [hx] at h1
    rw [hy] at h2
    have h4 : a.eval x = .pointer none := h1.v_eq
    have h5 : a.eval y = .int .i64 0 := h2.v_eq
    refine ⟨_, ?_, .d (.v _ rfl)⟩
    simp [execOp, resolve, invoke, builtin, h4, h5, Lib.run_unsafeString_none w pt it ty none]
    rfl
theorem op_lenArr {x : Operand} {t e : TypeId} {id n cap : Nat} (ht : P.underlying t = some (.slice e)) (hx : E x = .arr id n cap) : OpR P ⟨dst, .call ⟨.builtin .len, #[x], #[t]⟩, ty, pos, after, gd⟩ E H (Ret (.d (I n)) H) :=
  opR_pure fun c w a hm hops => by
    have h1 := hops x (by simp [Op.operands, Call.operands])
    rw [hx] at h1
    generalize hev : a.eval x = X at h1
    cases h1 with
    | arr _ _ _ g hg =>
    refine ⟨_, ?_, .d (.v _ rfl)⟩
    simp [execOp, resolve, invoke, builtin, hev, Builtin.len_, run_underlying ht, goInt]
end
end Go.AV
