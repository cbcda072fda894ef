/-
  The AV logic, part 2: what becomes of the invariant when a block of the call's own is written, and append.
-/
import Derived.Test.YtjamnhofbkgblaaA1
namespace Go.AV
open Go.RowKit

theorem addr_add (g o i : Nat) : (⟨g, o, none⟩ : Addr).add i = ⟨g, o + i, none⟩ := by unfold Addr.add; split <;> simp_all

/-- cur with vs written from k on. -/
def putA (cur : Array Value) (k : Nat) (vs : List Value) : Array Value := (cur.toList.take k ++ vs ++ cur.toList.drop (k + vs.length)).toArray
theorem putA_size {cur : Array Value} {k : Nat} {vs : List Value} (h : k + vs.length ≤ cur.size) : (putA cur k vs).size = cur.size := by
  simp only [putA, List.size_toArray, List.length_append, List.length_take, List.length_drop, Array.length_toList]
  omega
theorem putA_get {cur : Array Value} {k : Nat} {vs : List Value} (h : k + vs.length ≤ cur.size) (j : Nat) :
    (putA cur k vs)[j]? = if k ≤ j ∧ j < k + vs.length then vs[j - k]? else cur[j]? := by
  have hk : (cur.toList.take k).length = k := by simp; omega
  simp only [putA, List.getElem?_toArray]
  by_cases h1 : j < k
  · rw [if_neg (by omega), List.append_assoc, List.getElem?_append_left (by omega), List.getElem?_take, if_pos h1, Array.getElem?_toList]
  · by_cases h2 : j < k + vs.length
    · rw [if_pos ⟨by omega, h2⟩, List.append_assoc, List.getElem?_append_right (by omega), hk, List.getElem?_append_left (by omega)]
    · rw [if_neg (by omega), List.getElem?_append_right (by simp; omega), List.getElem?_drop, Array.getElem?_toList]
      congr 1
      simp only [List.length_append, hk]
      omega

theorem run_storeCells_fr (P : Program) (g o : Nat) (t : TypeId) (fr : Nat × Nat) : ∀ (vs : List Value) (i : Nat) (cur : Array Value) (w : World), w.heap[g]? = some (.cells cur t fr) → (∀ o, o < cur.size → ¬ (fr.1 ≤ o ∧ o < fr.2)) →
    o + i + vs.length ≤ cur.size → (∀ v ∈ vs, v.oneCell' = true) →
    (storeCells ⟨g, o, none⟩ vs i).run P w = .ok () (w.setRow g (putA cur (o + i) vs))
  | [], i, cur, w, hg, _, _, _ => by
    simp only [storeCells, putA, List.append_nil, List.length_nil, Nat.add_zero, List.take_append_drop, Array.toArray_toList]
    rw [setRow_self w g cur t fr hg]
    rfl
  | v :: rest, i, cur, w, hg, hfr, hl, h1 => by
    have hi : o + i < cur.size := by simp at hl; omega
    have hcell : w.cell? ⟨g, o + i, none⟩ = some cur[o + i] := by simp [World.cell?, hg, hi]
    have hfro : w.frozen? ⟨g, o + i, none⟩ = false := by
      have := hfr (o + i) hi
      simp only [World.frozen?, hg]
      simp only [Bool.and_eq_false_iff, decide_eq_false_iff_not]
      omega
    have hst : (store ((⟨g, o, none⟩ : Addr).add i) v).run P w = .ok () (w.setRow g (cur.setIfInBounds (o + i) v)) := by
      rw [addr_add, run_store P w _ v _ (h1 v (by simp)), hcell]
      simp [hfro, setCell_eq_setRow w g (o + i) cur t fr v hg]
    have ih := run_storeCells_fr P g o t fr rest (i + 1) (cur.setIfInBounds (o + i) v) (w.setRow g (cur.setIfInBounds (o + i) v)) (setRow_heap w g cur _ t _ hg) (by simpa using hfr) (by simp at hl ⊢; omega) (fun x hx => h1 x (by simp [hx]))
    simp only [storeCells, Sem.run_bind, hst, Result.andThen_ok, ih, setRow_setRow]
    congr 2
    have e := list_seg_step cur.toList (o + i) v rest (by simp at hl ⊢; omega)
    simp only [putA]
    congr 1
    simpa [Array.toList_setIfInBounds, Nat.add_assoc] using e

/-! ### A representation's shape -/
theorem RepD.one {m : Mem} {x : Value} {y : DV} (h : RepD m x y) (h1 : y.one = true) : x.oneCell' = true := by
  cases h with
  | v x h => cases x <;> first | rfl | (simp [plain] at h)
  | agg => simp [DV.one] at h1
  | lst => rfl
  | lstE => rfl
theorem Rep.one {c : Ctx} {x : Value} {y : AV} (h : Rep c x y) (h1 : y.one = true) : x.oneCell' = true := by
  cases h with
  | d h => exact h.one h1
  | un => simp [AV.one] at h1
  | nv => simp [AV.one] at h1
  | agg => simp [AV.one] at h1
  | tup => simp [AV.one] at h1
  | _ => rfl

/-- A list's cells, read in a world. -/
theorem RepD.lst_cells {B : Nat} {w0 w : World} {c : Ctx} {H : HS} (hI : Inv B w0 c H w) {a : Option Addr} {n cap sz : Nat} {xs : List DV} (h : RepD c.mem (.slice a n cap) (.lst sz xs)) :
    xs.length = n ∧ n ≤ cap ∧ (∀ x ∈ xs, x.cells.length = sz) ∧ (∀ x ∈ flat xs, x.one = true) ∧
    ∃ us : List Value, us.length = n * sz ∧ us.length = (flat xs).length ∧ (∀ i (hi : i < us.length) (hi' : i < (flat xs).length), RepD c.mem us[i] (flat xs)[i]) ∧ (∀ u ∈ us, u.oneCell' = true) ∧
      (n = 0 ∨ ∃ g o, a = some ⟨g, o, none⟩ ∧ ∀ j u, us[j]? = some u → c.mem g (o + j) = some u ∧ w.cell? ⟨g, o + j, none⟩ = some u) := by
  cases h with
  | lst g o n cap sz xs us hn hc hsz h1 hm h =>
    have hfl := flat_length hsz
    refine ⟨hn, hc, hsz, h1, (List.range (flat xs).length).map us, by simp [hfl, hn], by simp, ?_, ?_, ?_⟩
    · intro i hi hi'
      simpa using h i hi'
    · intro u hu
      simp only [List.mem_map, List.mem_range] at hu
      obtain ⟨i, hi, rfl⟩ := hu
      exact (h i hi).one (h1 _ (List.getElem_mem hi))
    · refine .inr ⟨g, o, rfl, fun j u hu => ?_⟩
      have hj : j < (flat xs).length := by
        have := (List.getElem?_eq_some_iff.1 hu).1
        simpa using this
      have : u = us j := by
        simp [hj] at hu
        exact hu.symm
      subst this
      exact ⟨hm j hj, hI.mem _ _ _ (hm j hj)⟩
  | lstE a cap sz => exact ⟨rfl, Nat.zero_le _, by simp, by simp [flat], [], by simp, by simp [flat], by simp, by simp, .inl rfl⟩

theorem RepD.v_eq {m : Mem} {x X : Value} (h : RepD m x (.v X)) : x = X := by cases h; rfl
theorem Rep.v_eq {c : Ctx} {x X : Value} (h : Rep c x (.d (.v X))) : x = X := by
  cases h with
  | d h => exact h.v_eq

/-- Building a list's representation out of protected cells. -/
theorem RepD.mk_lst {m : Mem} {g o n cap sz : Nat} {xs : List DV} (us : List Value) (hn : xs.length = n) (hc : n ≤ cap) (hsz : ∀ x ∈ xs, x.cells.length = sz) (h1 : ∀ x ∈ flat xs, x.one = true)
    (hl : us.length = (flat xs).length) (hm : ∀ j u, us[j]? = some u → m g (o + j) = some u) (h : ∀ i (hi : i < us.length) (hi' : i < (flat xs).length), RepD m us[i] (flat xs)[i]) :
    RepD m (.slice (some ⟨g, o, none⟩) n cap) (.lst sz xs) :=
  .lst g o n cap sz xs (fun i => us.getD i undef) hn hc hsz h1
    (fun i hi => by
      have : i < us.length := by omega
      have hh := hm i us[i] (by simp [this])
      simpa [List.getD_eq_getElem?_getD, this] using hh)
    (fun i hi => by
      have : i < us.length := by omega
      have hh := h i this hi
      simpa [List.getD_eq_getElem?_getD, this] using hh)

/-! ### Tokens -/
def HS.tk (H : HS) : Option Nat → Nat
  | none => H.toks.length
  | some i => i
def HS.up (H : HS) (t : Option Nat) (n : Nat) : HS :=
  match t with
  | none => { H with toks := H.toks ++ [n] }
  | some i => { H with toks := H.toks.set i n }
/-- May this list be appended to? -/
def HS.ok (H : HS) (t : Option Nat) (n : Nat) : Prop := ∀ i, t = some i → H.toks[i]? = some n
theorem HS.ok_none (H : HS) (n : Nat) : H.ok none n := fun _ h => by cases h
theorem HS.ok_up (H : HS) (t : Option Nat) {m : Nat} (n : Nat) (h : H.ok t m) : (H.up t n).ok (some (H.tk t)) n := by
  intro i hi
  cases hi
  cases t with
  | none => simp [HS.up, HS.tk]
  | some i =>
    have := (List.getElem?_eq_some_iff.1 (h i rfl)).1
    simp [HS.up, HS.tk, this]
theorem HS.up_up (H : HS) (t : Option Nat) (n m : Nat) : (H.up t n).up (some (H.tk t)) m = H.up t m := by
  cases t with
  | none => simp [HS.up, HS.tk]
  | some i => simp [HS.up, HS.tk]
theorem HS.tk_some (H : HS) (i : Nat) : H.tk (some i) = i := rfl
theorem HS.up_blks (H : HS) (t : Option Nat) (n : Nat) : (H.up t n).blks = H.blks := by cases t <;> rfl

/-- The list in a new block. -/
theorem Inv.newTok {B : Nat} {w0 w : World} {c : Ctx} {H : HS} (h : Inv B w0 c H w) (t : Option Nat) (m0 : Nat) (hok : H.ok t m0) (cur : Array Value) (e : TypeId) (fr : Nat × Nat) (cap sz n : Nat) (hlt : m0 < n ∨ t = none)
    (hcap : n ≤ cap) (hsz : cur.size = cap * sz) (hfr : ∀ o, o < cur.size → ¬ (fr.1 ≤ o ∧ o < fr.2)) :
    ∃ c', Le c c' ∧ Inv B w0 c' (H.up t n) (w.alloc (.cells cur e fr)) ∧ (∀ o, o < n * sz → c'.mem w.heap.size o = cur[o]?) ∧
      c'.tok[H.tk t]? = some ⟨w.heap.size, cap, sz, n⟩ ∧ c'.blk = c.blk := by
  have hfit : n * sz ≤ cur.size := by rw [hsz]; exact Nat.mul_le_mul_right _ hcap
  obtain ⟨h1, h2⟩ := h.allocProt cur e fr (n * sz) hfit
  have hmem : ∀ o, o < n * sz → (c.prot w.heap.size (n * sz) (fun o => cur.getD o undef)).mem w.heap.size o = cur[o]? := by
    intro o ho
    have : o < cur.size := by omega
    simp [Ctx.prot, ho, this]
  have hnone : ∀ o, n * sz ≤ o → (c.prot w.heap.size (n * sz) (fun o => cur.getD o undef)).mem w.heap.size o = none := by
    intro o ho
    simp only [Ctx.prot]
    rw [if_neg (by omega)]
    exact h.fresh (Nat.le_refl _) o
  have hnb : ∀ j : Nat, c.blk[j]? ≠ some w.heap.size := fun j hj => by have := h.blk_lt hj; omega
  cases t with
  | none =>
    have hlast : ∀ i e1, (c.tok ++ [⟨w.heap.size, cap, sz, n⟩])[i]? = some e1 → (c.tok[i]? = some e1 ∧ i < c.tok.length) ∨ (i = c.tok.length ∧ e1 = ⟨w.heap.size, cap, sz, n⟩) := by
      intro i e1 hi
      by_cases hlt : i < c.tok.length
      · rw [List.getElem?_append_left hlt] at hi
        exact .inl ⟨hi, hlt⟩
      · rw [List.getElem?_append_right (by omega)] at hi
        have : i - c.tok.length = 0 := by
          have := (List.getElem?_eq_some_iff.1 hi).1
          simp at this; omega
        rw [this] at hi
        simp at hi
        exact .inr ⟨by omega, hi.symm⟩
    have hle : Le (c.prot w.heap.size (n * sz) (fun o => cur.getD o undef)) { c.prot w.heap.size (n * sz) (fun o => cur.getD o undef) with tok := c.tok ++ [⟨w.heap.size, cap, sz, n⟩] } := by
      refine ⟨fun _ _ _ h => h, fun _ _ h => h, fun i e1 he => ⟨e1, ?_, .inl rfl⟩⟩
      have : i < c.tok.length := (List.getElem?_eq_some_iff.1 he).1
      show (c.tok ++ _)[i]? = _
      rw [List.getElem?_append_left this]
      exact he
    refine ⟨{ c.prot w.heap.size (n * sz) (fun o => cur.getD o undef) with tok := c.tok ++ [⟨w.heap.size, cap, sz, n⟩] }, h2.trans hle, ?_, hmem, ?_, rfl⟩
    · refine ⟨h1.base, h1.below, h1.mem, h1.blkLen, fun i g b hg hb => ?_, h1.blkInj, ?_, fun i e1 he => ?_, fun i j e1 e2 hi hj hg => ?_⟩
      · obtain ⟨q1, q2, cur', fr', q3, q4, q5, q6⟩ := h1.blk i g b hg hb
        exact ⟨q1, q2, cur', fr', q3, q4, q5, fun j hj => (q6 j hj).mono hle⟩
      · have := h1.tokLen
        simp only [HS.up, List.length_append, List.length_cons, List.length_nil] at this ⊢
        have h3 : (c.prot w.heap.size (n * sz) (fun o => cur.getD o undef)).tok = c.tok := rfl
        rw [h3] at this
        omega
      · rcases hlast i e1 he with ⟨he', hlt'⟩ | ⟨rfl, rfl⟩
        · obtain ⟨q1, q⟩ := h1.tok i e1 he'
          refine ⟨?_, q⟩
          have := h.tokLen
          simp only [HS.up]
          rw [List.getElem?_append_left (by omega)]
          exact q1
        · refine ⟨by simp [HS.up, h.tokLen], h.base, hcap, hnone, hnb, cur, e, fr, heap_new w _, hsz, hfr⟩
      · rcases hlast i e1 hi with ⟨hi', _⟩ | ⟨rfl, rfl⟩
        · rcases hlast j e2 hj with ⟨hj', _⟩ | ⟨rfl, rfl⟩
          · exact h.tokInj i j e1 e2 hi' hj' hg
          · have := h.tok_lt hi'; simp at hg; omega
        · rcases hlast j e2 hj with ⟨hj', _⟩ | ⟨rfl, rfl⟩
          · have := h.tok_lt hj'; simp at hg; omega
          · rfl
    · simp [HS.tk, ← h.tokLen]
  | some k =>
    have hk : k < c.tok.length := by
      have := (List.getElem?_eq_some_iff.1 (hok k rfl)).1
      have := h.tokLen
      omega
    obtain ⟨e0, he0⟩ : ∃ e0, c.tok[k]? = some e0 := ⟨_, List.getElem?_eq_getElem hk⟩
    have hm0 : e0.mark = m0 := by
      have := (h.tok k e0 he0).1
      rw [hok k rfl] at this
      exact (Option.some.inj this).symm
    have hgt : m0 < n := by rcases hlt with h | h; exact h; cases h
    have hset : ∀ i e1, (c.tok.set k ⟨w.heap.size, cap, sz, n⟩)[i]? = some e1 → (i ≠ k ∧ c.tok[i]? = some e1) ∨ (i = k ∧ e1 = ⟨w.heap.size, cap, sz, n⟩) := by
      intro i e1 hi
      by_cases hik : i = k
      · subst hik
        rw [List.getElem?_set_self hk] at hi
        exact .inr ⟨rfl, (Option.some.inj hi).symm⟩
      · rw [List.getElem?_set_ne (fun e => hik e.symm)] at hi
        exact .inl ⟨hik, hi⟩
    have hle : Le (c.prot w.heap.size (n * sz) (fun o => cur.getD o undef)) { c.prot w.heap.size (n * sz) (fun o => cur.getD o undef) with tok := c.tok.set k ⟨w.heap.size, cap, sz, n⟩ } := by
      refine ⟨fun _ _ _ h => h, fun _ _ h => h, fun i e1 he => ?_⟩
      by_cases hik : i = k
      · subst hik
        refine ⟨⟨w.heap.size, cap, sz, n⟩, ?_, .inr ?_⟩
        · show (c.tok.set i _)[i]? = _
          rw [List.getElem?_set_self hk]
        · have : e1 = e0 := by
            have hh : c.tok[i]? = some e1 := he
            rw [he0] at hh; exact (Option.some.inj hh).symm
          subst this
          show e1.mark < n
          omega
      · refine ⟨e1, ?_, .inl rfl⟩
        show (c.tok.set k _)[i]? = _
        rw [List.getElem?_set_ne (fun e => hik e.symm)]
        exact he
    refine ⟨{ c.prot w.heap.size (n * sz) (fun o => cur.getD o undef) with tok := c.tok.set k ⟨w.heap.size, cap, sz, n⟩ }, h2.trans hle, ?_, hmem, ?_, rfl⟩
    · refine ⟨h1.base, h1.below, h1.mem, h1.blkLen, fun i g b hg hb => ?_, h1.blkInj, ?_, fun i e1 he => ?_, fun i j e1 e2 hi hj hg => ?_⟩
      · obtain ⟨q1, q2, cur', fr', q3, q4, q5, q6⟩ := h1.blk i g b hg hb
        exact ⟨q1, q2, cur', fr', q3, q4, q5, fun j hj => (q6 j hj).mono hle⟩
      · simpa [HS.up] using h.tokLen
      · rcases hset i e1 he with ⟨hik, he'⟩ | ⟨rfl, rfl⟩
        · obtain ⟨q1, q⟩ := h1.tok i e1 he'
          refine ⟨?_, q⟩
          simp only [HS.up]
          rw [List.getElem?_set_ne (fun e => hik e.symm)]
          exact q1
        · refine ⟨?_, h.base, hcap, hnone, hnb, cur, e, fr, heap_new w _, hsz, hfr⟩
          simp only [HS.up]
          rw [List.getElem?_set_self (by have := h.tokLen; omega)]
      · rcases hset i e1 hi with ⟨_, hi'⟩ | ⟨rfl, rfl⟩
        · rcases hset j e2 hj with ⟨_, hj'⟩ | ⟨rfl, rfl⟩
          · exact h.tokInj i j e1 e2 hi' hj' hg
          · have := h.tok_lt hi'; simp at hg; omega
        · rcases hset j e2 hj with ⟨_, hj'⟩ | ⟨rfl, rfl⟩
          · have := h.tok_lt hj'; simp at hg; omega
          · rfl
    · show (c.tok.set k _)[k]? = _
      rw [List.getElem?_set_self hk]

theorem setRow_size (w : World) (g : Nat) (cs : Array Value) : (w.setRow g cs).heap.size = w.heap.size := by simp [World.setRow]
theorem Below.setRow' {B : Nat} {w0 w : World} (h : Below B w0 w) {g : Nat} (hg : B ≤ g) (cs : Array Value) : Below B w0 (w.setRow g cs) :=
  h.trans ⟨rfl, rfl, rfl, by rw [setRow_size]; exact Nat.le_refl _, fun k hk => setRow_other w g k cs (by omega)⟩

/-- The list grows in its own block. -/
theorem Inv.growTok {B : Nat} {w0 w : World} {c : Ctx} {H : HS} (h : Inv B w0 c H w) (k : Nat) (e : Tok) (he : c.tok[k]? = some e) (cur : Array Value) (et : TypeId) (fr : Nat × Nat) (hw : w.heap[e.g]? = some (.cells cur et fr))
    (vs : List Value) (m : Nat) (hl : vs.length = m * e.sz) (hm : 0 < m) (hfit : e.mark + m ≤ e.cap) :
    ∃ c', Le c c' ∧ Inv B w0 c' (H.up (some k) (e.mark + m)) (w.setRow e.g (putA cur (e.mark * e.sz) vs)) ∧ (∀ j u, vs[j]? = some u → c'.mem e.g (e.mark * e.sz + j) = some u) ∧
      c'.tok[k]? = some { e with mark := e.mark + m } ∧ c'.blk = c.blk := by
  obtain ⟨p1, p2, p3, p4, p5, cur', et', fr', p6, p7, p8⟩ := h.tok k e he
  rw [hw] at p6
  injection p6 with p6
  injection p6 with q1 q2 q3
  subst q1 q2 q3
  have hk : k < c.tok.length := (List.getElem?_eq_some_iff.1 he).1
  have hsz : (e.mark + m) * e.sz ≤ cur.size := by rw [p7]; exact Nat.mul_le_mul_right _ hfit
  have hms : (e.mark + m) * e.sz = e.mark * e.sz + vs.length := by rw [Nat.add_mul, hl]
  have hput : e.mark * e.sz + vs.length ≤ cur.size := by omega
  let c1 : Ctx := { mem := fun b o => if b = e.g ∧ e.mark * e.sz ≤ o ∧ o < e.mark * e.sz + vs.length then vs[o - e.mark * e.sz]? else c.mem b o, blk := c.blk, tok := c.tok.set k { e with mark := e.mark + m } }
  have hle : Le c c1 := by
    refine ⟨fun b o u hu => ?_, fun _ _ h => h, fun i e1 hi => ?_⟩
    · show (if _ then _ else _) = _
      by_cases hb : b = e.g ∧ e.mark * e.sz ≤ o ∧ o < e.mark * e.sz + vs.length
      · obtain ⟨rfl, h1, h2⟩ := hb
        rw [p4 o h1] at hu
        cases hu
      · rw [if_neg hb]; exact hu
    · by_cases hik : i = k
      · subst hik
        refine ⟨{ e with mark := e.mark + m }, List.getElem?_set_self hk, .inr ?_⟩
        have : e1 = e := by rw [he] at hi; exact (Option.some.inj hi).symm
        subst this
        show e1.mark < e1.mark + m
        omega
      · refine ⟨e1, ?_, .inl rfl⟩
        show (c.tok.set k _)[i]? = _
        rw [List.getElem?_set_ne (fun e => hik e.symm)]
        exact hi
  have hset : ∀ i e1, c1.tok[i]? = some e1 → (i ≠ k ∧ c.tok[i]? = some e1) ∨ (i = k ∧ e1 = { e with mark := e.mark + m }) := by
    intro i e1 hi
    by_cases hik : i = k
    · subst hik
      have : c1.tok[i]? = some { e with mark := e.mark + m } := List.getElem?_set_self hk
      rw [this] at hi
      exact .inr ⟨rfl, (Option.some.inj hi).symm⟩
    · have : c1.tok[i]? = c.tok[i]? := List.getElem?_set_ne (fun e => hik e.symm)
      rw [this] at hi
      exact .inl ⟨hik, hi⟩
  refine ⟨c1, hle, ?_, ?_, List.getElem?_set_self hk, rfl⟩
  · refine ⟨by rw [setRow_size]; exact h.base, Below.setRow' h.below p2 _, fun b o u hu => ?_, by rw [HS.up_blks]; exact h.blkLen, fun i g b hg hb => ?_, h.blkInj, ?_, fun i e1 hi => ?_, fun i j e1 e2 hi hj hg => ?_⟩
    · have hu' : (if b = e.g ∧ e.mark * e.sz ≤ o ∧ o < e.mark * e.sz + vs.length then vs[o - e.mark * e.sz]? else c.mem b o) = some u := hu
      by_cases hb : b = e.g
      · subst hb
        rw [cell_setRow_same w e.g o cur _ et fr hw, putA_get hput]
        by_cases ho : e.mark * e.sz ≤ o ∧ o < e.mark * e.sz + vs.length
        · rw [if_pos ⟨rfl, ho⟩] at hu'
          rw [if_pos ho]; exact hu'
        · rw [if_neg (fun hh => ho hh.2)] at hu'
          rw [if_neg ho]
          have := h.mem _ _ _ hu'
          simpa [World.cell?, hw] using this
      · rw [if_neg (fun hh => hb hh.1)] at hu'
        rw [cell_setRow_other w e.g _ _ hb]
        exact h.mem _ _ _ hu'
    · have hne : g ≠ e.g := fun hh => p5 i (hh ▸ hg)
      obtain ⟨q1, q2, cur', fr', q3, q4, q5, q6⟩ := h.blk i g b hg (by rw [HS.up_blks] at hb; exact hb)
      refine ⟨q1, fun o => ?_, cur', fr', ?_, q4, q5, fun j hj => (q6 j hj).mono hle⟩
      · show (if _ then _ else _) = _
        rw [if_neg (fun hh => hne hh.1)]
        exact q2 o
      · rw [setRow_other w e.g g _ hne]; exact q3
    · show (c.tok.set k _).length = _
      simpa [HS.up] using h.tokLen
    · rcases hset i e1 hi with ⟨hik, he'⟩ | ⟨rfl, rfl⟩
      · obtain ⟨q1, q2, q3, q4, q5, cur', et', fr', q6, q7⟩ := h.tok i e1 he'
        have hne : e1.g ≠ e.g := fun hh => hik (h.tokInj i k e1 e he' he hh)
        refine ⟨?_, q2, q3, fun o ho => ?_, q5, cur', et', fr', ?_, q7⟩
        · simp only [HS.up]
          rw [List.getElem?_set_ne (fun e => hik e.symm)]
          exact q1
        · show (if _ then _ else _) = _
          rw [if_neg (fun hh => hne hh.1)]
          exact q4 o ho
        · rw [setRow_other w e.g e1.g _ hne]; exact q6
      · refine ⟨?_, p2, hfit, fun o ho => ?_, p5, putA cur (e.mark * e.sz) vs, et, fr, setRow_heap w e.g cur _ et fr hw, ?_, ?_⟩
        · simp only [HS.up]
          rw [List.getElem?_set_self (by have := h.tokLen; omega)]
        · show (if _ then _ else _) = _
          rw [if_neg (by
            intro hh
            have h3 : (e.mark + m) * e.sz ≤ o := ho
            omega)]
          exact p4 o (by
            have h3 : (e.mark + m) * e.sz ≤ o := ho
            omega)
        · show (putA cur (e.mark * e.sz) vs).size = e.cap * e.sz
          rw [putA_size hput]; exact p7
        · intro o ho
          rw [putA_size hput] at ho
          exact p8 o ho
    · rcases hset i e1 hi with ⟨hik, hi'⟩ | ⟨rfl, rfl⟩
      · rcases hset j e2 hj with ⟨hjk, hj'⟩ | ⟨rfl, rfl⟩
        · exact h.tokInj i j e1 e2 hi' hj' hg
        · exact absurd (h.tokInj i j e1 e hi' he hg) hik
      · rcases hset j e2 hj with ⟨hjk, hj'⟩ | ⟨rfl, rfl⟩
        · exact absurd (h.tokInj j i e2 e hj' he hg.symm) hjk
        · rfl
  · intro j u hu
    have hj : j < vs.length := (List.getElem?_eq_some_iff.1 hu).1
    show (if _ then _ else _) = _
    rw [if_pos ⟨rfl, by omega, by omega⟩, Nat.add_sub_cancel_left]
    exact hu

/-! ### An exact block is written -/
def putL : List AV → Nat → List AV → List AV
  | cs, _, [] => cs
  | cs, k, v :: vs => putL (cs.set k v) (k + 1) vs
def HS.put (H : HS) (id off : Nat) (vs : List AV) : HS := { H with blks := H.blks.modify id fun b => { b with cs := putL b.cs off vs } }
theorem putL_length : ∀ (vs cs : List AV) (k : Nat), (putL cs k vs).length = cs.length
  | [], _, _ => rfl
  | v :: vs, cs, k => by rw [putL, putL_length vs]; simp
theorem putL_get : ∀ (vs cs : List AV) (k j : Nat), k + vs.length ≤ cs.length → (putL cs k vs)[j]? = if k ≤ j ∧ j < k + vs.length then vs[j - k]? else cs[j]?
  | [], cs, k, j, _ => by rw [if_neg (by simp only [List.length_nil]; omega)]; rfl
  | v :: vs, cs, k, j, h => by
    simp at h
    rw [putL, putL_get vs _ _ _ (by simp; omega)]
    by_cases h1 : k + 1 ≤ j ∧ j < k + 1 + vs.length
    · rw [if_pos h1, if_pos (by simp only [List.length_cons]; omega)]
      have : j - k = (j - (k + 1)) + 1 := by omega
      rw [this, List.getElem?_cons_succ]
    · rw [if_neg h1]
      by_cases h2 : j = k
      · subst h2
        rw [if_pos (by simp), List.getElem?_set_self (by omega)]
        simp
      · rw [if_neg (by simp only [List.length_cons]; omega), List.getElem?_set_ne (fun e => h2 e.symm)]

theorem Inv.putBlk {B : Nat} {w0 w : World} {c : Ctx} {H : HS} (h : Inv B w0 c H w) (id g off : Nat) (b : HB) (hg : c.blk[id]? = some g) (hb : H.blks[id]? = some b)
    (vs : List Value) (avs : List AV) (hl : vs.length = avs.length) (hr : ∀ j (hj : j < vs.length) (hj' : j < avs.length), Rep c vs[j] avs[j]) (hfit : off + avs.length ≤ b.cs.length)
    (cur : Array Value) (et : TypeId) (fr : Nat × Nat) (hw : w.heap[g]? = some (.cells cur et fr)) :
    Inv B w0 c (H.put id off avs) (w.setRow g (putA cur off vs)) := by
  obtain ⟨p1, p2, cur', fr', p3, p4, p5, p6⟩ := h.blk id g b hg hb
  rw [hw] at p3
  injection p3 with p3
  injection p3 with q1 q2 q3
  subst q1 q2 q3
  have hput : off + vs.length ≤ cur.size := by omega
  refine ⟨by rw [setRow_size]; exact h.base, Below.setRow' h.below p1 _, fun b' o u hu => ?_, ?_, fun i g' b' hg' hb' => ?_, h.blkInj, h.tokLen, fun i e he => ?_, h.tokInj⟩
  · have hne : b' ≠ g := fun hh => by subst hh; rw [p2] at hu; cases hu
    rw [cell_setRow_other w g _ _ hne]
    exact h.mem _ _ _ hu
  · simp [HS.put, h.blkLen]
  · by_cases hi : i = id
    · subst hi
      have : g' = g := by rw [hg] at hg'; exact (Option.some.inj hg').symm
      subst this
      have hb2 : b' = { b with cs := putL b.cs off avs } := by
        have : (H.put i off avs).blks[i]? = some { b with cs := putL b.cs off avs } := by simp [HS.put, hb]
        rw [this] at hb'; exact (Option.some.inj hb').symm
      subst hb2
      refine ⟨p1, p2, putA cur off vs, fr, setRow_heap w g' cur _ _ fr hw, ?_, ?_, ?_⟩
      · rw [putA_size hput, putL_length]; exact p4
      · intro hfz o; exact p5 hfz o
      · intro j hj
        have hj1 : j < b.cs.length := by
          have : (putL b.cs off avs).length = b.cs.length := putL_length ..
          have hj' : j < (putL b.cs off avs).length := hj
          omega
        have e1 : (putL b.cs off avs)[j]? = some ((putL b.cs off avs)[j]'hj) := List.getElem?_eq_getElem hj
        rw [putL_get _ _ _ _ hfit] at e1
        have e2 : (putA cur off vs).getD j undef = ((putA cur off vs)[j]?).getD undef := by simp
        show Rep c ((putA cur off vs).getD j undef) ((putL b.cs off avs)[j]'hj)
        rw [e2, putA_get hput]
        by_cases hh : off ≤ j ∧ j < off + avs.length
        · rw [if_pos hh] at e1
          rw [if_pos (by omega)]
          have ha : j - off < avs.length := by omega
          have hv : j - off < vs.length := by omega
          rw [List.getElem?_eq_getElem ha] at e1
          rw [List.getElem?_eq_getElem hv]
          have := hr (j - off) hv ha
          rw [Option.some.inj e1] at this
          exact this
        · rw [if_neg hh] at e1
          rw [if_neg (by omega)]
          have := p6 j hj1
          rw [List.getElem?_eq_getElem hj1] at e1
          rw [← Option.some.inj e1]
          simpa using this
    · have hne : g' ≠ g := fun hh => hi (h.blkInj i id g (hh ▸ hg') hg)
      have hb3 : H.blks[i]? = some b' := by
        have : (H.put id off avs).blks[i]? = H.blks[i]? := by
          have hne2 : ¬ id = i := fun e => hi e.symm
          cases hq : H.blks[i]? <;> simp [HS.put, hne2, hq]
        rw [← this]; exact hb'
      obtain ⟨q1, q2, cur', fr', q3, q4⟩ := h.blk i g' b' hg' hb3
      exact ⟨q1, q2, cur', fr', by rw [setRow_other w g g' _ hne]; exact q3, q4⟩
  · obtain ⟨q1, q2, q3, q4, q5, cur', et', fr', q6, q7⟩ := h.tok i e he
    have hne : e.g ≠ g := fun hh => q5 id (hh ▸ hg)
    exact ⟨q1, q2, q3, q4, q5, cur', et', fr', by rw [setRow_other w g e.g _ hne]; exact q6, q7⟩

end Go.AV
