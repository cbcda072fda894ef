/-
  The AV logic, part 8: structs and lists that are built.
-/
import Derived.Test.YtjamnhofbkgblaaA7
namespace Go.AV
open Go.RowKit

def AV.known : AV → Bool
  | .un => false
  | _ => true
theorem AV.known_ne {v : AV} (h : v.known = true) : v ≠ .un := by intro e; subst e; cases h

def putV : Array Value → Nat → List Value → Array Value
  | cs, _, [] => cs
  | cs, k, v :: vs => putV (cs.setIfInBounds k v) (k + 1) vs
theorem foldl_putV (off : Nat) : ∀ (l : List Value) (k : Nat) (cells : Array Value), (l.zipIdx k).foldl (fun cs (p : Value × Nat) => cs.setIfInBounds (off + p.2) p.1) cells = putV cells (off + k) l
  | [], _, _ => rfl
  | v :: l, k, cells => by
    rw [List.zipIdx_cons, List.foldl_cons, foldl_putV off l (k + 1)]
    rfl
structure Cells (c : Ctx) (vs : Array Value) (cs : List AV) : Prop where
  size : vs.size = cs.length
  at_ : ∀ i (hi : i < cs.length), Rep c (vs.getD i undef) cs[i]
theorem Cells.put {c : Ctx} : ∀ {l : List Value} {m : List AV} {vs : Array Value} {cs : List AV} {k : Nat}, Cells c vs cs → l.length = m.length → (∀ i (hi : i < m.length), Rep c (l.getD i undef) m[i]) → Cells c (putV vs k l) (putL cs k m)
  | [], [], _, _, _, h, _, _ => h
  | v :: l, x :: m, vs, cs, k, h, hl, hr => by
    refine Cells.put (l := l) (m := m) ⟨by simp [h.size], fun i hi => ?_⟩ (by simpa using hl) (fun i hi => by
      have := hr (i + 1) (by simp; omega)
      simpa using this)
    have hi' : i < cs.length := by simpa using hi
    have hi2 : i < vs.size := by rw [h.size]; exact hi'
    by_cases hik : k = i
    · subst hik
      have h0 := hr 0 (by simp)
      simp [hi2]
      simpa using h0
    · have := h.at_ i hi'
      rw [Array.getD_eq_getD_getElem?] at this ⊢
      rw [Array.getElem?_setIfInBounds_ne hik]
      simpa [List.getElem_set_ne hik] using this
  | [], _ :: _, _, _, _, _, hl, _ => by simp at hl
  | _ :: _, [], _, _, _, _, hl, _ => by simp at hl

def fillA (place : Nat → Option (Nat × Nat)) : List AV → List (Nat × List AV) → Option (List AV)
  | cs, [] => some cs
  | cs, (i, v) :: rest =>
    match place i with
    | none => none
    | some (off, size) => if v.length = size then if off + v.length ≤ cs.length then fillA place (putL cs off v) rest else none else none
theorem fill_rep {c : Ctx} {place : Nat → Option (Nat × Nat)} : ∀ (ps : List (Nat × List AV)) (parts : List (Nat × Value)) (vs : Array Value) (cs cs' : List AV), Cells c vs cs → parts.length = ps.length →
    (∀ j (hj : j < parts.length) (hj' : j < ps.length), parts[j].1 = ps[j].1 ∧ Cells c parts[j].2.cells ps[j].2) → fillA place cs ps = some cs' → ∃ vs', Instr.fill place vs parts = some vs' ∧ Cells c vs' cs'
  | [], [], vs, cs, cs', h, _, _, hf => by
    simp [fillA] at hf
    subst hf
    exact ⟨vs, rfl, h⟩
  | (i, m) :: ps, (i', v) :: parts, vs, cs, cs', h, hl, hp, hf => by
    obtain ⟨e1, e2⟩ := hp 0 (by simp) (by simp)
    simp at e1 e2
    subst e1
    simp only [fillA] at hf
    cases hpl : place i' with
    | none => rw [hpl] at hf; cases hf
    | some os =>
      obtain ⟨off, size⟩ := os
      rw [hpl] at hf
      simp only [] at hf
      by_cases h1 : m.length = size
      · rw [if_pos h1] at hf
        by_cases h2 : off + m.length ≤ cs.length
        · rw [if_pos h2] at hf
          have hc := Cells.put (k := off) h (l := v.cells.toList) (m := m) (by simpa using e2.size) (fun i hi => by
            have := e2.at_ i hi
            have hi2 : i < v.cells.size := by rw [e2.size]; exact hi
            simpa [hi2] using this)
          obtain ⟨vs', q1, q2⟩ := fill_rep ps parts _ _ cs' hc (by simpa using hl) (fun j hj hj' => by
            have := hp (j + 1) (by simp; omega) (by simp; omega)
            simpa using this) hf
          refine ⟨vs', ?_, q2⟩
          have hfold : v.cells.zipIdx.foldl (fun cs (p : Value × Nat) => cs.setIfInBounds (off + p.2) p.1) vs = putV vs off v.cells.toList := by
            rw [← Array.foldl_toList, Array.toList_zipIdx, foldl_putV]
            rfl
          simp only [Instr.fill, hpl]
          rw [if_neg (by
            simp only [Bool.or_eq_true, decide_eq_true_eq, not_or, ne_eq]
            have := e2.size
            have := h.size
            omega)]
          rw [← q1, ← hfold]
        · rw [if_neg h2] at hf; cases hf
      · rw [if_neg h1] at hf; cases hf
  | [], _ :: _, _, _, _, _, hl, _, _ => by simp at hl
  | _ :: _, [], _, _, _, _, hl, _, _ => by simp at hl

def places (P : Program) : List Field → Option (List (Nat × Nat))
  | [] => some []
  | f :: fs => match P.info? f.type, places P fs with
    | some i, some r => some ((f.offset, i.size) :: r)
    | _, _ => none
theorem run_places {P : Program} : ∀ (fs : List Field) (pl : List (Nat × Nat)), places P fs = some pl → ∀ w, (fs.mapM fun f => (do pure (f.offset, ← sizeOf f.type) : Sem (Nat × Nat))).run P w = .ok pl w
  | [], pl, h, w => by simp [places] at h; subst h; rfl
  | f :: fs, pl, h, w => by
    simp only [places] at h
    cases hi : P.info? f.type with
    | none => rw [hi] at h; cases h
    | some i =>
      rw [hi] at h
      cases hr : places P fs with
      | none => rw [hr] at h; cases h
      | some r =>
        rw [hr] at h
        simp at h
        subst h
        have ih := run_places fs r hr w
        have hs : (sizeOf f.type).run P w = .ok i.size w := by simp [sizeOf, typeInfo, hi]
        rw [List.mapM_cons]
        simp [hs]
        simp at ih
        rw [ih]
        rfl

section
variable {P : Program} {E : Operand → AV} {H : HS} {R : AV → HS → Prop} {dst : Option Tmp} {ty : TypeId} {pos : String} {after : Array Edge} {gd : Option (Nat × Bool)}

def evP (a : Act) (l : List (Nat × Operand)) : List (Nat × Value) := l.map fun p => (p.1, a.eval p.2)
theorem parts_cells {c : Ctx} {a : Act} {parts : Array (Nat × Operand)} {ps : List (Nat × List AV)} (hk : parts.toList.all (fun p => (E p.2).known) = true) (hps : parts.toList.map (fun p => (p.1, (E p.2).cells)) = ps) (hops : ∀ x ∈ (parts.toList.map (·.2)), Rep c (a.eval x) (E x)) :
    (evP a parts.toList).length = ps.length ∧ ∀ j (hj : j < (evP a parts.toList).length) (hj' : j < ps.length), ((evP a parts.toList)[j]).1 = ps[j].1 ∧ Cells c ((evP a parts.toList)[j]).2.cells ps[j].2 := by
  subst hps
  refine ⟨by simp [evP], fun j hj hj' => ?_⟩
  have hj2 : j < parts.toList.length := by simpa [evP] using hj
  simp only [evP, List.getElem_map]
  have hmem : parts.toList[j] ∈ parts.toList := List.getElem_mem hj2
  have h1 := hops _ (List.mem_map.2 ⟨_, hmem, rfl⟩)
  have h2 := List.all_eq_true.1 hk _ hmem
  obtain ⟨h3, h4⟩ := h1.cells (AV.known_ne h2)
  refine ⟨trivial, h3, h4⟩

/-- T{..}: the fields' cells. -/
theorem op_build {t : TypeId} {parts : Array (Nat × Operand)} {fs : Array Field} {z : Value} {pl : List (Nat × Nat)} {ps : List (Nat × List AV)} {cs : List AV} (ht : P.underlying t = some (.struct fs)) (hz : (P.info? t).map (·.zero) = some (some z)) (hpl : places P fs.toList = some pl)
    (hk : parts.toList.all (fun p => (E p.2).known) = true) (hps : parts.toList.map (fun p => (p.1, (E p.2).cells)) = ps) (hcs : fillA (fun i => pl[i]?) (z.cells.toList.map constAV) ps = some cs) :
    OpR P ⟨dst, .build t parts, ty, pos, after, gd⟩ E H (Ret (.agg cs) H) :=
  opR_pure fun c w a hm hops => by
    obtain ⟨inf, hi1, hi2⟩ := Option.map_eq_some_iff.1 hz
    obtain ⟨q1, q2⟩ := parts_cells (c := c) (a := a) hk hps (fun x hx => hops x (by simpa [Op.operands] using hx))
    obtain ⟨vs', f1, f2⟩ := fill_rep (c := c) ps (evP a parts.toList) z.cells (z.cells.toList.map constAV) cs ⟨by simp, const_cells z c⟩ q1 q2 hcs
    have hzv : ∀ w, (zeroValue t).run P w = .ok z w := fun w => by simp [zeroValue, typeInfo, hi1, hi2]
    have hpr := run_places (P := P) fs.toList pl hpl
    refine ⟨.agg vs', ?_, .agg _ _ f2.size f2.at_⟩
    have hfill : Instr.fill (fun i => pl.toArray[i]?) z.cells (parts.map fun p => (p.1, a.eval p.2)).toList = some vs' := by
      rw [Array.toList_map, ← f1]
      congr 1
      funext i
      simp
    have hmap : (fs.mapM fun f => (do pure (f.offset, ← sizeOf f.type) : Sem (Nat × Nat))).run P w = .ok pl.toArray w := by
      rw [Array.mapM_eq_mapM_toList]
      have := hpr w
      simp at this ⊢
      rw [this]
      rfl
    have hb : (Instr.build t (parts.map fun p => (p.1, a.eval p.2))).run P w = .ok (.agg vs') w := by
      unfold Instr.build
      rw [Sem.run_bind, hzv]
      simp only [Result.andThen_ok]
      rw [Sem.run_bind, run_underlying ht]
      simp only [Result.andThen_ok]
      rw [Sem.run_bind, hmap]
      simp only [Result.andThen_ok]
      rw [hfill]
      rfl
    simp [execOp, hb]
theorem rep_agg_d {c : Ctx} {x : Value} {ds : List DV} (h1 : ∀ d ∈ ds, d.one = true) (h : Rep c x (.agg (ds.map .d))) : Rep c x (.d (.agg ds)) := by
  cases h with
  | agg vs cs hl h =>
    refine .d (.agg vs ds (by simpa using hl) h1 fun i hi => ?_)
    have := h i (by simpa using hi)
    simp at this
    simpa using this.d_inv
theorem opR_weaken {o : Oper} {v v' : AV} {H' : HS} (h : OpR P o E H (Ret v H')) (hw : ∀ c x, Rep c x v → Rep c x v') : OpR P o E H (Ret v' H') := by
  intro B w0 c w a next Q hI hops hnext
  refine h B w0 c w a next Q hI hops ?_
  rintro x w' c' av H'' l1 r1 i1 ⟨rfl, rfl⟩
  exact hnext x w' c' v' _ l1 (hw _ _ r1) i1 ⟨rfl, rfl⟩
theorem op_buildD {t : TypeId} {parts : Array (Nat × Operand)} {fs : Array Field} {z : Value} {pl : List (Nat × Nat)} {ps : List (Nat × List AV)} (ds : List DV) (ht : P.underlying t = some (.struct fs)) (hz : (P.info? t).map (·.zero) = some (some z)) (hpl : places P fs.toList = some pl)
    (hk : parts.toList.all (fun p => (E p.2).known) = true) (hps : parts.toList.map (fun p => (p.1, (E p.2).cells)) = ps) (hcs : fillA (fun i => pl[i]?) (z.cells.toList.map constAV) ps = some (ds.map .d)) (h1 : ∀ d ∈ ds, d.one = true) :
    OpR P ⟨dst, .build t parts, ty, pos, after, gd⟩ E H (Ret (.d (.agg ds)) H) :=
  opR_weaken (op_build ht hz hpl hk hps hcs) fun _ _ h => rep_agg_d h1 h

theorem cells_un (c : Ctx) (vs : Array Value) : Cells c vs (List.replicate vs.size .un) := ⟨by simp, fun i hi => by simp; exact .un _⟩
/-- []T{a, b, ..}: all its elements. -/
theorem op_buildSlice {t e : TypeId} {len sz : Nat} {parts : Array (Nat × Operand)} {z : Value} {ps : List (Nat × List AV)} (ys : List DV) (ht : P.underlying t = some (.slice e)) (hz : (P.info? e).map (fun i => (i.zero, i.size)) = some (some z, sz))
    (hk : parts.toList.all (fun p => (E p.2).known) = true) (hps : parts.toList.map (fun p => (p.1, (E p.2).cells)) = ps) (hcs : fillA (fun i => some (i * sz, sz)) (List.replicate (len * sz) .un) ps = some ((flat ys).map .d)) (hl : ys.length = len) (hy : ∀ y ∈ ys, y.cells.length = sz)
    (h1 : ∀ d ∈ flat ys, d.one = true) (hsm : len * sz ≤ 16777216) : OpR P ⟨dst, .buildSlice t len parts, ty, pos, after, gd⟩ E H (Ret (.own none sz ys) H) :=
  opR_value fun B w0 c w a hI hops => by
    obtain ⟨inf, hi1, hi2⟩ := Option.map_eq_some_iff.1 hz
    simp only [Prod.mk.injEq] at hi2
    obtain ⟨hi2, hi3⟩ := hi2
    obtain ⟨q1, q2⟩ := parts_cells (c := c) (a := a) hk hps (fun x hx => hops x (by simpa [Op.operands] using hx))
    have hzv : ∀ w, (zeroValue e).run P w = .ok z w := fun w => by simp [zeroValue, typeInfo, hi1, hi2]
    have hso : ∀ w, (sizeOf e).run P w = .ok sz w := fun w => by simp [sizeOf, typeInfo, hi1, hi3]
    have run : ∀ (zero : Array Value), ((Array.range (len * sz)).map (zero[· % zero.size]!)).size = len * sz → ∃ vs', Instr.fill (fun i => some (i * sz, sz)) ((Array.range (len * sz)).map (zero[· % zero.size]!)) (parts.map fun p => (p.1, a.eval p.2)).toList = some vs' ∧ Cells c vs' ((flat ys).map .d) := by
      intro zero hs
      have hc := cells_un c ((Array.range (len * sz)).map (zero[· % zero.size]!))
      rw [hs] at hc
      obtain ⟨vs', f1, f2⟩ := fill_rep (c := c) ps (evP a parts.toList) _ _ _ hc q1 q2 hcs
      exact ⟨vs', by rw [Array.toList_map]; exact f1, f2⟩
    have hbs : ∃ vs', (Instr.buildSlice t len (parts.map fun p => (p.1, a.eval p.2))).run P w = .ok (.slice (some ⟨w.heap.size, 0, none⟩) len len) (w.alloc (.cells vs' e)) ∧ Cells c vs' ((flat ys).map .d) := by
      unfold Instr.buildSlice
      rw [Sem.run_bind, run_underlying ht]
      simp only [Result.andThen_ok]
      rw [Sem.run_bind, hso]
      simp only [Result.andThen_ok]
      have hsm' : ¬ (len * sz > 2 ^ 24) := by omega
      rw [if_neg hsm']
      by_cases h0 : len * sz = 0
      · rw [if_pos h0]
        obtain ⟨vs', f1, f2⟩ := run #[] (by simp)
        refine ⟨vs', ?_, f2⟩
        simp only [Sem.run_bind, Sem.run_pure, Result.andThen_ok]
        rw [f1]
        simp [newRow]
      · rw [if_neg h0]
        obtain ⟨vs', f1, f2⟩ := run z.cells (by simp)
        refine ⟨vs', ?_, f2⟩
        simp only [Sem.run_bind, Sem.run_pure, Result.andThen_ok, hzv]
        rw [f1]
        simp [newRow]
    obtain ⟨vs', hr, hc⟩ := hbs
    have hfl := flat_length hy
    have hvl : vs'.size = len * sz := by rw [hc.size]; simp [hfl, hl]
    obtain ⟨i1, l1⟩ := hI.allocProt vs' e (0, 0) vs'.size (Nat.le_refl _)
    refine ⟨_, _, _, _, _, ?_, l1, .own1 w.heap.size 0 len sz ys (RepD.mk_lst vs'.toList hl (Nat.le_refl _) hy h1 (by simp [hvl, hfl, hl]) (fun j u hu => ?_) (fun i hi hi' => ?_)), i1, rfl, rfl⟩
    · simp [execOp, hr]
    · have hj : j < vs'.size := by have := (List.getElem?_eq_some_iff.1 hu).1; simpa using this
      show (if w.heap.size = w.heap.size ∧ 0 + j < vs'.size then some (vs'.getD (0 + j) undef) else _) = _
      rw [if_pos ⟨rfl, by omega⟩, ← hu]
      simp [hj]
    · have h2 := hc.at_ i (by simpa using hi')
      have hi2 : i < vs'.size := by simpa using hi
      simp [hi2] at h2
      simpa using (h2.d_inv).mono l1.mem
end
end Go.AV
