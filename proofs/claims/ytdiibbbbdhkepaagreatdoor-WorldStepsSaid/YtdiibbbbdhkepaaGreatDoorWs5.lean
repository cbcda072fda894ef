/- Part 5 of what the law needs: A21, A22, A25, R1, R2, E0, EF, EG, E1, E2, E3, EC. -/
import Derived.Test.YtdiibbbbdhkepaaGreatDoorWs4
import Derived.Maps.RangeRun
import Derived.MapKept
import Derived.RangeFuncLeaves
import Derived.RangeFuncRecord
import Derived.RangeFuncIn
set_option linter.unusedSectionVars false
set_option linter.unusedVariables false
set_option linter.unusedSimpArgs false
namespace Go.AV
open Go.RowKit
def getE : List (List UInt8 × DV) → List UInt8 → Option DV
  | [], _ => none
  | e :: es, k => if e.1 = k then some e.2 else getE es k
def putE : List (List UInt8 × DV) → List UInt8 → DV → List (List UInt8 × DV)
  | [], k, v => [(k, v)]
  | e :: es, k, v => if e.1 = k then (k, v) :: es else e :: putE es k v
def delE : List (List UInt8 × DV) → List UInt8 → List (List UInt8 × DV)
  | [], _ => []
  | e :: es, k => if e.1 = k then es else e :: delE es k
def atE : List (List UInt8 × DV) → List UInt8 → Option Nat
  | [], _ => none
  | e :: es, k => if e.1 = k then some 0 else (atE es k).map (· + 1)
theorem atE_none : ∀ {es : List (List UInt8 × DV)} {k : List UInt8}, atE es k = none → getE es k = none ∧ (∀ v, putE es k v = es ++ [(k, v)]) ∧ delE es k = es
  | [], _, _ => ⟨rfl, fun _ => rfl, rfl⟩
  | e :: es, k, h => by
    by_cases hk : e.1 = k
    · simp [atE, hk] at h
    · simp only [atE, if_neg hk, Option.map_eq_none_iff] at h
      obtain ⟨h1, h2, h3⟩ := atE_none h
      exact ⟨by simp [getE, hk, h1], fun v => by simp [putE, hk, h2], by simp [delE, hk, h3]⟩
theorem atE_some : ∀ {es : List (List UInt8 × DV)} {k : List UInt8} {i : Nat}, atE es k = some i → ∃ d, es[i]? = some (k, d) ∧ getE es k = some d ∧ (∀ v, putE es k v = es.set i (k, v)) ∧ delE es k = es.eraseIdx i
  | [], _, _, h => by simp [atE] at h
  | e :: es, k, i, h => by
    by_cases hk : e.1 = k
    · simp only [atE, if_pos hk, Option.some.injEq] at h
      subst h
      exact ⟨e.2, by rw [← hk]; rfl, by simp [getE, hk], fun v => by simp [putE, hk], by simp [delE, hk]⟩
    · simp only [atE, if_neg hk] at h
      cases hi : atE es k with
      | none => rw [hi] at h; cases h
      | some j =>
        rw [hi] at h
        cases h
        obtain ⟨d, h1, h2, h3, h4⟩ := atE_some hi
        exact ⟨d, by simpa using h1, by simp [getE, hk, h2], fun v => by simp [putE, hk, h3], by simp [delE, hk, h4]⟩
def HS.nm (H : HS) : Nat := H.maps.length
def HS.pushM (H : HS) (m : MB) : HS := { H with maps := H.maps ++ [m] }
def HS.setM (H : HS) (i : Nat) (m : MB) : HS := { H with maps := H.maps.set i m }
theorem MapObj.find {m : Mem} {xs : Array MapEntry} {clock : Nat} {k : List UInt8} : ∀ {l : List MapEntry} {es : List (List UInt8 × DV)} (i0 : Nat) (_ : l.length = es.length) (_ : ∀ i (h : i < es.length), ∃ e, l[i]? = some e ∧ e.key = .string ⟨(es[i]).1.toArray⟩ ∧ RepD m e.val (es[i]).2),
    Instr.findNow .string (.string ⟨k.toArray⟩) l i0 = some ((atE es k).bind fun i => (l[i]?).map fun e => (i0 + i, e.val))
  | [], [], _, _, _ => rfl
  | [], _ :: _, _, h, _ => by simp at h
  | _ :: _, [], _, h, _ => by simp at h
  | e :: l, d :: es, i0, hl, hr => by
    obtain ⟨e', h1, h2, _⟩ := hr 0 (by simp)
    simp only [List.getElem?_cons_zero, Option.some.injEq] at h1
    subst h1
    simp only [List.getElem_cons_zero] at h2
    have ih := MapObj.find (m := m) (xs := xs) (clock := clock) (k := k) (l := l) (es := es) (i0 + 1) (by simpa using hl) fun i hi => by
      have := hr (i + 1) (by simpa using hi)
      simpa using this
    by_cases hk : d.1 = k
    · have hb : ((⟨k.toArray⟩ : ByteArray) == ⟨d.1.toArray⟩) = true := by rw [hk]; exact (MapKept.bytes_beq _ _).2 rfl
      simp only [Instr.findNow, h2, Instr.sameNow, hb, atE, if_pos hk]
      rfl
    · have hb : ((⟨k.toArray⟩ : ByteArray) == ⟨d.1.toArray⟩) = false := by
        cases hh : ((⟨k.toArray⟩ : ByteArray) == ⟨d.1.toArray⟩) with
        | false => rfl
        | true =>
          have := (MapKept.bytes_beq _ _).1 hh
          injection this with this
          exact absurd (by simpa using this.symm) hk
      simp only [Instr.findNow, h2, Instr.sameNow, hb, atE, if_neg hk, ih]
      cases ha : atE es k with
      | none => rfl
      | some j => simp [Nat.add_assoc, Nat.add_comm 1 j]
section
variable {P : Program} [Wins P] {E : Operand → AV} {H : HS} {dst : Option Tmp} {ty : TypeId} {pos : String} {after : Array Edge} {gd : Option (Nat × Bool)}
theorem Inv.allocM {B : Nat} {w0 w : World} {c : Ctx} {H : HS} (h : Inv B w0 c H w) (o : Obj) (m : MB) (ho : MIs c (w.alloc o) m w.heap.size) :
    Inv B w0 { c with maps := c.maps ++ [w.heap.size] } (H.pushM m) (w.alloc o) ∧ Le c { c with maps := c.maps ++ [w.heap.size] } := by
  have hle : Le c { c with maps := c.maps ++ [w.heap.size] } := by
    refine ⟨fun _ _ _ h => h, fun _ _ h => h, fun _ e h => ⟨e, h, .inl rfl⟩, fun i g hi => ?_, rfl⟩
    have : i < c.maps.length := (List.getElem?_eq_some_iff.1 hi).1
    show (c.maps ++ [w.heap.size])[i]? = some g
    rw [List.getElem?_append_left this]; exact hi
  have h' := h.alloc o
  have hlt : ∀ i g, c.maps[i]? = some g → g < w.heap.size := fun i g hi => by
    have hil : i < c.maps.length := (List.getElem?_eq_some_iff.1 hi).1
    obtain ⟨_, q⟩ := h.maps.is i g _ hi (List.getElem?_eq_getElem (h.maps.len ▸ hil))
    obtain ⟨o', q1, _⟩ := q.obj
    exact (Array.getElem?_eq_some_iff.1 q1).1
  have cs : ∀ i g, (c.maps ++ [w.heap.size])[i]? = some g → (c.maps[i]? = some g ∧ i < c.maps.length) ∨ (i = c.maps.length ∧ g = w.heap.size) := by
    intro i g hi
    by_cases hlt : i < c.maps.length
    · rw [List.getElem?_append_left hlt] at hi
      exact .inl ⟨hi, hlt⟩
    · rw [List.getElem?_append_right (by omega)] at hi
      have : i - c.maps.length = 0 := by
        have := (List.getElem?_eq_some_iff.1 hi).1
        simp at this; omega
      rw [this] at hi
      simp at hi
      exact .inr ⟨by omega, hi.symm⟩
  refine ⟨⟨h'.base, h'.below, h'.mem, h'.blkLen, fun i g b hg hb => ?_, h'.blkInj, h'.tokLen, h'.tok, h'.tokInj, ⟨?_, fun i j g hi hj => ?_, fun i g m' hg hm => ?_⟩, h'.cx, h'.xok⟩, hle⟩
  · obtain ⟨h1, h2, cur, fr, h3, h4, h5, h6⟩ := h'.blk i g b hg hb
    exact ⟨h1, h2, cur, fr, h3, h4, h5, fun j hj => (h6 j hj).mono hle⟩
  · simp [HS.pushM, h.maps.len]
  · rcases cs i g hi with ⟨hi', _⟩ | ⟨rfl, rfl⟩
    · rcases cs j g hj with ⟨hj', _⟩ | ⟨rfl, rfl⟩
      · exact h.maps.inj i j g hi' hj'
      · have := hlt _ _ hi'; omega
    · rcases cs j _ hj with ⟨hj', _⟩ | ⟨rfl, _⟩
      · have := hlt _ _ hj'; omega
      · rfl
  · rcases cs i g hg with ⟨hi', hl⟩ | ⟨rfl, rfl⟩
    · have hm' : H.maps[i]? = some m' := by
        simp only [HS.pushM] at hm
        rwa [List.getElem?_append_left (by rw [← h.maps.len]; exact hl)] at hm
      obtain ⟨q1, q2⟩ := h.maps.is i g m' hi' hm'
      exact ⟨q1, q2.keep hle (keeps_alloc w o)⟩
    · have : m' = m := by
        simp only [HS.pushM] at hm
        rw [h.maps.len] at hm
        simpa using hm.symm
      subst this
      exact ⟨h.base, ho.keep hle (.refl _)⟩
theorem Inv.setM {B : Nat} {w0 w : World} {c : Ctx} {H : HS} (h : Inv B w0 c H w) (i g : Nat) (m m' : MB) (hg : c.maps[i]? = some g) (hm : H.maps[i]? = some m) (o : Obj) (w' : World) (hw' : w'.heap = w.heap.setIfInBounds g o) (hb : Below B w0 w')
    (ho : MIs c w' m' g) (hoc : ∀ cs e fr, o ≠ Obj.cells cs e fr) (hno : ∀ es, m = .map es → ∀ (j n : Nat) l, H.maps[j]? ≠ some (.iter (some i) n l)) : Inv B w0 c (H.setM i m') w' := by
  obtain ⟨p1, p2⟩ := h.maps.is i g m hg hm
  obtain ⟨o0, p3, p4⟩ := p2.obj
  have hset := MapKept.heap_set (o' := o) p3
  rw [← hw'] at hset
  have hcells : ∀ (k : Nat) cs e fr, w.heap[k]? = some (Obj.cells cs e fr) → w'.heap[k]? = some (Obj.cells cs e fr) := fun k cs e fr hk => by
    rw [hset.2 k (fun hh => by subst hh; rw [p3] at hk; exact p4 _ _ _ (Option.some.inj hk))]
    exact hk
  refine ⟨by rw [hw']; simpa using h.base, hb, fun g' off u hm => ?_, h.blkLen, fun k g' b hk hbk => ?_, h.blkInj, h.tokLen, fun k e he => ?_, h.tokInj, ⟨by simpa [HS.setM] using h.maps.len, h.maps.inj, fun j g' mj hj hmj => ?_⟩, h.cx, h.xok⟩
  · have h1 := h.mem g' off u hm
    have hne : g' ≠ g := fun hh => by
      subst hh
      cases o0 with
      | cells cs e fr => exact p4 _ _ _ rfl
      | _ => simp [World.cell?, p3] at h1
    simp only [World.cell?] at h1 ⊢
    rw [hset.2 g' hne]
    exact h1
  · obtain ⟨h1, h2, cur, fr, h3, h4⟩ := h.blk k g' b hk hbk
    exact ⟨h1, h2, cur, fr, hcells _ _ _ _ h3, h4⟩
  · obtain ⟨h1, h2, h3, h4, h5, cur, et, fr, h6, h7⟩ := h.tok k e he
    exact ⟨h1, h2, h3, h4, h5, cur, et, fr, hcells _ _ _ _ h6, h7⟩
  · by_cases hij : i = j
    · subst hij
      have e1 : g' = g := by rw [hg] at hj; exact (Option.some.inj hj).symm
      subst e1
      have e2 : mj = m' := by
        have hlt := (List.getElem?_eq_some_iff.1 hm).1
        simp only [HS.setM] at hmj
        rw [List.getElem?_set_self hlt] at hmj
        exact (Option.some.inj hmj).symm
      subst e2
      exact ⟨p1, ho⟩
    · have e1 : H.maps[j]? = some mj := by
        simp only [HS.setM] at hmj
        rwa [List.getElem?_set_ne hij] at hmj
      obtain ⟨q1, q2⟩ := h.maps.is j g' mj hj e1
      have hne : g' ≠ g := fun hh => hij (h.maps.inj i j g hg (hh ▸ hj))
      refine ⟨q1, ?_⟩
      cases q2 with
      | map _ es xs clock hw hx => exact .map _ es xs clock (by rw [hset.2 _ hne]; exact hw) hx
      | iter _ id r n last xs clock seen hmm hr hw hn hd hs hl =>
        by_cases hrg : r = g
        · subst hrg
          have : id = i := h.maps.inj _ _ _ hmm hg
          subst this
          cases p2 with
          | map _ es _ _ _ _ => exact absurd e1 (hno es rfl j n last)
          | iter _ _ _ _ _ _ _ _ _ _ hw2 => rw [hr] at hw2; cases hw2
          | dead _ _ _ _ _ _ _ hw2 => rw [hr] at hw2; cases hw2
          | other _ o2 hw2 _ hnm2 => rw [hr] at hw2; exact absurd (Option.some.inj hw2).symm (hnm2 _ _)
          | recd _ _ _ _ _ _ _ _ _ _ hw2 => rw [hr] at hw2; cases hw2
        · exact .iter _ id r n last xs clock seen hmm (by rw [hset.2 _ hrg]; exact hr) (by rw [hset.2 _ hne]; exact hw) hn hd hs hl
      | dead _ n last r a b seen hw => exact .dead _ n last r a b seen (by rw [hset.2 _ hne]; exact hw)
      | other _ o2 hw hn hnm => exact .other _ o2 (by rw [hset.2 _ hne]; exact hw) hn hnm
      | recd _ fn D tmps ps asg bd st pend T hw hs hT => exact .recd _ fn D tmps ps asg bd st pend T (by rw [hset.2 _ hne]; exact hw) hs hT
theorem Rep.map_inv {c : Ctx} {v : Value} {id : Nat} (h : Rep c v (.map id)) : ∃ g, v = .map (some g) ∧ c.maps[id]? = some g := by
  cases h with
  | map _ g h => exact ⟨g, rfl, h⟩
theorem Rep.iter_inv {c : Ctx} {v : Value} {id : Nat} (h : Rep c v (.iter id)) : ∃ g, v = .pointer (some ⟨g, 0, none⟩) ∧ c.maps[id]? = some g := by
  cases h with
  | iter _ g h => exact ⟨g, rfl, h⟩
theorem MIs.map_inv {c : Ctx} {w : World} {es : List (List UInt8 × DV)} {g : Nat} (h : MIs c w (.map es) g) : ∃ xs clock, w.heap[g]? = some (.map xs clock) ∧ MapObj c.mem es xs clock := by
  cases h with
  | map _ _ xs clock hw h => exact ⟨xs, clock, hw, h⟩
theorem below_set {B : Nat} {w0 w : World} (h : Below B w0 w) {g : Nat} (hg : B ≤ g) (o : Obj) : Below B w0 { w with heap := w.heap.setIfInBounds g o } :=
  h.trans ⟨rfl, rfl, rfl, by simp, fun k hk => by show (w.heap.setIfInBounds g o)[k]? = _; simp [show ¬ g = k by omega]⟩
theorem op_makeMap {t : TypeId} : OpR P ⟨dst, .makeMap t none, ty, pos, after, gd⟩ E H (Ret (.map H.nm) (H.pushM (.map []))) :=
  opR_value fun B w0 c w a hI hops => by
    have hnew := heap_new w (.map #[] 0)
    obtain ⟨i1, l1⟩ := hI.allocM (.map #[] 0) (.map []) (.map _ [] #[] 0 hnew ⟨rfl, by simp, by simp, fun i h => by simp at h⟩)
    refine ⟨.map (some w.heap.size), w.alloc (.map #[] 0), _, .map H.nm, _, ?_, l1, .map _ _ ?_, i1, rfl, rfl⟩
    · simp [execOp, Instr.makeMap]
    · simp [HS.nm, ← hI.maps.len]
theorem MapObj.look {m : Mem} {es : List (List UInt8 × DV)} {xs : Array MapEntry} {clock : Nat} (h : MapObj m es xs clock) (k : List UInt8) :
    (atE es k = none ∧ Instr.findNow .string (.string ⟨k.toArray⟩) xs.toList 0 = some none) ∨
    ∃ i e d, atE es k = some i ∧ xs[i]? = some e ∧ e.key = .string ⟨k.toArray⟩ ∧ getE es k = some d ∧ RepD m e.val d ∧ Instr.findNow .string (.string ⟨k.toArray⟩) xs.toList 0 = some (some (i, e.val)) := by
  have hf := MapObj.find (m := m) (xs := xs) (clock := clock) (k := k) (l := xs.toList) (es := es) 0 (by simpa using h.len) fun i hi => by
    have := h.rep i hi
    simpa using this
  cases ha : atE es k with
  | none => exact .inl ⟨rfl, by rw [hf, ha]; rfl⟩
  | some i =>
    obtain ⟨d, h1, h2, _⟩ := atE_some ha
    have hi := (List.getElem?_eq_some_iff.1 h1).1
    obtain ⟨e, q1, q2, q3⟩ := h.rep i hi
    have he : es[i] = (k, d) := (List.getElem?_eq_some_iff.1 h1).2
    rw [he] at q2 q3
    refine .inr ⟨i, e, d, rfl, q1, q2, h2, q3, ?_⟩
    rw [hf, ha]
    simp [q1]
theorem MapObj.put {m : Mem} {es : List (List UInt8 × DV)} {xs : Array MapEntry} {clock i : Nat} {k : List UInt8} {v : Value} {d : DV} (h : MapObj m es xs clock) (hv : RepD m v d) :
    MapObj m (es.set i (k, d)) (xs.modify i fun e => { e with key := .string ⟨k.toArray⟩, val := v }) clock := by
  have hborn : (xs.modify i fun e => { e with key := .string ⟨k.toArray⟩, val := v }).toList.map (·.born) = xs.toList.map (·.born) := by
    apply List.ext_getElem?
    intro j
    simp only [List.getElem?_map, Array.getElem?_toList, Array.getElem?_modify]
    by_cases hij : i = j
    · subst hij
      cases he : xs[i]? with
      | none => simp
      | some e => simp
    · simp [hij]
  refine ⟨by simpa using h.len, by rw [hborn]; exact h.born, fun x hx => ?_, fun j hj => ?_⟩
  · have : x.born ∈ xs.toList.map (·.born) := by rw [← hborn]; exact List.mem_map.2 ⟨x, hx, rfl⟩
    obtain ⟨y, hy, e⟩ := List.mem_map.1 this
    rw [← e]; exact h.lt y hy
  · have hj' : j < es.length := by simpa using hj
    obtain ⟨e, q1, q2, q3⟩ := h.rep j hj'
    by_cases hij : i = j
    · subst hij
      exact ⟨{ e with key := .string ⟨k.toArray⟩, val := v }, by simp [Array.getElem?_modify, q1], by simp, by simpa using hv⟩
    · exact ⟨e, by simp [Array.getElem?_modify, hij, q1], by simpa [List.getElem_set_ne hij] using q2, by simpa [List.getElem_set_ne hij] using q3⟩
theorem MapObj.push {m : Mem} {es : List (List UInt8 × DV)} {xs : Array MapEntry} {clock : Nat} {k : List UInt8} {v : Value} {d : DV} (h : MapObj m es xs clock) (hv : RepD m v d) :
    MapObj m (es ++ [(k, d)]) (xs.push { key := .string ⟨k.toArray⟩, val := v, born := clock }) (clock + 1) := by
  refine ⟨by simp [h.len], ?_, fun x hx => ?_, fun j hj => ?_⟩
  · simp only [Array.toList_push, List.map_append, List.map_cons, List.map_nil]
    refine List.nodup_append.2 ⟨h.born, by simp, fun a ha b hb => ?_⟩
    simp only [List.mem_singleton] at hb
    subst hb
    obtain ⟨x, hx, rfl⟩ := List.mem_map.1 ha
    exact Nat.ne_of_lt (h.lt x hx)
  · simp only [Array.toList_push, List.mem_append, List.mem_singleton] at hx
    rcases hx with hx | rfl
    · exact Nat.lt_succ_of_lt (h.lt x hx)
    · exact Nat.lt_succ_self _
  · by_cases hlt : j < es.length
    · obtain ⟨e, q1, q2, q3⟩ := h.rep j hlt
      refine ⟨e, ?_, by rw [List.getElem_append_left hlt]; exact q2, by rw [List.getElem_append_left hlt]; exact q3⟩
      have : j < xs.size := by rw [h.len]; exact hlt
      rw [Array.getElem?_push, if_neg (by omega)]
      exact q1
    · have hje : j = es.length := by simp at hj; omega
      subst hje
      refine ⟨_, by rw [← h.len, Array.getElem?_push, if_pos rfl], by simp, by simpa using hv⟩
theorem op_lookup {x k : Operand} {t kt et : TypeId} {z : Value} {id : Nat} {es : List (List UInt8 × DV)} {l : List UInt8} {d0 : DV} (ht : P.underlying t = some (.map kt et)) (hkt : P.underlying kt = some .string) (hz : (P.info? et).map (·.zero) = some (some z))
    (hd : ∀ m, RepD m z d0) (hx : E x = .map id) (hl : E k = .d (S l)) (hm : H.maps[id]? = some (.map es)) : OpR P ⟨dst, .lookup t x k false, ty, pos, after, gd⟩ E H (Ret (.d ((getE es l).getD d0)) H) :=
  opR_value fun B w0 c w a hI hops => by
    have h1 := hops x (by simp [Op.operands])
    have h2 := hops k (by simp [Op.operands])
    rw [hx] at h1
    rw [hl] at h2
    obtain ⟨g, ev, hg⟩ := h1.map_inv
    have ek := h2.v_eq
    obtain ⟨_, q⟩ := hI.maps.is id g _ hg hm
    obtain ⟨xs, clock, hw, ho⟩ := q.map_inv
    obtain ⟨inf, hi1, hi2⟩ := Option.map_eq_some_iff.1 hz
    have hzv : ∀ w, (zeroValue et).run P w = .ok z w := fun w => by simp [zeroValue, typeInfo, hi1, hi2]
    have hck : ∀ e, (Instr.checkKey e 10000 kt (.string ⟨l.toArray⟩)).run P w = .ok () w := fun e => MapKept.run_checkKey hkt (show MapKept.IsKey .string (.string _) from trivial) e 9999
    rcases ho.look l with ⟨p1, p2⟩ | ⟨i, e, d, p1, p2, p3, p4, p5, p6⟩
    · refine ⟨z, w, c, _, H, ?_, Le.refl c, .d (hd _), hI, ?_, rfl⟩
      · simp [execOp, Instr.lookup, ev, ek, run_underlying ht, MapKept.run_getObj_map hw, hck, MapKept.run_findKey hkt p2, hzv]
      · rw [(atE_none p1).1]; rfl
    · refine ⟨e.val, w, c, _, H, ?_, Le.refl c, .d p5, hI, ?_, rfl⟩
      · simp [execOp, Instr.lookup, ev, ek, run_underlying ht, MapKept.run_getObj_map hw, hck, MapKept.run_findKey hkt p6]
      · rw [p4]; rfl
theorem op_lookup2 {x k : Operand} {t kt et : TypeId} {z : Value} {id : Nat} {es : List (List UInt8 × DV)} {l : List UInt8} {d0 : DV} (ht : P.underlying t = some (.map kt et)) (hkt : P.underlying kt = some .string) (hz : (P.info? et).map (·.zero) = some (some z))
    (hd : ∀ m, RepD m z d0) (hx : E x = .map id) (hl : E k = .d (S l)) (hm : H.maps[id]? = some (.map es)) : OpR P ⟨dst, .lookup t x k true, ty, pos, after, gd⟩ E H (Ret (.tup [.d ((getE es l).getD d0), .d (TF (getE es l).isSome)]) H) :=
  opR_value fun B w0 c w a hI hops => by
    have h1 := hops x (by simp [Op.operands])
    have h2 := hops k (by simp [Op.operands])
    rw [hx] at h1
    rw [hl] at h2
    obtain ⟨g, ev, hg⟩ := h1.map_inv
    have ek := h2.v_eq
    obtain ⟨_, q⟩ := hI.maps.is id g _ hg hm
    obtain ⟨xs, clock, hw, ho⟩ := q.map_inv
    obtain ⟨inf, hi1, hi2⟩ := Option.map_eq_some_iff.1 hz
    have hzv : ∀ w, (zeroValue et).run P w = .ok z w := fun w => by simp [zeroValue, typeInfo, hi1, hi2]
    have hck : ∀ e, (Instr.checkKey e 10000 kt (.string ⟨l.toArray⟩)).run P w = .ok () w := fun e => MapKept.run_checkKey hkt (show MapKept.IsKey .string (.string _) from trivial) e 9999
    have two : ∀ {u0 u1 : Value} {a b : AV}, Rep c u0 a → Rep c u1 b → Rep c (.tuple #[u0, u1]) (.tup [a, b]) := fun h1 h2 => .tup _ _ rfl fun i hi => by
      match i, hi with
      | 0, _ => exact h1
      | 1, _ => exact h2
    rcases ho.look l with ⟨p1, p2⟩ | ⟨i, e, d, p1, p2, p3, p4, p5, p6⟩
    · refine ⟨.tuple #[z, .bool false], w, c, _, H, ?_, Le.refl c, ?_, hI, rfl, rfl⟩
      · simp [execOp, Instr.lookup, ev, ek, run_underlying ht, MapKept.run_getObj_map hw, hck, MapKept.run_findKey hkt p2, hzv]
      · rw [(atE_none p1).1]; exact two (.d (hd _)) (.d (.v _ rfl))
    · refine ⟨.tuple #[e.val, .bool true], w, c, _, H, ?_, Le.refl c, ?_, hI, rfl, rfl⟩
      · simp [execOp, Instr.lookup, ev, ek, run_underlying ht, MapKept.run_getObj_map hw, hck, MapKept.run_findKey hkt p6]
      · rw [p4]; exact two (.d p5) (.d (.v _ rfl))
theorem op_lenMap {x : Operand} {t kt et : TypeId} {id : Nat} {es : List (List UInt8 × DV)} (ht : P.underlying t = some (.map kt et)) (hx : E x = .map id) (hm : H.maps[id]? = some (.map es)) :
    OpR P ⟨dst, .call ⟨.builtin .len, #[x], #[t]⟩, ty, pos, after, gd⟩ E H (Ret (.d (I es.length)) H) :=
  opR_value fun B w0 c w a hI hops => by
    have h1 := hops x (by simp [Op.operands, Call.operands])
    rw [hx] at h1
    obtain ⟨g, ev, hg⟩ := h1.map_inv
    obtain ⟨_, q⟩ := hI.maps.is id g _ hg hm
    obtain ⟨xs, clock, hw, ho⟩ := q.map_inv
    refine ⟨.int .i64 es.length, w, c, _, H, ?_, Le.refl c, .d (.v _ rfl), hI, rfl, rfl⟩
    simp [execOp, resolve, invoke, builtin, Builtin.len_, ev, run_underlying ht, MapKept.run_getObj_map hw, goInt, ho.len]
theorem op_range {x : Operand} {t kt et : TypeId} {id : Nat} {es : List (List UInt8 × DV)} (ht : P.underlying t = some (.map kt et)) (hx : E x = .map id) (hm : H.maps[id]? = some (.map es)) :
    OpR P ⟨dst, .range t x, ty, pos, after, gd⟩ E H (Ret (.iter H.nm) (H.pushM (.iter (some id) 0 none))) :=
  opR_value fun B w0 c w a hI hops => by
    have h1 := hops x (by simp [Op.operands])
    rw [hx] at h1
    obtain ⟨g, ev, hg⟩ := h1.map_inv
    obtain ⟨_, q⟩ := hI.maps.is id g _ hg hm
    obtain ⟨xs, clock, hw, ho⟩ := q.map_inv
    have hg' : (c.maps ++ [w.heap.size])[id]? = some g := by rw [List.getElem?_append_left (List.getElem?_eq_some_iff.1 hg).1]; exact hg
    have hnew := heap_new w (.mapIter (some g) clock #[] clock)
    have i0 : Inv B w0 { c with maps := c.maps ++ [w.heap.size] } (H.pushM (.iter (some id) 0 none)) (w.alloc (.mapIter (some g) clock #[] clock)) ∧ Le c { c with maps := c.maps ++ [w.heap.size] } := by
      obtain ⟨i1, l1⟩ := hI.allocM (.mapIter (some g) clock #[] clock) (.iter none 0 none) (.dead _ 0 none (some g) clock clock #[] hnew)
      refine ⟨⟨i1.base, i1.below, i1.mem, i1.blkLen, i1.blk, i1.blkInj, i1.tokLen, i1.tok, i1.tokInj, ⟨by simpa [HS.pushM] using i1.maps.len, i1.maps.inj, fun i g' m' hi hm' => ?_⟩, i1.cx, i1.xok⟩, l1⟩
      by_cases hlt : i < H.maps.length
      · refine i1.maps.is i g' m' hi ?_
        simp only [HS.pushM] at hm' ⊢
        rwa [List.getElem?_append_left hlt] at hm' ⊢
      · have hlen := hI.maps.len
        have hie : i = H.maps.length := by
          have := (List.getElem?_eq_some_iff.1 hm').1
          simp [HS.pushM] at this
          omega
        subst hie
        have e1 : m' = .iter (some id) 0 none := by simpa [HS.pushM] using hm'.symm
        have e2 : g' = w.heap.size := by
          have : (c.maps ++ [w.heap.size])[H.maps.length]? = some g' := hi
          rw [← hlen] at this
          simpa using this.symm
        subst e1 e2
        exact ⟨hI.base, .iter _ id g 0 none xs clock #[] hg' (by rw [heap_old w _ (Array.getElem?_eq_some_iff.1 hw).1]; exact hw) hnew rfl (by simp) (by simp) (by simp)⟩
    refine ⟨.pointer (some ⟨w.heap.size, 0, none⟩), w.alloc (.mapIter (some g) clock #[] clock), _, .iter H.nm, _, ?_, i0.2, .iter _ _ ?_, i0.1, rfl, rfl⟩
    · simp [execOp, Instr.range, ev, run_underlying ht, MapKept.run_getObj_map hw]
    · simp [HS.nm, ← hI.maps.len]
theorem nodup_len : ∀ {l m : List Nat}, l.Nodup → (∀ x ∈ l, x ∈ m) → l.length ≤ m.length
  | [], _, _, _ => Nat.zero_le _
  | x :: l, m, h, hs => by
    have hx := hs x (List.mem_cons_self ..)
    have hn := List.nodup_cons.1 h
    have := nodup_len (l := l) (m := m.erase x) hn.2 fun y hy => (List.mem_erase_of_ne (fun e => hn.1 (by rw [← e]; exact hy))).2 (hs y (List.mem_cons_of_mem _ hy))
    have e := List.length_erase_of_mem hx
    have : 0 < m.length := List.length_pos_iff.2 (fun e => by rw [e] at hx; cases hx)
    simp only [List.length_cons]
    omega
theorem op_next {x : Operand} {id j n : Nat} {last : Option (List UInt8 × DV)} {es : List (List UInt8 × DV)} (hx : E x = .iter j) (hj : H.maps[j]? = some (.iter (some id) n last)) (hm : H.maps[id]? = some (.map es)) :
    OpR P ⟨dst, .next x false, ty, pos, after, gd⟩ E H (fun v H' => (v = .tup [.d (TF false)] ∧ H' = H) ∨
      ∃ k d, (k, d) ∈ es ∧ n < es.length ∧ v = .tup [.d (TF true), .d (S k), .d d] ∧ H' = H.setM j (.iter (some id) (n + 1) (some (k, d)))) :=
  opR_value fun B w0 c w a hI hops => by
    have h1 := hops x (by simp [Op.operands])
    rw [hx] at h1
    obtain ⟨g, ev, hg⟩ := h1.iter_inv
    obtain ⟨q0, q⟩ := hI.maps.is j g _ hg hj
    cases q with
    | iter _ _ r _ _ xs clock seen hmm hr hw hn hd hs hl =>
    obtain ⟨_, q2⟩ := hI.maps.is id r _ hmm hm
    obtain ⟨xs', clock', hw', ho⟩ := q2.map_inv
    rw [hr] at hw'
    injection hw' with hw'
    injection hw' with e1 e2
    subst e1 e2
    rcases run_next_at (P := P) w ty g r clock clock seen xs clock hw hr ho.lt (Nat.le_refl _) with ⟨h0, hrun⟩ | ⟨e, he, w1, hal, hrun⟩
    · refine ⟨.tuple #[.bool false], w, c, _, H, ?_, Le.refl c, .tup _ [.d (TF false)] rfl fun i hi => ?_, hI, .inl ⟨rfl, rfl⟩⟩
      · simp [execOp, ev, hrun]
      · simp at hi
        subst hi
        exact .d (.v _ rfl)
    · obtain ⟨hem, hes⟩ := mem_left he
      obtain ⟨i, hi, hie⟩ := List.getElem_of_mem hem
      have hil : i < es.length := by rw [← ho.len]; simpa using hi
      obtain ⟨e', p1, p2, p3⟩ := ho.rep i hil
      have : e' = e := by
        have h5 : xs[i]? = some e := by
          have hi' : i < xs.size := by simpa using hi
          rw [Array.getElem?_eq_getElem hi']
          simpa using hie
        rw [h5] at p1; exact (Option.some.inj p1).symm
      subst this
      have hnd : (seen.push e'.born).toList.Nodup := by
        rw [Array.toList_push]
        refine List.nodup_append.2 ⟨hd, by simp, fun a ha b hb => ?_⟩
        simp only [List.mem_singleton] at hb
        subst hb
        intro hab
        subst hab
        simp [Array.contains_iff_mem, Array.mem_def, ha] at hes
      have hsub : ∀ b ∈ (seen.push e'.born).toList, b ∈ xs.toList.map (·.born) := fun b hb => by
        rw [Array.toList_push] at hb
        rcases List.mem_append.1 hb with hb | hb
        · exact hs b hb
        · simp only [List.mem_singleton] at hb
          subst hb
          exact List.mem_map.2 ⟨e', hem, rfl⟩
      have hlen : n < es.length := by
        have := nodup_len hnd hsub
        simp only [Array.toList_push, List.length_append, Array.length_toList, List.length_cons, List.length_nil, List.length_map] at this
        have := ho.len
        omega
      have hw1 : w1.heap = w.heap := by rcases hal with rfl | rfl <;> rfl
      have hb1 : Below B w0 w1 := by
        rcases hal with rfl | rfl
        · exact hI.below
        · exact hI.below.drew
      have hset := MapKept.heap_set (o' := Obj.mapIter (some r) clock (seen.push e'.born) clock) hw
      have hrg : r ≠ g := fun hh => by subst hh; rw [hr] at hw; cases hw
      refine ⟨.tuple #[.bool true, e'.key, e'.val], _, c, .tup [.d (TF true), .d (S (es[i]).1), .d (es[i]).2], _, by simp only [execOp, ev]; rw [Sem.run_bind, hrun]; rfl, Le.refl c, ?_,
        hI.setM j g _ (.iter (some id) (n + 1) (some ((es[i]).1, (es[i]).2))) hg hj (.mapIter (some r) clock (seen.push e'.born) clock) _ (by show w1.heap.setIfInBounds _ _ = _; rw [hw1]) (below_set hb1 q0 _) ?_ (by intros; simp) (fun es' he => by cases he),
        .inr ⟨(es[i]).1, (es[i]).2, List.getElem_mem hil, hlen, rfl, rfl⟩⟩
      · refine .tup _ _ rfl fun m hm' => ?_
        match m, hm' with
        | 0, _ => exact .d (.v _ rfl)
        | 1, _ => rw [show (#[Value.bool true, e'.key, e'.val] : Array Value).getD 1 undef = e'.key from rfl, p2]; exact .d (.v _ rfl)
        | 2, _ => exact .d p3
      · refine .iter _ id r (n + 1) _ xs clock (seen.push e'.born) hmm ?_ ?_ (by simp [hn]) hnd hsub fun k d hkd => ?_
        · show (w1.heap.setIfInBounds _ _)[r]? = _
          rw [hw1, hset.2 r hrg]; exact hr
        · show (w1.heap.setIfInBounds _ _)[g]? = _
          rw [hw1]; exact hset.1
        · simp only [Option.some.injEq, Prod.mk.injEq] at hkd
          obtain ⟨rfl, rfl⟩ := hkd
          exact ⟨e', hem, seen, rfl, p2, p3⟩
theorem op_entry {x : Operand} {id j n : Nat} {k : List UInt8} {d : DV} {es : List (List UInt8 × DV)} (hx : E x = .iter j) (hj : H.maps[j]? = some (.iter (some id) n (some (k, d)))) (hm : H.maps[id]? = some (.map es)) :
    OpR P ⟨dst, .entry x, ty, pos, after, gd⟩ E H (Ret (.tup [.d (S k), .d d]) H) :=
  opR_value fun B w0 c w a hI hops => by
    have h1 := hops x (by simp [Op.operands])
    rw [hx] at h1
    obtain ⟨g, ev, hg⟩ := h1.iter_inv
    obtain ⟨q0, q⟩ := hI.maps.is j g _ hg hj
    cases q with
    | iter _ _ r _ _ xs clock seen hmm hr hw hn hd hs hl =>
    obtain ⟨_, q2⟩ := hI.maps.is id r _ hmm hm
    obtain ⟨xs', clock', hw', ho⟩ := q2.map_inv
    rw [hr] at hw'
    injection hw' with hw'
    injection hw' with e1 e2
    subst e1 e2
    obtain ⟨e, p1, s0, rfl, p3, p4⟩ := hl k d rfl
    have hrun := run_entry_at (P := P) w g r clock s0 xs clock e hw hr p1 ho.born
    refine ⟨.tuple #[e.key, e.val], w, c, _, H, by simp [execOp, ev, hrun], Le.refl c, .tup _ _ rfl fun m hm' => ?_, hI, rfl, rfl⟩
    match m, hm' with
    | 0, _ => rw [show (#[e.key, e.val] : Array Value).getD 0 undef = e.key from rfl, p3]; exact .d (.v _ rfl)
    | 1, _ => exact .d p4
theorem MapObj.erase {m : Mem} {es : List (List UInt8 × DV)} {xs : Array MapEntry} {clock i : Nat} (h : MapObj m es xs clock) (hi : i < es.length) : MapObj m (es.eraseIdx i) (xs.eraseIdxIfInBounds i) clock := by
  have hix : i < xs.size := by rw [h.len]; exact hi
  have hl : (xs.eraseIdxIfInBounds i).toList = xs.toList.eraseIdx i := by
    unfold Array.eraseIdxIfInBounds
    rw [dif_pos hix, Array.toList_eraseIdx]
  have hs : (xs.eraseIdxIfInBounds i).toList.Sublist xs.toList := by rw [hl]; exact List.eraseIdx_sublist _ _
  refine ⟨?_, (hs.map _).nodup h.born, fun x hx => h.lt x (hs.subset hx), fun j hj => ?_⟩
  · rw [← Array.length_toList, hl, List.length_eraseIdx, List.length_eraseIdx, if_pos (by simpa using hix), if_pos hi]
    simp [h.len]
  · have hje : j < es.length - 1 := by rw [List.length_eraseIdx, if_pos hi] at hj; exact hj
    have hget : ∀ k, (xs.eraseIdxIfInBounds i)[k]? = if k < i then xs[k]? else xs[k + 1]? := fun k => by
      rw [← Array.getElem?_toList, hl, List.getElem?_eraseIdx]
      simp
    have hget' : (es.eraseIdx i)[j]? = if j < i then es[j]? else es[j + 1]? := List.getElem?_eraseIdx ..
    by_cases hji : j < i
    · obtain ⟨e, q1, q2, q3⟩ := h.rep j (by omega)
      have e1 : (es.eraseIdx i)[j] = es[j]'(by omega) := by
        rw [if_pos hji, List.getElem?_eq_getElem hj, List.getElem?_eq_getElem (by omega)] at hget'
        exact Option.some.inj hget'
      exact ⟨e, by rw [hget, if_pos hji]; exact q1, by rw [e1]; exact q2, by rw [e1]; exact q3⟩
    · obtain ⟨e, q1, q2, q3⟩ := h.rep (j + 1) (by omega)
      have e1 : (es.eraseIdx i)[j] = es[j + 1]'(by omega) := by
        rw [if_neg hji, List.getElem?_eq_getElem hj, List.getElem?_eq_getElem (by omega)] at hget'
        exact Option.some.inj hget'
      exact ⟨e, by rw [hget, if_neg hji]; exact q1, by rw [e1]; exact q2, by rw [e1]; exact q3⟩
theorem noIter1 {H : HS} {es : List (List UInt8 × DV)} (h : H.maps = [.map es]) (id : Nat) : ∀ (j n : Nat) q, H.maps[j]? ≠ some (.iter (some id) n q) := by
  intro j n q
  rw [h]
  cases j with
  | zero => simp
  | succ j => simp
end
end Go.AV

namespace Go.AV
open Go.RowKit
section
variable {P : Program} [Wins P] {E : Operand → AV} {H : HS} {dst : Option Tmp} {ty : TypeId} {pos : String} {after : Array Edge} {gd : Option (Nat × Bool)}
theorem From.src {B : Nat} {w0 w : World} {c : Ctx} (hI : Inv B w0 c H w) {tx e' : TypeId} {v : AV} {jd off m sz : Nat} {b2 : HB} {vs : List AV} (htx : P.underlying tx = some (.slice e')) (h : From v jd off m) (hb2 : H.blks[jd]? = some b2) (hv : (b2.cs.drop off).take (m * sz) = vs) (hl : vs.length = m * sz)
    {x : Value} (hr : Rep c x v) : ∃ news : List Value, Src P tx x w sz m news ∧ news.length = m * sz ∧ ∀ i (hi : i < news.length) (hi' : i < vs.length), Rep c news[i] vs[i] := by
  obtain ⟨g2, cap2, hg2, rfl⟩ := h.val hr
  obtain ⟨r1, r2, cur2, fr2, r3, r4, r5, r6⟩ := hI.blk jd g2 b2 hg2 hb2
  have r4' : cur2.size = b2.cs.length := r4
  have hvl : off + m * sz ≤ b2.cs.length ∨ m * sz = 0 := by
    have := congrArg List.length hv
    rw [List.length_take, List.length_drop, hl] at this
    omega
  have hul : ((cur2.toList.drop off).take (m * sz)).length = m * sz := by
    rw [List.length_take, List.length_drop, Array.length_toList]
    omega
  refine ⟨(cur2.toList.drop off).take (m * sz), ⟨.inr ⟨e', htx⟩, fun w' => by simp [Builtin.lenOf], fun w' hw' => ?_⟩, hul, fun j hj hj' => ?_⟩
  · refine firstCells_of hul (fun j u hu => ?_) w' hw'
    rw [List.getElem?_take] at hu
    split at hu
    · rw [List.getElem?_drop] at hu
      simp only [World.cell?, r3]
      simpa using hu
    · cases hu
  · have hjm : j < m * sz := by omega
    have h3 : off + j < b2.cs.length := by omega
    have h4 := r6 (off + j) h3
    have h5 : vs[j] = b2.cs[off + j]'h3 := by simp [← hv]
    have h6 : ((cur2.toList.drop off).take (m * sz))[j] = cur2.getD (off + j) undef := by
      have : off + j < cur2.size := by omega
      simp [this]
    rw [h5, h6]; exact h4
theorem op_appendC {x y : Operand} {t' tx e e' : TypeId} {z : Value} {sz bytes n jd off m : Nat} {us vs : List AV} {b2 : HB} (ht : P.underlying t' = some (.slice e)) (htx : P.underlying tx = some (.slice e')) (hi : tInfo P e z sz bytes) (hzs : z.cells.size = sz) (hx : Arr H e sz (E x) n us) (hy : From (E y) jd off m)
    (hb2 : H.blks[jd]? = some b2) (hv : (b2.cs.drop off).take (m * sz) = vs) (hl : vs.length = m * sz) (hone : ∀ v ∈ vs, v.one = true) (hne : 0 < m) (hb : (n + m) * bytes ≤ 140737488355328) (hn : n + m ≤ 140737488355328) :
    OpR P ⟨dst, .call ⟨.builtin .append, #[x, y], #[t', tx]⟩, ty, pos, after, gd⟩ E H (fun av H' => Arr H' e sz av (n + m) (us ++ vs) ∧ Kept H H' (E x) ∧ ∃ id m cap, av = .arr id m cap ∧ (E x = nilS → H.nb ≤ id) ∧ ∀ j n cap, E x = .arr j n cap → id = j ∨ H.nb ≤ id) :=
  opR_value (hw := own_arrX ht (.inl ⟨_, htx⟩) hx) fun B w0 c w a hI hops => by
    have q1 := hops x (by simp [Op.operands, Call.operands])
    have q2 := hops y (by simp [Op.operands, Call.operands])
    obtain ⟨news, hsrc, hnl, hyr⟩ := hy.src hI htx hb2 hv hl q2
    have hvone : ∀ u ∈ news, u.oneCell' = true := fun u hu => by
      obtain ⟨j, hj, rfl⟩ := List.getElem_of_mem hu
      have hj' : j < vs.length := by omega
      exact (hyr j hj hj').one (hone _ (List.getElem_mem hj'))
    have hrun : ∀ r, (Builtin.append_ #[t', tx] ty #[a.eval x, a.eval y]).run P w = r → (execOp a.eval ⟨dst, .call ⟨.builtin .append, #[x, y], #[t', tx]⟩, ty, pos, after, gd⟩).run P w = r.andThen fun v w => .ok (.value v) w := by
      intro r hr
      simp [execOp, resolve, invoke, builtin, hr]
    have grow : ∀ (base : Option Addr) (cap : Nat) (olds : List Value), a.eval x = .slice base n cap → cap < n + m → olds.length = n * sz → us.length = n * sz →
        (∀ i (hi : i < olds.length) (hi' : i < us.length), Rep c olds[i] us[i]) → (∀ w', w'.heap = w.heap → (Builtin.firstCells sz n (.slice base n cap)).run P w' = .ok olds.toArray w') →
        ∃ v' w' c' av H', (execOp a.eval ⟨dst, .call ⟨.builtin .append, #[x, y], #[t', tx]⟩, ty, pos, after, gd⟩).run P w = .ok (.value v') w' ∧ Le c c' ∧ Rep c' v' av ∧ Inv B w0 c' H' w' ∧
          (Arr H' e sz av (n + m) (us ++ vs) ∧ Kept H H' (E x) ∧ ∃ id m cap, av = .arr id m cap ∧ (E x = nilS → H.nb ≤ id) ∧ ∀ j n cap, E x = .arr j n cap → id = j ∨ H.nb ≤ id) := by
      intro base cap olds hev hcap hol hul hxr hold
      have hr := run_app_grow w t' tx ty e z sz bytes ht hi (a.eval y) m news hsrc base n cap olds hold hcap hb hn
      rw [← hev] at hr
      have hge := grownCap_ge w (n + m) cap e
      generalize grownCap w (n + m) cap e = ncap at hr hge
      have hsize : (olds.toArray ++ (news.toArray ++ Builtin.zeroCells z.cells (ncap - (n + m)))).size = (us ++ vs ++ List.replicate ((ncap - (n + m)) * sz) AV.un).length := by
        simp only [Array.size_append, List.size_toArray, size_zeroCells, hzs, hol, hnl, List.length_append, List.length_replicate, hul, hl]
        omega
      have hlen : (us ++ vs ++ List.replicate ((ncap - (n + m)) * sz) AV.un).length = ncap * sz := by
        simp only [List.length_append, List.length_replicate, hul, hl, ← Nat.add_mul]
        congr 1
        omega
      obtain ⟨i1, l1⟩ := hI.drew.allocBlk (olds.toArray ++ (news.toArray ++ Builtin.zeroCells z.cells (ncap - (n + m)))) e (us ++ vs ++ List.replicate ((ncap - (n + m)) * sz) AV.un) hsize (fun j hj => by
        have e1 : (olds.toArray ++ (news.toArray ++ Builtin.zeroCells z.cells (ncap - (n + m)))).getD j undef = (((olds ++ news) ++ (Builtin.zeroCells z.cells (ncap - (n + m))).toList)[j]?).getD undef := by
          rw [Array.getD_eq_getD_getElem?, ← Array.getElem?_toList]
          simp
        rw [e1]
        by_cases h1 : j < (us ++ vs).length
        · rw [List.getElem_append_left h1]
          have h1' : j < (olds ++ news).length := by
            simp only [List.length_append, hol, hnl, hul, hl] at h1 ⊢
            exact h1
          rw [List.getElem?_append_left h1', List.getElem?_eq_getElem h1']
          show Rep c (olds ++ news)[j] _
          by_cases h2 : j < us.length
          · rw [List.getElem_append_left h2, List.getElem_append_left (by omega)]
            exact hxr j (by omega) h2
          · rw [List.getElem_append_right (by omega), List.getElem_append_right (by omega)]
            have h3 : j - olds.length < vs.length := by simp at h1; omega
            have h4 : vs[j - us.length]'(by omega) = vs[j - olds.length]'h3 := by
              congr 1
              omega
            rw [h4]
            exact hyr (j - olds.length) (by omega) h3
        · rw [List.getElem_append_right (by omega)]
          simp only [List.getElem_replicate]
          exact .un _)
      refine ⟨_, _, _, _, _, hrun _ hr, l1, .arr c.blk.length (n + m) ncap w.heap.size (by simp), i1, ?_, ⟨rfl, by simp [HS.push, HS.nb], fun j hj _ => ?_, rfl, rfl⟩, c.blk.length, _, _, rfl, fun _ => by rw [hI.blkLen]; exact Nat.le_refl _, fun _ _ _ _ => .inr (by rw [hI.blkLen]; exact Nat.le_refl _)⟩
      · refine .arr _ _ _ (us ++ vs ++ List.replicate ((ncap - (n + m)) * sz) AV.un) _ ?_ hlen hge ?_
        · rw [hI.blkLen]; simp [HS.push]
        · have : (n + m) * sz = (us ++ vs).length := by simp [hul, hl, Nat.add_mul]
          rw [this, List.take_left' rfl]
      · simp only [HS.push]
        rw [List.getElem?_append_left hj]
    cases hE : E x with
    | d dv =>
      rw [hE] at hx q1
      cases hx with
      | nil =>
        have hev := q1.v_eq
        rw [hE] at grow
        exact grow none 0 [] hev (by omega) (by simp) (by simp) (by simp) (fun w' _ => by simp [Builtin.firstCells])
    | arr id n1 cap =>
      rw [hE] at hx q1
      rw [hE] at grow
      generalize hev : a.eval x = X at q1
      cases q1 with
      | arr _ _ _ g hg =>
      cases hx with
      | arr _ _ _ cs _ hbk hc hnc hu =>
      obtain ⟨p1, p2, cur, fr, p3, p4, p5, p6⟩ := hI.blk id g _ hg hbk
      have hcz : n * sz ≤ cap * sz := Nat.mul_le_mul_right _ hnc
      have hul : us.length = n * sz := by rw [← hu]; simp; omega
      have p4' : cur.size = cs.length := p4
      by_cases hroom : n + m ≤ cap
      · have hfit : n * sz + news.length ≤ cur.size := by
          rw [hnl, p4', hc, ← Nat.add_mul]
          exact Nat.mul_le_mul_right _ hroom
        have hr := run_app_room w t' tx ty e z sz bytes ht hi (a.eval y) m news hsrc g n cap cur fr p3 (fun o _ => p5 rfl o) hvone hroom hfit
        rw [← hev] at hr
        have hal : news.length = vs.length := by rw [hnl, hl]
        have i1 := hI.putBlk id g (n * sz) _ hg hbk news vs hal (fun j hj hj' => hyr j hj hj') (by show n * sz + vs.length ≤ cs.length; omega) cur _ fr p3
        have hnb : (H.put id (n * sz) vs).nb = H.nb := by simp [HS.put, HS.nb]
        refine ⟨_, _, c, _, _, hrun _ hr, Le.refl c, .arr id (n + m) cap g hg, i1, ?_, ⟨rfl, by rw [hnb]; exact Nat.le_refl _, fun j hj hne => ?_, rfl, rfl⟩, id, n + m, cap, rfl, (fun h => by cases h), (fun j _ _ h => Or.inl (by cases h; rfl))⟩
        · refine .arr _ _ _ (putL cs (n * sz) vs) _ (by simp [HS.put, hbk]) (by rw [putL_length]; exact hc) hroom ?_
          have e1 : (n + m) * sz = n * sz + vs.length := by rw [hl, Nat.add_mul]
          rw [e1, putL_take _ _ _ (by omega), hu]
        · have hji : id ≠ j := fun h => hne n cap (by rw [h])
          simp [HS.put, hji]
      · have hol : (cur.toList.take (n * sz)).length = n * sz := by simp; omega
        refine grow _ cap (cur.toList.take (n * sz)) hev (by omega) hol hul ?_ ?_
        · intro i hi1 hi2
          have hi3 : i < cs.length := by omega
          have h1 := p6 i hi3
          have h2 : us[i] = cs[i]'hi3 := by simp [← hu]
          have h4 : i < cur.size := by omega
          have h3 : (cur.toList.take (n * sz))[i] = cur.getD i undef := by simp [h4]
          rw [h2, h3]
          exact h1
        · refine firstCells_of hol fun j u hu' => ?_
          rw [List.getElem?_take] at hu'
          split at hu'
          · simp only [World.cell?, p3]
            simpa using hu'
          · cases hu'
    | own => rw [hE] at hx; cases hx
    | un => rw [hE] at hx; cases hx
    | nv => rw [hE] at hx; cases hx
    | elt => rw [hE] at hx; cases hx
    | ptr => rw [hE] at hx; cases hx
    | sub => rw [hE] at hx; cases hx
    | agg => rw [hE] at hx; cases hx
    | tup => rw [hE] at hx; cases hx
    | fn => rw [hE] at hx; cases hx
    | map => rw [hE] at hx; cases hx
    | iter => rw [hE] at hx; cases hx
theorem op_litC {t e : TypeId} {len sz : Nat} {parts : Array (Nat × Operand)} {z : Value} {ps : List (Nat × List AV)} (cs : List AV) (ht : P.underlying t = some (.slice e)) (hz : (P.info? e).map (fun i => (i.zero, i.size)) = some (some z, sz))
    (hk : parts.toList.all (fun p => (E p.2).known) = true) (hps : parts.toList.map (fun p => (p.1, (E p.2).cells)) = ps) (hcs : fillA (fun i => some (i * sz, sz)) (List.replicate (len * sz) .un) ps = some cs)
    (hsm : len * sz ≤ 16777216) : OpR P ⟨dst, .buildSlice t len parts, ty, pos, after, gd⟩ E H (Ret (.arr H.nb len len) (H.push e cs)) :=
  opR_value fun B w0 c w a hI hops => by
    obtain ⟨inf, hi1, hi2⟩ := Option.map_eq_some_iff.1 hz
    simp only [Prod.mk.injEq] at hi2
    obtain ⟨hi2, hi3⟩ := hi2
    obtain ⟨q1, q2⟩ := parts_cells (c := c) (a := a) hk hps (fun x hx => hops x (by simpa [Op.operands] using hx))
    have hzv : ∀ w, (zeroValue e).run P w = .ok z w := fun w => by simp [zeroValue, typeInfo, hi1, hi2]
    have hso : ∀ w, (sizeOf e).run P w = .ok sz w := fun w => by simp [sizeOf, typeInfo, hi1, hi3]
    have run : ∀ (zero : Array Value), ((Array.range (len * sz)).map (zero[· % zero.size]!)).size = len * sz → ∃ vs', Instr.fill (fun i => some (i * sz, sz)) ((Array.range (len * sz)).map (zero[· % zero.size]!)) (parts.map fun p => (p.1, a.eval p.2)).toList = some vs' ∧ Cells c vs' cs := by
      intro zero hs
      have hc := cells_un c ((Array.range (len * sz)).map (zero[· % zero.size]!))
      rw [hs] at hc
      obtain ⟨vs', f1, f2⟩ := fill_rep (c := c) ps (evP a parts.toList) _ _ _ hc q1 q2 hcs
      exact ⟨vs', by rw [Array.toList_map]; exact f1, f2⟩
    have hbs : ∃ vs', (Instr.buildSlice t len (parts.map fun p => (p.1, a.eval p.2))).run P w = .ok (.slice (some ⟨w.heap.size, 0, none⟩) len len) (w.alloc (.cells vs' e)) ∧ Cells c vs' cs := by
      unfold Instr.buildSlice
      rw [Sem.run_bind, run_underlying ht]
      simp only [Result.andThen_ok]
      rw [Sem.run_bind, hso]
      simp only [Result.andThen_ok]
      have hsm' : ¬ (len * sz > 2 ^ 24) := by omega
      rw [if_neg hsm']
      by_cases h0 : len * sz = 0
      · rw [if_pos h0]
        obtain ⟨vs', f1, f2⟩ := run #[] (by simp)
        refine ⟨vs', ?_, f2⟩
        simp only [Sem.run_bind, Sem.run_pure, Result.andThen_ok]
        rw [f1]
        simp [newRow]
      · rw [if_neg h0]
        obtain ⟨vs', f1, f2⟩ := run z.cells (by simp)
        refine ⟨vs', ?_, f2⟩
        simp only [Sem.run_bind, Sem.run_pure, Result.andThen_ok, hzv]
        rw [f1]
        simp [newRow]
    obtain ⟨vs', hr, hc⟩ := hbs
    obtain ⟨i1, l1⟩ := hI.allocBlk vs' e cs hc.size (hc.at_)
    refine ⟨_, _, _, _, _, ?_, l1, .arr H.nb len len w.heap.size ?_, i1, rfl, rfl⟩
    · simp [execOp, hr]
    · show (c.blk ++ [w.heap.size])[H.nb]? = _
      have : c.blk.length = H.nb := hI.blkLen
      rw [List.getElem?_append_right (by omega), this]; simp
end
end Go.AV
namespace Go.AV
open Go.RowKit
open Go.Conc (G)
def recP (fn : FuncId) (tmps : Array Value) (ps : Array Tmp) (assign body : Code) (D : Nat) (st : LoopState) (pend : Option Code) : Obj := .loop { state := st, pending := pend, fn, tmps, params := ps, assign, body, defers := D }
theorem other_def (o : Option (List Deferred)) : (∀ cs e fr, Obj.deferred o ≠ Obj.cells cs e fr) ∧ (∀ xs cl, Obj.deferred o ≠ Obj.map xs cl) := ⟨by intros; simp, by intros; simp⟩
theorem other_loop (r : Loop) : (∀ cs e fr, Obj.loop r ≠ Obj.cells cs e fr) ∧ (∀ xs cl, Obj.loop r ≠ Obj.map xs cl) := ⟨by intros; simp, by intros; simp⟩
theorem other_rec {fn : FuncId} {tmps : Array Value} {ps : Array Tmp} {assign body : Code} {D : Nat} {st : LoopState} {pend : Option Code} : (∀ cs e fr, recP fn tmps ps assign body D st pend ≠ Obj.cells cs e fr) ∧ (∀ xs cl, recP fn tmps ps assign body D st pend ≠ Obj.map xs cl) := other_loop _
theorem Inv.allocO {B : Nat} {w0 w : World} {c : Ctx} {H : HS} (h : Inv B w0 c H w) (o : Obj) (h1 : ∀ cs e fr, o ≠ Obj.cells cs e fr) (h2 : ∀ xs cl, o ≠ Obj.map xs cl) :
    Inv B w0 { c with maps := c.maps ++ [w.heap.size] } (H.pushM (.obj o)) (w.alloc o) ∧ Le c { c with maps := c.maps ++ [w.heap.size] } :=
  h.allocM o (.obj o) (.other _ o (World.alloc_heap_new w o) h1 h2)
theorem Inv.putO {B : Nat} {w0 w : World} {c : Ctx} {H : HS} (h : Inv B w0 c H w) {i g : Nat} {o : Obj} (hg : c.maps[i]? = some g) (hm : H.maps[i]? = some (.obj o)) (o' : Obj) (h1 : ∀ cs e fr, o' ≠ Obj.cells cs e fr) (h2 : ∀ xs cl, o' ≠ Obj.map xs cl) :
    w.heap[g]? = some o ∧ Inv B w0 c (H.setM i (.obj o')) (w.putObj g o') := by
  obtain ⟨q0, q⟩ := h.maps.is i g _ hg hm
  have hw : w.heap[g]? = some o := by
    cases q with
    | other _ _ hw _ _ => exact hw
  have hlt : g < w.heap.size := (Array.getElem?_eq_some_iff.1 hw).1
  refine ⟨hw, h.setM i g (.obj o) (.obj o') hg hm o' (w.putObj g o') rfl ?_ (.other g o' (World.putObj_heap_same hlt) h1 h2) h1 (fun es he => by cases he)⟩
  exact below_set h.below q0 o'
theorem Inv.getO {B : Nat} {w0 w : World} {c : Ctx} {H : HS} (h : Inv B w0 c H w) {i g : Nat} {o : Obj} (hg : c.maps[i]? = some g) (hm : H.maps[i]? = some (.obj o)) : w.heap[g]? = some o := by
  obtain ⟨q0, q⟩ := h.maps.is i g _ hg hm
  cases q with
  | other _ _ hw _ _ => exact hw
theorem Inv.rnd {B : Nat} {w0 w : World} {c : Ctx} {H : HS} (h : Inv B w0 c H w) {i g : Nat} {ps : Array Tmp} {asg bd : Code} {st : LoopState} {pend : Option Code} {T : List AV} (hg : c.maps[i]? = some g) (hm : H.maps[i]? = some (.rnd ps asg bd st pend T)) :
    ∃ fn tmps D, w.heap[g]? = some (recP fn tmps ps asg bd D st pend) ∧ RepT c tmps T ∧ ∀ st' pend', Inv B w0 c (H.setM i (.rnd ps asg bd st' pend' T)) (w.putObj g (recP fn tmps ps asg bd D st' pend')) := by
  obtain ⟨q0, q⟩ := h.maps.is i g _ hg hm
  cases q with
  | recd _ fn D tmps _ _ _ _ _ _ hw hs hT =>
    have hlt : g < w.heap.size := (Array.getElem?_eq_some_iff.1 hw).1
    refine ⟨fn, tmps, D, hw, ⟨hs, fun k hk => by rw [List.getD_eq_getElem?_getD, List.getElem?_eq_getElem hk]; exact hT k hk⟩, fun st' pend' => ?_⟩
    exact h.setM i g (.rnd ps asg bd st pend T) (.rnd ps asg bd st' pend' T) hg hm (recP fn tmps ps asg bd D st' pend') (w.putObj g _) rfl (below_set h.below q0 _) (.recd g fn D tmps ps asg bd st' pend' T (World.putObj_heap_same hlt) hs hT) other_rec.1 (fun es he => by cases he)
theorem wr_getLoop {P : Program} {W : Nat → Nat → Prop} (l : Nat) : Sem.Wr P W (Instr.getLoop l) := by
  unfold Instr.getLoop
  (repeat' (first | with_reducible assumption | with_reducible exact Sem.Wr.pure _ | with_reducible exact wr_getObj _ | exact wr_storeCells _ _ (by intro j; rw [addBlock, add_off, Nat.add_zero]; exact h _ _ _ (by first | rfl | assumption) (by omega) _ rfl _ hz j) | (with_reducible apply Sem.Wr.bind) | (with_reducible apply Sem.Wr.map) | (with_reducible apply Sem.Wr.ite) | (with_reducible intro _) | split | exact trivial | (dsimp only)))
theorem wr_beginRound {P : Program} {W : Nat → Nat → Prop} (l : Nat) : Sem.Wr P W (Instr.beginRound l) := by
  unfold Instr.beginRound
  refine Sem.Wr.bind (wr_getLoop l) fun r => ?_
  (repeat' (first | with_reducible assumption | with_reducible exact Sem.Wr.pure _ | with_reducible exact wr_setObj _ _ | with_reducible exact wr_runtimePanic _ | exact wr_storeCells _ _ (by intro j; rw [addBlock, add_off, Nat.add_zero]; exact h _ _ _ (by first | rfl | assumption) (by omega) _ rfl _ hz j) | (with_reducible apply Sem.Wr.bind) | (with_reducible apply Sem.Wr.map) | (with_reducible apply Sem.Wr.ite) | (with_reducible intro _) | split | exact trivial | (dsimp only)))
theorem wr_endRound {P : Program} {W : Nat → Nat → Prop} (l : Nat) (j : Option Code) : Sem.Wr P W (Instr.endRound l j) := by
  unfold Instr.endRound
  refine Sem.Wr.bind (wr_getLoop l) fun r => ?_
  (repeat' (first | with_reducible assumption | with_reducible exact Sem.Wr.pure _ | with_reducible exact wr_setObj _ _ | exact wr_storeCells _ _ (by intro j; rw [addBlock, add_off, Nat.add_zero]; exact h _ _ _ (by first | rfl | assumption) (by omega) _ rfl _ hz j) | (with_reducible apply Sem.Wr.bind) | (with_reducible apply Sem.Wr.map) | (with_reducible apply Sem.Wr.ite) | (with_reducible intro _) | split | exact trivial | (dsimp only)))
theorem wr_endLoop {P : Program} {W : Nat → Nat → Prop} (l : Nat) : Sem.Wr P W (Instr.endLoop l) := by
  unfold Instr.endLoop
  refine Sem.Wr.bind (wr_getLoop l) fun r => ?_
  (repeat' (first | with_reducible assumption | with_reducible exact Sem.Wr.pure _ | with_reducible exact wr_setObj _ _ | with_reducible exact wr_runtimePanic _ | exact wr_storeCells _ _ (by intro j; rw [addBlock, add_off, Nat.add_zero]; exact h _ _ _ (by first | rfl | assumption) (by omega) _ rfl _ hz j) | (with_reducible apply Sem.Wr.bind) | (with_reducible apply Sem.Wr.map) | (with_reducible apply Sem.Wr.ite) | (with_reducible intro _) | split | exact trivial | (dsimp only)))
theorem wr_yield {P : Program} {W : Nat → Nat → Prop} (l : Nat) (args : Array Value) : Sem.Wr P W (Instr.yield l args) := by
  unfold Instr.yield
  refine Sem.Wr.bind (wr_getLoop l) fun r => ?_
  (repeat' (first | with_reducible assumption | with_reducible exact Sem.Wr.pure _ | exact wr_storeCells _ _ (by intro j; rw [addBlock, add_off, Nat.add_zero]; exact h _ _ _ (by first | rfl | assumption) (by omega) _ rfl _ hz j) | (with_reducible apply Sem.Wr.bind) | (with_reducible apply Sem.Wr.map) | (with_reducible apply Sem.Wr.ite) | (with_reducible intro _) | split | exact trivial | (dsimp only)))
theorem wr_enterLoop {P : Program} {W : Nat → Nat → Prop} (fn : FuncId) (tmps : Array Value) (ps : Array Tmp) (assign body : Code) : Sem.Wr P W (Instr.enterLoop fn tmps ps assign body none) := by
  unfold Instr.enterLoop
  (repeat' (first | with_reducible assumption | with_reducible exact Sem.Wr.pure _ | with_reducible exact wr_newObj _ | exact wr_storeCells _ _ (by intro j; rw [addBlock, add_off, Nat.add_zero]; exact h _ _ _ (by first | rfl | assumption) (by omega) _ rfl _ hz j) | (with_reducible apply Sem.Wr.bind) | (with_reducible apply Sem.Wr.map) | (with_reducible apply Sem.Wr.ite) | (with_reducible intro _) | split | exact trivial | (dsimp only)))
theorem wr_takeDeferred {P : Program} {W : Nat → Nat → Prop} (r : Nat) : Sem.Wr P W (Instr.takeDeferred r) := by
  unfold Instr.takeDeferred
  (repeat' (first | with_reducible assumption | with_reducible exact Sem.Wr.pure _ | with_reducible exact wr_getObj _ | with_reducible exact wr_setObj _ _ | exact wr_storeCells _ _ (by intro j; rw [addBlock, add_off, Nat.add_zero]; exact h _ _ _ (by first | rfl | assumption) (by omega) _ rfl _ hz j) | (with_reducible apply Sem.Wr.bind) | (with_reducible apply Sem.Wr.map) | (with_reducible apply Sem.Wr.ite) | (with_reducible intro _) | split | exact trivial | (dsimp only)))
theorem wr_callFn {P : Program} {W : Nat → Nat → Prop} {f : FuncId} {fn : Func} (hfn : P.funcs[f]? = some fn) (hname : (fn.name == "runtime.NumGoroutine") = false) (hb : fn.body.isNone = false) (args : Array Value) : Sem.Wr P W (callFunc f args) := by
  change Sem.Wr P W (match P.funcs[f]? with | none => _ | some fn => _)
  rw [hfn]
  dsimp only
  rw [if_neg (by rw [hname]; decide), if_neg (by rw [hb]; decide)]
  exact trivial
theorem run_callFn {P : Program} {w : World} {f : FuncId} {fn : Func} (hfn : P.funcs[f]? = some fn) (hname : (fn.name == "runtime.NumGoroutine") = false) (hb : fn.body.isNone = false) (args : Array Value) : (callFunc f args).run P w = .ok (.enter f args) w := by
  have hn : fn.name ≠ "runtime.NumGoroutine" := by simpa using hname
  have hb' : ¬ fn.body = none := by intro hh; rw [hh] at hb; cases hb
  simp [callFunc, program, Sem.run, hfn, hn, hb']
section
variable {P : Program} {main : Bool} {b : Frame} {a : Act} {k : List Item} {cs : List Frame} {w w' : World}
theorem sg_rangeFunc {g : Operand} {ps : Array Tmp} {asg bd : Code} {l : Nat} {mark : List Deferred} {w1 : World} {gf : FuncId} {gn : Func} {cv : Array Value} (hr : b.roundOf = none) (hk : b.kind ≠ .early) (he : (Instr.enterLoop b.fn a.tmps ps asg bd none).run P w = .ok (l, mark) w1)
    (hv : a.eval g = .func (.func gf) #[] cv) (hfn : P.funcs[gf]? = some gn) (hname : (gn.name == "runtime.NumGoroutine") = false) (hb : gn.body.isNone = false) :
    ∃ s2 : Sem Next, (∀ W, Sem.Wr P W s2) ∧ stepG P main (G (b.atR a (.code (.rangeFunc g ps asg bd) :: k)) cs) w = .go (G (Frame.enter P gf (#[.func (.yield l) #[] #[]] ++ cv) .normal) (b.atR { a with defers := mark ++ a.defers } (.inRangeFunc l :: k) :: cs)) w1
      (seen P b.fn ((Instr.enterLoop b.fn a.tmps ps asg bd none).events P w #[]) ++ seen P b.fn (s2.events P w1 #[])) := by
  refine ⟨callFunc gf (#[.func (.yield l) #[] #[]] ++ cv), fun W => wr_callFn hfn hname hb _, ?_⟩
  have hk' : (b.kind == CallKind.early) = false := by simpa using hk
  have hrun := run_callFn (w := w1) hfn hname hb (#[.func (.yield l) #[] #[]] ++ cv)
  have hev : ({ fn := b.fn, tmps := a.tmps, todo := .inRangeFunc l :: k, defers := mark ++ a.defers, mode := .run, kind := b.kind, roundOf := none } : Frame).eval g = .func (.func gf) #[] cv := by
    rw [← hv]; cases g <;> rfl
  have hec : ∀ (fr : Frame) (v : Value), fr.eval (.const v) = v := fun _ _ => rfl
  simp [G, stepG, stepG.exec, Frame.atR, hr, he, stepG.apply, resolve, hev, hec, Deferred.ofValue, invoke, hrun, hk', GStep.after]
theorem sg_round {ops : Array Oper} {i : Nat} {rest : List Nat} {o : Oper} {l : Nat} {f : FuncId} {tmps : Array Value} {asg bd : Code} (ho : ops[i]? = some o) (hw : Region.wanted o (yielded ops a.tmps) = true) (hk : b.kind ≠ .early) (hd : ∀ c, o.op ≠ .defer c)
    (hr : (execOp a.eval o).run P w = .ok (.round l f tmps asg bd) w') : stepG P main (G (b.atR a (.inRegion ops (i :: rest) :: k)) cs) w = .go (G (Frame.round l f tmps asg bd .normal) (b.atR a (.inRegion ops (i :: rest) :: k) :: cs)) w' (seen P b.fn ((execOp a.eval o).events P w #[])) := by
  have hk' : (b.kind == CallKind.early) = false := by simpa using hk
  rw [sg_oper ho hw hd]
  simp [stepG.apply, hr, G, Frame.atR, hk', GStep.after]
theorem sg_beginRound {l : Nat} (hl : b.roundOf = some l) (hk : b.kind ≠ .early) (hr : (Instr.beginRound l).run P w = .ok () w') :
    ∃ s2 : Sem Next, (∀ W, Sem.Wr P W s2) ∧ stepG P main (G (b.atR a (.beginRound :: k)) cs) w = .go (G (b.atR a k) cs) w' (seen P b.fn (s2.events P w #[])) := by
  have hk' : (b.kind == CallKind.early) = false := by simpa using hk
  refine ⟨(do Instr.beginRound l; pure .skip), fun W => Sem.Wr.bind (wr_beginRound l) fun _ => trivial, ?_⟩
  have hf : ∀ v, (b.atR a (.beginRound :: k)).finish v = b.atR a k := fun _ => rfl
  simp only [Frame.atR] at hf
  simp [G, stepG, stepG.exec, Frame.atR, hl, stepG.apply, hr, hk', GStep.after, Frame.finish]
theorem sg_roundEnd {l : Nat} {caller : Frame} {v : Value} (hl : b.roundOf = some l) (hk : b.kind = .normal) (hr : (Instr.endRound l none).run P w = .ok v w') :
    stepG P main (G (b.atR a []) (caller :: cs)) w = .go (G (caller.finish v) cs) w' (seen P b.fn ((Instr.endRound l none).events P w #[])) := by
  simp [G, stepG, stepG.exec, Frame.atR, hl, hr, doReturn, hk, GStep.after]
theorem sg_endRange {l : Nat} {j : Option Code} (hr : (Instr.endLoop l).run P w = .ok j w') :
    stepG P main (G (b.atR a (.endRangeFunc l :: k)) cs) w = .go (G (b.atR a ((j.map Item.code).toList ++ k)) cs) w' (seen P b.fn ((Instr.endLoop l).events P w #[])) := by
  simp [G, stepG, stepG.exec, Frame.atR, hr, GStep.after]
theorem sg_collected {r : Nat} {v : Array Value} {ds calls : List Deferred} {todo : List Item} (hd : a.defers = { target := .collected r, args := v } :: ds) (hr : (Instr.takeDeferred r).run P w = .ok calls w') :
    stepG P main (G { b.atR a todo with mode := .returning } cs) w = .go (G { b.atR { a with defers := calls ++ ds } todo with mode := .returning } cs) w' (seen P b.fn ((Instr.takeDeferred r).events P w #[])) := by
  simp [G, stepG, unwind, Frame.atR, hd, hr, GStep.after]
theorem sg_deferCall {f : FuncId} {fn : Func} {cv : Array Value} {args : Array Value} {ds : List Deferred} {todo : List Item} (hd : a.defers = { target := .fn (.func f) cv, args } :: ds) (hfn : P.funcs[f]? = some fn) (hname : (fn.name == "runtime.NumGoroutine") = false) (hb : fn.body.isNone = false) :
    stepG P main (G { b.atR a todo with mode := .returning } cs) w = .go (G (Frame.enter P f (args ++ cv) .deferred) ({ b.atR { a with defers := ds } todo with mode := .returning } :: cs)) w (seen P b.fn ((callFunc f (args ++ cv)).events P w #[])) := by
  have hrun := run_callFn (w := w) hfn hname hb (args ++ cv)
  simp [G, stepG, unwind, callDeferred, Frame.atR, hd, invoke, hrun, GStep.after]
theorem sg_leaveD {f : FuncId} {fr caller : Frame} {v : Value} (h : Leaves P f .deferred fr w v) (hm : caller.mode = .returning) : ∃ fn, P.funcs[f]? = some fn ∧ stepG P main (G fr (caller :: cs)) w = .go (G caller cs) w (seen P fr.fn ((results fn fr.tmps).events P w #[])) := by
  obtain ⟨h1, h2, h3, h4, h5, fn, h6, h7⟩ := h
  refine ⟨fn, h6, ?_⟩
  rw [← h1] at h6
  obtain ⟨q1, q2, q3, q4, q5, q6, q7⟩ := caller
  simp only at hm
  subst hm
  simp [G, stepG, unwind, doReturn, h2, h3, h4, h6, h7, GStep.after]
end
theorem run_still {P : Program} [Wins P] {α : Type} {B : Nat} {w0 w w' : World} {c : Ctx} {H : HS} {fr fr' : Frame} {cs cs' : List Frame} {t : Trace} {s : Sem α} {fn : FuncId} (hI : Inv B w0 c H w) (hB : Held c t) (hs : ∀ W, Sem.Wr P W s)
    (h : stepG P (c.x.me == 0) (G fr cs) w = .go (G fr' cs') w' (seen P fn (s.events P w #[]))) (hn : ∀ t', Held c t' → Run P c.x w' t' fr' cs') : Run P c.x w t fr cs :=
  run_step hI.xok h fun pos => hn _ (hB.evs' (still_events hI (hs _) fn) (Le.refl c))
theorem opR_yield {P : Program} [Wins P] {E : Operand → AV} {K : HS} {R : AV → HS → Prop} {dst : Option Tmp} {fo x y : Operand} {ts : Array TypeId} {ty : TypeId} {pos : String} {after : Array Edge} {gd : Option (Nat × Bool)} {idx : Nat} {T : List AV} {p q : Tmp} {asg bd : Code}
    (hE : E fo = .fn (.yield 0) [] [.iter idx]) (hK : K.maps[idx]? = some (.rnd #[p, q] asg bd .ready none T))
    (hround : AW P asg (fun e T1 H1 => e = .normal ∧ H1.maps[idx]? = some (.rnd #[p, q] asg bd .ready none T) ∧
      AW P bd (fun e _ H2 => H2.maps[idx]? = some (.rnd #[p, q] asg bd .busy none T) ∧ match e with
        | .normal => R (.d (TF true)) (H2.setM idx (.rnd #[p, q] asg bd .ready none T))
        | .ret => R (.d (TF false)) (H2.setM idx (.rnd #[p, q] asg bd .done (some .ret) T))
        | .exit i => R (.d (TF false)) (H2.setM idx (.rnd #[p, q] asg bd .done (some (.exit i)) T))
        | _ => False) T1 (H1.setM idx (.rnd #[p, q] asg bd .busy none T))) (putT (putT T (some p) (E x)) (some q) (E y)) K) :
    OpR P ⟨dst, .call ⟨.value fo, #[x, y], ts⟩, ty, pos, after, gd⟩ E K R := by
  intro B w0 c w a t hI hB hops b ops i rest k cs hk ho hwt hnext
  have hf := hops fo (by simp [Op.operands, Call.operands])
  have hx := hops x (by simp [Op.operands, Call.operands])
  have hy := hops y (by simp [Op.operands, Call.operands])
  rw [hE] at hf
  generalize ha : AV.fn (.yield 0) [] [.iter idx] = av at hf
  generalize hv : a.eval fo = V at hf
  cases hf with
  | fn f fs cs fs' cs' hl h hl' h' hny => cases ha; exact absurd rfl (hny 0)
  | yld l idx' hm =>
    injection ha with e1 e2 e3
    injection e3 with e3 e4
    injection e3 with e3
    subst e3
    obtain ⟨fn, tmps, D, hw, h0, hput⟩ := hI.rnd hm hK
    have hrun : (execOp a.eval ⟨dst, .call ⟨.value fo, #[x, y], ts⟩, ty, pos, after, gd⟩).run P w = .ok (.round l fn ((#[p, q].zip #[a.eval x, a.eval y]).foldl (fun tmps (t, a) => tmps.setIfInBounds t a) tmps) asg bd) w := by
      have h1 := run_yield (P := P) (args := #[a.eval x, a.eval y]) (show w.heap[l]? = some (.loop _) from hw) rfl
      simp [execOp, resolve, hv, Deferred.ofValue, invoke, h1]
    have hwr : ∀ W, Sem.Wr P W (execOp a.eval ⟨dst, .call ⟨.value fo, #[x, y], ts⟩, ty, pos, after, gd⟩) := fun W => by
      have := wr_yield (P := P) (W := W) l #[a.eval x, a.eval y]
      simpa [execOp, resolve, hv, Deferred.ofValue, invoke] using this
    refine run_still hI hB hwr (sg_round ho hwt hk (by intro c h; cases h) hrun) fun t1 hB1 => ?_
    have hT0 : RepT c ((#[p, q].zip #[a.eval x, a.eval y]).foldl (fun tmps (t, a) => tmps.setIfInBounds t a) tmps) (putT (putT T (some p) (E x)) (some q) (E y)) := by
      have h1 := RepT.put (a := { tmps := tmps, defers := [] }) h0 (some p) hx
      have h2 := RepT.put (a := { tmps := tmps.setIfInBounds p (a.eval x), defers := [] }) h1 (some q) hy
      simpa [Act.put] using h2
    generalize htm : (#[p, q].zip #[a.eval x, a.eval y]).foldl (fun tmps (t, a) => tmps.setIfInBounds t a) tmps = tm at hT0
    let rb : Frame := { fn := fn, tmps := #[], todo := [], defers := [], mode := .run, kind := .normal, roundOf := some l }
    have hfr : Frame.round l fn tm asg bd .normal = rb.atR { tmps := tm, defers := [] } (.code asg :: [.beginRound, .code bd]) := rfl
    rw [hfr]
    refine hround B w0 c w { tmps := tm, defers := [] } t1 hI hB1 hT0 rb [.beginRound, .code bd] _ (by simp [rb]) ?_
    rintro e a1 w1 c1 t2 T1 H1 l1 i1 s1 r1 d1 ⟨rfl, m1, hbody⟩
    have g1 := l1.maps _ _ hm
    obtain ⟨fn1, tm1, D1, hw1, _, hp1⟩ := i1.rnd g1 m1
    obtain ⟨s2, hs2, hst⟩ := sg_beginRound (P := P) (main := c1.x.me == 0) (b := rb) (a := a1) (k := [.code bd]) (cs := b.atR a (.inRegion ops (i :: rest) :: k) :: cs) (l := l) rfl (by simp [rb]) (run_beginRound hw1 rfl)
    refine run_still i1 s1 hs2 hst fun t3 s3 => ?_
    refine hbody B w0 c1 _ a1 t3 (hp1 .busy none) s3 r1 rb [] _ (by simp [rb]) ?_
    rintro e a2 w2 c2 t4 T2 H2 l2 i3 s4 r2 d2 ⟨m2, hR⟩
    have g2 := l2.maps _ _ g1
    obtain ⟨fn2, tm2, D2, hw2, _, hp2⟩ := i3.rnd g2 m2
    have fin : ∀ v, (b.atR a (.inRegion ops (i :: rest) :: k)).finish v = b.atR (a.put dst v) (.inRegion ops rest :: k) := fun v => by rw [Frame.finish_atR, ho]; rfl
    cases e with
    | normal =>
      refine run_still (s := Instr.endRound l none) i3 s4 (fun _ => wr_endRound l none) (sg_roundEnd (b := rb) (l := l) rfl rfl (run_endRound none hw2)) fun t5 s5 => ?_
      rw [fin]
      exact hnext _ _ c2 _ _ t5 (l1.trans l2) (.d (.v _ rfl)) (hp2 .ready none) s5 hR
    | ret =>
      refine ⟨rfl, _, _, _, _, run_endRound (some .ret) hw2, rfl, fun pos => ?_⟩
      rw [fin]
      exact hnext _ _ c2 _ _ _ (l1.trans l2) (.d (.v _ rfl)) (hp2 .done (some .ret)) (s4.evs' (still_events i3 (wr_endRound l (some .ret)) fn) (Le.refl _)) hR
    | exit id =>
      refine ⟨rfl, _, _, _, _, run_endRound (some (.exit id)) hw2, rfl, fun pos => ?_⟩
      rw [fin]
      exact hnext _ _ c2 _ _ _ (l1.trans l2) (.d (.v _ rfl)) (hp2 .done (some (.exit id))) (s4.evs' (still_events i3 (wr_endRound l (some (.exit id))) fn) (Le.refl _)) hR
    | goto l => exact hR.elim
    | panic ch => exact hR.elim
    | outgrown => exact hR.elim
  | _ => cases ha
end Go.AV
namespace Go.AV
open Go.RowKit
open Go.Conc (G)
inductive DD where
  | col (idx : Nat)
  | call (f : FuncId) (args cs : List AV)
inductive RepDs (c : Ctx) : List Deferred → List DD → Prop
  | nil : RepDs c [] []
  | col {idx r : Nat} {v : Array Value} {ds : List Deferred} {DS : List DD} (h : c.maps[idx]? = some r) (t : RepDs c ds DS) : RepDs c ({ target := .collected r, args := v } :: ds) (.col idx :: DS)
  | call {f : FuncId} {av cv : Array Value} {args cs : List AV} {ds : List Deferred} {DS : List DD} (h1 : av.size = args.length) (h2 : ∀ i (hi : i < args.length), Rep c (av.getD i undef) args[i]) (h3 : cv.size = cs.length) (h4 : ∀ i (hi : i < cs.length), Rep c (cv.getD i undef) cs[i])
      (t : RepDs c ds DS) : RepDs c ({ target := .fn (.func f) cv, args := av } :: ds) (.call f args cs :: DS)
theorem RepDs.mono {c c' : Ctx} (hl : Lw c c') {ds : List Deferred} {DS : List DD} (h : RepDs c ds DS) : RepDs c' ds DS := by
  induction h with
  | nil => exact .nil
  | col h t ih => exact .col (hl.maps _ _ h) ih
  | call h1 h2 h3 h4 t ih => exact .call h1 (fun i hi => (h2 i hi).mono hl) h3 (fun i hi => (h4 i hi).mono hl) ih
abbrev PostX := Exit → List AV → HS → List DD → Prop
def AWX (P : Program) [Wins P] (k : Code) (Q : PostX) (T : List AV) (H : HS) (DS : List DD) : Prop :=
  ∀ (B : Nat) (w0 : World) (c : Ctx) (w : World) (a : Act) (t : Trace), Inv B w0 c H w → Held c t → RepT c a.tmps T → RepDs c a.defers DS →
  ∀ (b : Frame) (k' : List Item) (cs : List Frame), b.kind ≠ .early → b.roundOf = none →
    (∀ e a' w' c' t' T' H' DS', Lw c c' → Inv B w0 c' H' w' → Held c' t' → RepT c' a'.tmps T' → RepDs c' a'.defers DS' → Q e T' H' DS' → After P c'.x w' t' b k' cs e a') →
    Run P c.x w t (b.atR a (.code k :: k')) cs
def ALX (P : Program) [Wins P] (ops : Array Oper) (l : List Oper) (Q : PostX) (T : List AV) (H : HS) (DS : List DD) : Prop :=
  ∀ (n : Nat), ops.toList.drop n = l →
  ∀ (B : Nat) (w0 : World) (c : Ctx) (w : World) (a : Act) (t : Trace), Inv B w0 c H w → Held c t → RepT c a.tmps T → RepDs c a.defers DS →
  ∀ (b : Frame) (k' : List Item) (cs : List Frame), b.kind ≠ .early → b.roundOf = none →
    (∀ e a' w' c' t' T' H' DS', Lw c c' → Inv B w0 c' H' w' → Held c' t' → RepT c' a'.tmps T' → RepDs c' a'.defers DS' → Q e T' H' DS' → After P c'.x w' t' b k' cs e a') →
    Run P c.x w t (b.atR a (.inRegion ops (List.range' n l.length) :: k')) cs
section
variable {P : Program} [Wins P] {Q : PostX} {T : List AV} {H : HS} {DS : List DD}
theorem awx_aw {k : Code} (h : AW P k (fun e T' H' => Q e T' H' DS) T H) : AWX P k Q T H DS :=
  fun B w0 c w a t h1 h2 h3 h4 b k' cs hk _ hn => h B w0 c w a t h1 h2 h3 b k' cs hk fun e a' w' c' t' T' H' x1 x2 x3 x4 x5 x6 => hn e a' w' c' t' T' H' DS x1 x2 x3 x4 (x5 ▸ h4.mono x1) x6
theorem awx_mono {k : Code} {Q' : PostX} (h : AWX P k Q T H DS) (hq : ∀ e T H DS, Q e T H DS → Q' e T H DS) : AWX P k Q' T H DS :=
  fun B w0 c w a t h1 h2 h3 h4 b k' cs hk hr hn => h B w0 c w a t h1 h2 h3 h4 b k' cs hk hr fun e a' w' c' t' T' H' DS' x1 x2 x3 x4 x5 x6 => hn e a' w' c' t' T' H' DS' x1 x2 x3 x4 x5 (hq _ _ _ _ x6)
def ThenX (P : Program) [Wins P] (y : Code) (Q : PostX) : PostX
  | .normal, T, H, DS => AWX P y Q T H DS
  | e, T, H, DS => Q e T H DS
theorem awx_seq {x y : Code} (h : AWX P x (ThenX P y Q) T H DS) : AWX P (.seq x y) Q T H DS := by
  intro B w0 c w a t h1 h2 h3 h4 b k' cs hk hr hn
  refine run_quiet h1.xok sg_seq (h B w0 c w a t h1 h2 h3 h4 b (.code y :: k') cs hk hr ?_)
  intro e a' w' c' t' T' H' DS' x1 x2 x3 x4 x5 x6
  by_cases he : e = .normal
  · subst he
    exact x6 B w0 c' w' a' t' x2 x3 x4 x5 b k' cs hk hr fun e2 a2 w2 c2 t2 T2 H2 DS2 y1 y2 y3 y4 y5 y6 => hn e2 a2 w2 c2 t2 T2 H2 DS2 (x1.trans y1) y2 y3 y4 y5 y6
  · refine (hn e a' w' c' t' T' H' DS' x1 x2 x3 x4 x5 ?_).push (fun _ h => by cases h) he
    cases e with
    | normal => exact absurd rfl he
    | exit id => exact x6
    | goto l => exact x6
    | ret => exact x6
    | panic ch => exact x6
    | outgrown => exact x6
def InBlockX (id : Nat) (Q : PostX) : PostX
  | .exit id', T, H, DS => if id' = id then Q .normal T H DS else Q (.exit id') T H DS
  | e, T, H, DS => Q e T H DS
theorem awx_block {id : Nat} {k : Code} (h : AWX P k (InBlockX id Q) T H DS) : AWX P (.block id k) Q T H DS := by
  intro B w0 c w a t h1 h2 h3 h4 b k' cs hk hr hn
  refine run_quiet h1.xok sg_block (h B w0 c w a t h1 h2 h3 h4 b (.inBlock id :: k') cs hk hr ?_)
  intro e a' w' c' t' T' H' DS' x1 x2 x3 x4 x5 x6
  cases e with
  | normal => exact run_quiet x2.xok sg_inBlock (hn .normal a' w' c' t' T' H' DS' x1 x2 x3 x4 x5 x6)
  | exit id' =>
    by_cases hid : id' = id
    · subst hid
      have q : Q .normal T' H' DS' := by simpa [InBlockX] using x6
      have := hn .normal a' w' c' t' T' H' DS' x1 x2 x3 x4 x5 q
      rw [after_exit]
      simp only [exitTo, beq_self_eq_true, if_true]
      exact this
    · have q : Q (.exit id') T' H' DS' := by simpa [InBlockX, hid] using x6
      have := hn (.exit id') a' w' c' t' T' H' DS' x1 x2 x3 x4 x5 q
      rw [after_exit] at this ⊢
      have e : exitTo id' (.inBlock id :: k') = exitTo id' k' := by
        have : (id == id') = false := by simp; exact fun h => hid h.symm
        simp [exitTo, this]
      rw [e]
      exact this
  | goto l => exact hn (.goto l) a' w' c' t' T' H' DS' x1 x2 x3 x4 x5 x6
  | ret => exact hn .ret a' w' c' t' T' H' DS' x1 x2 x3 x4 x5 x6
  | panic ch => exact hn (.panic ch) a' w' c' t' T' H' DS' x1 x2 x3 x4 x5 x6
  | outgrown => exact hn .outgrown a' w' c' t' T' H' DS' x1 x2 x3 x4 x5 x6
theorem awx_cond {k : Operand} {x y : Code} {b : Bool} (hc : evalT T k = .d (.v (.bool b))) (ht : b = true → AWX P x Q T H DS) (hf : b = false → AWX P y Q T H DS) : AWX P (.cond k x y) Q T H DS := by
  intro B w0 c w a t h1 h2 h3 h4 b' k' cs hk hr hn
  have he := h3.eval k
  rw [hc] at he
  have he' := he.v_eq
  refine run_quiet h1.xok (sg_cond he') ?_
  cases b with
  | true => exact ht rfl B w0 c w a t h1 h2 h3 h4 b' k' cs hk hr hn
  | false => exact hf rfl B w0 c w a t h1 h2 h3 h4 b' k' cs hk hr hn
theorem awx_region {id : Nat} {l : List Oper} (h : ALX P l.toArray l Q T H DS) : AWX P (.region id l.toArray false) Q T H DS := by
  intro B w0 c w a t h1 h2 h3 h4 b k' cs hk hr hn
  refine run_quiet h1.xok sg_region ?_
  have := h 0 (by simp) B w0 c w a t h1 h2 h3 h4 b k' cs hk hr hn
  rwa [← List.range_eq_range'] at this
theorem alx_al {ops : Array Oper} {l : List Oper} (h : AL P ops l (fun e T' H' => Q e T' H' DS) T H) : ALX P ops l Q T H DS :=
  fun n hd B w0 c w a t h1 h2 h3 h4 b k' cs hk _ hn => h n hd B w0 c w a t h1 h2 h3 b k' cs hk fun e a' w' c' t' T' H' x1 x2 x3 x4 x5 x6 => hn e a' w' c' t' T' H' DS x1 x2 x3 x4 (x5 ▸ h4.mono x1) x6
theorem alx_cons {ops : Array Oper} {o : Oper} {l : List Oper} (R : AV → HS → Prop) (ho : OpR P o (evalT T) H R) (hg : o.guard = none) (h : ∀ v H', R v H' → ALX P ops l Q (putT T o.dst v) H' DS) : ALX P ops (o :: l) Q T H DS := by
  intro n hd B w0 c w a t h1 h2 h3 h4 b k' cs hk hr hn
  obtain ⟨e1, e2⟩ := drop_at hd
  rw [List.length_cons, List.range'_succ]
  refine ho B w0 c w a t h1 h2 (fun x _ => h3.eval x) b ops n _ k' cs hk (by simpa using e1) (by simp [Region.wanted, hg]) ?_
  intro v' w' c' av H' t' l1 r1 i1 s1 rr
  exact h av H' rr (n + 1) e2 B w0 c' w' _ t' i1 s1 ((h3.mono l1).put o.dst r1) (by rw [put_defers]; exact h4.mono l1) b k' cs hk hr fun e a2 w2 c2 t2 T2 H2 DS2 y1 y2 y3 y4 y5 y6 => hn e a2 w2 c2 t2 T2 H2 DS2 (l1.trans y1) y2 y3 y4 y5 y6
theorem alx_step {ops : Array Oper} {o : Oper} {l : List Oper} {v : AV} {H' : HS} {T' : List AV} (ho : OpR P o (evalT T) H (Ret v H')) (hg : o.guard = none) (hT : putT T o.dst v = T') (h : ALX P ops l Q T' H' DS) : ALX P ops (o :: l) Q T H DS :=
  alx_cons _ ho hg fun _ _ ⟨e1, e2⟩ => by subst e1; subst e2; subst hT; exact h
theorem alx_defer {ops : Array Oper} {l : List Oper} {dst : Option Tmp} {fo : Operand} {args : Array Operand} {ts : Array TypeId} {ty : TypeId} {pos : String} {after : Array Edge} {f : FuncId} {fs cs : List AV} (hf : evalT T fo = .fn (.func f) fs cs)
    (h : ALX P ops l Q (putT T dst .nv) H (.call f (fs ++ args.toList.map (evalT T)) cs :: DS)) : ALX P ops (⟨dst, .defer ⟨.value fo, args, ts⟩, ty, pos, after, none⟩ :: l) Q T H DS := by
  intro n hd B w0 c w a t h1 h2 h3 h4 b k' cs' hk hr hn
  obtain ⟨e1, e2⟩ := drop_at hd
  rw [List.length_cons, List.range'_succ]
  have hev := h3.eval fo
  rw [hf] at hev
  generalize hv : a.eval fo = V at hev
  cases hev with
  | fn _ fv cv _ _ hl hfs hl' hcs hny =>
    have ho : ops[n]? = some ⟨dst, .defer ⟨.value fo, args, ts⟩, ty, pos, after, none⟩ := by simpa using e1
    have hrun : (execOp a.eval ⟨dst, .defer ⟨.value fo, args, ts⟩, ty, pos, after, none⟩).run P w = .ok (.defer { target := .fn (.func f) cv, args := fv ++ args.map a.eval }) w := by
      simp [execOp, resolve, hv, Deferred.ofValue]
    have hwr : ∀ W, Sem.Wr P W (execOp a.eval ⟨dst, .defer ⟨.value fo, args, ts⟩, ty, pos, after, none⟩) := fun W => by
      simp only [execOp, resolve, hv, Deferred.ofValue]
      exact trivial
    have hk' : (b.kind == CallKind.early) = false := by simpa using hk
    have hwt : Region.wanted ⟨dst, .defer ⟨.value fo, args, ts⟩, ty, pos, after, none⟩ (yielded ops a.tmps) = true := by simp [Region.wanted]
    have he := Frame.eval_atR b a (.inRegion ops (n :: List.range' (n + 1) l.length) :: k')
    simp only [Frame.atR, hr] at he
    have hst : stepG P (c.x.me == 0) (G (b.atR a (.inRegion ops (n :: List.range' (n + 1) l.length) :: k')) cs') w = .go (G (b.atR { a.put dst undef with defers := { target := .fn (.func f) cv, args := fv ++ args.map a.eval } :: a.defers } (.inRegion ops (List.range' (n + 1) l.length) :: k')) cs') w (seen P b.fn ((execOp a.eval ⟨dst, .defer ⟨.value fo, args, ts⟩, ty, pos, after, none⟩).events P w #[])) := by
      cases dst <;> simp [G, stepG, stepG.exec, stepG.oper, stepG.apply, Frame.oper?, Frame.atR, ho, hwt, he, hr, hrun, hk', GStep.after, Frame.finish, Act.put]
    refine run_still h1 h2 hwr hst fun t1 s1 => ?_
    refine h (n + 1) e2 B w0 c w _ t1 h1 s1 ?_ ?_ b k' cs' hk hr hn
    · have := h3.put dst (v := undef) (y := .nv) .nv
      exact this
    · refine .call ?_ ?_ hl' hcs h4
      · simp [hl]
      · intro i hi
        by_cases hlt : i < fs.length
        · have e1 : (fv ++ args.map a.eval).getD i undef = fv.getD i undef := getD_left (by omega) _
          rw [e1, List.getElem_append_left hlt]
          exact hfs i hlt
        · have e1 : (fv ++ args.map a.eval).getD i undef = (args.map a.eval).getD (i - fv.size) undef := getD_right (by omega) _
          rw [e1, List.getElem_append_right (by omega)]
          have hi2 : i - fs.length < args.size := by simp at hi; omega
          have e2 : (args.map a.eval).getD (i - fv.size) undef = a.eval args[i - fs.length] := by
            rw [hl]
            simp [hi2]
          rw [e2]
          simp only [List.getElem_map, Array.getElem_toList]
          exact h3.eval _
theorem run_ret {x : Crowd} {w : World} {t : Trace} {b : Frame} {k : List Item} {cs : List Frame} {a : Act} (hx : x.Ok) (h : After P x w t b k cs .ret a) : Run P x w t (b.atR a (.code .ret :: k)) cs := run_out hx (.inl rfl) h
theorem run_exit {x : Crowd} {w : World} {t : Trace} {b : Frame} {k : List Item} {cs : List Frame} {a : Act} {id : Nat} (hx : x.Ok) (h : After P x w t b k cs (.exit id) a) : Run P x w t (b.atR a (.code (.exit id) :: k)) cs := by
  rw [after_exit] at h
  cases he : exitTo id k with
  | some k' =>
    rw [he] at h
    exact run_quiet hx (sg_exit he) h
  | none =>
    rw [he] at h
    exact run_out hx (.inr ⟨id, rfl, he⟩) h
theorem awx_range {g : Operand} {ps : Array Tmp} {asg bd : Code} {gf : FuncId} {gn : Func} {cs : List AV} (hg : evalT T g = .fn (.func gf) [] cs) (hgf : P.funcs[gf]? = some gn) (hgb : gn.body.isNone = false) (hgn : (gn.name == "runtime.NumGoroutine") = false)
    (hcall : ACalls P gf (.fn (.yield 0) [] [.iter (H.maps.length + 1)] :: cs) ((H.pushM (.obj (.deferred (some [])))).pushM (.rnd ps asg bd .ready none T))
      (fun _ K => ∃ st pend, K.maps[H.maps.length + 1]? = some (.rnd ps asg bd st pend T) ∧ st ≠ .busy ∧ match pend with
        | none => Q .normal T (K.setM (H.maps.length + 1) (.rnd ps asg bd .exhausted pend T)) (.col H.maps.length :: DS)
        | some .ret => Q .ret T (K.setM (H.maps.length + 1) (.rnd ps asg bd .exhausted pend T)) (.col H.maps.length :: DS)
        | some (.exit i) => Q (.exit i) T (K.setM (H.maps.length + 1) (.rnd ps asg bd .exhausted pend T)) (.col H.maps.length :: DS)
        | _ => False)) : AWX P (.rangeFunc g ps asg bd) Q T H DS := by
  intro B w0 c w a t h1 h2 h3 h4 b k' csF hk hr hn
  have hge := h3.eval g
  rw [hg] at hge
  generalize hv : a.eval g = V at hge
  cases hge with
  | fn _ fv cv _ _ hl hfs hl' hcs hny =>
    have hfv : fv = #[] := by
      apply Array.eq_empty_of_size_eq_zero
      simpa using hl
    subst hfv
    obtain ⟨j1, k1⟩ := h1.allocO (.deferred (some [])) (other_def _).1 (other_def _).2
    have hsz : (w.alloc (.deferred (some []))).heap.size = w.heap.size + 1 := World.size_alloc _ _
    have hT1 := h3.mono k1.lw
    obtain ⟨j2, k2⟩ := j1.allocM (recP b.fn a.tmps ps asg bd w.heap.size .ready none) (.rnd ps asg bd .ready none T)
      (.recd _ b.fn w.heap.size a.tmps ps asg bd .ready none T (World.alloc_heap_new _ _) hT1.size (fun i hi => by
        have := hT1.at_ i hi
        rwa [List.getD_eq_getElem?_getD, List.getElem?_eq_getElem hi] at this))
    rw [hsz] at j2 k2
    obtain ⟨cM, hcM⟩ : ∃ cM, cM = ({ c with maps := c.maps ++ [w.heap.size] ++ [w.heap.size + 1] } : Ctx) := ⟨_, rfl⟩
    have j2' : Inv B w0 cM ((H.pushM (.obj (.deferred (some [])))).pushM (.rnd ps asg bd .ready none T)) ((w.alloc (.deferred (some []))).alloc (recP b.fn a.tmps ps asg bd w.heap.size .ready none)) := by rw [hcM]; exact j2
    have k2' : Le c cM := by rw [hcM]; exact k1.trans k2
    have hml : c.maps.length = H.maps.length := h1.maps.len
    have m1 : cM.maps[H.maps.length]? = some w.heap.size := by rw [hcM, ← hml]; simp
    have m2 : cM.maps[H.maps.length + 1]? = some (w.heap.size + 1) := by rw [hcM, ← hml]; simp
    obtain ⟨W1, hW1⟩ : ∃ W1, W1 = ((w.alloc (.deferred (some []))).alloc (recP b.fn a.tmps ps asg bd w.heap.size .ready none)) := ⟨_, rfl⟩
    rw [← hW1] at j2'
    have henter : (Instr.enterLoop b.fn a.tmps ps asg bd none).run P w = .ok (w.heap.size + 1, [{ target := .collected w.heap.size, args := #[] }]) W1 := by
      rw [hW1]; exact run_enterLoop_outer _ _ _ _ _
    obtain ⟨s2, hs2, hst⟩ := sg_rangeFunc (main := c.x.me == 0) (b := b) (a := a) (k := k') (cs := csF) hr hk henter hv hgf hgn hgb
    refine run_step h1.xok hst fun pos => ?_
    have hxM : c.x = cM.x := by rw [hcM]
    rw [hxM]
    have hB2 : Held cM (t ++ MemOp.ofEvents cM.x.me b.fn pos (seen P b.fn ((Instr.enterLoop b.fn a.tmps ps asg bd none).events P w #[]) ++ seen P b.fn (s2.events P W1 #[]))) := by
      have := h2.evs (fn := b.fn) (pos := pos) (es := seen P b.fn ((Instr.enterLoop b.fn a.tmps ps asg bd none).events P w #[]) ++ seen P b.fn (s2.events P W1 #[])) (fun e he => by
        rcases Array.mem_append.1 he with q | q
        · exact still_events h1 (wr_enterLoop _ _ _ _ _) b.fn e q
        · have := still_events j2' (hs2 _) b.fn e q
          have hmm : cM.mem = c.mem := by rw [hcM]
          rwa [hmm] at this)
      have hmm : cM.mem = c.mem := by rw [hcM]
      unfold Held
      rw [← hxM, hmm]
      exact this
    refine hcall B w0 cM W1 _ _ j2' hB2 (by simp [hl', Nat.add_comm]) ?_ .normal _ (.inl rfl) ?_
    · intro i hi
      match i, hi with
      | 0, _ =>
        have e0 : (#[Value.func (.yield (w.heap.size + 1)) #[] #[]] ++ cv).getD 0 undef = .func (.yield (w.heap.size + 1)) #[] #[] := by simp [Array.getD]
        rw [e0]
        exact Rep.yld _ _ m2
      | i + 1, hi =>
        have hi' : i < cs.length := by simpa using hi
        have e1 : (#[Value.func (.yield (w.heap.size + 1)) #[] #[]] ++ cv).getD (i + 1) undef = cv.getD i undef := by
          have q1 : i < cv.size := by omega
          simp [Array.getD, q1, Nat.add_comm]
        rw [e1]
        exact (hcs i hi').mono k2'.lw
    · rintro v w5 c5 av' H5 t5 fr l5 r5 i5 s5 ⟨st, pend, q2, hst2, hq⟩ hL
      obtain ⟨fn2, hf2, hstep⟩ := sg_leave (main := c5.x.me == 0) (cs := csF) (caller := b.atR { a with defers := [{ target := .collected w.heap.size, args := #[] }] ++ a.defers } (.inRangeFunc (w.heap.size + 1) :: k')) hL
      refine run_still i5 s5 (fun _ => wr_results _ _) hstep fun t6 s6 => ?_
      have p2 := l5.maps _ _ m2
      have p1 := l5.maps _ _ m1
      obtain ⟨fnR, tmR, DR, hw5, _, hp⟩ := i5.rnd p2 q2
      have i6 := hp .exhausted pend
      have hfin : (b.atR { a with defers := [{ target := .collected w.heap.size, args := #[] }] ++ a.defers } (.inRangeFunc (w.heap.size + 1) :: k')).finish v = b.atR { a with defers := [{ target := .collected w.heap.size, args := #[] }] ++ a.defers } (.endRangeFunc (w.heap.size + 1) :: k') := rfl
      rw [hfin]
      refine run_still (s := Instr.endLoop (w.heap.size + 1)) i5 s6 (fun _ => wr_endLoop _) (sg_endRange (run_endLoop hw5 hst2)) fun t7 s7 => ?_
      have t5 : RepT c5 a.tmps T := h3.mono ((Le.lw k2').trans l5)
      have d5 : RepDs c5 ([{ target := .collected w.heap.size, args := #[] }] ++ a.defers) (.col H.maps.length :: DS) := .col p1 (h4.mono ((Le.lw k2').trans l5))
      cases pend with
      | none => exact hn .normal _ _ c5 t7 T _ _ ((Le.lw k2').trans l5) i6 s7 t5 d5 hq
      | some j =>
        cases j with
        | ret => exact run_ret i6.xok (hn .ret _ _ c5 t7 T _ _ ((Le.lw k2').trans l5) i6 s7 t5 d5 hq)
        | exit id => exact run_exit i6.xok (hn (.exit id) _ _ c5 t7 T _ _ ((Le.lw k2').trans l5) i6 s7 t5 d5 hq)
        | _ => exact hq.elim
def DEnd (P : Program) [Wins P] : List DD → (HS → Prop) → HS → Prop
  | [], K, H => K H
  | .col idx :: ds, K, H => H.maps[idx]? = some (.obj (.deferred (some []))) ∧ DEnd P ds K (H.setM idx (.obj (.deferred none)))
  | .call f args cs :: ds, K, H => (∃ fn, P.funcs[f]? = some fn ∧ (fn.name == "runtime.NumGoroutine") = false ∧ fn.body.isNone = false) ∧ ACalls P f (args ++ cs) H fun _ H' => DEnd P ds K H'
theorem dend_run {B : Nat} {w0 : World} {K : HS → Prop} : ∀ (DS : List DD) (H : HS), DEnd P DS K H → ∀ (c : Ctx) (w : World) (a : Act) (t : Trace) (b : Frame) (todo : List Item) (cs : List Frame), Inv B w0 c H w → Held c t → RepDs c a.defers DS →
    (∀ c' w' t' H', Lw c c' → Inv B w0 c' H' w' → Held c' t' → K H' → Run P c'.x w' t' { b.atR { a with defers := [] } todo with mode := .returning } cs) → Run P c.x w t { b.atR a todo with mode := .returning } cs
  | [], H, hd, c, w, a, t, b, todo, cs, hI, hB, hD, hn => by
    have : a.defers = [] := by cases hD' : a.defers with
      | nil => rfl
      | cons x l => rw [hD'] at hD; cases hD
    have e : a = { a with defers := [] } := by cases a; simp at this; subst this; rfl
    rw [e]
    exact hn c w t H (Lw.refl c) hI hB hd
  | .col idx :: ds, H, hd, c, w, a, t, b, todo, cs, hI, hB, hD, hn => by
    obtain ⟨m1, hd⟩ := hd
    generalize hA : a.defers = A at hD
    cases hD with
    | col hc ht =>
      obtain ⟨hw, i1⟩ := hI.putO hc m1 (.deferred none) (other_def _).1 (other_def _).2
      refine run_still hI hB (fun _ => wr_takeDeferred _) (sg_collected hA (run_takeDeferred hw)) fun t1 s1 => ?_
      exact dend_run ds _ hd c _ { a with defers := _ } t1 b todo cs i1 s1 ht hn
  | .call f args cs' :: ds, H, hd, c, w, a, t, b, todo, cs, hI, hB, hD, hn => by
    obtain ⟨⟨fn, hf, hname, hb⟩, hd⟩ := hd
    generalize hA : a.defers = A at hD
    cases hD with
    | call h1 h2 h3 h4 ht =>
      rename_i av cv ds'
      refine run_still hI hB (fun _ => wr_callFn hf hname hb _) (sg_deferCall hA hf hname hb) fun t1 s1 => ?_
      refine hd B w0 c w t1 (av ++ cv) hI s1 (by simp [h1, h3]) ?_ .deferred _ (.inr rfl) ?_
      · intro i hi
        by_cases hlt : i < args.length
        · have e1 : (av ++ cv).getD i undef = av.getD i undef := getD_left (by omega) _
          rw [e1, List.getElem_append_left hlt]
          exact h2 i hlt
        · have e1 : (av ++ cv).getD i undef = cv.getD (i - av.size) undef := getD_right (by omega) _
          have hi2 : i - args.length < cs'.length := by simp at hi; omega
          rw [e1, List.getElem_append_right (by omega)]
          have e2 : cv.getD (i - av.size) undef = cv.getD (i - args.length) undef := by rw [h1]
          rw [e2]
          exact h4 (i - args.length) hi2
      · intro v w' c' av' H' t' fr l1 r1 i1 s2 hk hL
        obtain ⟨fn2, hf2, hstep⟩ := sg_leaveD (main := c'.x.me == 0) (cs := cs) (caller := { b.atR { a with defers := ds' } todo with mode := .returning }) hL rfl
        refine run_still i1 s2 (fun _ => wr_results _ _) hstep fun t3 s3 => ?_
        exact dend_run ds H' hk c' w' { a with defers := ds' } t3 b todo cs i1 s3 (ht.mono l1) fun c2 w2 t2 H2 y1 y2 y3 y4 => hn c2 w2 t2 H2 (l1.trans y1) y2 y3 y4
theorem acalls_bodyX {f : FuncId} {fn : Func} {k : Code} {args : List AV} {R : AV → HS → Prop} (hf : P.funcs[f]? = some fn) (hb : fn.body = some k) (Q : PostX) (h : AWX P k Q (args ++ List.replicate (fn.ntmps - args.length) .un) H [])
    (hq : ∀ e T' H' DS', Q e T' H' DS' → (e = .ret ∨ e = .normal) ∧ DEnd P DS' (fun H2 => ∀ (B : Nat) (w0 : World) (c : Ctx) (w : World) (tmps : Array Value), Inv B w0 c H2 w → RepT c tmps T' → ∃ v av H3 c2, (results fn tmps).run P w = .ok v w ∧ Le c c2 ∧ Rep c2 v av ∧ Inv B w0 c2 H3 w ∧ R av H3) H') : ACalls P f args H R := by
  intro B w0 c w t vs hI hB hs ha kind cs hk hn
  have he : Frame.enter P f vs kind = (Frame.mk f #[] [] [] .run kind none).atR { tmps := vs ++ Array.replicate (fn.ntmps - vs.size) undef, defers := [] } [.code k] := by
    simp [Frame.enter, hf, hb, Frame.atR]
  rw [he]
  refine h B w0 c w _ t hI hB (repT_args hs ha) .nil _ [] cs (by rcases hk with rfl | rfl <;> simp) rfl ?_
  intro e a' w' c' t' T' H' DS' x1 x2 x3 x4 x5 x6
  obtain ⟨hee, hd⟩ := hq e T' H' DS' x6
  have fin : ∀ todo, Run P c'.x w' t' { (Frame.mk f #[] [] [] .run kind none).atR a' todo with mode := .returning } cs := by
    intro todo
    refine dend_run DS' H' hd c' w' a' t' _ todo cs x2 x3 x5 ?_
    intro c2 w2 t2 H2 y1 y2 y3 hres
    obtain ⟨v, av, H3, c3, r1, r2, r3, r4, r5⟩ := hres B w0 c2 w2 a'.tmps y2 (x4.mono y1)
    have := hn v w2 c3 av H3 t2 { (Frame.mk f #[] [] [] .run kind none).atR { a' with defers := [] } todo with mode := .returning } ((x1.trans y1).trans r2) r3 r4 (by unfold Held; rw [r2.x]; exact y3.mono r2.mem fun _ h => h) r5 ⟨rfl, rfl, rfl, rfl, rfl, fn, hf, r1⟩
    rw [r2.x] at this
    exact this
  rcases hee with rfl | rfl
  · exact ⟨rfl, fin⟩
  · exact run_quiet x2.xok (sg_end rfl) (fin [])
end
end Go.AV
namespace Go.AV
def beqV : Value → Value → Bool
  | .bool a, .bool b => decide (a = b)
  | .int k m, .int k' n => decide (k = k') && decide (m = n)
  | .string a, .string b => decide (a.data.toList = b.data.toList)
  | .pointer none, .pointer none => true
  | .slice none 0 0, .slice none 0 0 => true
  | .map none, .map none => true
  | .nilFunc, .nilFunc => true
  | .nilIface, .nilIface => true
  | _, _ => false
theorem beqV_ok {a b : Value} (h : beqV a b = true) : a = b := by
  unfold beqV at h
  split at h
  · simpa using h
  · simp only [Bool.and_eq_true, decide_eq_true_eq] at h; rw [h.1, h.2]
  · rename_i x y
    obtain ⟨⟨x⟩⟩ := x
    obtain ⟨⟨y⟩⟩ := y
    simp at h
    rw [h]
  all_goals first | rfl | (exact absurd h Bool.false_ne_true)
mutual
def beqD : DV → DV → Bool
  | .v a, .v b => beqV a b
  | .agg l, .agg m => beqDs l m
  | .lst s l, .lst s' m => decide (s = s') && beqDs l m
  | _, _ => false
def beqDs : List DV → List DV → Bool
  | [], [] => true
  | a :: l, b :: m => beqD a b && beqDs l m
  | _, _ => false
end
mutual
theorem beqD_ok : ∀ {a b : DV}, beqD a b = true → a = b
  | .v a, .v b, h => by
    have := beqV_ok (a := a) (b := b) (by simpa [beqD] using h)
    rw [this]
  | .agg l, .agg m, h => by
    have := beqDs_ok (a := l) (b := m) (by simpa [beqD] using h)
    rw [this]
  | .lst s l, .lst s' m, h => by
    simp only [beqD, Bool.and_eq_true, decide_eq_true_eq] at h
    rw [h.1, beqDs_ok h.2]
  | .v _, .agg _, h => by simp [beqD] at h
  | .v _, .lst _ _, h => by simp [beqD] at h
  | .agg _, .v _, h => by simp [beqD] at h
  | .agg _, .lst _ _, h => by simp [beqD] at h
  | .lst _ _, .v _, h => by simp [beqD] at h
  | .lst _ _, .agg _, h => by simp [beqD] at h
theorem beqDs_ok : ∀ {a b : List DV}, beqDs a b = true → a = b
  | [], [], _ => rfl
  | a :: l, b :: m, h => by
    simp only [beqDs, Bool.and_eq_true] at h
    rw [beqD_ok h.1, beqDs_ok h.2]
  | [], _ :: _, h => by simp [beqDs] at h
  | _ :: _, [], h => by simp [beqDs] at h
end
mutual
def beqA : AV → AV → Bool
  | .un, .un => true
  | .nv, .nv => true
  | .d x, .d y => beqD x y
  | .own t s l, .own t' s' m => decide (t = t') && decide (s = s') && beqDs l m
  | .elt l, .elt m => beqDs l m
  | .ptr i o, .ptr j q => decide (i = j) && decide (o = q)
  | .arr i n c, .arr j m d => decide (i = j) && decide (n = m) && decide (c = d)
  | .agg l, .agg m => beqAs l m
  | .tup l, .tup m => beqAs l m
  | .map i, .map j => decide (i = j)
  | .iter i, .iter j => decide (i = j)
  | _, _ => false
def beqAs : List AV → List AV → Bool
  | [], [] => true
  | a :: l, b :: m => beqA a b && beqAs l m
  | _, _ => false
end
mutual
theorem beqA_ok : ∀ (a b : AV), beqA a b = true → a = b
  | a, b, h => by
    cases a <;> cases b <;> simp only [beqA, Bool.and_eq_true, decide_eq_true_eq, Bool.false_eq_true] at h
    case un.un => rfl
    case nv.nv => rfl
    case d.d => rw [beqD_ok h]
    case own.own => rw [h.1.1, h.1.2, beqDs_ok h.2]
    case elt.elt => rw [beqDs_ok h]
    case ptr.ptr => rw [h.1, h.2]
    case arr.arr => rw [h.1.1, h.1.2, h.2]
    case agg.agg l m => rw [beqAs_ok l m h]
    case tup.tup l m => rw [beqAs_ok l m h]
    case map.map => rw [h]
    case iter.iter => rw [h]
theorem beqAs_ok : ∀ (a b : List AV), beqAs a b = true → a = b
  | [], [], _ => rfl
  | a :: l, b :: m, h => by
    simp only [beqAs, Bool.and_eq_true] at h
    rw [beqA_ok a b h.1, beqAs_ok l m h.2]
  | [], _ :: _, h => by simp [beqAs] at h
  | _ :: _, [], h => by simp [beqAs] at h
end
mutual
def fitsB (nb nt : Nat) : AV → Bool
  | .own (some i) _ _ => decide (i < nt)
  | .ptr id _ => decide (id < nb)
  | .arr id _ _ => decide (id < nb)
  | .sub id _ _ _ => decide (id < nb)
  | .agg cs => fitsBs nb nt cs
  | .tup cs => fitsBs nb nt cs
  | .fn _ fs cs => fitsBs nb nt fs && fitsBs nb nt cs
  | _ => true
def fitsBs (nb nt : Nat) : List AV → Bool
  | [] => true
  | a :: l => fitsB nb nt a && fitsBs nb nt l
end
mutual
theorem fitsB_ok (nb nt : Nat) : ∀ (a : AV), fitsB nb nt a = true → Fits nb nt a
  | .un, _ => .un
  | .nv, _ => .nv
  | .d x, _ => .d x
  | .own none s l, _ => .own0 s l
  | .own (some i) s l, h => .own i s l (by simpa [fitsB] using h)
  | .elt cs, _ => .elt cs
  | .ptr id o, h => .ptr id o (by simpa [fitsB] using h)
  | .arr id n c, h => .arr id n c (by simpa [fitsB] using h)
  | .sub id o n c, h => .sub id o n c (by simpa [fitsB] using h)
  | .agg cs, h => .agg cs (fitsBs_ok nb nt cs (by simpa [fitsB] using h))
  | .tup cs, h => .tup cs (fitsBs_ok nb nt cs (by simpa [fitsB] using h))
  | .fn f fs cs, h => by
    simp only [fitsB, Bool.and_eq_true] at h
    exact .fn f fs cs (fitsBs_ok nb nt fs h.1) (fitsBs_ok nb nt cs h.2)
  | .map id, _ => .map id
  | .iter id, _ => .iter id
theorem fitsBs_ok (nb nt : Nat) : ∀ (l : List AV), fitsBs nb nt l = true → ∀ i (hi : i < l.length), Fits nb nt l[i]
  | [], _, i, hi => by simp at hi
  | a :: l, h, i, hi => by
    simp only [fitsBs, Bool.and_eq_true] at h
    cases i with
    | zero => exact fitsB_ok nb nt a h.1
    | succ i => exact fitsBs_ok nb nt l h.2 i (by simpa using hi)
end
end Go.AV
namespace Go.AV
section
variable {α : Type}
def forceN : Nat → (Nat → α) → α
  | 0, k => k 0
  | n + 1, k => k (n + 1)
theorem forceN_eq (n : Nat) (k : Nat → α) : forceN n k = k n := by cases n <;> rfl
def forceI : Int → (Int → α) → α
  | .ofNat n, k => forceN n fun n => k (.ofNat n)
  | .negSucc n, k => forceN n fun n => k (.negSucc n)
theorem forceI_eq (n : Int) (k : Int → α) : forceI n k = k n := by cases n <;> simp [forceI, forceN_eq]
def forceB : Bool → (Bool → α) → α
  | true, k => k true
  | false, k => k false
theorem forceB_eq (b : Bool) (k : Bool → α) : forceB b k = k b := by cases b <;> rfl
def forceBs : List UInt8 → (List UInt8 → α) → α
  | [], k => k []
  | b :: l, k => forceN b.toNat fun n => forceBs l fun l => k (UInt8.ofNat n :: l)
theorem forceBs_eq : ∀ (l : List UInt8) (k : List UInt8 → α), forceBs l k = k l
  | [], k => rfl
  | b :: l, k => by simp [forceBs, forceN_eq, forceBs_eq l]
def forceV : Value → (Value → α) → α
  | .int kd n, k => forceI n fun n => k (.int kd n)
  | .string b, k => forceBs b.data.toList fun l => k (.string ⟨⟨l⟩⟩)
  | .bool b, k => forceB b fun b => k (.bool b)
  | v, k => k v
theorem forceV_eq (v : Value) (k : Value → α) : forceV v k = k v := by
  unfold forceV
  split
  · rw [forceI_eq]
  · rw [forceBs_eq]
  · rw [forceB_eq]
  · rfl
mutual
def forceD : DV → (DV → α) → α
  | .v x, k => forceV x fun x => k (.v x)
  | .agg l, k => forceDs l fun l => k (.agg l)
  | .lst s l, k => forceN s fun s => forceDs l fun l => k (.lst s l)
def forceDs : List DV → (List DV → α) → α
  | [], k => k []
  | x :: l, k => forceD x fun x => forceDs l fun l => k (x :: l)
end
mutual
theorem forceD_eq : ∀ (x : DV) (k : DV → α), forceD x k = k x
  | .v x, k => by simp only [forceD, forceV_eq]
  | .agg l, k => by simp only [forceD, forceDs_eq l]
  | .lst s l, k => by simp only [forceD, forceN_eq, forceDs_eq l]
theorem forceDs_eq : ∀ (l : List DV) (k : List DV → α), forceDs l k = k l
  | [], k => by simp only [forceDs]
  | x :: l, k => by simp only [forceDs, forceD_eq x, forceDs_eq l]
end
def forceO : Option Nat → (Option Nat → α) → α
  | none, k => k none
  | some n, k => forceN n fun n => k (some n)
theorem forceO_eq (o : Option Nat) (k : Option Nat → α) : forceO o k = k o := by cases o <;> simp [forceO, forceN_eq]
mutual
def forceA : AV → (AV → α) → α
  | .un, k => k .un
  | .nv, k => k .nv
  | .d x, k => forceD x fun x => k (.d x)
  | .own t s l, k => forceO t fun t => forceN s fun s => forceDs l fun l => k (.own t s l)
  | .elt l, k => forceDs l fun l => k (.elt l)
  | .ptr i o, k => forceN i fun i => forceN o fun o => k (.ptr i o)
  | .arr i n c, k => forceN i fun i => forceN n fun n => forceN c fun c => k (.arr i n c)
  | .sub i o n c, k => forceN i fun i => forceN o fun o => forceN n fun n => forceN c fun c => k (.sub i o n c)
  | .agg l, k => forceAs l fun l => k (.agg l)
  | .tup l, k => forceAs l fun l => k (.tup l)
  | .fn f fs cs, k => forceAs fs fun fs => forceAs cs fun cs => k (.fn f fs cs)
  | .map i, k => forceN i fun i => k (.map i)
  | .iter i, k => forceN i fun i => k (.iter i)
def forceAs : List AV → (List AV → α) → α
  | [], k => k []
  | x :: l, k => forceA x fun x => forceAs l fun l => k (x :: l)
end
mutual
theorem forceA_eq : ∀ (x : AV) (k : AV → α), forceA x k = k x
  | .un, k => by simp only [forceA]
  | .nv, k => by simp only [forceA]
  | .d x, k => by simp only [forceA, forceD_eq]
  | .own t s l, k => by simp only [forceA, forceO_eq, forceN_eq, forceDs_eq]
  | .elt l, k => by simp only [forceA, forceDs_eq]
  | .ptr i o, k => by simp only [forceA, forceN_eq]
  | .arr i n c, k => by simp only [forceA, forceN_eq]
  | .sub i o n c, k => by simp only [forceA, forceN_eq]
  | .agg l, k => by simp only [forceA, forceAs_eq l]
  | .tup l, k => by simp only [forceA, forceAs_eq l]
  | .fn f fs cs, k => by simp only [forceA, forceAs_eq fs, forceAs_eq cs]
  | .map i, k => by simp only [forceA, forceN_eq]
  | .iter i, k => by simp only [forceA, forceN_eq]
theorem forceAs_eq : ∀ (l : List AV) (k : List AV → α), forceAs l k = k l
  | [], k => by simp only [forceAs]
  | x :: l, k => by simp only [forceAs, forceA_eq x, forceAs_eq l]
end
def setK : List AV → Nat → AV → (List AV → α) → α
  | [], _, _, k => k []
  | _ :: l, 0, v, k => k (v :: l)
  | x :: l, n + 1, v, k => setK l n v fun l => k (x :: l)
theorem setK_eq : ∀ (l : List AV) (n : Nat) (v : AV) (k : List AV → α), setK l n v k = k (l.set n v)
  | [], _, _, _ => rfl
  | _ :: _, 0, _, _ => rfl
  | _ :: l, n + 1, v, k => by simp only [setK, setK_eq l n v, List.set]
def putK (T : List AV) (d : Option Tmp) (v : AV) (k : List AV → α) : α := match d with
  | none => k T
  | some d => setK T d v k
theorem putK_eq (T : List AV) (d : Option Tmp) (v : AV) (k : List AV → α) : putK T d v k = k (putT T d v) := by
  cases d with
  | none => rfl
  | some d => exact setK_eq T d v k
def forceBl : List HB → (List HB → α) → α
  | [], k => k []
  | ⟨e, cs, fz⟩ :: l, k => forceAs cs fun cs => forceB fz fun fz => forceBl l fun l => k (⟨e, cs, fz⟩ :: l)
theorem forceBl_eq : ∀ (l : List HB) (k : List HB → α), forceBl l k = k l
  | [], k => rfl
  | ⟨e, cs, fz⟩ :: l, k => by simp only [forceBl, forceAs_eq, forceB_eq, forceBl_eq l]
def forceNs : List Nat → (List Nat → α) → α
  | [], k => k []
  | n :: l, k => forceN n fun n => forceNs l fun l => k (n :: l)
theorem forceNs_eq : ∀ (l : List Nat) (k : List Nat → α), forceNs l k = k l
  | [], k => rfl
  | n :: l, k => by simp only [forceNs, forceN_eq, forceNs_eq l]
def forceMs : List MB → (List MB → α) → α
  | [], k => k []
  | .map es :: l, k => forceMs l fun l => k (.map es :: l)
  | .iter o n x :: l, k => forceO o fun o => forceN n fun n => forceMs l fun l => k (.iter o n x :: l)
  | .obj o :: l, k => forceMs l fun l => k (.obj o :: l)
  | .rnd ps asg bd st pend T :: l, k => forceMs l fun l => k (.rnd ps asg bd st pend T :: l)
theorem forceMs_eq : ∀ (l : List MB) (k : List MB → α), forceMs l k = k l
  | [], k => rfl
  | .map es :: l, k => by simp only [forceMs, forceMs_eq l]
  | .iter o n x :: l, k => by simp only [forceMs, forceO_eq, forceN_eq, forceMs_eq l]
  | .obj o :: l, k => by simp only [forceMs, forceMs_eq l]
  | .rnd ps asg bd st pend T :: l, k => by simp only [forceMs, forceMs_eq l]
def forceH : HS → (HS → α) → α
  | ⟨bl, tk, mp, x⟩, k => forceBl bl fun bl => forceNs tk fun tk => forceMs mp fun mp => k ⟨bl, tk, mp, x⟩
theorem forceH_eq (H : HS) (k : HS → α) : forceH H k = k H := by
  obtain ⟨bl, tk, mp, x⟩ := H
  simp only [forceH, forceBl_eq, forceNs_eq, forceMs_eq]
end
end Go.AV
namespace Go.AV
open Go.RowKit
def mskE (R : List Nat) (j : Nat) : List Edge → Nat → Nat
  | [], s => s
  | e :: es, s => match Region.binds .any e with
    | true => mskE R j es (s ||| 2 ^ e.on ||| R.getD (j - 1 - e.on) 0)
    | false => mskE R j es s
def edgeOk (j : Nat) : List Edge → Bool
  | [] => true
  | e :: es => match Region.binds .any e with
    | true => Nat.blt e.on j && edgeOk j es
    | false => edgeOk j es
def meets (di dj : Option Tmp) (li lj : List Tmp) : Bool :=
  (match di with
   | some d => lj.contains d || dj == some d
   | none => false) ||
  (match dj with
   | some d => li.contains d
   | none => false)
def prevOk (m : Nat) (dj : Option Tmp) (lj : List Tmp) : List (Option Tmp × List Tmp) → Nat → Bool
  | [], _ => true
  | (di, li) :: r, i => match meets di dj li lj with
    | true => m.testBit (i - 1) && prevOk m dj lj r (i - 1)
    | false => prevOk m dj lj r (i - 1)
def statGo (ops : Array Oper) : List Oper → List (Option Tmp × List Tmp) → List Nat → Nat → Option (List Nat)
  | [], _, _, _ => some []
  | o :: l, pv, R, j => match edgeOk j o.after.toList && prevOk (mskE R j o.after.toList 0) o.dst (o.looksAt ops) pv j with
    | true => match statGo ops l ((o.dst, o.looksAt ops) :: pv) (mskE R j o.after.toList 0 :: R) (j + 1) with
      | some ms => some (mskE R j o.after.toList 0 :: ms)
      | none => none
    | false => none
def stat (ops : Array Oper) : Option (List Nat) := statGo ops ops.toList [] [] 0
def dynOk : List Nat → List Nat → Nat → Nat → Nat → Bool
  | [], [], _, _, _ => true
  | f :: fl, m :: ms, W, D, j => match f with
    | 0 => dynOk fl ms W D (j + 1)
    | 1 => Nat.beq (W &&& m) W && dynOk fl ms W (D ||| 2 ^ j) (j + 1)
    | _ => Nat.beq (D &&& m) D && dynOk fl ms (W ||| 2 ^ j) (D ||| 2 ^ j) (j + 1)
  | _, _, _, _, _ => false
def drawF (ops : Array Oper) (fl : List Nat) : Bool := match stat ops with
  | some ms => dynOk fl ms 0 0 0
  | none => false
def stepB (acc : Array Nat) (o : Oper) : Array Nat := acc.push (o.after.foldl (fun s e => if Region.binds .any e then s ||| 2 ^ e.on ||| acc.getD e.on 0 else s) 0)
theorem before_eq (ops : Array Oper) : Region.before ops = ops.toList.foldl stepB #[] := by
  unfold Region.before
  rw [← Array.foldl_toList]
  rfl
theorem rev_getD {R : List Nat} {acc : Array Nat} {j i : Nat} (h : acc.toList = R.reverse) (hj : R.length = j) (hi : i < j) : R.getD (j - 1 - i) 0 = acc.getD i 0 := by
  have e : acc = ⟨R.reverse⟩ := by cases acc; simpa using h
  subst e
  have h1 : j - 1 - i < R.length := by omega
  have h2 : i < R.reverse.length := by simp; omega
  rw [List.getD_eq_getElem?_getD, List.getElem?_eq_getElem h1]
  simp only [Array.getD, List.size_toArray, h2, dif_pos, Option.getD_some]
  have h3 : (⟨R.reverse⟩ : Array Nat).getInternal i h2 = R.reverse[i] := rfl
  rw [h3, List.getElem_reverse]
  congr 1
  omega
theorem mskE_ok {R : List Nat} {acc : Array Nat} {j : Nat} (h : acc.toList = R.reverse) (hj : R.length = j) : ∀ (es : List Edge) (s : Nat), edgeOk j es = true → mskE R j es s = es.foldl (fun s e => if Region.binds .any e then s ||| 2 ^ e.on ||| acc.getD e.on 0 else s) s
  | [], s, _ => rfl
  | e :: es, s, he => by
    unfold edgeOk at he
    unfold mskE
    rw [List.foldl_cons]
    split at he
    · rename_i hb
      simp only [Bool.and_eq_true] at he
      have hlt : e.on < j := by simpa [Nat.blt_eq] using he.1
      rw [hb]
      simp only [if_true]
      rw [rev_getD h hj hlt]
      exact mskE_ok h hj es _ he.2
    · rename_i hb
      rw [hb]
      simp only [Bool.false_eq_true, if_false]
      exact mskE_ok h hj es _ he
theorem edgeOk_ok {j : Nat} : ∀ {es : List Edge}, edgeOk j es = true → ∀ e ∈ es, Region.binds .any e = true → e.on < j
  | e :: es, he, x, hx, hb => by
    unfold edgeOk at he
    rcases List.mem_cons.1 hx with rfl | hx
    · rw [hb] at he
      simp only [Bool.and_eq_true] at he
      simpa [Nat.blt_eq] using he.1
    · split at he
      · simp only [Bool.and_eq_true] at he
        exact edgeOk_ok he.2 x hx hb
      · exact edgeOk_ok he x hx hb
theorem prevOk_ok {m : Nat} {dj : Option Tmp} {lj : List Tmp} : ∀ {pv : List (Option Tmp × List Tmp)} {j : Nat}, pv.length = j → prevOk m dj lj pv j = true → ∀ i (x : Option Tmp × List Tmp), pv.reverse[i]? = some x → meets x.1 dj x.2 lj = true → m.testBit i = true
  | [], j, _, _, i, x, hx, _ => by simp at hx
  | (di, li) :: r, j, hl, h, i, x, hx, hm => by
    unfold prevOk at h
    have hl' : r.length = j - 1 := by simp at hl; omega
    rw [List.reverse_cons] at hx
    rcases Nat.lt_or_ge i r.length with hi | hi
    · rw [List.getElem?_append_left (by simpa using hi)] at hx
      split at h
      · simp only [Bool.and_eq_true] at h
        exact prevOk_ok hl' h.2 i x hx hm
      · exact prevOk_ok hl' h i x hx hm
    · have hi2 : i = r.length := by
        have := (List.getElem?_eq_some_iff.1 hx).1
        simp at this; omega
      subst hi2
      rw [List.getElem?_append_right (by simp)] at hx
      simp at hx
      subst hx
      rw [hm] at h
      simp only [Bool.and_eq_true] at h
      rw [hl']
      exact h.1
theorem statGo_ok {ops : Array Oper} : ∀ (l pre : List Oper) (pv : List (Option Tmp × List Tmp)) (R : List Nat) (j : Nat) (ms : List Nat), statGo ops l pv R j = some ms → pre.length = j →
    pv = (pre.map fun o => (o.dst, o.looksAt ops)).reverse → (pre.foldl stepB #[]).toList = R.reverse → R.length = j →
    ((pre ++ l).foldl stepB #[]).toList = R.reverse ++ ms ∧ ms.length = l.length ∧
    ∀ k o m, l[k]? = some o → ms[k]? = some m → edgeOk (j + k) o.after.toList = true ∧ ∀ i oi, i < j + k → (pre ++ l)[i]? = some oi → meets oi.dst o.dst (oi.looksAt ops) (o.looksAt ops) = true → m.testBit i = true
  | [], pre, pv, R, j, ms, h, hj, hp, hR, hl => by
    simp only [statGo, Option.some.injEq] at h
    subst h
    exact ⟨by simpa using hR, rfl, fun k o m hk => by simp at hk⟩
  | o :: l, pre, pv, R, j, ms, h, hj, hp, hR, hl => by
    unfold statGo at h
    split at h
    · rename_i hc
      simp only [Bool.and_eq_true] at hc
      split at h
      · rename_i ms' hrec
        cases h
        have hm := mskE_ok (acc := pre.foldl stepB #[]) hR hl o.after.toList 0 hc.1
        have hstep : ((pre ++ [o]).foldl stepB #[]).toList = (mskE R j o.after.toList 0 :: R).reverse := by
          rw [List.foldl_append, List.foldl_cons, List.foldl_nil, List.reverse_cons, ← hR, hm, Array.foldl_toList]
          simp [stepB]
        obtain ⟨q1, q2, q3⟩ := statGo_ok l (pre ++ [o]) _ _ (j + 1) ms' hrec (by simp [hj]) (by rw [hp]; simp) hstep (by simp [hl])
        refine ⟨by rw [List.append_assoc] at q1; simpa using q1, by simp [q2], fun k o' m' hk hm' => ?_⟩
        cases k with
        | zero =>
          simp only [List.getElem?_cons_zero, Option.some.injEq] at hk hm'
          subst hk hm'
          refine ⟨hc.1, fun i oi hi hoi hmt => ?_⟩
          have hpl : pv.length = j := by rw [hp]; simp [hj]
          refine prevOk_ok hpl hc.2 i (oi.dst, oi.looksAt ops) ?_ hmt
          rw [hp, List.reverse_reverse, List.getElem?_map]
          rw [List.getElem?_append_left (by omega)] at hoi
          rw [hoi]; rfl
        | succ k =>
          simp only [List.getElem?_cons_succ] at hk hm'
          obtain ⟨r1, r2⟩ := q3 k o' m' hk hm'
          rw [show j + (k + 1) = j + 1 + k by omega]
          exact ⟨r1, fun i oi hi hoi hmt => r2 i oi hi (by rw [List.append_assoc]; exact hoi) hmt⟩
      · cases h
    · cases h
theorem and_testBit {W m i : Nat} (h : Nat.beq (W &&& m) W = true) (hw : W.testBit i = true) : m.testBit i = true := by
  have e : W &&& m = W := Nat.eq_of_beq_eq_true h
  have : (W &&& m).testBit i = true := by rw [e]; exact hw
  rw [Nat.testBit_and, Bool.and_eq_true] at this
  exact this.2
theorem or_testBit {W i j : Nat} (h : W.testBit i = true ∨ i = j) : (W ||| 2 ^ j).testBit i = true := by
  rw [Nat.testBit_or]
  rcases h with h | rfl
  · simp [h]
  · simp
theorem dynOk_ok : ∀ (fl ms : List Nat) (W D j : Nat), (∀ i, W.testBit i = true → D.testBit i = true) → dynOk fl ms W D j = true → fl.length = ms.length ∧ ∀ (k f m : Nat), fl[k]? = some f → ms[k]? = some m →
    (1 ≤ f → ∀ i, W.testBit i = true → m.testBit i = true) ∧ (2 ≤ f → ∀ i, D.testBit i = true → m.testBit i = true) ∧
    (∀ (i fi : Nat), i < k → fl[i]? = some fi → (2 ≤ fi ∧ 1 ≤ f) ∨ (2 ≤ f ∧ 1 ≤ fi) → m.testBit (j + i) = true)
  | [], [], W, D, j, _, _ => ⟨rfl, fun k f m hk => by simp at hk⟩
  | f :: fl, m :: ms, W, D, j, hWD, h => by
    have key : ∀ (W' D' : Nat), (∀ i, W.testBit i = true → W'.testBit i = true) → (∀ i, D.testBit i = true → D'.testBit i = true) → (∀ i, W'.testBit i = true → D'.testBit i = true) → (2 ≤ f → W'.testBit j = true) → (1 ≤ f → D'.testBit j = true) →
        (1 ≤ f → ∀ i, W.testBit i = true → m.testBit i = true) → (2 ≤ f → ∀ i, D.testBit i = true → m.testBit i = true) → dynOk fl ms W' D' (j + 1) = true →
        (f :: fl).length = (m :: ms).length ∧ ∀ (k f' m' : Nat), (f :: fl)[k]? = some f' → (m :: ms)[k]? = some m' →
          (1 ≤ f' → ∀ i, W.testBit i = true → m'.testBit i = true) ∧ (2 ≤ f' → ∀ i, D.testBit i = true → m'.testBit i = true) ∧
          (∀ (i fi : Nat), i < k → (f :: fl)[i]? = some fi → (2 ≤ fi ∧ 1 ≤ f') ∨ (2 ≤ f' ∧ 1 ≤ fi) → m'.testBit (j + i) = true) := by
      intro W' D' hW hD hWD' hWj hDj h1 h2 hr
      obtain ⟨q1, q2⟩ := dynOk_ok fl ms W' D' (j + 1) hWD' hr
      refine ⟨by simp [q1], fun k f' m' hk hm => ?_⟩
      cases k with
      | zero =>
        simp only [List.getElem?_cons_zero, Option.some.injEq] at hk hm
        subst hk hm
        exact ⟨h1, h2, fun i fi hi => by omega⟩
      | succ k =>
        simp only [List.getElem?_cons_succ] at hk hm
        obtain ⟨r1, r2, r3⟩ := q2 k f' m' hk hm
        refine ⟨fun hf i hi => r1 hf i (hW i hi), fun hf i hi => r2 hf i (hD i hi), fun i fi hi hfi hc => ?_⟩
        cases i with
        | zero =>
          simp only [List.getElem?_cons_zero, Option.some.injEq] at hfi
          subst hfi
          rw [Nat.add_zero]
          rcases hc with ⟨c1, c2⟩ | ⟨c1, c2⟩
          · exact r1 c2 j (hWj c1)
          · exact r2 c1 j (hDj c2)
        | succ i =>
          simp only [List.getElem?_cons_succ] at hfi
          have := r3 i fi (by omega) hfi hc
          rwa [show j + (i + 1) = j + 1 + i by omega]
    match f, h, key with
    | 0, h, key => exact key W D (fun _ h => h) (fun _ h => h) hWD (by omega) (by omega) (by omega) (by omega) (by simpa only [dynOk] using h)
    | 1, h, key =>
      simp only [dynOk, Bool.and_eq_true] at h
      exact key W _ (fun _ h => h) (fun _ h => or_testBit (.inl h)) (fun i hi => or_testBit (.inl (hWD i hi))) (by omega) (fun _ => or_testBit (.inr rfl)) (fun _ i hi => and_testBit h.1 hi) (by omega) h.2
    | f + 2, h, key =>
      simp only [dynOk, Bool.and_eq_true] at h
      have hD : ∀ i, D.testBit i = true → m.testBit i = true := fun i hi => and_testBit h.1 hi
      refine key _ _ (fun _ h => or_testBit (.inl h)) (fun _ h => or_testBit (.inl h)) (fun i hi => ?_) (fun _ => or_testBit (.inr rfl)) (fun _ => or_testBit (.inr rfl)) (fun _ i hi => hD i (hWD i hi)) (fun _ => hD) h.2
      rw [Nat.testBit_or, Bool.or_eq_true] at hi
      rw [Nat.testBit_or, Bool.or_eq_true]
      exact hi.imp (hWD i) id
  | [], _ :: _, _, _, _, _, h => by simp [dynOk] at h
  | _ :: _, [], _, _, _, _, h => by simp [dynOk] at h
theorem foldl_edges {acc : Array Nat} {i : Nat} : ∀ (es : List Edge) (s : Nat), (es.foldl (fun s e => if Region.binds .any e then s ||| 2 ^ e.on ||| acc.getD e.on 0 else s) s).testBit i = true → s.testBit i = true ∨ ∃ e ∈ es, Region.binds .any e = true ∧ (e.on = i ∨ (acc.getD e.on 0).testBit i = true)
  | [], s, h => .inl h
  | e :: es, s, h => by
    rw [List.foldl_cons] at h
    rcases foldl_edges es _ h with h1 | ⟨x, hx, h2⟩
    · split at h1
      · rename_i hb
        rw [Nat.testBit_or, Bool.or_eq_true, Nat.testBit_or, Bool.or_eq_true] at h1
        rcases h1 with (h1 | h1) | h1
        · exact .inl h1
        · refine .inr ⟨e, List.mem_cons_self .., hb, .inl ?_⟩
          rw [Nat.testBit_two_pow] at h1
          simpa using h1
        · exact .inr ⟨e, List.mem_cons_self .., hb, .inr h1⟩
      · exact .inl h1
    · exact .inr ⟨x, List.mem_cons_of_mem _ hx, h2⟩
theorem foldB_size : ∀ (l : List Oper) (acc : Array Nat), (l.foldl stepB acc).size = acc.size + l.length
  | [], acc => by simp
  | o :: l, acc => by rw [List.foldl_cons, foldB_size l]; simp [stepB]; omega
theorem foldB_old : ∀ (l : List Oper) (acc : Array Nat) (i : Nat), i < acc.size → (l.foldl stepB acc).getD i 0 = acc.getD i 0
  | [], _, _, _ => rfl
  | o :: l, acc, i, hi => by
    rw [List.foldl_cons, foldB_old l _ i (by simp [stepB]; omega)]
    unfold stepB
    simp only [Array.getD_eq_getD_getElem?]
    rw [Array.getElem?_push, if_neg (by omega)]
theorem stepB_at (acc : Array Nat) (o : Oper) : (stepB acc o).getD acc.size 0 = o.after.toList.foldl (fun s e => if Region.binds .any e then s ||| 2 ^ e.on ||| acc.getD e.on 0 else s) 0 := by
  unfold stepB
  rw [Array.getD_eq_getD_getElem?, Array.getElem?_push_size, Option.getD_some, ← Array.foldl_toList]
theorem drawF_ok {ops : Array Oper} {fl : List Nat} (h : drawF ops fl = true) : drawOk ops fl (Region.before ops) = true := by
  unfold drawF at h
  split at h
  · rename_i ms hst
    obtain ⟨q1, q2, q3⟩ := statGo_ok ops.toList [] [] [] 0 ms hst rfl rfl rfl rfl
    obtain ⟨r1, r2⟩ := dynOk_ok fl ms 0 0 0 (fun i hi => by simp at hi) h
    have hB : (Region.before ops).toList = ms := by rw [before_eq]; simpa using q1
    have hbit : ∀ i j m, ms[j]? = some m → bit (Region.before ops) i j = m.testBit i := by
      intro i j m hm
      unfold bit
      have e : Region.before ops = ⟨ms⟩ := by rw [← hB]
      rw [e, Array.getD_eq_getD_getElem?]
      simp [hm]
    unfold drawOk
    rw [List.all_eq_true]
    intro j hj
    rw [List.mem_range] at hj
    obtain ⟨oj, hoj⟩ : ∃ o, ops[j]? = some o := ⟨_, Array.getElem?_eq_getElem hj⟩
    have hoj' : ops.toList[j]? = some oj := by simpa using hoj
    obtain ⟨mj, hmj⟩ : ∃ m, ms[j]? = some m := ⟨_, List.getElem?_eq_getElem (by rw [q2]; simpa using hj)⟩
    obtain ⟨fj, hfj⟩ : ∃ f, fl[j]? = some f := ⟨_, List.getElem?_eq_getElem (by rw [r1, q2]; simpa using hj)⟩
    obtain ⟨e1, e2⟩ := q3 j oj mj hoj' hmj
    rw [Nat.zero_add] at e1 e2
    obtain ⟨_, _, d3⟩ := r2 j fj mj hfj hmj
    rw [hoj]
    dsimp only
    rw [Bool.and_eq_true]
    have hedge : ∀ e ∈ oj.after, Region.binds .any e = true → e.on < j := fun e he hb => edgeOk_ok e1 e (by simpa using he) hb
    refine ⟨?_, ?_⟩
    · rw [Array.all_eq_true_iff_forall_mem]
      intro e he
      rw [Bool.or_eq_true]
      cases hb : Region.binds .any e with
      | false => exact .inl rfl
      | true => exact .inr (decide_eq_true (hedge e he hb))
    · rw [List.all_eq_true]
      intro i hi
      rw [List.mem_range] at hi
      obtain ⟨oi, hoi⟩ : ∃ o, ops[i]? = some o := ⟨_, Array.getElem?_eq_getElem hi⟩
      have hoi' : ops.toList[i]? = some oi := by simpa using hoi
      obtain ⟨fi, hfi⟩ : ∃ f, fl[i]? = some f := ⟨_, List.getElem?_eq_getElem (by rw [r1, q2]; simpa using hi)⟩
      rw [hoi]
      dsimp only
      rw [Bool.and_eq_true]
      refine ⟨?_, ?_⟩
      · rw [Bool.or_eq_true]
        cases hb : bit (Region.before ops) i j with
        | false => exact .inl rfl
        | true =>
          refine .inr ?_
          have hsp : ops.toList = ops.toList.take j ++ (oj :: ops.toList.drop (j + 1)) := by
            obtain ⟨h3, h4⟩ := List.getElem?_eq_some_iff.1 hoj'
            rw [← h4, ← List.drop_eq_getElem_cons h3, List.take_append_drop]
          have hsz : ((ops.toList.take j).foldl stepB #[]).size = j := by
            rw [foldB_size]; simp; omega
          have hBj : (Region.before ops).getD j 0 = oj.after.toList.foldl (fun s e => if Region.binds .any e then s ||| 2 ^ e.on ||| ((ops.toList.take j).foldl stepB #[]).getD e.on 0 else s) 0 := by
            rw [before_eq]
            conv => lhs; rw [hsp]
            rw [List.foldl_append, List.foldl_cons, foldB_old _ _ _ (by simp [stepB, hsz])]
            have := stepB_at ((ops.toList.take j).foldl stepB #[]) oj
            rwa [hsz] at this
          unfold bit at hb
          rw [hBj] at hb
          rcases foldl_edges _ _ hb with h0 | ⟨e, he, hbe, h5⟩
          · simp at h0
          · rw [Array.any_eq_true']
            refine ⟨e, by simpa using he, ?_⟩
            rw [Bool.and_eq_true, Bool.or_eq_true]
            refine ⟨hbe, ?_⟩
            rcases h5 with h5 | h5
            · exact .inl (by simpa using h5)
            · refine .inr ?_
              unfold bit
              rw [before_eq, hsp, List.foldl_append, foldB_old _ _ _ (by rw [hsz]; exact hedge e (by simpa using he) hbe)]
              exact h5
      · rw [hbit i j mj hmj]
        cases hlt : decide (i < j) with
        | false => rfl
        | true =>
          have hlt' : i < j := of_decide_eq_true hlt
          cases hc : (clash ops fl i j oi oj || clash ops fl j i oj oi) with
          | false => rfl
          | true =>
            have goal : mj.testBit i = true := by
              cases hm : meets oi.dst oj.dst (oi.looksAt ops) (oj.looksAt ops) with
              | true => exact e2 i oi hlt' (by simpa using hoi') hm
              | false =>
                have gfi : fl.getD i 2 = fi := by rw [List.getD_eq_getElem?_getD, hfi]; rfl
                have gfj : fl.getD j 2 = fj := by rw [List.getD_eq_getElem?_getD, hfj]; rfl
                have hc2 : (2 ≤ fi ∧ 1 ≤ fj) ∨ (2 ≤ fj ∧ 1 ≤ fi) := by
                  unfold meets at hm
                  unfold clash at hc
                  rw [gfi, gfj] at hc
                  rcases Nat.lt_or_ge fi 2 with a1 | a1 <;> rcases Nat.lt_or_ge fi 1 with a2 | a2 <;> rcases Nat.lt_or_ge fj 2 with a3 | a3 <;> rcases Nat.lt_or_ge fj 1 with a4 | a4 <;> first | omega | skip
                  all_goals
                    exfalso
                    have z1 : (decide (fi ≥ 2) && decide (fj ≥ 1)) = false := by simp; omega
                    have z2 : (decide (fj ≥ 2) && decide (fi ≥ 1)) = false := by simp; omega
                    rw [z1, z2] at hc
                    cases hdi : oi.dst with
                    | none => cases hdj : oj.dst with
                      | none => simp [hdi, hdj] at hc
                      | some q => simp [hdi, hdj] at hc hm; exact hm hc
                    | some p => cases hdj : oj.dst with
                      | none => simp [hdi, hdj] at hc hm; exact hm hc
                      | some q =>
                        simp [hdi, hdj] at hc hm
                        rcases hc with hc | hc
                        · rcases hc with (hc | hc) | hc
                          · exact hm.1.1 hc
                          · exact hm.1.2 hc
                          · exact hm.2 hc
                        · rcases hc with (hc | hc) | hc
                          · exact hm.2 hc
                          · exact hm.1.2 hc.symm
                          · exact hm.1.1 hc
                have := d3 i fi hlt' hfi hc2
                rwa [Nat.zero_add] at this
            rw [goal]; rfl
  · cases h
end Go.AV
namespace Go.AV
open Go.RowKit
def zeroDV : Value → Option DV
  | .agg vs => if vs.toList.all plain = true then some (.agg (vs.toList.map .v)) else none
  | v => if plain v = true then some (.v v) else none
theorem zeroDV_ok {z : Value} {d : DV} (h : zeroDV z = some d) (m : Mem) : RepD m z d := by
  unfold zeroDV at h
  split at h
  · rename_i vs
    split at h
    · rename_i hp
      cases h
      refine .agg _ _ (by simp) (fun c hc => ?_) (fun i hi => ?_)
      · obtain ⟨v, _, rfl⟩ := List.mem_map.1 hc
        rfl
      · have hi' : i < vs.size := by simpa using hi
        simp only [List.getElem_map, Array.getElem_toList]
        have : vs.getD i undef = vs[i] := by simp [hi']
        rw [this]
        exact .v _ (List.all_eq_true.1 hp _ (by simp))
    · cases h
  · split at h
    · rename_i hp; cases h; exact .v _ hp
    · cases h
def strong (E : Operand → AV) : Operand → AV
  | .const v => match zeroDV v with
    | some d => .d d
    | none => E (.const v)
  | x => E x
theorem opR_strong {P : Program} [Wins P] {o : Oper} {E : Operand → AV} {H : HS} {R : AV → HS → Prop} (h : OpR P o (strong E) H R) : OpR P o E H R := by
  intro B w0 c w a t hI hB hops
  refine h B w0 c w a t hI hB fun x hx => ?_
  have h0 := hops x hx
  cases x with
  | const v =>
    simp only [strong]
    split
    · rename_i d hd
      exact .d (zeroDV_ok hd _)
    · exact h0
  | _ => exact h0
inductive Info where
  | pure
  | read
  | write (low : Nat) (mt : Bool)
def big : Nat := 1000000000
def Info.low : Info → Nat
  | .write l _ => l
  | _ => big
def Info.mt : Info → Bool
  | .write _ b => b
  | _ => false
def Info.any : Info → Bool
  | .write .. => true
  | _ => false
structure Frm (low : Nat) (mt : Bool) (H H' : HS) : Prop where
  blk : ∀ i, i < low → i < H.blks.length → H'.blks[i]? = H.blks[i]?
  len : H.blks.length ≤ H'.blks.length
  rest : mt = false → H'.toks = H.toks ∧ H'.maps = H.maps
  x : H'.x = H.x
  map : ∀ i, i < H.maps.length → H'.maps[i]? = H.maps[i]?
theorem Frm.refl (low : Nat) (mt : Bool) (H : HS) : Frm low mt H H := ⟨fun _ _ _ => rfl, Nat.le_refl _, fun _ => ⟨rfl, rfl⟩, rfl, fun _ _ => rfl⟩
theorem Frm.trans {l1 l2 : Nat} {m1 m2 : Bool} {a b c : HS} (h : Frm l1 m1 a b) (k : Frm l2 m2 b c) : Frm (min l1 l2) (m1 || m2) a c :=
  ⟨fun i hi hl => (k.blk i (by omega) (Nat.lt_of_lt_of_le hl h.len)).trans (h.blk i (by omega) hl), Nat.le_trans h.len k.len, fun hm => by
    simp only [Bool.or_eq_false_iff] at hm
    obtain ⟨q1, q2⟩ := h.rest hm.1
    obtain ⟨q3, q4⟩ := k.rest hm.2
    exact ⟨q3.trans q1, q4.trans q2⟩, k.x.trans h.x, fun i hi => by
    have h1 := h.map i hi
    have hb : i < b.maps.length := by
      rw [List.getElem?_eq_getElem hi] at h1
      exact (List.getElem?_eq_some_iff.1 h1).1
    exact (k.map i hb).trans h1⟩
structure Eff (any : Bool) (low : Nat) (mt : Bool) (H H' : HS) : Prop where
  same : any = false → H' = H
  frm : Frm low mt H H'
theorem Eff.refl (low : Nat) (mt : Bool) (H : HS) : Eff false low mt H H := ⟨fun _ => rfl, .refl _ _ _⟩
theorem Eff.trans {a1 a2 : Bool} {l1 l2 : Nat} {m1 m2 : Bool} {a b c : HS} (h : Eff a1 l1 m1 a b) (k : Eff a2 l2 m2 b c) : Eff (a1 || a2) (min l1 l2) (m1 || m2) a c :=
  ⟨fun hm => by
    simp only [Bool.or_eq_false_iff] at hm
    exact (k.same hm.2).trans (h.same hm.1), h.frm.trans k.frm⟩
structure Reck (P : Program) [Wins P] where
  pure : Oper → (Operand → AV) → Option AV
  read : Oper → (Operand → AV) → HS → Option AV
  full : Oper → (Operand → AV) → HS → Option (AV × HS × Nat × Bool)
  funcs : FuncId → Option Func
  isX : FuncId → Bool
  known : FuncId → List AV → HS → Option (AV × HS × Nat × Bool)
  pure_ok : ∀ o E v, pure o E = some v → ∀ H, OpR P o E H (Ret v H)
  read_ok : ∀ o E H v, read o E H = some v → OpR P o E H (Ret v H)
  full_ok : ∀ o E H v H' low mt, full o E H = some (v, H', low, mt) → OpR P o E H (Ret v H') ∧ Frm low mt H H'
  mixed_ok : P.follows .mixedOrders = true
  funcs_ok : ∀ f fn, funcs f = some fn → P.funcs[f]? = some fn ∧ (fn.name == "runtime.NumGoroutine") = false
  known_ok : ∀ f args H v H' low mt, known f args H = some (v, H', low, mt) → ACalls P f args H (Ret v H') ∧ Frm low mt H H' ∧ ∃ fn, P.funcs[f]? = some fn ∧ (fn.name == "runtime.NumGoroutine") = false ∧ fn.body.isNone = false
inductive Ex where
  | normal
  | exit (id : Nat)
  | ret
def Ex.exit' : Ex → Exit
  | .normal => .normal
  | .exit id => .exit id
  | .ret => .ret
abbrev CR := Option (AV × HS × Bool × Nat × Bool)
abbrev XR := Option (Ex × List AV × HS × Bool × Nat × Bool)
structure Rec where
  info : Info
  T : List AV
  H : HS
  v : AV
  on : Bool
section
variable {P : Program} [Wins P] (K : Reck P)
def guardE (ops : Array Oper) (o : Oper) (T : List AV) : Option Bool :=
  match o.guard with
  | none => some true
  | some (g, want) => match (ops[g]?).bind (·.dst) with
    | none => none
    | some d => match T[d]? with
      | some (.d (.v (.bool x))) => some (x == want)
      | some .nv => some false
      | _ => none
def callE (call : AV → List AV → HS → CR) (o : Oper) (E : Operand → AV) (H : HS) : CR :=
  match o.op with
  | .call ⟨.value fo, args, _⟩ => call (E fo) (args.toList.map E) H
  | _ => none
def opE (call : AV → List AV → HS → CR) (o : Oper) (E : Operand → AV) (H : HS) : Option (AV × HS × Info) :=
  match K.pure o E with
  | some v => some (v, H, .pure)
  | none => match K.read o E H with
    | some v => some (v, H, .read)
    | none => match K.full o E H with
      | some (v, H', low, mt) => some (v, H', .write low mt)
      | none => match callE call o E H with
        | some (v, H', any, low, mt) => match any with
          | true => some (v, H', .write low mt)
          | false => some (v, H, .read)
        | none => none
def opsE (call : AV → List AV → HS → CR) (ops : Array Oper) : List Oper → List AV → HS → Option (List AV × HS × List Rec)
  | [], T, H => some (T, H, [])
  | o :: l, T, H => match guardE ops o T with
    | none => none
    | some false => putK T o.dst .nv fun T1 => match opsE call ops l T1 H with
      | some (T', H', rs) => some (T', H', ⟨.pure, T, H, .nv, false⟩ :: rs)
      | none => none
    | some true => match opE K call o (strong (evalT T)) H with
      | none => none
      | some (v, H1, i) => forceA v fun v => putK T o.dst v fun T1 => match opsE call ops l T1 H1 with
        | some (T', H', rs) => some (T', H', ⟨i, T, H, v, true⟩ :: rs)
        | none => none
def flagA (r : Rec) : Nat := match r.info with
  | .pure => 0
  | .read => 1
  | .write .. => 2
def recheck (call : AV → List AV → HS → CR) (o : Oper) (r : Rec) (S : HS) : Bool :=
  match opE K call o (strong (evalT r.T)) S with
  | some (v, _, i) => !i.any && beqA v r.v
  | none => false
def flagB (call : AV → List AV → HS → CR) (states : List HS) (o : Oper) (r : Rec) : Nat := match r.info with
  | .pure => 0
  | .read => if states.all (recheck K call o r) then 0 else 1
  | .write .. => 2
def flagsB (call : AV → List AV → HS → CR) (states : List HS) : List Oper → List Rec → List Nat
  | o :: l, r :: rs => flagB K call states o r :: flagsB call states l rs
  | _, _ => []
def anyR (rs : List Rec) : Bool := rs.foldr (fun r b => r.info.any || b) false
def lowR (rs : List Rec) : Nat := rs.foldr (fun r n => min r.info.low n) big
def mtR (rs : List Rec) : Bool := rs.foldr (fun r b => r.info.mt || b) false
def outX (T : List AV) (H : HS) (rs : List Rec) : XR := match anyR rs with
  | true => forceH H fun H => some (.normal, T, H, anyR rs, lowR rs, mtR rs)
  | false => some (.normal, T, H, anyR rs, lowR rs, mtR rs)
theorem outX_eq (T : List AV) (H : HS) (rs : List Rec) : outX T H rs = some (.normal, T, H, anyR rs, lowR rs, mtR rs) := by
  unfold outX
  split
  · rw [forceH_eq]
  · rfl
def res1E (T : List AV) (H : HS) : ResultVar → Option AV
  | .tmp t => T[t]?
  | .cell a ty => match P.underlying ty, T[a]? with
    | some d, some (.ptr id off) => match H.blks[id]? with
      | some b => match notAgg d with
        | true => b.cs[off]?
        | false => match (P.info? ty).map (·.size) with
          | some n => if off + n ≤ b.cs.length then some (.agg ((b.cs.drop off).take n)) else none
          | none => none
      | none => none
    | _, _ => none
def resE (rs : Array ResultVar) (T : List AV) (H : HS) : Option AV :=
  match rs.toList with
  | [] => some (.tup [])
  | [r] => res1E (P := P) T H r
  | [r, s] => match res1E (P := P) T H r, res1E (P := P) T H s with
    | some x, some y => some (.tup [x, y])
    | _, _ => none
  | [r, s, q] => match res1E (P := P) T H r, res1E (P := P) T H s, res1E (P := P) T H q with
    | some x, some y, some z => some (.tup [x, y, z])
    | _, _, _ => none
  | _ => none
def plainX (ex : Code → List AV → HS → XR) (fn : Func) (args : List AV) (H : HS) : CR :=
  match fn.body with
  | some k => forceAs (args ++ List.replicate (fn.ntmps - args.length) .un) fun T => match ex k T H with
    | some (.exit _, _, _) => none
    | some (_, T', H', any, low, mt) => match resE (P := P) fn.results T' H' with
      | some v => if any = true ∧ H.blks.length ≤ low ∧ mt = false ∧ fitsB H.blks.length H.toks.length v = true then some (v, H, false, big, false) else some (v, H', any, low, mt)
      | none => none
    | none => none
  | none => none
def callP (ex : Code → List AV → HS → XR) (f : FuncId) (args : List AV) (H : HS) : CR :=
  match K.known f args H with
  | some (v, H', low, mt) => some (v, H', true, low, mt)
  | none => match K.funcs f with
    | some fn => plainX (P := P) ex fn args H
    | none => none
abbrev XC := Option (Ex × List AV × HS × List DD × Nat)
def rangeX (ex : Code → List AV → HS → XR) (g : Operand) (ps : Array Tmp) (asg bd : Code) (T : List AV) (H : HS) (D : List DD) : XC :=
  match evalT T g with
  | .fn (.func gf) [] cs => match callP K ex gf (.fn (.yield 0) [] [.iter (H.maps.length + 1)] :: cs) ((H.pushM (.obj (.deferred (some [])))).pushM (.rnd ps asg bd .ready none T)) with
    | some (_, S, _, l, _) => some (.normal, T, S.setM (H.maps.length + 1) (.rnd ps asg bd .exhausted none T), .col H.maps.length :: D, l)
    | none => none
  | _ => none
def deferX (ops : Array Oper) (T : List AV) (H : HS) (D : List DD) : XC :=
  match ops.toList.getLast? with
  | some ⟨dst, .defer ⟨.value fo, args, _⟩, _, _, _, none⟩ => if ops.toList.dropLast.all (fun o => o.guard.isNone) = true then match opsE K (fun _ _ _ => none) ops ops.toList.dropLast T H with
      | some (T1, H1, rs) => match evalT T1 fo with
        | .fn (.func f) fs cs => some (.normal, putT T1 dst .nv, H1, .call f (fs ++ args.toList.map (evalT T1)) cs :: D, lowR rs)
        | _ => none
      | none => none
    else none
  | _ => none
def plainC (ex : Code → List AV → HS → XR) (k : Code) (T : List AV) (H : HS) (D : List DD) : XC :=
  match ex k T H with
  | some (e, T', H', _, l, _) => some (e, T', H', D, l)
  | none => none
def xcode (ex : Code → List AV → HS → XR) : Code → List AV → HS → List DD → XC
  | .seq x y, T, H, D => match xcode ex x T H D with
    | some (.normal, T1, H1, D1, l1) => forceAs T1 fun T1 => forceH H1 fun H1 => match xcode ex y T1 H1 D1 with
      | some (e, T2, H2, D2, l2) => some (e, T2, H2, D2, min l1 l2)
      | none => none
    | r => r
  | .cond c x y, T, H, D => match evalT T c with
    | .d (.v (.bool true)) => xcode ex x T H D
    | .d (.v (.bool false)) => xcode ex y T H D
    | _ => none
  | .block id x, T, H, D => match xcode ex x T H D with
    | some (.exit i, r) => if i = id then some (.normal, r) else some (.exit i, r)
    | r => r
  | .region id ops false, T, H, D => match plainC ex (.region id ops false) T H D with
    | some r => some r
    | none => deferX K ops T H D
  | .rangeFunc g ps asg bd, T, H, D => rangeX K ex g ps asg bd T H D
  | k, T, H, D => plainC ex k T H D
def dendX (ex : Code → List AV → HS → XR) : List DD → HS → Option (HS × Nat)
  | [], H => some (H, big)
  | .col idx :: ds, H => match H.maps[idx]? with
    | some (.obj (.deferred (some []))) => dendX ex ds (H.setM idx (.obj (.deferred none)))
    | _ => none
  | .call f args cs :: ds, H => match callP K ex f (args ++ cs) H with
    | some (_, H', _, l, _) => match dendX ex ds H' with
      | some (H2, l2) => some (H2, min l l2)
      | none => none
    | none => none
def colsOk (n : Nat) : List DD → Bool
  | [] => true
  | .col i :: ds => decide (n ≤ i) && colsOk n ds
  | _ :: ds => colsOk n ds
def xbody (ex : Code → List AV → HS → XR) (fn : Func) (args : List AV) (H : HS) : CR :=
  match fn.body with
  | some k => match xcode K ex k (args ++ List.replicate (fn.ntmps - args.length) .un) H [] with
    | some (.exit _, _) => none
    | some (_, T', H', D', l1) => if colsOk H.maps.length D' = true then match dendX K ex D' H' with
        | some (H2, l2) => match resE (P := P) fn.results T' H2 with
          | some v => some (v, H2, true, min l1 l2, true)
          | none => none
        | none => none
      else none
    | none => none
  | none => none
def callX (ex : Code → List AV → HS → XR) (f : FuncId) (args : List AV) (H : HS) : CR :=
  match K.isX f with
  | false => callP K ex f args H
  | true => match K.funcs f with
    | some fn => xbody K ex fn args H
    | none => none
def yieldX (ex : Code → List AV → HS → XR) (idx : Nat) (vx vy : AV) (H : HS) : CR :=
  match H.maps[idx]? with
  | some (.rnd ⟨[p, q]⟩ asg bd .ready none T) => forceAs (putT (putT T (some p) vx) (some q) vy) fun T2 => match ex asg T2 H with
    | some (.normal, T1, H1, _, l1, false) => match ex bd T1 (H1.setM idx (.rnd #[p, q] asg bd .busy none T)) with
      | some (.normal, _, H2, _, l2, _) => some (.d (TF true), H2.setM idx (.rnd #[p, q] asg bd .ready none T), true, min l1 l2, true)
      | _ => none
    | _ => none
  | _ => none
def callV (ex : Code → List AV → HS → XR) (fv : AV) (args : List AV) (H : HS) : CR :=
  match fv with
  | .fn (.func f) fs cs => callX K ex f (fs ++ args ++ cs) H
  | .fn (.yield 0) [] [.iter idx] => match args with
    | [vx, vy] => yieldX ex idx vx vy H
    | _ => none
  | _ => none
def exec : Nat → Code → List AV → HS → XR
  | 0, _, _, _ => none
  | n + 1, k, T, H => match k with
    | .skip => some (.normal, T, H, false, big, false)
    | .label _ => some (.normal, T, H, false, big, false)
    | .exit id => some (.exit id, T, H, false, big, false)
    | .ret => some (.ret, T, H, false, big, false)
    | .seq x y => match exec n x T H with
      | some (.normal, T1, H1, a, l, m) => match exec n y T1 H1 with
        | some (e, T2, H2, a', l', m') => some (e, T2, H2, a || a', min l l', m || m')
        | none => none
      | r => r
    | .cond c x y => match evalT T c with
      | .d (.v (.bool b)) => exec n (if b then x else y) T H
      | _ => none
    | .block id x => match exec n x T H with
      | some (.exit i, T1, H1, r) => if i = id then some (.normal, T1, H1, r) else some (.exit i, T1, H1, r)
      | r => r
    | .scope x => exec n x T H
    | .loop x => match exec n x T H with
      | some (.normal, T1, H1, a, l, m) => match exec n (.loop x) T1 H1 with
        | some (e, T2, H2, a', l', m') => some (e, T2, H2, a || a', min l l', m || m')
        | none => none
      | r => r
    | .region _ ops draw => match opsE K (callV K (exec n)) ops ops.toList T H with
        | none => none
        | some (T', H', rs) => match draw with
          | false => outX T' H' rs
          | true => match drawF ops (rs.map flagA) || drawF ops (flagsB K (callV K (exec n)) (H' :: rs.map (·.H)) ops.toList rs) with
            | true => outX T' H' rs
            | false => none
    | _ => none
def Is (e : Exit) (T' : List AV) (H' : HS) : Post := fun e2 T2 H2 => e2 = e ∧ T2 = T' ∧ H2 = H'
variable {K}
theorem res1E_ok {T : List AV} {H : HS} {r : ResultVar} {v : AV} (h : res1E (P := P) T H r = some v) : Res1 P T H r v := by
  cases r with
  | tmp t => exact .tmp h
  | cell a ty =>
    simp only [res1E] at h
    split at h
    · rename_i d id off ht hx
      split at h
      · rename_i b hb
        split at h
        · rename_i hd
          exact .cell ht hd hx hb h
        · rename_i hd
          split at h
          · rename_i n hn
            split at h
            · rename_i hl
              cases h
              exact .cells ht hd hn hx hb hl rfl
            · cases h
          · cases h
      · cases h
    · cases h
theorem resE_ok {rs : Array ResultVar} {T : List AV} {H : HS} {v : AV} (h : resE (P := P) rs T H = some v) (he : Exit) (hh : he = .ret ∨ he = .normal) : RetPostC P rs (Ret v H) he T H ∨ RetPost rs (Ret v H) he T H := by
  unfold resE at h
  obtain ⟨l⟩ := rs
  dsimp only at h
  match l, h with
  | [], h => cases h; exact .inr (retPost0 hh rfl ⟨rfl, rfl⟩)
  | [r], h => exact .inl ⟨hh, v, ⟨rfl, rfl⟩, .inl ⟨r, rfl, res1E_ok h⟩⟩
  | [r, s], h =>
    dsimp only at h
    split at h
    · rename_i x y hx hy
      cases h
      exact .inl ⟨hh, _, ⟨rfl, rfl⟩, .inr (.inl ⟨r, s, x, y, rfl, res1E_ok hx, res1E_ok hy, rfl⟩)⟩
    · cases h
  | [r, s, q], h =>
    dsimp only at h
    split at h
    · rename_i x y z hx hy hz
      cases h
      exact .inl ⟨hh, _, ⟨rfl, rfl⟩, .inr (.inr ⟨r, s, q, x, y, z, rfl, res1E_ok hx, res1E_ok hy, res1E_ok hz, rfl⟩)⟩
    · cases h
  | _ :: _ :: _ :: _ :: _, h => cases h
def FnOk (call : FuncId → List AV → HS → CR) : Prop := ∀ f args H v H' a l m, call f args H = some (v, H', a, l, m) → ACalls P f args H (Ret v H') ∧ Eff a l m H H' ∧ ∃ fn, P.funcs[f]? = some fn ∧ (fn.name == "runtime.NumGoroutine") = false ∧ fn.body.isNone = false
def CallOk (call : AV → List AV → HS → CR) : Prop := ∀ (E : Operand → AV) (fo : Operand) (args : Array Operand) (H H' : HS) (v : AV) (a : Bool) (l : Nat) (m : Bool), call (E fo) (args.toList.map E) H = some (v, H', a, l, m) →
  (∀ (dst : Option Tmp) (ts : Array TypeId) (ty : TypeId) (pos : String) (after : Array Edge) (gd : Option (Nat × Bool)), OpR P ⟨dst, .call ⟨.value fo, args, ts⟩, ty, pos, after, gd⟩ E H (Ret v H')) ∧ Eff a l m H H'
theorem callE_ok {call : AV → List AV → HS → CR} (hc : CallOk (P := P) call) {o : Oper} {E : Operand → AV} {H H' : HS} {v : AV} {a : Bool} {l : Nat} {m : Bool} (h : callE call o E H = some (v, H', a, l, m)) : OpR P o E H (Ret v H') ∧ Eff a l m H H' := by
  unfold callE at h
  obtain ⟨dst, op, ty, pos, after, gd⟩ := o
  dsimp only at h
  split at h
  · rename_i fo args ts
    obtain ⟨h1, h2⟩ := hc _ _ _ _ _ _ _ _ _ h
    exact ⟨h1 _ _ _ _ _ _, h2⟩
  · cases h
def InfoOk (P : Program) [Wins P] (o : Oper) (E : Operand → AV) (H : HS) (v : AV) (H' : HS) : Info → Prop
  | .pure => H' = H ∧ ∀ H : HS, OpR P o E H (Ret v H)
  | .read => H' = H ∧ OpR P o E H (Ret v H)
  | .write low mt => OpR P o E H (Ret v H') ∧ Frm low mt H H'
theorem opE_ok {call : AV → List AV → HS → CR} (hc : CallOk (P := P) call) {o : Oper} {E : Operand → AV} {H H' : HS} {v : AV} {i : Info} (h : opE K call o E H = some (v, H', i)) : InfoOk P o E H v H' i := by
  unfold opE at h
  split at h
  · rename_i u hp
    cases h
    exact ⟨rfl, K.pure_ok _ _ _ hp⟩
  · split at h
    · rename_i u hp
      cases h
      exact ⟨rfl, K.read_ok _ _ _ _ hp⟩
    · split at h
      · rename_i u H1 low mt hp
        cases h
        exact K.full_ok _ _ _ _ _ _ _ hp
      · split at h
        · rename_i u H1 any low mt hp
          obtain ⟨q1, q2⟩ := callE_ok hc hp
          split at h
          · cases h
            exact ⟨q1, q2.frm⟩
          · cases h
            have := q2.same rfl
            subst this
            exact ⟨rfl, q1⟩
        · cases h
theorem InfoOk.eff {o : Oper} {E : Operand → AV} {H H' : HS} {v : AV} {i : Info} (h : InfoOk P o E H v H' i) : Eff i.any i.low i.mt H H' := by
  cases i with
  | pure => obtain ⟨rfl, _⟩ := h; exact .refl _ _ _
  | read => obtain ⟨rfl, _⟩ := h; exact .refl _ _ _
  | write low mt => exact ⟨fun hh => (by cases hh), h.2⟩
theorem InfoOk.still {o : Oper} {E : Operand → AV} {H H' : HS} {v : AV} {i : Info} (h : InfoOk P o E H v H' i) (hi : i.any = false) : OpR P o E H (Ret v H) := by
  cases i with
  | pure => exact h.2 H
  | read => exact h.2
  | write low mt => cases hi
theorem guardE_ok {ops : Array Oper} {o : Oper} {T : List AV} {b : Bool} (hb : guardE ops o T = some b) : match o.guard with
    | none => b = true
    | some (g, want) => (∃ d x, (ops[g]?).bind (·.dst) = some d ∧ T[d]? = some (.d (.v (.bool x))) ∧ b = (x == want)) ∨ (∃ d, (ops[g]?).bind (·.dst) = some d ∧ T[d]? = some .nv ∧ b = false) := by
  unfold guardE at hb
  cases hg : o.guard with
  | none =>
    rw [hg] at hb
    simpa using hb.symm
  | some gw =>
    obtain ⟨g, want⟩ := gw
    rw [hg] at hb
    dsimp only at hb ⊢
    split at hb
    · cases hb
    · rename_i d hd
      split at hb
      · rename_i x hx
        cases hb
        exact .inl ⟨d, x, hd, hx, rfl⟩
      · rename_i hx
        cases hb
        exact .inr ⟨d, hd, hx, rfl⟩
      · cases hb
theorem opsE_eff {call : AV → List AV → HS → CR} (hc : CallOk (P := P) call) {ops : Array Oper} : ∀ (l : List Oper) (T : List AV) (H : HS) (T' : List AV) (H' : HS) (rs : List Rec), opsE K call ops l T H = some (T', H', rs) → Eff (anyR rs) (lowR rs) (mtR rs) H H'
  | [], T, H, T', H', rs, h => by
    simp only [opsE, Option.some.injEq, Prod.mk.injEq] at h
    obtain ⟨rfl, rfl, rfl⟩ := h
    exact .refl _ _ _
  | o :: l, T, H, T', H', rs, h => by
    simp only [opsE, putK_eq, forceA_eq] at h
    split at h
    · cases h
    · split at h
      · rename_i T1 H1 rs1 hr
        cases h
        have := opsE_eff hc l _ _ _ _ _ hr
        exact (Eff.refl big false H).trans this
      · cases h
    · split at h
      · cases h
      · rename_i v H1 i ho
        split at h
        · rename_i T1 H2 rs1 hr
          cases h
          exact (opE_ok hc ho).eff.trans (opsE_eff hc l _ _ _ _ _ hr)
        · cases h
theorem opsE_A {call : AV → List AV → HS → CR} (hc : CallOk (P := P) call) {ops : Array Oper} : ∀ (l : List Oper) (T : List AV) (H : HS) (T' : List AV) (H' : HS) (rs : List Rec), opsE K call ops l T H = some (T', H', rs) →
    DRunX P (fun _ => True) ops l (rs.map flagA) T H (fun T2 H2 => T2 = T' ∧ H2 = H')
  | [], T, H, T', H', rs, h => by
    simp only [opsE, Option.some.injEq, Prod.mk.injEq] at h
    obtain ⟨rfl, rfl, rfl⟩ := h
    exact ⟨rfl, rfl⟩
  | o :: l, T, H, T', H', rs, h => by
    simp only [opsE, putK_eq, forceA_eq] at h
    split at h
    · cases h
    · rename_i hb
      split at h
      · rename_i T1 H1 rs1 hr
        cases h
        exact ⟨.nv, H, ⟨false, guardE_ok hb, rfl, rfl⟩, .inr fun _ => trivial, opsE_A hc l _ _ _ _ _ hr⟩
      · cases h
    · rename_i hb
      split at h
      · cases h
      · rename_i v H1 i ho
        split at h
        · rename_i T1 H2 rs1 hr
          cases h
          have h1 := opE_ok hc ho
          refine ⟨v, H1, ⟨true, guardE_ok hb, ?_⟩, .inr fun _ => trivial, opsE_A hc l _ _ _ _ _ hr⟩
          cases i with
          | pure => exact ⟨h1.1, fun H _ => opR_strong (h1.2 H)⟩
          | read => exact ⟨h1.1, opR_strong h1.2⟩
          | write low mt => exact opR_strong h1.1
        · cases h
theorem opsE_B {call : AV → List AV → HS → CR} (hc : CallOk (P := P) call) {ops : Array Oper} {states : List HS} : ∀ (l : List Oper) (T : List AV) (H : HS) (T' : List AV) (H' : HS) (rs : List Rec), opsE K call ops l T H = some (T', H', rs) → H' ∈ states → (∀ r ∈ rs, r.H ∈ states) →
    DRunX P (fun S => S ∈ states) ops l (flagsB K call states l rs) T H (fun T2 H2 => T2 = T' ∧ H2 = H')
  | [], T, H, T', H', rs, h, _, _ => by
    simp only [opsE, Option.some.injEq, Prod.mk.injEq] at h
    obtain ⟨rfl, rfl, rfl⟩ := h
    exact ⟨rfl, rfl⟩
  | o :: l, T, H, T', H', rs, h, hf, hs => by
    have first : ∀ {l : List Oper} {T : List AV} {H : HS} {T' : List AV} {H' : HS} {rs : List Rec}, opsE K call ops l T H = some (T', H', rs) → H' ∈ states → (∀ r ∈ rs, r.H ∈ states) → H ∈ states := by
      intro l T H T' H' rs h hf hs
      cases l with
      | nil =>
        simp only [opsE, Option.some.injEq, Prod.mk.injEq] at h
        obtain ⟨rfl, rfl, rfl⟩ := h
        exact hf
      | cons o l =>
        simp only [opsE, putK_eq, forceA_eq] at h
        split at h
        · cases h
        · split at h
          · cases h; exact hs _ (List.mem_cons_self ..)
          · cases h
        · split at h
          · cases h
          · split at h
            · cases h; exact hs _ (List.mem_cons_self ..)
            · cases h
    simp only [opsE, putK_eq, forceA_eq] at h
    split at h
    · cases h
    · rename_i hb
      split at h
      · rename_i T1 H1 rs1 hr
        cases h
        have hs' : ∀ r ∈ rs1, r.H ∈ states := fun r hr => hs r (List.mem_cons_of_mem _ hr)
        exact ⟨.nv, H, ⟨false, guardE_ok hb, rfl, rfl⟩, .inr fun _ => first hr hf hs', opsE_B hc l _ _ _ _ _ hr hf hs'⟩
      · cases h
    · rename_i hb
      split at h
      · cases h
      · rename_i v H1 i ho
        split at h
        · rename_i T1 H2 rs1 hr
          cases h
          have h1 := opE_ok hc ho
          have hs' : ∀ r ∈ rs1, r.H ∈ states := fun r hr => hs r (List.mem_cons_of_mem _ hr)
          refine ⟨v, H1, ⟨true, guardE_ok hb, ?_⟩, .inr fun _ => first hr hf hs', opsE_B hc l _ _ _ _ _ hr hf hs'⟩
          show (match flagB K call states o ⟨i, T, H, v, true⟩ with
             | 0 => H1 = H ∧ ∀ S, S ∈ states → OpR P o (evalT T) S (Ret v S)
             | 1 => H1 = H ∧ OpR P o (evalT T) H (Ret v H)
             | _ => OpR P o (evalT T) H (Ret v H1))
          cases i with
          | pure => exact ⟨h1.1, fun H _ => opR_strong (h1.2 H)⟩
          | write low mt => exact opR_strong h1.1
          | read =>
            unfold flagB
            dsimp only
            split
            · rename_i hall heq
              split at heq
              · rename_i hall
                refine ⟨h1.1, fun S hS => ?_⟩
                have h2 := List.all_eq_true.1 hall S hS
                unfold recheck at h2
                dsimp only at h2
                split at h2
                · rename_i u S' j hj
                  simp only [Bool.and_eq_true, Bool.not_eq_true'] at h2
                  have h3 := (opE_ok hc hj).still h2.1
                  rw [beqA_ok _ _ h2.2] at h3
                  exact opR_strong h3
                · cases h2
              · cases heq
            · exact ⟨h1.1, opR_strong h1.2⟩
            · rw [h1.1]; exact opR_strong h1.2
        · cases h
theorem aw_drawY (Φ : HS → Prop) {Q : Post} {id : Nat} {T : List AV} {H : HS} {l : List Oper} (fl : List Nat) (hm : P.follows .mixedOrders = true) (hok : drawOk l.toArray fl (Region.before l.toArray) = true)
    (hΦ : Φ H) (hrun : DRunX P Φ l.toArray l fl T H fun T' H' => Q .normal T' H' ∧ Φ H') : AW P (.region id l.toArray true) Q T H := by
  intro B0 w0 c w a tr h1 h2 h3 b k' cs hbk hn
  obtain ⟨vs, hs, e1, ep, e2, e3⟩ := drun_ref (P := P) (ops := l.toArray) (fl := fl) l 0 fl T H _ (fun i => by simp) (fun i => by simp) hrun
  have htref : ∀ k, (List.range k).foldl (fun T j => putT T (dstAt l.toArray (0 + j)) (vs (0 + j))) T = Tref l.toArray T vs k := by
    intro k
    induction k with
    | zero => rfl
    | succ k ih => rw [List.range_succ, List.foldl_append, ih]; simp [Tref]
  simp only [htref] at e2 e3
  obtain ⟨td, hst⟩ := sg_draw (ops := l.toArray) (main := c.x.me == 0) (b := b) (a := a) (k := k') (cs := cs) (w := w) (id := id) hm
  refine run_quiet h1.xok hst ?_
  refine draw_main (vs := vs) (hs := hs) (T0 := T) hok ⟨fun k o hk => ?_, fun k hk => by have := ep hΦ k (by simpa using hk); simpa using this, .inl (by simpa using e3.2)⟩ B0 w0 c a.defers b k' cs hbk ?_ _ td _ c _ a tr (by simp) ?_ ?_ (Lw.refl c) ?_ h2 h3.size ?_ rfl
  · have := e2 k o (by simpa using hk)
    simpa using this
  · intro a' w' c' t' x1 x2 x3 x4 x5
    refine hn .normal a' w' c' t' _ _ x1 x2 x3 x4 x5 ?_
    simpa using e3.1
  · have : ((List.range l.toArray.size).filter fun i => !inS (Array.replicate l.toArray.size false) i).length ≤ (List.range l.toArray.size).length := List.length_filter_le _ _
    simpa using this
  · intro i j hj hi hS hb
    simp only [inS] at hS
    simp at hS hj
    simp [hj] at hS
  · rw [Hc_at (j := 0) (Nat.zero_le _) (fun i hi _ => by rw [inS_none]; rfl)]
    show Inv B0 w0 c (hs 0) _
    rw [e1]
    exact h1.drew
  · intro t ht
    rw [W_at (j := 0) (Nat.zero_le _) (fun i hi _ => by rw [inS_none]; rfl)]
    exact h3.at_ t ht
theorem drun_mono {Φ : HS → Prop} {ops : Array Oper} {Q Q' : List AV → HS → Prop} (hq : ∀ T H, Q T H → Q' T H) : ∀ (l : List Oper) (fl : List Nat) (T : List AV) (H : HS), DRunX P Φ ops l fl T H Q → DRunX P Φ ops l fl T H Q'
  | [], _, _, _, h => hq _ _ h
  | _ :: l, _, _, _, ⟨v, H', h1, h2, h3⟩ => ⟨v, H', h1, h2, drun_mono hq l _ _ _ h3⟩
theorem al_of_drun {ops : Array Oper} {Q : Post} : ∀ (l : List Oper) (fl : List Nat) (T : List AV) (H : HS), DRunX P (fun _ => True) ops l fl T H (fun T' H' => Q .normal T' H') → AL P ops l Q T H
  | [], fl, T, H, h => al_nil h
  | o :: l, fl, T, H, h => by
    obtain ⟨v, H', ⟨b, hg, hb⟩, _, hr⟩ := h
    have ih := al_of_drun l _ _ _ hr
    cases b with
    | false =>
      obtain ⟨rfl, rfl⟩ := hb
      cases hgd : o.guard with
      | none => rw [hgd] at hg; cases hg
      | some gw =>
        obtain ⟨g, want⟩ := gw
        rw [hgd] at hg
        rcases hg with ⟨d, x, h1, h2, h3⟩ | ⟨d, h1, h2, _⟩
        · exact al_unwanted hgd h1 h2 h3.symm ih
        · exact al_unwanted0 hgd h1 h2 ih
    | true =>
      have ho : OpR P o (evalT T) H (Ret v H') := by
        rcases hf : fl.headD 2 with _ | _ | f
        · rw [hf] at hb
          have hb' : H' = H ∧ ∀ H, True → OpR P o (evalT T) H (Ret v H) := hb
          rw [hb'.1]
          exact hb'.2 _ trivial
        · rw [hf] at hb
          have hb' : H' = H ∧ OpR P o (evalT T) H (Ret v H) := hb
          rw [hb'.1]
          exact hb'.2
        · rw [hf] at hb
          exact hb
      cases hgd : o.guard with
      | none => exact al_step ho hgd ih
      | some gw =>
        obtain ⟨g, want⟩ := gw
        rw [hgd] at hg
        rcases hg with ⟨d, x, h1, h2, h3⟩ | ⟨d, h1, h2, h3⟩
        · have : x = want := by simpa using h3.symm
          subst this
          exact al_wanted hgd h1 h2 ho ih
        · cases h3
def AWL (P : Program) [Wins P] (k : Code) (Q : Post) (T : List AV) (H : HS) : Prop :=
  ∀ (B : Nat) (w0 : World) (c : Ctx) (w : World) (a : Act) (t : Trace), Inv B w0 c H w → Held c t → RepT c a.tmps T →
  ∀ (b : Frame) (k' : List Item) (cs : List Frame), b.kind ≠ .early →
    (∀ e a' w' c' t' T' H', Lw c c' → Inv B w0 c' H' w' → Held c' t' → RepT c' a'.tmps T' → a'.defers = a.defers → Q e T' H' → After P c'.x w' t' b k' cs e a') →
    Run P c.x w t (b.atR a (.code k :: .inLoop k :: k')) cs
theorem aw_of_awl {k : Code} {Q : Post} {T : List AV} {H : HS} (h : AWL P k Q T H) : AW P (.loop k) Q T H :=
  fun B w0 c w a t h1 h2 h3 b k' cs hk hn => run_quiet h1.xok sg_loop (h B w0 c w a t h1 h2 h3 b k' cs hk hn)
theorem awl_turn {k : Code} {Q : Post} {T T1 : List AV} {H H1 : HS} (h : AW P k (Is .normal T1 H1) T H) (h' : AWL P k Q T1 H1) : AWL P k Q T H := by
  intro B w0 c w a t h1 h2 h3 b k' cs hk hn
  refine h B w0 c w a t h1 h2 h3 b (.inLoop k :: k') cs hk ?_
  rintro e a' w' c' t' T' H' x1 x2 x3 x4 x5 ⟨rfl, rfl, rfl⟩
  refine run_quiet x2.xok sg_inLoop (h' B w0 c' w' a' t' x2 x3 x4 b k' cs hk ?_)
  intro e a2 w2 c2 t2 T2 H2 y1 y2 y3 y4 y5 y6
  exact hn e a2 w2 c2 t2 T2 H2 (x1.trans y1) y2 y3 y4 (y5.trans x5) y6
theorem awl_out {k : Code} {e : Exit} {T T1 : List AV} {H H1 : HS} (he : e ≠ .normal) (h : AW P k (Is e T1 H1) T H) : AWL P k (Is e T1 H1) T H := by
  intro B w0 c w a t h1 h2 h3 b k' cs hk hn
  refine h B w0 c w a t h1 h2 h3 b (.inLoop k :: k') cs hk ?_
  rintro e2 a' w' c' t' T' H' x1 x2 x3 x4 x5 ⟨rfl, rfl, rfl⟩
  exact (hn _ a' w' c' t' T' H' x1 x2 x3 x4 x5 ⟨rfl, rfl, rfl⟩).push (fun _ h => by cases h) he
theorem bodyC {f : FuncId} {fn : Func} {k : Code} {args : List AV} {H H' : HS} {e : Exit} {T' : List AV} {v : AV} (hf : P.funcs[f]? = some fn) (hb : fn.body = some k) (he : e = .ret ∨ e = .normal) (hv : resE (P := P) fn.results T' H' = some v)
    (h : AW P k (Is e T' H') (args ++ List.replicate (fn.ntmps - args.length) .un) H) : ACalls P f args H (Ret v H') := by
  rcases resE_ok hv e he with hr | hr
  · exact acalls_of_awC hf hb (aw_mono h fun e2 T2 H2 ⟨h1, h2, h3⟩ => by subst h1; subst h2; subst h3; exact hr)
  · exact acalls_of_aw hf hb (aw_mono h fun e2 T2 H2 ⟨h1, h2, h3⟩ => by subst h1; subst h2; subst h3; exact hr)
theorem cut_call {f : FuncId} {args : List AV} {H H' : HS} {v : AV} {low : Nat} {mt : Bool} (h : ACalls P f args H (Ret v H')) (hf : Frm low mt H H') (hl : H.blks.length ≤ low) (hm : mt = false) (hv : Fits H.blks.length H.toks.length v) : ACalls P f args H (Ret v H) := by
  obtain ⟨q1, q2⟩ := hf.rest hm
  have hx : Ext H H' := by
    refine ⟨⟨H'.blks.drop H.blks.length, ?_⟩, ⟨[], by rw [q1]; simp⟩, q2, hf.x⟩
    have : H'.blks.take H.blks.length = H.blks := by
      apply List.ext_getElem?
      intro j
      rw [List.getElem?_take]
      by_cases hj : j < H.blks.length
      · rw [if_pos hj, hf.blk j (by omega) hj]
      · rw [if_neg hj, List.getElem?_eq_none (by omega)]
    have h4 := (List.take_append_drop H.blks.length H'.blks).symm
    rw [this] at h4
    exact h4
  have := ACalls.tidy (R := fun av => av = v) (h.mono fun av H2 ⟨h1, h2⟩ => ⟨by rw [h1]; exact hv, by rw [h2]; exact hx, h1⟩)
  exact this.mono fun av H2 ⟨h1, h2⟩ => ⟨h1, h2⟩
abbrev ExOk (P : Program) [Wins P] (ex : Code → List AV → HS → XR) : Prop := ∀ (k : Code) (T : List AV) (H : HS) (e : Ex) (T' : List AV) (H' : HS) (a : Bool) (l : Nat) (m : Bool), ex k T H = some (e, T', H', a, l, m) → AW P k (Is e.exit' T' H') T H ∧ Eff a l m H H'
theorem callP_ok {ex : Code → List AV → HS → XR} (ih : ExOk P ex) : FnOk (P := P) (callP K ex) := by
  intro f args H v H' a l m h
  unfold callP at h
  split at h
  · rename_i v1 H1 low mt hk
    cases h
    obtain ⟨q1, q2, q3⟩ := K.known_ok _ _ _ _ _ _ _ hk
    exact ⟨q1, ⟨fun hh => (by cases hh), q2⟩, q3⟩
  · split at h
    · rename_i fn hfn
      obtain ⟨hf, hname⟩ := K.funcs_ok _ _ hfn
      unfold plainX at h
      split at h
      · rename_i k hb
        rw [forceAs_eq] at h
        cases hx : ex k (args ++ List.replicate (fn.ntmps - args.length) .un) H with
        | none => rw [hx] at h; cases h
        | some r =>
          obtain ⟨e, T1, H1, a1, l1, m1⟩ := r
          rw [hx] at h
          obtain ⟨hA, hE⟩ := ih _ _ _ _ _ _ _ _ _ hx
          have fin : ∀ (he : e.exit' = .ret ∨ e.exit' = .normal), (match resE (P := P) fn.results T1 H1 with
              | some v => if a1 = true ∧ H.blks.length ≤ l1 ∧ m1 = false ∧ fitsB H.blks.length H.toks.length v = true then some (v, H, false, big, false) else some (v, H1, a1, l1, m1)
              | none => none) = some (v, H', a, l, m) → ACalls P f args H (Ret v H') ∧ Eff a l m H H' ∧ ∃ fn, P.funcs[f]? = some fn ∧ (fn.name == "runtime.NumGoroutine") = false ∧ fn.body.isNone = false := by
            intro he h
            split at h
            · rename_i u hu
              have hB := bodyC hf hb he hu hA
              split at h
              · rename_i hc
                cases h
                exact ⟨cut_call hB hE.frm hc.2.1 hc.2.2.1 (fitsB_ok _ _ _ hc.2.2.2), .refl _ _ _, fn, hf, hname, by rw [hb]; rfl⟩
              · cases h
                exact ⟨hB, hE, fn, hf, hname, by rw [hb]; rfl⟩
            · cases h
          cases e with
          | exit id => cases h
          | normal => exact fin (.inr rfl) h
          | ret => exact fin (.inl rfl) h
      · cases h
    · cases h
def IsX (e : Exit) (T' : List AV) (H' : HS) (D' : List DD) : PostX := fun e2 T2 H2 D2 => e2 = e ∧ T2 = T' ∧ H2 = H' ∧ D2 = D'
theorem plainC_ok {ex : Code → List AV → HS → XR} (ih : ExOk P ex) {k : Code} {T : List AV} {H : HS} {D : List DD} {e : Ex} {T' : List AV} {H' : HS} {D' : List DD} {l : Nat} (h : plainC ex k T H D = some (e, T', H', D', l)) : AWX P k (IsX e.exit' T' H' D') T H D ∧ Frm l true H H' := by
  unfold plainC at h
  split at h
  · rename_i e1 T1 H1 a1 l1 m1 hx
    cases h
    obtain ⟨hA, hE⟩ := ih _ _ _ _ _ _ _ _ _ hx
    exact ⟨awx_aw (aw_mono hA fun e2 T2 H2 ⟨h1, h2, h3⟩ => ⟨h1, h2, h3, rfl⟩), ⟨hE.frm.blk, hE.frm.len, fun hh => (by cases hh), hE.frm.x, hE.frm.map⟩⟩
  · cases h
theorem alx_of_drun {ops : Array Oper} {Q : PostX} {D : List DD} {l2 : List Oper} : ∀ (l : List Oper) (fl : List Nat) (T : List AV) (H : HS), l.all (fun o => o.guard.isNone) = true → DRunX P (fun _ => True) ops l fl T H (fun T' H' => ALX P ops l2 Q T' H' D) → ALX P ops (l ++ l2) Q T H D
  | [], _, _, _, _, h => h
  | o :: l, fl, T, H, hg, ⟨v, H', ⟨b, hb, hst⟩, _, hr⟩ => by
    simp only [List.all_cons, Bool.and_eq_true] at hg
    have hg0 : o.guard = none := by simpa using hg.1
    rw [hg0] at hb
    dsimp only at hb
    subst hb
    have ho : OpR P o (evalT T) H (Ret v H') := by
      rcases hf : fl.headD 2 with _ | _ | f
      · rw [hf] at hst
        have hb' : H' = H ∧ ∀ H, True → OpR P o (evalT T) H (Ret v H) := hst
        rw [hb'.1]
        exact hb'.2 _ trivial
      · rw [hf] at hst
        have hb' : H' = H ∧ OpR P o (evalT T) H (Ret v H) := hst
        rw [hb'.1]
        exact hb'.2
      · rw [hf] at hst
        exact hst
    exact alx_step ho hg0 rfl (alx_of_drun l _ _ _ hg.2 hr)
theorem alx_nil {ops : Array Oper} {Q : PostX} {T : List AV} {H : HS} {D : List DD} (h : Q .normal T H D) : ALX P ops [] Q T H D := alx_al (al_nil h)
theorem deferX_ok {id : Nat} {ops : Array Oper} {T : List AV} {H : HS} {D : List DD} {e : Ex} {T' : List AV} {H' : HS} {D' : List DD} {l : Nat} (h : deferX K ops T H D = some (e, T', H', D', l)) : AWX P (.region id ops false) (IsX e.exit' T' H' D') T H D ∧ Frm l true H H' := by
  unfold deferX at h
  split at h
  · rename_i dst fo args ts ty pos after hlast
    split at h
    · rename_i hg
      split at h
      · rename_i T1 H1 rs hops
        split at h
        · rename_i f fs cs hfo
          cases h
          have hc : CallOk (P := P) (fun _ _ _ => none) := fun _ _ _ _ _ _ _ _ _ h => by cases h
          have hE := opsE_eff hc _ _ _ _ _ _ hops
          have hA := opsE_A hc _ _ _ _ _ _ hops
          refine ⟨?_, ⟨hE.frm.blk, hE.frm.len, fun hh => (by cases hh), hE.frm.x, hE.frm.map⟩⟩
          obtain ⟨ol⟩ := ops
          refine awx_region ?_
          have hsplit : ol = ol.dropLast ++ [⟨dst, .defer ⟨.value fo, args, ts⟩, ty, pos, after, none⟩] := by
            obtain ⟨ys, hys⟩ := List.getLast?_eq_some_iff.1 hlast
            have hys' : ol = ys ++ [⟨dst, .defer ⟨.value fo, args, ts⟩, ty, pos, after, none⟩] := hys
            rw [hys']
            simp
          have key : ALX P (List.toArray ol) (ol.dropLast ++ [⟨dst, .defer ⟨.value fo, args, ts⟩, ty, pos, after, none⟩]) (IsX Exit.normal (putT T1 dst .nv) H' (.call f (fs ++ args.toList.map (evalT T1)) cs :: D)) T H D :=
            alx_of_drun _ _ _ _ hg (drun_mono (fun T2 H2 ⟨h1, h2⟩ => by
              subst h1 h2
              exact alx_defer hfo (alx_nil ⟨rfl, rfl, rfl, rfl⟩)) _ _ _ _ hA)
          rw [← hsplit] at key
          exact key
        · cases h
      · cases h
    · cases h
  · cases h
theorem frm_push2 {H : HS} {m m' : MB} : Frm big true H ((H.pushM m).pushM m') :=
  ⟨fun _ _ _ => rfl, Nat.le_refl _, fun h => (by cases h), rfl, fun i hi => by
    simp only [HS.pushM]
    rw [List.getElem?_append_left (by simp; omega), List.getElem?_append_left hi]⟩
theorem rangeX_ok {ex : Code → List AV → HS → XR} (ih : ExOk P ex) {g : Operand} {ps : Array Tmp} {asg bd : Code} {T : List AV} {H : HS} {D : List DD} {e : Ex} {T' : List AV} {H' : HS} {D' : List DD} {l : Nat} (h : rangeX K ex g ps asg bd T H D = some (e, T', H', D', l)) :
    AWX P (.rangeFunc g ps asg bd) (IsX e.exit' T' H' D') T H D ∧ Frm l true H H' := by
  unfold rangeX at h
  split at h
  · rename_i gf cs hg
    split at h
    · rename_i v S a l1 m hc
      cases h
      obtain ⟨hA, hE, fn, h2, h3, h4⟩ := callP_ok ih _ _ _ _ _ _ _ _ hc
      have hS : S.maps[H.maps.length + 1]? = some (.rnd ps asg bd .ready none T) := by
        rw [hE.frm.map _ (by simp [HS.pushM])]
        simp [HS.pushM]
      refine ⟨awx_range hg h2 h4 h3 (hA.mono fun av S' ⟨h5, h6⟩ => ?_), ?_⟩
      · subst h6
        exact ⟨.ready, none, hS, by simp, rfl, rfl, rfl, rfl⟩
      · have hF := (frm_push2 (H := H) (m := .obj (.deferred (some []))) (m' := .rnd ps asg bd .ready none T)).trans hE.frm
        refine ⟨fun i hi hl => ?_, hF.len, fun hh => (by cases hh), hF.x, fun i hi => ?_⟩
        · by_cases hb : i < big
          · exact hF.blk i (by omega) hl
          · exact hE.frm.blk i hi hl
        · have hne : ¬ H.maps.length + 1 = i := by omega
          have := hF.map i hi
          simp only [HS.setM]
          rw [List.getElem?_set_ne hne]
          exact this
    · cases h
  · cases h
theorem xcode_ok {ex : Code → List AV → HS → XR} (ih : ExOk P ex) : ∀ (k : Code) (T : List AV) (H : HS) (D : List DD) (e : Ex) (T' : List AV) (H' : HS) (D' : List DD) (l : Nat), xcode K ex k T H D = some (e, T', H', D', l) → AWX P k (IsX e.exit' T' H' D') T H D ∧ Frm l true H H'
  | .seq x y, T, H, D, e, T', H', D', l, h => by
    simp only [xcode] at h
    cases hx : xcode K ex x T H D with
    | none => rw [hx] at h; cases h
    | some r =>
      obtain ⟨e1, T1, H1, D1, l1⟩ := r
      rw [hx] at h
      obtain ⟨hA, hE⟩ := xcode_ok ih x _ _ _ _ _ _ _ _ hx
      cases e1 with
      | normal =>
        dsimp only at h
        rw [forceAs_eq, forceH_eq] at h
        cases hy : xcode K ex y T1 H1 D1 with
        | none => rw [hy] at h; cases h
        | some r =>
          obtain ⟨e2, T2, H2, D2, l2⟩ := r
          rw [hy] at h
          cases h
          obtain ⟨hB, hF⟩ := xcode_ok ih y _ _ _ _ _ _ _ _ hy
          refine ⟨awx_seq (awx_mono hA ?_), hE.trans hF⟩
          rintro e3 T3 H3 D3 ⟨rfl, rfl, rfl, rfl⟩
          exact hB
      | exit id =>
        cases h
        refine ⟨awx_seq (awx_mono hA ?_), hE⟩
        rintro e3 T3 H3 D3 ⟨rfl, rfl, rfl, rfl⟩
        exact ⟨rfl, rfl, rfl, rfl⟩
      | ret =>
        cases h
        refine ⟨awx_seq (awx_mono hA ?_), hE⟩
        rintro e3 T3 H3 D3 ⟨rfl, rfl, rfl, rfl⟩
        exact ⟨rfl, rfl, rfl, rfl⟩
  | .cond c x y, T, H, D, e, T', H', D', l, h => by
    simp only [xcode] at h
    split at h
    · rename_i hc
      obtain ⟨hA, hE⟩ := xcode_ok ih x _ _ _ _ _ _ _ _ h
      exact ⟨awx_cond hc (fun _ => hA) (fun hb => by cases hb), hE⟩
    · rename_i hc
      obtain ⟨hA, hE⟩ := xcode_ok ih y _ _ _ _ _ _ _ _ h
      exact ⟨awx_cond hc (fun hb => by cases hb) (fun _ => hA), hE⟩
    · cases h
  | .block id x, T, H, D, e, T', H', D', l, h => by
    simp only [xcode] at h
    cases hx : xcode K ex x T H D with
    | none => rw [hx] at h; cases h
    | some r =>
      obtain ⟨e1, T1, H1, D1, l1⟩ := r
      rw [hx] at h
      obtain ⟨hA, hE⟩ := xcode_ok ih x _ _ _ _ _ _ _ _ hx
      cases e1 with
      | normal =>
        cases h
        refine ⟨awx_block (awx_mono hA ?_), hE⟩
        rintro e3 T3 H3 D3 ⟨rfl, rfl, rfl, rfl⟩
        exact ⟨rfl, rfl, rfl, rfl⟩
      | ret =>
        cases h
        refine ⟨awx_block (awx_mono hA ?_), hE⟩
        rintro e3 T3 H3 D3 ⟨rfl, rfl, rfl, rfl⟩
        exact ⟨rfl, rfl, rfl, rfl⟩
      | exit i =>
        dsimp only at h
        by_cases hi : i = id
        · rw [if_pos hi] at h
          cases h
          refine ⟨awx_block (awx_mono hA ?_), hE⟩
          rintro e3 T3 H3 D3 ⟨rfl, rfl, rfl, rfl⟩
          subst hi
          simp [InBlockX, Ex.exit', IsX]
        · rw [if_neg hi] at h
          cases h
          refine ⟨awx_block (awx_mono hA ?_), hE⟩
          rintro e3 T3 H3 D3 ⟨rfl, rfl, rfl, rfl⟩
          simp [InBlockX, Ex.exit', IsX, hi]
  | .region id ops false, T, H, D, e, T', H', D', l, h => by
    simp only [xcode] at h
    split at h
    · rename_i r hr
      cases h
      exact plainC_ok ih hr
    · exact deferX_ok h
  | .rangeFunc g ps asg bd, T, H, D, e, T', H', D', l, h => by
    simp only [xcode] at h
    exact rangeX_ok ih h
  | .region id ops true, T, H, D, e, T', H', D', l, h => plainC_ok ih (by simpa only [xcode] using h)
  | .skip, T, H, D, e, T', H', D', l, h => plainC_ok ih (by simpa only [xcode] using h)
  | .label _, T, H, D, e, T', H', D', l, h => plainC_ok ih (by simpa only [xcode] using h)
  | .exit _, T, H, D, e, T', H', D', l, h => plainC_ok ih (by simpa only [xcode] using h)
  | .ret, T, H, D, e, T', H', D', l, h => plainC_ok ih (by simpa only [xcode] using h)
  | .loop _, T, H, D, e, T', H', D', l, h => plainC_ok ih (by simpa only [xcode] using h)
  | .scope _, T, H, D, e, T', H', D', l, h => plainC_ok ih (by simpa only [xcode] using h)
  | .goto _, T, H, D, e, T', H', D', l, h => plainC_ok ih (by simpa only [xcode] using h)
  | .refuse _, T, H, D, e, T', H', D', l, h => plainC_ok ih (by simpa only [xcode] using h)
theorem dend_mono {K1 K2 : HS → Prop} (hk : ∀ S, K1 S → K2 S) : ∀ (ds : List DD) (H : HS), DEnd P ds K1 H → DEnd P ds K2 H
  | [], _, h => hk _ h
  | .col _ :: ds, _, ⟨h1, h2⟩ => ⟨h1, dend_mono hk ds _ h2⟩
  | .call _ _ _ :: ds, _, ⟨h1, h2⟩ => ⟨h1, h2.mono fun _ _ h => dend_mono hk ds _ h⟩
theorem dendX_ok {ex : Code → List AV → HS → XR} (ih : ExOk P ex) (n : Nat) : ∀ (ds : List DD) (H H' : HS) (l : Nat), dendX K ex ds H = some (H', l) → colsOk n ds = true → DEnd P ds (fun S => S = H') H ∧ (∀ i, i < l → i < H.blks.length → H'.blks[i]? = H.blks[i]?) ∧ H.blks.length ≤ H'.blks.length ∧ H'.x = H.x ∧ ∀ i, i < n → i < H.maps.length → H'.maps[i]? = H.maps[i]?
  | [], H, H', l, h, _ => by
    simp only [dendX, Option.some.injEq, Prod.mk.injEq] at h
    obtain ⟨rfl, rfl⟩ := h
    exact ⟨rfl, fun _ _ _ => rfl, Nat.le_refl _, rfl, fun _ _ _ => rfl⟩
  | .col idx :: ds, H, H', l, h, hc => by
    simp only [colsOk, Bool.and_eq_true, decide_eq_true_eq] at hc
    simp only [dendX] at h
    split at h
    · rename_i hm
      obtain ⟨q1, q2, q3, q4, q5⟩ := dendX_ok ih n ds _ _ _ h hc.2
      refine ⟨⟨hm, q1⟩, q2, q3, q4, fun i hi hl => ?_⟩
      have := q5 i hi (by simpa [HS.setM] using hl)
      rw [this]
      have hne : ¬ idx = i := by omega
      simp only [HS.setM]
      rw [List.getElem?_set_ne hne]
    · cases h
  | .call f args cs :: ds, H, H', l, h, hc => by
    simp only [colsOk] at hc
    simp only [dendX] at h
    split at h
    · rename_i v H1 a1 l1 m1 hcall
      split at h
      · rename_i H2 l2 hd
        cases h
        obtain ⟨q1, q2, q3, q4, q5⟩ := dendX_ok ih n ds _ _ _ hd hc
        obtain ⟨hA, hE, hfn⟩ := callP_ok ih _ _ _ _ _ _ _ _ hcall
        refine ⟨⟨hfn, hA.mono fun _ S ⟨_, h2⟩ => by rw [h2]; exact q1⟩, fun i hi hl => (q2 i (by omega) (Nat.lt_of_lt_of_le hl hE.frm.len)).trans (hE.frm.blk i (by omega) hl), Nat.le_trans hE.frm.len q3, q4.trans hE.frm.x, fun i hi hl => ?_⟩
        have h1 := hE.frm.map i hl
        have hb : i < H1.maps.length := by
          rw [List.getElem?_eq_getElem hl] at h1
          exact (List.getElem?_eq_some_iff.1 h1).1
        exact (q5 i hi hb).trans h1
      · cases h
    · cases h
theorem res_run {fn : Func} {T : List AV} {H : HS} {v : AV} (hv : resE (P := P) fn.results T H = some v) (B : Nat) (w0 : World) (c : Ctx) (w : World) (tmps : Array Value) (hI : Inv B w0 c H w) (hT : RepT c tmps T) : ∃ u, (results fn tmps).run P w = .ok u w ∧ Rep c u v := by
  unfold resE at hv
  obtain ⟨l, hl⟩ : ∃ l, fn.results = ⟨l⟩ := ⟨fn.results.toList, rfl⟩
  rw [hl] at hv
  dsimp only at hv
  match l, hl, hv with
  | [], hl, hv => cases hv; exact ⟨_, results_none hl _ P w, .tup _ _ rfl fun i hi => by simp at hi⟩
  | [r], hl, hv =>
    obtain ⟨u, e1, r1⟩ := (res1E_ok hv).run hI hT
    exact ⟨u, by simp [results_eq, hl, e1], r1⟩
  | [r, s], hl, hv =>
    dsimp only at hv
    split at hv
    · rename_i x y hx hy
      cases hv
      obtain ⟨u, e1, r1⟩ := (res1E_ok hx).run hI hT
      obtain ⟨u2, e2, r2⟩ := (res1E_ok hy).run hI hT
      refine ⟨.tuple #[u, u2], by simp [results_eq, hl, e1, e2], .tup _ _ rfl fun i hi => ?_⟩
      rcases i with _ | _ | i
      · exact r1
      · exact r2
      · simp at hi; omega
    · cases hv
  | [r, s, q], hl, hv =>
    dsimp only at hv
    split at hv
    · rename_i x y z hx hy hz
      cases hv
      obtain ⟨u, e1, r1⟩ := (res1E_ok hx).run hI hT
      obtain ⟨u2, e2, r2⟩ := (res1E_ok hy).run hI hT
      obtain ⟨u3, e3, r3⟩ := (res1E_ok hz).run hI hT
      refine ⟨.tuple #[u, u2, u3], by simp [results_eq, hl, e1, e2, e3], .tup _ _ rfl fun i hi => ?_⟩
      rcases i with _ | _ | _ | i
      · exact r1
      · exact r2
      · exact r3
      · simp at hi; omega
    · cases hv
  | _ :: _ :: _ :: _ :: _, hl, hv => cases hv
theorem xbody_ok {ex : Code → List AV → HS → XR} (ih : ExOk P ex) {f : FuncId} {fn : Func} (hf : P.funcs[f]? = some fn) {args : List AV} {H H' : HS} {v : AV} {a : Bool} {l : Nat} {m : Bool} (h : xbody K ex fn args H = some (v, H', a, l, m)) : ACalls P f args H (Ret v H') ∧ Eff a l m H H' ∧ fn.body.isNone = false := by
  unfold xbody at h
  split at h
  · rename_i k hb
    cases hx : xcode K ex k (args ++ List.replicate (fn.ntmps - args.length) .un) H [] with
    | none => rw [hx] at h; cases h
    | some r =>
      obtain ⟨e, T1, H1, D1, l1⟩ := r
      rw [hx] at h
      obtain ⟨hA, hF⟩ := xcode_ok ih k _ _ _ _ _ _ _ _ hx
      have fin : ∀ (he : e.exit' = .ret ∨ e.exit' = .normal), (if colsOk H.maps.length D1 = true then match dendX K ex D1 H1 with
          | some (H2, l2) => match resE (P := P) fn.results T1 H2 with
            | some v => some (v, H2, true, min l1 l2, true)
            | none => none
          | none => none
        else none) = some (v, H', a, l, m) → ACalls P f args H (Ret v H') ∧ Eff a l m H H' ∧ fn.body.isNone = false := by
        intro he h
        split at h
        · rename_i hcol
          split at h
          · rename_i H2 l2 hd
            split at h
            · rename_i u hu
              cases h
              obtain ⟨q1, q2, q3, q4, q5⟩ := dendX_ok ih _ _ _ _ _ hd hcol
              refine ⟨acalls_bodyX hf hb _ hA ?_, ⟨fun hh => (by cases hh), ?_, ?_, fun hh => (by cases hh), q4.trans hF.x, ?_⟩, by rw [hb]; rfl⟩
              · rintro e2 T2 S2 D2 ⟨rfl, rfl, rfl, rfl⟩
                refine ⟨he, dend_mono (fun S hS => ?_) _ _ q1⟩
                subst hS
                intro B w0 c w tmps hI hT
                obtain ⟨x, hx1, hx2⟩ := res_run hu B w0 c w tmps hI hT
                exact ⟨x, _, _, c, hx1, Le.refl c, hx2, hI, rfl, rfl⟩
              · exact fun i hi hl => (q2 i (by omega) (Nat.lt_of_lt_of_le hl hF.len)).trans (hF.blk i (by omega) hl)
              · exact Nat.le_trans hF.len q3
              · intro i hi
                have h1 := hF.map i hi
                have hb2 : i < H1.maps.length := by
                  rw [List.getElem?_eq_getElem hi] at h1
                  exact (List.getElem?_eq_some_iff.1 h1).1
                exact (q5 i hi hb2).trans h1
            · cases h
          · cases h
        · cases h
      cases e with
      | exit id => cases h
      | normal => exact fin (.inr rfl) h
      | ret => exact fin (.inl rfl) h
  · cases h
theorem callX_ok {ex : Code → List AV → HS → XR} (ih : ExOk P ex) : FnOk (P := P) (callX K ex) := by
  intro f args H v H' a l m h
  unfold callX at h
  split at h
  · exact callP_ok ih _ _ _ _ _ _ _ _ h
  · split at h
    · rename_i fn hfn
      obtain ⟨hf, hname⟩ := K.funcs_ok _ _ hfn
      obtain ⟨h1, h2, h3⟩ := xbody_ok ih hf h
      exact ⟨h1, h2, fn, hf, hname, h3⟩
    · cases h
theorem yield_ok {ex : Code → List AV → HS → XR} (ih : ∀ (k : Code) (T : List AV) (H : HS) (e : Ex) (T' : List AV) (H' : HS) (a : Bool) (l : Nat) (m : Bool), ex k T H = some (e, T', H', a, l, m) → AW P k (Is e.exit' T' H') T H ∧ Eff a l m H H') {E : Operand → AV} {fo x y : Operand} {idx : Nat} {H H' : HS} {v : AV} {a : Bool} {l : Nat} {m : Bool}
    (hE : E fo = .fn (.yield 0) [] [.iter idx]) (h : yieldX ex idx (E x) (E y) H = some (v, H', a, l, m)) :
    (∀ (dst : Option Tmp) (ts : Array TypeId) (ty : TypeId) (pos : String) (after : Array Edge) (gd : Option (Nat × Bool)), OpR P ⟨dst, .call ⟨.value fo, #[x, y], ts⟩, ty, pos, after, gd⟩ E H (Ret v H')) ∧ Eff a l m H H' := by
  unfold yieldX at h
  split at h
  · rename_i p q asg bd T hK
    rw [forceAs_eq] at h
    split at h
    · rename_i T1 H1 a1 l1 hasg
      split at h
      · rename_i T2 H2 a2 l2 m2 hbd
        cases h
        obtain ⟨hA, hEa⟩ := ih _ _ _ _ _ _ _ _ _ hasg
        obtain ⟨hB, hEb⟩ := ih _ _ _ _ _ _ _ _ _ hbd
        have hm1 : H1.maps = H.maps := (hEa.frm.rest rfl).2
        have hidx : idx < H.maps.length := (List.getElem?_eq_some_iff.1 hK).1
        have hK1 : H1.maps[idx]? = some (.rnd #[p, q] asg bd .ready none T) := by rw [hm1]; exact hK
        have hlen : (H1.setM idx (.rnd #[p, q] asg bd .busy none T)).maps.length = H.maps.length := by simp [HS.setM, hm1]
        have hK2 : H2.maps[idx]? = some (.rnd #[p, q] asg bd .busy none T) := by
          rw [hEb.frm.map idx (by rw [hlen]; exact hidx)]
          simp [HS.setM, hm1, hidx]
        refine ⟨fun dst ts ty pos after gd => opR_yield hE hK (aw_mono hA ?_), ⟨fun hh => (by cases hh), ?_, ?_, fun hh => (by cases hh), ?_, ?_⟩⟩
        · rintro e T3 H3 ⟨rfl, rfl, rfl⟩
          refine ⟨rfl, hK1, aw_mono hB ?_⟩
          rintro e T3 H3 ⟨rfl, rfl, rfl⟩
          exact ⟨hK2, rfl, rfl⟩
        · intro i hi hl
          have h1 := hEa.frm.blk i (by omega) hl
          have h2 := hEb.frm.blk i (by omega) (show i < H1.blks.length from Nat.lt_of_lt_of_le hl hEa.frm.len)
          exact h2.trans h1
        · exact Nat.le_trans hEa.frm.len hEb.frm.len
        · exact hEb.frm.x.trans hEa.frm.x
        · intro i hi
          by_cases hii : idx = i
          · subst hii
            have hlt : idx < H2.maps.length := (List.getElem?_eq_some_iff.1 hK2).1
            rw [hK]
            simp [HS.setM, hlt]
          · have h2 := hEb.frm.map i (by rw [hlen]; exact hi)
            simp only [HS.setM] at h2 ⊢
            rw [List.getElem?_set_ne hii, h2, List.getElem?_set_ne hii, hm1]
      · cases h
    · cases h
  · cases h
theorem callV_ok {ex : Code → List AV → HS → XR} (ih : ∀ (k : Code) (T : List AV) (H : HS) (e : Ex) (T' : List AV) (H' : HS) (a : Bool) (l : Nat) (m : Bool), ex k T H = some (e, T', H', a, l, m) → AW P k (Is e.exit' T' H') T H ∧ Eff a l m H H') (hc : FnOk (P := P) (callX K ex)) : CallOk (P := P) (callV K ex) := by
  intro E fo args H H' v a l m h
  unfold callV at h
  split at h
  · rename_i f fs cs hE
    obtain ⟨h1, h5, fn, h2, h3, h4⟩ := hc _ _ _ _ _ _ _ _ h
    exact ⟨fun _ _ _ _ _ _ => op_call hE h2 h3 h4 h1, h5⟩
  · rename_i idx hE
    obtain ⟨al⟩ := args
    split at h
    · rename_i vx vy hargs
      match al, hargs with
      | [x, y], hargs =>
        injection hargs with e1 e2
        injection e2 with e2 e3
        subst e1 e2
        exact yield_ok ih hE h
    · cases h
  · cases h
theorem exec_ok : ∀ (n : Nat) (k : Code) (T : List AV) (H : HS) (e : Ex) (T' : List AV) (H' : HS) (a : Bool) (l : Nat) (m : Bool), exec K n k T H = some (e, T', H', a, l, m) → (AW P k (Is e.exit' T' H') T H ∧ Eff a l m H H') ∧ ∀ k0, k = .loop k0 → AWL P k0 (Is e.exit' T' H') T H
  | 0, _, _, _, _, _, _, _, _, _, h => by cases h
  | n + 1, k, T, H, e, T', H', a, l, m, h => by
    have ih : ∀ (k : Code) (T : List AV) (H : HS) (e : Ex) (T' : List AV) (H' : HS) (a : Bool) (l : Nat) (m : Bool), exec K n k T H = some (e, T', H', a, l, m) → AW P k (Is e.exit' T' H') T H ∧ Eff a l m H H' := fun k T H e T' H' a l m h => (exec_ok n k T H e T' H' a l m h).1
    have isn : ∀ {e : Exit} {T : List AV} {H : HS}, Is e T H e T H := ⟨rfl, rfl, rfl⟩
    cases k with
    | skip =>
      simp only [exec, Option.some.injEq, Prod.mk.injEq] at h
      obtain ⟨rfl, rfl, rfl, rfl, rfl, rfl⟩ := h
      exact ⟨⟨aw_skip isn, .refl _ _ _⟩, fun _ h => by cases h⟩
    | label l =>
      simp only [exec, Option.some.injEq, Prod.mk.injEq] at h
      obtain ⟨rfl, rfl, rfl, rfl, rfl, rfl⟩ := h
      exact ⟨⟨aw_label isn, .refl _ _ _⟩, fun _ h => by cases h⟩
    | exit id =>
      simp only [exec, Option.some.injEq, Prod.mk.injEq] at h
      obtain ⟨rfl, rfl, rfl, rfl, rfl, rfl⟩ := h
      exact ⟨⟨aw_exit isn, .refl _ _ _⟩, fun _ h => by cases h⟩
    | ret =>
      simp only [exec, Option.some.injEq, Prod.mk.injEq] at h
      obtain ⟨rfl, rfl, rfl, rfl, rfl, rfl⟩ := h
      exact ⟨⟨aw_ret isn, .refl _ _ _⟩, fun _ h => by cases h⟩
    | seq x y =>
      refine ⟨?_, fun _ h => by cases h⟩
      simp only [exec] at h
      cases hx : exec K n x T H with
      | none => rw [hx] at h; cases h
      | some r =>
        obtain ⟨e1, T1, H1, a1, l1, m1⟩ := r
        rw [hx] at h
        obtain ⟨hA, hE⟩ := ih _ _ _ _ _ _ _ _ _ hx
        cases e1 with
        | normal =>
          dsimp only at h
          cases hy : exec K n y T1 H1 with
          | none => rw [hy] at h; cases h
          | some r =>
            obtain ⟨e2, T2, H2, a2, l2, m2⟩ := r
            rw [hy] at h
            cases h
            obtain ⟨hB, hF⟩ := ih _ _ _ _ _ _ _ _ _ hy
            refine ⟨aw_seq (aw_mono hA ?_), hE.trans hF⟩
            rintro e2 T2 H2 ⟨rfl, rfl, rfl⟩
            exact hB
        | exit id =>
          cases h
          refine ⟨aw_seq (aw_mono hA ?_), hE⟩
          rintro e2 T2 H2 ⟨rfl, rfl, rfl⟩
          exact isn
        | ret =>
          cases h
          refine ⟨aw_seq (aw_mono hA ?_), hE⟩
          rintro e2 T2 H2 ⟨rfl, rfl, rfl⟩
          exact isn
    | cond c x y =>
      refine ⟨?_, fun _ h => by cases h⟩
      simp only [exec] at h
      split at h
      · rename_i b hc
        obtain ⟨hA, hE⟩ := ih _ _ _ _ _ _ _ _ _ h
        refine ⟨aw_cond hc (fun hb => ?_) (fun hb => ?_), hE⟩
        · subst hb; exact hA
        · subst hb; exact hA
      · cases h
    | block id x =>
      refine ⟨?_, fun _ h => by cases h⟩
      simp only [exec] at h
      cases hx : exec K n x T H with
      | none => rw [hx] at h; cases h
      | some r =>
        obtain ⟨e1, T1, H1, a1, l1, m1⟩ := r
        rw [hx] at h
        obtain ⟨hA, hE⟩ := ih _ _ _ _ _ _ _ _ _ hx
        cases e1 with
        | normal =>
          cases h
          refine ⟨aw_block (aw_mono hA ?_), hE⟩
          rintro e2 T2 H2 ⟨rfl, rfl, rfl⟩
          exact isn
        | ret =>
          cases h
          refine ⟨aw_block (aw_mono hA ?_), hE⟩
          rintro e2 T2 H2 ⟨rfl, rfl, rfl⟩
          exact isn
        | exit i =>
          dsimp only at h
          by_cases hi : i = id
          · rw [if_pos hi] at h
            cases h
            refine ⟨aw_block (aw_mono hA ?_), hE⟩
            rintro e2 T2 H2 ⟨rfl, rfl, rfl⟩
            subst hi
            exact inBlock_here isn
          · rw [if_neg hi] at h
            cases h
            refine ⟨aw_block (aw_mono hA ?_), hE⟩
            rintro e2 T2 H2 ⟨rfl, rfl, rfl⟩
            exact inBlock_past (by simpa using hi) isn
    | scope x =>
      refine ⟨?_, fun _ h => by cases h⟩
      simp only [exec] at h
      obtain ⟨hA, hE⟩ := ih _ _ _ _ _ _ _ _ _ h
      refine ⟨aw_scope (aw_mono hA ?_), hE⟩
      rintro e2 T2 H2 ⟨rfl, rfl, rfl⟩
      cases e <;> exact isn
    | loop x =>
      have hL : AWL P x (Is e.exit' T' H') T H ∧ Eff a l m H H' := by
        simp only [exec] at h
        cases hx : exec K n x T H with
        | none => rw [hx] at h; cases h
        | some r =>
          obtain ⟨e1, T1, H1, a1, l1, m1⟩ := r
          rw [hx] at h
          obtain ⟨hA, hE⟩ := ih _ _ _ _ _ _ _ _ _ hx
          cases e1 with
          | normal =>
            dsimp only at h
            cases hy : exec K n (.loop x) T1 H1 with
            | none => rw [hy] at h; cases h
            | some r =>
              obtain ⟨e2, T2, H2, a2, l2, m2⟩ := r
              rw [hy] at h
              cases h
              obtain ⟨⟨_, hF⟩, hB⟩ := exec_ok n (.loop x) T1 H1 _ _ _ _ _ _ hy
              exact ⟨awl_turn hA (hB x rfl), hE.trans hF⟩
          | exit i => cases h; exact ⟨awl_out (by intro h; cases h) hA, hE⟩
          | ret => cases h; exact ⟨awl_out (by intro h; cases h) hA, hE⟩
      exact ⟨⟨aw_of_awl hL.1, hL.2⟩, fun k0 hk => by cases hk; exact hL.1⟩
    | region id ops draw =>
      refine ⟨?_, fun _ h => by cases h⟩
      simp only [exec] at h
      cases hx : opsE K (callV K (exec K n)) ops ops.toList T H with
      | none => rw [hx] at h; cases h
      | some r =>
        obtain ⟨T1, H1, rs⟩ := r
        rw [hx] at h
        have hE := opsE_eff (callV_ok ih (callX_ok ih)) _ _ _ _ _ _ hx
        obtain ⟨ol⟩ := ops
        cases draw with
        | false =>
          dsimp only at h
          rw [outX_eq] at h
          cases h
          exact ⟨aw_region (al_of_drun ol _ T H (drun_mono (fun T2 H2 ⟨h1, h2⟩ => ⟨rfl, h1, h2⟩) _ _ _ _ (opsE_A (callV_ok ih (callX_ok ih)) _ _ _ _ _ _ hx))), hE⟩
        | true =>
          dsimp only at h
          split at h
          · rename_i hc
            rw [outX_eq] at h
            cases h
            have hm := K.mixed_ok
            rw [Bool.or_eq_true] at hc
            refine ⟨?_, hE⟩
            rcases hc with hd | hd
            · exact aw_draw _ hm (drawF_ok hd) (drun_mono (fun T2 H2 ⟨h1, h2⟩ => ⟨rfl, h1, h2⟩) _ _ _ _ (opsE_A (callV_ok ih (callX_ok ih)) _ _ _ _ _ _ hx))
            · have hB := opsE_B (states := H' :: rs.map (·.H)) (callV_ok ih (callX_ok ih)) _ _ _ _ _ _ hx (List.mem_cons_self ..) fun r hr => List.mem_cons_of_mem _ (List.mem_map_of_mem hr)
              refine aw_drawY _ _ hm (drawF_ok hd) (H := H) ?_ (drun_mono (fun T2 H2 ⟨h1, h2⟩ => ⟨⟨rfl, h1, h2⟩, by rw [h2]; exact List.mem_cons_self ..⟩) _ _ _ _ hB)
              cases ol with
              | nil =>
                simp only [opsE, Option.some.injEq, Prod.mk.injEq] at hx
                rw [hx.2.1]
                exact List.mem_cons_self ..
              | cons o ol =>
                simp only [opsE, putK_eq, forceA_eq] at hx
                split at hx
                · cases hx
                · split at hx
                  · cases hx; exact List.mem_cons_of_mem _ (List.mem_cons_self ..)
                  · cases hx
                · split at hx
                  · cases hx
                  · split at hx
                    · cases hx; exact List.mem_cons_of_mem _ (List.mem_cons_self ..)
                    · cases hx
          · cases h
    | _ => cases h
end
end Go.AV
namespace Go.AV
open Go.RowKit
def asI : AV → Option (IntKind × Int)
  | .d (.v (.int k n)) => some (k, n)
  | _ => none
def asS : AV → Option (List UInt8)
  | .d (.v (.string b)) => some b.data.toList
  | _ => none
def asB : AV → Option Bool
  | .d (.v (.bool b)) => some b
  | _ => none
def asL (sz : Nat) : AV → Option (List DV)
  | .own _ s xs => if s = sz then some xs else none
  | .d (.lst s xs) => if s = sz then some xs else none
  | .d (.v (.slice none 0 0)) => some []
  | _ => none
def asDs : List AV → Option (List DV)
  | [] => some []
  | .d x :: l => if x.one then (asDs l).map (x :: ·) else none
  | _ :: _ => none
def unBY : List DV → Option (List UInt8)
  | [] => some []
  | .v (.int .u8 n) :: l => if 0 ≤ n ∧ n ≤ 255 then (unBY l).map (UInt8.ofNat n.toNat :: ·) else none
  | _ :: _ => none
theorem asI_ok {v : AV} {k : IntKind} {n : Int} (h : asI v = some (k, n)) : v = .d (.v (.int k n)) := by
  unfold asI at h; split at h <;> simp_all
theorem asS_ok {v : AV} {l : List UInt8} (h : asS v = some l) : v = .d (S l) := by
  unfold asS at h
  split at h
  · rename_i b
    cases h
    obtain ⟨d⟩ := b
    simp [S]
  · cases h
theorem asB_ok {v : AV} {b : Bool} (h : asB v = some b) : v = .d (TF b) := by
  unfold asB at h; split at h <;> simp_all [TF]
theorem asL_ok {sz : Nat} {v : AV} {xs : List DV} (h : asL sz v = some xs) : LL v sz xs := by
  unfold asL at h
  split at h
  · split at h
    · rename_i e; cases h; subst e; exact .own _ _ _
    · cases h
  · split at h
    · rename_i e; cases h; subst e; exact .d _ _
    · cases h
  · cases h; exact .nil _
  · cases h
theorem asDs_ok : ∀ {l : List AV} {ds : List DV}, asDs l = some ds → l = ds.map .d ∧ ∀ d ∈ ds, d.one = true
  | [], ds, h => by cases h; exact ⟨rfl, by simp⟩
  | .d x :: l, ds, h => by
    simp only [asDs] at h
    split at h
    · rename_i h1
      obtain ⟨r, hr, e⟩ := Option.map_eq_some_iff.1 h
      cases e
      obtain ⟨q1, q2⟩ := asDs_ok hr
      exact ⟨by rw [q1]; rfl, by simpa [h1] using q2⟩
    · cases h
theorem unBY_ok : ∀ {xs : List DV} {l : List UInt8}, unBY xs = some l → xs = l.map BY
  | [], l, h => by cases h; rfl
  | x :: xs, l, h => by
    unfold unBY at h
    split at h
    · rename_i e; cases e
    · rename_i n l' e
      cases e
      split at h
      · rename_i hb
        obtain ⟨r, hr, e⟩ := Option.map_eq_some_iff.1 h
        cases e
        rw [List.map_cons, ← unBY_ok hr]
        congr 1
        have : ((UInt8.ofNat n.toNat).toNat : Int) = n := by
          rw [UInt8.toNat_ofNat']
          omega
        simp only [BY, this]
      · cases h
    · cases h
section
variable {P : Program} [Wins P] {E : Operand → AV} {H : HS} {dst : Option Tmp} {ty : TypeId} {pos : String} {after : Array Edge} {gd : Option (Nat × Bool)}
def binI (k : IntKind) (op : BinOp) (m n : Int) : Option DV := match op with
  | .add => some (.v (.int k (k.wrap (m + n))))
  | .sub => some (.v (.int k (k.wrap (m - n))))
  | .mul => some (.v (.int k (k.wrap (m * n))))
  | .quo => if n = 0 then none else some (.v (.int k (k.wrap (m.tdiv n))))
  | .rem => if n = 0 then none else some (.v (.int k (m.tmod n)))
  | .and => some (.v (.int k (k.wrap (BitVec.ofInt k.bits m &&& BitVec.ofInt k.bits n).toNat)))
  | .or => some (.v (.int k (k.wrap (BitVec.ofInt k.bits m ||| BitVec.ofInt k.bits n).toNat)))
  | .xor => some (.v (.int k (k.wrap (BitVec.ofInt k.bits m ^^^ BitVec.ofInt k.bits n).toNat)))
  | .eql => some (TF (m == n))
  | .neq => some (TF (m != n))
  | .lss => some (TF (decide (m < n)))
  | .leq => some (TF (decide (m ≤ n)))
  | .gtr => some (TF (decide (n < m)))
  | .geq => some (TF (decide (n ≤ m)))
  | _ => none
theorem binI_ok {x y : Operand} {t t' : TypeId} {k : IntKind} {op : BinOp} {m n : Int} {r : DV} (hx : E x = .d (.v (.int k m))) (hy : E y = .d (.v (.int k n))) (h : binI k op m n = some r) : OpR P ⟨dst, .binOp op t x y t', ty, pos, after, gd⟩ E H (Ret (.d r) H) := by
  cases op <;> simp only [binI, reduceCtorEq, Option.some.injEq] at h
  case add => subst h; exact op_add hx hy rfl
  case sub => subst h; exact op_sub hx hy rfl
  case mul => subst h; exact op_mul hx hy rfl
  case quo =>
    split at h
    · cases h
    · rename_i h0; cases h; exact op_quo hx hy h0 rfl
  case rem =>
    split at h
    · cases h
    · rename_i h0; cases h; exact op_rem hx hy h0 rfl
  case and => subst h; exact op_and hx hy rfl
  case or => subst h; exact op_or hx hy rfl
  case xor => subst h; exact op_xor hx hy rfl
  case eql => subst h; exact op_eqI hx hy
  case neq => subst h; exact op_neI hx hy
  case lss => subst h; exact op_ltI hx hy
  case leq => subst h; exact op_leI hx hy
  case gtr => subst h; exact op_gtI hx hy
  case geq => subst h; exact op_geI hx hy
def binS (op : BinOp) (l l' : List UInt8) : Option DV := match op with
  | .eql => some (TF (l == l'))
  | .neq => some (TF (!(l == l')))
  | .lss => some (TF (Op.bytesLess l l'))
  | .gtr => some (TF (!(Op.bytesLess l l' || l == l')))
  | .leq => some (TF (Op.bytesLess l l' || l == l'))
  | .geq => some (TF (!(Op.bytesLess l l')))
  | .add => if l.length + l'.length ≤ 9223372036854775807 then some (S (l ++ l')) else none
  | _ => none
theorem binS_ok {x y : Operand} {t t' : TypeId} {op : BinOp} {l l' : List UInt8} {r : DV} (hx : E x = .d (S l)) (hy : E y = .d (S l')) (h : binS op l l' = some r) : OpR P ⟨dst, .binOp op t x y t', ty, pos, after, gd⟩ E H (Ret (.d r) H) := by
  cases op <;> simp only [binS, reduceCtorEq, Option.some.injEq] at h
  case eql => subst h; exact op_eqS hx hy
  case neq => subst h; exact op_neS hx hy
  case lss => subst h; exact op_ltS hx hy
  case gtr => subst h; exact op_gtS hx hy
  case leq => subst h; exact op_leS hx hy
  case geq => subst h; exact op_geS hx hy
  case add =>
    split at h
    · rename_i hl; cases h; exact op_addS hx hy hl
    · cases h
def binE (P : Program) (op : BinOp) (t : TypeId) (a b : AV) : Option AV :=
  match a, b with
  | .d (.v (.int k m)), .d (.v (.int k' n)) => match op with
    | .shl => if 0 ≤ n then some (.d (.v (.int k (k.wrap (m * 2 ^ (min n.toNat k.bits)))))) else none
    | .shr => if 0 ≤ n then some (.d (.v (.int k (m.fdiv (2 ^ (min n.toNat k.bits)))))) else none
    | op => if k = k' then (binI k op m n).map .d else none
  | .d (.v (.string s)), .d (.v (.string s')) => (binS op s.data.toList s'.data.toList).map .d
  | .d (.v (.bool m)), .d (.v (.bool n)) => match P.underlying t with
    | some .bool => match op with
      | .eql => some (.d (TF (m == n)))
      | .neq => some (.d (TF (!(m == n))))
      | _ => none
    | _ => none
  | .ptr _ _, .d (.v (.pointer none)) => match P.underlying t with
    | some (.pointer _) => match op with
      | .eql => some (.d (TF false))
      | .neq => some (.d (TF true))
      | _ => none
    | _ => none
  | .d (.v (.pointer none)), .d (.v (.pointer none)) => match P.underlying t with
    | some (.pointer _) => match op with
      | .eql => some (.d (TF true))
      | .neq => some (.d (TF false))
      | _ => none
    | _ => none
  | _, _ => none
theorem op_nil_nil' {x y : Operand} {t t' el : TypeId} (ht : P.underlying t = some (.pointer el)) (hx : E x = .d (.v (.pointer none))) (hy : E y = .d (.v (.pointer none))) : OpR P ⟨dst, .binOp .neq t x y t', ty, pos, after, gd⟩ E H (Ret (.d (TF false)) H) :=
  op_bin_of (.bool false) hx hy rfl (fun w => by simp [eqGuard]) fun w => by
    have h : ∀ d : Nat, (Op.equalIn (d + 1) t (.pointer none) (.pointer none)).run P w = .ok true w := fun d => by simp [Op.equalIn, run_underlying ht]
    simp only [binOp]
    simp [Op.equal, Op.maxDepth, h 9999]
theorem binE_ok {x y : Operand} {t t' : TypeId} {op : BinOp} {v : AV} (h : binE P op t (E x) (E y) = some v) : OpR P ⟨dst, .binOp op t x y t', ty, pos, after, gd⟩ E H (Ret v H) := by
  unfold binE at h
  split at h
  · rename_i k m k' n hx hy
    split at h
    · split at h
      · rename_i h0; cases h; exact op_shl hx hy h0 rfl
      · cases h
    · split at h
      · rename_i h0; cases h; exact op_shr hx hy h0 rfl
      · cases h
    · split at h
      · rename_i hk
        subst hk
        obtain ⟨r, hr, e⟩ := Option.map_eq_some_iff.1 h
        cases e
        exact binI_ok hx hy hr
      · cases h
  · rename_i b b' hx hy
    obtain ⟨r, hr, e⟩ := Option.map_eq_some_iff.1 h
    cases e
    exact binS_ok (asS_ok (by rw [hx]; rfl)) (asS_ok (by rw [hy]; rfl)) hr
  · rename_i m n hx hy
    split at h
    · rename_i ht
      split at h
      · cases h; exact op_eqB ht hx hy
      · cases h; exact op_neB ht hx hy
      · cases h
    · cases h
  · rename_i id off hx hy
    split at h
    · rename_i el ht
      split at h
      · cases h; exact op_ptr_nil ht hx hy
      · cases h; exact op_ptr_some ht hx hy
      · cases h
    · cases h
  · rename_i hx hy
    split at h
    · rename_i el ht
      split at h
      · cases h; exact op_nil_nil ht hx hy
      · cases h; exact op_nil_nil' ht hx hy
      · cases h
    · cases h
  · cases h
def unE (op : UnOp) (a : AV) : Option AV :=
  match op, a with
  | .not, .d (.v (.bool b)) => some (.d (TF (!b)))
  | .neg, .d (.v (.int k m)) => some (.d (.v (.int k (k.wrap (0 - m)))))
  | .xor, .d (.v (.int k m)) => some (.d (.v (.int k (k.wrap (BitVec.ofInt k.bits (if k.signed then -1 else k.max) ^^^ BitVec.ofInt k.bits m).toNat))))
  | _, _ => none
theorem unE_ok {x : Operand} {t : TypeId} {op : UnOp} {v : AV} (h : unE op (E x) = some v) : OpR P ⟨dst, .unOp op t x, ty, pos, after, gd⟩ E H (Ret v H) := by
  unfold unE at h
  split at h
  · rename_i b hx; cases h; exact op_not hx
  · rename_i k m hx; cases h; exact op_neg hx rfl
  · rename_i k m hx
    cases h
    exact op_un_of _ hx rfl fun w => by simp [Op.unary, Op.intBits]
  · cases h
def convE (P : Program) (t t' : TypeId) (a : AV) : Option AV :=
  match P.underlying t, P.underlying t' with
  | some _, some (.int k') => match a with
    | .d (.v (.int _ m)) => some (.d (.v (.int k' (k'.wrap m))))
    | _ => none
  | some .string, some .string => (asS a).map fun l => .d (S l)
  | some .string, some (.slice e) => match P.underlying e with
    | some (.int .u8) => (asS a).map fun l => .d (.lst 1 (l.map BY))
    | _ => none
  | some (.slice e), some .string => match P.underlying e with
    | some (.int .u8) => match asL 1 a with
      | some xs => (unBY xs).map fun l => .d (S l)
      | none => none
    | _ => none
  | _, _ => none
theorem convE_ok {x : Operand} {t t' : TypeId} {v : AV} (h : convE P t t' (E x) = some v) : OpR P ⟨dst, .convert t t' x, ty, pos, after, gd⟩ E H (Ret v H) := by
  unfold convE at h
  split at h
  · rename_i d k' ht ht'
    split at h
    · rename_i k m hx
      cases h
      exact op_convI (by rw [ht]; rfl) ht' hx rfl
    · cases h
  · rename_i ht ht'
    obtain ⟨l, hl, e⟩ := Option.map_eq_some_iff.1 h
    cases e
    exact op_convSS (by rw [ht]; rfl) ht' (asS_ok hl)
  · rename_i e ht ht'
    split at h
    · rename_i he
      obtain ⟨l, hl, e⟩ := Option.map_eq_some_iff.1 h
      cases e
      exact op_bytes ht ht' he (asS_ok hl)
    · cases h
  · rename_i e ht ht'
    split at h
    · rename_i he
      split at h
      · rename_i xs hxs
        obtain ⟨l, hl, e⟩ := Option.map_eq_some_iff.1 h
        cases e
        exact op_string ht ht' he (asL_ok hxs) (unBY_ok hl)
      · cases h
    · cases h
  · cases h
def fieldE (P : Program) (t : TypeId) (i : Nat) (a : AV) : Option AV :=
  match P.underlying t with
  | some (.struct fs) => match fs[i]? with
    | some f => match (P.info? f.type).map (·.size) with
      | some n => if (n == 0) = false then match a with
          | .elt cs => some (.elt (cs.drop f.offset))
          | .ptr id off => some (.ptr id (off + f.offset))
          | _ => none
        else none
      | none => none
    | none => none
  | _ => none
theorem fieldE_ok {x : Operand} {t : TypeId} {i : Nat} {v : AV} (h : fieldE P t i (E x) = some v) : OpR P ⟨dst, .fieldAddr t x i, ty, pos, after, gd⟩ E H (Ret v H) := by
  unfold fieldE at h
  split at h
  · rename_i fs ht
    split at h
    · rename_i f hf
      split at h
      · rename_i n hn
        split at h
        · rename_i h0
          split at h
          · rename_i cs hx; cases h; exact op_fieldAddr_elt ht hf hn h0 hx rfl
          · rename_i id off hx; cases h; exact op_fieldAddr_ptr ht hf hn h0 hx
          · cases h
        · cases h
      · cases h
    · cases h
  · cases h
def aggOf : AV → Option (List AV)
  | .agg cs => some cs
  | .d (.agg ds) => some (ds.map .d)
  | _ => none
theorem aggOf_ok {c : Ctx} {x : Value} {a : AV} {cs : List AV} (h : aggOf a = some cs) (hr : Rep c x a) : ∃ vs : Array Value, x = .agg vs ∧ vs.size = cs.length ∧ ∀ i (hi : i < cs.length), Rep c (vs.getD i undef) cs[i] := by
  unfold aggOf at h
  split at h
  · cases h
    cases hr with
    | agg vs _ hl hr => exact ⟨vs, rfl, hl, hr⟩
  · rename_i ds
    cases h
    have hd := hr.d_inv
    cases hd with
    | agg vs _ hl h1 hr => exact ⟨vs, rfl, by simpa using hl, fun i hi => by simp only [List.getElem_map]; exact .d (hr i (by simpa using hi))⟩
  · cases h
def fieldVE (P : Program) (t : TypeId) (i : Nat) (a : AV) : Option AV :=
  match P.underlying t with
  | some (.struct fs) => match fs[i]?, aggOf a with
    | some f, some cs => match P.underlying f.type with
      | some d => match notAgg d with
        | true => cs[f.offset]?
        | false => match (P.info? f.type).map (·.size) with
          | some n => if f.offset + n ≤ cs.length then match asDs ((cs.drop f.offset).take n) with
              | some ds => some (.d (.agg ds))
              | none => some (.agg ((cs.drop f.offset).take n))
            else none
          | none => none
      | none => none
    | _, _ => none
  | _ => none
theorem fieldVE_ok {x : Operand} {t : TypeId} {i : Nat} {v : AV} (h : fieldVE P t i (E x) = some v) : OpR P ⟨dst, .field t x i, ty, pos, after, gd⟩ E H (Ret v H) := by
  refine opR_pure fun c w a hm hops => ?_
  have h1 := hops x (by simp [Op.operands])
  unfold fieldVE at h
  split at h
  · rename_i fs ht
    split at h
    · rename_i f cs hf hcs
      obtain ⟨vs, e1, hl, hr⟩ := aggOf_ok hcs h1
      split at h
      · rename_i d hd
        split at h
        · rename_i hnd
          have hlt : f.offset < cs.length := (List.getElem?_eq_some_iff.1 h).1
          have hv : cs[f.offset] = v := (List.getElem?_eq_some_iff.1 h).2
          have hvs : f.offset < vs.size := by omega
          refine ⟨vs[f.offset], ?_, ?_⟩
          · simp [execOp, e1, Instr.field, run_underlying ht, hf, part, run_isAgg hd, hnd, asAgg, hvs]
          · have := hr f.offset hlt
            rw [hv] at this
            simpa [hvs] using this
        · rename_i hnd
          split at h
          · rename_i n hn
            split at h
            · rename_i hle
              have key : Rep c (.agg (vs.extract f.offset (f.offset + n))) (.agg ((cs.drop f.offset).take n)) := by
                refine .agg _ _ (by simp; omega) fun j hj => ?_
                have hj' : j < n := by simp at hj; omega
                have h2 := hr (f.offset + j) (by omega)
                have e2 : (vs.extract f.offset (f.offset + n)).getD j undef = vs.getD (f.offset + j) undef := by
                  have q1 : f.offset + j < vs.size := by omega
                  have q2 : j < min (f.offset + n) vs.size - f.offset := by omega
                  simp [Array.getD, q1, q2]
                rw [e2, List.getElem_take, List.getElem_drop]
                exact h2
              have hrun : (execOp a.eval ⟨dst, .field t x i, ty, pos, after, gd⟩).run P w = .ok (.value (.agg (vs.extract f.offset (f.offset + n)))) w := by
                simp [execOp, e1, Instr.field, run_underlying ht, hf, part, run_isAgg hd, hnd, asAgg, run_sizeOf hn]
              split at h
              · rename_i ds hds
                cases h
                obtain ⟨q1, q2⟩ := asDs_ok hds
                refine ⟨_, hrun, rep_agg_d q2 ?_⟩
                rw [← q1]; exact key
              · cases h
                exact ⟨_, hrun, key⟩
            · cases h
          · cases h
      · cases h
    · cases h
  · cases h
def nilCE : AV → Option AV
  | .ptr id off => some (.ptr id off)
  | .elt cs => some (.elt cs)
  | _ => none
theorem nilCE_ok {x : Operand} {v : AV} (h : nilCE (E x) = some v) : OpR P ⟨dst, .nilCheck x, ty, pos, after, gd⟩ E H (Ret v H) := by
  unfold nilCE at h
  split at h
  · rename_i id off hx; cases h; exact op_nilCheck_ptr hx
  · rename_i cs hx; cases h; exact op_nilCheck_elt hx
  · cases h
def indexE (P : Program) (t : TypeId) (a b : AV) : Option AV :=
  match P.underlying t with
  | some .string => match asS a, asI b with
    | some l, some (_, n) => if 0 ≤ n then (l[n.toNat]?).map fun c => .d (BY c) else none
    | _, _ => none
  | _ => none
theorem indexE_ok {x y : Operand} {t : TypeId} {v : AV} (h : indexE P t (E x) (E y) = some v) : OpR P ⟨dst, .index t x y, ty, pos, after, gd⟩ E H (Ret v H) := by
  unfold indexE at h
  split at h
  · rename_i ht
    split at h
    · rename_i l k n hx hy
      split at h
      · rename_i h0
        obtain ⟨c, hc, e⟩ := Option.map_eq_some_iff.1 h
        cases e
        exact op_indexS ht (asS_ok hx) (asI_ok hy) h0 hc
      · cases h
    · cases h
  · cases h
theorem op_indexPA {x y : Operand} {t e : TypeId} {sz id n off : Nat} {k : IntKind} {i : Int} (ht : P.underlying t = some (.array n e)) (hn : (P.info? e).map (·.size) = some sz) (hx : E x = .ptr id off) (hy : E y = .d (.v (.int k i))) (h0 : 0 ≤ i) (hi : i < n) :
    OpR P ⟨dst, .indexAddr t x y, ty, pos, after, gd⟩ E H (Ret (.ptr id (off + i.toNat * sz)) H) :=
  opR_pure fun c w a hm hops => by
    have h1 := hops x (by simp [Op.operands])
    rw [hx] at h1
    have h2 := hops y (by simp [Op.operands])
    rw [hy] at h2
    obtain ⟨g, e1, hg⟩ := h1.ptr_inv
    refine ⟨.pointer (some ⟨g, off + i.toNat * sz, none⟩), ?_, .ptr id _ g hg⟩
    simp [execOp, e1, h2.v_eq, Instr.indexAt, Instr.sureAddr, asIntOf, run_underlying ht, h0, hi, run_sizeOf hn, addr_add]
def indexAE (P : Program) (t : TypeId) (a b : AV) : Option AV :=
  match P.underlying t with
  | some (.slice e) => match (P.info? e).map (·.size), asI b with
    | some sz, some (_, n) => if 0 ≤ n then match a with
        | .arr id m _ => if n < m then some (.ptr id (n.toNat * sz)) else none
        | a => match asL sz a with
          | some xs => (xs[n.toNat]?).map fun z => .elt z.cells
          | none => none
      else none
    | _, _ => none
  | some (.array n e) => match (P.info? e).map (·.size), asI b, a with
    | some sz, some (_, i), .ptr id off => if 0 ≤ i ∧ i < n then some (.ptr id (off + i.toNat * sz)) else none
    | _, _, _ => none
  | _ => none
theorem indexAE_ok {x y : Operand} {t : TypeId} {v : AV} (h : indexAE P t (E x) (E y) = some v) : OpR P ⟨dst, .indexAddr t x y, ty, pos, after, gd⟩ E H (Ret v H) := by
  unfold indexAE at h
  split at h
  · rename_i e ht
    split at h
    · rename_i sz k n hs hy
      split at h
      · rename_i h0
        split at h
        · rename_i id m cap hx
          split at h
          · rename_i hlt; cases h; exact op_indexArr ht hs hx (asI_ok hy) h0 hlt rfl
          · cases h
        · split at h
          · rename_i xs hxs
            obtain ⟨z, hz, e⟩ := Option.map_eq_some_iff.1 h
            cases e
            exact op_indexAddr ht hs (asL_ok hxs) (asI_ok hy) h0 hz rfl
          · cases h
      · cases h
    · cases h
  · rename_i n e ht
    split at h
    · rename_i sz k i id off hs hy hx
      split at h
      · rename_i hc; cases h; exact op_indexPA ht hs hx (asI_ok hy) hc.1 hc.2
      · cases h
    · cases h
  · cases h
def sliceE (P : Program) (t : TypeId) (a : AV) (lo hi : Option AV) : Option AV :=
  match P.underlying t with
  | some .string => match asS a with
    | some l => match lo, hi with
      | some b, some c => match asI b, asI c with
        | some (_, i), some (_, j) => if 0 ≤ i ∧ i ≤ j ∧ j ≤ l.length then some (.d (S ((l.drop i.toNat).take (j.toNat - i.toNat)))) else none
        | _, _ => none
      | some b, none => match asI b with
        | some (_, i) => if 0 ≤ i ∧ i ≤ l.length then some (.d (S (l.drop i.toNat))) else none
        | _ => none
      | none, some c => match asI c with
        | some (_, j) => if 0 ≤ j ∧ j ≤ l.length then some (.d (S (l.take j.toNat))) else none
        | _ => none
      | none, none => none
    | none => none
  | some (.slice e) => match (P.info? e).map (·.size) with
    | some sz => match asL sz a with
      | some l => match lo, hi with
        | some b, some c => match asI b, asI c with
          | some (_, i), some (_, j) => if 0 ≤ i ∧ i ≤ j ∧ j ≤ l.length then some (.d (.lst sz ((l.drop i.toNat).take (j.toNat - i.toNat)))) else none
          | _, _ => none
        | some b, none => match asI b with
          | some (_, i) => if 0 ≤ i ∧ i ≤ l.length then some (.d (.lst sz (l.drop i.toNat))) else none
          | _ => none
        | none, some c => match asI c with
          | some (_, j) => if 0 ≤ j ∧ j ≤ l.length then some (.d (.lst sz (l.take j.toNat))) else none
          | _ => none
        | none, none => none
      | none => none
    | none => none
  | _ => none
theorem sliceE_ok {x : Operand} {lo hi : Option Operand} {t : TypeId} {v : AV} (h : sliceE P t (E x) (lo.map E) (hi.map E) = some v) : OpR P ⟨dst, .slice t x lo hi none, ty, pos, after, gd⟩ E H (Ret v H) := by
  unfold sliceE at h
  split at h
  · rename_i ht
    split at h
    · rename_i l hl
      cases lo with
      | some y =>
        cases hi with
        | some z =>
          dsimp only [Option.map_some] at h
          split at h
          · rename_i k i k' j hy hz
            split at h
            · rename_i hb; cases h; exact op_sliceS2 _ ht (asS_ok hl) (asI_ok hy) (asI_ok hz) hb.1 hb.2.1 hb.2.2 rfl
            · cases h
          · cases h
        | none =>
          dsimp only [Option.map_some, Option.map_none] at h
          split at h
          · rename_i k i hy
            split at h
            · rename_i hb; cases h; exact op_sliceS1 _ ht (asS_ok hl) (asI_ok hy) hb.1 hb.2 rfl
            · cases h
          · cases h
      | none =>
        cases hi with
        | some z =>
          dsimp only [Option.map_some, Option.map_none] at h
          split at h
          · rename_i k i hy
            split at h
            · rename_i hb; cases h; exact op_sliceS0 _ ht (asS_ok hl) (asI_ok hy) hb.1 hb.2 rfl
            · cases h
          · cases h
        | none => cases h
    · cases h
  · rename_i e ht
    split at h
    · rename_i sz hs
      split at h
      · rename_i l hl
        cases lo with
        | some y =>
          cases hi with
          | some z =>
            dsimp only [Option.map_some] at h
            split at h
            · rename_i k i k' j hy hz
              split at h
              · rename_i hb; cases h; exact op_sliceL2 _ ht hs (asL_ok hl) (asI_ok hy) (asI_ok hz) hb.1 hb.2.1 hb.2.2 rfl
              · cases h
            · cases h
          | none =>
            dsimp only [Option.map_some, Option.map_none] at h
            split at h
            · rename_i k i hy
              split at h
              · rename_i hb; cases h; exact op_sliceL1 _ ht hs (asL_ok hl) (asI_ok hy) hb.1 hb.2 rfl
              · cases h
            · cases h
        | none =>
          cases hi with
          | some z =>
            dsimp only [Option.map_some, Option.map_none] at h
            split at h
            · rename_i k i hy
              split at h
              · rename_i hb; cases h; exact op_sliceL0 _ ht hs (asL_ok hl) (asI_ok hy) hb.1 hb.2 rfl
              · cases h
            · cases h
          | none => cases h
      · cases h
    · cases h
  · cases h
end
end Go.AV
namespace Go.AV
open Go.RowKit
section
variable {P : Program} [Wins P] {E : Operand → AV} {H : HS} {dst : Option Tmp} {ty : TypeId} {pos : String} {after : Array Edge} {gd : Option (Nat × Bool)}
def buildE (P : Program) (t : TypeId) (parts : List (Nat × AV)) : Option AV :=
  match P.underlying t, (P.info? t).map (·.zero) with
  | some (.struct fs), some (some z) => match places P fs.toList with
    | some pl => if parts.all (fun p => p.2.known) = true then match fillA (fun i => pl[i]?) (z.cells.toList.map constAV) (parts.map fun p => (p.1, p.2.cells)) with
        | some cs => match asDs cs with
          | some ds => some (.d (.agg ds))
          | none => some (.agg cs)
        | none => none
      else none
    | none => none
  | _, _ => none
theorem buildE_ok {t : TypeId} {parts : Array (Nat × Operand)} {v : AV} (h : buildE P t (parts.toList.map fun p => (p.1, E p.2)) = some v) : OpR P ⟨dst, .build t parts, ty, pos, after, gd⟩ E H (Ret v H) := by
  unfold buildE at h
  split at h
  · rename_i fs z ht hz
    split at h
    · rename_i pl hpl
      split at h
      · rename_i hk
        have hk' : parts.toList.all (fun p => (E p.2).known) = true := by simpa [List.all_map, Function.comp_def] using hk
        rw [List.map_map] at h
        have hps : parts.toList.map ((fun p : Nat × AV => (p.1, p.2.cells)) ∘ fun p => (p.1, E p.2)) = parts.toList.map fun p => (p.1, (E p.2).cells) := rfl
        rw [hps] at h
        split at h
        · rename_i cs hcs
          split at h
          · rename_i ds hds
            cases h
            obtain ⟨q1, q2⟩ := asDs_ok hds
            exact op_buildD ds ht hz hpl hk' rfl (by rw [hcs, q1]) q2
          · cases h
            exact op_build ht hz hpl hk' rfl hcs
        · cases h
      · cases h
    · cases h
  · cases h
def elsE : Nat → List (Nat × AV) → Option (List DV)
  | _, [] => some []
  | i, (j, .d y) :: l => if j = i then (elsE (i + 1) l).map (y :: ·) else none
  | _, _ :: _ => none
theorem elsE_ok : ∀ {parts : List (Nat × Operand)} {i : Nat} {ys : List DV}, elsE i (parts.map fun p => (p.1, E p.2)) = some ys → Els E i parts ys
  | [], i, ys, h => by cases h; exact .nil _
  | (j, x) :: l, i, ys, h => by
    rw [List.map_cons] at h
    cases hx : E x with
    | d y =>
      rw [hx] at h
      simp only [elsE] at h
      split at h
      · rename_i hj
        subst hj
        obtain ⟨r, hr, e⟩ := Option.map_eq_some_iff.1 h
        cases e
        exact .cons hx (elsE_ok hr)
      · cases h
    | _ => rw [hx] at h; cases h
def litE (P : Program) (t : TypeId) (len : Nat) (parts : List (Nat × AV)) : Option AV :=
  match P.underlying t with
  | some (.slice e) => match (P.info? e).map (fun i => (i.zero, i.size)) with
    | some (some _, sz) => match elsE 0 parts with
      | some ys => if ys.length = len ∧ ys.all (fun y => y.cells.length == sz) = true ∧ (flat ys).all DV.one = true ∧ len * sz ≤ 16777216 then some (.own none sz ys) else none
      | none => none
    | _ => none
  | _ => none
theorem litE_ok {t : TypeId} {len : Nat} {parts : Array (Nat × Operand)} {v : AV} (h : litE P t len (parts.toList.map fun p => (p.1, E p.2)) = some v) : OpR P ⟨dst, .buildSlice t len parts, ty, pos, after, gd⟩ E H (Ret v H) := by
  unfold litE at h
  split at h
  · rename_i e ht
    split at h
    · rename_i z sz hz
      split at h
      · rename_i ys hys
        split at h
        · rename_i hc
          obtain ⟨hl, hy, h1, hsm⟩ := hc
          cases h
          have hE := elsE_ok hys
          have hy' : ∀ y ∈ ys, y.cells.length = sz := fun y hm => by simpa using List.all_eq_true.1 hy y hm
          have hf := fill_els ys [] hy' (by simp)
          simp only [flat, List.flatMap_nil, List.map_nil, List.nil_append, List.length_nil] at hf
          rw [hl] at hf
          exact op_buildSlice ys ht hz hE.known hE.parts hf hl hy' (fun d hd => List.all_eq_true.1 h1 d hd) hsm
        · cases h
      · cases h
    · cases h
  · cases h
def litCE (P : Program) (t : TypeId) (len : Nat) (parts : List (Nat × AV)) (H : HS) : Option (AV × HS) :=
  match P.underlying t with
  | some (.slice e) => match (P.info? e).map (fun i => (i.zero, i.size)) with
    | some (some _, sz) => if parts.all (fun p => p.2.known) = true ∧ len * sz ≤ 16777216 then match fillA (fun i => some (i * sz, sz)) (List.replicate (len * sz) .un) (parts.map fun p => (p.1, p.2.cells)) with
        | some cs => some (.arr H.nb len len, H.push e cs)
        | none => none
      else none
    | _ => none
  | _ => none
theorem litCE_ok {t : TypeId} {len : Nat} {parts : Array (Nat × Operand)} {v : AV} {H' : HS} (h : litCE P t len (parts.toList.map fun p => (p.1, E p.2)) H = some (v, H')) : OpR P ⟨dst, .buildSlice t len parts, ty, pos, after, gd⟩ E H (Ret v H') := by
  unfold litCE at h
  split at h
  · rename_i e ht
    split at h
    · rename_i z sz hz
      split at h
      · rename_i hc
        have hk' : parts.toList.all (fun p => (E p.2).known) = true := by simpa [List.all_map, Function.comp_def] using hc.1
        rw [List.map_map] at h
        have hps : parts.toList.map ((fun p : Nat × AV => (p.1, p.2.cells)) ∘ fun p => (p.1, E p.2)) = parts.toList.map fun p => (p.1, (E p.2).cells) := rfl
        rw [hps] at h
        split at h
        · rename_i cs hcs
          cases h
          exact op_litC cs ht hz hk' rfl hcs hc.2
        · cases h
      · cases h
    · cases h
  · cases h
def lenE (P : Program) (t : TypeId) (a : AV) : Option AV :=
  match P.underlying t with
  | some .string => (asS a).map fun l => .d (I l.length)
  | some (.slice _) => match a with
    | .own _ _ xs => some (.d (I xs.length))
    | .d (.lst _ xs) => some (.d (I xs.length))
    | .d (.v (.slice none 0 0)) => some (.d (I 0))
    | .arr _ n _ => some (.d (I n))
    | _ => none
  | _ => none
theorem lenE_ok {x : Operand} {t : TypeId} {v : AV} (h : lenE P t (E x) = some v) : OpR P ⟨dst, .call ⟨.builtin .len, #[x], #[t]⟩, ty, pos, after, gd⟩ E H (Ret v H) := by
  unfold lenE at h
  split at h
  · rename_i ht
    obtain ⟨l, hl, e⟩ := Option.map_eq_some_iff.1 h
    cases e
    exact op_lenS ht (asS_ok hl)
  · rename_i e ht
    split at h
    · rename_i hx; cases h; exact op_lenL ht (by rw [hx]; exact .own _ _ _)
    · rename_i hx; cases h; exact op_lenL ht (by rw [hx]; exact .d _ _)
    · rename_i hx; cases h; exact op_lenL (sz := 0) (xs := []) ht (by rw [hx]; exact .nil _)
    · rename_i hx; cases h; exact op_lenArr ht hx
    · cases h
  · cases h
def minE (a b : AV) : Option AV :=
  match asI a, asI b with
  | some (k, m), some (_, n) => some (.d (.v (.int k (if n < m then n else m))))
  | _, _ => none
def maxE (a b : AV) : Option AV :=
  match asI a, asI b with
  | some (k, m), some (_, n) => some (.d (.v (.int k (if n > m then n else m))))
  | _, _ => none
theorem minE_ok {x y : Operand} {ts : Array TypeId} {v : AV} (h : minE (E x) (E y) = some v) : OpR P ⟨dst, .call ⟨.builtin .min, #[x, y], ts⟩, ty, pos, after, gd⟩ E H (Ret v H) := by
  unfold minE at h
  split at h
  · rename_i hx hy; cases h; exact op_min (asI_ok hx) (asI_ok hy)
  · cases h
theorem maxE_ok {x y : Operand} {ts : Array TypeId} {v : AV} (h : maxE (E x) (E y) = some v) : OpR P ⟨dst, .call ⟨.builtin .max, #[x, y], ts⟩, ty, pos, after, gd⟩ E H (Ret v H) := by
  unfold maxE at h
  split at h
  · rename_i hx hy; cases h; exact op_max (asI_ok hx) (asI_ok hy)
  · cases h
def loadE (P : Program) (t : TypeId) (a : AV) (H : HS) : Option AV :=
  match P.underlying t with
  | some d => match a with
    | .elt cs => match notAgg d with
      | true => (cs[0]?).map .d
      | false => match (P.info? t).map (·.size) with
        | some n => if n ≤ cs.length then some (.d (.agg (cs.take n))) else none
        | none => none
    | .ptr id off => match H.blks[id]? with
      | some b => match notAgg d with
        | true => b.cs[off]?
        | false => match (P.info? t).map (·.size) with
          | some n => if off + n ≤ b.cs.length then match asDs ((b.cs.drop off).take n) with
              | some ds => some (.d (.agg ds))
              | none => some (.agg ((b.cs.drop off).take n))
            else none
          | none => none
      | none => none
    | _ => none
  | none => none
theorem loadE_ok {x : Operand} {t : TypeId} {v : AV} (h : loadE P t (E x) H = some v) : OpR P ⟨dst, .load t x, ty, pos, after, gd⟩ E H (Ret v H) := by
  unfold loadE at h
  split at h
  · rename_i d ht
    split at h
    · rename_i cs hx
      split at h
      · rename_i hd
        obtain ⟨y, hy, e⟩ := Option.map_eq_some_iff.1 h
        cases e
        exact op_load_elt ht hd hx hy
      · rename_i hd
        split at h
        · rename_i n hn
          split at h
          · rename_i hl; cases h; exact op_load_elts ht hd hn hx hl rfl
          · cases h
        · cases h
    · rename_i id off hx
      split at h
      · rename_i b hb
        split at h
        · rename_i hd; exact op_load_ptr ht hd hx hb h
        · rename_i hd
          split at h
          · rename_i n hn
            split at h
            · rename_i hl
              split at h
              · rename_i ds hds
                cases h
                obtain ⟨q1, q2⟩ := asDs_ok hds
                exact op_load_ptrsD ds ht hd hn hx hb hl q1 q2
              · cases h
                exact op_load_ptrs ht hd hn hx hb hl rfl
            · cases h
          · cases h
      · cases h
    · cases h
  · cases h
def lookupE (P : Program) (t : TypeId) (a k : AV) (two : Bool) (H : HS) : Option AV :=
  match P.underlying t with
  | some (.map kt et) => match P.underlying kt, (P.info? et).map (·.zero), a, asS k with
    | some .string, some (some z), .map id, some l => match H.maps[id]?, zeroDV z with
      | some (.map es), some d0 => match two with
        | true => some (.tup [.d ((getE es l).getD d0), .d (TF (getE es l).isSome)])
        | false => some (.d ((getE es l).getD d0))
      | _, _ => none
    | _, _, _, _ => none
  | _ => none
theorem lookupE_ok {x k : Operand} {t : TypeId} {two : Bool} {v : AV} (h : lookupE P t (E x) (E k) two H = some v) : OpR P ⟨dst, .lookup t x k two, ty, pos, after, gd⟩ E H (Ret v H) := by
  unfold lookupE at h
  split at h
  · rename_i kt et ht
    split at h
    · rename_i z id l hkt hz hx hk
      split at h
      · rename_i es d0 hm hd
        split at h
        · cases h; exact op_lookup2 ht hkt hz (zeroDV_ok hd) hx (asS_ok hk) hm
        · cases h; exact op_lookup ht hkt hz (zeroDV_ok hd) hx (asS_ok hk) hm
      · cases h
    · cases h
  · cases h
def lenME (P : Program) (t : TypeId) (a : AV) (H : HS) : Option AV :=
  match P.underlying t, a with
  | some (.map _ _), .map id => match H.maps[id]? with
    | some (.map es) => some (.d (I es.length))
    | _ => none
  | _, _ => none
theorem lenME_ok {x : Operand} {t : TypeId} {v : AV} (h : lenME P t (E x) H = some v) : OpR P ⟨dst, .call ⟨.builtin .len, #[x], #[t]⟩, ty, pos, after, gd⟩ E H (Ret v H) := by
  unfold lenME at h
  split at h
  · rename_i kt et id ht hx
    split at h
    · rename_i es hm; cases h; exact op_lenMap ht hx hm
    · cases h
  · cases h
def allocE (P : Program) (t : TypeId) (H : HS) : Option (AV × HS) :=
  match (P.info? t).map (·.zero) with
  | some (some z) => some (.ptr H.nb 0, H.push t (z.cells.toList.map constAV))
  | _ => none
theorem allocE_ok {t : TypeId} {v : AV} {H' : HS} (h : allocE P t H = some (v, H')) : OpR P ⟨dst, .alloc t, ty, pos, after, gd⟩ E H (Ret v H') := by
  unfold allocE at h
  split at h
  · rename_i z hz; cases h; exact op_alloc hz rfl
  · cases h
def boxE (t : TypeId) (a : AV) (H : HS) : Option (AV × HS) :=
  if a.known = true then some (.ptr H.nb 0, H.push t a.cells) else none
theorem boxE_ok {x : Operand} {t : TypeId} {v : AV} {H' : HS} (h : boxE t (E x) H = some (v, H')) : OpR P ⟨dst, .box t x, ty, pos, after, gd⟩ E H (Ret v H') := by
  unfold boxE at h
  split at h
  · rename_i hk; cases h; exact op_box_ptr (AV.known_ne hk) rfl
  · cases h
def storeE (P : Program) (t : TypeId) (a u : AV) (H : HS) : Option (AV × HS) :=
  match (P.info? t).map (·.size), a with
  | some n, .ptr id off => match H.blks[id]? with
    | some b => if u.known = true ∧ u.cells.length = n ∧ off + n ≤ b.cs.length ∧ u.cells.all AV.one = true ∧ b.frz = false then some (.un, H.put id off u.cells) else none
    | none => none
  | _, _ => none
theorem storeE_ok {x y : Operand} {t : TypeId} {v : AV} {H' : HS} (h : storeE P t (E x) (E y) H = some (v, H')) : OpR P ⟨dst, .store t x y, ty, pos, after, gd⟩ E H (Ret v H') := by
  unfold storeE at h
  split at h
  · rename_i n id off hn hx
    split at h
    · rename_i b hb
      split at h
      · rename_i hc
        obtain ⟨h1, h2, h3, h4, h5⟩ := hc
        cases h
        exact op_store hn hx hb (AV.known_ne h1) rfl h2 h3 (fun v hv => List.all_eq_true.1 h4 v hv) h5
      · cases h
    · cases h
  · cases h
def appE (sz : Nat) : AV → Option (Option Nat × List DV)
  | .own t s xs => if s = sz then some (t, xs) else none
  | .d (.v (.slice none 0 0)) => some (none, [])
  | _ => none
theorem appE_ok {sz : Nat} {a : AV} {t : Option Nat} {xs : List DV} (h : appE sz a = some (t, xs)) : App a t sz xs := by
  unfold appE at h
  split at h
  · split at h
    · rename_i e; cases h; subst e; exact .own _ _ _
    · cases h
  · cases h; exact .nil _
  · cases h
def addsE (P : Program) (tx : TypeId) (sz : Nat) (a : AV) : Option (List DV) :=
  match P.underlying tx with
  | some (.slice _) => asL sz a
  | some .string => if sz = 1 then (asS a).map fun l => l.map BY else none
  | _ => none
theorem addsE_ok {tx : TypeId} {sz : Nat} {a : AV} {ys : List DV} (h : addsE P tx sz a = some ys) : Adds P tx a sz ys := by
  unfold addsE at h
  split at h
  · rename_i e ht; exact .list _ _ _ _ ht (asL_ok h)
  · rename_i ht
    split at h
    · rename_i e
      subst e
      obtain ⟨l, hl, e⟩ := Option.map_eq_some_iff.1 h
      cases e
      rw [asS_ok hl]
      exact .str l ht
    · cases h
  · cases h
def okE (H : HS) (t : Option Nat) (n : Nat) : Bool := match t with
  | none => true
  | some i => H.toks[i]? == some n
theorem okE_ok {t : Option Nat} {n : Nat} (h : okE H t n = true) : H.ok t n := by
  intro i hi
  subst hi
  simpa [okE] using h
def appendE (P : Program) (t' tx : TypeId) (a b : AV) (H : HS) : Option (AV × HS) :=
  match P.underlying t' with
  | some (.slice e) => match (P.info? e).map (fun i => (i.zero, i.size, i.bytes)) with
    | some (some z, sz, bytes) => match appE sz a, addsE P tx sz b with
      | some (t, xs), some (y :: ys) => if z.cells.size = sz ∧ okE H t xs.length = true ∧ (xs.length + (y :: ys).length) * bytes ≤ 140737488355328 ∧ xs.length + (y :: ys).length ≤ 140737488355328 then
          some (.own (some (H.tk t)) sz (xs ++ (y :: ys)), H.up t (xs.length + (y :: ys).length)) else none
      | some _, some [] => some (a, H)
      | _, _ => none
    | _ => none
  | _ => none
theorem appendE_ok {x y : Operand} {t' tx : TypeId} {v : AV} {H' : HS} (h : appendE P t' tx (E x) (E y) H = some (v, H')) : OpR P ⟨dst, .call ⟨.builtin .append, #[x, y], #[t', tx]⟩, ty, pos, after, gd⟩ E H (Ret v H') := by
  unfold appendE at h
  split at h
  · rename_i e ht
    split at h
    · rename_i z sz bytes hi
      split at h
      · rename_i t xs u us hx hy
        split at h
        · rename_i hc
          cases h
          exact op_append ht hi hc.1 (appE_ok hx) (addsE_ok hy) (okE_ok hc.2.1) (by simp) hc.2.2.1 hc.2.2.2
        · cases h
      · rename_i r hx hy
        obtain ⟨t, xs⟩ := r
        cases h
        exact op_append0 ht hi (appE_ok hx).ll (addsE_ok hy)
      · cases h
    · cases h
  · cases h
def rangeE (P : Program) (t : TypeId) (a : AV) (H : HS) : Option (AV × HS) :=
  match P.underlying t, a with
  | some (.map _ _), .map id => match H.maps[id]? with
    | some (.map _) => some (.iter H.nm, H.pushM (.iter (some id) 0 none))
    | _ => none
  | _, _ => none
theorem rangeE_ok {x : Operand} {t : TypeId} {v : AV} {H' : HS} (h : rangeE P t (E x) H = some (v, H')) : OpR P ⟨dst, .range t x, ty, pos, after, gd⟩ E H (Ret v H') := by
  unfold rangeE at h
  split at h
  · rename_i kt et id ht hx
    split at h
    · rename_i es hm; cases h; exact op_range ht hx hm
    · cases h
  · cases h
def nextE (a : AV) (H : HS) : Option AV :=
  match a with
  | .iter j => match H.maps[j]? with
    | some (.iter (some id) _ _) => match H.maps[id]? with
      | some (.map []) => some (.tup [.d (TF false)])
      | _ => none
    | _ => none
  | _ => none
theorem nextE_ok {x : Operand} {v : AV} (h : nextE (E x) H = some v) : OpR P ⟨dst, .next x false, ty, pos, after, gd⟩ E H (Ret v H) := by
  unfold nextE at h
  split at h
  · rename_i j hx
    split at h
    · rename_i id n last hj
      split at h
      · rename_i hm
        cases h
        refine opR_to (op_next hx hj hm) ?_
        rintro v H' (⟨rfl, rfl⟩ | ⟨k, d, hk, _⟩)
        · exact ⟨rfl, rfl⟩
        · simp at hk
      · cases h
    · cases h
  · cases h
end
def ptrOf : AV → Nat
  | .ptr id _ => id
  | _ => 0
theorem frm_push {low : Nat} {H : HS} {e : TypeId} {cs : List AV} : Frm low false H (H.push e cs) :=
  ⟨fun i _ hl => by simp only [HS.push]; rw [List.getElem?_append_left hl], by simp [HS.push], fun _ => ⟨rfl, rfl⟩, rfl, fun _ _ => rfl⟩
theorem frm_put {H : HS} {id off : Nat} {vs : List AV} : Frm id false H (H.put id off vs) :=
  ⟨fun i hi _ => by
    have : ¬ id = i := by omega
    simp [HS.put, this], by simp [HS.put], fun _ => ⟨rfl, rfl⟩, rfl, fun _ _ => rfl⟩
theorem frm_up {low : Nat} {H : HS} {t : Option Nat} {n : Nat} : Frm low true H (H.up t n) :=
  ⟨fun i _ _ => by rw [HS.up_blks], by rw [HS.up_blks]; exact Nat.le_refl _, fun h => (by cases h), HS.up_x _ _ _, fun i _ => by rw [HS.up_maps]⟩
theorem frm_pushM {low : Nat} {H : HS} {m : MB} : Frm low true H (H.pushM m) := ⟨fun _ _ _ => rfl, Nat.le_refl _, fun h => (by cases h), rfl, fun i hi => by simp only [HS.pushM]; rw [List.getElem?_append_left hi]⟩
theorem allocE_frm {P : Program} {t : TypeId} {H H' : HS} {v : AV} {low : Nat} (h : allocE P t H = some (v, H')) : Frm low false H H' := by
  unfold allocE at h
  split at h
  · cases h; exact frm_push
  · cases h
theorem boxE_frm {t : TypeId} {a : AV} {H H' : HS} {v : AV} {low : Nat} (h : boxE t a H = some (v, H')) : Frm low false H H' := by
  unfold boxE at h
  split at h
  · cases h; exact frm_push
  · cases h
theorem storeE_frm {P : Program} {t : TypeId} {a u : AV} {H H' : HS} {v : AV} (h : storeE P t a u H = some (v, H')) : Frm (ptrOf a) false H H' := by
  unfold storeE at h
  split at h
  · split at h
    · split at h
      · cases h; exact frm_put
      · cases h
    · cases h
  · cases h
theorem litCE_frm {P : Program} {t : TypeId} {len : Nat} {parts : List (Nat × AV)} {H H' : HS} {v : AV} {low : Nat} (h : litCE P t len parts H = some (v, H')) : Frm low false H H' := by
  unfold litCE at h
  split at h
  · split at h
    · split at h
      · split at h
        · cases h; exact frm_push
        · cases h
      · cases h
    · cases h
  · cases h
theorem rangeE_frm {P : Program} {t : TypeId} {a : AV} {H H' : HS} {v : AV} {low : Nat} (h : rangeE P t a H = some (v, H')) : Frm low true H H' := by
  unfold rangeE at h
  split at h
  · split at h
    · cases h; exact frm_pushM
    · cases h
  · cases h
theorem appendE_frm {P : Program} {t' tx : TypeId} {a b : AV} {H H' : HS} {v : AV} {low : Nat} (h : appendE P t' tx a b H = some (v, H')) : Frm low true H H' := by
  unfold appendE at h
  split at h
  · split at h
    · split at h
      · split at h
        · cases h; exact frm_up
        · cases h
      · cases h; exact .refl _ _ _
      · cases h
    · cases h
  · cases h
def pureOp (P : Program) (cmp : FuncId → Bool) (o : Oper) (E : Operand → AV) : Option AV :=
  match o.op with
  | .move x => some (E x)
  | .assign x => some (E x)
  | .pick x y z => match asB (E x) with
    | some b => some (if b then E y else E z)
    | none => none
  | .extract x i => match E x with
    | .tup cs => cs[i]?
    | _ => none
  | .makeFunc (.func f) first cap => some (.fn (.func f) (first.toList.map E) (cap.toList.map E))
  | .unOp op _ x => unE op (E x)
  | .binOp op t x y _ => binE P op t (E x) (E y)
  | .convert t t' x => convE P t t' (E x)
  | .nilCheck x => nilCE (E x)
  | .fieldAddr t x i => fieldE P t i (E x)
  | .field t x i => fieldVE P t i (E x)
  | .index t x y => indexE P t (E x) (E y)
  | .indexAddr t x y => indexAE P t (E x) (E y)
  | .slice t x lo hi none => sliceE P t (E x) (lo.map E) (hi.map E)
  | .build t parts => buildE P t (parts.toList.map fun p => (p.1, E p.2))
  | .buildSlice t len parts => litE P t len (parts.toList.map fun p => (p.1, E p.2))
  | .call ⟨.builtin .len, ⟨[x]⟩, ⟨[t]⟩⟩ => lenE P t (E x)
  | .call ⟨.builtin .min, ⟨[x, y]⟩, _⟩ => minE (E x) (E y)
  | .call ⟨.builtin .max, ⟨[x, y]⟩, _⟩ => maxE (E x) (E y)
  | .call ⟨.value (.func f), ⟨[x, y]⟩, _⟩ => if cmp f = true then match asS (E x), asS (E y) with
      | some a, some b => some (.d (I (Lib.compareBytes a b)))
      | _, _ => none
    else none
  | _ => none
def CmpOk (P : Program) (cmp : FuncId → Bool) : Prop := ∀ f, cmp f = true → ∃ fn, P.funcs[f]? = some fn ∧ (fn.name == "runtime.NumGoroutine") = false ∧ fn.body.isNone = true ∧ Extern.findNext fn = none ∧ Extern.find fn = some Extern.BytealgCompare.compare
def readOp (P : Program) (o : Oper) (E : Operand → AV) (H : HS) : Option AV :=
  match o.op with
  | .load t x => loadE P t (E x) H
  | .lookup t x k two => lookupE P t (E x) (E k) two H
  | .call ⟨.builtin .len, ⟨[x]⟩, ⟨[t]⟩⟩ => lenME P t (E x) H
  | .next x false => nextE (E x) H
  | _ => none
def fullOp (P : Program) (o : Oper) (E : Operand → AV) (H : HS) : Option (AV × HS × Nat × Bool) :=
  match o.op with
  | .alloc t => (allocE P t H).map fun r => (r.1, r.2, big, false)
  | .box t x => (boxE t (E x) H).map fun r => (r.1, r.2, big, false)
  | .store t x y => (storeE P t (E x) (E y) H).map fun r => (r.1, r.2, ptrOf (E x), false)
  | .buildSlice t len parts => (litCE P t len (parts.toList.map fun p => (p.1, E p.2)) H).map fun r => (r.1, r.2, big, false)
  | .makeMap _ none => some (.map H.nm, H.pushM (.map []), big, true)
  | .range t x => (rangeE P t (E x) H).map fun r => (r.1, r.2, big, true)
  | .call ⟨.builtin .append, ⟨[x, y]⟩, ⟨[t', tx]⟩⟩ => (appendE P t' tx (E x) (E y) H).map fun r => (r.1, r.2, big, true)
  | _ => none
section
variable {P : Program} [Wins P]
theorem pureOp_ok {cmp : FuncId → Bool} (hcmp : CmpOk P cmp) (o : Oper) (E : Operand → AV) (v : AV) (h : pureOp P cmp o E = some v) (H : HS) : OpR P o E H (Ret v H) := by
  obtain ⟨dst, op, ty, pos, after, gd⟩ := o
  unfold pureOp at h
  dsimp only at h
  split at h
  · cases h; exact op_move
  · cases h; exact op_assign
  · split at h
    · rename_i b hb; cases h; exact op_pick (asB_ok hb)
    · cases h
  · split at h
    · rename_i cs hx; exact op_extract hx h
    · cases h
  · cases h; exact op_makeFunc
  · exact unE_ok h
  · exact binE_ok h
  · exact convE_ok h
  · exact nilCE_ok h
  · exact fieldE_ok h
  · exact fieldVE_ok h
  · exact indexE_ok h
  · exact indexAE_ok h
  · exact sliceE_ok h
  · exact buildE_ok h
  · exact litE_ok h
  · exact lenE_ok h
  · exact minE_ok h
  · exact maxE_ok h
  · split at h
    · rename_i hc
      split at h
      · rename_i a b ha hb
        cases h
        obtain ⟨fn, h1, h2, h3, h4, h5⟩ := hcmp _ hc
        exact op_cmpstring h1 h2 h3 h4 h5 (asS_ok ha) (asS_ok hb)
      · cases h
    · cases h
  · cases h
theorem readOp_ok (o : Oper) (E : Operand → AV) (H : HS) (v : AV) (h : readOp P o E H = some v) : OpR P o E H (Ret v H) := by
  obtain ⟨dst, op, ty, pos, after, gd⟩ := o
  unfold readOp at h
  dsimp only at h
  split at h
  · exact loadE_ok h
  · exact lookupE_ok h
  · exact lenME_ok h
  · exact nextE_ok h
  · cases h
theorem fullOp_ok (o : Oper) (E : Operand → AV) (H : HS) (v : AV) (H' : HS) (low : Nat) (mt : Bool) (h : fullOp P o E H = some (v, H', low, mt)) : OpR P o E H (Ret v H') ∧ Frm low mt H H' := by
  obtain ⟨dst, op, ty, pos, after, gd⟩ := o
  unfold fullOp at h
  dsimp only at h
  split at h
  · obtain ⟨r, hr, e⟩ := Option.map_eq_some_iff.1 h; cases e; exact ⟨allocE_ok hr, allocE_frm hr⟩
  · obtain ⟨r, hr, e⟩ := Option.map_eq_some_iff.1 h; cases e; exact ⟨boxE_ok hr, boxE_frm hr⟩
  · obtain ⟨r, hr, e⟩ := Option.map_eq_some_iff.1 h; cases e; exact ⟨storeE_ok hr, storeE_frm hr⟩
  · obtain ⟨r, hr, e⟩ := Option.map_eq_some_iff.1 h; cases e; exact ⟨litCE_ok hr, litCE_frm hr⟩
  · cases h; exact ⟨op_makeMap, frm_pushM⟩
  · obtain ⟨r, hr, e⟩ := Option.map_eq_some_iff.1 h; cases e; exact ⟨rangeE_ok hr, rangeE_frm hr⟩
  · obtain ⟨r, hr, e⟩ := Option.map_eq_some_iff.1 h; cases e; exact ⟨appendE_ok hr, appendE_frm hr⟩
  · cases h
def reck (P : Program) [Wins P] (hm : P.follows .mixedOrders = true) (cmp : FuncId → Bool) (hcmp : CmpOk P cmp) (isX : FuncId → Bool) (funcs : FuncId → Option Func) (hf : ∀ f fn, funcs f = some fn → P.funcs[f]? = some fn ∧ (fn.name == "runtime.NumGoroutine") = false) (known : FuncId → List AV → HS → Option (AV × HS × Nat × Bool))
    (hk : ∀ f args H v H' low mt, known f args H = some (v, H', low, mt) → ACalls P f args H (Ret v H') ∧ Frm low mt H H' ∧ ∃ fn, P.funcs[f]? = some fn ∧ (fn.name == "runtime.NumGoroutine") = false ∧ fn.body.isNone = false) : Reck P :=
  { pure := pureOp P cmp, read := readOp P, full := fullOp P, funcs, isX, known, pure_ok := pureOp_ok hcmp, read_ok := readOp_ok, full_ok := fullOp_ok, mixed_ok := hm, funcs_ok := hf, known_ok := hk }
end
end Go.AV
namespace Go.AV
open Go.RowKit
def spine : Code → List Code
  | .seq a b => spine a ++ spine b
  | k => [k]
def rangeOf : Code → Option (Code × Code)
  | .seq a b => match rangeOf a with
    | some r => some r
    | none => rangeOf b
  | .cond _ a b => match rangeOf a with
    | some r => some r
    | none => rangeOf b
  | .block _ a => rangeOf a
  | .loop a => rangeOf a
  | .scope a => rangeOf a
  | .rangeFunc _ _ a b => some (a, b)
  | _ => none
def forceX (r : XR) : XR := match r with
  | some (e, T, H, a, l, m) => forceAs T fun T => forceH H fun H => some (e, T, H, a, l, m)
  | none => none
theorem forceX_eq (r : XR) : forceX r = r := by
  unfold forceX
  split
  · rw [forceAs_eq, forceH_eq]
  · rfl
section
variable {P : Program} [Wins P] {K : Reck P}
def AWs (P : Program) [Wins P] : List Code → Post → List AV → HS → Prop
  | [], Q, T, H => Q .normal T H
  | c :: l, Q, T, H => AW P c (fun e T' H' => match e with | .normal => AWs P l Q T' H' | e => Q e T' H') T H
theorem aws_append : ∀ (l m : List Code) (Q : Post) (T : List AV) (H : HS), AWs P (l ++ m) Q T H → AWs P l (fun e T' H' => match e with | .normal => AWs P m Q T' H' | e => Q e T' H') T H
  | [], m, Q, T, H, h => h
  | c :: l, m, Q, T, H, h => by
    refine aw_mono h fun e T' H' h' => ?_
    cases e with
    | normal => exact aws_append l m Q T' H' h'
    | _ => exact h'
theorem aw_spine : ∀ (k : Code) (Q : Post) (T : List AV) (H : HS), AWs P (spine k) Q T H → AW P k Q T H
  | .seq a b, Q, T, H, h => by
    have h1 := aw_spine a _ T H (aws_append _ _ _ _ _ h)
    refine aw_seq (aw_mono h1 fun e T' H' h' => ?_)
    cases e with
    | normal => exact then_normal (aw_spine b Q T' H' h')
    | _ => exact h'
  | .skip, Q, T, H, h => aw_mono (show AW P _ _ T H from h) fun e T' H' h' => by cases e <;> exact h'
  | .label _, Q, T, H, h => aw_mono (show AW P _ _ T H from h) fun e T' H' h' => by cases e <;> exact h'
  | .exit _, Q, T, H, h => aw_mono (show AW P _ _ T H from h) fun e T' H' h' => by cases e <;> exact h'
  | .ret, Q, T, H, h => aw_mono (show AW P _ _ T H from h) fun e T' H' h' => by cases e <;> exact h'
  | .cond _ _ _, Q, T, H, h => aw_mono (show AW P _ _ T H from h) fun e T' H' h' => by cases e <;> exact h'
  | .block _ _, Q, T, H, h => aw_mono (show AW P _ _ T H from h) fun e T' H' h' => by cases e <;> exact h'
  | .scope _, Q, T, H, h => aw_mono (show AW P _ _ T H from h) fun e T' H' h' => by cases e <;> exact h'
  | .loop _, Q, T, H, h => aw_mono (show AW P _ _ T H from h) fun e T' H' h' => by cases e <;> exact h'
  | .region _ _ _, Q, T, H, h => aw_mono (show AW P _ _ T H from h) fun e T' H' h' => by cases e <;> exact h'
  | .rangeFunc _ _ _ _, Q, T, H, h => aw_mono (show AW P _ _ T H from h) fun e T' H' h' => by cases e <;> exact h'
  | .goto _, Q, T, H, h => aw_mono (show AW P _ _ T H from h) fun e T' H' h' => by cases e <;> exact h'
  | .refuse _, Q, T, H, h => aw_mono (show AW P _ _ T H from h) fun e T' H' h' => by cases e <;> exact h'
theorem aws_step {n : Nat} {c : Code} {l : List Code} {Q : Post} {T T1 : List AV} {H H1 : HS} {a m : Bool} {lo : Nat} (h : forceX (exec K n c T H) = some (.normal, T1, H1, a, lo, m)) (hl : AWs P l Q T1 H1) : AWs P (c :: l) Q T H := by
  rw [forceX_eq] at h
  refine aw_mono (exec_ok n c T H _ _ _ _ _ _ h).1.1 ?_
  rintro e T' H' ⟨rfl, rfl, rfl⟩
  exact hl
theorem aws_last {n : Nat} {c : Code} {l : List Code} {Q : Post} {T T1 : List AV} {H H1 : HS} {a m : Bool} {lo : Nat} (h : forceX (exec K n c T H) = some (.ret, T1, H1, a, lo, m)) (hq : Q .ret T1 H1) : AWs P (c :: l) Q T H := by
  rw [forceX_eq] at h
  refine aw_mono (exec_ok n c T H _ _ _ _ _ _ h).1.1 ?_
  rintro e T' H' ⟨rfl, rfl, rfl⟩
  exact hq
end
end Go.AV
