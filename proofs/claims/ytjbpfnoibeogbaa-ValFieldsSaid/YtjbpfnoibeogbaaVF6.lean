/- Part 6 of what the law needs: A21, FieldsLaw, ArgVal, ArgFields, WValFields. -/
import Derived.Test.YtjbpfnoibeogbaaVF5
import Derived.Maps.RangeRun
import Derived.MapKept
import Derived.ChangeArms
import Derived.KernelRfl
namespace Go.AV
open Go.RowKit
def getE : List (List UInt8 × DV) → List UInt8 → Option DV
  | [], _ => none
  | e :: es, k => if e.1 = k then some e.2 else getE es k
def putE : List (List UInt8 × DV) → List UInt8 → DV → List (List UInt8 × DV)
  | [], k, v => [(k, v)]
  | e :: es, k, v => if e.1 = k then (k, v) :: es else e :: putE es k v
def delE : List (List UInt8 × DV) → List UInt8 → List (List UInt8 × DV)
  | [], _ => []
  | e :: es, k => if e.1 = k then es else e :: delE es k
def atE : List (List UInt8 × DV) → List UInt8 → Option Nat
  | [], _ => none
  | e :: es, k => if e.1 = k then some 0 else (atE es k).map (· + 1)
theorem atE_none : ∀ {es : List (List UInt8 × DV)} {k : List UInt8}, atE es k = none → getE es k = none ∧ (∀ v, putE es k v = es ++ [(k, v)]) ∧ delE es k = es
  | [], _, _ => ⟨rfl, fun _ => rfl, rfl⟩
  | e :: es, k, h => by
    by_cases hk : e.1 = k
    · simp [atE, hk] at h
    · simp only [atE, if_neg hk, Option.map_eq_none_iff] at h
      obtain ⟨h1, h2, h3⟩ := atE_none h
      exact ⟨by simp [getE, hk, h1], fun v => by simp [putE, hk, h2], by simp [delE, hk, h3]⟩
theorem atE_some : ∀ {es : List (List UInt8 × DV)} {k : List UInt8} {i : Nat}, atE es k = some i → ∃ d, es[i]? = some (k, d) ∧ getE es k = some d ∧ (∀ v, putE es k v = es.set i (k, v)) ∧ delE es k = es.eraseIdx i
  | [], _, _, h => by simp [atE] at h
  | e :: es, k, i, h => by
    by_cases hk : e.1 = k
    · simp only [atE, if_pos hk, Option.some.injEq] at h
      subst h
      exact ⟨e.2, by rw [← hk]; rfl, by simp [getE, hk], fun v => by simp [putE, hk], by simp [delE, hk]⟩
    · simp only [atE, if_neg hk] at h
      cases hi : atE es k with
      | none => rw [hi] at h; cases h
      | some j =>
        rw [hi] at h
        cases h
        obtain ⟨d, h1, h2, h3, h4⟩ := atE_some hi
        exact ⟨d, by simpa using h1, by simp [getE, hk, h2], fun v => by simp [putE, hk, h3], by simp [delE, hk, h4]⟩
def HS.nm (H : HS) : Nat := H.maps.length
def HS.pushM (H : HS) (m : MB) : HS := { H with maps := H.maps ++ [m] }
def HS.setM (H : HS) (i : Nat) (m : MB) : HS := { H with maps := H.maps.set i m }
theorem MapObj.find {m : Mem} {xs : Array MapEntry} {clock : Nat} {k : List UInt8} : ∀ {l : List MapEntry} {es : List (List UInt8 × DV)} (i0 : Nat) (_ : l.length = es.length) (_ : ∀ i (h : i < es.length), ∃ e, l[i]? = some e ∧ e.key = .string ⟨(es[i]).1.toArray⟩ ∧ RepD m e.val (es[i]).2),
    Instr.findNow .string (.string ⟨k.toArray⟩) l i0 = some ((atE es k).bind fun i => (l[i]?).map fun e => (i0 + i, e.val))
  | [], [], _, _, _ => rfl
  | [], _ :: _, _, h, _ => by simp at h
  | _ :: _, [], _, h, _ => by simp at h
  | e :: l, d :: es, i0, hl, hr => by
    obtain ⟨e', h1, h2, _⟩ := hr 0 (by simp)
    simp only [List.getElem?_cons_zero, Option.some.injEq] at h1
    subst h1
    simp only [List.getElem_cons_zero] at h2
    have ih := MapObj.find (m := m) (xs := xs) (clock := clock) (k := k) (l := l) (es := es) (i0 + 1) (by simpa using hl) fun i hi => by
      have := hr (i + 1) (by simpa using hi)
      simpa using this
    by_cases hk : d.1 = k
    · have hb : ((⟨k.toArray⟩ : ByteArray) == ⟨d.1.toArray⟩) = true := by rw [hk]; exact (MapKept.bytes_beq _ _).2 rfl
      simp only [Instr.findNow, h2, Instr.sameNow, hb, atE, if_pos hk]
      rfl
    · have hb : ((⟨k.toArray⟩ : ByteArray) == ⟨d.1.toArray⟩) = false := by
        cases hh : ((⟨k.toArray⟩ : ByteArray) == ⟨d.1.toArray⟩) with
        | false => rfl
        | true =>
          have := (MapKept.bytes_beq _ _).1 hh
          injection this with this
          exact absurd (by simpa using this.symm) hk
      simp only [Instr.findNow, h2, Instr.sameNow, hb, atE, if_neg hk, ih]
      cases ha : atE es k with
      | none => rfl
      | some j => simp [Nat.add_assoc, Nat.add_comm 1 j]
section
variable {P : Program} {E : Operand → AV} {H : HS} {dst : Option Tmp} {ty : TypeId} {pos : String} {after : Array Edge} {gd : Option (Nat × Bool)}
theorem Inv.allocM {B : Nat} {w0 w : World} {c : Ctx} {H : HS} (h : Inv B w0 c H w) (o : Obj) (m : MB) (ho : MIs c (w.alloc o) m w.heap.size) :
    Inv B w0 { c with maps := c.maps ++ [w.heap.size] } (H.pushM m) (w.alloc o) ∧ Le c { c with maps := c.maps ++ [w.heap.size] } := by
  have hle : Le c { c with maps := c.maps ++ [w.heap.size] } := by
    refine ⟨fun _ _ _ h => h, fun _ _ h => h, fun _ e h => ⟨e, h, .inl rfl⟩, fun i g hi => ?_⟩
    have : i < c.maps.length := (List.getElem?_eq_some_iff.1 hi).1
    show (c.maps ++ [w.heap.size])[i]? = some g
    rw [List.getElem?_append_left this]; exact hi
  have h' := h.alloc o
  have hlt : ∀ i g, c.maps[i]? = some g → g < w.heap.size := fun i g hi => by
    have hil : i < c.maps.length := (List.getElem?_eq_some_iff.1 hi).1
    obtain ⟨_, q⟩ := h.maps.is i g _ hi (List.getElem?_eq_getElem (h.maps.len ▸ hil))
    obtain ⟨o', q1, _⟩ := q.obj
    exact (Array.getElem?_eq_some_iff.1 q1).1
  have cs : ∀ i g, (c.maps ++ [w.heap.size])[i]? = some g → (c.maps[i]? = some g ∧ i < c.maps.length) ∨ (i = c.maps.length ∧ g = w.heap.size) := by
    intro i g hi
    by_cases hlt : i < c.maps.length
    · rw [List.getElem?_append_left hlt] at hi
      exact .inl ⟨hi, hlt⟩
    · rw [List.getElem?_append_right (by omega)] at hi
      have : i - c.maps.length = 0 := by
        have := (List.getElem?_eq_some_iff.1 hi).1
        simp at this; omega
      rw [this] at hi
      simp at hi
      exact .inr ⟨by omega, hi.symm⟩
  refine ⟨⟨h'.base, h'.below, h'.mem, h'.blkLen, fun i g b hg hb => ?_, h'.blkInj, h'.tokLen, h'.tok, h'.tokInj, ?_, fun i j g hi hj => ?_, fun i g m' hg hm => ?_⟩, hle⟩
  · obtain ⟨h1, h2, cur, fr, h3, h4, h5, h6⟩ := h'.blk i g b hg hb
    exact ⟨h1, h2, cur, fr, h3, h4, h5, fun j hj => (h6 j hj).mono hle⟩
  · simp [HS.pushM, h.maps.len]
  · rcases cs i g hi with ⟨hi', _⟩ | ⟨rfl, rfl⟩
    · rcases cs j g hj with ⟨hj', _⟩ | ⟨rfl, rfl⟩
      · exact h.maps.inj i j g hi' hj'
      · have := hlt _ _ hi'; omega
    · rcases cs j _ hj with ⟨hj', _⟩ | ⟨rfl, _⟩
      · have := hlt _ _ hj'; omega
      · rfl
  · rcases cs i g hg with ⟨hi', hl⟩ | ⟨rfl, rfl⟩
    · have hm' : H.maps[i]? = some m' := by
        simp only [HS.pushM] at hm
        rwa [List.getElem?_append_left (by rw [← h.maps.len]; exact hl)] at hm
      obtain ⟨q1, q2⟩ := h.maps.is i g m' hi' hm'
      exact ⟨q1, q2.keep hle (keeps_alloc w o)⟩
    · have : m' = m := by
        simp only [HS.pushM] at hm
        rw [h.maps.len] at hm
        simpa using hm.symm
      subst this
      exact ⟨h.base, ho.keep hle (.refl _)⟩
theorem Inv.setM {B : Nat} {w0 w : World} {c : Ctx} {H : HS} (h : Inv B w0 c H w) (i g : Nat) (m m' : MB) (hg : c.maps[i]? = some g) (hm : H.maps[i]? = some m) (o : Obj) (w' : World) (hw' : w'.heap = w.heap.setIfInBounds g o) (hb : Below B w0 w')
    (ho : MIs c w' m' g) (hoc : ∀ cs e fr, o ≠ Obj.cells cs e fr) (hno : ∀ es, m = .map es → ∀ (j n : Nat) l, H.maps[j]? ≠ some (.iter (some i) n l)) : Inv B w0 c (H.setM i m') w' := by
  obtain ⟨p1, p2⟩ := h.maps.is i g m hg hm
  obtain ⟨o0, p3, p4⟩ := p2.obj
  have hset := MapKept.heap_set (o' := o) p3
  rw [← hw'] at hset
  have hcells : ∀ (k : Nat) cs e fr, w.heap[k]? = some (Obj.cells cs e fr) → w'.heap[k]? = some (Obj.cells cs e fr) := fun k cs e fr hk => by
    rw [hset.2 k (fun hh => by subst hh; rw [p3] at hk; exact p4 _ _ _ (Option.some.inj hk))]
    exact hk
  refine ⟨by rw [hw']; simpa using h.base, hb, fun g' off u hm => ?_, h.blkLen, fun k g' b hk hbk => ?_, h.blkInj, h.tokLen, fun k e he => ?_, h.tokInj, by simpa [HS.setM] using h.maps.len, h.maps.inj, fun j g' mj hj hmj => ?_⟩
  · have h1 := h.mem g' off u hm
    have hne : g' ≠ g := fun hh => by
      subst hh
      cases o0 with
      | cells cs e fr => exact p4 _ _ _ rfl
      | _ => simp [World.cell?, p3] at h1
    simp only [World.cell?] at h1 ⊢
    rw [hset.2 g' hne]
    exact h1
  · obtain ⟨h1, h2, cur, fr, h3, h4⟩ := h.blk k g' b hk hbk
    exact ⟨h1, h2, cur, fr, hcells _ _ _ _ h3, h4⟩
  · obtain ⟨h1, h2, h3, h4, h5, cur, et, fr, h6, h7⟩ := h.tok k e he
    exact ⟨h1, h2, h3, h4, h5, cur, et, fr, hcells _ _ _ _ h6, h7⟩
  · by_cases hij : i = j
    · subst hij
      have e1 : g' = g := by rw [hg] at hj; exact (Option.some.inj hj).symm
      subst e1
      have e2 : mj = m' := by
        have hlt := (List.getElem?_eq_some_iff.1 hm).1
        simp only [HS.setM] at hmj
        rw [List.getElem?_set_self hlt] at hmj
        exact (Option.some.inj hmj).symm
      subst e2
      exact ⟨p1, ho⟩
    · have e1 : H.maps[j]? = some mj := by
        simp only [HS.setM] at hmj
        rwa [List.getElem?_set_ne hij] at hmj
      obtain ⟨q1, q2⟩ := h.maps.is j g' mj hj e1
      have hne : g' ≠ g := fun hh => hij (h.maps.inj i j g hg (hh ▸ hj))
      refine ⟨q1, ?_⟩
      cases q2 with
      | map _ es xs clock hw hx => exact .map _ es xs clock (by rw [hset.2 _ hne]; exact hw) hx
      | iter _ id r n last xs clock seen hmm hr hw hn hd hs hl =>
        by_cases hrg : r = g
        · subst hrg
          have : id = i := h.maps.inj _ _ _ hmm hg
          subst this
          cases p2 with
          | map _ es _ _ _ _ => exact absurd e1 (hno es rfl j n last)
          | iter _ _ _ _ _ _ _ _ _ _ hw2 => rw [hr] at hw2; cases hw2
          | dead _ _ _ _ _ _ _ hw2 => rw [hr] at hw2; cases hw2
        · exact .iter _ id r n last xs clock seen hmm (by rw [hset.2 _ hrg]; exact hr) (by rw [hset.2 _ hne]; exact hw) hn hd hs hl
      | dead _ n last r a b seen hw => exact .dead _ n last r a b seen (by rw [hset.2 _ hne]; exact hw)
theorem Rep.map_inv {c : Ctx} {v : Value} {id : Nat} (h : Rep c v (.map id)) : ∃ g, v = .map (some g) ∧ c.maps[id]? = some g := by
  cases h with
  | map _ g h => exact ⟨g, rfl, h⟩
theorem Rep.iter_inv {c : Ctx} {v : Value} {id : Nat} (h : Rep c v (.iter id)) : ∃ g, v = .pointer (some ⟨g, 0, none⟩) ∧ c.maps[id]? = some g := by
  cases h with
  | iter _ g h => exact ⟨g, rfl, h⟩
theorem MIs.map_inv {c : Ctx} {w : World} {es : List (List UInt8 × DV)} {g : Nat} (h : MIs c w (.map es) g) : ∃ xs clock, w.heap[g]? = some (.map xs clock) ∧ MapObj c.mem es xs clock := by
  cases h with
  | map _ _ xs clock hw h => exact ⟨xs, clock, hw, h⟩
theorem below_set {B : Nat} {w0 w : World} (h : Below B w0 w) {g : Nat} (hg : B ≤ g) (o : Obj) : Below B w0 { w with heap := w.heap.setIfInBounds g o } :=
  h.trans ⟨rfl, rfl, rfl, by simp, fun k hk => by show (w.heap.setIfInBounds g o)[k]? = _; simp [show ¬ g = k by omega]⟩
theorem op_makeMap {t : TypeId} : OpR P ⟨dst, .makeMap t none, ty, pos, after, gd⟩ E H (Ret (.map H.nm) (H.pushM (.map []))) :=
  opR_value fun B w0 c w a hI hops => by
    have hnew := heap_new w (.map #[] 0)
    obtain ⟨i1, l1⟩ := hI.allocM (.map #[] 0) (.map []) (.map _ [] #[] 0 hnew ⟨rfl, by simp, by simp, fun i h => by simp at h⟩)
    refine ⟨.map (some w.heap.size), w.alloc (.map #[] 0), _, .map H.nm, _, ?_, l1, .map _ _ ?_, i1, rfl, rfl⟩
    · simp [execOp, Instr.makeMap]
    · simp [HS.nm, ← hI.maps.len]
theorem MapObj.look {m : Mem} {es : List (List UInt8 × DV)} {xs : Array MapEntry} {clock : Nat} (h : MapObj m es xs clock) (k : List UInt8) :
    (atE es k = none ∧ Instr.findNow .string (.string ⟨k.toArray⟩) xs.toList 0 = some none) ∨
    ∃ i e d, atE es k = some i ∧ xs[i]? = some e ∧ e.key = .string ⟨k.toArray⟩ ∧ getE es k = some d ∧ RepD m e.val d ∧ Instr.findNow .string (.string ⟨k.toArray⟩) xs.toList 0 = some (some (i, e.val)) := by
  have hf := MapObj.find (m := m) (xs := xs) (clock := clock) (k := k) (l := xs.toList) (es := es) 0 (by simpa using h.len) fun i hi => by
    have := h.rep i hi
    simpa using this
  cases ha : atE es k with
  | none => exact .inl ⟨rfl, by rw [hf, ha]; rfl⟩
  | some i =>
    obtain ⟨d, h1, h2, _⟩ := atE_some ha
    have hi := (List.getElem?_eq_some_iff.1 h1).1
    obtain ⟨e, q1, q2, q3⟩ := h.rep i hi
    have he : es[i] = (k, d) := (List.getElem?_eq_some_iff.1 h1).2
    rw [he] at q2 q3
    refine .inr ⟨i, e, d, rfl, q1, q2, h2, q3, ?_⟩
    rw [hf, ha]
    simp [q1]
theorem MapObj.put {m : Mem} {es : List (List UInt8 × DV)} {xs : Array MapEntry} {clock i : Nat} {k : List UInt8} {v : Value} {d : DV} (h : MapObj m es xs clock) (hv : RepD m v d) :
    MapObj m (es.set i (k, d)) (xs.modify i fun e => { e with key := .string ⟨k.toArray⟩, val := v }) clock := by
  have hborn : (xs.modify i fun e => { e with key := .string ⟨k.toArray⟩, val := v }).toList.map (·.born) = xs.toList.map (·.born) := by
    apply List.ext_getElem?
    intro j
    simp only [List.getElem?_map, Array.getElem?_toList, Array.getElem?_modify]
    by_cases hij : i = j
    · subst hij
      cases he : xs[i]? with
      | none => simp
      | some e => simp
    · simp [hij]
  refine ⟨by simpa using h.len, by rw [hborn]; exact h.born, fun x hx => ?_, fun j hj => ?_⟩
  · have : x.born ∈ xs.toList.map (·.born) := by rw [← hborn]; exact List.mem_map.2 ⟨x, hx, rfl⟩
    obtain ⟨y, hy, e⟩ := List.mem_map.1 this
    rw [← e]; exact h.lt y hy
  · have hj' : j < es.length := by simpa using hj
    obtain ⟨e, q1, q2, q3⟩ := h.rep j hj'
    by_cases hij : i = j
    · subst hij
      exact ⟨{ e with key := .string ⟨k.toArray⟩, val := v }, by simp [Array.getElem?_modify, q1], by simp, by simpa using hv⟩
    · exact ⟨e, by simp [Array.getElem?_modify, hij, q1], by simpa [List.getElem_set_ne hij] using q2, by simpa [List.getElem_set_ne hij] using q3⟩
theorem MapObj.push {m : Mem} {es : List (List UInt8 × DV)} {xs : Array MapEntry} {clock : Nat} {k : List UInt8} {v : Value} {d : DV} (h : MapObj m es xs clock) (hv : RepD m v d) :
    MapObj m (es ++ [(k, d)]) (xs.push { key := .string ⟨k.toArray⟩, val := v, born := clock }) (clock + 1) := by
  refine ⟨by simp [h.len], ?_, fun x hx => ?_, fun j hj => ?_⟩
  · simp only [Array.toList_push, List.map_append, List.map_cons, List.map_nil]
    refine List.nodup_append.2 ⟨h.born, by simp, fun a ha b hb => ?_⟩
    simp only [List.mem_singleton] at hb
    subst hb
    obtain ⟨x, hx, rfl⟩ := List.mem_map.1 ha
    exact Nat.ne_of_lt (h.lt x hx)
  · simp only [Array.toList_push, List.mem_append, List.mem_singleton] at hx
    rcases hx with hx | rfl
    · exact Nat.lt_succ_of_lt (h.lt x hx)
    · exact Nat.lt_succ_self _
  · by_cases hlt : j < es.length
    · obtain ⟨e, q1, q2, q3⟩ := h.rep j hlt
      refine ⟨e, ?_, by rw [List.getElem_append_left hlt]; exact q2, by rw [List.getElem_append_left hlt]; exact q3⟩
      have : j < xs.size := by rw [h.len]; exact hlt
      rw [Array.getElem?_push, if_neg (by omega)]
      exact q1
    · have hje : j = es.length := by simp at hj; omega
      subst hje
      refine ⟨_, by rw [← h.len, Array.getElem?_push, if_pos rfl], by simp, by simpa using hv⟩
theorem op_lookup {x k : Operand} {t kt et : TypeId} {z : Value} {id : Nat} {es : List (List UInt8 × DV)} {l : List UInt8} {d0 : DV} (ht : P.underlying t = some (.map kt et)) (hkt : P.underlying kt = some .string) (hz : (P.info? et).map (·.zero) = some (some z))
    (hd : ∀ m, RepD m z d0) (hx : E x = .map id) (hl : E k = .d (S l)) (hm : H.maps[id]? = some (.map es)) : OpR P ⟨dst, .lookup t x k false, ty, pos, after, gd⟩ E H (Ret (.d ((getE es l).getD d0)) H) :=
  opR_value fun B w0 c w a hI hops => by
    have h1 := hops x (by simp [Op.operands])
    have h2 := hops k (by simp [Op.operands])
    rw [hx] at h1
    rw [hl] at h2
    obtain ⟨g, ev, hg⟩ := h1.map_inv
    have ek := h2.v_eq
    obtain ⟨_, q⟩ := hI.maps.is id g _ hg hm
    obtain ⟨xs, clock, hw, ho⟩ := q.map_inv
    obtain ⟨inf, hi1, hi2⟩ := Option.map_eq_some_iff.1 hz
    have hzv : ∀ w, (zeroValue et).run P w = .ok z w := fun w => by simp [zeroValue, typeInfo, hi1, hi2]
    have hck : ∀ e, (Instr.checkKey e 10000 kt (.string ⟨l.toArray⟩)).run P w = .ok () w := fun e => MapKept.run_checkKey hkt (show MapKept.IsKey .string (.string _) from trivial) e 9999
    rcases ho.look l with ⟨p1, p2⟩ | ⟨i, e, d, p1, p2, p3, p4, p5, p6⟩
    · refine ⟨z, w, c, _, H, ?_, Le.refl c, .d (hd _), hI, ?_, rfl⟩
      · simp [execOp, Instr.lookup, ev, ek, run_underlying ht, MapKept.run_getObj_map hw, hck, MapKept.run_findKey hkt p2, hzv]
      · rw [(atE_none p1).1]; rfl
    · refine ⟨e.val, w, c, _, H, ?_, Le.refl c, .d p5, hI, ?_, rfl⟩
      · simp [execOp, Instr.lookup, ev, ek, run_underlying ht, MapKept.run_getObj_map hw, hck, MapKept.run_findKey hkt p6]
      · rw [p4]; rfl
theorem op_lookup2 {x k : Operand} {t kt et : TypeId} {z : Value} {id : Nat} {es : List (List UInt8 × DV)} {l : List UInt8} {d0 : DV} (ht : P.underlying t = some (.map kt et)) (hkt : P.underlying kt = some .string) (hz : (P.info? et).map (·.zero) = some (some z))
    (hd : ∀ m, RepD m z d0) (hx : E x = .map id) (hl : E k = .d (S l)) (hm : H.maps[id]? = some (.map es)) : OpR P ⟨dst, .lookup t x k true, ty, pos, after, gd⟩ E H (Ret (.tup [.d ((getE es l).getD d0), .d (TF (getE es l).isSome)]) H) :=
  opR_value fun B w0 c w a hI hops => by
    have h1 := hops x (by simp [Op.operands])
    have h2 := hops k (by simp [Op.operands])
    rw [hx] at h1
    rw [hl] at h2
    obtain ⟨g, ev, hg⟩ := h1.map_inv
    have ek := h2.v_eq
    obtain ⟨_, q⟩ := hI.maps.is id g _ hg hm
    obtain ⟨xs, clock, hw, ho⟩ := q.map_inv
    obtain ⟨inf, hi1, hi2⟩ := Option.map_eq_some_iff.1 hz
    have hzv : ∀ w, (zeroValue et).run P w = .ok z w := fun w => by simp [zeroValue, typeInfo, hi1, hi2]
    have hck : ∀ e, (Instr.checkKey e 10000 kt (.string ⟨l.toArray⟩)).run P w = .ok () w := fun e => MapKept.run_checkKey hkt (show MapKept.IsKey .string (.string _) from trivial) e 9999
    have two : ∀ {u0 u1 : Value} {a b : AV}, Rep c u0 a → Rep c u1 b → Rep c (.tuple #[u0, u1]) (.tup [a, b]) := fun h1 h2 => .tup _ _ rfl fun i hi => by
      match i, hi with
      | 0, _ => exact h1
      | 1, _ => exact h2
    rcases ho.look l with ⟨p1, p2⟩ | ⟨i, e, d, p1, p2, p3, p4, p5, p6⟩
    · refine ⟨.tuple #[z, .bool false], w, c, _, H, ?_, Le.refl c, ?_, hI, rfl, rfl⟩
      · simp [execOp, Instr.lookup, ev, ek, run_underlying ht, MapKept.run_getObj_map hw, hck, MapKept.run_findKey hkt p2, hzv]
      · rw [(atE_none p1).1]; exact two (.d (hd _)) (.d (.v _ rfl))
    · refine ⟨.tuple #[e.val, .bool true], w, c, _, H, ?_, Le.refl c, ?_, hI, rfl, rfl⟩
      · simp [execOp, Instr.lookup, ev, ek, run_underlying ht, MapKept.run_getObj_map hw, hck, MapKept.run_findKey hkt p6]
      · rw [p4]; exact two (.d p5) (.d (.v _ rfl))
theorem op_mapUpdate {x k v : Operand} {t kt et : TypeId} {id : Nat} {es : List (List UInt8 × DV)} {l : List UInt8} {d : DV} (ht : P.underlying t = some (.map kt et)) (hkt : P.underlying kt = some .string) (hx : E x = .map id) (hl : E k = .d (S l))
    (hv : Weak (E v) (.d d)) (hm : H.maps[id]? = some (.map es)) (hno : ∀ (j n : Nat) q, H.maps[j]? ≠ some (.iter (some id) n q)) : OpR P ⟨dst, .mapUpdate t x k v, ty, pos, after, gd⟩ E H (Ret .un (H.setM id (.map (putE es l d)))) :=
  opR_skip fun B w0 c w a hI hops => by
    have h1 := hops x (by simp [Op.operands])
    have h2 := hops k (by simp [Op.operands])
    have h3 := (hv c _ (hops v (by simp [Op.operands]))).d_inv
    rw [hx] at h1
    rw [hl] at h2
    obtain ⟨g, ev, hg⟩ := h1.map_inv
    have ek := h2.v_eq
    obtain ⟨q0, q⟩ := hI.maps.is id g _ hg hm
    obtain ⟨xs, clock, hw, ho⟩ := q.map_inv
    have hck : ∀ e, (Instr.checkKey e 10000 kt (.string ⟨l.toArray⟩)).run P w = .ok () w := fun e => MapKept.run_checkKey hkt (show MapKept.IsKey .string (.string _) from trivial) e 9999
    rcases ho.look l with ⟨p1, p2⟩ | ⟨i, e, d', p1, p2, p3, p4, p5, p6⟩
    · have hset := MapKept.heap_set (o' := Obj.map (xs.push { key := .string ⟨l.toArray⟩, val := a.eval v, born := clock }) (clock + 1)) hw
      refine ⟨_, c, _, ?_, Le.refl c, hI.setM id g _ (.map (putE es l d)) hg hm (.map (xs.push { key := .string ⟨l.toArray⟩, val := a.eval v, born := clock }) (clock + 1)) _ rfl (below_set hI.below q0 _) (.map _ _ _ _ hset.1 ?_) (by intros; simp) (fun es' he j n q => hno j n q), rfl, rfl⟩
      · simp [execOp, Instr.mapUpdate, ev, ek, run_underlying ht, MapKept.run_getObj_map hw, hck, MapKept.run_findKey hkt p2, MapKept.run_setObj_map _ hw]
      · rw [(atE_none p1).2.1]; exact ho.push h3
    · have hset := MapKept.heap_set (o' := Obj.map (xs.modify i fun e => { e with key := .string ⟨l.toArray⟩, val := a.eval v }) clock) hw
      have hstay := MapKept.run_keyThatStays (P := P) (w := w) (d := .string) (k := .string ⟨l.toArray⟩) (show MapKept.IsKey .string (.string _) from trivial)
      refine ⟨_, c, _, ?_, Le.refl c, hI.setM id g _ (.map (putE es l d)) hg hm (.map (xs.modify i fun e => { e with key := .string ⟨l.toArray⟩, val := a.eval v }) clock) _ rfl (below_set hI.below q0 _) (.map _ _ _ _ hset.1 ?_) (by intros; simp) (fun es' he j n q => hno j n q), rfl, rfl⟩
      · simp [execOp, Instr.mapUpdate, ev, ek, run_underlying ht, MapKept.run_getObj_map hw, hck, MapKept.run_findKey hkt p6, MapKept.run_setObj_map _ hw, p2, p3, hstay]
      · obtain ⟨_, _, _, hp, _⟩ := atE_some p1
        rw [hp]; exact ho.put h3
theorem op_lenMap {x : Operand} {t kt et : TypeId} {id : Nat} {es : List (List UInt8 × DV)} (ht : P.underlying t = some (.map kt et)) (hx : E x = .map id) (hm : H.maps[id]? = some (.map es)) :
    OpR P ⟨dst, .call ⟨.builtin .len, #[x], #[t]⟩, ty, pos, after, gd⟩ E H (Ret (.d (I es.length)) H) :=
  opR_value fun B w0 c w a hI hops => by
    have h1 := hops x (by simp [Op.operands, Call.operands])
    rw [hx] at h1
    obtain ⟨g, ev, hg⟩ := h1.map_inv
    obtain ⟨_, q⟩ := hI.maps.is id g _ hg hm
    obtain ⟨xs, clock, hw, ho⟩ := q.map_inv
    refine ⟨.int .i64 es.length, w, c, _, H, ?_, Le.refl c, .d (.v _ rfl), hI, rfl, rfl⟩
    simp [execOp, resolve, invoke, builtin, Builtin.len_, ev, run_underlying ht, MapKept.run_getObj_map hw, goInt, ho.len]
theorem op_range {x : Operand} {t kt et : TypeId} {id : Nat} {es : List (List UInt8 × DV)} (ht : P.underlying t = some (.map kt et)) (hx : E x = .map id) (hm : H.maps[id]? = some (.map es)) :
    OpR P ⟨dst, .range t x, ty, pos, after, gd⟩ E H (Ret (.iter H.nm) (H.pushM (.iter (some id) 0 none))) :=
  opR_value fun B w0 c w a hI hops => by
    have h1 := hops x (by simp [Op.operands])
    rw [hx] at h1
    obtain ⟨g, ev, hg⟩ := h1.map_inv
    obtain ⟨_, q⟩ := hI.maps.is id g _ hg hm
    obtain ⟨xs, clock, hw, ho⟩ := q.map_inv
    have hg' : (c.maps ++ [w.heap.size])[id]? = some g := by rw [List.getElem?_append_left (List.getElem?_eq_some_iff.1 hg).1]; exact hg
    have hnew := heap_new w (.mapIter (some g) clock #[] clock)
    have i0 : Inv B w0 { c with maps := c.maps ++ [w.heap.size] } (H.pushM (.iter (some id) 0 none)) (w.alloc (.mapIter (some g) clock #[] clock)) ∧ Le c { c with maps := c.maps ++ [w.heap.size] } := by
      obtain ⟨i1, l1⟩ := hI.allocM (.mapIter (some g) clock #[] clock) (.iter none 0 none) (.dead _ 0 none (some g) clock clock #[] hnew)
      refine ⟨⟨i1.base, i1.below, i1.mem, i1.blkLen, i1.blk, i1.blkInj, i1.tokLen, i1.tok, i1.tokInj, by simpa [HS.pushM] using i1.maps.len, i1.maps.inj, fun i g' m' hi hm' => ?_⟩, l1⟩
      by_cases hlt : i < H.maps.length
      · refine i1.maps.is i g' m' hi ?_
        simp only [HS.pushM] at hm' ⊢
        rwa [List.getElem?_append_left hlt] at hm' ⊢
      · have hlen := hI.maps.len
        have hie : i = H.maps.length := by
          have := (List.getElem?_eq_some_iff.1 hm').1
          simp [HS.pushM] at this
          omega
        subst hie
        have e1 : m' = .iter (some id) 0 none := by simpa [HS.pushM] using hm'.symm
        have e2 : g' = w.heap.size := by
          have : (c.maps ++ [w.heap.size])[H.maps.length]? = some g' := hi
          rw [← hlen] at this
          simpa using this.symm
        subst e1 e2
        exact ⟨hI.base, .iter _ id g 0 none xs clock #[] hg' (by rw [heap_old w _ (Array.getElem?_eq_some_iff.1 hw).1]; exact hw) hnew rfl (by simp) (by simp) (by simp)⟩
    refine ⟨.pointer (some ⟨w.heap.size, 0, none⟩), w.alloc (.mapIter (some g) clock #[] clock), _, .iter H.nm, _, ?_, i0.2, .iter _ _ ?_, i0.1, rfl, rfl⟩
    · simp [execOp, Instr.range, ev, run_underlying ht, MapKept.run_getObj_map hw]
    · simp [HS.nm, ← hI.maps.len]
theorem nodup_len : ∀ {l m : List Nat}, l.Nodup → (∀ x ∈ l, x ∈ m) → l.length ≤ m.length
  | [], _, _, _ => Nat.zero_le _
  | x :: l, m, h, hs => by
    have hx := hs x (List.mem_cons_self ..)
    have hn := List.nodup_cons.1 h
    have := nodup_len (l := l) (m := m.erase x) hn.2 fun y hy => (List.mem_erase_of_ne (fun e => hn.1 (by rw [← e]; exact hy))).2 (hs y (List.mem_cons_of_mem _ hy))
    have e := List.length_erase_of_mem hx
    have : 0 < m.length := List.length_pos_iff.2 (fun e => by rw [e] at hx; cases hx)
    simp only [List.length_cons]
    omega
theorem op_next {x : Operand} {id j n : Nat} {last : Option (List UInt8 × DV)} {es : List (List UInt8 × DV)} (hx : E x = .iter j) (hj : H.maps[j]? = some (.iter (some id) n last)) (hm : H.maps[id]? = some (.map es)) :
    OpR P ⟨dst, .next x false, ty, pos, after, gd⟩ E H (fun v H' => (v = .tup [.d (TF false)] ∧ H' = H) ∨
      ∃ k d, (k, d) ∈ es ∧ n < es.length ∧ v = .tup [.d (TF true), .d (S k), .d d] ∧ H' = H.setM j (.iter (some id) (n + 1) (some (k, d)))) :=
  opR_value fun B w0 c w a hI hops => by
    have h1 := hops x (by simp [Op.operands])
    rw [hx] at h1
    obtain ⟨g, ev, hg⟩ := h1.iter_inv
    obtain ⟨q0, q⟩ := hI.maps.is j g _ hg hj
    cases q with
    | iter _ _ r _ _ xs clock seen hmm hr hw hn hd hs hl =>
    obtain ⟨_, q2⟩ := hI.maps.is id r _ hmm hm
    obtain ⟨xs', clock', hw', ho⟩ := q2.map_inv
    rw [hr] at hw'
    injection hw' with hw'
    injection hw' with e1 e2
    subst e1 e2
    rcases run_next_at (P := P) w ty g r clock clock seen xs clock hw hr ho.lt (Nat.le_refl _) with ⟨h0, hrun⟩ | ⟨e, he, w1, hal, hrun⟩
    · refine ⟨.tuple #[.bool false], w, c, _, H, ?_, Le.refl c, .tup _ [.d (TF false)] rfl fun i hi => ?_, hI, .inl ⟨rfl, rfl⟩⟩
      · simp [execOp, ev, hrun]
      · simp at hi
        subst hi
        exact .d (.v _ rfl)
    · obtain ⟨hem, hes⟩ := mem_left he
      obtain ⟨i, hi, hie⟩ := List.getElem_of_mem hem
      have hil : i < es.length := by rw [← ho.len]; simpa using hi
      obtain ⟨e', p1, p2, p3⟩ := ho.rep i hil
      have : e' = e := by
        have h5 : xs[i]? = some e := by
          have hi' : i < xs.size := by simpa using hi
          rw [Array.getElem?_eq_getElem hi']
          simpa using hie
        rw [h5] at p1; exact (Option.some.inj p1).symm
      subst this
      have hnd : (seen.push e'.born).toList.Nodup := by
        rw [Array.toList_push]
        refine List.nodup_append.2 ⟨hd, by simp, fun a ha b hb => ?_⟩
        simp only [List.mem_singleton] at hb
        subst hb
        intro hab
        subst hab
        simp [Array.contains_iff_mem, Array.mem_def, ha] at hes
      have hsub : ∀ b ∈ (seen.push e'.born).toList, b ∈ xs.toList.map (·.born) := fun b hb => by
        rw [Array.toList_push] at hb
        rcases List.mem_append.1 hb with hb | hb
        · exact hs b hb
        · simp only [List.mem_singleton] at hb
          subst hb
          exact List.mem_map.2 ⟨e', hem, rfl⟩
      have hlen : n < es.length := by
        have := nodup_len hnd hsub
        simp only [Array.toList_push, List.length_append, Array.length_toList, List.length_cons, List.length_nil, List.length_map] at this
        have := ho.len
        omega
      have hw1 : w1.heap = w.heap := by rcases hal with rfl | rfl <;> rfl
      have hb1 : Below B w0 w1 := by
        rcases hal with rfl | rfl
        · exact hI.below
        · exact hI.below.drew
      have hset := MapKept.heap_set (o' := Obj.mapIter (some r) clock (seen.push e'.born) clock) hw
      have hrg : r ≠ g := fun hh => by subst hh; rw [hr] at hw; cases hw
      refine ⟨.tuple #[.bool true, e'.key, e'.val], _, c, .tup [.d (TF true), .d (S (es[i]).1), .d (es[i]).2], _, by simp only [execOp, ev]; rw [Sem.run_bind, hrun]; rfl, Le.refl c, ?_,
        hI.setM j g _ (.iter (some id) (n + 1) (some ((es[i]).1, (es[i]).2))) hg hj (.mapIter (some r) clock (seen.push e'.born) clock) _ (by show w1.heap.setIfInBounds _ _ = _; rw [hw1]) (below_set hb1 q0 _) ?_ (by intros; simp) (fun es' he => by cases he),
        .inr ⟨(es[i]).1, (es[i]).2, List.getElem_mem hil, hlen, rfl, rfl⟩⟩
      · refine .tup _ _ rfl fun m hm' => ?_
        match m, hm' with
        | 0, _ => exact .d (.v _ rfl)
        | 1, _ => rw [show (#[Value.bool true, e'.key, e'.val] : Array Value).getD 1 undef = e'.key from rfl, p2]; exact .d (.v _ rfl)
        | 2, _ => exact .d p3
      · refine .iter _ id r (n + 1) _ xs clock (seen.push e'.born) hmm ?_ ?_ (by simp [hn]) hnd hsub fun k d hkd => ?_
        · show (w1.heap.setIfInBounds _ _)[r]? = _
          rw [hw1, hset.2 r hrg]; exact hr
        · show (w1.heap.setIfInBounds _ _)[g]? = _
          rw [hw1]; exact hset.1
        · simp only [Option.some.injEq, Prod.mk.injEq] at hkd
          obtain ⟨rfl, rfl⟩ := hkd
          exact ⟨e', hem, seen, rfl, p2, p3⟩
theorem op_entry {x : Operand} {id j n : Nat} {k : List UInt8} {d : DV} {es : List (List UInt8 × DV)} (hx : E x = .iter j) (hj : H.maps[j]? = some (.iter (some id) n (some (k, d)))) (hm : H.maps[id]? = some (.map es)) :
    OpR P ⟨dst, .entry x, ty, pos, after, gd⟩ E H (Ret (.tup [.d (S k), .d d]) H) :=
  opR_value fun B w0 c w a hI hops => by
    have h1 := hops x (by simp [Op.operands])
    rw [hx] at h1
    obtain ⟨g, ev, hg⟩ := h1.iter_inv
    obtain ⟨q0, q⟩ := hI.maps.is j g _ hg hj
    cases q with
    | iter _ _ r _ _ xs clock seen hmm hr hw hn hd hs hl =>
    obtain ⟨_, q2⟩ := hI.maps.is id r _ hmm hm
    obtain ⟨xs', clock', hw', ho⟩ := q2.map_inv
    rw [hr] at hw'
    injection hw' with hw'
    injection hw' with e1 e2
    subst e1 e2
    obtain ⟨e, p1, s0, rfl, p3, p4⟩ := hl k d rfl
    have hrun := run_entry_at (P := P) w g r clock s0 xs clock e hw hr p1 ho.born
    refine ⟨.tuple #[e.key, e.val], w, c, _, H, by simp [execOp, ev, hrun], Le.refl c, .tup _ _ rfl fun m hm' => ?_, hI, rfl, rfl⟩
    match m, hm' with
    | 0, _ => rw [show (#[e.key, e.val] : Array Value).getD 0 undef = e.key from rfl, p3]; exact .d (.v _ rfl)
    | 1, _ => exact .d p4
theorem op_lookup_some {x k : Operand} {t kt et : TypeId} {z : Value} {id : Nat} {es : List (List UInt8 × DV)} {l : List UInt8} {d0 d : DV} (ht : P.underlying t = some (.map kt et)) (hkt : P.underlying kt = some .string) (hz : (P.info? et).map (·.zero) = some (some z))
    (hd : ∀ m, RepD m z d0) (hx : E x = .map id) (hl : E k = .d (S l)) (hm : H.maps[id]? = some (.map es)) (hg : getE es l = some d) : OpR P ⟨dst, .lookup t x k false, ty, pos, after, gd⟩ E H (Ret (.d d) H) := by
  have h := op_lookup (dst := dst) (ty := ty) (pos := pos) (after := after) (gd := gd) ht hkt hz hd hx hl hm
  rwa [hg] at h
theorem op_lookup2_at {x k : Operand} {t kt et : TypeId} {z : Value} {id : Nat} {es : List (List UInt8 × DV)} {l : List UInt8} {d0 d : DV} {b : Bool} (ht : P.underlying t = some (.map kt et)) (hkt : P.underlying kt = some .string) (hz : (P.info? et).map (·.zero) = some (some z))
    (hd : ∀ m, RepD m z d0) (hx : E x = .map id) (hl : E k = .d (S l)) (hm : H.maps[id]? = some (.map es)) (hb : (getE es l).isSome = b) (hg : (getE es l).getD d0 = d) : OpR P ⟨dst, .lookup t x k true, ty, pos, after, gd⟩ E H (Ret (.tup [.d d, .d (TF b)]) H) := by
  have h := op_lookup2 (dst := dst) (ty := ty) (pos := pos) (after := after) (gd := gd) ht hkt hz hd hx hl hm
  rwa [hb, hg] at h
theorem op_eqB_same {x y : Operand} {t t' : TypeId} {b : Bool} (ht : P.underlying t = some .bool) (hx : E x = .d (TF b)) (hy : E y = .d (TF b)) : OpR P ⟨dst, .binOp .eql t x y t', ty, pos, after, gd⟩ E H (Ret (.d (TF true)) H) := by
  have h := op_eqB (dst := dst) (ty := ty) (pos := pos) (after := after) (gd := gd) (t' := t') (H := H) ht hx hy
  rwa [beq_self_eq_true] at h
theorem op_neB_same {x y : Operand} {t t' : TypeId} {b : Bool} (ht : P.underlying t = some .bool) (hx : E x = .d (TF b)) (hy : E y = .d (TF b)) : OpR P ⟨dst, .binOp .neq t x y t', ty, pos, after, gd⟩ E H (Ret (.d (TF false)) H) := by
  have h := op_neB (dst := dst) (ty := ty) (pos := pos) (after := after) (gd := gd) (t' := t') (H := H) ht hx hy
  rwa [beq_self_eq_true] at h
theorem push_nm {H : HS} {e : TypeId} {cs : List AV} : (H.push e cs).nm = H.nm := rfl
theorem setB_nm {H : HS} {i : Nat} {b : HB} : (H.setB i b).nm = H.nm := rfl
theorem pushM_nb {H : HS} {m : MB} : (H.pushM m).nb = H.nb := rfl
theorem setM_nb {H : HS} {i : Nat} {m : MB} : (H.setM i m).nb = H.nb := rfl
theorem pushM_blks {H : HS} {m : MB} : (H.pushM m).blks = H.blks := rfl
theorem setM_blks {H : HS} {i : Nat} {m : MB} : (H.setM i m).blks = H.blks := rfl
theorem nm0 {H : HS} (h : H.maps = []) : H.nm = 0 := by simp [HS.nm, h]
theorem nm1 {H : HS} {a : MB} (h : H.maps = [a]) : H.nm = 1 := by simp [HS.nm, h]
theorem mAt0 {H : HS} {a : MB} {l : List MB} (h : H.maps = a :: l) : H.maps[0]? = some a := by simp [h]
theorem mAt1 {H : HS} {a b : MB} {l : List MB} (h : H.maps = a :: b :: l) : H.maps[1]? = some b := by simp [h]
theorem mPush0 {H : HS} {a : MB} (h : H.maps = []) : (H.pushM a).maps = [a] := by simp [HS.pushM, h]
theorem mPush1 {H : HS} {a b : MB} (h : H.maps = [a]) : (H.pushM b).maps = [a, b] := by simp [HS.pushM, h]
theorem mSet0 {H : HS} {a b : MB} (h : H.maps = [a]) : (H.setM 0 b).maps = [b] := by simp [HS.setM, h]
theorem mSet1 {H : HS} {a b c : MB} (h : H.maps = [a, b]) : (H.setM 1 c).maps = [a, c] := by simp [HS.setM, h]
theorem noIter1 {H : HS} {es : List (List UInt8 × DV)} (h : H.maps = [.map es]) (id : Nat) : ∀ (j n : Nat) q, H.maps[j]? ≠ some (.iter (some id) n q) := by
  intro j n q
  rw [h]
  cases j with
  | zero => simp
  | succ j => simp
end
end Go.AV
namespace Go.AV.Patch
open Go.AV.Ord Go.AV.Oct Go.AV.Val
def eL (fs : List F) : List (List UInt8 × DV) := fs.foldl (fun es f => putE es f.name (.agg (vC f.val))) []
theorem eL_step {fs : List F} {k : Nat} {f : F} (h : fs[k]? = some f) : eL (fs.take (k + 1)) = putE (eL (fs.take k)) f.name (.agg (vC f.val)) := by
  rw [take_snoc h]; simp [eL, List.foldl_append]
theorem eL_snoc (fs : List F) (f : F) : eL (fs ++ [f]) = putE (eL fs) f.name (.agg (vC f.val)) := by simp [eL, List.foldl_append]
theorem getE_put : ∀ (es : List (List UInt8 × DV)) (k n : List UInt8) (v : DV), getE (putE es k v) n = if k = n then some v else getE es n
  | [], k, n, v => by simp [putE, getE]
  | e :: es, k, n, v => by
    unfold putE
    by_cases hk : e.1 = k
    · rw [if_pos hk]
      simp only [getE]
      by_cases hn : k = n
      · simp [hn]
      · have : ¬ e.1 = n := fun h => hn (hk.symm.trans h)
        simp [hn, this]
    · rw [if_neg hk]
      simp only [getE, getE_put es k n v]
      by_cases he : e.1 = n
      · have : ¬ k = n := fun h => hk (he.trans h.symm)
        simp [he, this]
      · simp [he]
theorem putE_len : ∀ (es : List (List UInt8 × DV)) (k : List UInt8) (v : DV), (putE es k v).length = es.length + (if (getE es k).isSome then 0 else 1)
  | [], k, v => by simp [putE, getE]
  | e :: es, k, v => by
    unfold putE
    by_cases hk : e.1 = k
    · simp [hk, getE]
    · simp only [if_neg hk, getE, List.length_cons, putE_len es k v]
      split <;> omega
theorem mem_put : ∀ {es : List (List UInt8 × DV)} {k : List UInt8} {v : DV} {x : List UInt8 × DV}, x ∈ putE es k v → x = (k, v) ∨ x ∈ es
  | [], _, _, x, h => by simp [putE] at h; exact .inl h
  | e :: es, k, v, x, h => by
    unfold putE at h
    by_cases hk : e.1 = k
    · rw [if_pos hk] at h
      rcases List.mem_cons.1 h with h | h
      · exact .inl h
      · exact .inr (List.mem_cons_of_mem _ h)
    · rw [if_neg hk] at h
      rcases List.mem_cons.1 h with h | h
      · exact .inr (by rw [h]; exact List.mem_cons_self ..)
      · rcases mem_put h with h | h
        · exact .inl h
        · exact .inr (List.mem_cons_of_mem _ h)
def Once (es : List (List UInt8 × DV)) : Prop := (es.map (·.1)).Nodup
theorem Once.put : ∀ {es : List (List UInt8 × DV)} (k : List UInt8) (v : DV), Once es → Once (putE es k v)
  | [], k, v, _ => by simp [putE, Once]
  | e :: es, k, v, h => by
    have h2 := List.nodup_cons.1 (show ((e :: es).map (·.1)).Nodup from h)
    unfold putE
    by_cases hk : e.1 = k
    · rw [if_pos hk]
      exact List.nodup_cons.2 ⟨by rw [← hk]; exact h2.1, h2.2⟩
    · rw [if_neg hk]
      refine List.nodup_cons.2 ⟨fun hm => ?_, Once.put k v h2.2⟩
      obtain ⟨x, hx, hxe⟩ := List.mem_map.1 hm
      rcases mem_put hx with rfl | hx
      · exact hk hxe.symm
      · exact h2.1 (hxe ▸ List.mem_map.2 ⟨x, hx, rfl⟩)
theorem Once.get : ∀ {es : List (List UInt8 × DV)} {k : List UInt8} {d : DV}, Once es → (k, d) ∈ es → getE es k = some d
  | [], _, _, _, h => by cases h
  | e :: es, k, d, h, hm => by
    have h2 := List.nodup_cons.1 (show ((e :: es).map (·.1)).Nodup from h)
    unfold getE
    rcases List.mem_cons.1 hm with rfl | hm
    · rw [if_pos rfl]
    · have : ¬ e.1 = k := fun he => h2.1 (by show e.1 ∈ _; rw [he]; exact List.mem_map.2 ⟨(k, d), hm, rfl⟩)
      rw [if_neg this]
      exact Once.get h2.2 hm
theorem snoc_ind {α : Type} {p : List α → Prop} (h0 : p []) (h1 : ∀ l x, p l → p (l ++ [x])) (l : List α) : p l := by
  have : ∀ m : List α, p m.reverse := fun m => by
    induction m with
    | nil => exact h0
    | cons x m ih => rw [List.reverse_cons]; exact h1 _ _ ih
  simpa using this l.reverse
theorem eL_get (fs : List F) : ∀ n, getE (eL fs) n = (getF (ofF fs) n).map fun v => DV.agg (vC v) := by
  refine snoc_ind (p := fun fs => ∀ n, getE (eL fs) n = (getF (ofF fs) n).map fun v => DV.agg (vC v)) (fun n => rfl) (fun l f ih n => ?_) fs
  rw [eL_snoc, ofF_snoc, getE_put]
  by_cases hn : f.name = n
  · subst hn; rw [if_pos rfl, getF_put]; rfl
  · rw [if_neg hn, getF_other _ _ _ hn, ih]
theorem eL_once (fs : List F) : Once (eL fs) := snoc_ind (p := fun fs => Once (eL fs)) (by simp [eL, Once]) (fun l f ih => by rw [eL_snoc]; exact ih.put _ _) fs
theorem putF_lenG : ∀ (l : List F) (f : F), rises l = true → (putF l f).length = l.length + (if (getF l f.name).isSome then 0 else 1)
  | [], f, _ => by simp [putF, getF]
  | g :: l, f, h => by
    rw [getF_cons, putF]
    by_cases h1 : Op.bytesLess g.name f.name = true
    · have hne : ¬ g.name = f.name := less_ne h1
      rw [if_pos h1, if_neg hne, List.length_cons, putF_lenG l f (rises_tail h), List.length_cons]
      omega
    · rw [if_neg h1]
      by_cases h2 : g.name = f.name
      · simp [h2]
      · rw [if_neg (by simpa using h2), if_neg h2]
        have hlt : Op.bytesLess f.name g.name = true := by
          rw [less_total h2]; simpa using h1
        rw [getF_below h (.inr hlt)]
        simp
theorem eL_len (fs : List F) : (eL fs).length = (ofF fs).length := by
  refine snoc_ind (p := fun fs => (eL fs).length = (ofF fs).length) rfl (fun l f ih => ?_) fs
  rw [eL_snoc, ofF_snoc, putE_len, putF_lenG _ _ (ofF_rises l), eL_get, ih]
  cases getF (ofF l) f.name <;> rfl
theorem eL_mem {fs : List F} {k : List UInt8} {d : DV} (h : (k, d) ∈ eL fs) : ∃ v, getF (ofF fs) k = some v ∧ d = .agg (vC v) := by
  have h1 := (eL_once fs).get h
  rw [eL_get] at h1
  obtain ⟨v, hv, e⟩ := Option.map_eq_some_iff.1 h1
  exact ⟨v, hv, e.symm⟩
theorem getF_at : ∀ {l : List F} {i : Nat} {f : F}, rises l = true → l[i]? = some f → getF l f.name = some f.val
  | [], _, _, _, h => by simp at h
  | g :: l, 0, f, _, h => by
    simp at h
    subst h
    rw [getF_cons, if_pos rfl]
  | g :: l, i + 1, f, hr, h => by
    simp only [List.getElem?_cons_succ] at h
    have hlt := rises_all hr f (List.mem_of_getElem? h)
    rw [getF_cons, if_neg (less_ne hlt)]
    exact getF_at (rises_tail hr) h
theorem rises_at {l : List F} {i : Nat} {f g : F} (hr : rises l = true) (h1 : l[i]? = some f) (h2 : l[i + 1]? = some g) : Op.bytesLess f.name g.name = true := by
  induction l generalizing i with
  | nil => simp at h1
  | cons a l ih =>
    cases i with
    | zero =>
      simp at h1
      subst h1
      exact rises_all hr g (List.mem_of_getElem? (by simpa using h2))
    | succ i => exact ih (rises_tail hr) (by simpa using h1) (by simpa using h2)
theorem ofMapV_M (fs : List F) : ofMapV fs = M (ofF fs) := rfl
theorem fields_law (fs : List F) (n0 : List UInt8) (x : V) :
    (∃ gx gb, getV (M (ofF fs)) n0 = (gx, gb) ∧ (getE (eL fs) n0).isSome = gb ∧ (getE (eL fs) n0).getD (.agg (vC V0)) = .agg (vC gx)) ∧
    getV (withV (M (ofF fs)) n0 x) n0 = (x, true) ∧ getV (withoutV (M (ofF fs)) n0) n0 = (V0, false) ∧
    ∀ n v, ¬ n = n0 → getF (ofF fs) n = some v → getV (withV (M (ofF fs)) n0 x) n = (v, true) ∧ getV (withoutV (M (ofF fs)) n0) n = (v, true) := by
  have hw : withV (M (ofF fs)) n0 x = M (putF (ofF fs) ⟨n0, x⟩) := by
    show (if (5 : Int) = 5 then ofMapV (ofF fs ++ [⟨n0, x⟩]) else _) = _
    rw [if_pos rfl, ofMapV_M, ofF_snoc, ofF_self (ofF_rises fs)]
  refine ⟨?_, ?_, ?_, fun n v hn hv => ⟨?_, ?_⟩⟩
  · rw [getV_M, eL_get]
    cases getF (ofF fs) n0 with
    | none => exact ⟨_, _, rfl, rfl, rfl⟩
    | some v => exact ⟨_, _, rfl, rfl, rfl⟩
  · rw [hw, getV_M, show getF (putF (ofF fs) ⟨n0, x⟩) n0 = some x from getF_put _ _]
  · rw [without_M, getV_M, getF_del, if_pos rfl]
  · rw [hw, getV_M, getF_other (ofF fs) ⟨n0, x⟩ n (fun e : n0 = n => hn e.symm), hv]
  · rw [without_M, getV_M, getF_del, if_neg hn, hv]
theorem fields_small {fs : List F} (h : ∀ f ∈ fs, fewV 7 f.val = true) : (∀ f ∈ ofF fs, SmallV f.val) ∧ (∀ n v, getF (ofF fs) n = some v → SmallV v) ∧ ∀ n, SmallV (getV (M (ofF fs)) n).1 := by
  have h1 : ∀ f ∈ ofF fs, SmallV f.val := fun f hf => few_small 7 _ (h f (ofF_mem hf))
  have h2 : ∀ n v, getF (ofF fs) n = some v → SmallV v := fun n v hv => by
    obtain ⟨f, hf, rfl⟩ := getF_mem hv
    exact h1 f hf
  refine ⟨h1, h2, fun n => ?_⟩
  rw [getV_M]
  cases hq : getF (ofF fs) n with
  | none => exact (BndV.v0 (m := 8)).small (by decide)
  | some v => exact h2 n v hq
theorem with_len (fs : List F) (n : List UInt8) (x : V) : (withV (M (ofF fs)) n x).fields.length ≤ fs.length + 1 := by
  rw [ofMap_rise (ofF_rises fs)]
  have h1 := putF_len (ofF fs) ⟨n, x⟩
  have h2 := ofF_len fs
  show (putF (ofF fs) ⟨n, x⟩).length ≤ _
  omega
theorem without_len (fs : List F) (n : List UInt8) : (withoutV (M (ofF fs)) n).fields.length ≤ fs.length := by
  show (delF (ofF fs) n).length ≤ _
  have h1 := List.length_filter_le (fun f : F => !(f.name == n)) (ofF fs)
  have h2 := ofF_len fs
  unfold delF
  omega
end Go.AV.Patch
namespace Go.AV.Val
open Go.AV.Ord Go.AV.Oct
structure VTypes (P : Program) (tV tF tK tB tI tS tL tM : TypeId) : Prop where
  v : ∃ fs, P.underlying tV = some (.struct fs) ∧ (∃ f, fs[0]? = some f ∧ f.type = tK ∧ f.offset = 0) ∧ (∃ f, fs[1]? = some f ∧ f.type = tB ∧ f.offset = 1) ∧ (∃ f, fs[2]? = some f ∧ f.type = tI ∧ f.offset = 2) ∧ (∃ f, fs[3]? = some f ∧ f.type = tS ∧ f.offset = 3) ∧ (∃ f, fs[4]? = some f ∧ f.type = tL ∧ f.offset = 4) ∧ (∃ f, fs[5]? = some f ∧ f.type = tM ∧ f.offset = 5) ∧ fs.size = 6
  f : ∃ fs, P.underlying tF = some (.struct fs) ∧ (∃ f, fs[0]? = some f ∧ f.type = tS ∧ f.offset = 0) ∧ (∃ f, fs[1]? = some f ∧ f.type = tV ∧ f.offset = 1) ∧ fs.size = 2
  k : P.underlying tK = some (.int .i64)
  b : P.underlying tB = some .bool
  i : P.underlying tI = some (.int .i64)
  s : P.underlying tS = some .string
  l : P.underlying tL = some (.slice tV)
  m : P.underlying tM = some (.slice tF)
  cV : P.cellsOf tV = 6
  cF : P.cellsOf tF = 7
  cK : P.cellsOf tK = 1
  cB : P.cellsOf tB = 1
  cI : P.cellsOf tI = 1
  cS : P.cellsOf tS = 1
  cL : P.cellsOf tL = 1
  cM : P.cellsOf tM = 1
section
variable {H : Type} {enc : TypeId × Value → H} {P : Program} {W : World} {sp : Nat → Bool} {held : Bool} {tV tF tK tB tI tS tL tM : TypeId}
theorem all_map' {α : Type} {p : α → Prop} {f : α → DV} : ∀ {ys : List DV}, (∀ y ∈ ys, ∃ x, p x ∧ y = f x) → ∃ xs : List α, (∀ x ∈ xs, p x) ∧ ys = xs.map f
  | [], _ => ⟨[], fun _ h => (by cases h), rfl⟩
  | y :: ys, h => by
    obtain ⟨x, hp, rfl⟩ := h y (by simp)
    obtain ⟨xs, hps, rfl⟩ := all_map' (ys := ys) fun z hz => h z (by simp [hz])
    exact ⟨x :: xs, fun z hz => by rcases List.mem_cons.1 hz with rfl | hz; exact hp; exact hps z hz, rfl⟩
theorem list_cell {fuel : Nat} {t e : TypeId} {sz : Nat} (hsz0 : 0 < sz) (Good : DV → Prop) (ht : P.underlying t = some (.slice e)) (hsz : P.cellsOf e = sz) {c : Value} {x : DataW H × List MemPlace} (h : DataW.trod enc P W 0 sp held fuel t [c] = some x)
    (hel : ∀ m, m < fuel → ∀ cs d p, DataW.trod enc P W 0 sp held m e cs = some (d, p) → cs.length = sz → ∃ y, Go.AV.Reads W Good sz cs y) : ∃ ys, RepD (ctx0 W).mem c (.lst sz ys) ∧ (∀ y ∈ ys, Good y) := by
  cases fuel with
  | zero => simp [DataW.trod] at h
  | succ n =>
    rcases DataW.trod_slice ht h with ⟨h1, _⟩ | ⟨a, len, cap, _, _, m, h0, h1, _⟩
    · cases h1
      exact ⟨[], .lstE _ _ _, fun _ h => (by cases h)⟩
    · cases h1
      obtain ⟨d, p⟩ := x
      exact rep_slice hsz0 Good ht hsz (hel n (by omega)) h
theorem one_cell {Good : DV → Prop} {c : Value} {y : DV} (h : Go.AV.Reads W Good 1 [c] y) (e : y.cells = [y]) : RepD (ctx0 W).mem c y := by
  have := h.at_ 0 (by simp) (by rw [e]; simp)
  simpa [e] using this
theorem reads_both (T : VTypes P tV tF tK tB tI tS tL tM) : ∀ (N fuel : Nat), fuel ≤ N →
    (∀ (cs : List Value) d p, DataW.trod enc P W 0 sp held fuel tV cs = some (d, p) → cs.length = 6 → ∃ y, Go.AV.Reads W (fun y => ∃ v, WfV v ∧ y = vD v) 6 cs y) ∧
    (∀ (cs : List Value) d p, DataW.trod enc P W 0 sp held fuel tF cs = some (d, p) → cs.length = 7 → ∃ y, Go.AV.Reads W (fun y => ∃ f : F, WfV f.val ∧ y = fD f) 7 cs y)
  | 0, fuel, hf => by
    have : fuel = 0 := by omega
    subst this
    exact ⟨fun _ _ _ h => by simp [DataW.trod] at h, fun _ _ _ h => by simp [DataW.trod] at h⟩
  | N + 1, fuel, hf => by
    refine ⟨fun cs d p h hl => ?_, fun cs d p h hl => ?_⟩
    · obtain ⟨fs, hu, ⟨f0, g0, e0, o0⟩, ⟨f1, g1, e1, o1⟩, ⟨f2, g2, e2, o2⟩, ⟨f3, g3, e3, o3⟩, ⟨f4, g4, e4, o4⟩, ⟨f5, g5, e5, o5⟩, hsz⟩ := T.v
      obtain ⟨xs, n, hn, _, _, hxl, hx⟩ := DataW.trod_struct hu h
      subst hn
      obtain ⟨c0, c1, c2, c3, c4, c5, rfl⟩ : ∃ c0 c1 c2 c3 c4 c5, cs = [c0, c1, c2, c3, c4, c5] := by
        match cs, hl with
        | [c0, c1, c2, c3, c4, c5], _ => exact ⟨_, _, _, _, _, _, rfl⟩
      have get : ∀ i, i < 6 → ∃ x, xs[i]? = some x := fun i hi => ⟨_, List.getElem?_eq_getElem (by omega)⟩
      have q0 := hx 0 f0 g0
      have q1 := hx 1 f1 g1
      have q2 := hx 2 f2 g2
      have q3 := hx 3 f3 g3
      have q4 := hx 4 f4 g4
      have q5 := hx 5 f5 g5
      rw [e0, o0, T.cK] at q0
      rw [e1, o1, T.cB] at q1
      rw [e2, o2, T.cI] at q2
      rw [e3, o3, T.cS] at q3
      rw [e4, o4, T.cL] at q4
      rw [e5, o5, T.cM] at q5
      obtain ⟨⟨_, _⟩, x0⟩ := get 0 (by decide)
      obtain ⟨⟨_, _⟩, x1⟩ := get 1 (by decide)
      obtain ⟨⟨_, _⟩, x2⟩ := get 2 (by decide)
      obtain ⟨⟨_, _⟩, x3⟩ := get 3 (by decide)
      obtain ⟨⟨_, _⟩, x4⟩ := get 4 (by decide)
      obtain ⟨⟨_, _⟩, x5⟩ := get 5 (by decide)
      rw [x0] at q0; rw [x1] at q1; rw [x2] at q2; rw [x3] at q3; rw [x4] at q4; rw [x5] at q5
      obtain ⟨y0, r0⟩ := reads_int T.k q0
      obtain ⟨y1, r1⟩ := reads_bool T.b q1
      obtain ⟨y2, r2⟩ := reads_int T.i q2
      obtain ⟨y3, r3⟩ := reads_str T.s q3
      obtain ⟨k, rfl, wk⟩ := r0.good
      obtain ⟨b, rfl⟩ := r1.good
      obtain ⟨i, rfl, wi⟩ := r2.good
      obtain ⟨s, rfl⟩ := r3.good
      obtain ⟨ls', r4, l4⟩ := list_cell (by decide) _ T.l T.cV q4 fun m hm => (reads_both T N m (by omega)).1
      obtain ⟨fs', r5, l5⟩ := list_cell (by decide) _ T.m T.cF q5 fun m hm => (reads_both T N m (by omega)).2
      obtain ⟨ls, wl, rfl⟩ := all_map' l4
      obtain ⟨ffs, wf, rfl⟩ := all_map' l5
      refine ⟨vD (.mk k b i s ls ffs), rfl, by rw [vD_cells]; rfl, fun z hz => vC_one _ z hz, ⟨_, .mk _ _ _ _ _ _ (wf_i64 wk) (wf_i64 wi) wl wf, rfl⟩, fun j hj hj' => ?_⟩
      have ec : (vD (.mk k b i s ls ffs)).cells = [.v (.int .i64 k), TF b, .v (.int .i64 i), S s, .lst 6 (ls.map vD), .lst 7 (ffs.map fD)] := vD_cells _
      have p0 := one_cell r0 rfl
      have p1 := one_cell r1 rfl
      have p2 := one_cell r2 rfl
      have p3 := one_cell r3 rfl
      simp only [ec]
      match j, hj with
      | 0, _ => exact p0
      | 1, _ => exact p1
      | 2, _ => exact p2
      | 3, _ => exact p3
      | 4, _ => exact r4
      | 5, _ => exact r5
    · obtain ⟨fs, hu, ⟨f0, g0, e0, o0⟩, ⟨f1, g1, e1, o1⟩, hsz⟩ := T.f
      obtain ⟨xs, n, hn, _, _, hxl, hx⟩ := DataW.trod_struct hu h
      subst hn
      obtain ⟨c0, cs', rfl⟩ : ∃ c0 cs', cs = c0 :: cs' := List.exists_cons_of_ne_nil (by intro e; subst e; cases hl)
      have hl' : cs'.length = 6 := by simpa using hl
      have get : ∀ i, i < 2 → ∃ x, xs[i]? = some x := fun i hi => ⟨_, List.getElem?_eq_getElem (by omega)⟩
      have q0 := hx 0 f0 g0
      have q1 := hx 1 f1 g1
      rw [e0, o0, T.cS] at q0
      rw [e1, o1, T.cV, List.drop_succ_cons, List.drop_zero, List.take_of_length_le (by omega)] at q1
      obtain ⟨⟨_, _⟩, x0⟩ := get 0 (by decide)
      obtain ⟨⟨_, _⟩, x1⟩ := get 1 (by decide)
      rw [x0] at q0; rw [x1] at q1
      obtain ⟨y0, r0⟩ := reads_str T.s q0
      obtain ⟨s, rfl⟩ := r0.good
      obtain ⟨y1, r1⟩ := (reads_both T N n (by omega)).1 _ _ _ q1 hl'
      obtain ⟨v, wv, rfl⟩ := r1.good
      have p0 := one_cell r0 rfl
      have ec : (fD (.mk s v)).cells = S s :: (vD v).cells := fD_cells _
      refine ⟨fD (.mk s v), hl, by rw [ec, List.length_cons, r1.ylen], fun z hz => fC_one _ z hz, ⟨.mk s v, wv, rfl⟩, fun j hj hj' => ?_⟩
      simp only [ec]
      match j, hj with
      | 0, _ => exact p0
      | j + 1, hj => exact r1.at_ j (by simpa using hj) (by rw [ec] at hj'; simpa using hj')
theorem arg_val (T : VTypes P tV tF tK tB tI tS tL tM) {r : Reach} {b0 : Nat} {v : Value} {d : DataW H} {ps : List MemPlace} (hval : Value.okWide P W r b0 tV v) (hd : DataW.Trod enc P W 0 sp held tV v d ps) : ∃ x : V, WfV x ∧ Rep (ctx0 W) v (.d (.agg (vC x))) := by
  obtain ⟨fs, hu, _⟩ := T.v
  obtain ⟨cs, rfl, hs⟩ := WideShapes.okWide_struct hu hval
  rw [T.cV] at hs
  obtain ⟨fuel, hf⟩ := hd
  have hl : (Value.agg cs).cells.toList.length = 6 := by simpa [Value.cells] using hs
  obtain ⟨y, hy⟩ := (reads_both T fuel fuel (Nat.le_refl _)).1 _ _ _ hf hl
  obtain ⟨x, wx, rfl⟩ := hy.good
  refine ⟨x, wx, .d (.agg cs (vC x) (by rw [hs, vC_len]) (vC_one x) fun i hi => ?_)⟩
  have hi6 : i < 6 := by rw [vC_len] at hi; exact hi
  have := hy.at_ i (by rw [hl]; exact hi6) hi
  have e : cs.getD i undef = (Value.agg cs).cells.toList[i]'(by rw [hl]; exact hi6) := by
    simp [Value.cells, Array.getD, hs, hi6]
  rw [e]
  exact this
end
end Go.AV.Val
namespace Go.AV.Val
open Go.AV.Ord Go.AV.Oct
section
variable {H : Type} {enc : TypeId × Value → H} {P : Program} {W : World} {sp : Nat → Bool} {held : Bool}
end
end Go.AV.Val
namespace Go.AV.Val
open Go.AV.Ord Go.AV.Oct
section
variable {H : Type} {enc : TypeId × Value → H} {P : Program} {W : World} {sp : Nat → Bool} {held : Bool} {tV tF tK tB tI tS tL tM : TypeId}
theorem lst_len {m : Nat → Nat → Option Value} {a : Option Addr} {n cap sz : Nat} {ys : List DV} (h : RepD m (.slice a n cap) (.lst sz ys)) : ys.length = n := by
  cases h with
  | lstE => rfl
  | lst => assumption
theorem arg_fields (T : VTypes P tV tF tK tB tI tS tL tM) {r : Reach} {b0 : Nat} {v : Value} {d : DataW H} {ps : List MemPlace} (hval : Value.okWide P W r b0 tM v) (hd : DataW.Trod enc P W 0 sp held tM v d ps) :
    ∃ l : List F, (∀ f ∈ l, WfV f.val) ∧ l.length ≤ 9223372036854775807 ∧ Rep (ctx0 W) v (.d (.lst 7 (l.map fD))) := by
  obtain ⟨ys, h1, h2⟩ := arg_list (by decide) (fun y => ∃ f : F, WfV f.val ∧ y = fD f) T.m T.cF hval hd fun fuel cs d p h hl => (reads_both T fuel fuel (Nat.le_refl _)).2 _ _ _ h hl
  obtain ⟨l, hl, rfl⟩ := all_map' h1
  refine ⟨l, hl, ?_, h2⟩
  obtain ⟨fuel, hf⟩ := hd
  cases h2 with
  | d h2 =>
    cases fuel with
    | zero => simp [DataW.trod] at hf
    | succ n =>
      have h3 := h2
      have hcl : ∀ c, v.cells.toList = [c] → v = c → l.length ≤ 9223372036854775807 := by
        intro c hc hv
        rw [hc] at hf
        rcases DataW.trod_slice T.m hf with ⟨e, _⟩ | ⟨ad, len, cap, _, _, m, h0, e, _, _, q2, q3, _⟩
        · subst hv
          obtain rfl := List.head_eq_of_cons_eq e
          have := lst_len h3
          simp at this
          subst this; decide
        · subst hv
          obtain rfl := List.head_eq_of_cons_eq e
          have := lst_len h3
          simp at this
          have hmax : (maxLen : Nat) = 9223372036854775807 := by decide
          omega
      generalize l.map fD = m at h2
      cases h2 with
      | lst => exact hcl _ rfl rfl
      | lstE => exact hcl _ rfl rfl
end
end Go.AV.Val
namespace Go.Proofs.Ytjbpfnoibeogbaa
open Go.AV Go.AV.Ord Go.AV.Oct Go.AV.Val Go.AV.Patch
set_option linter.unusedVariables false
set_option linter.unusedSimpArgs false
theorem vtypes : VTypes Try.prog 26 30 23 4 2 9 24 22 where
  v := ⟨_, Try.underlying26, ⟨_, rfl, rfl, rfl⟩, ⟨_, rfl, rfl, rfl⟩, ⟨_, rfl, rfl, rfl⟩, ⟨_, rfl, rfl, rfl⟩, ⟨_, rfl, rfl, rfl⟩, ⟨_, rfl, rfl, rfl⟩, rfl⟩
  f := ⟨_, Try.underlying30, ⟨_, rfl, rfl, rfl⟩, ⟨_, rfl, rfl, rfl⟩, rfl⟩
  k := Try.underlying23
  b := Try.underlying4
  i := Try.underlying2
  s := Try.underlying9
  l := Try.underlying24
  m := Try.underlying22
  cV := by kernel_rfl
  cF := by kernel_rfl
  cK := by kernel_rfl
  cB := by kernel_rfl
  cI := by kernel_rfl
  cS := by kernel_rfl
  cL := by kernel_rfl
  cM := by kernel_rfl
theorem repV0 (m : Mem) : RepD m (.agg #[.int .i64 0, .bool false, .int .i64 0, .string ByteArray.empty, .slice none 0 0, .slice none 0 0]) (.agg (vC V0)) := by
  refine .agg _ _ rfl (vC_one V0) fun i hi => ?_
  match i, hi with
  | 0, _ => exact .v _ rfl
  | 1, _ => exact .v _ rfl
  | 2, _ => exact .v _ rfl
  | 3, _ => exact .v _ rfl
  | 4, _ => exact .lstE none 0 6
  | 5, _ => exact .lstE none 0 7
set_option maxHeartbeats 4000000 in
set_option maxRecDepth 100000 in
theorem valFields_walk (Hs : HS) (fs : List F) (n0 : List UInt8) (x : V) (hfl : fs.length ≤ 9223372036854775807) (hM : Hs.maps = []) : ACalls Try.prog 3 [.d (.lst 7 (fs.map fD)), .d (S n0), .d (.agg (vC x))] Hs (fun av _ => av = .d (TF true)) := by
 refine acalls_of_aw Try.func3 rfl ?_
 refine aw_start (T' := ((.d (.lst 7 (fs.map fD))) :: (.d (S n0)) :: (.d (.agg (vC x))) :: .un :: .un :: .un :: .un :: .un :: .un :: .un :: .un :: .un :: .un :: .un :: .un :: .un :: .un :: .un :: .un :: .un :: .un :: .un :: .un :: .un :: .un :: .un :: .un :: .un :: .un :: .un :: .un :: .un :: .un :: .un :: .un :: .un :: .un :: .un :: .un :: .un :: .un :: .un :: .un :: .un :: .un :: .un :: .un :: .un :: .un :: .un :: .un :: .un :: .un :: .un :: .un :: .un :: .un :: .un :: .un :: .un :: .un :: .un :: .un :: .un :: .un :: .un :: .un :: .un :: .un :: .un :: .un :: .un :: .un :: .un :: .un :: .un :: .un :: .un :: .un :: .un :: .un :: .un :: .un :: .un :: .un :: .un :: .un :: .un :: .un :: .un :: .un :: .un :: .un :: .un :: .un :: .un :: .un :: .un :: .un :: .un :: .un :: .un :: .un :: .un :: .un :: .un :: .un :: .un :: .un :: .un :: .un :: .un :: .un :: .un :: .un :: .un :: .un :: .un :: .un :: .un :: .un :: .un :: .un :: .un :: .un :: .un :: .un :: .un :: .un :: .un :: .un :: .un :: .un :: .un :: .un :: .un :: .un :: .un :: .un :: .un :: .un :: .un :: .un :: .un :: .un :: .un :: .un :: .un :: .un :: .un :: .un :: .un :: .un :: .un :: .un :: .un :: .un :: .un :: .un :: .un :: .un :: .un :: .un :: .un :: .un :: .un :: .un :: .un :: .un :: .un :: .un :: .un :: .un :: .un :: .un :: .un :: .un :: .un :: .un :: .un :: .un :: .un :: .un :: .un :: .un :: .un :: .un :: .un :: .un :: .un :: .un :: .un :: .un :: .un :: .un :: .un :: .un :: .un :: .un :: .un :: .un :: .un :: .un :: .un :: .un :: .un :: .un :: .un :: .un :: .un :: .un :: .un :: .un :: .un :: .un :: .un :: .un :: .un :: .un :: .un :: .un :: .un :: .un :: .un :: .un :: .un :: .un :: .un :: .un :: .un :: .un :: .un :: .un :: .un :: .un :: .un :: .un :: .un :: .un :: .un :: .un :: .un :: .un :: .un :: [])) rfl ?_
 refine aw_seq ?_
 refine aw_region ?_
 refine zst (op_box_elt (cs := [I x.kind, TF x.yes, .v (.int .i64 x.num), S x.text, .lst 6 (x.list.map vD), .lst 7 (x.fields.map fD)]) (by rfl) (vD_cells x)) rfl (by dsimp only [zS, zN, zH, zT]) ?_
 refine zst (op_assign_const (by rfl)) rfl (by dsimp only [zS, zN, zH, zT]) ?_
 refine al_end rfl ?_
 refine then_normal ?_
 refine aw_seq ?_
 refine aw_seq ?_
 refine aw_region ?_
 refine zst (op_callF Try.func9 (by rfl) (by rfl) .nil (vhead_ok _)) rfl (by dsimp only [zS, zN, zH, zT]) ?_
 refine zst (op_not (by rfl)) rfl (by dsimp only [zS, zN, zH, zT]) ?_
 refine al_end rfl ?_
 refine then_normal ?_
 refine aw_cond rfl (fun hc1 => ?_) (fun hc1 => ?_)
 ·
  (try simp only [y1, y2, y3, y4, y5, y6, y7, y8, y9, y0, List.length_map] at hc1)
  exact absurd hc1 (by decide)
 ·
  (try simp only [y1, y2, y3, y4, y5, y6, y7, y8, y9, y0, List.length_map] at hc1)
  refine aw_skip ?_
  refine then_normal ?_
  refine aw_seq ?_
  refine aw_seq ?_
  refine aw_region ?_
  refine zst (op_move_tmp (by rfl)) rfl (by dsimp only [zS, zN, zH, zT]) ?_
  refine zst (op_lenL Try.underlying22 (by first | exact LL.d _ _ | exact LL.own _ _ _ | exact LL.nil _ | assumption)) rfl (by dsimp only [zS, zN, zH, zT]) ?_
  refine zst (op_gtI (by rfl) (by rfl)) rfl (by dsimp only [zS, zN, zH, zT]) ?_
  refine zst (op_move_tmp (by rfl)) rfl (by dsimp only [zS, zN, zH, zT]) ?_
  refine al_split 38 rfl (fun hg2 => ?_) (fun hg2 => ?_)
  ·
   (try simp only [y1, y2, y3, y4, y5, y6, y7, y8, y9, y0, List.length_map] at hg2)
   apply al_normT
   · (try dsimp only [zS, zN, zH, zT]); try exact rfl
   refine zuw rfl rfl rfl rfl (by dsimp only [zS, zN, zH, zT]) ?_
   refine zuw rfl rfl rfl rfl (by dsimp only [zS, zN, zH, zT]) ?_
   refine zuw rfl rfl rfl rfl (by dsimp only [zS, zN, zH, zT]) ?_
   refine zst (op_pick_tt (by rfl) (val_const (by rfl))) rfl (by dsimp only [zS, zN, zH, zT]) ?_
   refine zst (op_move_tmp (by rfl)) rfl (by dsimp only [zS, zN, zH, zT]) ?_
   refine zuw rfl rfl rfl rfl (by dsimp only [zS, zN, zH, zT]) ?_
   refine zuw rfl rfl rfl rfl (by dsimp only [zS, zN, zH, zT]) ?_
   refine zuw rfl rfl rfl rfl (by dsimp only [zS, zN, zH, zT]) ?_
   refine zst (op_pick_tt (by rfl) (val_const (by rfl))) rfl (by dsimp only [zS, zN, zH, zT]) ?_
   refine al_end rfl ?_
   refine then_normal ?_
   refine aw_cond rfl (fun _ => ?_) (fun h => by cases h)
   refine aw_seq ?_
   refine aw_region ?_
   refine zst (op_assign_const (by rfl)) rfl (by dsimp only [zS, zN, zH, zT]) ?_
   refine al_end rfl ?_
   refine then_normal ?_
   refine aw_ret ?_
   refine then_ret ?_
   refine retPost1 rfl rfl ?_
   first | exact rfl | (simp [eL_len, TF]; done)
  ·
   (try simp only [y1, y2, y3, y4, y5, y6, y7, y8, y9, y0, List.length_map] at hg2)
   have hl20 : fs.length ≤ 20 := by (try simp only [List.length_map] at hg2); omega
   apply al_normT
   · (try dsimp only [zS, zN, zH, zT]); try exact rfl
   refine zsw rfl rfl rfl (op_move_tmp (by rfl)) (by dsimp only [zS, zN, zH, zT]) ?_
   refine zsw rfl rfl rfl (op_lenS Try.underlying9 (by rfl)) (by dsimp only [zS, zN, zH, zT]) ?_
   refine zsw rfl rfl rfl (op_gtI (by rfl) (by rfl)) (by dsimp only [zS, zN, zH, zT]) ?_
   refine zst (op_pick_ff (by rfl) (val_tmp (by rfl))) rfl (by dsimp only [zS, zN, zH, zT]) ?_
   refine zst (op_move_tmp (by rfl)) rfl (by dsimp only [zS, zN, zH, zT]) ?_
   refine al_split 43 rfl (fun hg4 => ?_) (fun hg4 => ?_)
   ·
    (try simp only [y1, y2, y3, y4, y5, y6, y7, y8, y9, y0, List.length_map] at hg4)
    apply al_normT
    · (try dsimp only [zS, zN, zH, zT]); try exact rfl
    refine zuw rfl rfl rfl rfl (by dsimp only [zS, zN, zH, zT]) ?_
    refine zuw rfl rfl rfl rfl (by dsimp only [zS, zN, zH, zT]) ?_
    refine zuw rfl rfl rfl rfl (by dsimp only [zS, zN, zH, zT]) ?_
    refine zst (op_pick_tt (by rfl) (val_const (by rfl))) rfl (by dsimp only [zS, zN, zH, zT]) ?_
    refine al_end rfl ?_
    refine then_normal ?_
    refine aw_cond rfl (fun _ => ?_) (fun h => by cases h)
    refine aw_seq ?_
    refine aw_region ?_
    refine zst (op_assign_const (by rfl)) rfl (by dsimp only [zS, zN, zH, zT]) ?_
    refine al_end rfl ?_
    refine then_normal ?_
    refine aw_ret ?_
    refine then_ret ?_
    refine retPost1 rfl rfl ?_
    first | exact rfl | (simp [eL_len, TF]; done)
   ·
    (try simp only [y1, y2, y3, y4, y5, y6, y7, y8, y9, y0, List.length_map] at hg4)
    apply al_normT
    · (try dsimp only [zS, zN, zH, zT]); try exact rfl
    refine zsw rfl rfl rfl (op_load_elts (ds := vC x) Try.underlying26 (by rfl) Sz26 (by rfl) (Nat.le_of_ble_eq_true rfl) (by rw [vC_eq]; rfl)) (by dsimp only [zS, zN, zH, zT]) ?_
    refine zsw rfl rfl rfl (op_callF Try.func10 (by rfl) (by rfl) (.tmp (by rfl) (.const (by rfl) .nil)) (few_ok 7 x (by decide) _)) (by dsimp only [zS, zN, zH, zT]) ?_
    refine zsw rfl rfl rfl (op_not (by rfl)) (by dsimp only [zS, zN, zH, zT]) ?_
    refine zst (op_pick_ff (by rfl) (val_tmp (by rfl))) rfl (by dsimp only [zS, zN, zH, zT]) ?_
    refine al_end rfl ?_
    refine then_normal ?_
    refine aw_cond rfl (fun hc6 => ?_) (fun hc6 => ?_)
    ·
     (try simp only [y1, y2, y3, y4, y5, y6, y7, y8, y9, y0, List.length_map] at hc6)
     refine aw_seq ?_
     refine aw_region ?_
     refine zst (op_assign_const (by rfl)) rfl (by dsimp only [zS, zN, zH, zT]) ?_
     refine al_end rfl ?_
     refine then_normal ?_
     refine aw_ret ?_
     refine then_ret ?_
     refine retPost1 rfl rfl ?_
     first | exact rfl | (simp [eL_len, TF]; done)
    ·
     (try simp only [y1, y2, y3, y4, y5, y6, y7, y8, y9, y0, List.length_map] at hc6)
     have hfx : fewV 7 x = true := by simpa using hc6
     refine aw_skip ?_
     refine then_normal ?_
     refine aw_seq ?_
     refine aw_seq ?_
     refine aw_region ?_
     refine zst (op_move_tmp (by rfl)) rfl (by dsimp only [zS, zN, zH, zT]) ?_
     refine zst (op_lenL Try.underlying22 (by first | exact LL.d _ _ | exact LL.own _ _ _ | exact LL.nil _ | assumption)) rfl (by dsimp only [zS, zN, zH, zT]) ?_
     refine zst (op_move_const (by rfl)) rfl (by dsimp only [zS, zN, zH, zT]) ?_
     refine al_end rfl ?_
     refine then_normal ?_
     refine aw_block ?_
     apply aw_loopF (fun n T H => ∃ (j : Nat), T = ((.d (.lst 7 (fs.map fD))) :: (.d (S n0)) :: .un :: .un :: .un :: (.elt [I x.kind, TF x.yes, .v (.int .i64 x.num), S x.text, .lst 6 (x.list.map vD), .lst 7 (x.fields.map fD)]) :: .un :: .un :: .un :: .un :: .un :: .un :: .un :: .un :: .un :: .un :: .un :: .un :: .un :: .un :: .un :: .un :: .un :: .un :: .un :: .un :: .un :: .un :: .un :: .un :: .un :: .un :: .un :: .un :: .un :: .un :: .un :: .un :: .un :: .un :: .un :: .un :: .un :: .un :: .un :: .un :: .un :: .un :: (.d (.lst 7 (fs.map fD))) :: (.d (I (fs.map fD).length)) :: (.d (I j)) :: .un :: .un :: .un :: .un :: .un :: .un :: .un :: .un :: .un :: .un :: .un :: .un :: .un :: .un :: .un :: .un :: .un :: .un :: .un :: .un :: .un :: .un :: .un :: .un :: .un :: .un :: .un :: .un :: .un :: .un :: .un :: .un :: .un :: .un :: .un :: .un :: .un :: .un :: .un :: .un :: .un :: .un :: .un :: .un :: .un :: .un :: .un :: .un :: .un :: .un :: .un :: .un :: .un :: .un :: .un :: .un :: .un :: .un :: .un :: .un :: .un :: .un :: .un :: .un :: .un :: .un :: .un :: .un :: .un :: .un :: .un :: .un :: .un :: .un :: .un :: .un :: .un :: .un :: .un :: .un :: .un :: .un :: .un :: .un :: .un :: .un :: .un :: .un :: .un :: .un :: .un :: .un :: .un :: .un :: .un :: .un :: .un :: .un :: .un :: .un :: .un :: .un :: .un :: .un :: .un :: .un :: .un :: .un :: .un :: .un :: .un :: .un :: .un :: .un :: .un :: .un :: .un :: .un :: .un :: .un :: .un :: .un :: .un :: .un :: .un :: .un :: .un :: .un :: .un :: .un :: .un :: .un :: .un :: .un :: .un :: .un :: .un :: .un :: .un :: .un :: .un :: .un :: .un :: .un :: .un :: .un :: .un :: .un :: .un :: .un :: .un :: .un :: .un :: .un :: .un :: .un :: .un :: .un :: .un :: .un :: .un :: .un :: .un :: .un :: .un :: .un :: .un :: .un :: .un :: .un :: .un :: .un :: .un :: .un :: .un :: .un :: .un :: .un :: .un :: .un :: .un :: .un :: .un :: .un :: .un :: .un :: .un :: .un :: .un :: .un :: .un :: .un :: .un :: []) ∧ j ≤ fs.length ∧ n = fs.length - j ∧ H.maps = [] ∧ ∀ f ∈ fs.take j, fewV 7 f.val = true) (fs.length) (true :: true :: false :: false :: false :: true :: false :: false :: false :: false :: false :: false :: false :: false :: false :: false :: false :: false :: false :: false :: false :: false :: false :: false :: false :: false :: false :: false :: false :: false :: false :: false :: false :: false :: false :: false :: false :: false :: false :: false :: false :: false :: false :: false :: false :: false :: false :: false :: true :: true :: true :: false :: false :: false :: false :: false :: false :: false :: false :: false :: false :: false :: false :: false :: false :: false :: false :: false :: false :: false :: false :: false :: false :: false :: false :: false :: false :: false :: false :: false :: false :: false :: false :: false :: false :: false :: false :: false :: false :: false :: false :: false :: false :: false :: false :: false :: false :: false :: false :: false :: false :: false :: false :: false :: false :: false :: false :: false :: false :: false :: false :: false :: false :: false :: false :: false :: false :: false :: false :: false :: false :: false :: false :: false :: false :: false :: false :: false :: false :: false :: false :: false :: false :: false :: false :: false :: false :: false :: false :: false :: false :: false :: false :: false :: false :: false :: false :: false :: false :: false :: false :: false :: false :: false :: false :: false :: false :: false :: false :: false :: false :: false :: false :: false :: false :: false :: false :: false :: false :: false :: false :: false :: false :: false :: false :: false :: false :: false :: false :: false :: false :: false :: false :: false :: false :: false :: false :: false :: false :: false :: false :: false :: false :: false :: false :: false :: false :: false :: false :: false :: false :: false :: false :: false :: false :: false :: false :: false :: false :: false :: false :: false :: false :: false :: false :: false :: false :: false :: false :: false :: false :: false :: false :: false :: false :: false :: false :: false :: false :: false :: false :: false :: false :: false :: false :: false :: false :: false :: false :: false :: false :: false :: false :: false :: [])
     · (try dsimp only [maskT]); try exact rfl
     · rfl
     · exact ⟨0, rfl, by omega, rfl, hM, by simp⟩
     rintro n T H ⟨j, rfl, hj, rfl, hM, hfew⟩
     refine aw_seq ?_
     refine aw_region ?_
     refine zst (op_ltI (by rfl) (by rfl)) rfl (by dsimp only [zS, zN, zH, zT]) ?_
     refine al_end rfl ?_
     refine then_normal ?_
     refine aw_seq ?_
     refine aw_cond rfl (fun hc7 => ?_) (fun hc7 => ?_)
     ·
      (try simp only [y1, y2, y3, y4, y5, y6, y7, y8, y9, y0, List.length_map] at hc7)
      (try simp only [List.length_map] at hc7)
      have hlt : j < fs.length := by omega
      obtain ⟨f, hf1⟩ : ∃ z0, fs[j]? = some z0 := ⟨_, List.getElem?_eq_getElem hlt⟩
      refine aw_skip ?_
      refine then_normal ?_
      refine aw_seq ?_
      refine aw_block ?_
      refine aw_seq ?_
      refine aw_region ?_
      refine zst (op_indexAddr (z := fD f) (cs := [S f.name, I f.val.kind, TF f.val.yes, .v (.int .i64 f.val.num), S f.val.text, .lst 6 (f.val.list.map vD), .lst 7 (f.val.fields.map fD)]) Try.underlying22 Sz30 (LL.d _ _) (by rfl) (by omega) (by rw [List.getElem?_map, show ((j : Nat) : Int).toNat = j from rfl, hf1]; rfl) (fD_cells7 f)) rfl (by dsimp only [zS, zN, zH, zT]) ?_
      refine zst (op_load_elts (ds := fC f) Try.underlying30 (by rfl) Sz30 (by rfl) (Nat.le_of_ble_eq_true rfl) (by rw [← fC7]; rfl)) rfl (by dsimp only [zS, zN, zH, zT]) ?_
      refine zst (op_alloc (Zr30) (by rfl)) rfl (by dsimp only [zS, zN, zH, zT]) ?_
      refine zst (op_storeF (b' := f1 30 f) f Sz30 (by rfl) push_at (by rfl) (Nat.le_of_ble_eq_true rfl) (by rfl) (by unfold f1; rw [← fC7]; rfl)) rfl (by dsimp only [zS, zN, zH, zT]) ?_
      refine al_end rfl ?_
      refine then_normal ?_
      refine aw_seq ?_
      refine aw_region ?_
      refine zst (by first | exact op_fieldAddr_ptr Try.underlying30 rfl Sz9 (by rfl) (by rfl) | exact op_fieldAddr_elt Try.underlying30 rfl Sz9 (by rfl) (by rfl) (by rfl)) rfl (by dsimp only [zS, zN, zH, zT]) ?_
      refine zst (op_load_ptr Try.underlying9 (by rfl) (by rfl) (setB_at push_at) (f1_name f)) rfl (by dsimp only [zS, zN, zH, zT]) ?_
      refine zst (op_lenS Try.underlying9 (by rfl)) rfl (by dsimp only [zS, zN, zH, zT]) ?_
      refine zst (op_gtI (by rfl) (by rfl)) rfl (by dsimp only [zS, zN, zH, zT]) ?_
      refine zst (op_move_tmp (by rfl)) rfl (by dsimp only [zS, zN, zH, zT]) ?_
      refine al_split 58 rfl (fun hg8 => ?_) (fun hg8 => ?_)
      ·
       (try simp only [y1, y2, y3, y4, y5, y6, y7, y8, y9, y0, List.length_map] at hg8)
       apply al_normT
       · (try dsimp only [zS, zN, zH, zT]); try exact rfl
       refine zuw rfl rfl rfl rfl (by dsimp only [zS, zN, zH, zT]) ?_
       refine zuw rfl rfl rfl rfl (by dsimp only [zS, zN, zH, zT]) ?_
       refine zuw rfl rfl rfl rfl (by dsimp only [zS, zN, zH, zT]) ?_
       refine zuw rfl rfl rfl rfl (by dsimp only [zS, zN, zH, zT]) ?_
       refine zst (op_pick_tt (by rfl) (val_const (by rfl))) rfl (by dsimp only [zS, zN, zH, zT]) ?_
       refine al_end rfl ?_
       refine then_normal ?_
       refine aw_cond rfl (fun _ => ?_) (fun h => by cases h)
       refine aw_seq ?_
       refine aw_region ?_
       refine zst (op_assign_const (by rfl)) rfl (by dsimp only [zS, zN, zH, zT]) ?_
       refine al_end rfl ?_
       refine then_normal ?_
       refine aw_ret ?_
       refine inBlock_ret (then_ret (again_ret (inBlock_ret (then_ret ?_))))
       refine retPost1 rfl rfl ?_
       first | exact rfl | (simp [eL_len, TF]; done)
      ·
       (try simp only [y1, y2, y3, y4, y5, y6, y7, y8, y9, y0, List.length_map] at hg8)
       apply al_normT
       · (try dsimp only [zS, zN, zH, zT]); try exact rfl
       refine zsw rfl rfl rfl (by first | exact op_fieldAddr_ptr Try.underlying30 rfl Sz26 (by rfl) (by rfl) | exact op_fieldAddr_elt Try.underlying30 rfl Sz26 (by rfl) (by rfl) (by rfl)) (by dsimp only [zS, zN, zH, zT]) ?_
       refine zsw rfl rfl rfl (op_load_ptrsD (vC f.val) Try.underlying26 (by rfl) Sz26 (by rfl) (setB_at push_at) (by show 1 + 6 ≤ ((fC f).map AV.d).length; rw [List.length_map, fC_len]; exact Nat.le_refl _) (f1_val f) (vC_one _)) (by dsimp only [zS, zN, zH, zT]) ?_
       refine zsw rfl rfl rfl (op_callF Try.func10 (by rfl) (by rfl) (.tmp (by rfl) (.const (by rfl) .nil)) (few_ok 7 f.val (by decide) _)) (by dsimp only [zS, zN, zH, zT]) ?_
       refine zsw rfl rfl rfl (op_not (by rfl)) (by dsimp only [zS, zN, zH, zT]) ?_
       refine zst (op_pick_ff (by rfl) (val_tmp (by rfl))) rfl (by dsimp only [zS, zN, zH, zT]) ?_
       refine al_end rfl ?_
       refine then_normal ?_
       refine aw_cond rfl (fun hc10 => ?_) (fun hc10 => ?_)
       ·
        (try simp only [y1, y2, y3, y4, y5, y6, y7, y8, y9, y0, List.length_map] at hc10)
        refine aw_seq ?_
        refine aw_region ?_
        refine zst (op_assign_const (by rfl)) rfl (by dsimp only [zS, zN, zH, zT]) ?_
        refine al_end rfl ?_
        refine then_normal ?_
        refine aw_ret ?_
        refine inBlock_ret (then_ret (again_ret (inBlock_ret (then_ret ?_))))
        refine retPost1 rfl rfl ?_
        first | exact rfl | (simp [eL_len, TF]; done)
       ·
        (try simp only [y1, y2, y3, y4, y5, y6, y7, y8, y9, y0, List.length_map] at hc10)
        have hff : fewV 7 f.val = true := by simpa using hc10
        refine aw_skip ?_
        refine inBlock_normal (then_normal ?_)
        refine aw_region ?_
        refine zst (by first | exact op_add (by rfl) (by rfl) (wrap_i64 ⟨by omega, by omega⟩) | exact op_add (by rfl) (by rfl) (by rfl)) rfl (by dsimp only [zS, zN, zH, zT]) ?_
        refine zst (op_move_tmp (by rfl)) rfl (by dsimp only [zS, zN, zH, zT]) ?_
        refine al_end rfl ?_
        apply again_to (fs.length - (j + 1)) (true :: true :: false :: false :: false :: true :: false :: false :: false :: false :: false :: false :: false :: false :: false :: false :: false :: false :: false :: false :: false :: false :: false :: false :: false :: false :: false :: false :: false :: false :: false :: false :: false :: false :: false :: false :: false :: false :: false :: false :: false :: false :: false :: false :: false :: false :: false :: false :: true :: true :: true :: false :: false :: false :: false :: false :: false :: false :: false :: false :: false :: false :: false :: false :: false :: false :: false :: false :: false :: false :: false :: false :: false :: false :: false :: false :: false :: false :: false :: false :: false :: false :: false :: false :: false :: false :: false :: false :: false :: false :: false :: false :: false :: false :: false :: false :: false :: false :: false :: false :: false :: false :: false :: false :: false :: false :: false :: false :: false :: false :: false :: false :: false :: false :: false :: false :: false :: false :: false :: false :: false :: false :: false :: false :: false :: false :: false :: false :: false :: false :: false :: false :: false :: false :: false :: false :: false :: false :: false :: false :: false :: false :: false :: false :: false :: false :: false :: false :: false :: false :: false :: false :: false :: false :: false :: false :: false :: false :: false :: false :: false :: false :: false :: false :: false :: false :: false :: false :: false :: false :: false :: false :: false :: false :: false :: false :: false :: false :: false :: false :: false :: false :: false :: false :: false :: false :: false :: false :: false :: false :: false :: false :: false :: false :: false :: false :: false :: false :: false :: false :: false :: false :: false :: false :: false :: false :: false :: false :: false :: false :: false :: false :: false :: false :: false :: false :: false :: false :: false :: false :: false :: false :: false :: false :: false :: false :: false :: false :: false :: false :: false :: false :: false :: false :: false :: false :: false :: false :: false :: false :: false :: false :: false :: false :: [])
        · (try dsimp only [maskT]); try exact rfl
        · rfl
        · omega
        exact ⟨j + 1, rfl, by omega, rfl, hM, by rw [take_snoc hf1]; intro g hg; rcases List.mem_append.1 hg with hg | hg; exact hfew g hg; simp at hg; subst hg; exact hff⟩
     ·
      (try simp only [y1, y2, y3, y4, y5, y6, y7, y8, y9, y0, List.length_map] at hc7)
      (try simp only [List.length_map] at hc7)
      have hje : j = fs.length := by omega
      subst hje
      refine aw_exit ?_
      refine then_exit (again_exit (inBlock_here (then_normal ?_)))
      refine aw_seq ?_
      refine aw_region ?_
      refine zst (op_makeMap) rfl (by dsimp only [zS, zN, zH, zT]) ?_
      refine zst (op_assign_tmp (by rfl)) rfl (by dsimp only [zS, zN, zH, zT]) ?_
      refine al_end rfl ?_
      refine then_normal ?_
      refine aw_seq ?_
      refine aw_seq ?_
      refine aw_region ?_
      refine zst (op_move_tmp (by rfl)) rfl (by dsimp only [zS, zN, zH, zT]) ?_
      refine zst (op_lenL Try.underlying22 (by first | exact LL.d _ _ | exact LL.own _ _ _ | exact LL.nil _ | assumption)) rfl (by dsimp only [zS, zN, zH, zT]) ?_
      refine zst (op_move_const (by rfl)) rfl (by dsimp only [zS, zN, zH, zT]) ?_
      refine al_end rfl ?_
      refine then_normal ?_
      refine aw_block ?_
      rw [List.take_length] at hfew
      rw [nm0 hM]
      apply aw_loopF (fun n T H => ∃ (j : Nat), T = ((.d (.lst 7 (fs.map fD))) :: (.d (S n0)) :: .un :: .un :: .un :: (.elt [I x.kind, TF x.yes, .v (.int .i64 x.num), S x.text, .lst 6 (x.list.map vD), .lst 7 (x.fields.map fD)]) :: .un :: .un :: .un :: (.map 0) :: .un :: .un :: .un :: .un :: .un :: .un :: .un :: .un :: .un :: .un :: .un :: .un :: .un :: .un :: .un :: .un :: .un :: .un :: .un :: .un :: .un :: .un :: .un :: .un :: .un :: .un :: .un :: .un :: .un :: .un :: .un :: .un :: .un :: .un :: .un :: .un :: .un :: .un :: .un :: .un :: .un :: .un :: .un :: .un :: .un :: .un :: .un :: .un :: .un :: .un :: .un :: .un :: .un :: .un :: .un :: .un :: (.d (.lst 7 (fs.map fD))) :: (.d (I (fs.map fD).length)) :: (.d (I j)) :: .un :: .un :: .un :: .un :: .un :: .un :: .un :: .un :: .un :: .un :: .un :: .un :: .un :: .un :: .un :: .un :: .un :: .un :: .un :: .un :: .un :: .un :: .un :: .un :: .un :: .un :: .un :: .un :: .un :: .un :: .un :: .un :: .un :: .un :: .un :: .un :: .un :: .un :: .un :: .un :: .un :: .un :: .un :: .un :: .un :: .un :: .un :: .un :: .un :: .un :: .un :: .un :: .un :: .un :: .un :: .un :: .un :: .un :: .un :: .un :: .un :: .un :: .un :: .un :: .un :: .un :: .un :: .un :: .un :: .un :: .un :: .un :: .un :: .un :: .un :: .un :: .un :: .un :: .un :: .un :: .un :: .un :: .un :: .un :: .un :: .un :: .un :: .un :: .un :: .un :: .un :: .un :: .un :: .un :: .un :: .un :: .un :: .un :: .un :: .un :: .un :: .un :: .un :: .un :: .un :: .un :: .un :: .un :: .un :: .un :: .un :: .un :: .un :: .un :: .un :: .un :: .un :: .un :: .un :: .un :: .un :: .un :: .un :: .un :: .un :: .un :: .un :: .un :: .un :: .un :: .un :: .un :: .un :: .un :: .un :: .un :: .un :: .un :: .un :: .un :: .un :: .un :: .un :: .un :: .un :: .un :: .un :: .un :: .un :: .un :: .un :: .un :: .un :: .un :: .un :: .un :: .un :: .un :: .un :: .un :: .un :: .un :: .un :: .un :: .un :: .un :: .un :: .un :: .un :: .un :: .un :: .un :: .un :: .un :: .un :: []) ∧ j ≤ fs.length ∧ n = fs.length - j ∧ H.maps = [.map (eL (fs.take j))]) (fs.length) (true :: true :: false :: false :: false :: true :: false :: false :: false :: true :: false :: false :: false :: false :: false :: false :: false :: false :: false :: false :: false :: false :: false :: false :: false :: false :: false :: false :: false :: false :: false :: false :: false :: false :: false :: false :: false :: false :: false :: false :: false :: false :: false :: false :: false :: false :: false :: false :: false :: false :: false :: false :: false :: false :: false :: false :: false :: false :: false :: false :: false :: false :: false :: false :: false :: false :: true :: true :: true :: false :: false :: false :: false :: false :: false :: false :: false :: false :: false :: false :: false :: false :: false :: false :: false :: false :: false :: false :: false :: false :: false :: false :: false :: false :: false :: false :: false :: false :: false :: false :: false :: false :: false :: false :: false :: false :: false :: false :: false :: false :: false :: false :: false :: false :: false :: false :: false :: false :: false :: false :: false :: false :: false :: false :: false :: false :: false :: false :: false :: false :: false :: false :: false :: false :: false :: false :: false :: false :: false :: false :: false :: false :: false :: false :: false :: false :: false :: false :: false :: false :: false :: false :: false :: false :: false :: false :: false :: false :: false :: false :: false :: false :: false :: false :: false :: false :: false :: false :: false :: false :: false :: false :: false :: false :: false :: false :: false :: false :: false :: false :: false :: false :: false :: false :: false :: false :: false :: false :: false :: false :: false :: false :: false :: false :: false :: false :: false :: false :: false :: false :: false :: false :: false :: false :: false :: false :: false :: false :: false :: false :: false :: false :: false :: false :: false :: false :: false :: false :: false :: false :: false :: false :: false :: false :: false :: false :: false :: false :: false :: false :: false :: false :: false :: false :: false :: false :: false :: false :: false :: false :: false :: false :: false :: false :: [])
      · (try dsimp only [maskT]); try exact rfl
      · rfl
      · exact ⟨0, rfl, by omega, rfl, mPush0 hM⟩
      rintro n T H ⟨j, rfl, hj, rfl, hM⟩
      refine aw_seq ?_
      refine aw_region ?_
      refine zst (op_ltI (by rfl) (by rfl)) rfl (by dsimp only [zS, zN, zH, zT]) ?_
      refine al_end rfl ?_
      refine then_normal ?_
      refine aw_seq ?_
      refine aw_cond rfl (fun hc11 => ?_) (fun hc11 => ?_)
      ·
       (try simp only [y1, y2, y3, y4, y5, y6, y7, y8, y9, y0, List.length_map] at hc11)
       (try simp only [List.length_map] at hc11)
       have hlt : j < fs.length := by omega
       obtain ⟨f, hf1⟩ : ∃ z0, fs[j]? = some z0 := ⟨_, List.getElem?_eq_getElem hlt⟩
       refine aw_skip ?_
       refine then_normal ?_
       refine aw_seq ?_
       refine aw_block ?_
       refine aw_seq ?_
       refine aw_region ?_
       refine zst (op_indexAddr (z := fD f) (cs := [S f.name, I f.val.kind, TF f.val.yes, .v (.int .i64 f.val.num), S f.val.text, .lst 6 (f.val.list.map vD), .lst 7 (f.val.fields.map fD)]) Try.underlying22 Sz30 (LL.d _ _) (by rfl) (by omega) (by rw [List.getElem?_map, show ((j : Nat) : Int).toNat = j from rfl, hf1]; rfl) (fD_cells7 f)) rfl (by dsimp only [zS, zN, zH, zT]) ?_
       refine zst (op_load_elts (ds := fC f) Try.underlying30 (by rfl) Sz30 (by rfl) (Nat.le_of_ble_eq_true rfl) (by rw [← fC7]; rfl)) rfl (by dsimp only [zS, zN, zH, zT]) ?_
       refine zst (op_alloc (Zr30) (by rfl)) rfl (by dsimp only [zS, zN, zH, zT]) ?_
       refine zst (op_storeF (b' := f1 30 f) f Sz30 (by rfl) push_at (by rfl) (Nat.le_of_ble_eq_true rfl) (by rfl) (by unfold f1; rw [← fC7]; rfl)) rfl (by dsimp only [zS, zN, zH, zT]) ?_
       refine al_end rfl ?_
       refine then_normal ?_
       refine aw_region ?_
       refine zst (op_move_tmp (by rfl)) rfl (by dsimp only [zS, zN, zH, zT]) ?_
       refine zst (by first | exact op_fieldAddr_ptr Try.underlying30 rfl Sz9 (by rfl) (by rfl) | exact op_fieldAddr_elt Try.underlying30 rfl Sz9 (by rfl) (by rfl) (by rfl)) rfl (by dsimp only [zS, zN, zH, zT]) ?_
       refine zst (op_load_ptr Try.underlying9 (by rfl) (by rfl) (setB_at push_at) (f1_name f)) rfl (by dsimp only [zS, zN, zH, zT]) ?_
       refine zst (by first | exact op_fieldAddr_ptr Try.underlying30 rfl Sz26 (by rfl) (by rfl) | exact op_fieldAddr_elt Try.underlying30 rfl Sz26 (by rfl) (by rfl) (by rfl)) rfl (by dsimp only [zS, zN, zH, zT]) ?_
       refine zst (op_load_ptrsD (vC f.val) Try.underlying26 (by rfl) Sz26 (by rfl) (setB_at push_at) (by show 1 + 6 ≤ ((fC f).map AV.d).length; rw [List.length_map, fC_len]; exact Nat.le_refl _) (f1_val f) (vC_one _)) rfl (by dsimp only [zS, zN, zH, zT]) ?_
       refine zst (op_mapUpdate Try.underlying31 Try.underlying9 (by rfl) (by rfl) (Weak.refl _) (mAt0 hM) (noIter1 (show HS.maps (HS.setB (HS.push H _ _) _ _) = _ from hM) 0)) rfl (by dsimp only [zS, zN, zH, zT]) ?_
       refine al_end rfl ?_
       refine inBlock_normal (then_normal ?_)
       refine aw_region ?_
       refine zst (by first | exact op_add (by rfl) (by rfl) (wrap_i64 ⟨by omega, by omega⟩) | exact op_add (by rfl) (by rfl) (by rfl)) rfl (by dsimp only [zS, zN, zH, zT]) ?_
       refine zst (op_move_tmp (by rfl)) rfl (by dsimp only [zS, zN, zH, zT]) ?_
       refine al_end rfl ?_
       apply again_to (fs.length - (j + 1)) (true :: true :: false :: false :: false :: true :: false :: false :: false :: true :: false :: false :: false :: false :: false :: false :: false :: false :: false :: false :: false :: false :: false :: false :: false :: false :: false :: false :: false :: false :: false :: false :: false :: false :: false :: false :: false :: false :: false :: false :: false :: false :: false :: false :: false :: false :: false :: false :: false :: false :: false :: false :: false :: false :: false :: false :: false :: false :: false :: false :: false :: false :: false :: false :: false :: false :: true :: true :: true :: false :: false :: false :: false :: false :: false :: false :: false :: false :: false :: false :: false :: false :: false :: false :: false :: false :: false :: false :: false :: false :: false :: false :: false :: false :: false :: false :: false :: false :: false :: false :: false :: false :: false :: false :: false :: false :: false :: false :: false :: false :: false :: false :: false :: false :: false :: false :: false :: false :: false :: false :: false :: false :: false :: false :: false :: false :: false :: false :: false :: false :: false :: false :: false :: false :: false :: false :: false :: false :: false :: false :: false :: false :: false :: false :: false :: false :: false :: false :: false :: false :: false :: false :: false :: false :: false :: false :: false :: false :: false :: false :: false :: false :: false :: false :: false :: false :: false :: false :: false :: false :: false :: false :: false :: false :: false :: false :: false :: false :: false :: false :: false :: false :: false :: false :: false :: false :: false :: false :: false :: false :: false :: false :: false :: false :: false :: false :: false :: false :: false :: false :: false :: false :: false :: false :: false :: false :: false :: false :: false :: false :: false :: false :: false :: false :: false :: false :: false :: false :: false :: false :: false :: false :: false :: false :: false :: false :: false :: false :: false :: false :: false :: false :: false :: false :: false :: false :: false :: false :: false :: false :: false :: false :: false :: false :: [])
       · (try dsimp only [maskT]); try exact rfl
       · rfl
       · omega
       exact ⟨j + 1, rfl, by omega, rfl, by rw [eL_step hf1]; exact mSet0 (H := HS.setB (HS.push H _ _) _ _) hM⟩
      ·
       (try simp only [y1, y2, y3, y4, y5, y6, y7, y8, y9, y0, List.length_map] at hc11)
       (try simp only [List.length_map] at hc11)
       have hje : j = fs.length := by omega
       subst hje
       refine aw_exit ?_
       refine then_exit (again_exit (inBlock_here (then_normal ?_)))
       refine aw_seq ?_
       rw [List.take_length] at hM
       refine aw_region ?_
       refine zst (op_move_tmp (by rfl)) rfl (by dsimp only [zS, zN, zH, zT]) ?_
       refine zst (op_callF Try.func11 (by rfl) (by rfl) (.tmp (by rfl) .nil) (ofMap_ok _ _ fs (LL.d _ _) (by omega))) rfl (by dsimp only [zS, zN, zH, zT]) ?_
       refine zst (op_alloc (Zr26) (by rfl)) rfl (by dsimp only [zS, zN, zH, zT]) ?_
       refine zst (op_storeV (b' := ⟨26, (vC (M (ofF fs))).map .d, false⟩) (M (ofF fs)) Sz26 (by rfl) push_at (by rfl) (Nat.le_of_ble_eq_true rfl) (by rfl) (by rw [vC_eq]; rfl)) rfl (by dsimp only [zS, zN, zH, zT]) ?_
       refine al_end rfl ?_
       refine then_normal ?_
       refine aw_seq ?_
       refine aw_seq ?_
       obtain ⟨hsm, hgs, hgx0⟩ := fields_small hfew
       have hML : (ofF fs).length ≤ 1000000 := by have := ofF_len fs; omega
       obtain ⟨⟨gx, gb, hg0, hlb, hlx⟩, hg1, hg2, hgg⟩ := fields_law fs n0 x
       have hgx : SmallV gx := by have h := hgx0 n0; rw [hg0] at h; exact h
       have hWL : ((withV (M (ofF fs)) n0 x)).fields.length ≤ 1000000 := by have := with_len fs n0 x; omega
       have hOL : ((withoutV (M (ofF fs)) n0)).fields.length ≤ 1000000 := by have := without_len fs n0; omega
       refine aw_region ?_
       refine zst (by first | exact op_fieldAddr_ptr Try.underlying26 rfl Sz23 (by rfl) (by rfl) | exact op_fieldAddr_elt Try.underlying26 rfl Sz23 (by rfl) (by rfl) (by rfl)) rfl (by dsimp only [zS, zN, zH, zT]) ?_
       refine zst (by first | exact op_load_elt Try.underlying23 (by rfl) (by rfl) (by rfl) | exact op_load_ptr Try.underlying23 (by rfl) (by rfl) (by (try have l1 := lt_nb hb1); (try have l2 := lt_nb hb2); (try have l3 := lt_nb hb3); (try have l4 := lt_nb hb4); repeat (first | assumption | exact push_at | exact setB_at push_at | (rw [pushM_blks]) | (rw [setM_blks]) | (rw [setB_ne (by simp only [setB_nb, push_nb, pushM_nb, setM_nb, ne_eq]; omega)]) | apply push_ne | apply setB_at)) (by rfl)) rfl (by dsimp only [zS, zN, zH, zT]) ?_
       refine zst (op_neI (by rfl) (by rfl)) rfl (by dsimp only [zS, zN, zH, zT]) ?_
       refine zst (op_move_tmp (by rfl)) rfl (by dsimp only [zS, zN, zH, zT]) ?_
       refine zsw rfl rfl rfl (by first | exact op_fieldAddr_ptr Try.underlying26 rfl Sz22 (by rfl) (by rfl) | exact op_fieldAddr_elt Try.underlying26 rfl Sz22 (by rfl) (by rfl) (by rfl)) (by dsimp only [zS, zN, zH, zT]) ?_
       refine zsw rfl rfl rfl (op_load_ptr Try.underlying22 (by rfl) (by rfl) (by (try have l1 := lt_nb hb1); (try have l2 := lt_nb hb2); (try have l3 := lt_nb hb3); (try have l4 := lt_nb hb4); repeat (first | assumption | exact push_at | exact setB_at push_at | (rw [pushM_blks]) | (rw [setM_blks]) | (rw [setB_ne (by simp only [setB_nb, push_nb, pushM_nb, setM_nb, ne_eq]; omega)]) | apply push_ne | apply setB_at)) (show ((vC (M (ofF fs))).map AV.d)[5]? = some (.d (.lst 7 ((ofF fs).map fD))) by rw [vC_eq]; rfl)) (by dsimp only [zS, zN, zH, zT]) ?_
       refine zsw rfl rfl rfl (op_lenL Try.underlying22 (by first | exact LL.d _ _ | exact LL.own _ _ _ | exact LL.nil _ | assumption)) (by dsimp only [zS, zN, zH, zT]) ?_
       refine zsw rfl rfl rfl (op_move_tmp (by rfl)) (by dsimp only [zS, zN, zH, zT]) ?_
       refine zsw rfl rfl rfl (op_lenMap Try.underlying31 (by rfl) (mAt0 hM)) (by dsimp only [zS, zN, zH, zT]) ?_
       refine zsw rfl rfl rfl (op_neI (by rfl) (by rfl)) (by dsimp only [zS, zN, zH, zT]) ?_
       refine zst (op_pick_ff (by rfl) (val_tmp (by rfl))) rfl (by dsimp only [zS, zN, zH, zT]) ?_
       refine al_end rfl ?_
       refine then_normal ?_
       refine aw_cond rfl (fun hc12 => ?_) (fun hc12 => ?_)
       ·
        (try simp only [y1, y2, y3, y4, y5, y6, y7, y8, y9, y0, List.length_map] at hc12)
        exact absurd (by simp [eL_len]) hc12
       ·
        (try simp only [y1, y2, y3, y4, y5, y6, y7, y8, y9, y0, List.length_map] at hc12)
        refine aw_skip ?_
        refine then_normal ?_
        refine aw_seq ?_
        refine aw_seq ?_
        refine aw_region ?_
        refine zst (by first | exact op_fieldAddr_ptr Try.underlying26 rfl Sz22 (by rfl) (by rfl) | exact op_fieldAddr_elt Try.underlying26 rfl Sz22 (by rfl) (by rfl) (by rfl)) rfl (by dsimp only [zS, zN, zH, zT]) ?_
        refine zst (op_load_ptr Try.underlying22 (by rfl) (by rfl) (by (try have l1 := lt_nb hb1); (try have l2 := lt_nb hb2); (try have l3 := lt_nb hb3); (try have l4 := lt_nb hb4); repeat (first | assumption | exact push_at | exact setB_at push_at | (rw [pushM_blks]) | (rw [setM_blks]) | (rw [setB_ne (by simp only [setB_nb, push_nb, pushM_nb, setM_nb, ne_eq]; omega)]) | apply push_ne | apply setB_at)) (show ((vC (M (ofF fs))).map AV.d)[5]? = some (.d (.lst 7 ((ofF fs).map fD))) by rw [vC_eq]; rfl)) rfl (by dsimp only [zS, zN, zH, zT]) ?_
        refine zst (op_lenL Try.underlying22 (by first | exact LL.d _ _ | exact LL.own _ _ _ | exact LL.nil _ | assumption)) rfl (by dsimp only [zS, zN, zH, zT]) ?_
        refine zst (op_move_const (by rfl)) rfl (by dsimp only [zS, zN, zH, zT]) ?_
        refine al_end rfl ?_
        refine then_normal ?_
        refine aw_block ?_
        apply aw_loopF (fun n T H => ∃ (j : Nat) (p : Nat), T = (.un :: (.d (S n0)) :: .un :: .un :: .un :: (.elt [I x.kind, TF x.yes, .v (.int .i64 x.num), S x.text, .lst 6 (x.list.map vD), .lst 7 (x.fields.map fD)]) :: .un :: .un :: .un :: (.map 0) :: .un :: .un :: (.ptr p 0) :: .un :: .un :: .un :: .un :: .un :: .un :: .un :: .un :: .un :: .un :: .un :: .un :: .un :: .un :: .un :: .un :: .un :: .un :: .un :: .un :: .un :: .un :: .un :: .un :: .un :: .un :: .un :: .un :: .un :: .un :: .un :: .un :: .un :: .un :: .un :: .un :: .un :: .un :: .un :: .un :: .un :: .un :: .un :: .un :: .un :: .un :: .un :: .un :: .un :: .un :: .un :: .un :: .un :: .un :: .un :: .un :: .un :: .un :: .un :: .un :: .un :: .un :: .un :: .un :: .un :: .un :: .un :: .un :: .un :: .un :: .un :: .un :: .un :: .un :: .un :: .un :: .un :: .un :: .un :: (.d (.lst 7 ((ofF fs).map fD))) :: (.d (I ((ofF fs).map fD).length)) :: (.d (I j)) :: .un :: .un :: .un :: .un :: .un :: .un :: .un :: .un :: .un :: .un :: .un :: .un :: .un :: .un :: .un :: .un :: .un :: .un :: .un :: .un :: .un :: .un :: .un :: .un :: .un :: .un :: .un :: .un :: .un :: .un :: .un :: .un :: .un :: .un :: .un :: .un :: .un :: .un :: .un :: .un :: .un :: .un :: .un :: .un :: .un :: .un :: .un :: .un :: .un :: .un :: .un :: .un :: .un :: .un :: .un :: .un :: .un :: .un :: .un :: .un :: .un :: .un :: .un :: .un :: .un :: .un :: .un :: .un :: .un :: .un :: .un :: .un :: .un :: .un :: .un :: .un :: .un :: .un :: .un :: .un :: .un :: .un :: .un :: .un :: .un :: .un :: .un :: .un :: .un :: .un :: .un :: .un :: .un :: .un :: .un :: .un :: .un :: .un :: .un :: .un :: .un :: .un :: .un :: .un :: .un :: .un :: .un :: .un :: .un :: .un :: .un :: .un :: .un :: .un :: .un :: .un :: .un :: .un :: .un :: .un :: .un :: .un :: .un :: .un :: .un :: .un :: .un :: .un :: .un :: .un :: .un :: .un :: .un :: .un :: .un :: .un :: .un :: .un :: .un :: .un :: .un :: .un :: .un :: .un :: .un :: .un :: .un :: .un :: .un :: []) ∧ j ≤ (ofF fs).length ∧ n = (ofF fs).length - j ∧ H.maps = [.map (eL fs)] ∧ H.blks[p]? = some ⟨26, (vC (M (ofF fs))).map .d, false⟩) ((ofF fs).length) (false :: true :: false :: false :: false :: true :: false :: false :: false :: true :: false :: false :: true :: false :: false :: false :: false :: false :: false :: false :: false :: false :: false :: false :: false :: false :: false :: false :: false :: false :: false :: false :: false :: false :: false :: false :: false :: false :: false :: false :: false :: false :: false :: false :: false :: false :: false :: false :: false :: false :: false :: false :: false :: false :: false :: false :: false :: false :: false :: false :: false :: false :: false :: false :: false :: false :: false :: false :: false :: false :: false :: false :: false :: false :: false :: false :: false :: false :: false :: false :: false :: false :: false :: false :: false :: false :: false :: false :: false :: false :: false :: false :: true :: true :: true :: false :: false :: false :: false :: false :: false :: false :: false :: false :: false :: false :: false :: false :: false :: false :: false :: false :: false :: false :: false :: false :: false :: false :: false :: false :: false :: false :: false :: false :: false :: false :: false :: false :: false :: false :: false :: false :: false :: false :: false :: false :: false :: false :: false :: false :: false :: false :: false :: false :: false :: false :: false :: false :: false :: false :: false :: false :: false :: false :: false :: false :: false :: false :: false :: false :: false :: false :: false :: false :: false :: false :: false :: false :: false :: false :: false :: false :: false :: false :: false :: false :: false :: false :: false :: false :: false :: false :: false :: false :: false :: false :: false :: false :: false :: false :: false :: false :: false :: false :: false :: false :: false :: false :: false :: false :: false :: false :: false :: false :: false :: false :: false :: false :: false :: false :: false :: false :: false :: false :: false :: false :: false :: false :: false :: false :: false :: false :: false :: false :: false :: false :: false :: false :: false :: false :: false :: false :: false :: false :: false :: false :: false :: false :: false :: false :: false :: false :: false :: false :: [])
        · (try dsimp only [maskT]); try exact rfl
        · rfl
        · exact ⟨0, _, rfl, by omega, rfl, hM, setB_at push_at⟩
        rintro n T H ⟨j, p, rfl, hj, rfl, hM, hb1⟩
        refine aw_seq ?_
        refine aw_region ?_
        refine zst (op_ltI (by rfl) (by rfl)) rfl (by dsimp only [zS, zN, zH, zT]) ?_
        refine al_end rfl ?_
        refine then_normal ?_
        refine aw_seq ?_
        refine aw_cond rfl (fun hc13 => ?_) (fun hc13 => ?_)
        ·
         (try simp only [y1, y2, y3, y4, y5, y6, y7, y8, y9, y0, List.length_map] at hc13)
         (try simp only [List.length_map] at hc13)
         have hlt : j < (ofF fs).length := by omega
         obtain ⟨f, hf1⟩ : ∃ z0, (ofF fs)[j]? = some z0 := ⟨_, List.getElem?_eq_getElem hlt⟩
         refine aw_skip ?_
         refine then_normal ?_
         refine aw_seq ?_
         refine aw_block ?_
         refine aw_seq ?_
         refine aw_region ?_
         refine zst (op_move_tmp (by rfl)) rfl (by dsimp only [zS, zN, zH, zT]) ?_
         refine zst (op_indexAddr (z := fD f) (cs := [S f.name, I f.val.kind, TF f.val.yes, .v (.int .i64 f.val.num), S f.val.text, .lst 6 (f.val.list.map vD), .lst 7 (f.val.fields.map fD)]) Try.underlying22 Sz30 (LL.d _ _) (by rfl) (by omega) (by rw [List.getElem?_map, show ((j : Nat) : Int).toNat = j from rfl, hf1]; rfl) (fD_cells7 f)) rfl (by dsimp only [zS, zN, zH, zT]) ?_
         refine zst (op_load_elts (ds := fC f) Try.underlying30 (by rfl) Sz30 (by rfl) (Nat.le_of_ble_eq_true rfl) (by rw [← fC7]; rfl)) rfl (by dsimp only [zS, zN, zH, zT]) ?_
         refine zst (op_alloc (Zr30) (by rfl)) rfl (by dsimp only [zS, zN, zH, zT]) ?_
         refine zst (op_assign_tmp (by rfl)) rfl (by dsimp only [zS, zN, zH, zT]) ?_
         refine zst (op_storeF (b' := f1 30 f) f Sz30 (by rfl) push_at (by rfl) (Nat.le_of_ble_eq_true rfl) (by rfl) (by unfold f1; rw [← fC7]; rfl)) rfl (by dsimp only [zS, zN, zH, zT]) ?_
         refine al_end rfl ?_
         refine then_normal ?_
         refine aw_seq ?_
         refine aw_draw [0, 0, 0, 0, 1, 0, 0, 0, 0, 1, 0, 1, 0, 0, 0, 0, 1, 0, 0, 1, 1, 0, 0, 0] mixed (by kernel_rfl) ?_
         refine zd0 (fun H => (op_move_tmp (by rfl))) rfl (by dsimp only [zS, zN, zH, zT]) ?_
         refine zd0 (fun H => (op_gtI (by rfl) (by rfl))) rfl (by dsimp only [zS, zN, zH, zT]) ?_
         refine zd0 (fun H => (op_move_tmp (by rfl))) rfl (by dsimp only [zS, zN, zH, zT]) ?_
         refine drun_split 101 rfl (fun hg14 => ?_) (fun hg14 => ?_)
         ·
          (try simp only [y1, y2, y3, y4, y5, y6, y7, y8, y9, y0, List.length_map] at hg14)
          have hj0 : 0 < j := by omega
          obtain ⟨g, hg1x⟩ : ∃ g, (ofF fs)[j - 1]? = some g := ⟨_, List.getElem?_eq_getElem (by omega)⟩
          apply drun_normT
          · (try dsimp only [zS, zN, zH, zT]); try exact rfl
          refine zd0w rfl rfl rfl (fun H => (by first | exact op_fieldAddr_ptr Try.underlying26 rfl Sz22 (by rfl) (by rfl) | exact op_fieldAddr_elt Try.underlying26 rfl Sz22 (by rfl) (by rfl) (by rfl))) (by dsimp only [zS, zN, zH, zT]) ?_
          refine zd1w rfl rfl rfl (op_load_ptr Try.underlying22 (by rfl) (by rfl) (by (try have l1 := lt_nb hb1); (try have l2 := lt_nb hb2); (try have l3 := lt_nb hb3); (try have l4 := lt_nb hb4); repeat (first | assumption | exact push_at | exact setB_at push_at | (rw [pushM_blks]) | (rw [setM_blks]) | (rw [setB_ne (by simp only [setB_nb, push_nb, pushM_nb, setM_nb, ne_eq]; omega)]) | apply push_ne | apply setB_at)) (show ((vC (M (ofF fs))).map AV.d)[5]? = some (.d (.lst 7 ((ofF fs).map fD))) by rw [vC_eq]; rfl)) (by dsimp only [zS, zN, zH, zT]) ?_
          refine zd0w rfl rfl rfl (fun H => (op_move_tmp (by rfl))) (by dsimp only [zS, zN, zH, zT]) ?_
          refine zd0w rfl rfl rfl (fun H => (op_sub (by rfl) (by rfl) (show IntKind.i64.wrap ((j : Int) - 1) = ((j - 1 : Nat) : Int) by rw [wrap_i64 ⟨by omega, by omega⟩]; omega))) (by dsimp only [zS, zN, zH, zT]) ?_
          refine zd0w rfl rfl rfl (fun H => (op_indexAddr (z := fD g) (cs := [S g.name, I g.val.kind, TF g.val.yes, .v (.int .i64 g.val.num), S g.val.text, .lst 6 (g.val.list.map vD), .lst 7 (g.val.fields.map fD)]) Try.underlying22 Sz30 (LL.d _ _) (by rfl) (by omega) (by rw [List.getElem?_map, show (((j - 1) : Nat) : Int).toNat = (j - 1) from rfl, hg1x]; rfl) (fD_cells7 g))) (by dsimp only [zS, zN, zH, zT]) ?_
          refine zd0w rfl rfl rfl (fun H => (by first | exact op_fieldAddr_ptr Try.underlying30 rfl Sz9 (by rfl) (by rfl) | exact op_fieldAddr_elt Try.underlying30 rfl Sz9 (by rfl) (by rfl) (by rfl))) (by dsimp only [zS, zN, zH, zT]) ?_
          refine zd1w rfl rfl rfl (by first | exact op_load_elt Try.underlying9 (by rfl) (by rfl) (by rfl) | exact op_load_ptr Try.underlying9 (by rfl) (by rfl) (by (try have l1 := lt_nb hb1); (try have l2 := lt_nb hb2); (try have l3 := lt_nb hb3); (try have l4 := lt_nb hb4); repeat (first | assumption | exact push_at | exact setB_at push_at | (rw [pushM_blks]) | (rw [setM_blks]) | (rw [setB_ne (by simp only [setB_nb, push_nb, pushM_nb, setM_nb, ne_eq]; omega)]) | apply push_ne | apply setB_at)) (by rfl)) (by dsimp only [zS, zN, zH, zT]) ?_
          refine zd0w rfl rfl rfl (fun H => (by first | exact op_fieldAddr_ptr Try.underlying30 rfl Sz9 (by rfl) (by rfl) | exact op_fieldAddr_elt Try.underlying30 rfl Sz9 (by rfl) (by rfl) (by rfl))) (by dsimp only [zS, zN, zH, zT]) ?_
          refine zd1w rfl rfl rfl (op_load_ptr Try.underlying9 (by rfl) (by rfl) (setB_at push_at) (f1_name f)) (by dsimp only [zS, zN, zH, zT]) ?_
          refine zd0w rfl rfl rfl (fun H => (op_geS (by rfl) (by rfl))) (by dsimp only [zS, zN, zH, zT]) ?_
          refine zd0 (fun H => (op_pick_tt (by rfl) (val_tmp (by rfl)))) rfl (by dsimp only [zS, zN, zH, zT]) ?_
          refine zd0 (fun H => (op_move_tmp (by rfl))) rfl (by dsimp only [zS, zN, zH, zT]) ?_
          refine drun_split 113 rfl (fun hg15 => ?_) (fun hg15 => ?_)
          ·
           (try simp only [y1, y2, y3, y4, y5, y6, y7, y8, y9, y0, List.length_map] at hg15)
           apply drun_normT
           · (try dsimp only [zS, zN, zH, zT]); try exact rfl
           exact absurd (rises_at (ofF_rises fs) hg1x (by rw [Nat.sub_add_cancel hj0]; exact hf1)) (by simpa using hg15)
          ·
           (try simp only [y1, y2, y3, y4, y5, y6, y7, y8, y9, y0, List.length_map] at hg15)
           apply drun_normT
           · (try dsimp only [zS, zN, zH, zT]); try exact rfl
           refine zd0w rfl rfl rfl (fun H => (by first | exact op_fieldAddr_ptr Try.underlying30 rfl Sz26 (by rfl) (by rfl) | exact op_fieldAddr_elt Try.underlying30 rfl Sz26 (by rfl) (by rfl) (by rfl))) (by dsimp only [zS, zN, zH, zT]) ?_
           refine zd1w rfl rfl rfl (op_load_ptrsD (vC f.val) Try.underlying26 (by rfl) Sz26 (by rfl) (setB_at push_at) (by show 1 + 6 ≤ ((fC f).map AV.d).length; rw [List.length_map, fC_len]; exact Nat.le_refl _) (f1_val f) (vC_one _)) (by dsimp only [zS, zN, zH, zT]) ?_
           refine zd0w rfl rfl rfl (fun H => (op_move_tmp (by rfl))) (by dsimp only [zS, zN, zH, zT]) ?_
           refine zd0w rfl rfl rfl (fun H => (by first | exact op_fieldAddr_ptr Try.underlying30 rfl Sz9 (by rfl) (by rfl) | exact op_fieldAddr_elt Try.underlying30 rfl Sz9 (by rfl) (by rfl) (by rfl))) (by dsimp only [zS, zN, zH, zT]) ?_
           refine zd1w rfl rfl rfl (op_load_ptr Try.underlying9 (by rfl) (by rfl) (setB_at push_at) (f1_name f)) (by dsimp only [zS, zN, zH, zT]) ?_
           refine zd1w rfl rfl rfl (op_lookup_some Try.underlying31 Try.underlying9 Zr26 repV0 (by rfl) (by rfl) (mAt0 hM) (by rw [eL_get, getF_at (ofF_rises fs) hf1]; rfl)) (by dsimp only [zS, zN, zH, zT]) ?_
           refine zd0w rfl rfl rfl (fun H => (op_callF Try.func12 (by rfl) (by rfl) (.tmp (by rfl) (.tmp (by rfl) .nil)) (same_self _ f.val (hsm f (List.mem_of_getElem? hf1))))) (by dsimp only [zS, zN, zH, zT]) ?_
           refine zd0w rfl rfl rfl (fun H => (op_not (by rfl))) (by dsimp only [zS, zN, zH, zT]) ?_
           refine zd0 (fun H => (op_pick_ff (by rfl) (val_tmp (by rfl)))) rfl (by dsimp only [zS, zN, zH, zT]) ?_
           refine drun_end rfl ?_
           refine then_normal ?_
           refine aw_cond rfl (fun h => by cases h) (fun _ => ?_)
           refine aw_skip ?_
           refine inBlock_normal (then_normal ?_)
           refine aw_region ?_
           refine zst (by first | exact op_add (by rfl) (by rfl) (wrap_i64 ⟨by omega, by omega⟩) | exact op_add (by rfl) (by rfl) (by rfl)) rfl (by dsimp only [zS, zN, zH, zT]) ?_
           refine zst (op_move_tmp (by rfl)) rfl (by dsimp only [zS, zN, zH, zT]) ?_
           refine al_end rfl ?_
           apply again_to ((ofF fs).length - (j + 1)) (false :: true :: false :: false :: false :: true :: false :: false :: false :: true :: false :: false :: true :: false :: false :: false :: false :: false :: false :: false :: false :: false :: false :: false :: false :: false :: false :: false :: false :: false :: false :: false :: false :: false :: false :: false :: false :: false :: false :: false :: false :: false :: false :: false :: false :: false :: false :: false :: false :: false :: false :: false :: false :: false :: false :: false :: false :: false :: false :: false :: false :: false :: false :: false :: false :: false :: false :: false :: false :: false :: false :: false :: false :: false :: false :: false :: false :: false :: false :: false :: false :: false :: false :: false :: false :: false :: false :: false :: false :: false :: false :: false :: true :: true :: true :: false :: false :: false :: false :: false :: false :: false :: false :: false :: false :: false :: false :: false :: false :: false :: false :: false :: false :: false :: false :: false :: false :: false :: false :: false :: false :: false :: false :: false :: false :: false :: false :: false :: false :: false :: false :: false :: false :: false :: false :: false :: false :: false :: false :: false :: false :: false :: false :: false :: false :: false :: false :: false :: false :: false :: false :: false :: false :: false :: false :: false :: false :: false :: false :: false :: false :: false :: false :: false :: false :: false :: false :: false :: false :: false :: false :: false :: false :: false :: false :: false :: false :: false :: false :: false :: false :: false :: false :: false :: false :: false :: false :: false :: false :: false :: false :: false :: false :: false :: false :: false :: false :: false :: false :: false :: false :: false :: false :: false :: false :: false :: false :: false :: false :: false :: false :: false :: false :: false :: false :: false :: false :: false :: false :: false :: false :: false :: false :: false :: false :: false :: false :: false :: false :: false :: false :: false :: false :: false :: false :: false :: false :: false :: false :: false :: false :: false :: false :: false :: [])
           · (try dsimp only [maskT]); try exact rfl
           · rfl
           · omega
           exact ⟨j + 1, _, rfl, by omega, rfl, hM, by rw [setB_ne (by have := lt_nb hb1; omega)]; exact push_ne hb1⟩
         ·
          (try simp only [y1, y2, y3, y4, y5, y6, y7, y8, y9, y0, List.length_map] at hg14)
          apply drun_normT
          · (try dsimp only [zS, zN, zH, zT]); try exact rfl
          refine zdU rfl rfl rfl rfl (by dsimp only [zS, zN, zH, zT]) ?_
          refine zdU rfl rfl rfl rfl (by dsimp only [zS, zN, zH, zT]) ?_
          refine zdU rfl rfl rfl rfl (by dsimp only [zS, zN, zH, zT]) ?_
          refine zdU rfl rfl rfl rfl (by dsimp only [zS, zN, zH, zT]) ?_
          refine zdU rfl rfl rfl rfl (by dsimp only [zS, zN, zH, zT]) ?_
          refine zdU rfl rfl rfl rfl (by dsimp only [zS, zN, zH, zT]) ?_
          refine zdU rfl rfl rfl rfl (by dsimp only [zS, zN, zH, zT]) ?_
          refine zdU rfl rfl rfl rfl (by dsimp only [zS, zN, zH, zT]) ?_
          refine zdU rfl rfl rfl rfl (by dsimp only [zS, zN, zH, zT]) ?_
          refine zdU rfl rfl rfl rfl (by dsimp only [zS, zN, zH, zT]) ?_
          refine zd0 (fun H => (op_pick_ff (by rfl) (val_const (by rfl)))) rfl (by dsimp only [zS, zN, zH, zT]) ?_
          refine zd0 (fun H => (op_move_tmp (by rfl))) rfl (by dsimp only [zS, zN, zH, zT]) ?_
          refine zd0w rfl rfl rfl (fun H => (by first | exact op_fieldAddr_ptr Try.underlying30 rfl Sz26 (by rfl) (by rfl) | exact op_fieldAddr_elt Try.underlying30 rfl Sz26 (by rfl) (by rfl) (by rfl))) (by dsimp only [zS, zN, zH, zT]) ?_
          refine zd1w rfl rfl rfl (op_load_ptrsD (vC f.val) Try.underlying26 (by rfl) Sz26 (by rfl) (setB_at push_at) (by show 1 + 6 ≤ ((fC f).map AV.d).length; rw [List.length_map, fC_len]; exact Nat.le_refl _) (f1_val f) (vC_one _)) (by dsimp only [zS, zN, zH, zT]) ?_
          refine zd0w rfl rfl rfl (fun H => (op_move_tmp (by rfl))) (by dsimp only [zS, zN, zH, zT]) ?_
          refine zd0w rfl rfl rfl (fun H => (by first | exact op_fieldAddr_ptr Try.underlying30 rfl Sz9 (by rfl) (by rfl) | exact op_fieldAddr_elt Try.underlying30 rfl Sz9 (by rfl) (by rfl) (by rfl))) (by dsimp only [zS, zN, zH, zT]) ?_
          refine zd1w rfl rfl rfl (op_load_ptr Try.underlying9 (by rfl) (by rfl) (setB_at push_at) (f1_name f)) (by dsimp only [zS, zN, zH, zT]) ?_
          refine zd1w rfl rfl rfl (op_lookup_some Try.underlying31 Try.underlying9 Zr26 repV0 (by rfl) (by rfl) (mAt0 hM) (by rw [eL_get, getF_at (ofF_rises fs) hf1]; rfl)) (by dsimp only [zS, zN, zH, zT]) ?_
          refine zd0w rfl rfl rfl (fun H => (op_callF Try.func12 (by rfl) (by rfl) (.tmp (by rfl) (.tmp (by rfl) .nil)) (same_self _ f.val (hsm f (List.mem_of_getElem? hf1))))) (by dsimp only [zS, zN, zH, zT]) ?_
          refine zd0w rfl rfl rfl (fun H => (op_not (by rfl))) (by dsimp only [zS, zN, zH, zT]) ?_
          refine zd0 (fun H => (op_pick_ff (by rfl) (val_tmp (by rfl)))) rfl (by dsimp only [zS, zN, zH, zT]) ?_
          refine drun_end rfl ?_
          refine then_normal ?_
          refine aw_cond rfl (fun h => by cases h) (fun _ => ?_)
          refine aw_skip ?_
          refine inBlock_normal (then_normal ?_)
          refine aw_region ?_
          refine zst (by first | exact op_add (by rfl) (by rfl) (wrap_i64 ⟨by omega, by omega⟩) | exact op_add (by rfl) (by rfl) (by rfl)) rfl (by dsimp only [zS, zN, zH, zT]) ?_
          refine zst (op_move_tmp (by rfl)) rfl (by dsimp only [zS, zN, zH, zT]) ?_
          refine al_end rfl ?_
          apply again_to ((ofF fs).length - (j + 1)) (false :: true :: false :: false :: false :: true :: false :: false :: false :: true :: false :: false :: true :: false :: false :: false :: false :: false :: false :: false :: false :: false :: false :: false :: false :: false :: false :: false :: false :: false :: false :: false :: false :: false :: false :: false :: false :: false :: false :: false :: false :: false :: false :: false :: false :: false :: false :: false :: false :: false :: false :: false :: false :: false :: false :: false :: false :: false :: false :: false :: false :: false :: false :: false :: false :: false :: false :: false :: false :: false :: false :: false :: false :: false :: false :: false :: false :: false :: false :: false :: false :: false :: false :: false :: false :: false :: false :: false :: false :: false :: false :: false :: true :: true :: true :: false :: false :: false :: false :: false :: false :: false :: false :: false :: false :: false :: false :: false :: false :: false :: false :: false :: false :: false :: false :: false :: false :: false :: false :: false :: false :: false :: false :: false :: false :: false :: false :: false :: false :: false :: false :: false :: false :: false :: false :: false :: false :: false :: false :: false :: false :: false :: false :: false :: false :: false :: false :: false :: false :: false :: false :: false :: false :: false :: false :: false :: false :: false :: false :: false :: false :: false :: false :: false :: false :: false :: false :: false :: false :: false :: false :: false :: false :: false :: false :: false :: false :: false :: false :: false :: false :: false :: false :: false :: false :: false :: false :: false :: false :: false :: false :: false :: false :: false :: false :: false :: false :: false :: false :: false :: false :: false :: false :: false :: false :: false :: false :: false :: false :: false :: false :: false :: false :: false :: false :: false :: false :: false :: false :: false :: false :: false :: false :: false :: false :: false :: false :: false :: false :: false :: false :: false :: false :: false :: false :: false :: false :: false :: false :: false :: false :: false :: false :: false :: [])
          · (try dsimp only [maskT]); try exact rfl
          · rfl
          · omega
          exact ⟨j + 1, _, rfl, by omega, rfl, hM, by rw [setB_ne (by have := lt_nb hb1; omega)]; exact push_ne hb1⟩
        ·
         (try simp only [y1, y2, y3, y4, y5, y6, y7, y8, y9, y0, List.length_map] at hc13)
         (try simp only [List.length_map] at hc13)
         have hje : j = (ofF fs).length := by omega
         subst hje
         refine aw_exit ?_
         refine then_exit (again_exit (inBlock_here (then_normal ?_)))
         refine aw_seq ?_
         refine aw_region ?_
         refine zst (op_load_ptrsD (vC (M (ofF fs))) Try.underlying26 (by rfl) Sz26 (by rfl) hb1 (by show 0 + 6 ≤ ((vC (M (ofF fs))).map AV.d).length; rw [List.length_map, vC_len]; exact Nat.le_refl _) (by show (((vC (M (ofF fs))).map AV.d).drop 0).take 6 = _; rw [List.drop_zero, List.take_of_length_le (by rw [List.length_map, vC_len]; exact Nat.le_refl _)]) (vC_one (M (ofF fs)))) rfl (by dsimp only [zS, zN, zH, zT]) ?_
         refine zst (op_move_tmp (by rfl)) rfl (by dsimp only [zS, zN, zH, zT]) ?_
         refine zst (op_callF Try.func13 (by rfl) (by rfl) (.tmp (by rfl) (.tmp (by rfl) .nil)) (get_at hg0 hML)) rfl (by dsimp only [zS, zN, zH, zT]) ?_
         refine zst (op_move_tmp (by rfl)) rfl (by dsimp only [zS, zN, zH, zT]) ?_
         refine zst (op_extract (by rfl) (by rfl)) rfl (by dsimp only [zS, zN, zH, zT]) ?_
         refine zst (op_extract (by rfl) (by rfl)) rfl (by dsimp only [zS, zN, zH, zT]) ?_
         refine zst (op_alloc (Zr26) (by rfl)) rfl (by dsimp only [zS, zN, zH, zT]) ?_
         refine zst (op_storeV (b' := ⟨26, (vC gx).map .d, false⟩) gx Sz26 (by rfl) push_at (by rfl) (Nat.le_of_ble_eq_true rfl) (by rfl) (by rw [vC_eq]; rfl)) rfl (by dsimp only [zS, zN, zH, zT]) ?_
         refine zst (op_assign_tmp (by rfl)) rfl (by dsimp only [zS, zN, zH, zT]) ?_
         refine al_end rfl ?_
         refine then_normal ?_
         refine aw_seq ?_
         refine aw_region ?_
         refine zst (op_move_tmp (by rfl)) rfl (by dsimp only [zS, zN, zH, zT]) ?_
         refine zst (op_move_tmp (by rfl)) rfl (by dsimp only [zS, zN, zH, zT]) ?_
         refine zst (op_lookup2_at Try.underlying31 Try.underlying9 Zr26 repV0 (by rfl) (by rfl) (mAt0 hM) hlb hlx) rfl (by dsimp only [zS, zN, zH, zT]) ?_
         refine zst (op_move_tmp (by rfl)) rfl (by dsimp only [zS, zN, zH, zT]) ?_
         refine zst (op_extract (by rfl) (by rfl)) rfl (by dsimp only [zS, zN, zH, zT]) ?_
         refine zst (op_extract (by rfl) (by rfl)) rfl (by dsimp only [zS, zN, zH, zT]) ?_
         refine zst (op_alloc (Zr26) (by rfl)) rfl (by dsimp only [zS, zN, zH, zT]) ?_
         refine zst (op_storeV (b' := ⟨26, (vC gx).map .d, false⟩) gx Sz26 (by rfl) push_at (by rfl) (Nat.le_of_ble_eq_true rfl) (by rfl) (by rw [vC_eq]; rfl)) rfl (by dsimp only [zS, zN, zH, zT]) ?_
         refine zst (op_assign_tmp (by rfl)) rfl (by dsimp only [zS, zN, zH, zT]) ?_
         refine al_end rfl ?_
         refine then_normal ?_
         refine aw_seq ?_
         apply aw_cutF (fun T H => ∃ (r : Nat), T = (.un :: (.d (S n0)) :: .un :: .un :: .un :: (.elt [I x.kind, TF x.yes, .v (.int .i64 x.num), S x.text, .lst 6 (x.list.map vD), .lst 7 (x.fields.map fD)]) :: .un :: .un :: .un :: (.map 0) :: .un :: .un :: (.ptr p 0) :: .un :: .un :: .un :: .un :: (.ptr r 0) :: (.d (TF gb)) :: .un :: .un :: .un :: .un :: .un :: .un :: .un :: .un :: .un :: .un :: .un :: .un :: .un :: .un :: .un :: .un :: .un :: .un :: .un :: .un :: .un :: .un :: .un :: .un :: .un :: .un :: .un :: .un :: .un :: .un :: .un :: .un :: .un :: .un :: .un :: .un :: .un :: .un :: .un :: .un :: .un :: .un :: .un :: .un :: .un :: .un :: .un :: .un :: .un :: .un :: .un :: .un :: .un :: .un :: .un :: .un :: .un :: .un :: .un :: .un :: .un :: .un :: .un :: .un :: .un :: .un :: .un :: .un :: .un :: .un :: .un :: .un :: .un :: .un :: .un :: .un :: .un :: .un :: .un :: .un :: .un :: .un :: .un :: .un :: .un :: .un :: .un :: .un :: .un :: .un :: .un :: .un :: .un :: .un :: .un :: .un :: .un :: .un :: .un :: .un :: .un :: .un :: .un :: .un :: .un :: .un :: .un :: .un :: .un :: .un :: .un :: .un :: .un :: .un :: .un :: .un :: .un :: .un :: .un :: .un :: .un :: .un :: .un :: .un :: .un :: .un :: .un :: .un :: (.d (TF false)) :: .un :: .un :: .un :: .un :: .un :: .un :: .un :: .un :: .un :: .un :: .un :: .un :: .un :: .un :: .un :: .un :: .un :: .un :: .un :: .un :: .un :: .un :: .un :: .un :: .un :: .un :: .un :: .un :: .un :: .un :: .un :: .un :: .un :: .un :: .un :: .un :: .un :: .un :: .un :: .un :: .un :: .un :: .un :: .un :: .un :: .un :: .un :: .un :: .un :: .un :: .un :: .un :: .un :: .un :: .un :: .un :: .un :: .un :: .un :: .un :: .un :: .un :: .un :: .un :: .un :: .un :: .un :: .un :: .un :: .un :: .un :: .un :: .un :: .un :: .un :: .un :: .un :: .un :: .un :: .un :: .un :: .un :: .un :: .un :: .un :: .un :: .un :: .un :: .un :: .un :: .un :: .un :: .un :: .un :: .un :: .un :: []) ∧ H.maps = [.map (eL fs)] ∧ H.blks[p]? = some ⟨26, (vC (M (ofF fs))).map .d, false⟩ ∧ H.blks[r]? = some ⟨26, (vC gx).map .d, false⟩)
         ·
          refine aw_region ?_
          refine zst (op_move_tmp (by rfl)) rfl (by dsimp only [zS, zN, zH, zT]) ?_
          refine zst (op_move_tmp (by rfl)) rfl (by dsimp only [zS, zN, zH, zT]) ?_
          refine zst (op_neB_same Try.underlying4 (by rfl) (by rfl)) rfl (by dsimp only [zS, zN, zH, zT]) ?_
          refine zst (op_move_tmp (by rfl)) rfl (by dsimp only [zS, zN, zH, zT]) ?_
          refine zsw rfl rfl rfl (op_move_tmp (by rfl)) (by dsimp only [zS, zN, zH, zT]) ?_
          refine zsw rfl rfl rfl (op_move_tmp (by rfl)) (by dsimp only [zS, zN, zH, zT]) ?_
          refine al_split 141 rfl (fun hg18 => ?_) (fun hg18 => ?_)
          ·
           (try simp only [y1, y2, y3, y4, y5, y6, y7, y8, y9, y0, List.length_map] at hg18)
           apply al_normT
           · (try dsimp only [zS, zN, zH, zT]); try exact rfl
           refine zsw rfl rfl rfl (op_load_ptrsD (vC gx) Try.underlying26 (by rfl) Sz26 (by rfl) (by (try have l1 := lt_nb hb1); (try have l2 := lt_nb hb2); (try have l3 := lt_nb hb3); (try have l4 := lt_nb hb4); repeat (first | assumption | exact push_at | exact setB_at push_at | (rw [pushM_blks]) | (rw [setM_blks]) | (rw [setB_ne (by simp only [setB_nb, push_nb, pushM_nb, setM_nb, ne_eq]; omega)]) | apply push_ne | apply setB_at)) (by show 0 + 6 ≤ ((vC gx).map AV.d).length; rw [List.length_map, vC_len]; exact Nat.le_refl _) (by show (((vC gx).map AV.d).drop 0).take 6 = _; rw [List.drop_zero, List.take_of_length_le (by rw [List.length_map, vC_len]; exact Nat.le_refl _)]) (vC_one gx)) (by dsimp only [zS, zN, zH, zT]) ?_
           refine zsw rfl rfl rfl (op_load_ptrsD (vC gx) Try.underlying26 (by rfl) Sz26 (by rfl) (by (try have l1 := lt_nb hb1); (try have l2 := lt_nb hb2); (try have l3 := lt_nb hb3); (try have l4 := lt_nb hb4); repeat (first | assumption | exact push_at | exact setB_at push_at | (rw [pushM_blks]) | (rw [setM_blks]) | (rw [setB_ne (by simp only [setB_nb, push_nb, pushM_nb, setM_nb, ne_eq]; omega)]) | apply push_ne | apply setB_at)) (by show 0 + 6 ≤ ((vC gx).map AV.d).length; rw [List.length_map, vC_len]; exact Nat.le_refl _) (by show (((vC gx).map AV.d).drop 0).take 6 = _; rw [List.drop_zero, List.take_of_length_le (by rw [List.length_map, vC_len]; exact Nat.le_refl _)]) (vC_one gx)) (by dsimp only [zS, zN, zH, zT]) ?_
           refine zsw rfl rfl rfl (op_callF Try.func12 (by rfl) (by rfl) (.tmp (by rfl) (.tmp (by rfl) .nil)) (same_self _ gx (hgx))) (by dsimp only [zS, zN, zH, zT]) ?_
           refine zsw rfl rfl rfl (op_not (by rfl)) (by dsimp only [zS, zN, zH, zT]) ?_
           refine zsw rfl rfl rfl (op_pick_tt (by rfl) (val_tmp (by rfl))) (by dsimp only [zS, zN, zH, zT]) ?_
           refine zst (op_pick_ff (by rfl) (val_tmp (by rfl))) rfl (by dsimp only [zS, zN, zH, zT]) ?_
           refine al_end rfl ?_
           apply cut_to (false :: true :: false :: false :: false :: true :: false :: false :: false :: true :: false :: false :: true :: false :: false :: false :: false :: true :: true :: false :: false :: false :: false :: false :: false :: false :: false :: false :: false :: false :: false :: false :: false :: false :: false :: false :: false :: false :: false :: false :: false :: false :: false :: false :: false :: false :: false :: false :: false :: false :: false :: false :: false :: false :: false :: false :: false :: false :: false :: false :: false :: false :: false :: false :: false :: false :: false :: false :: false :: false :: false :: false :: false :: false :: false :: false :: false :: false :: false :: false :: false :: false :: false :: false :: false :: false :: false :: false :: false :: false :: false :: false :: false :: false :: false :: false :: false :: false :: false :: false :: false :: false :: false :: false :: false :: false :: false :: false :: false :: false :: false :: false :: false :: false :: false :: false :: false :: false :: false :: false :: false :: false :: false :: false :: false :: false :: false :: false :: false :: false :: false :: false :: false :: false :: false :: false :: false :: false :: false :: false :: false :: false :: false :: false :: false :: false :: false :: true :: false :: false :: false :: false :: false :: false :: false :: false :: false :: false :: false :: false :: false :: false :: false :: false :: false :: false :: false :: false :: false :: false :: false :: false :: false :: false :: false :: false :: false :: false :: false :: false :: false :: false :: false :: false :: false :: false :: false :: false :: false :: false :: false :: false :: false :: false :: false :: false :: false :: false :: false :: false :: false :: false :: false :: false :: false :: false :: false :: false :: false :: false :: false :: false :: false :: false :: false :: false :: false :: false :: false :: false :: false :: false :: false :: false :: false :: false :: false :: false :: false :: false :: false :: false :: false :: false :: false :: false :: false :: false :: false :: false :: false :: false :: false :: false :: [])
           · (try dsimp only [maskT]); try exact rfl
           · rfl
           exact ⟨_, rfl, hM, (by (try have l1 := lt_nb hb1); (try have l2 := lt_nb hb2); (try have l3 := lt_nb hb3); (try have l4 := lt_nb hb4); repeat (first | assumption | exact push_at | exact setB_at push_at | (rw [pushM_blks]) | (rw [setM_blks]) | (rw [setB_ne (by simp only [setB_nb, push_nb, pushM_nb, setM_nb, ne_eq]; omega)]) | apply push_ne | apply setB_at)), (by (try have l1 := lt_nb hb1); (try have l2 := lt_nb hb2); (try have l3 := lt_nb hb3); (try have l4 := lt_nb hb4); repeat (first | assumption | exact push_at | exact setB_at push_at | (rw [pushM_blks]) | (rw [setM_blks]) | (rw [setB_ne (by simp only [setB_nb, push_nb, pushM_nb, setM_nb, ne_eq]; omega)]) | apply push_ne | apply setB_at))⟩
          ·
           (try simp only [y1, y2, y3, y4, y5, y6, y7, y8, y9, y0, List.length_map] at hg18)
           apply al_normT
           · (try dsimp only [zS, zN, zH, zT]); try exact rfl
           refine zuw rfl rfl rfl rfl (by dsimp only [zS, zN, zH, zT]) ?_
           refine zuw rfl rfl rfl rfl (by dsimp only [zS, zN, zH, zT]) ?_
           refine zuw rfl rfl rfl rfl (by dsimp only [zS, zN, zH, zT]) ?_
           refine zuw rfl rfl rfl rfl (by dsimp only [zS, zN, zH, zT]) ?_
           refine zsw rfl rfl rfl (op_pick_ff (by rfl) (val_const (by rfl))) (by dsimp only [zS, zN, zH, zT]) ?_
           refine zst (op_pick_ff (by rfl) (val_tmp (by rfl))) rfl (by dsimp only [zS, zN, zH, zT]) ?_
           refine al_end rfl ?_
           apply cut_to (false :: true :: false :: false :: false :: true :: false :: false :: false :: true :: false :: false :: true :: false :: false :: false :: false :: true :: true :: false :: false :: false :: false :: false :: false :: false :: false :: false :: false :: false :: false :: false :: false :: false :: false :: false :: false :: false :: false :: false :: false :: false :: false :: false :: false :: false :: false :: false :: false :: false :: false :: false :: false :: false :: false :: false :: false :: false :: false :: false :: false :: false :: false :: false :: false :: false :: false :: false :: false :: false :: false :: false :: false :: false :: false :: false :: false :: false :: false :: false :: false :: false :: false :: false :: false :: false :: false :: false :: false :: false :: false :: false :: false :: false :: false :: false :: false :: false :: false :: false :: false :: false :: false :: false :: false :: false :: false :: false :: false :: false :: false :: false :: false :: false :: false :: false :: false :: false :: false :: false :: false :: false :: false :: false :: false :: false :: false :: false :: false :: false :: false :: false :: false :: false :: false :: false :: false :: false :: false :: false :: false :: false :: false :: false :: false :: false :: false :: true :: false :: false :: false :: false :: false :: false :: false :: false :: false :: false :: false :: false :: false :: false :: false :: false :: false :: false :: false :: false :: false :: false :: false :: false :: false :: false :: false :: false :: false :: false :: false :: false :: false :: false :: false :: false :: false :: false :: false :: false :: false :: false :: false :: false :: false :: false :: false :: false :: false :: false :: false :: false :: false :: false :: false :: false :: false :: false :: false :: false :: false :: false :: false :: false :: false :: false :: false :: false :: false :: false :: false :: false :: false :: false :: false :: false :: false :: false :: false :: false :: false :: false :: false :: false :: false :: false :: false :: false :: false :: false :: false :: false :: false :: false :: false :: false :: [])
           · (try dsimp only [maskT]); try exact rfl
           · rfl
           exact ⟨_, rfl, hM, (by (try have l1 := lt_nb hb1); (try have l2 := lt_nb hb2); (try have l3 := lt_nb hb3); (try have l4 := lt_nb hb4); repeat (first | assumption | exact push_at | exact setB_at push_at | (rw [pushM_blks]) | (rw [setM_blks]) | (rw [setB_ne (by simp only [setB_nb, push_nb, pushM_nb, setM_nb, ne_eq]; omega)]) | apply push_ne | apply setB_at)), (by (try have l1 := lt_nb hb1); (try have l2 := lt_nb hb2); (try have l3 := lt_nb hb3); (try have l4 := lt_nb hb4); repeat (first | assumption | exact push_at | exact setB_at push_at | (rw [pushM_blks]) | (rw [setM_blks]) | (rw [setB_ne (by simp only [setB_nb, push_nb, pushM_nb, setM_nb, ne_eq]; omega)]) | apply push_ne | apply setB_at))⟩
         rintro T H ⟨r, rfl, hM, hb1, hb2⟩
         refine aw_cond rfl (fun hc19 => ?_) (fun hc19 => ?_)
         ·
          (try simp only [y1, y2, y3, y4, y5, y6, y7, y8, y9, y0, List.length_map] at hc19)
          exact absurd hc19 (by decide)
         ·
          (try simp only [y1, y2, y3, y4, y5, y6, y7, y8, y9, y0, List.length_map] at hc19)
          refine aw_skip ?_
          refine then_normal ?_
          refine aw_seq ?_
          refine aw_region ?_
          refine zst (op_load_ptrsD (vC (M (ofF fs))) Try.underlying26 (by rfl) Sz26 (by rfl) (by (try have l1 := lt_nb hb1); (try have l2 := lt_nb hb2); (try have l3 := lt_nb hb3); (try have l4 := lt_nb hb4); repeat (first | assumption | exact push_at | exact setB_at push_at | (rw [pushM_blks]) | (rw [setM_blks]) | (rw [setB_ne (by simp only [setB_nb, push_nb, pushM_nb, setM_nb, ne_eq]; omega)]) | apply push_ne | apply setB_at)) (by show 0 + 6 ≤ ((vC (M (ofF fs))).map AV.d).length; rw [List.length_map, vC_len]; exact Nat.le_refl _) (by show (((vC (M (ofF fs))).map AV.d).drop 0).take 6 = _; rw [List.drop_zero, List.take_of_length_le (by rw [List.length_map, vC_len]; exact Nat.le_refl _)]) (vC_one (M (ofF fs)))) rfl (by dsimp only [zS, zN, zH, zT]) ?_
          refine zst (op_move_tmp (by rfl)) rfl (by dsimp only [zS, zN, zH, zT]) ?_
          refine zst (op_load_elts (ds := vC x) Try.underlying26 (by rfl) Sz26 (by rfl) (Nat.le_of_ble_eq_true rfl) (by rw [vC_eq]; rfl)) rfl (by dsimp only [zS, zN, zH, zT]) ?_
          refine zst (op_callF Try.func14 (by rfl) (by rfl) (.tmp (by rfl) (.tmp (by rfl) (.tmp (by rfl) .nil))) (with_ok _ (M (ofF fs)) n0 x (by have := ofF_len fs; show (ofF fs).length ≤ 90000; omega))) rfl (by dsimp only [zS, zN, zH, zT]) ?_
          refine zst (op_alloc (Zr26) (by rfl)) rfl (by dsimp only [zS, zN, zH, zT]) ?_
          refine zst (op_storeV (b' := ⟨26, (vC (withV (M (ofF fs)) n0 x)).map .d, false⟩) (withV (M (ofF fs)) n0 x) Sz26 (by rfl) push_at (by rfl) (Nat.le_of_ble_eq_true rfl) (by rfl) (by rw [vC_eq]; rfl)) rfl (by dsimp only [zS, zN, zH, zT]) ?_
          refine al_end rfl ?_
          refine then_normal ?_
          refine aw_seq ?_
          refine aw_region ?_
          refine zst (op_load_ptrsD (vC (M (ofF fs))) Try.underlying26 (by rfl) Sz26 (by rfl) (by (try have l1 := lt_nb hb1); (try have l2 := lt_nb hb2); (try have l3 := lt_nb hb3); (try have l4 := lt_nb hb4); repeat (first | assumption | exact push_at | exact setB_at push_at | (rw [pushM_blks]) | (rw [setM_blks]) | (rw [setB_ne (by simp only [setB_nb, push_nb, pushM_nb, setM_nb, ne_eq]; omega)]) | apply push_ne | apply setB_at)) (by show 0 + 6 ≤ ((vC (M (ofF fs))).map AV.d).length; rw [List.length_map, vC_len]; exact Nat.le_refl _) (by show (((vC (M (ofF fs))).map AV.d).drop 0).take 6 = _; rw [List.drop_zero, List.take_of_length_le (by rw [List.length_map, vC_len]; exact Nat.le_refl _)]) (vC_one (M (ofF fs)))) rfl (by dsimp only [zS, zN, zH, zT]) ?_
          refine zst (op_move_tmp (by rfl)) rfl (by dsimp only [zS, zN, zH, zT]) ?_
          refine zst (op_callF Try.func15 (by rfl) (by rfl) (.tmp (by rfl) (.tmp (by rfl) .nil)) (without_ok _ (M (ofF fs)) n0 hML)) rfl (by dsimp only [zS, zN, zH, zT]) ?_
          refine zst (op_alloc (Zr26) (by rfl)) rfl (by dsimp only [zS, zN, zH, zT]) ?_
          refine zst (op_storeV (b' := ⟨26, (vC (withoutV (M (ofF fs)) n0)).map .d, false⟩) (withoutV (M (ofF fs)) n0) Sz26 (by rfl) push_at (by rfl) (Nat.le_of_ble_eq_true rfl) (by rfl) (by rw [vC_eq]; rfl)) rfl (by dsimp only [zS, zN, zH, zT]) ?_
          refine al_end rfl ?_
          refine then_normal ?_
          refine aw_seq ?_
          refine aw_region ?_
          refine zst (op_load_ptrsD (vC (withV (M (ofF fs)) n0 x)) Try.underlying26 (by rfl) Sz26 (by rfl) (by (try have l1 := lt_nb hb1); (try have l2 := lt_nb hb2); (try have l3 := lt_nb hb3); (try have l4 := lt_nb hb4); repeat (first | assumption | exact push_at | exact setB_at push_at | (rw [pushM_blks]) | (rw [setM_blks]) | (rw [setB_ne (by simp only [setB_nb, push_nb, pushM_nb, setM_nb, ne_eq]; omega)]) | apply push_ne | apply setB_at)) (by show 0 + 6 ≤ ((vC (withV (M (ofF fs)) n0 x)).map AV.d).length; rw [List.length_map, vC_len]; exact Nat.le_refl _) (by show (((vC (withV (M (ofF fs)) n0 x)).map AV.d).drop 0).take 6 = _; rw [List.drop_zero, List.take_of_length_le (by rw [List.length_map, vC_len]; exact Nat.le_refl _)]) (vC_one (withV (M (ofF fs)) n0 x))) rfl (by dsimp only [zS, zN, zH, zT]) ?_
          refine zst (op_move_tmp (by rfl)) rfl (by dsimp only [zS, zN, zH, zT]) ?_
          refine zst (op_callF Try.func13 (by rfl) (by rfl) (.tmp (by rfl) (.tmp (by rfl) .nil)) (get_at hg1 hWL)) rfl (by dsimp only [zS, zN, zH, zT]) ?_
          refine zst (op_move_tmp (by rfl)) rfl (by dsimp only [zS, zN, zH, zT]) ?_
          refine zst (op_extract (by rfl) (by rfl)) rfl (by dsimp only [zS, zN, zH, zT]) ?_
          refine zst (op_extract (by rfl) (by rfl)) rfl (by dsimp only [zS, zN, zH, zT]) ?_
          refine zst (op_alloc (Zr26) (by rfl)) rfl (by dsimp only [zS, zN, zH, zT]) ?_
          refine zst (op_storeV (b' := ⟨26, (vC x).map .d, false⟩) x Sz26 (by rfl) push_at (by rfl) (Nat.le_of_ble_eq_true rfl) (by rfl) (by rw [vC_eq]; rfl)) rfl (by dsimp only [zS, zN, zH, zT]) ?_
          refine zst (op_assign_tmp (by rfl)) rfl (by dsimp only [zS, zN, zH, zT]) ?_
          refine al_end rfl ?_
          refine then_normal ?_
          refine aw_seq ?_
          refine aw_region ?_
          refine zst (op_load_ptrsD (vC (withoutV (M (ofF fs)) n0)) Try.underlying26 (by rfl) Sz26 (by rfl) (by (try have l1 := lt_nb hb1); (try have l2 := lt_nb hb2); (try have l3 := lt_nb hb3); (try have l4 := lt_nb hb4); repeat (first | assumption | exact push_at | exact setB_at push_at | (rw [pushM_blks]) | (rw [setM_blks]) | (rw [setB_ne (by simp only [setB_nb, push_nb, pushM_nb, setM_nb, ne_eq]; omega)]) | apply push_ne | apply setB_at)) (by show 0 + 6 ≤ ((vC (withoutV (M (ofF fs)) n0)).map AV.d).length; rw [List.length_map, vC_len]; exact Nat.le_refl _) (by show (((vC (withoutV (M (ofF fs)) n0)).map AV.d).drop 0).take 6 = _; rw [List.drop_zero, List.take_of_length_le (by rw [List.length_map, vC_len]; exact Nat.le_refl _)]) (vC_one (withoutV (M (ofF fs)) n0))) rfl (by dsimp only [zS, zN, zH, zT]) ?_
          refine zst (op_move_tmp (by rfl)) rfl (by dsimp only [zS, zN, zH, zT]) ?_
          refine zst (op_callF Try.func13 (by rfl) (by rfl) (.tmp (by rfl) (.tmp (by rfl) .nil)) (get_at hg2 hOL)) rfl (by dsimp only [zS, zN, zH, zT]) ?_
          refine zst (op_move_tmp (by rfl)) rfl (by dsimp only [zS, zN, zH, zT]) ?_
          refine zst (op_extract (by rfl) (by rfl)) rfl (by dsimp only [zS, zN, zH, zT]) ?_
          refine zst (op_extract (by rfl) (by rfl)) rfl (by dsimp only [zS, zN, zH, zT]) ?_
          refine zst (op_alloc (Zr26) (by rfl)) rfl (by dsimp only [zS, zN, zH, zT]) ?_
          refine zst (op_storeV (b' := ⟨26, (vC V0).map .d, false⟩) V0 Sz26 (by rfl) push_at (by rfl) (Nat.le_of_ble_eq_true rfl) (by rfl) (by rw [vC_eq]; rfl)) rfl (by dsimp only [zS, zN, zH, zT]) ?_
          refine zst (op_assign_tmp (by rfl)) rfl (by dsimp only [zS, zN, zH, zT]) ?_
          refine al_end rfl ?_
          refine then_normal ?_
          refine aw_seq ?_
          refine aw_seq ?_
          refine aw_region ?_
          refine zst (op_move_tmp (by rfl)) rfl (by dsimp only [zS, zN, zH, zT]) ?_
          refine zst (op_not (by rfl)) rfl (by dsimp only [zS, zN, zH, zT]) ?_
          refine zst (op_move_tmp (by rfl)) rfl (by dsimp only [zS, zN, zH, zT]) ?_
          refine zsw rfl rfl rfl (op_load_ptrsD (vC x) Try.underlying26 (by rfl) Sz26 (by rfl) (by (try have l1 := lt_nb hb1); (try have l2 := lt_nb hb2); (try have l3 := lt_nb hb3); (try have l4 := lt_nb hb4); repeat (first | assumption | exact push_at | exact setB_at push_at | (rw [pushM_blks]) | (rw [setM_blks]) | (rw [setB_ne (by simp only [setB_nb, push_nb, pushM_nb, setM_nb, ne_eq]; omega)]) | apply push_ne | apply setB_at)) (by show 0 + 6 ≤ ((vC x).map AV.d).length; rw [List.length_map, vC_len]; exact Nat.le_refl _) (by show (((vC x).map AV.d).drop 0).take 6 = _; rw [List.drop_zero, List.take_of_length_le (by rw [List.length_map, vC_len]; exact Nat.le_refl _)]) (vC_one x)) (by dsimp only [zS, zN, zH, zT]) ?_
          refine zsw rfl rfl rfl (op_load_elts (ds := vC x) Try.underlying26 (by rfl) Sz26 (by rfl) (Nat.le_of_ble_eq_true rfl) (by rw [vC_eq]; rfl)) (by dsimp only [zS, zN, zH, zT]) ?_
          refine zsw rfl rfl rfl (op_callF Try.func12 (by rfl) (by rfl) (.tmp (by rfl) (.tmp (by rfl) .nil)) (same_self _ x (few_small 7 _ hfx))) (by dsimp only [zS, zN, zH, zT]) ?_
          refine zsw rfl rfl rfl (op_not (by rfl)) (by dsimp only [zS, zN, zH, zT]) ?_
          refine zst (op_pick_ff (by rfl) (val_tmp (by rfl))) rfl (by dsimp only [zS, zN, zH, zT]) ?_
          refine zst (op_move_tmp (by rfl)) rfl (by dsimp only [zS, zN, zH, zT]) ?_
          refine zsw rfl rfl rfl (op_move_tmp (by rfl)) (by dsimp only [zS, zN, zH, zT]) ?_
          refine zst (op_pick_ff (by rfl) (val_tmp (by rfl))) rfl (by dsimp only [zS, zN, zH, zT]) ?_
          refine al_end rfl ?_
          refine then_normal ?_
          refine aw_cond rfl (fun h => by cases h) (fun _ => ?_)
          refine aw_skip ?_
          refine then_normal ?_
          refine aw_seq ?_
          refine aw_seq ?_
          refine aw_region ?_
          refine zst (op_move_tmp (by rfl)) rfl (by dsimp only [zS, zN, zH, zT]) ?_
          refine zst (op_range Try.underlying31 (by rfl) (mAt0 hM)) rfl (by dsimp only [zS, zN, zH, zT]) ?_
          refine al_end rfl ?_
          refine then_normal ?_
          refine aw_block ?_
          repeat (first | rw [setB_nm] | rw [push_nm])
          rw [nm1 hM]
          apply aw_loopF (fun n T H => ∃ (k : Nat) (last : Option (List UInt8 × DV)) (q : Nat) (r : Nat) (pw : Nat) (po : Nat), T = (.un :: (.d (S n0)) :: .un :: .un :: .un :: .un :: .un :: .un :: .un :: (.map 0) :: .un :: .un :: (.ptr q 0) :: .un :: .un :: .un :: .un :: (.ptr r 0) :: (.d (TF gb)) :: (.ptr pw 0) :: (.ptr po 0) :: .un :: .un :: .un :: .un :: .un :: .un :: .un :: .un :: .un :: .un :: .un :: .un :: .un :: .un :: .un :: .un :: .un :: .un :: .un :: .un :: .un :: .un :: .un :: .un :: .un :: .un :: .un :: .un :: .un :: .un :: .un :: .un :: .un :: .un :: .un :: .un :: .un :: .un :: .un :: .un :: .un :: .un :: .un :: .un :: .un :: .un :: .un :: .un :: .un :: .un :: .un :: .un :: .un :: .un :: .un :: .un :: .un :: .un :: .un :: .un :: .un :: .un :: .un :: .un :: .un :: .un :: .un :: .un :: .un :: .un :: .un :: .un :: .un :: .un :: .un :: .un :: .un :: .un :: .un :: .un :: .un :: .un :: .un :: .un :: .un :: .un :: .un :: .un :: .un :: .un :: .un :: .un :: .un :: .un :: .un :: .un :: .un :: .un :: .un :: .un :: .un :: .un :: .un :: .un :: .un :: .un :: .un :: .un :: .un :: .un :: .un :: .un :: .un :: .un :: .un :: .un :: .un :: .un :: .un :: .un :: .un :: .un :: .un :: .un :: .un :: .un :: .un :: .un :: .un :: .un :: .un :: .un :: .un :: .un :: .un :: .un :: .un :: .un :: .un :: .un :: .un :: .un :: .un :: .un :: .un :: .un :: .un :: .un :: .un :: .un :: .un :: .un :: .un :: .un :: .un :: .un :: .un :: .un :: (.iter 1) :: .un :: .un :: .un :: .un :: .un :: .un :: .un :: .un :: .un :: .un :: .un :: .un :: .un :: .un :: .un :: .un :: .un :: .un :: .un :: .un :: .un :: .un :: .un :: .un :: .un :: .un :: .un :: .un :: .un :: .un :: .un :: .un :: .un :: .un :: .un :: .un :: .un :: .un :: .un :: .un :: .un :: .un :: .un :: .un :: .un :: .un :: .un :: .un :: .un :: .un :: .un :: .un :: .un :: .un :: .un :: .un :: .un :: .un :: .un :: .un :: .un :: .un :: .un :: .un :: []) ∧ n = (eL fs).length - k ∧ H.maps = [.map (eL fs), .iter (some 0) k last] ∧ H.blks[q]? = some ⟨26, (vC (M (ofF fs))).map .d, false⟩ ∧ H.blks[r]? = some ⟨26, (vC gx).map .d, false⟩ ∧ H.blks[pw]? = some ⟨26, (vC (withV (M (ofF fs)) n0 x)).map .d, false⟩ ∧ H.blks[po]? = some ⟨26, (vC (withoutV (M (ofF fs)) n0)).map .d, false⟩) ((eL fs).length) (false :: true :: false :: false :: false :: false :: false :: false :: false :: true :: false :: false :: true :: false :: false :: false :: false :: true :: true :: true :: true :: false :: false :: false :: false :: false :: false :: false :: false :: false :: false :: false :: false :: false :: false :: false :: false :: false :: false :: false :: false :: false :: false :: false :: false :: false :: false :: false :: false :: false :: false :: false :: false :: false :: false :: false :: false :: false :: false :: false :: false :: false :: false :: false :: false :: false :: false :: false :: false :: false :: false :: false :: false :: false :: false :: false :: false :: false :: false :: false :: false :: false :: false :: false :: false :: false :: false :: false :: false :: false :: false :: false :: false :: false :: false :: false :: false :: false :: false :: false :: false :: false :: false :: false :: false :: false :: false :: false :: false :: false :: false :: false :: false :: false :: false :: false :: false :: false :: false :: false :: false :: false :: false :: false :: false :: false :: false :: false :: false :: false :: false :: false :: false :: false :: false :: false :: false :: false :: false :: false :: false :: false :: false :: false :: false :: false :: false :: false :: false :: false :: false :: false :: false :: false :: false :: false :: false :: false :: false :: false :: false :: false :: false :: false :: false :: false :: false :: false :: false :: false :: false :: false :: false :: false :: false :: false :: false :: false :: false :: true :: false :: false :: false :: false :: false :: false :: false :: false :: false :: false :: false :: false :: false :: false :: false :: false :: false :: false :: false :: false :: false :: false :: false :: false :: false :: false :: false :: false :: false :: false :: false :: false :: false :: false :: false :: false :: false :: false :: false :: false :: false :: false :: false :: false :: false :: false :: false :: false :: false :: false :: false :: false :: false :: false :: false :: false :: false :: false :: false :: false :: false :: false :: false :: false :: [])
          · (try dsimp only [maskT]); try exact rfl
          · rfl
          · exact ⟨0, none, _, _, _, _, rfl, rfl, mPush1 hM, (by (try have l1 := lt_nb hb1); (try have l2 := lt_nb hb2); (try have l3 := lt_nb hb3); (try have l4 := lt_nb hb4); repeat (first | assumption | exact push_at | exact setB_at push_at | (rw [pushM_blks]) | (rw [setM_blks]) | (rw [setB_ne (by simp only [setB_nb, push_nb, pushM_nb, setM_nb, ne_eq]; omega)]) | apply push_ne | apply setB_at)), (by (try have l1 := lt_nb hb1); (try have l2 := lt_nb hb2); (try have l3 := lt_nb hb3); (try have l4 := lt_nb hb4); repeat (first | assumption | exact push_at | exact setB_at push_at | (rw [pushM_blks]) | (rw [setM_blks]) | (rw [setB_ne (by simp only [setB_nb, push_nb, pushM_nb, setM_nb, ne_eq]; omega)]) | apply push_ne | apply setB_at)), (by (try have l1 := lt_nb hb1); (try have l2 := lt_nb hb2); (try have l3 := lt_nb hb3); (try have l4 := lt_nb hb4); repeat (first | assumption | exact push_at | exact setB_at push_at | (rw [pushM_blks]) | (rw [setM_blks]) | (rw [setB_ne (by simp only [setB_nb, push_nb, pushM_nb, setM_nb, ne_eq]; omega)]) | apply push_ne | apply setB_at)), (by (try have l1 := lt_nb hb1); (try have l2 := lt_nb hb2); (try have l3 := lt_nb hb3); (try have l4 := lt_nb hb4); repeat (first | assumption | exact push_at | exact setB_at push_at | (rw [pushM_blks]) | (rw [setM_blks]) | (rw [setB_ne (by simp only [setB_nb, push_nb, pushM_nb, setM_nb, ne_eq]; omega)]) | apply push_ne | apply setB_at))⟩
          rintro n T H ⟨k, last, q, r, pw, po, rfl, rfl, hM, hb1, hb2, hb3, hb4⟩
          refine aw_seq ?_
          refine aw_region ?_
          refine al_cons _ (op_next (by rfl) (mAt1 hM) (mAt0 hM)) rfl ?_
          rintro v9 H9 (⟨rfl, rfl⟩ | ⟨k2, d2, hmem, hlt, rfl, rfl⟩)
          ·
           apply al_normT
           · (try dsimp only [putT, List.set_cons_zero, List.set_cons_succ]); try exact rfl
           refine zst (op_extract (by rfl) (by rfl)) rfl (by dsimp only [zS, zN, zH, zT]) ?_
           refine al_end rfl ?_
           refine then_normal ?_
           refine aw_seq ?_
           refine aw_cond rfl (fun h => by cases h) (fun _ => ?_)
           refine aw_exit ?_
           refine then_exit (again_exit (inBlock_here (then_normal ?_)))
           refine aw_seq ?_
           refine aw_region ?_
           refine zst (op_load_ptrsD (vC (M (ofF fs))) Try.underlying26 (by rfl) Sz26 (by rfl) (by (try have l1 := lt_nb hb1); (try have l2 := lt_nb hb2); (try have l3 := lt_nb hb3); (try have l4 := lt_nb hb4); repeat (first | assumption | exact push_at | exact setB_at push_at | (rw [pushM_blks]) | (rw [setM_blks]) | (rw [setB_ne (by simp only [setB_nb, push_nb, pushM_nb, setM_nb, ne_eq]; omega)]) | apply push_ne | apply setB_at)) (by show 0 + 6 ≤ ((vC (M (ofF fs))).map AV.d).length; rw [List.length_map, vC_len]; exact Nat.le_refl _) (by show (((vC (M (ofF fs))).map AV.d).drop 0).take 6 = _; rw [List.drop_zero, List.take_of_length_le (by rw [List.length_map, vC_len]; exact Nat.le_refl _)]) (vC_one (M (ofF fs)))) rfl (by dsimp only [zS, zN, zH, zT]) ?_
           refine zst (op_move_tmp (by rfl)) rfl (by dsimp only [zS, zN, zH, zT]) ?_
           refine zst (op_callF Try.func13 (by rfl) (by rfl) (.tmp (by rfl) (.tmp (by rfl) .nil)) (get_at hg0 hML)) rfl (by dsimp only [zS, zN, zH, zT]) ?_
           refine zst (op_move_tmp (by rfl)) rfl (by dsimp only [zS, zN, zH, zT]) ?_
           refine zst (op_extract (by rfl) (by rfl)) rfl (by dsimp only [zS, zN, zH, zT]) ?_
           refine zst (op_extract (by rfl) (by rfl)) rfl (by dsimp only [zS, zN, zH, zT]) ?_
           refine zst (op_alloc (Zr26) (by rfl)) rfl (by dsimp only [zS, zN, zH, zT]) ?_
           refine zst (op_storeV (b' := ⟨26, (vC gx).map .d, false⟩) gx Sz26 (by rfl) push_at (by rfl) (Nat.le_of_ble_eq_true rfl) (by rfl) (by rw [vC_eq]; rfl)) rfl (by dsimp only [zS, zN, zH, zT]) ?_
           refine zst (op_assign_tmp (by rfl)) rfl (by dsimp only [zS, zN, zH, zT]) ?_
           refine al_end rfl ?_
           refine then_normal ?_
           refine aw_seq ?_
           refine aw_region ?_
           refine zst (op_move_tmp (by rfl)) rfl (by dsimp only [zS, zN, zH, zT]) ?_
           refine zst (op_move_tmp (by rfl)) rfl (by dsimp only [zS, zN, zH, zT]) ?_
           refine zst (op_eqB_same Try.underlying4 (by rfl) (by rfl)) rfl (by dsimp only [zS, zN, zH, zT]) ?_
           refine zst (op_move_tmp (by rfl)) rfl (by dsimp only [zS, zN, zH, zT]) ?_
           refine zsw rfl rfl rfl (op_move_tmp (by rfl)) (by dsimp only [zS, zN, zH, zT]) ?_
           refine zsw rfl rfl rfl (op_not (by rfl)) (by dsimp only [zS, zN, zH, zT]) ?_
           refine zsw rfl rfl rfl (op_move_tmp (by rfl)) (by dsimp only [zS, zN, zH, zT]) ?_
           refine al_split 230 rfl (fun hg22 => ?_) (fun hg22 => ?_)
           ·
            (try simp only [y1, y2, y3, y4, y5, y6, y7, y8, y9, y0, List.length_map] at hg22)
            apply al_normT
            · (try dsimp only [zS, zN, zH, zT]); try exact rfl
            refine zuw rfl rfl rfl rfl (by dsimp only [zS, zN, zH, zT]) ?_
            refine zuw rfl rfl rfl rfl (by dsimp only [zS, zN, zH, zT]) ?_
            refine zuw rfl rfl rfl rfl (by dsimp only [zS, zN, zH, zT]) ?_
            refine zsw rfl rfl rfl (op_pick_tt (by rfl) (val_const (by rfl))) (by dsimp only [zS, zN, zH, zT]) ?_
            refine zst (op_pick_tt (by rfl) (val_tmp (by rfl))) rfl (by dsimp only [zS, zN, zH, zT]) ?_
            refine zst (op_move_tmp (by rfl)) rfl (by dsimp only [zS, zN, zH, zT]) ?_
            refine zsw rfl rfl rfl (by first | exact op_fieldAddr_ptr Try.underlying26 rfl Sz22 (by rfl) (by rfl) | exact op_fieldAddr_elt Try.underlying26 rfl Sz22 (by rfl) (by rfl) (by rfl)) (by dsimp only [zS, zN, zH, zT]) ?_
            refine zsw rfl rfl rfl (op_load_ptr Try.underlying22 (by rfl) (by rfl) (by (try have l1 := lt_nb hb1); (try have l2 := lt_nb hb2); (try have l3 := lt_nb hb3); (try have l4 := lt_nb hb4); repeat (first | assumption | exact push_at | exact setB_at push_at | (rw [pushM_blks]) | (rw [setM_blks]) | (rw [setB_ne (by simp only [setB_nb, push_nb, pushM_nb, setM_nb, ne_eq]; omega)]) | apply push_ne | apply setB_at)) (show ((vC (M (ofF fs))).map AV.d)[5]? = some (.d (.lst 7 ((ofF fs).map fD))) by rw [vC_eq]; rfl)) (by dsimp only [zS, zN, zH, zT]) ?_
            refine zsw rfl rfl rfl (op_lenL Try.underlying22 (by first | exact LL.d _ _ | exact LL.own _ _ _ | exact LL.nil _ | assumption)) (by dsimp only [zS, zN, zH, zT]) ?_
            refine zsw rfl rfl rfl (op_move_tmp (by rfl)) (by dsimp only [zS, zN, zH, zT]) ?_
            refine zsw rfl rfl rfl (op_lenMap Try.underlying31 (by rfl) (mAt0 hM)) (by dsimp only [zS, zN, zH, zT]) ?_
            refine zsw rfl rfl rfl (op_eqI (by rfl) (by rfl)) (by dsimp only [zS, zN, zH, zT]) ?_
            refine zst (op_pick_tt (by rfl) (val_tmp (by rfl))) rfl (by dsimp only [zS, zN, zH, zT]) ?_
            refine zst (op_assign_tmp (by rfl)) rfl (by dsimp only [zS, zN, zH, zT]) ?_
            refine al_end rfl ?_
            refine then_normal ?_
            refine aw_ret ?_
            refine retPost1 rfl rfl ?_
            first | exact rfl | (simp [eL_len, TF]; done)
           ·
            (try simp only [y1, y2, y3, y4, y5, y6, y7, y8, y9, y0, List.length_map] at hg22)
            apply al_normT
            · (try dsimp only [zS, zN, zH, zT]); try exact rfl
            refine zsw rfl rfl rfl (op_load_ptrsD (vC gx) Try.underlying26 (by rfl) Sz26 (by rfl) (by (try have l1 := lt_nb hb1); (try have l2 := lt_nb hb2); (try have l3 := lt_nb hb3); (try have l4 := lt_nb hb4); repeat (first | assumption | exact push_at | exact setB_at push_at | (rw [pushM_blks]) | (rw [setM_blks]) | (rw [setB_ne (by simp only [setB_nb, push_nb, pushM_nb, setM_nb, ne_eq]; omega)]) | apply push_ne | apply setB_at)) (by show 0 + 6 ≤ ((vC gx).map AV.d).length; rw [List.length_map, vC_len]; exact Nat.le_refl _) (by show (((vC gx).map AV.d).drop 0).take 6 = _; rw [List.drop_zero, List.take_of_length_le (by rw [List.length_map, vC_len]; exact Nat.le_refl _)]) (vC_one gx)) (by dsimp only [zS, zN, zH, zT]) ?_
            refine zsw rfl rfl rfl (op_load_ptrsD (vC gx) Try.underlying26 (by rfl) Sz26 (by rfl) (by (try have l1 := lt_nb hb1); (try have l2 := lt_nb hb2); (try have l3 := lt_nb hb3); (try have l4 := lt_nb hb4); repeat (first | assumption | exact push_at | exact setB_at push_at | (rw [pushM_blks]) | (rw [setM_blks]) | (rw [setB_ne (by simp only [setB_nb, push_nb, pushM_nb, setM_nb, ne_eq]; omega)]) | apply push_ne | apply setB_at)) (by show 0 + 6 ≤ ((vC gx).map AV.d).length; rw [List.length_map, vC_len]; exact Nat.le_refl _) (by show (((vC gx).map AV.d).drop 0).take 6 = _; rw [List.drop_zero, List.take_of_length_le (by rw [List.length_map, vC_len]; exact Nat.le_refl _)]) (vC_one gx)) (by dsimp only [zS, zN, zH, zT]) ?_
            refine zsw rfl rfl rfl (op_callF Try.func12 (by rfl) (by rfl) (.tmp (by rfl) (.tmp (by rfl) .nil)) (same_self _ gx (hgx))) (by dsimp only [zS, zN, zH, zT]) ?_
            refine zsw rfl rfl rfl (op_pick_ff (by rfl) (val_tmp (by rfl))) (by dsimp only [zS, zN, zH, zT]) ?_
            refine zst (op_pick_tt (by rfl) (val_tmp (by rfl))) rfl (by dsimp only [zS, zN, zH, zT]) ?_
            refine zst (op_move_tmp (by rfl)) rfl (by dsimp only [zS, zN, zH, zT]) ?_
            refine zsw rfl rfl rfl (by first | exact op_fieldAddr_ptr Try.underlying26 rfl Sz22 (by rfl) (by rfl) | exact op_fieldAddr_elt Try.underlying26 rfl Sz22 (by rfl) (by rfl) (by rfl)) (by dsimp only [zS, zN, zH, zT]) ?_
            refine zsw rfl rfl rfl (op_load_ptr Try.underlying22 (by rfl) (by rfl) (by (try have l1 := lt_nb hb1); (try have l2 := lt_nb hb2); (try have l3 := lt_nb hb3); (try have l4 := lt_nb hb4); repeat (first | assumption | exact push_at | exact setB_at push_at | (rw [pushM_blks]) | (rw [setM_blks]) | (rw [setB_ne (by simp only [setB_nb, push_nb, pushM_nb, setM_nb, ne_eq]; omega)]) | apply push_ne | apply setB_at)) (show ((vC (M (ofF fs))).map AV.d)[5]? = some (.d (.lst 7 ((ofF fs).map fD))) by rw [vC_eq]; rfl)) (by dsimp only [zS, zN, zH, zT]) ?_
            refine zsw rfl rfl rfl (op_lenL Try.underlying22 (by first | exact LL.d _ _ | exact LL.own _ _ _ | exact LL.nil _ | assumption)) (by dsimp only [zS, zN, zH, zT]) ?_
            refine zsw rfl rfl rfl (op_move_tmp (by rfl)) (by dsimp only [zS, zN, zH, zT]) ?_
            refine zsw rfl rfl rfl (op_lenMap Try.underlying31 (by rfl) (mAt0 hM)) (by dsimp only [zS, zN, zH, zT]) ?_
            refine zsw rfl rfl rfl (op_eqI (by rfl) (by rfl)) (by dsimp only [zS, zN, zH, zT]) ?_
            refine zst (op_pick_tt (by rfl) (val_tmp (by rfl))) rfl (by dsimp only [zS, zN, zH, zT]) ?_
            refine zst (op_assign_tmp (by rfl)) rfl (by dsimp only [zS, zN, zH, zT]) ?_
            refine al_end rfl ?_
            refine then_normal ?_
            refine aw_ret ?_
            refine retPost1 rfl rfl ?_
            first | exact rfl | (simp [eL_len, TF]; done)
          ·
           apply al_normT
           · (try dsimp only [putT, List.set_cons_zero, List.set_cons_succ]); try exact rfl
           obtain ⟨v2, hv2, rfl⟩ := eL_mem hmem
           refine zst (op_extract (by rfl) (by rfl)) rfl (by dsimp only [zS, zN, zH, zT]) ?_
           refine al_end rfl ?_
           refine then_normal ?_
           refine aw_seq ?_
           refine aw_cond rfl (fun _ => ?_) (fun h => by cases h)
           refine aw_skip ?_
           refine then_normal ?_
           refine aw_block ?_
           refine aw_seq ?_
           refine aw_region ?_
           refine zst (op_entry (by rfl) (mAt1 (mSet1 hM)) (mAt0 (mSet1 hM))) rfl (by dsimp only [zS, zN, zH, zT]) ?_
           refine zst (op_extract (by rfl) (by rfl)) rfl (by dsimp only [zS, zN, zH, zT]) ?_
           refine zst (op_extract (by rfl) (by rfl)) rfl (by dsimp only [zS, zN, zH, zT]) ?_
           refine zst (op_alloc (Zr26) (by rfl)) rfl (by dsimp only [zS, zN, zH, zT]) ?_
           refine zst (op_assign_tmp (by rfl)) rfl (by dsimp only [zS, zN, zH, zT]) ?_
           refine zst (op_storeV (b' := ⟨26, (vC v2).map .d, false⟩) v2 Sz26 (by rfl) push_at (by rfl) (Nat.le_of_ble_eq_true rfl) (by rfl) (by rw [vC_eq]; rfl)) rfl (by dsimp only [zS, zN, zH, zT]) ?_
           refine al_end rfl ?_
           refine then_normal ?_
           refine aw_seq ?_
           refine aw_seq ?_
           refine aw_region ?_
           refine zst (op_move_tmp (by rfl)) rfl (by dsimp only [zS, zN, zH, zT]) ?_
           refine zst (op_move_tmp (by rfl)) rfl (by dsimp only [zS, zN, zH, zT]) ?_
           refine zst (op_eqS (by rfl) (by rfl)) rfl (by dsimp only [zS, zN, zH, zT]) ?_
           refine al_end rfl ?_
           refine then_normal ?_
           refine aw_cond rfl (fun hc24 => ?_) (fun hc24 => ?_)
           ·
            (try simp only [y1, y2, y3, y4, y5, y6, y7, y8, y9, y0, List.length_map] at hc24)
            have hk2 : k2 = n0 := hc24
            refine aw_exit ?_
            refine then_exit (inBlock_here ?_)
            apply again_to ((eL fs).length - (k + 1)) (false :: true :: false :: false :: false :: false :: false :: false :: false :: true :: false :: false :: true :: false :: false :: false :: false :: true :: true :: true :: true :: false :: false :: false :: false :: false :: false :: false :: false :: false :: false :: false :: false :: false :: false :: false :: false :: false :: false :: false :: false :: false :: false :: false :: false :: false :: false :: false :: false :: false :: false :: false :: false :: false :: false :: false :: false :: false :: false :: false :: false :: false :: false :: false :: false :: false :: false :: false :: false :: false :: false :: false :: false :: false :: false :: false :: false :: false :: false :: false :: false :: false :: false :: false :: false :: false :: false :: false :: false :: false :: false :: false :: false :: false :: false :: false :: false :: false :: false :: false :: false :: false :: false :: false :: false :: false :: false :: false :: false :: false :: false :: false :: false :: false :: false :: false :: false :: false :: false :: false :: false :: false :: false :: false :: false :: false :: false :: false :: false :: false :: false :: false :: false :: false :: false :: false :: false :: false :: false :: false :: false :: false :: false :: false :: false :: false :: false :: false :: false :: false :: false :: false :: false :: false :: false :: false :: false :: false :: false :: false :: false :: false :: false :: false :: false :: false :: false :: false :: false :: false :: false :: false :: false :: false :: false :: false :: false :: false :: false :: true :: false :: false :: false :: false :: false :: false :: false :: false :: false :: false :: false :: false :: false :: false :: false :: false :: false :: false :: false :: false :: false :: false :: false :: false :: false :: false :: false :: false :: false :: false :: false :: false :: false :: false :: false :: false :: false :: false :: false :: false :: false :: false :: false :: false :: false :: false :: false :: false :: false :: false :: false :: false :: false :: false :: false :: false :: false :: false :: false :: false :: false :: false :: false :: false :: [])
            · (try dsimp only [maskT]); try exact rfl
            · rfl
            · omega
            exact ⟨k + 1, _, _, _, _, _, rfl, rfl, mSet1 hM, (by (try have l1 := lt_nb hb1); (try have l2 := lt_nb hb2); (try have l3 := lt_nb hb3); (try have l4 := lt_nb hb4); repeat (first | assumption | exact push_at | exact setB_at push_at | (rw [pushM_blks]) | (rw [setM_blks]) | (rw [setB_ne (by simp only [setB_nb, push_nb, pushM_nb, setM_nb, ne_eq]; omega)]) | apply push_ne | apply setB_at)), (by (try have l1 := lt_nb hb1); (try have l2 := lt_nb hb2); (try have l3 := lt_nb hb3); (try have l4 := lt_nb hb4); repeat (first | assumption | exact push_at | exact setB_at push_at | (rw [pushM_blks]) | (rw [setM_blks]) | (rw [setB_ne (by simp only [setB_nb, push_nb, pushM_nb, setM_nb, ne_eq]; omega)]) | apply push_ne | apply setB_at)), (by (try have l1 := lt_nb hb1); (try have l2 := lt_nb hb2); (try have l3 := lt_nb hb3); (try have l4 := lt_nb hb4); repeat (first | assumption | exact push_at | exact setB_at push_at | (rw [pushM_blks]) | (rw [setM_blks]) | (rw [setB_ne (by simp only [setB_nb, push_nb, pushM_nb, setM_nb, ne_eq]; omega)]) | apply push_ne | apply setB_at)), (by (try have l1 := lt_nb hb1); (try have l2 := lt_nb hb2); (try have l3 := lt_nb hb3); (try have l4 := lt_nb hb4); repeat (first | assumption | exact push_at | exact setB_at push_at | (rw [pushM_blks]) | (rw [setM_blks]) | (rw [setB_ne (by simp only [setB_nb, push_nb, pushM_nb, setM_nb, ne_eq]; omega)]) | apply push_ne | apply setB_at))⟩
           ·
            (try simp only [y1, y2, y3, y4, y5, y6, y7, y8, y9, y0, List.length_map] at hc24)
            have hk2 : ¬ k2 = n0 := hc24
            obtain ⟨hg3, hg4⟩ := hgg k2 v2 hk2 hv2
            have hv2s : SmallV v2 := hgs k2 v2 hv2
            refine aw_skip ?_
            refine then_normal ?_
            refine aw_seq ?_
            refine aw_region ?_
            refine zst (op_load_ptrsD (vC (withV (M (ofF fs)) n0 x)) Try.underlying26 (by rfl) Sz26 (by rfl) (by (try have l1 := lt_nb hb1); (try have l2 := lt_nb hb2); (try have l3 := lt_nb hb3); (try have l4 := lt_nb hb4); repeat (first | assumption | exact push_at | exact setB_at push_at | (rw [pushM_blks]) | (rw [setM_blks]) | (rw [setB_ne (by simp only [setB_nb, push_nb, pushM_nb, setM_nb, ne_eq]; omega)]) | apply push_ne | apply setB_at)) (by show 0 + 6 ≤ ((vC (withV (M (ofF fs)) n0 x)).map AV.d).length; rw [List.length_map, vC_len]; exact Nat.le_refl _) (by show (((vC (withV (M (ofF fs)) n0 x)).map AV.d).drop 0).take 6 = _; rw [List.drop_zero, List.take_of_length_le (by rw [List.length_map, vC_len]; exact Nat.le_refl _)]) (vC_one (withV (M (ofF fs)) n0 x))) rfl (by dsimp only [zS, zN, zH, zT]) ?_
            refine zst (op_move_tmp (by rfl)) rfl (by dsimp only [zS, zN, zH, zT]) ?_
            refine zst (op_callF Try.func13 (by rfl) (by rfl) (.tmp (by rfl) (.tmp (by rfl) .nil)) (get_at hg3 hWL)) rfl (by dsimp only [zS, zN, zH, zT]) ?_
            refine zst (op_move_tmp (by rfl)) rfl (by dsimp only [zS, zN, zH, zT]) ?_
            refine zst (op_extract (by rfl) (by rfl)) rfl (by dsimp only [zS, zN, zH, zT]) ?_
            refine zst (op_extract (by rfl) (by rfl)) rfl (by dsimp only [zS, zN, zH, zT]) ?_
            refine zst (op_alloc (Zr26) (by rfl)) rfl (by dsimp only [zS, zN, zH, zT]) ?_
            refine zst (op_storeV (b' := ⟨26, (vC v2).map .d, false⟩) v2 Sz26 (by rfl) push_at (by rfl) (Nat.le_of_ble_eq_true rfl) (by rfl) (by rw [vC_eq]; rfl)) rfl (by dsimp only [zS, zN, zH, zT]) ?_
            refine zst (op_assign_tmp (by rfl)) rfl (by dsimp only [zS, zN, zH, zT]) ?_
            refine al_end rfl ?_
            refine then_normal ?_
            refine aw_seq ?_
            refine aw_region ?_
            refine zst (op_load_ptrsD (vC (withoutV (M (ofF fs)) n0)) Try.underlying26 (by rfl) Sz26 (by rfl) (by (try have l1 := lt_nb hb1); (try have l2 := lt_nb hb2); (try have l3 := lt_nb hb3); (try have l4 := lt_nb hb4); repeat (first | assumption | exact push_at | exact setB_at push_at | (rw [pushM_blks]) | (rw [setM_blks]) | (rw [setB_ne (by simp only [setB_nb, push_nb, pushM_nb, setM_nb, ne_eq]; omega)]) | apply push_ne | apply setB_at)) (by show 0 + 6 ≤ ((vC (withoutV (M (ofF fs)) n0)).map AV.d).length; rw [List.length_map, vC_len]; exact Nat.le_refl _) (by show (((vC (withoutV (M (ofF fs)) n0)).map AV.d).drop 0).take 6 = _; rw [List.drop_zero, List.take_of_length_le (by rw [List.length_map, vC_len]; exact Nat.le_refl _)]) (vC_one (withoutV (M (ofF fs)) n0))) rfl (by dsimp only [zS, zN, zH, zT]) ?_
            refine zst (op_move_tmp (by rfl)) rfl (by dsimp only [zS, zN, zH, zT]) ?_
            refine zst (op_callF Try.func13 (by rfl) (by rfl) (.tmp (by rfl) (.tmp (by rfl) .nil)) (get_at hg4 hOL)) rfl (by dsimp only [zS, zN, zH, zT]) ?_
            refine zst (op_move_tmp (by rfl)) rfl (by dsimp only [zS, zN, zH, zT]) ?_
            refine zst (op_extract (by rfl) (by rfl)) rfl (by dsimp only [zS, zN, zH, zT]) ?_
            refine zst (op_extract (by rfl) (by rfl)) rfl (by dsimp only [zS, zN, zH, zT]) ?_
            refine zst (op_alloc (Zr26) (by rfl)) rfl (by dsimp only [zS, zN, zH, zT]) ?_
            refine zst (op_storeV (b' := ⟨26, (vC v2).map .d, false⟩) v2 Sz26 (by rfl) push_at (by rfl) (Nat.le_of_ble_eq_true rfl) (by rfl) (by rw [vC_eq]; rfl)) rfl (by dsimp only [zS, zN, zH, zT]) ?_
            refine zst (op_assign_tmp (by rfl)) rfl (by dsimp only [zS, zN, zH, zT]) ?_
            refine al_end rfl ?_
            refine then_normal ?_
            refine aw_seq ?_
            refine aw_region ?_
            refine zst (op_move_tmp (by rfl)) rfl (by dsimp only [zS, zN, zH, zT]) ?_
            refine zst (op_not (by rfl)) rfl (by dsimp only [zS, zN, zH, zT]) ?_
            refine zst (op_move_tmp (by rfl)) rfl (by dsimp only [zS, zN, zH, zT]) ?_
            refine zsw rfl rfl rfl (op_move_tmp (by rfl)) (by dsimp only [zS, zN, zH, zT]) ?_
            refine zsw rfl rfl rfl (op_not (by rfl)) (by dsimp only [zS, zN, zH, zT]) ?_
            refine zst (op_pick_ff (by rfl) (val_tmp (by rfl))) rfl (by dsimp only [zS, zN, zH, zT]) ?_
            refine zst (op_move_tmp (by rfl)) rfl (by dsimp only [zS, zN, zH, zT]) ?_
            refine zsw rfl rfl rfl (op_load_ptrsD (vC v2) Try.underlying26 (by rfl) Sz26 (by rfl) (by (try have l1 := lt_nb hb1); (try have l2 := lt_nb hb2); (try have l3 := lt_nb hb3); (try have l4 := lt_nb hb4); repeat (first | assumption | exact push_at | exact setB_at push_at | (rw [pushM_blks]) | (rw [setM_blks]) | (rw [setB_ne (by simp only [setB_nb, push_nb, pushM_nb, setM_nb, ne_eq]; omega)]) | apply push_ne | apply setB_at)) (by show 0 + 6 ≤ ((vC v2).map AV.d).length; rw [List.length_map, vC_len]; exact Nat.le_refl _) (by show (((vC v2).map AV.d).drop 0).take 6 = _; rw [List.drop_zero, List.take_of_length_le (by rw [List.length_map, vC_len]; exact Nat.le_refl _)]) (vC_one v2)) (by dsimp only [zS, zN, zH, zT]) ?_
            refine zsw rfl rfl rfl (op_load_ptrsD (vC v2) Try.underlying26 (by rfl) Sz26 (by rfl) (by (try have l1 := lt_nb hb1); (try have l2 := lt_nb hb2); (try have l3 := lt_nb hb3); (try have l4 := lt_nb hb4); repeat (first | assumption | exact push_at | exact setB_at push_at | (rw [pushM_blks]) | (rw [setM_blks]) | (rw [setB_ne (by simp only [setB_nb, push_nb, pushM_nb, setM_nb, ne_eq]; omega)]) | apply push_ne | apply setB_at)) (by show 0 + 6 ≤ ((vC v2).map AV.d).length; rw [List.length_map, vC_len]; exact Nat.le_refl _) (by show (((vC v2).map AV.d).drop 0).take 6 = _; rw [List.drop_zero, List.take_of_length_le (by rw [List.length_map, vC_len]; exact Nat.le_refl _)]) (vC_one v2)) (by dsimp only [zS, zN, zH, zT]) ?_
            refine zsw rfl rfl rfl (op_callF Try.func12 (by rfl) (by rfl) (.tmp (by rfl) (.tmp (by rfl) .nil)) (same_self _ v2 (hv2s))) (by dsimp only [zS, zN, zH, zT]) ?_
            refine zsw rfl rfl rfl (op_not (by rfl)) (by dsimp only [zS, zN, zH, zT]) ?_
            refine zst (op_pick_ff (by rfl) (val_tmp (by rfl))) rfl (by dsimp only [zS, zN, zH, zT]) ?_
            refine zst (op_move_tmp (by rfl)) rfl (by dsimp only [zS, zN, zH, zT]) ?_
            refine zsw rfl rfl rfl (op_load_ptrsD (vC v2) Try.underlying26 (by rfl) Sz26 (by rfl) (by (try have l1 := lt_nb hb1); (try have l2 := lt_nb hb2); (try have l3 := lt_nb hb3); (try have l4 := lt_nb hb4); repeat (first | assumption | exact push_at | exact setB_at push_at | (rw [pushM_blks]) | (rw [setM_blks]) | (rw [setB_ne (by simp only [setB_nb, push_nb, pushM_nb, setM_nb, ne_eq]; omega)]) | apply push_ne | apply setB_at)) (by show 0 + 6 ≤ ((vC v2).map AV.d).length; rw [List.length_map, vC_len]; exact Nat.le_refl _) (by show (((vC v2).map AV.d).drop 0).take 6 = _; rw [List.drop_zero, List.take_of_length_le (by rw [List.length_map, vC_len]; exact Nat.le_refl _)]) (vC_one v2)) (by dsimp only [zS, zN, zH, zT]) ?_
            refine zsw rfl rfl rfl (op_load_ptrsD (vC v2) Try.underlying26 (by rfl) Sz26 (by rfl) (by (try have l1 := lt_nb hb1); (try have l2 := lt_nb hb2); (try have l3 := lt_nb hb3); (try have l4 := lt_nb hb4); repeat (first | assumption | exact push_at | exact setB_at push_at | (rw [pushM_blks]) | (rw [setM_blks]) | (rw [setB_ne (by simp only [setB_nb, push_nb, pushM_nb, setM_nb, ne_eq]; omega)]) | apply push_ne | apply setB_at)) (by show 0 + 6 ≤ ((vC v2).map AV.d).length; rw [List.length_map, vC_len]; exact Nat.le_refl _) (by show (((vC v2).map AV.d).drop 0).take 6 = _; rw [List.drop_zero, List.take_of_length_le (by rw [List.length_map, vC_len]; exact Nat.le_refl _)]) (vC_one v2)) (by dsimp only [zS, zN, zH, zT]) ?_
            refine zsw rfl rfl rfl (op_callF Try.func12 (by rfl) (by rfl) (.tmp (by rfl) (.tmp (by rfl) .nil)) (same_self _ v2 (hv2s))) (by dsimp only [zS, zN, zH, zT]) ?_
            refine zsw rfl rfl rfl (op_not (by rfl)) (by dsimp only [zS, zN, zH, zT]) ?_
            refine zst (op_pick_ff (by rfl) (val_tmp (by rfl))) rfl (by dsimp only [zS, zN, zH, zT]) ?_
            refine al_end rfl ?_
            refine then_normal ?_
            refine aw_cond rfl (fun h => by cases h) (fun _ => ?_)
            refine aw_skip ?_
            refine inBlock_normal ?_
            apply again_to ((eL fs).length - (k + 1)) (false :: true :: false :: false :: false :: false :: false :: false :: false :: true :: false :: false :: true :: false :: false :: false :: false :: true :: true :: true :: true :: false :: false :: false :: false :: false :: false :: false :: false :: false :: false :: false :: false :: false :: false :: false :: false :: false :: false :: false :: false :: false :: false :: false :: false :: false :: false :: false :: false :: false :: false :: false :: false :: false :: false :: false :: false :: false :: false :: false :: false :: false :: false :: false :: false :: false :: false :: false :: false :: false :: false :: false :: false :: false :: false :: false :: false :: false :: false :: false :: false :: false :: false :: false :: false :: false :: false :: false :: false :: false :: false :: false :: false :: false :: false :: false :: false :: false :: false :: false :: false :: false :: false :: false :: false :: false :: false :: false :: false :: false :: false :: false :: false :: false :: false :: false :: false :: false :: false :: false :: false :: false :: false :: false :: false :: false :: false :: false :: false :: false :: false :: false :: false :: false :: false :: false :: false :: false :: false :: false :: false :: false :: false :: false :: false :: false :: false :: false :: false :: false :: false :: false :: false :: false :: false :: false :: false :: false :: false :: false :: false :: false :: false :: false :: false :: false :: false :: false :: false :: false :: false :: false :: false :: false :: false :: false :: false :: false :: false :: true :: false :: false :: false :: false :: false :: false :: false :: false :: false :: false :: false :: false :: false :: false :: false :: false :: false :: false :: false :: false :: false :: false :: false :: false :: false :: false :: false :: false :: false :: false :: false :: false :: false :: false :: false :: false :: false :: false :: false :: false :: false :: false :: false :: false :: false :: false :: false :: false :: false :: false :: false :: false :: false :: false :: false :: false :: false :: false :: false :: false :: false :: false :: false :: false :: [])
            · (try dsimp only [maskT]); try exact rfl
            · rfl
            · omega
            exact ⟨k + 1, _, _, _, _, _, rfl, rfl, mSet1 hM, (by (try have l1 := lt_nb hb1); (try have l2 := lt_nb hb2); (try have l3 := lt_nb hb3); (try have l4 := lt_nb hb4); repeat (first | assumption | exact push_at | exact setB_at push_at | (rw [pushM_blks]) | (rw [setM_blks]) | (rw [setB_ne (by simp only [setB_nb, push_nb, pushM_nb, setM_nb, ne_eq]; omega)]) | apply push_ne | apply setB_at)), (by (try have l1 := lt_nb hb1); (try have l2 := lt_nb hb2); (try have l3 := lt_nb hb3); (try have l4 := lt_nb hb4); repeat (first | assumption | exact push_at | exact setB_at push_at | (rw [pushM_blks]) | (rw [setM_blks]) | (rw [setB_ne (by simp only [setB_nb, push_nb, pushM_nb, setM_nb, ne_eq]; omega)]) | apply push_ne | apply setB_at)), (by (try have l1 := lt_nb hb1); (try have l2 := lt_nb hb2); (try have l3 := lt_nb hb3); (try have l4 := lt_nb hb4); repeat (first | assumption | exact push_at | exact setB_at push_at | (rw [pushM_blks]) | (rw [setM_blks]) | (rw [setB_ne (by simp only [setB_nb, push_nb, pushM_nb, setM_nb, ne_eq]; omega)]) | apply push_ne | apply setB_at)), (by (try have l1 := lt_nb hb1); (try have l2 := lt_nb hb2); (try have l3 := lt_nb hb3); (try have l4 := lt_nb hb4); repeat (first | assumption | exact push_at | exact setB_at push_at | (rw [pushM_blks]) | (rw [setM_blks]) | (rw [setB_ne (by simp only [setB_nb, push_nb, pushM_nb, setM_nb, ne_eq]; omega)]) | apply push_ne | apply setB_at))⟩
end Go.Proofs.Ytjbpfnoibeogbaa
