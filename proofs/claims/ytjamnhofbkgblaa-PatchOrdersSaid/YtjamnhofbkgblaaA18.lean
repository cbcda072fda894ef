/-
  The AV logic, part 18: a call that writes two older blocks, and what it has made for itself is forgotten.
-/
import Derived.Test.YtjamnhofbkgblaaA13
import Derived.Lib.Bytealg
import Derived.Lib.Overlaps
import Derived.Lib.AppendZerosOnto
namespace Go.AV
/-- Two blocks written. -/
def HS.set2 (H : HS) (i : Nat) (b : HB) (j : Nat) (c : HB) : HS := (H.setB i b).setB j c
theorem setB_comm {H : HS} {i j : Nat} {b c : HB} (h : i ≠ j) : (H.setB i b).setB j c = (H.setB j c).setB i b := by
  simp only [HS.setB, HS.mk.injEq, and_true]
  exact List.set_comm _ _ h
section
variable {H Hs : HS} {i j k : Nat} {b b' b0 c c' c0 x : HB}
theorem set2_at1 (h : i ≠ j) (hi : H.blks[i]? = some b0) : (H.set2 i b j c).blks[i]? = some b := by
  unfold HS.set2; rw [setB_ne h]; exact setB_at hi
theorem set2_at2 (h : i ≠ j) (hj : H.blks[j]? = some c0) : (H.set2 i b j c).blks[j]? = some c := by
  unfold HS.set2; exact setB_at (by rw [setB_ne (Ne.symm h)]; exact hj)
theorem set2_ne (hi : k ≠ i) (hj : k ≠ j) : (H.set2 i b j c).blks[k]? = H.blks[k]? := by
  unfold HS.set2; rw [setB_ne hj, setB_ne hi]
theorem set2_set1 (h : i ≠ j) : (H.set2 i b j c).setB i b' = H.set2 i b' j c := by
  unfold HS.set2; rw [← setB_comm h, setB_setB]
theorem set2_set2 : (H.set2 i b j c).setB j c' = H.set2 i b j c' := by
  unfold HS.set2; rw [setB_setB]
theorem set2_again (h : i ≠ j) : (H.set2 i b j c).set2 i b' j c' = H.set2 i b' j c' := by
  show ((H.set2 i b j c).setB i b').setB j c' = _
  rw [set2_set1 h, set2_set2]
theorem set2_self (_ : i ≠ j) (hi : H.blks[i]? = some b) (hj : H.blks[j]? = some c) : H.set2 i b j c = H := by
  unfold HS.set2; rw [setB_self hi, setB_self hj]
theorem set2_nb : (H.set2 i b j c).nb = H.nb := by unfold HS.set2; rw [setB_nb, setB_nb]
theorem set2_toks : (H.set2 i b j c).toks = H.toks := rfl
theorem Ext.at (h : Ext Hs H) (hi : Hs.blks[i]? = some x) : H.blks[i]? = some x := by
  obtain ⟨l, hl⟩ := h.blks
  rw [hl, List.getElem?_append_left (List.getElem?_eq_some_iff.1 hi).1]; exact hi
theorem Ext.under (h : Ext Hs H) (hi : i < Hs.nb) : Ext (Hs.setB i b) (H.setB i b) := by
  obtain ⟨l, hl⟩ := h.blks
  exact ⟨⟨l, by simp only [HS.setB, hl]; exact List.set_append_left _ _ hi⟩, h.toks⟩
theorem Ext.set2 (h : Ext Hs H) (hi : i < Hs.nb) (hj : j < Hs.nb) : Ext (Hs.set2 i b j c) (H.set2 i b j c) := by
  unfold HS.set2
  exact (h.under hi).under (by rw [setB_nb]; exact hj)
/-- The state behind two blocks written, written again. -/
theorem Ext.set2' (h : Ext (Hs.set2 i b j c) H) (hne : i ≠ j) (hi : i < Hs.nb) (hj : j < Hs.nb) : Ext (Hs.set2 i b' j c') (H.set2 i b' j c') := by
  have := h.set2 (b := b') (c := c') (by rw [set2_nb]; exact hi) (by rw [set2_nb]; exact hj)
  rwa [set2_again hne] at this
theorem Ext.set1' (h : Ext (Hs.set2 i b j c) H) (hne : i ≠ j) (hi : i < Hs.nb) : Ext (Hs.set2 i b' j c) (H.setB i b') := by
  have := h.under (b := b') (i := i) (by rw [set2_nb]; exact hi)
  rwa [set2_set1 hne] at this
theorem Ext.setj' (h : Ext (Hs.set2 i b j c) H) (hj : j < Hs.nb) : Ext (Hs.set2 i b j c') (H.setB j c') := by
  have := h.under (b := c') (i := j) (by rw [set2_nb]; exact hj)
  rwa [set2_set2] at this
theorem lt_nb (h : H.blks[i]? = some b) : i < H.nb := (List.getElem?_eq_some_iff.1 h).1
end
def DVs (b : HB) : Prop := ∀ v ∈ b.cs, ∃ x, v = .d x
theorem ACalls.tidy2 {P : Program} {f : FuncId} {args : List AV} {H : HS} {i j : Nat} {b c : HB} {x : DV} (hi : i < H.nb) (hj : j < H.nb) (hb : ∀ v ∈ b.cs, Fits H.blks.length H.toks.length v) (hc : ∀ v ∈ c.cs, Fits H.blks.length H.toks.length v)
    (h : ACalls P f args H fun av H' => Weak av (.d x) ∧ Ext (H.set2 i b j c) H') : ACalls P f args H (Ret (.d x) (H.set2 i b j c)) := by
  refine ACalls.tidyB ((h.weak fun v H' ⟨h1, h2⟩ => ⟨_, h1, rfl, h2⟩ : ACalls P f args H fun av H' => av = .d x ∧ Ext (H.set2 i b j c) H').mono fun av H' ⟨h1, h2⟩ => ?_)
  subst h1
  refine ⟨H.set2 i b j c, .d x, by simp [HS.set2, HS.setB], rfl, fun k bk hk m hm => ?_, h2, rfl, rfl⟩
  by_cases h1 : k = j
  · subst h1
    have e : (H.set2 i b k c).blks[k]? = some c := by
      unfold HS.set2
      obtain ⟨y, hy⟩ : ∃ y, (H.setB i b).blks[k]? = some y := ⟨_, List.getElem?_eq_getElem (by have := setB_nb (H := H) (id := i) (b := b); simp only [HS.nb] at this hj ⊢; omega)⟩
      exact setB_at hy
    rw [e] at hk
    cases hk
    exact .inr (hc _ (List.getElem_mem hm))
  · by_cases h2 : k = i
    · subst h2
      have e : (H.set2 k b j c).blks[k]? = some b := by
        unfold HS.set2
        rw [setB_ne h1]
        obtain ⟨y, hy⟩ : ∃ y, H.blks[k]? = some y := ⟨_, List.getElem?_eq_getElem hi⟩
        exact setB_at hy
      rw [e] at hk
      cases hk
      exact .inr (hb _ (List.getElem_mem hm))
    · rw [set2_ne h2 h1] at hk
      exact .inl hk
end Go.AV
/-
  The AV logic, part 19: a call that appends to a list of bytes, makes blocks for itself, and forgets them.
-/
namespace Go.AV
theorem Fits.mono {nb nt nb' nt' : Nat} {v : AV} (h : Fits nb nt v) (hb : nb ≤ nb') (ht : nt ≤ nt') : Fits nb' nt' v := by
  induction h with
  | un => exact .un
  | nv => exact .nv
  | d x => exact .d x
  | own0 sz xs => exact .own0 sz xs
  | own i sz xs h => exact .own i sz xs (Nat.lt_of_lt_of_le h ht)
  | elt cs => exact .elt cs
  | ptr id off h => exact .ptr id off (Nat.lt_of_lt_of_le h hb)
  | arr id n cap h => exact .arr id n cap (Nat.lt_of_lt_of_le h hb)
  | sub id off n cap h => exact .sub id off n cap (Nat.lt_of_lt_of_le h hb)
  | agg cs _ ih => exact .agg cs ih
  | tup cs _ ih => exact .tup cs ih
  | fn f fs cs _ _ ih ih' => exact .fn f fs cs ih ih'
theorem ACalls.tidyC {P : Program} {f : FuncId} {args : List AV} {H : HS} {R : AV → HS → Prop}
    (h : ACalls P f args H fun av H' => ∃ Hf : HS, Fits H.blks.length Hf.toks.length av ∧ Hf.blks.length = H.blks.length ∧ H.toks.length ≤ Hf.toks.length ∧ (∀ (i : Nat) (b : HB), Hf.blks[i]? = some b → ∀ (j : Nat) (hj : j < b.cs.length), H.blks[i]? = some b ∨ Fits H.blks.length Hf.toks.length b.cs[j]) ∧ Ext Hf H' ∧ R av Hf) :
    ACalls P f args H R := by
  intro B w0 c w vs hI hs ha
  refine (h B w0 c w vs hI hs ha).mono ?_
  rintro e w' ⟨v, av, H', c', rfl, h1, h2, h3, Hf, h4, hl1, hl2, hfit, ⟨⟨l1, h5⟩, ⟨l2, h6⟩⟩, h7⟩
  have hcut : H'.cut H.blks.length Hf.toks.length = Hf := by
    rw [← hl1]
    cases Hf
    simp only [HS.cut, h5, h6, List.take_left]
  have i1 := h3.cut H.blks.length Hf.toks.length (fun i b hi hb j hj => by
    have hb' : Hf.blks[i]? = some b := by rw [h5, List.getElem?_append_left (by omega)] at hb; exact hb
    rcases hfit i b hb' j hj with hb2 | hf
    · have hlt : i < c.blk.length := by rw [hI.blkLen]; exact hi
      obtain ⟨_, _, cur, fr, _, _, _, q⟩ := hI.blk i _ b (List.getElem?_eq_getElem hlt) hb2
      have := (q j hj).fits
      rw [hI.blkLen, hI.tokLen] at this
      exact this.mono (Nat.le_refl _) hl2
    · exact hf)
  rw [hcut] at i1
  refine ⟨v, av, Hf, c'.cut H.blks.length Hf.toks.length, rfl, ⟨h1.mem, fun i g hi => ?_, fun i e he => ?_⟩, h2.cut h4, i1, h7⟩
  · have : i < c.blk.length := (List.getElem?_eq_some_iff.1 hi).1
    show (c'.blk.take _)[i]? = _
    rw [List.getElem?_take, if_pos (by have := hI.blkLen; omega)]
    exact h1.blk i g hi
  · have : i < c.tok.length := (List.getElem?_eq_some_iff.1 he).1
    obtain ⟨e', q1, q2⟩ := h1.tok i e he
    refine ⟨e', ?_, q2⟩
    show (c'.tok.take _)[i]? = _
    rw [List.getElem?_take, if_pos (by have := hI.tokLen; omega)]
    exact q1
theorem Ext.upT {A H : HS} {i n : Nat} (h : Ext A H) (hi : i < A.toks.length) : Ext (A.up (some i) n) (H.up (some i) n) := by
  obtain ⟨⟨l1, h1⟩, ⟨l2, h2⟩⟩ := h
  exact ⟨⟨l1, h1⟩, ⟨l2, by simp only [HS.up, h2]; exact List.set_append_left _ _ hi⟩⟩
/-- What has been written so far, beside blocks of the call's own. -/
structure Wr (Hs : HS) (t : Option Nat) (H : HS) (l : List UInt8) : Prop where
  ext : Ext (upB Hs t l) H
  ok : H.ok (some (Hs.tk t)) l.length
  lt : ∀ m : List UInt8, Hs.tk t < (upB Hs t m).toks.length
section
variable {Hs H : HS} {t : Option Nat} {l m : List UInt8}
theorem Wr.start {n : Nat} (h : Hs.ok t n) (l : List UInt8) : Wr Hs t (upB Hs t l) l := ⟨Ext.refl _, okB _ _ _ h, fun m => by
  cases t with
  | none => simp [upB, HS.up, HS.tk]
  | some i =>
    have := (List.getElem?_eq_some_iff.1 (h i rfl)).1
    simpa [upB, HS.up, HS.tk] using this⟩
theorem Wr.push {e : TypeId} {cs : List AV} (h : Wr Hs t H l) : Wr Hs t (H.push e cs) l := ⟨h.ext.push _ _, h.ok, h.lt⟩
theorem Wr.nb (h : Wr Hs t H l) : Hs.nb ≤ H.nb := by
  have := nb_le h.ext
  simpa [HS.nb, upB, HS.up_blks] using this
theorem Wr.setB {i : Nat} {b : HB} (h : Wr Hs t H l) (hi : Hs.nb ≤ i) : Wr Hs t (H.setB i b) l := ⟨h.ext.setB (by simpa [HS.nb, upB, HS.up_blks] using hi), h.ok, h.lt⟩
theorem Wr.step (h : Wr Hs t H l) (m : List UInt8) : Wr Hs t (upB H (some (Hs.tk t)) m) m := by
  refine ⟨?_, okB H (some (Hs.tk t)) m h.ok, h.lt⟩
  have := h.ext.upT (n := m.length) (h.lt l)
  rwa [show (upB Hs t l).up (some (Hs.tk t)) m.length = upB Hs t m from HS.up_up Hs t _ _] at this
theorem ACalls.tidyW {P : Program} {f : FuncId} {args : List AV} (h : ACalls P f args Hs fun av H' => av = ownB Hs t l ∧ Wr Hs t H' l) : ACalls P f args Hs (Ret (ownB Hs t l) (upB Hs t l)) := by
  refine ACalls.tidyC (h.mono fun av H' ⟨h1, h2⟩ => ?_)
  subst h1
  refine ⟨upB Hs t l, .own _ _ _ (h2.lt l), by simp [upB, HS.up_blks], ?_, fun i b hi j hj => .inl (by simpa [upB, HS.up_blks] using hi), h2.ext, rfl, rfl⟩
  cases t <;> simp [upB, HS.up]
end
end Go.AV
/-
  The AV logic, part 20: two texts compared by the runtime.
-/
namespace Go.AV
open Go.RowKit
theorem op_cmpstring {P : Program} {E : Operand → AV} {H : HS} {dst : Option Tmp} {ty : TypeId} {pos : String} {after : Array Edge} {gd : Option (Nat × Bool)} {x y : Operand} {f : FuncId} {fn : Func} {ts : Array TypeId} {a b : List UInt8}
    (hfn : P.funcs[f]? = some fn) (hname : (fn.name == "runtime.NumGoroutine") = false) (hb : fn.body.isNone = true) (hn : Extern.findNext fn = none) (he : Extern.find fn = some Extern.BytealgCompare.compare) (hx : E x = .d (S a)) (hy : E y = .d (S b)) :
    OpR P ⟨dst, .call ⟨.value (.func f), #[x, y], ts⟩, ty, pos, after, gd⟩ E H (Ret (.d (I (Lib.compareBytes a b))) H) :=
  opR_pure fun c w ac hm hops => by
    have h1 := hops x (by simp [Op.operands, Call.operands])
    rw [hx] at h1
    have h2 := hops y (by simp [Op.operands, Call.operands])
    rw [hy] at h2
    have e1 := h1.v_eq
    have e2 := h2.v_eq
    refine ⟨.int .i64 (Lib.compareBytes a b), ?_, .d (.v _ rfl)⟩
    have hr := run_callFunc_extern (w := w) hfn hname hb hn he #[ac.eval x, ac.eval y]
    rw [e1, e2, Lib.run_compareString] at hr
    have ef : ac.eval (.func f) = .func (.func f) #[] #[] := rfl
    simp [execOp, resolve, Deferred.ofValue, invoke, ef, e1, e2, hr]
end Go.AV
/-
  The AV logic, part 21: lists in exact blocks, from a place on; copies between them.
-/
namespace Go.AV
open Go.RowKit
section
variable {P : Program} {E : Operand → AV} {H : HS} {dst : Option Tmp} {ty : TypeId} {pos : String} {after : Array Edge} {gd : Option (Nat × Bool)}
theorem arr_val {c : Ctx} {x : Value} {id n cap : Nat} (h : Rep c x (.arr id n cap)) : ∃ g, c.blk[id]? = some g ∧ x = .slice (some ⟨g, 0, none⟩) n cap := by
  generalize ha : AV.arr id n cap = v at h
  cases h with
  | arr _ _ _ g hg => cases ha; exact ⟨g, hg, rfl⟩
  | _ => cases ha
theorem sub_val {c : Ctx} {x : Value} {id off n cap : Nat} (h : Rep c x (.sub id off n cap)) : ∃ g, c.blk[id]? = some g ∧ x = .slice (some ⟨g, off, none⟩) n cap := by
  generalize ha : AV.sub id off n cap = v at h
  cases h with
  | sub _ _ _ _ g hg => cases ha; exact ⟨g, hg, rfl⟩
  | _ => cases ha
/-- A place in a list of its own. -/
theorem op_indexArr {x y : Operand} {t e : TypeId} {sz id n cap off : Nat} {k : IntKind} {i : Int} (ht : P.underlying t = some (.slice e)) (hn : (P.info? e).map (·.size) = some sz) (hx : E x = .arr id n cap) (hy : E y = .d (.v (.int k i))) (h0 : 0 ≤ i) (hi : i < n) (ho : i.toNat * sz = off) :
    OpR P ⟨dst, .indexAddr t x y, ty, pos, after, gd⟩ E H (Ret (.ptr id off) H) :=
  opR_pure fun c w a hm hops => by
    have h1 := hops x (by simp [Op.operands])
    rw [hx] at h1
    have h2 := hops y (by simp [Op.operands])
    rw [hy] at h2
    obtain ⟨g, hg, e1⟩ := arr_val h1
    subst ho
    refine ⟨.pointer (some ⟨g, i.toNat * sz, none⟩), ?_, .ptr id _ g hg⟩
    simp [execOp, e1, h2.v_eq, Instr.indexAt, asIntOf, run_underlying ht, h0, hi, run_sizeOf hn, addr_add]
/-- From the front, up to a place that there is. -/
theorem op_sliceArr0 {x z : Operand} {t e : TypeId} {sz id n cap : Nat} {k' : IntKind} {j : Int} {m : Nat} (ht : P.underlying t = some (.slice e)) (hn : (P.info? e).map (·.size) = some sz) (hx : E x = .arr id n cap) (hz : E z = .d (.v (.int k' j))) (h1 : 0 ≤ j) (h2 : j ≤ cap) (hm : j.toNat = m) :
    OpR P ⟨dst, .slice t x none (some z) none, ty, pos, after, gd⟩ E H (Ret (.arr id m cap) H) :=
  opR_pure fun c w a _ hops => by
    have q1 := hops x (by simp [Op.operands])
    rw [hx] at q1
    have q3 := hops z (by simp [Op.operands])
    rw [hz] at q3
    obtain ⟨g, hg, e1⟩ := arr_val q1
    subst hm
    refine ⟨.slice (some ⟨g, 0, none⟩) j.toNat cap, ?_, .arr id _ cap g hg⟩
    have b1 := bound_ok (P := P) (k := k') (y := cap) (code := .sliceAcap) w h1 (by omega)
    have ea : ((⟨g, 0, none⟩ : Addr).add 0) = ⟨g, 0, none⟩ := by simp [addr_add]
    simp [execOp, e1, q3.v_eq, Instr.sliceAt, Instr.slice, Instr.sliceBounds, run_underlying ht, b1, run_sizeOf hn, ea]
/-- From a place on. -/
theorem op_sliceArr1 {x y : Operand} {t e : TypeId} {sz id n cap : Nat} {k : IntKind} {i : Int} {m off n' cap' : Nat} (ht : P.underlying t = some (.slice e)) (hn : (P.info? e).map (·.size) = some sz) (hx : E x = .arr id n cap) (hy : E y = .d (.v (.int k i))) (h0 : 0 ≤ i) (h2 : i ≤ n) (h3 : i < cap) (hm : i.toNat = m) (ho : m * sz = off) (hn' : n - m = n') (hc' : cap - m = cap') :
    OpR P ⟨dst, .slice t x (some y) none none, ty, pos, after, gd⟩ E H (Ret (.sub id off n' cap') H) :=
  opR_pure fun c w a _ hops => by
    have q1 := hops x (by simp [Op.operands])
    rw [hx] at q1
    have q2 := hops y (by simp [Op.operands])
    rw [hy] at q2
    obtain ⟨g, hg, e1⟩ := arr_val q1
    subst hm ho hn' hc'
    refine ⟨.slice (some ⟨g, i.toNat * sz, none⟩) (n - i.toNat) (cap - i.toNat), ?_, .sub id _ _ _ g hg⟩
    have b2 := bound_ok (P := P) (k := k) (y := n) (code := .sliceB) w h0 (by omega)
    have ea : ((⟨g, 0, none⟩ : Addr).add (i.toNat * sz)) = ⟨g, i.toNat * sz, none⟩ := by simp [addr_add]
    simp [execOp, e1, q2.v_eq, Instr.sliceAt, Instr.slice, Instr.sliceBounds, run_underlying ht, b2, run_sizeOf hn, ea, show ¬ cap = i.toNat by omega]
/-- A bound that is asked of a list. -/
theorem op_sliceUn {x y : Operand} {t e : TypeId} {sz n : Nat} {us : List AV} {k : IntKind} {i : Int} (ht : P.underlying t = some (.slice e)) (hn : (P.info? e).map (·.size) = some sz) (hx : Arr H e sz (E x) n us) (hy : E y = .d (.v (.int k i))) (h0 : 0 ≤ i) (h2 : i ≤ n) :
    OpR P ⟨dst, .slice t x (some y) none none, ty, pos, after, gd⟩ E H (Ret .un H) :=
  opR_pure fun c w a _ hops => by
    have q1 := hops x (by simp [Op.operands])
    have q2 := hops y (by simp [Op.operands])
    rw [hy] at q2
    have b2 := bound_ok (P := P) (k := k) (y := n) (code := .sliceB) w h0 (by omega)
    cases hE : E x with
    | d dv =>
      rw [hE] at hx q1
      cases hx with
      | nil => exact ⟨.slice none 0 0, by simp [execOp, q1.v_eq, q2.v_eq, Instr.sliceAt, Instr.slice, Instr.sliceBounds, run_underlying ht, b2, run_sizeOf hn], .un _⟩
    | arr id n1 cap =>
      rw [hE] at hx q1
      cases hx with
      | arr =>
        obtain ⟨g, hg, e1⟩ := arr_val q1
        by_cases hc : cap = i.toNat
        · exact ⟨.slice (some ⟨g, 0, none⟩) (n - i.toNat) (cap - i.toNat), by simp [execOp, e1, q2.v_eq, Instr.sliceAt, Instr.slice, Instr.sliceBounds, run_underlying ht, b2, run_sizeOf hn, hc], .un _⟩
        · exact ⟨.slice (some ((⟨g, 0, none⟩ : Addr).add (i.toNat * sz))) (n - i.toNat) (cap - i.toNat), by simp [execOp, e1, q2.v_eq, Instr.sliceAt, Instr.slice, Instr.sliceBounds, run_underlying ht, b2, run_sizeOf hn, hc], .un _⟩
    | _ => rw [hE] at hx; cases hx
theorem op_capArr {x : Operand} {t e : TypeId} {id n cap : Nat} (ht : P.underlying t = some (.slice e)) (hx : E x = .arr id n cap) : OpR P ⟨dst, .call ⟨.builtin .cap, #[x], #[t]⟩, ty, pos, after, gd⟩ E H (Ret (.d (I cap)) H) :=
  opR_pure fun c w a hm hops => by
    have h1 := hops x (by simp [Op.operands, Call.operands])
    rw [hx] at h1
    obtain ⟨g, hg, e1⟩ := arr_val h1
    exact ⟨.int .i64 cap, by simp [execOp, resolve, invoke, builtin, e1, Builtin.cap_, run_underlying ht, goInt], .d (.v _ rfl)⟩
/-- What is copied from: some elements of an exact block, from a place on. -/
inductive From : AV → Nat → Nat → Nat → Prop
  | arr (id n cap : Nat) : From (.arr id n cap) id 0 n
  | sub (id off n cap : Nat) : From (.sub id off n cap) id off n
theorem From.val {c : Ctx} {x : Value} {v : AV} {id off n : Nat} (h : From v id off n) (hr : Rep c x v) : ∃ g cap, c.blk[id]? = some g ∧ x = .slice (some ⟨g, off, none⟩) n cap := by
  cases h with
  | arr => obtain ⟨g, h1, h2⟩ := arr_val hr; exact ⟨g, _, h1, h2⟩
  | sub => obtain ⟨g, h1, h2⟩ := sub_val hr; exact ⟨g, _, h1, h2⟩
theorem op_copyB {x y : Operand} {t t' e e' : TypeId} {sz id off n cap jd of2 k m : Nat} {b b2 : HB} {vs : List AV} (ht : P.underlying t = some (.slice e)) (_ : P.underlying t' = some (.slice e')) (hs : (P.info? e).map (·.size) = some sz) (hx : E x = .sub id off n cap) (hy : From (E y) jd of2 k) (hm : min k n = m)
    (hb : H.blks[id]? = some b) (hb2 : H.blks[jd]? = some b2) (hv : (b2.cs.drop of2).take (m * sz) = vs) (hl : vs.length = m * sz) (hfit : off + m * sz ≤ b.cs.length) (hone : ∀ v ∈ vs, v.one = true) (hfz : b.frz = false) :
    OpR P ⟨dst, .call ⟨.builtin .copy, #[x, y], #[t, t']⟩, ty, pos, after, gd⟩ E H (Ret (.d (I m)) (H.put id off vs)) :=
  opR_value fun B w0 c w a hI hops => by
    have q1 := hops x (by simp [Op.operands, Call.operands])
    have q2 := hops y (by simp [Op.operands, Call.operands])
    rw [hx] at q1
    obtain ⟨g, hg, e1⟩ := sub_val q1
    obtain ⟨g2, cap2, hg2, e2⟩ := hy.val q2
    obtain ⟨p1, p2, cur, fr, p3, p4, p5, p6⟩ := hI.blk id g b hg hb
    obtain ⟨r1, r2, cur2, fr2, r3, r4, r5, r6⟩ := hI.blk jd g2 b2 hg2 hb2
    have hvl : of2 + m * sz ≤ b2.cs.length ∨ m * sz = 0 := by
      have := congrArg List.length hv
      rw [List.length_take, List.length_drop, hl] at this
      omega
    have r4' : cur2.size = b2.cs.length := r4
    have hul : ((cur2.toList.drop of2).take (m * sz)).length = m * sz := by
      rw [List.length_take, List.length_drop, Array.length_toList]
      omega
    have hrep : ∀ j (hj : j < ((cur2.toList.drop of2).take (m * sz)).length) (hj' : j < vs.length), Rep c ((cur2.toList.drop of2).take (m * sz))[j] vs[j] := by
      intro j hj hj'
      have hjm : j < m * sz := by omega
      have h3 : of2 + j < b2.cs.length := by omega
      have h4 := r6 (of2 + j) h3
      have h5 : vs[j] = b2.cs[of2 + j]'h3 := by simp [← hv]
      have h6 : ((cur2.toList.drop of2).take (m * sz))[j] = cur2.getD (of2 + j) undef := by
        have : of2 + j < cur2.size := by omega
        simp [this]
      rw [h5, h6]; exact h4
    have hfc := firstCells_of (P := P) (w := w) (g := g2) (o := of2) (m := k) (c := cap2) (n := m) (sz := sz) hul (fun j u hu => by
      rw [List.getElem?_take] at hu
      split at hu
      · rw [List.getElem?_drop] at hu
        simp only [World.cell?, r3]
        simpa using hu
      · cases hu) w rfl
    have i1 := hI.putBlk id g off b hg hb ((cur2.toList.drop of2).take (m * sz)) vs (by rw [hul, hl]) hrep (by rw [hl]; exact hfit) cur _ fr p3
    have hst := run_storeCells_fr P g off b.elem fr ((cur2.toList.drop of2).take (m * sz)) 0 cur w p3 (fun o _ => p5 hfz o) (by rw [hul]; have p4' : cur.size = b.cs.length := p4; omega) (fun v hvm => by
      obtain ⟨j, hj, rfl⟩ := List.getElem_of_mem hvm
      have hj' : j < vs.length := by omega
      exact (hrep j hj hj').one (hone _ (List.getElem_mem hj')))
    simp only [Nat.add_zero] at hst
    refine ⟨.int .i64 m, _, c, .d (I m), H.put id off vs, ?_, Le.refl c, .d (.v _ rfl), i1, rfl, rfl⟩
    have hmin : Nat.min k n = m := hm
    simp [execOp, resolve, invoke, builtin, e1, e2, Builtin.copy_, run_underlying ht, Builtin.lenOf, hmin, run_sizeOf hs, hfc, hst, goInt]
end
end Go.AV
/-
  The AV logic, part 22: a list that an exact block holds becomes data.
-/
namespace Go.AV
open Go.RowKit
theorem Inv.protect {B : Nat} {w0 w : World} {c : Ctx} {H : HS} (h : Inv B w0 c H w) (id g : Nat) (b : HB) (hg : c.blk[id]? = some g) (hb : H.blks[id]? = some b) (nb nt : Nat) (hid : nb ≤ id)
    (hf : ∀ i b, i < nb → H.blks[i]? = some b → ∀ j (hj : j < b.cs.length), Fits nb nt b.cs[j]) (ds : List DV) (hd : b.cs.take ds.length = ds.map .d) (hlen : ds.length ≤ b.cs.length) :
    ∃ us : Nat → Value, Inv B w0 ((c.cut nb nt).prot g ds.length us) (H.cut nb nt) w ∧ MemLe c.mem ((c.cut nb nt).prot g ds.length us).mem ∧ (∀ i, i < ds.length → ((c.cut nb nt).prot g ds.length us).mem g i = some (us i)) ∧ ∀ i (hi : i < ds.length), RepD c.mem (us i) ds[i] := by
  obtain ⟨p1, p2, cur, fr, p3, p4, p5, p6⟩ := h.blk id g b hg hb
  have p4' : cur.size = b.cs.length := p4
  have i1 := h.cut nb nt hf
  refine ⟨fun o => cur.getD o undef, ⟨i1.base, i1.below, fun g' o u hm => ?_, i1.blkLen, fun i g' b' hg' hb' => ?_, i1.blkInj, i1.tokLen, fun i e he => ?_, i1.tokInj⟩, fun b' o u hm => ?_, fun i hi => ?_, fun i hi => ?_⟩
  · simp only [Ctx.prot] at hm
    split at hm
    · rename_i hh
      obtain ⟨rfl, ho⟩ := hh
      have : o < cur.size := by omega
      simp only [World.cell?, p3]
      simp at hm
      simp [this] at hm ⊢
      exact hm
    · exact i1.mem g' o u hm
  · have hlt : i < nb := by
      have hg2 : (c.blk.take nb)[i]? = some g' := hg'
      have := (List.getElem?_eq_some_iff.1 hg2).1
      rw [List.length_take] at this
      omega
    have hgi : c.blk[i]? = some g' := by
      have : (c.blk.take nb)[i]? = some g' := hg'
      rwa [List.getElem?_take, if_pos hlt] at this
    have hne : g' ≠ g := fun e => by
      subst e
      have := h.blkInj i id g' hgi hg
      omega
    obtain ⟨h1, h2, cur', fr', h3, h4, h5, h6⟩ := i1.blk i g' b' hg' hb'
    have hle : Le (c.cut nb nt) ((c.cut nb nt).prot g ds.length (fun o => cur.getD o undef)) := Ctx.prot_le fun o _ => .inl (p2 o)
    refine ⟨h1, fun o => ?_, cur', fr', h3, h4, h5, fun j hj => (h6 j hj).mono hle⟩
    simp only [Ctx.prot]
    rw [if_neg (fun hh => hne hh.1)]
    exact h2 o
  · have hei : c.tok[i]? = some e := by
      have : (c.tok.take nt)[i]? = some e := he
      have hlt := (List.getElem?_eq_some_iff.1 this).1
      rwa [List.getElem?_take, if_pos (by simp at hlt; omega)] at this
    obtain ⟨h1, h2, h3, h4, h5, h6⟩ := i1.tok i e he
    have hne : e.g ≠ g := fun hh => (h.tok i e hei).2.2.2.2.1 id (hh ▸ hg)
    refine ⟨h1, h2, h3, fun o ho => ?_, h5, h6⟩
    simp only [Ctx.prot]
    rw [if_neg (fun hh => hne hh.1)]
    exact h4 o ho
  · simp only [Ctx.prot]
    by_cases hh : b' = g ∧ o < ds.length
    · obtain ⟨rfl, _⟩ := hh
      rw [p2 o] at hm; cases hm
    · rw [if_neg hh]; exact hm
  · show (if g = g ∧ i < ds.length then some (cur.getD i undef) else _) = _
    rw [if_pos ⟨rfl, hi⟩]
  · have h3 : i < b.cs.length := by omega
    have h4 := p6 i h3
    have h5 : (.d ds[i] : AV) = b.cs[i]'h3 := by
      have : (ds.map AV.d)[i]? = (b.cs.take ds.length)[i]? := by rw [hd]
      rw [List.getElem?_map, List.getElem?_eq_getElem hi, List.getElem?_take, if_pos hi, List.getElem?_eq_getElem h3] at this
      exact Option.some.inj this
    rw [← h5] at h4
    exact h4.d_inv
/-- What a cell becomes when a list is protected. -/
inductive Becomes (id n cap sz : Nat) (xs : List DV) : List AV → List DV → Prop
  | nil : Becomes id n cap sz xs [] []
  | d {x : AV} {l : List AV} {m : List DV} (y : DV) (hw : Weak x (.d y)) (h : Becomes id n cap sz xs l m) : Becomes id n cap sz xs (x :: l) (y :: m)
  | arr {l : List AV} {m : List DV} (h : Becomes id n cap sz xs l m) : Becomes id n cap sz xs (.arr id n cap :: l) (.lst sz xs :: m)
theorem Becomes.len {id n cap sz : Nat} {xs : List DV} {l : List AV} {m : List DV} (h : Becomes id n cap sz xs l m) : l.length = m.length := by
  induction h with
  | nil => rfl
  | d _ _ _ ih => simp [ih]
  | arr _ ih => simp [ih]
theorem Becomes.get {id n cap sz : Nat} {xs : List DV} {l : List AV} {m : List DV} (h : Becomes id n cap sz xs l m) {c : Ctx} {mem : Mem} (hm : MemLe c.mem mem) (ha : ∀ y, Rep c y (.arr id n cap) → RepD mem y (.lst sz xs)) :
    ∀ (vs : Nat → Value), (∀ i (hi : i < l.length), Rep c (vs i) l[i]) → ∀ i (hi : i < m.length), RepD mem (vs i) m[i] := by
  induction h with
  | nil => intro vs _ i hi; simp at hi
  | d y hw _ ih =>
    intro vs hv i hi
    cases i with
    | zero => exact (hw c _ (hv 0 (by simp))).d_inv.mono hm
    | succ i => exact ih (fun j => vs (j + 1)) (fun j hj => by have := hv (j + 1) (by simpa using hj); simpa using this) i (by simpa using hi)
  | arr _ ih =>
    intro vs hv i hi
    cases i with
    | zero => exact ha _ (hv 0 (by simp))
    | succ i => exact ih (fun j => vs (j + 1)) (fun j hj => by have := hv (j + 1) (by simpa using hj); simpa using this) i (by simpa using hi)
/-- A result that holds a list of its own: the list becomes data, and the call's blocks are forgotten. -/
theorem ACalls.tidyP {P : Program} {f : FuncId} {args : List AV} {H : HS} {m : List DV} (h1 : ∀ d ∈ m, d.one = true)
    (h : ACalls P f args H fun av H' => Ext H H' ∧ ∃ l, av = .agg l ∧ (Weaks l (m.map .d) ∨ ∃ id n cap sz xs b, H.nb ≤ id ∧ H'.blks[id]? = some b ∧ b.cs.take (flat xs).length = (flat xs).map .d ∧ (flat xs).length ≤ b.cs.length ∧ xs.length = n ∧ n ≤ cap ∧ (∀ x ∈ xs, x.cells.length = sz) ∧ (∀ d ∈ flat xs, d.one = true) ∧ Becomes id n cap sz xs l m)) :
    ACalls P f args H (Ret (.d (.agg m)) H) := by
  intro B w0 c w vs hI hs ha
  refine (h B w0 c w vs hI hs ha).mono ?_
  rintro e w' ⟨v, av, H', c', rfl, q1, q2, q3, ⟨⟨l1, h5⟩, ⟨l2, h6⟩⟩, l, rfl, hl⟩
  have hcut : H'.cut H.blks.length H.toks.length = H := by
    cases H
    simp only [HS.cut, h5, h6, List.take_left]
  have hfit : ∀ i b, i < H.blks.length → H'.blks[i]? = some b → ∀ j (hj : j < b.cs.length), Fits H.blks.length H.toks.length b.cs[j] := fun i b hi hb j hj => by
    have hb' : H.blks[i]? = some b := by rw [h5, List.getElem?_append_left (by omega)] at hb; exact hb
    have hlt : i < c.blk.length := by rw [hI.blkLen]; exact hi
    obtain ⟨_, _, cur, fr, _, _, _, q⟩ := hI.blk i _ b (List.getElem?_eq_getElem hlt) hb'
    have := (q j hj).fits
    rwa [hI.blkLen, hI.tokLen] at this
  have hblk : ∀ (i g : Nat), c.blk[i]? = some g → (c'.blk.take H.blks.length)[i]? = some g := fun i g hi => by
    have : i < c.blk.length := (List.getElem?_eq_some_iff.1 hi).1
    rw [List.getElem?_take, if_pos (by have := hI.blkLen; omega)]
    exact q1.blk i g hi
  have htok : ∀ (i : Nat) (e : Tok), c.tok[i]? = some e → ∃ e' : Tok, (c'.tok.take H.toks.length)[i]? = some e' ∧ (e' = e ∨ e.mark < e'.mark) := fun i e he => by
    have : i < c.tok.length := (List.getElem?_eq_some_iff.1 he).1
    obtain ⟨e', q1, q2⟩ := q1.tok i e he
    refine ⟨e', ?_, q2⟩
    rw [List.getElem?_take, if_pos (by have := hI.tokLen; omega)]
    exact q1
  have hv : ∃ us : Array Value, v = .agg us ∧ us.size = l.length ∧ ∀ i (hi : i < l.length), Rep c' (us.getD i undef) l[i] := by
    generalize ha : AV.agg l = av at q2
    cases q2 with
    | agg us cs hl hr => cases ha; exact ⟨us, rfl, hl, hr⟩
    | _ => cases ha
  obtain ⟨us, rfl, hul, hur⟩ := hv
  rcases hl with hw | ⟨id, n, cap, sz, xs, b, hid, hb, hd, hlen, hxn, hnc, hsz, hone, hbec⟩
  · have i1 := q3.cut H.blks.length H.toks.length hfit
    rw [hcut] at i1
    refine ⟨.agg us, .d (.agg m), H, c'.cut H.blks.length H.toks.length, rfl, ⟨q1.mem, hblk, htok⟩, .d (.agg us m (by rw [hul, hw.len, List.length_map]) h1 fun i hi => ?_), i1, rfl, rfl⟩
    have := hw.get c' (fun i => us.getD i undef) hur i (by rw [List.length_map]; exact hi)
    rw [List.getElem_map] at this
    exact this.d_inv.mono (fun _ _ _ h => h)
  · have hidl : id < c'.blk.length := by rw [q3.blkLen]; exact (List.getElem?_eq_some_iff.1 hb).1
    obtain ⟨vals, i1, m1, m2, m3⟩ := q3.protect id _ b (List.getElem?_eq_getElem hidl) hb H.blks.length H.toks.length hid hfit (flat xs) hd hlen
    rw [hcut] at i1
    refine ⟨.agg us, .d (.agg m), H, _, rfl, ⟨fun g o u hm => m1 g o u (q1.mem g o u hm), hblk, htok⟩, .d (.agg us m (by rw [hul, hbec.len]) h1 ?_), i1, rfl, rfl⟩
    refine hbec.get (c := c') m1 (fun y hy => ?_) (fun i => us.getD i undef) hur
    obtain ⟨g, hg, rfl⟩ := arr_val hy
    rw [List.getElem?_eq_getElem hidl] at hg
    cases hg
    exact .lst _ 0 n cap sz xs vals hxn hnc hsz hone (fun i hi => by rw [Nat.zero_add]; exact m2 i hi) (fun i hi => (m3 i hi).mono m1)
end Go.AV
/-
  The AV logic, part 23: a new list as an exact block; room that is made; do two lists overlap?
-/
namespace Go.AV
open Go.RowKit
section
variable {P : Program} {E : Operand → AV} {H : HS} {dst : Option Tmp} {ty : TypeId} {pos : String} {after : Array Edge} {gd : Option (Nat × Bool)}
theorem op_litB {t e : TypeId} {len sz : Nat} {parts : Array (Nat × Operand)} {z : Value} {ps : List (Nat × List AV)} (ys : List DV) (ht : P.underlying t = some (.slice e)) (hz : (P.info? e).map (fun i => (i.zero, i.size)) = some (some z, sz))
    (hk : parts.toList.all (fun p => (E p.2).known) = true) (hps : parts.toList.map (fun p => (p.1, (E p.2).cells)) = ps) (hcs : fillA (fun i => some (i * sz, sz)) (List.replicate (len * sz) .un) ps = some ((flat ys).map .d))
    (hsm : len * sz ≤ 16777216) : OpR P ⟨dst, .buildSlice t len parts, ty, pos, after, gd⟩ E H (Ret (.arr H.nb len len) (H.push e ((flat ys).map .d))) :=
  opR_value fun B w0 c w a hI hops => by
    obtain ⟨inf, hi1, hi2⟩ := Option.map_eq_some_iff.1 hz
    simp only [Prod.mk.injEq] at hi2
    obtain ⟨hi2, hi3⟩ := hi2
    obtain ⟨q1, q2⟩ := parts_cells (c := c) (a := a) hk hps (fun x hx => hops x (by simpa [Op.operands] using hx))
    have hzv : ∀ w, (zeroValue e).run P w = .ok z w := fun w => by simp [zeroValue, typeInfo, hi1, hi2]
    have hso : ∀ w, (sizeOf e).run P w = .ok sz w := fun w => by simp [sizeOf, typeInfo, hi1, hi3]
    have run : ∀ (zero : Array Value), ((Array.range (len * sz)).map (zero[· % zero.size]!)).size = len * sz → ∃ vs', Instr.fill (fun i => some (i * sz, sz)) ((Array.range (len * sz)).map (zero[· % zero.size]!)) (parts.map fun p => (p.1, a.eval p.2)).toList = some vs' ∧ Cells c vs' ((flat ys).map .d) := by
      intro zero hs
      have hc := cells_un c ((Array.range (len * sz)).map (zero[· % zero.size]!))
      rw [hs] at hc
      obtain ⟨vs', f1, f2⟩ := fill_rep (c := c) ps (evP a parts.toList) _ _ _ hc q1 q2 hcs
      exact ⟨vs', by rw [Array.toList_map]; exact f1, f2⟩
    have hbs : ∃ vs', (Instr.buildSlice t len (parts.map fun p => (p.1, a.eval p.2))).run P w = .ok (.slice (some ⟨w.heap.size, 0, none⟩) len len) (w.alloc (.cells vs' e)) ∧ Cells c vs' ((flat ys).map .d) := by
      unfold Instr.buildSlice
      rw [Sem.run_bind, run_underlying ht]
      simp only [Result.andThen_ok]
      rw [Sem.run_bind, hso]
      simp only [Result.andThen_ok]
      have hsm' : ¬ (len * sz > 2 ^ 24) := by omega
      rw [if_neg hsm']
      by_cases h0 : len * sz = 0
      · rw [if_pos h0]
        obtain ⟨vs', f1, f2⟩ := run #[] (by simp)
        refine ⟨vs', ?_, f2⟩
        simp only [Sem.run_bind, Sem.run_pure, Result.andThen_ok]
        rw [f1]
        simp [newRow]
      · rw [if_neg h0]
        obtain ⟨vs', f1, f2⟩ := run z.cells (by simp)
        refine ⟨vs', ?_, f2⟩
        simp only [Sem.run_bind, Sem.run_pure, Result.andThen_ok, hzv]
        rw [f1]
        simp [newRow]
    obtain ⟨vs', hr, hc⟩ := hbs
    obtain ⟨i1, l1⟩ := hI.allocBlk vs' e ((flat ys).map .d) hc.size (hc.at_)
    refine ⟨_, _, _, _, _, ?_, l1, .arr H.nb len len w.heap.size ?_, i1, rfl, rfl⟩
    · simp [execOp, hr]
    · show (c.blk ++ [w.heap.size])[H.nb]? = _
      have : c.blk.length = H.nb := hI.blkLen
      rw [List.getElem?_append_right (by omega), this]; simp
theorem op_litArr {T : List AV} {t e : TypeId} {len sz : Nat} {parts : Array (Nat × Operand)} {z : Value} {ys : List DV} (ht : P.underlying t = some (.slice e)) (hz : (P.info? e).map (fun i => (i.zero, i.size)) = some (some z, sz)) (hE : Els (evalT T) 0 parts.toList ys) (hl : ys.length = len)
    (hy : ∀ y ∈ ys, y.cells.length = sz) (hsm : len * sz ≤ 16777216) : OpR P ⟨dst, .buildSlice t len parts, ty, pos, after, gd⟩ (evalT T) H (Ret (.arr H.nb len len) (H.push e ((flat ys).map .d))) := by
  have hf := fill_els ys [] hy (by simp)
  simp only [flat, List.flatMap_nil, List.map_nil, List.nil_append, List.length_nil] at hf
  rw [hl] at hf
  exact op_litB ys ht hz hE.known hE.parts hf hsm
/-- append(s, make([]T, k)...) where there is no room. -/
theorem op_appendZ {x y : Operand} {t tn e : TypeId} {z : Value} {sz bytes id n cap k : Nat} {kn kq : IntKind} {b : HB} (ht : P.underlying t = some (.slice e)) (htn : P.underlying tn = some (.int kn)) (hi : tInfo P e z sz bytes) (hzs : z.cells.size = sz) (hsz : 0 < sz)
    (hx : E x = .arr id n cap) (hy : E y = .d (.v (.int kq k))) (hk : 0 < k) (hcap : cap < n + k) (hb : H.blks[id]? = some b) (hn : n * sz ≤ b.cs.length) (hbig : (n + k) * bytes ≤ 140737488355328) (hlen : n + k ≤ 140737488355328) :
    OpR P ⟨dst, .call ⟨.builtin .append, #[x, y], #[t, tn]⟩, ty, pos, after, gd⟩ E H (fun av H' => ∃ cap', n + k ≤ cap' ∧ av = .arr H.nb (n + k) cap' ∧ H' = H.push e (b.cs.take (n * sz) ++ List.replicate ((cap' - n) * sz) .un)) :=
  opR_value fun B w0 c w a hI hops => by
    have q1 := hops x (by simp [Op.operands, Call.operands])
    have q2 := hops y (by simp [Op.operands, Call.operands])
    rw [hx] at q1
    rw [hy] at q2
    obtain ⟨g, hg, e1⟩ := arr_val q1
    obtain ⟨p1, p2, cur, fr, p3, p4, p5, p6⟩ := hI.blk id g b hg hb
    have p4' : cur.size = b.cs.length := p4
    obtain ⟨i, h2, h3, h4, h5⟩ := hi.get
    subst h4
    subst h5
    have hcl : cur.toList.length = cur.size := Array.length_toList
    have hul : (cur.toList.take (n * i.size)).length = n * i.size := by rw [List.length_take]; omega
    have hold := firstCells_of (P := P) (w := w) (g := g) (o := 0) (m := n) (c := cap) (n := n) (sz := i.size) hul (fun j u hu => by
      rw [List.getElem?_take] at hu
      split at hu
      · simp only [World.cell?, p3]
        simpa using hu
      · cases hu) w.drew rfl
    have hfit := growslice_fits (need := n + k) (old := cap) (bytes := i.bytes) (by omega) hbig
    have hkb : k * i.bytes ≤ (n + k) * i.bytes := Nat.mul_le_mul_right _ (by omega)
    have hrun := Lib.run_append_grow_zeros w t tn ty e i z kq kn ht htn h2 h3 (some ⟨g, 0, none⟩) n cap (cur.toList.take (n * i.size)) hold k hk hsz hcap (by omega) (by omega) hfit
    have hge := grownCap_ge w (n + k) cap e
    generalize grownCap w (n + k) cap e = ncap at hrun hge
    have hsize : ((cur.toList.take (n * i.size)).toArray ++ Builtin.zeroCells z.cells k ++ Builtin.zeroCells z.cells (ncap - (n + k))).size = (b.cs.take (n * i.size) ++ List.replicate ((ncap - n) * i.size) AV.un).length := by
      simp only [Array.size_append, List.size_toArray, size_zeroCells, hzs, hul, List.length_append, List.length_replicate, List.length_take]
      rw [Nat.min_eq_left hn, Nat.add_assoc, ← Nat.add_mul]
      congr 2
      omega
    obtain ⟨i1, l1⟩ := hI.drew.allocBlk ((cur.toList.take (n * i.size)).toArray ++ Builtin.zeroCells z.cells k ++ Builtin.zeroCells z.cells (ncap - (n + k))) e (b.cs.take (n * i.size) ++ List.replicate ((ncap - n) * i.size) AV.un) hsize (fun j hj => by
      by_cases h1 : j < n * i.size
      · have h1' : j < (b.cs.take (n * i.size)).length := by rw [List.length_take]; omega
        rw [List.getElem_append_left h1', List.getElem_take]
        have h6 : ((cur.toList.take (n * i.size)).toArray ++ Builtin.zeroCells z.cells k ++ Builtin.zeroCells z.cells (ncap - (n + k))).getD j undef = cur.getD j undef := by
          have hj2 : j < cur.size := by omega
          rw [Array.getD_eq_getD_getElem?, Array.getElem?_append_left (by simp only [Array.size_append, List.size_toArray, hul]; omega), Array.getElem?_append_left (by simp only [List.size_toArray, hul]; omega), List.getElem?_toArray, List.getElem?_take, if_pos h1]
          simp [hj2]
        rw [h6]
        exact p6 j (by omega)
      · rw [List.getElem_append_right (by rw [List.length_take]; omega), List.getElem_replicate]
        exact .un _)
    refine ⟨_, _, _, _, _, ?_, l1, .arr H.nb (n + k) ncap w.heap.size ?_, i1, ncap, hge, rfl, rfl⟩
    · simp [execOp, resolve, invoke, builtin, e1, q2.v_eq, hrun]
    · show (c.blk ++ [w.heap.size])[H.nb]? = _
      have : c.blk.length = H.nb := hI.blkLen
      rw [List.getElem?_append_right (by omega), this]; simp
/-- Lists in two blocks do not overlap. -/
theorem op_overlaps {x y : Operand} {f : FuncId} {fn : Func} {ts : Array TypeId} {t rt e : TypeId} {sz id n cap jd off k cap2 : Nat} {b b2 : HB} (hfn : P.funcs[f]? = some fn) (hname : (fn.name == "runtime.NumGoroutine") = false) (hbd : fn.body.isNone = true) (hnx : Extern.findNext fn = none)
    (he : Extern.find fn = some (Extern.SlicesOverlaps.overlaps #[t, t] #[rt])) (ht : P.underlying t = some (.slice e)) (hs : (P.info? e).map (·.size) = some sz) (hx : E x = .arr id n cap) (hy : E y = .sub jd off k cap2) (hne : id ≠ jd) (hb : H.blks[id]? = some b) (hb2 : H.blks[jd]? = some b2) (hfz : b.frz = false) (hpos : 0 < b2.cs.length) :
    OpR P ⟨dst, .call ⟨.value (.func f), #[x, y], ts⟩, ty, pos, after, gd⟩ E H (Ret (.d (TF false)) H) :=
  opR_value fun B w0 c w a hI hops => by
    have q1 := hops x (by simp [Op.operands, Call.operands])
    have q2 := hops y (by simp [Op.operands, Call.operands])
    rw [hx] at q1
    rw [hy] at q2
    obtain ⟨g, hg, e1⟩ := arr_val q1
    obtain ⟨g2, hg2, e2⟩ := sub_val q2
    obtain ⟨p1, p2, cur, fr, p3, p4, p5, p6⟩ := hI.blk id g b hg hb
    obtain ⟨r1, r2, cur2, fr2, r3, r4, r5, r6⟩ := hI.blk jd g2 b2 hg2 hb2
    have r4' : cur2.size = b2.cs.length := r4
    have hgg : g ≠ g2 := fun h => hne (hI.blkInj id jd g hg (h ▸ hg2))
    have hfr : ∀ o, w.frozen? ⟨g, o, none⟩ = false := fun o => by
      have := p5 hfz o
      obtain ⟨lo, hi⟩ := fr
      simp only [World.frozen?, p3]
      simpa using this
    have hrun := Lib.run_overlaps_apart (P := P) w t rt e ht sz (fun w => run_sizeOf hs w) ⟨g, 0, none⟩ ⟨g2, off, none⟩ n cap k cap2 hgg b.elem b2.elem cur.size cur2.size (by simp [World.shape?, p3]) (by simp [World.shape?, r3]) (by omega) (hfr 0) (hfr cur.size)
    have hr := run_callFunc_extern (w := w) hfn hname hbd hnx he #[a.eval x, a.eval y]
    rw [e1, e2, hrun] at hr
    have ef : a.eval (.func f) = .func (.func f) #[] #[] := rfl
    exact ⟨.bool false, w, c, .d (TF false), H, by simp [execOp, resolve, Deferred.ofValue, invoke, ef, e1, e2, hr], Le.refl c, .d (.v _ rfl), hI, rfl, rfl⟩
end
end Go.AV
