/-
  The AV logic, part 17: what a call has made for itself is forgotten, and what it has written of the older blocks stays.
-/
import Derived.Test.YtadkehaagkjbhaaA16
namespace Go.AV
open Go.RowKit
theorem ACalls.tidyB {P : Program} {f : FuncId} {args : List AV} {H : HS} {R : AV → HS → Prop}
    (h : ACalls P f args H fun av H' => ∃ Hf : HS, Fits H.blks.length H.toks.length av ∧ Hf.blks.length = H.blks.length ∧ Hf.toks.length = H.toks.length ∧ (∀ (i : Nat) (b : HB), Hf.blks[i]? = some b → ∀ (j : Nat) (hj : j < b.cs.length), H.blks[i]? = some b ∨ Fits H.blks.length H.toks.length b.cs[j]) ∧ Ext Hf H' ∧ R av Hf) :
    ACalls P f args H R := by
  intro B w0 c w vs hI hs ha
  refine (h B w0 c w vs hI hs ha).mono ?_
  rintro e w' ⟨v, av, H', c', rfl, h1, h2, h3, Hf, h4, hl1, hl2, hfit, ⟨⟨l1, h5⟩, ⟨l2, h6⟩⟩, h7⟩
  have hcut : H'.cut H.blks.length H.toks.length = Hf := by
    rw [← hl1, ← hl2]
    cases Hf
    simp only [HS.cut, h5, h6, List.take_left]
  have i1 := h3.cut H.blks.length H.toks.length (fun i b hi hb j hj => by
    have hb' : Hf.blks[i]? = some b := by rw [h5, List.getElem?_append_left (by omega)] at hb; exact hb
    rcases hfit i b hb' j hj with hb2 | hf
    · have hlt : i < c.blk.length := by rw [hI.blkLen]; exact hi
      obtain ⟨_, _, cur, fr, _, _, _, q⟩ := hI.blk i _ b (List.getElem?_eq_getElem hlt) hb2
      have := (q j hj).fits
      rwa [hI.blkLen, hI.tokLen] at this
    · exact hf)
  rw [hcut] at i1
  refine ⟨v, av, Hf, c'.cut H.blks.length H.toks.length, rfl, ⟨h1.mem, fun i g hi => ?_, fun i e he => ?_⟩, h2.cut h4, i1, h7⟩
  · have : i < c.blk.length := (List.getElem?_eq_some_iff.1 hi).1
    show (c'.blk.take _)[i]? = _
    rw [List.getElem?_take, if_pos (by have := hI.blkLen; omega)]
    exact h1.blk i g hi
  · have : i < c.tok.length := (List.getElem?_eq_some_iff.1 he).1
    obtain ⟨e', q1, q2⟩ := h1.tok i e he
    refine ⟨e', ?_, q2⟩
    show (c'.tok.take _)[i]? = _
    rw [List.getElem?_take, if_pos (by have := hI.tokLen; omega)]
    exact q1
end Go.AV
