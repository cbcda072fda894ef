/-
  The AV logic, part 19: a call that appends to a list of bytes, makes blocks for itself, and forgets them.
-/
import Derived.Test.YtadkehaagkjbhaaA18
namespace Go.AV
theorem Fits.mono {nb nt nb' nt' : Nat} {v : AV} (h : Fits nb nt v) (hb : nb ≤ nb') (ht : nt ≤ nt') : Fits nb' nt' v := by
  induction h with
  | un => exact .un
  | nv => exact .nv
  | d x => exact .d x
  | own0 sz xs => exact .own0 sz xs
  | own i sz xs h => exact .own i sz xs (Nat.lt_of_lt_of_le h ht)
  | elt cs => exact .elt cs
  | ptr id off h => exact .ptr id off (Nat.lt_of_lt_of_le h hb)
  | arr id n cap h => exact .arr id n cap (Nat.lt_of_lt_of_le h hb)
  | sub id off n cap h => exact .sub id off n cap (Nat.lt_of_lt_of_le h hb)
  | agg cs _ ih => exact .agg cs ih
  | tup cs _ ih => exact .tup cs ih
  | fn f fs cs _ _ ih ih' => exact .fn f fs cs ih ih'
theorem ACalls.tidyC {P : Program} {f : FuncId} {args : List AV} {H : HS} {R : AV → HS → Prop}
    (h : ACalls P f args H fun av H' => ∃ Hf : HS, Fits H.blks.length Hf.toks.length av ∧ Hf.blks.length = H.blks.length ∧ H.toks.length ≤ Hf.toks.length ∧ (∀ (i : Nat) (b : HB), Hf.blks[i]? = some b → ∀ (j : Nat) (hj : j < b.cs.length), H.blks[i]? = some b ∨ Fits H.blks.length Hf.toks.length b.cs[j]) ∧ Ext Hf H' ∧ R av Hf) :
    ACalls P f args H R := by
  intro B w0 c w vs hI hs ha
  refine (h B w0 c w vs hI hs ha).mono ?_
  rintro e w' ⟨v, av, H', c', rfl, h1, h2, h3, Hf, h4, hl1, hl2, hfit, ⟨⟨l1, h5⟩, ⟨l2, h6⟩⟩, h7⟩
  have hcut : H'.cut H.blks.length Hf.toks.length = Hf := by
    rw [← hl1]
    cases Hf
    simp only [HS.cut, h5, h6, List.take_left]
  have i1 := h3.cut H.blks.length Hf.toks.length (fun i b hi hb j hj => by
    have hb' : Hf.blks[i]? = some b := by rw [h5, List.getElem?_append_left (by omega)] at hb; exact hb
    rcases hfit i b hb' j hj with hb2 | hf
    · have hlt : i < c.blk.length := by rw [hI.blkLen]; exact hi
      obtain ⟨_, _, cur, fr, _, _, _, q⟩ := hI.blk i _ b (List.getElem?_eq_getElem hlt) hb2
      have := (q j hj).fits
      rw [hI.blkLen, hI.tokLen] at this
      exact this.mono (Nat.le_refl _) hl2
    · exact hf)
  rw [hcut] at i1
  refine ⟨v, av, Hf, c'.cut H.blks.length Hf.toks.length, rfl, ⟨h1.mem, fun i g hi => ?_, fun i e he => ?_⟩, h2.cut h4, i1, h7⟩
  · have : i < c.blk.length := (List.getElem?_eq_some_iff.1 hi).1
    show (c'.blk.take _)[i]? = _
    rw [List.getElem?_take, if_pos (by have := hI.blkLen; omega)]
    exact h1.blk i g hi
  · have : i < c.tok.length := (List.getElem?_eq_some_iff.1 he).1
    obtain ⟨e', q1, q2⟩ := h1.tok i e he
    refine ⟨e', ?_, q2⟩
    show (c'.tok.take _)[i]? = _
    rw [List.getElem?_take, if_pos (by have := hI.tokLen; omega)]
    exact q1
theorem Ext.upT {A H : HS} {i n : Nat} (h : Ext A H) (hi : i < A.toks.length) : Ext (A.up (some i) n) (H.up (some i) n) := by
  obtain ⟨⟨l1, h1⟩, ⟨l2, h2⟩⟩ := h
  exact ⟨⟨l1, h1⟩, ⟨l2, by simp only [HS.up, h2]; exact List.set_append_left _ _ hi⟩⟩
/-- What has been written so far, beside blocks of the call's own. -/
structure Wr (Hs : HS) (t : Option Nat) (H : HS) (l : List UInt8) : Prop where
  ext : Ext (upB Hs t l) H
  ok : H.ok (some (Hs.tk t)) l.length
  lt : ∀ m : List UInt8, Hs.tk t < (upB Hs t m).toks.length
section
variable {Hs H : HS} {t : Option Nat} {l m : List UInt8}
theorem Wr.start {n : Nat} (h : Hs.ok t n) (l : List UInt8) : Wr Hs t (upB Hs t l) l := ⟨Ext.refl _, okB _ _ _ h, fun m => by
  cases t with
  | none => simp [upB, HS.up, HS.tk]
  | some i =>
    have := (List.getElem?_eq_some_iff.1 (h i rfl)).1
    simpa [upB, HS.up, HS.tk] using this⟩
theorem Wr.push {e : TypeId} {cs : List AV} (h : Wr Hs t H l) : Wr Hs t (H.push e cs) l := ⟨h.ext.push _ _, h.ok, h.lt⟩
theorem Wr.nb (h : Wr Hs t H l) : Hs.nb ≤ H.nb := by
  have := nb_le h.ext
  simpa [HS.nb, upB, HS.up_blks] using this
theorem Wr.setB {i : Nat} {b : HB} (h : Wr Hs t H l) (hi : Hs.nb ≤ i) : Wr Hs t (H.setB i b) l := ⟨h.ext.setB (by simpa [HS.nb, upB, HS.up_blks] using hi), h.ok, h.lt⟩
theorem Wr.step (h : Wr Hs t H l) (m : List UInt8) : Wr Hs t (upB H (some (Hs.tk t)) m) m := by
  refine ⟨?_, okB H (some (Hs.tk t)) m h.ok, h.lt⟩
  have := h.ext.upT (n := m.length) (h.lt l)
  rwa [show (upB Hs t l).up (some (Hs.tk t)) m.length = upB Hs t m from HS.up_up Hs t _ _] at this
theorem ACalls.tidyW {P : Program} {f : FuncId} {args : List AV} (h : ACalls P f args Hs fun av H' => av = ownB Hs t l ∧ Wr Hs t H' l) : ACalls P f args Hs (Ret (ownB Hs t l) (upB Hs t l)) := by
  refine ACalls.tidyC (h.mono fun av H' ⟨h1, h2⟩ => ?_)
  subst h1
  refine ⟨upB Hs t l, .own _ _ _ (h2.lt l), by simp [upB, HS.up_blks], ?_, fun i b hi j hj => .inl (by simpa [upB, HS.up_blks] using hi), h2.ext, rfl, rfl⟩
  cases t <;> simp [upB, HS.up]
end
end Go.AV
