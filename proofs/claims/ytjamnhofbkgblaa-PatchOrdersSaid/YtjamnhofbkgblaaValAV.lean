/-
  The reader of layer 2 as exact blocks, and the state of what reads a value.
-/
import Derived.Test.YtjamnhofbkgblaaValPlain
import Derived.Test.YtjamnhofbkgblaaA18
namespace Go.AV.Val
open Go.AV.Ord Go.AV.Oct
/-- A reader of values. -/
abbrev VB (t : TypeId) (rid : Nat) (e : Int) : HB := ⟨t, [.ptr rid 0, .d (I e)], false⟩
/-- A value that is being made. -/
abbrev vBlk (t : TypeId) (k : Int) (y : Bool) (n : Int) (s : List UInt8) (l f : AV) : HB := ⟨t, [.d (I k), .d (TF y), .d (.v (.int .i64 n)), .d (S s), l, f], false⟩
abbrev vs6 (k : Int) (y : Bool) (n : Int) (s : List UInt8) (l f : AV) : List AV := [.d (I k), .d (TF y), .d (.v (.int .i64 n)), .d (S s), l, f]
def stH (H : HS) (tR tQ : TypeId) (rid q : Nat) (st : DS) : HS := H.set2 rid (RB tR st.1) q (VB tQ rid st.2)
/-- The blocks of a reader. -/
structure Rd (H : HS) (tR tQ : TypeId) (rid q : Nat) (st : DS) : Prop where
  ne : rid ≠ q
  r : H.blks[rid]? = some (RB tR st.1)
  q : H.blks[q]? = some (VB tQ rid st.2)
section
variable {H Hs : HS} {tR tQ tV : TypeId} {rid q : Nat} {st st' : DS} {b b' : HB}
theorem Rd.self (h : Rd H tR tQ rid q st) : stH H tR tQ rid q st = H := set2_self h.ne h.r h.q
theorem Rd.stH (h : Rd H tR tQ rid q st) (st' : DS) : Rd (Val.stH H tR tQ rid q st') tR tQ rid q st' := ⟨h.ne, set2_at1 h.ne h.r, set2_at2 h.ne h.q⟩
theorem Rd.ext (h : Rd Hs tR tQ rid q st) (hx : Ext (Val.stH Hs tR tQ rid q st') H) : Rd H tR tQ rid q st' := ⟨h.ne, hx.at (h.stH st').r, hx.at (h.stH st').q⟩
theorem Rd.set1 (h : Rd H tR tQ rid q st) (s : RS) : H.setB rid (RB tR s) = Val.stH H tR tQ rid q (s, st.2) := by
  unfold Val.stH HS.set2
  rw [setB_comm h.ne, setB_self h.q]
theorem Rd.set2 (h : Rd H tR tQ rid q st) (e : Int) : H.setB q (VB tQ rid e) = Val.stH H tR tQ rid q (st.1, e) := by
  unfold Val.stH HS.set2
  rw [setB_self h.r]
theorem stH_stH (hne : rid ≠ q) : stH (stH H tR tQ rid q st) tR tQ rid q st' = stH H tR tQ rid q st' := set2_again hne
/-- The state of what reads a value. -/
structure VS (Hs : HS) (tR tQ tV : TypeId) (rid q : Nat) (H : HS) (b : HB) (st : DS) : Prop where
  rd : Rd H tR tQ rid q st
  lr : rid < Hs.nb
  lq : q < Hs.nb
  e0 : ∃ a b c d e f, H.blks[Hs.nb]? = some ⟨tV, [a, b, c, d, e, f], false⟩
  e1 : H.blks[Hs.nb + 1]? = some b
  ext : Ext (stH Hs tR tQ rid q st) H
theorem VS.of {H' : HS} (h : VS Hs tR tQ tV rid q H b st) (rd : Rd H' tR tQ rid q st') (he : ∀ k, Hs.nb ≤ k → k ≠ Hs.nb + 1 → H'.blks[k]? = H.blks[k]?) (e1 : H'.blks[Hs.nb + 1]? = some b') (ext : Ext (stH Hs tR tQ rid q st') H') : VS Hs tR tQ tV rid q H' b' st' := by
  obtain ⟨_, lr, lq, ⟨x0, x1, x2, x3, x4, x5, e0⟩, _, _⟩ := h
  exact ⟨rd, lr, lq, ⟨x0, x1, x2, x3, x4, x5, by rw [he _ (Nat.le_refl _) (by omega)]; exact e0⟩, e1, ext⟩
theorem VS.to (h : VS Hs tR tQ tV rid q H b st) (st' : DS) : VS Hs tR tQ tV rid q (stH H tR tQ rid q st') b st' := by
  have hl := h.lr
  have hq := h.lq
  have hne : ∀ k, Hs.nb ≤ k → (stH H tR tQ rid q st').blks[k]? = H.blks[k]? := fun k hk => set2_ne (by omega) (by omega)
  exact h.of (h.rd.stH st') (fun k hk _ => hne k hk) (by rw [hne _ (by omega)]; exact h.e1) (h.ext.set2' h.rd.ne hl hq)
theorem VS.set1 (h : VS Hs tR tQ tV rid q H b st) (s : RS) : VS Hs tR tQ tV rid q (H.setB rid (RB tR s)) b (s, st.2) := by
  rw [h.rd.set1 s]; exact h.to _
theorem VS.set2 (h : VS Hs tR tQ tV rid q H b st) (e : Int) : VS Hs tR tQ tV rid q (H.setB q (VB tQ rid e)) b (st.1, e) := by
  rw [h.rd.set2 e]; exact h.to _
theorem stH_nb : (stH H tR tQ rid q st).nb = H.nb := set2_nb
theorem VS.lt (h : VS Hs tR tQ tV rid q H b st) : Hs.nb + 1 < H.nb := lt_nb h.e1
/-- What stands behind the blocks of the reader changes. -/
theorem VS.far {i : Nat} {c : HB} (h : VS Hs tR tQ tV rid q H b st) (hi : Hs.nb + 2 ≤ i) : VS Hs tR tQ tV rid q (H.setB i c) b st := by
  have hl := h.lr
  have hq := h.lq
  have hne : ∀ k, k < Hs.nb + 2 → (H.setB i c).blks[k]? = H.blks[k]? := fun k hk => setB_ne (by omega)
  obtain ⟨rd, lr, lq, ⟨x0, x1, x2, x3, x4, x5, e0⟩, e1, ext⟩ := h
  exact ⟨⟨rd.ne, by rw [hne _ (by omega)]; exact rd.r, by rw [hne _ (by omega)]; exact rd.q⟩, lr, lq, ⟨x0, x1, x2, x3, x4, x5, by rw [hne _ (by omega)]; exact e0⟩, by rw [hne _ (by omega)]; exact e1, ext.setB (by rw [stH_nb]; omega)⟩
theorem VS.setv (h : VS Hs tR tQ tV rid q H b st) (b' : HB) : VS Hs tR tQ tV rid q (H.setB (Hs.nb + 1) b') b' st := by
  have hl := h.lr
  have hq := h.lq
  have hne : ∀ k, k ≠ Hs.nb + 1 → (H.setB (Hs.nb + 1) b').blks[k]? = H.blks[k]? := fun k hk => setB_ne hk
  exact h.of ⟨h.rd.ne, by rw [hne _ (by omega)]; exact h.rd.r, by rw [hne _ (by omega)]; exact h.rd.q⟩ (fun k _ hk => hne k hk) (setB_at h.e1) (h.ext.setB (by rw [stH_nb]; omega))
theorem VS.push {e : TypeId} {cs : List AV} (h : VS Hs tR tQ tV rid q H b st) : VS Hs tR tQ tV rid q (H.push e cs) b st := by
  obtain ⟨rd, lr, lq, ⟨x0, x1, x2, x3, x4, x5, e0⟩, e1, ext⟩ := h
  exact ⟨⟨rd.ne, push_ne rd.r, push_ne rd.q⟩, lr, lq, ⟨x0, x1, x2, x3, x4, x5, push_ne e0⟩, push_ne e1, ext.push _ _⟩
theorem VS.up {t : Option Nat} {n m : Nat} (h : VS Hs tR tQ tV rid q H b st) (hn : NewTok Hs t) (hok : H.ok t m) : VS Hs tR tQ tV rid q (H.up t n) b st := by
  obtain ⟨rd, lr, lq, ⟨x0, x1, x2, x3, x4, x5, e0⟩, e1, ext⟩ := h
  exact ⟨⟨rd.ne, by rw [HS.up_blks]; exact rd.r, by rw [HS.up_blks]; exact rd.q⟩, lr, lq, ⟨x0, x1, x2, x3, x4, x5, by rw [HS.up_blks]; exact e0⟩, by rw [HS.up_blks]; exact e1, (ext.upN hn hok).1⟩
theorem VS.start (h : Rd Hs tR tQ rid q st) {z0 z1 : List AV} {x0 x1 x2 x3 x4 x5 : AV} (hz : z0 = [x0, x1, x2, x3, x4, x5]) (st' : DS) (b : HB) : VS Hs tR tQ tV rid q ((((stH (Hs.push tV z0) tR tQ rid q st').push tV z1)).setB (Hs.nb + 1) b) b st' := by
  subst hz
  have h1 : Rd (Hs.push tV [x0, x1, x2, x3, x4, x5]) tR tQ rid q st := ⟨h.ne, push_ne h.r, push_ne h.q⟩
  have h2 := h1.stH st'
  have h3 : Rd ((stH (Hs.push tV [x0, x1, x2, x3, x4, x5]) tR tQ rid q st').push tV z1) tR tQ rid q st' := ⟨h.ne, push_ne h2.r, push_ne h2.q⟩
  have hl := lt_nb h.r
  have hq := lt_nb h.q
  have n1 : (Hs.push tV [x0, x1, x2, x3, x4, x5]).nb = Hs.nb + 1 := push_nb
  have n2 : (stH (Hs.push tV [x0, x1, x2, x3, x4, x5]) tR tQ rid q st').nb = Hs.nb + 1 := by rw [stH_nb, n1]
  have e0 : (stH (Hs.push tV [x0, x1, x2, x3, x4, x5]) tR tQ rid q st').blks[Hs.nb]? = some ⟨tV, [x0, x1, x2, x3, x4, x5], false⟩ := by
    rw [show (stH (Hs.push tV [x0, x1, x2, x3, x4, x5]) tR tQ rid q st').blks[Hs.nb]? = (Hs.push tV [x0, x1, x2, x3, x4, x5]).blks[Hs.nb]? from set2_ne (by omega) (by omega)]
    exact push_at
  have hx : Ext (stH Hs tR tQ rid q st') ((stH (Hs.push tV [x0, x1, x2, x3, x4, x5]) tR tQ rid q st').push tV z1) := (((Ext.refl Hs).push _ _).set2 hl hq).push _ _
  refine ⟨⟨h.ne, ?_, ?_⟩, hl, hq, ⟨x0, x1, x2, x3, x4, x5, ?_⟩, ?_, hx.setB (by rw [stH_nb]; omega)⟩
  · rw [setB_ne (by omega)]; exact h3.r
  · rw [setB_ne (by omega)]; exact h3.q
  · rw [setB_ne (by omega)]; exact push_ne e0
  · refine setB_at (b := ⟨tV, z1, false⟩) ?_
    have := push_at (H := stH (Hs.push tV [x0, x1, x2, x3, x4, x5]) tR tQ rid q st') (e := tV) (cs := z1)
    rwa [n2] at this
end
/-- A list that grows. -/
structure GL (Hs H : HS) (v : AV) (t : Option Nat) (sz : Nat) (xs : List DV) : Prop where
  app : App v t sz xs
  ok : H.ok t xs.length
  new : NewTok Hs t
theorem GL.toks {Hs H H' : HS} {v : AV} {t : Option Nat} {sz : Nat} {xs : List DV} (h : GL Hs H v t sz xs) (he : H'.toks = H.toks) : GL Hs H' v t sz xs := ⟨h.app, fun i hi => by rw [he]; exact h.ok i hi, h.new⟩
theorem GL.step {Hs H : HS} {v : AV} {t : Option Nat} {sz m : Nat} {xs ys : List DV} {y : DV} (h : GL Hs H v t sz xs) (hx : Ext Hs H ∨ ∃ l, H.toks = Hs.toks ++ l) (hm : m = xs.length + 1) (hy : ys = xs ++ [y]) : GL Hs (H.up t m) (.own (some (H.tk t)) sz (xs ++ [y])) (some (H.tk t)) sz ys := by
  subst hm hy
  refine ⟨.own _ _ _, ?_, ?_⟩
  · have := HS.ok_up H t (xs.length + 1) h.ok
    rw [List.length_append]
    exact this
  · obtain ⟨l, hl⟩ : ∃ l, H.toks = Hs.toks ++ l := by
      rcases hx with hx | hx
      · exact hx.toks
      · exact hx
    intro i hi
    cases t with
    | none => cases hi; simp [HS.tk, hl]
    | some k => cases hi; exact h.new k rfl
theorem GL.nil (Hs H : HS) (sz : Nat) : GL Hs H nilS none sz [] := ⟨.nil sz, HS.ok_none _ _, NewTok.none _⟩
/-- A value that has been made is as a datum. -/
theorem weak6 {k : Int} {y : Bool} {n : Int} {s : List UInt8} {l f : AV} {ls : List V} {fs : List F} (hl : Weak l (.d (.lst 6 (ls.map vD)))) (hf : Weak f (.d (.lst 7 (fs.map fD)))) : Weaks (vs6 k y n s l f) ((vC (.mk k y n s ls fs)).map .d) := by
  rw [vC_eq]
  exact .cons (Weak.refl _) (.cons (Weak.refl _) (.cons (Weak.refl _) (.cons (Weak.refl _) (.cons hl (.cons hf .nil)))))
theorem weak_nilL : Weak nilS (.d (.lst 6 (([] : List V).map vD))) := Weak.nil 6
theorem weak_nilF : Weak nilS (.d (.lst 7 (([] : List F).map fD))) := Weak.nil 7
theorem vC_one (v : V) : ∀ d ∈ vC v, d.one = true := by rw [vC_eq]; simp [DV.one, S, I, TF]
theorem vC_len (v : V) : (vC v).length = 6 := by rw [vC_eq]; rfl
theorem fC_one (f : F) : ∀ d ∈ fC f, d.one = true := by
  rw [fC_eq]
  intro d hd
  rcases List.mem_cons.1 hd with rfl | hd
  · rfl
  · exact vC_one _ _ hd
theorem fC_len (f : F) : (fC f).length = 7 := by rw [fC_eq, List.length_cons, vC_len]
theorem fD_cells (f : F) : (fD f).cells = S f.name :: vC f.val := fC_eq f
theorem vD_cells (v : V) : (vD v).cells = [I v.kind, TF v.yes, .v (.int .i64 v.num), S v.text, .lst 6 (v.list.map vD), .lst 7 (v.fields.map fD)] := vC_eq v
theorem lit_v (v : V) : ∀ y ∈ [vD v], y.cells.length = 6 := by
  intro y hy; rcases List.mem_singleton.1 hy with rfl; exact vC_len v
theorem lit_v1 (v : V) : ∀ d ∈ flat [vD v], d.one = true := by
  intro d hd; simp only [flat, List.flatMap_cons, List.flatMap_nil, List.append_nil] at hd; exact vC_one v d hd
theorem lit_f (f : F) : ∀ y ∈ [fD f], y.cells.length = 7 := by
  intro y hy; rcases List.mem_singleton.1 hy with rfl; exact fC_len f
theorem lit_f1 (f : F) : ∀ d ∈ flat [fD f], d.one = true := by
  intro d hd; simp only [flat, List.flatMap_cons, List.flatMap_nil, List.append_nil] at hd; exact fC_one f d hd
theorem weaks_refl : ∀ l : List AV, Weaks l l
  | [] => .nil
  | _ :: l => .cons (Weak.refl _) (weaks_refl l)
theorem weak_agg_d {ds : List DV} (h : ∀ d ∈ ds, d.one = true) : Weak (.agg (ds.map .d)) (.d (.agg ds)) := Weak.aggD (weaks_refl _) h
/-- A field that is being made. -/
abbrev f0 (t : TypeId) (n : List UInt8) : HB := ⟨t, [.d (S n), .d (I 0), .d (TF false), .d (.v (.int .i64 0)), .d (S []), nilS, nilS], false⟩
abbrev f1 (t : TypeId) (f : F) : HB := ⟨t, (fC f).map .d, false⟩
theorem f0_put (t : TypeId) (n : List UInt8) (v : V) : (⟨t, putL (f0 t n).cs 1 ((vC v).map .d), false⟩ : HB) = f1 t (.mk n v) := by
  unfold f1
  rw [vC_eq, fC_eq, F.name, F.val, vC_eq]
  rfl
section
variable {P : Program} {E : Operand → AV} {H : HS} {dst : Option Tmp} {ty : TypeId} {pos : String} {after : Array Edge} {gd : Option (Nat × Bool)}
/-- A value is put into a block. -/
theorem op_storeV {x y : Operand} {t : TypeId} {id off : Nat} {b b' : HB} (v : V) (hn : (P.info? t).map (·.size) = some 6) (hx : E x = .ptr id off) (hb : H.blks[id]? = some b) (hy : E y = .d (.agg (vC v))) (hfit : off + 6 ≤ b.cs.length) (hfz : b.frz = false)
    (hb' : (⟨b.elem, putL b.cs off ((vC v).map .d), b.frz⟩ : HB) = b') : OpR P ⟨dst, .store t x y, ty, pos, after, gd⟩ E H (Ret .un (H.setB id b')) :=
  op_storeB (vs := (vC v).map .d) hn hx hb (by rw [hy]; intro h; cases h) (by rw [hy]; rfl) (by rw [List.length_map, vC_len]) hfit (by
    intro w hw
    obtain ⟨d, hd, rfl⟩ := List.mem_map.1 hw
    exact vC_one v d hd) hfz hb' rfl
theorem op_storeF {x y : Operand} {t : TypeId} {id off : Nat} {b b' : HB} (f : F) (hn : (P.info? t).map (·.size) = some 7) (hx : E x = .ptr id off) (hb : H.blks[id]? = some b) (hy : E y = .d (.agg (fC f))) (hfit : off + 7 ≤ b.cs.length) (hfz : b.frz = false)
    (hb' : (⟨b.elem, putL b.cs off ((fC f).map .d), b.frz⟩ : HB) = b') : OpR P ⟨dst, .store t x y, ty, pos, after, gd⟩ E H (Ret .un (H.setB id b')) :=
  op_storeB (vs := (fC f).map .d) hn hx hb (by rw [hy]; intro h; cases h) (by rw [hy]; rfl) (by rw [List.length_map, fC_len]) hfit (by
    intro w hw
    obtain ⟨d, hd, rfl⟩ := List.mem_map.1 hw
    exact fC_one f d hd) hfz hb' rfl
theorem op_loadF {x : Operand} {t : TypeId} {d : TypeDesc} {id : Nat} (tF : TypeId) (f : F) (ht : P.underlying t = some d) (hd : notAgg d = false) (hn : (P.info? t).map (·.size) = some 7) (hx : E x = .ptr id 0) (hb : H.blks[id]? = some (f1 tF f)) :
    OpR P ⟨dst, .load t x, ty, pos, after, gd⟩ E H (Ret (.d (.agg (fC f))) H) :=
  op_load_ptrsD (fC f) ht hd hn hx hb (by show 0 + 7 ≤ ((fC f).map AV.d).length; rw [List.length_map, fC_len]; exact Nat.le_refl _) (by
    show (((fC f).map AV.d).drop 0).take 7 = _
    rw [List.drop_zero, List.take_of_length_le (by rw [List.length_map, fC_len]; exact Nat.le_refl _)]) (fC_one f)
end
theorem notBelow_at {l : List F} {x : List UInt8} {y : F} {j : Nat} (hl : l.length = j) (hy : l[j - 1]? = some y) : notBelow l x = !Op.bytesLess y.name x := by
  subst hl
  simp [notBelow, List.getLast?_eq_getElem?, hy]
theorem rL_len (f : DS → V × DS) : ∀ (k : Nat) (st : DS), (rL f k st).1.length ≤ k
  | 0, _ => Nat.le_refl _
  | k + 1, st => by
    have ih := rL_len f k st
    simp only [rL]
    split
    · omega
    · simp; omega
theorem rL_stay {f : DS → V × DS} {k : Nat} {st : DS} (h : broke (rL f k st).2 = true) : ∀ m, k ≤ m → rL f m st = rL f k st
  | 0, hm => by have : k = 0 := by omega
                subst this; rfl
  | m + 1, hm => by
    rcases Nat.lt_or_ge m k with hlt | hge
    · have : k = m + 1 := by omega
      subst this; rfl
    · have ih := rL_stay h m hge
      simp only [rL, ih, h, if_true]
theorem rL_step {f : DS → V × DS} {k : Nat} {st : DS} (h : broke (rL f k st).2 = false) : rL f (k + 1) st = ((rL f k st).1 ++ [(f (rL f k st).2).1], (f (rL f k st).2).2) := by
  simp [rL, h]
theorem rF_len (f : DS → V × DS) : ∀ (k : Nat) (st : DS), (rF f k st).1.length ≤ k
  | 0, _ => Nat.le_refl _
  | k + 1, st => by
    have ih := rF_len f k st
    simp only [rF]
    split
    · omega
    · simp; omega
theorem rF_full (f : DS → V × DS) : ∀ (k : Nat) (st : DS), broke (rF f k st).2 = false → (rF f k st).1.length = k
  | 0, _, _ => rfl
  | k + 1, st, h => by
    simp only [rF] at h ⊢
    split at h
    · rename_i hb; rw [hb] at h; cases h
    · rename_i hb
      rw [if_neg hb]
      simp [rF_full f k st (by simpa using hb)]
theorem rF_stay {f : DS → V × DS} {k : Nat} {st : DS} (h : broke (rF f k st).2 = true) : ∀ m, k ≤ m → rF f m st = rF f k st
  | 0, hm => by have : k = 0 := by omega
                subst this; rfl
  | m + 1, hm => by
    rcases Nat.lt_or_ge m k with hlt | hge
    · have : k = m + 1 := by omega
      subst this; rfl
    · have ih := rF_stay h m hge
      simp only [rF, ih, h, if_true]
theorem rF_step {f : DS → V × DS} {k : Nat} {st : DS} (h : broke (rF f k st).2 = false) : rF f (k + 1) st = ((rF f k st).1 ++ [.mk (rText 4096 (rF f k st).2.1).1 (f ((rText 4096 (rF f k st).2.1).2, if notBelow (rF f k st).1 (rText 4096 (rF f k st).2.1).1 then 2 else (rF f k st).2.2)).1],
    (f ((rText 4096 (rF f k st).2.1).2, if notBelow (rF f k st).1 (rText 4096 (rF f k st).2.1).1 then 2 else (rF f k st).2.2)).2) := by
  simp [rF, h]
theorem broke_e {st : DS} (h : ¬ st.2 = 0) : broke st = true := by simp [broke, h]
theorem broke_r {st : DS} (h : ¬ rErr st.1 = 0) : broke st = true := by
  unfold rErr at h
  split at h
  · rename_i hb; simp [broke, hb]
  · exact absurd rfl h
theorem broke_not {st : DS} (h1 : st.2 = 0) (h2 : rErr st.1 = 0) : broke st = false := by
  unfold rErr at h2
  split at h2
  · cases h2
  · rename_i hb; simp [broke, h1]; simpa using hb
end Go.AV.Val
namespace Go.AV.Val
open Go.AV.Ord Go.AV.Oct
section
variable {H Hs : HS} {tR tQ tV : TypeId} {rid q : Nat} {st st' : DS}
theorem Rd.push {e : TypeId} {cs : List AV} (h : Rd H tR tQ rid q st) : Rd (H.push e cs) tR tQ rid q st := ⟨h.ne, push_ne h.r, push_ne h.q⟩
theorem Rd.far {i : Nat} {b : HB} (h : Rd H tR tQ rid q st) (h1 : rid ≠ i) (h2 : q ≠ i) : Rd (H.setB i b) tR tQ rid q st := ⟨h.ne, by rw [setB_ne h1]; exact h.r, by rw [setB_ne h2]; exact h.q⟩
theorem stH_ne {i : Nat} {b : HB} (h1 : i ≠ rid) (h2 : i ≠ q) (h : H.blks[i]? = some b) : (stH H tR tQ rid q st).blks[i]? = some b := by
  rw [show (stH H tR tQ rid q st).blks[i]? = H.blks[i]? from set2_ne h1 h2]; exact h
theorem Ext.stH (h : Ext Hs H) (h1 : Hs.nb ≤ rid) (h2 : Hs.nb ≤ q) : Ext Hs (Val.stH H tR tQ rid q st) := (h.setB h1).setB h2
end
/-- What bytes are as a value, and the error. -/
def decV (s : List UInt8) : V × Int := if 4096 < s.length then (V0, 4) else
  let r := rV 32 ((s, false), 0)
  if r.2.2 ≠ 0 then (V0, r.2.2) else if rEnd r.2.1 ≠ 0 then (V0, 2) else (r.1, 0)
end Go.AV.Val
namespace Go.AV.Val
theorem weak_take (v : V) : Weak (.agg ((((vC v).map AV.d).drop 0).take 6)) (.d (.agg (vC v))) := by
  rw [List.drop_zero, List.take_of_length_le (by rw [List.length_map, vC_len]; exact Nat.le_refl _)]
  exact weak_agg_d (vC_one v)
end Go.AV.Val
namespace Go.AV.Val
theorem f1_val (f : F) : (((fC f).map AV.d).drop 1).take 6 = (vC f.val).map .d := by
  rw [fC_eq, List.map_cons, List.drop_succ_cons, List.drop_zero, List.take_of_length_le (by rw [List.length_map, vC_len]; exact Nat.le_refl _)]
theorem f1_name (f : F) : ((fC f).map AV.d)[0]? = some (.d (S f.name)) := by
  rw [fC_eq]; rfl
end Go.AV.Val
