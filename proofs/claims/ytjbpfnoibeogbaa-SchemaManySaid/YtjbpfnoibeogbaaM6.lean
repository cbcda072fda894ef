/- Part 6 of what the law needs: HistAV, HistTurn, HistEv, ArgVal, ArgPut, ValOrd, ValOrd2, ValOrd3, PatchPlain, PatchBnd, PatchLaw, FieldsLaw, HistJ, HistSnd, HistHd, SbWr, SmWr, ArgColl, SchKeys, HistCm, SmLaw, SbLaw, SbLawW, KeysF, ArgColls. -/
import Derived.Test.YtjbpfnoibeogbaaM5
import Derived.Shelf.Sort.Plain
import Derived.Shelf.Slices.CompactS
import Derived.Shelf.Slices.In.SortNone
import Derived.Shelf.SlMaps.Clone
import Derived.ChangeArms
import Derived.KernelRfl
namespace Go.AV
open Go.RowKit Go.Sort
open Go.Proofs (encStr)
theorem Inv.ahead {B : Nat} {w0 w : World} {c : Ctx} {H : HS} (h : Inv B w0 c H w) : ∀ n, Inv B w0 c H (Sort.ahead w n)
  | 0 => h
  | n + 1 => by rw [← ahead_drew]; exact (Inv.ahead h n).drew
theorem Inv.grow {B : Nat} {w0 w : World} {c : Ctx} {H : HS} (h : Inv B w0 c H w) (os : Array Obj) : Inv B w0 c H (Sort.grow w os) := by
  have key : ∀ l : List Obj, ∀ w, Inv B w0 c H w → Inv B w0 c H (Sort.grow w l.toArray) := fun l => by
    induction l with
    | nil => intro w h; simpa using h
    | cons o l ih =>
      intro w h
      have := ih (w.alloc o) (h.alloc o)
      rw [alloc_eq_grow, grow_grow] at this
      simpa using this
  have := key os.toList w h
  simpa using this
theorem putCells_putA (d : Array (List UInt8)) (cur : Array Value) (h : d.size ≤ cur.size) : putCells encStr 0 d cur = putA cur 0 (d.toList.map encStr) := by
  apply Array.ext_getElem?
  intro k
  rw [putA_get (by simpa using h)]
  simp only [putCells, Array.getElem?_mapIdx, List.length_map, Array.length_toList]
  by_cases hk : k < d.size
  · rw [if_pos ⟨Nat.zero_le _, by omega⟩, Array.getElem?_eq_getElem (show k < cur.size by omega), Option.map_some, if_pos ⟨Nat.zero_le _, by omega⟩]
    simp [hk]
  · rw [if_neg (by omega)]
    cases cur[k]? with
    | none => rfl
    | some x => rw [Option.map_some, if_neg (by omega)]
theorem putRow_setRow {w : World} {g : Nat} {cur : Array Value} {e : TypeId} {fr : Nat × Nat} (hw : w.heap[g]? = some (.cells cur e fr)) (d : Array (List UInt8)) (h : d.size ≤ cur.size) : putRow encStr w g 0 d = w.setRow g (putA cur 0 (d.toList.map encStr)) := by
  unfold putRow mapBlock World.setRow
  congr 1
  apply Array.ext_getElem?
  intro k
  simp only [Array.getElem?_modify]
  by_cases hk : g = k
  · subst hk
    simp only [if_true, hw, Option.map_some, onCells, putCells_putA d cur h]
  · simp [hk]
theorem Inv.holds {B : Nat} {w0 w : World} {c : Ctx} {H : HS} (h : Inv B w0 c H w) {id g : Nat} {b : HB} (hg : c.blk[id]? = some g) (hb : H.blks[id]? = some b) (hf : b.frz = false) {ss : List (List UInt8)} (hl : ss.length ≤ b.cs.length)
    (hu : b.cs.take ss.length = ss.map fun s => .d (S s)) : Holds encStr w g 0 ss.toArray ∧ g < w.heap.size := by
  obtain ⟨p1, p2, cur, fr, p3, p4, p5, p6⟩ := h.blk id g b hg hb
  refine ⟨fun j hj => ?_, (Array.getElem?_eq_some_iff.1 p3).1⟩
  have hj' : j < ss.length := by simpa using hj
  have hjc : j < b.cs.length := by omega
  have e1 : b.cs[j] = .d (S ss[j]) := by
    have h1 : (b.cs.take ss.length)[j]? = some b.cs[j] := by rw [List.getElem?_take, if_pos hj', List.getElem?_eq_getElem hjc]
    rw [hu] at h1
    simpa [hj'] using h1.symm
  have h2 := p6 j hjc
  rw [e1] at h2
  have h3 := h2.v_eq
  have hcs : j < cur.size := by rw [p4]; exact hjc
  refine ⟨?_, ?_⟩
  · simp only [World.cell?, p3]
    simp [hcs] at h3 ⊢
    rw [h3]
    simp [hj']
  · have := p5 hf (0 + j)
    simp only [World.frozen?, p3]
    simp only [Bool.and_eq_false_iff, decide_eq_false_iff_not]
    omega
theorem Inv.putTexts {B : Nat} {w0 w : World} {c : Ctx} {H : HS} (h : Inv B w0 c H w) {id g n : Nat} {b : HB} (hg : c.blk[id]? = some g) (hb : H.blks[id]? = some b) (ts : List (List UInt8)) (hl : ts.length ≤ b.cs.length) :
    Inv B w0 c (H.put id 0 (ts.map fun s => .d (S s))) (putRow encStr (Sort.ahead w n) g 0 ts.toArray) := by
  obtain ⟨p1, p2, cur, fr, p3, p4, p5, p6⟩ := h.blk id g b hg hb
  have i1 := h.ahead n
  have hw : (Sort.ahead w n).heap[g]? = some (.cells cur b.elem fr) := p3
  rw [putRow_setRow hw ts.toArray (by rw [p4]; simpa using hl)]
  refine i1.putBlk id g 0 b hg hb _ _ (by simp) (fun j hj hj' => ?_) (by simpa using hl) cur _ fr hw
  simp only [List.getElem_map]
  exact .d (.v _ rfl)
def sortS (ss : List (List UInt8)) : List (List UInt8) := ss.mergeSort fun x y => decide (x ≤ y)
theorem sortS_len (ss : List (List UInt8)) : (sortS ss).length = ss.length := List.length_mergeSort ss
section
variable {P : Program} {Hs : HS} {id n cap : Nat} {e : TypeId} {cs : List AV} {ss : List (List UInt8)}
theorem Rep.arr_inv {c : Ctx} {v : Value} (h : Rep c v (.arr id n cap)) : ∃ g, v = .slice (some ⟨g, 0, none⟩) n cap ∧ c.blk[id]? = some g := by
  cases h with
  | arr _ _ _ g h => exact ⟨g, rfl, h⟩
theorem one_arg {c : Ctx} {vs : Array Value} {x : AV} (hs : vs.size = [x].length) (ha : ∀ i (hi : i < [x].length), Rep c (vs.getD i undef) [x][i]) : ∃ v, vs = #[v] ∧ Rep c v x := by
  have h1 : vs.size = 1 := hs
  refine ⟨vs.getD 0 undef, ?_, ha 0 (by simp)⟩
  apply Array.ext
  · simp [h1]
  · intro i hi hi'
    have : i = 0 := by omega
    subst this
    simp [h1]
theorem sort_av {ρ : Go.Shelf.Ren} (L : Go.Proofs.Lays.n190 P ρ) (hb : Hs.blks[id]? = some ⟨e, cs, false⟩) (hl : ss.length ≤ cs.length) (hu : cs.take ss.length = ss.map fun s => .d (S s)) (hm : ss.length < 4611686018427387904) :
    ACalls P (ρ.f 190) [.arr id ss.length cap] Hs (Ret (.tup []) (Hs.put id 0 ((sortS ss).map fun s => .d (S s)))) := by
  intro B w0 c w vs hI hs ha
  obtain ⟨v, rfl, hv⟩ := one_arg hs ha
  obtain ⟨g, rfl, hg⟩ := hv.arr_inv
  obtain ⟨hH, hlt⟩ := hI.holds hg hb rfl hl hu
  refine (Go.Proofs.Any.slices_Sort_string L g 0 cap ss w hH hlt hm).mono ?_
  rintro e' w' ⟨rfl, n, os, rfl⟩
  refine ⟨_, .tup [], _, c, rfl, Le.refl c, .tup _ _ rfl fun i hi => by simp at hi, (hI.putTexts hg hb (sortS ss) (by rw [sortS_len]; exact hl)).grow os, rfl, rfl⟩
theorem sort_none {ρ : Go.Shelf.Ren} (L : Go.Proofs.Lays.n190 P ρ) : ACalls P (ρ.f 190) [nilS] Hs (Ret (.tup []) Hs) := by
  intro B w0 c w vs hI hs ha
  obtain ⟨v, rfl, hv⟩ := one_arg hs ha
  obtain rfl := hv.v_eq
  refine (Go.Proofs.Any.slices_Sort_string_none L none 0 w).mono ?_
  rintro e' w' ⟨rfl, rfl⟩
  exact ⟨_, .tup [], _, c, rfl, Le.refl c, .tup _ _ rfl fun i hi => by simp at hi, hI, rfl, rfl⟩
def compS (ss : List (List UInt8)) : List (List UInt8) := Lib.compact ss
theorem compS_len (ss : List (List UInt8)) : (compS ss).length ≤ ss.length := by
  unfold compS Lib.compact Lib.compactUpTo
  rw [List.length_map]
  exact Nat.le_trans (List.length_filter_le _ _) (by simp)
def padS (ss : List (List UInt8)) : List (List UInt8) := compS ss ++ List.replicate (ss.length - (compS ss).length) []
theorem compact_av {ρ : Go.Shelf.Ren} (L : Go.Proofs.Lays.n194 P ρ) (hb : Hs.blks[id]? = some ⟨e, cs, false⟩) (hl : ss.length ≤ cs.length) (hu : cs.take ss.length = ss.map fun s => .d (S s)) (hm : ss.length ≤ 9223372036854775807) (hc : ss.length ≤ cap) (hp : (compS ss).length ≤ ss.length) :
    ACalls P (ρ.f 194) [.arr id ss.length cap] Hs (Ret (.arr id (compS ss).length cap) (Hs.put id 0 ((padS ss).map fun s => .d (S s)))) := by
  intro B w0 c w vs hI hs ha
  obtain ⟨v, rfl, hv⟩ := one_arg hs ha
  obtain ⟨g, rfl, hg⟩ := hv.arr_inv
  obtain ⟨hH, hlt⟩ := hI.holds hg hb rfl hl hu
  refine (Go.Proofs.Any.slices_Compact_string L g 0 cap ss w hH hm hc).mono ?_
  rintro e' w' ⟨rfl, q, rfl⟩
  exact ⟨_, _, _, c, rfl, Le.refl c, .arr id _ cap g hg, hI.putTexts hg hb (padS ss) (by simp [padS]; omega), rfl, rfl⟩
theorem compact_none {ρ : Go.Shelf.Ren} (L : Go.Proofs.Lays.n194 P ρ) : ACalls P (ρ.f 194) [nilS] Hs (Ret nilS Hs) := by
  intro B w0 c w vs hI hs ha
  obtain ⟨v, rfl, hv⟩ := one_arg hs ha
  obtain rfl := hv.v_eq
  refine (Go.Proofs.Any.slices_Compact_string_empty L none 0 w).mono ?_
  rintro e' w' ⟨rfl, rfl⟩
  exact ⟨_, nilS, _, c, rfl, Le.refl c, .d (.v _ rfl), hI, rfl, rfl⟩
end
theorem ACalls.tidyM {P : Program} {f : FuncId} {args : List AV} {H : HS} {R : AV → HS → Prop}
    (h : ACalls P f args H fun av H' => ∃ (m : MB) (x0 l : AV) (ids : List (List UInt8)) (ed : DV), av = .tup [x0, l, .d ed] ∧ Ext (H.pushM m) H' ∧ (x0 = .map H.nm ∨ ∃ z, x0 = .d z) ∧
      (l = nilS ∧ ids = [] ∨ ∃ id cap b, l = .arr id ids.length cap ∧ H.nb ≤ id ∧ H'.blks[id]? = some b ∧ b.cs.take ids.length = ids.map (fun s => .d (S s)) ∧ ids.length ≤ b.cs.length ∧ ids.length ≤ cap) ∧ R (.tup [x0, .d (.lst 1 (ids.map S)), .d ed]) (H.pushM m)) : ACalls P f args H R := by
  intro B w0 c w vs hI hs ha
  refine (h B w0 c w vs hI hs ha).mono ?_
  rintro e w' ⟨v, av, H', c', rfl, q1, q2, q3, m, x0, l, ids, ed, rfl, ⟨⟨l1, h5⟩, ⟨l2, h6⟩, hmm⟩, hx0, hl, hR⟩
  have h5' : H'.blks = H.blks ++ l1 := h5
  have h6' : H'.toks = H.toks ++ l2 := h6
  have hcut : H'.cut H.blks.length H.toks.length = H.pushM m := by
    have e1 : H'.maps = H.maps ++ [m] := hmm
    unfold HS.cut HS.pushM
    rw [h5', h6', e1, List.take_left, List.take_left]
  have hfit : ∀ i b, i < H.blks.length → H'.blks[i]? = some b → ∀ j (hj : j < b.cs.length), Fits H.blks.length H.toks.length b.cs[j] := fun i b hi hb j hj => by
    have hb' : H.blks[i]? = some b := by rw [h5', List.getElem?_append_left (by omega)] at hb; exact hb
    have hlt : i < c.blk.length := by rw [hI.blkLen]; exact hi
    obtain ⟨_, _, cur, fr, _, _, _, q⟩ := hI.blk i _ b (List.getElem?_eq_getElem hlt) hb'
    have := (q j hj).fits
    rwa [hI.blkLen, hI.tokLen] at this
  have hblk : ∀ (i g : Nat), c.blk[i]? = some g → (c'.blk.take H.blks.length)[i]? = some g := fun i g hi => by
    have : i < c.blk.length := (List.getElem?_eq_some_iff.1 hi).1
    rw [List.getElem?_take, if_pos (by have := hI.blkLen; omega)]
    exact q1.blk i g hi
  have htok : ∀ (i : Nat) (e : Tok), c.tok[i]? = some e → ∃ e' : Tok, (c'.tok.take H.toks.length)[i]? = some e' ∧ (e' = e ∨ e.mark < e'.mark) := fun i e he => by
    have : i < c.tok.length := (List.getElem?_eq_some_iff.1 he).1
    obtain ⟨e', q1, q2⟩ := q1.tok i e he
    refine ⟨e', ?_, q2⟩
    rw [List.getElem?_take, if_pos (by have := hI.tokLen; omega)]
    exact q1
  have hv2 : ∃ u0 u1 u2 : Value, v = .tuple #[u0, u1, u2] ∧ Rep c' u0 x0 ∧ Rep c' u1 l ∧ Rep c' u2 (.d ed) := by
    generalize ha : AV.tup [x0, l, .d ed] = av at q2
    cases q2 with
    | tup us cs hl hr =>
      cases ha
      obtain ⟨ul⟩ := us
      match ul, hl with
      | [u0, u1, u2], _ => exact ⟨u0, u1, u2, rfl, hr 0 (by simp), hr 1 (by simp), hr 2 (by simp)⟩
    | _ => cases ha
  obtain ⟨u0, u1, u2, rfl, qa, qb, qc⟩ := hv2
  have three : ∀ {k : Ctx}, Rep k u0 x0 → Rep k u1 (.d (.lst 1 (ids.map S))) → Rep k u2 (.d ed) → Rep k (.tuple #[u0, u1, u2]) (.tup [x0, .d (.lst 1 (ids.map S)), .d ed]) := fun h1 h2 h3 => .tup _ _ rfl fun i hi => by
    match i, hi with
    | 0, _ => exact h1
    | 1, _ => exact h2
    | 2, _ => exact h3
  have hf0 : Fits H.blks.length H.toks.length x0 := by
    rcases hx0 with rfl | ⟨z, rfl⟩
    · exact .map _
    · exact .d _
  rcases hl with ⟨rfl, rfl⟩ | ⟨id, cap, b, rfl, hid, hb, hd, hlen, hcap⟩
  · have i1 := q3.cut H.blks.length H.toks.length hfit
    rw [hcut] at i1
    refine ⟨_, _, _, c'.cut H.blks.length H.toks.length, rfl, ⟨q1.mem, hblk, htok, q1.maps⟩, three (qa.cut hf0) ?_ (.d (qc.d_inv.mono (fun _ _ _ h => h))), i1, hR⟩
    have := Weak.nil 1 c' u1 qb
    exact .d (this.d_inv.mono (fun _ _ _ h => h))
  · have hidl : id < c'.blk.length := by rw [q3.blkLen]; exact (List.getElem?_eq_some_iff.1 hb).1
    have hfl : flat (ids.map S) = ids.map S := by
      have : ∀ l : List (List UInt8), flat (l.map S) = l.map S := fun l => by
        induction l with
        | nil => rfl
        | cons x l ih => simp only [List.map_cons, flat, List.flatMap_cons] at ih ⊢; rw [ih]; rfl
      exact this ids
    obtain ⟨vals, i1, m1, m2, m3⟩ := q3.protect id _ b (List.getElem?_eq_getElem hidl) hb H.blks.length H.toks.length hid hfit (ids.map S) (by rw [List.length_map, hd, List.map_map]; rfl) (by simpa using hlen)
    rw [hcut] at i1
    obtain ⟨g, hg, rfl⟩ := arr_val qb
    rw [List.getElem?_eq_getElem hidl] at hg
    cases hg
    have h0 : Rep (c'.cut H.blks.length H.toks.length) u0 x0 := qa.cut hf0
    refine ⟨_, _, _, _, rfl, ⟨fun g o u hm => m1 g o u (q1.mem g o u hm), hblk, htok, q1.maps⟩, three ?_ ?_ (.d (qc.d_inv.mono m1)), i1, hR⟩
    · rcases hx0 with rfl | ⟨z, rfl⟩
      · obtain ⟨g0, rfl, hg0⟩ := qa.map_inv
        exact .map _ g0 hg0
      · exact .d (qa.d_inv.mono m1)
    · refine .d (.lst _ 0 _ cap 1 _ vals (by simp) hcap (fun x hx => ?_) (fun x hx => ?_) (fun i hi => ?_) (fun i hi => ?_))
      · obtain ⟨s, _, rfl⟩ := List.mem_map.1 hx; rfl
      · rw [hfl] at hx
        obtain ⟨s, _, rfl⟩ := List.mem_map.1 hx; rfl
      · rw [Nat.zero_add]
        exact m2 i (by rw [hfl] at hi; exact hi)
      · have hi' : i < (ids.map S).length := by rw [hfl] at hi; exact hi
        have := (m3 i hi').mono m1
        simp only [hfl]
        exact this
section
variable {P : Program} {E : Operand → AV} {H : HS} {dst : Option Tmp} {ty : TypeId} {pos : String} {after : Array Edge} {gd : Option (Nat × Bool)}
theorem op_field1 {x : Operand} {t : TypeId} {k : Nat} {fs : Array Field} {f : Field} {cs : List DV} {d : DV} (ht : P.underlying t = some (.struct fs)) (hf : fs[k]? = some f) (ha : ∀ w, (isAgg f.type).run P w = .ok false w) (hx : E x = .d (.agg cs)) (hd : cs[f.offset]? = some d) :
    OpR P ⟨dst, .field t x k, ty, pos, after, gd⟩ E H (Ret (.d d) H) :=
  opR_pure fun c w a _ hops => by
    have h1 := hops x (by simp [Op.operands])
    rw [hx] at h1
    generalize hv : a.eval x = v at h1
    generalize hc : DV.agg cs = y at h1
    have h2 := h1.d_inv
    cases h2 with
    | agg vs cs' hl h1' hr =>
      cases hc
      have hlt := (List.getElem?_eq_some_iff.1 hd).1
      have hvs : f.offset < vs.size := by rw [hl]; exact hlt
      have h3 := hr f.offset hlt
      rw [(List.getElem?_eq_some_iff.1 hd).2] at h3
      refine ⟨vs[f.offset], ?_, .d (by simpa [hvs] using h3)⟩
      simp [execOp, Instr.field, hv, run_underlying ht, hf, part, ha, asAgg, Result.andThen, hvs]
    | _ => cases hc
end
structure Texts (H H' : HS) (id : Nat) (e : TypeId) (n : Nat) (ts : List (List UInt8)) : Prop where
  blk : ∃ cs, H'.blks[id]? = some ⟨e, cs, false⟩ ∧ cs.take ts.length = (ts.map fun s => AV.d (S s)) ∧ ts.length ≤ cs.length ∧ cs.length = n
  oth : ∀ j, j ≠ id → H'.blks[j]? = H.blks[j]?
  toks : H'.toks = H.toks
  maps : H'.maps = H.maps
  nb : H'.nb = H.nb
theorem Texts.put {H : HS} {id : Nat} {e : TypeId} {cs : List AV} (hb : H.blks[id]? = some ⟨e, cs, false⟩) (ts : List (List UInt8)) (hl : ts.length ≤ cs.length) : Texts H (H.put id 0 (ts.map fun s => .d (S s))) id e cs.length ts := by
  refine ⟨⟨_, put_blks_at hb, ?_, ?_, ?_⟩, fun j hj => put_blks_ne hj, rfl, rfl, put_nb⟩
  · have := putL_take (ts.map fun s => AV.d (S s)) cs 0 (by simpa using hl)
    simpa using this
  · rw [putL_length]; exact hl
  · rw [putL_length]
theorem Texts.ext {B H H' : HS} {id n : Nat} {e : TypeId} {ts : List (List UInt8)} (h : Texts H H' id e n ts) (hx : Ext B H) (hid : B.nb ≤ id) : Ext B H' := hx.of h.toks (fun j hj => h.oth j (by omega)) h.maps
theorem Arr.or {H : HS} {e : TypeId} {v : AV} {ids : List (List UInt8)} (h : Arr H e 1 v ids.length (ids.map fun s => AV.d (S s))) : (v = nilS ∧ ids = []) ∨
    ∃ id cap cs, v = .arr id ids.length cap ∧ H.blks[id]? = some ⟨e, cs, false⟩ ∧ cs.take ids.length = (ids.map fun s => AV.d (S s)) ∧ ids.length ≤ cs.length ∧ ids.length ≤ cap := by
  generalize hn : ids.length = n at h
  generalize hu : (ids.map fun s => AV.d (S s)) = us at h
  cases h with
  | nil => exact .inl ⟨rfl, List.length_eq_zero_iff.1 hn⟩
  | arr id _ cap cs _ hb hc hl hu' => exact .inr ⟨id, cap, cs, rfl, hb, by rw [Nat.mul_one] at hu'; exact hu', by omega, hl⟩
def NoIt (H : HS) : Prop := ∀ (j : Nat) (o : Option Nat) (n : Nat) q, H.maps[j]? ≠ some (.iter o n q)
theorem NoIt.ext {Hs H : HS} {es : List (List UInt8 × DV)} (h : NoIt Hs) (hx : Ext (Hs.pushM (.map es)) H) : NoIt H := by
  intro j o n q he
  rw [hx.maps] at he
  have he' : (Hs.maps ++ [MB.map es])[j]? = some (.iter o n q) := he
  by_cases hj : j < Hs.maps.length
  · rw [List.getElem?_append_left hj] at he'; exact h j o n q he'
  · rw [List.getElem?_append_right (by omega)] at he'
    cases hk : j - Hs.maps.length with
    | zero => rw [hk] at he'; simp at he'
    | succ k => rw [hk] at he'; simp at he'
theorem Ext.setM {Hs H : HS} {m m' : MB} (h : Ext (Hs.pushM m) H) : Ext (Hs.pushM m') (H.setM Hs.nm m') :=
  ⟨h.blks, h.toks, by
    show H.maps.set Hs.maps.length m' = Hs.maps ++ [m']
    rw [h.maps]
    show (Hs.maps ++ [m]).set Hs.maps.length m' = _
    rw [List.set_append_right _ _ (Nat.le_refl _)]; simp⟩
theorem pushM_at {Hs H : HS} {m : MB} (h : Ext (Hs.pushM m) H) : H.maps[Hs.nm]? = some m := by
  rw [h.maps]
  show (Hs.maps ++ [m])[Hs.maps.length]? = _
  simp
def TX (H : HS) (e : TypeId) (v : AV) (ids : List (List UInt8)) : Prop := Arr H e 1 v ids.length (ids.map fun s => AV.d (S s))
section
variable {P : Program} {Hs : HS} {e : TypeId} {v : AV} {ss : List (List UInt8)}
theorem Texts.kept {H H' : HS} {id n k cap : Nat} {ts : List (List UInt8)} (h : Texts H H' id e n ts) : Kept H H' (.arr id k cap) :=
  ⟨h.toks, by rw [h.nb]; exact Nat.le_refl _, fun j _ hne => h.oth j (fun hj => hne k cap (by rw [hj])), h.maps⟩
theorem TX.sort {ρ : Go.Shelf.Ren} (L : Go.Proofs.Lays.n190 P ρ) (h : TX Hs e v ss) (hm : ss.length < 4611686018427387904) : ACalls P (ρ.f 190) [v] Hs (fun av H' => av = .tup [] ∧ TX H' e v (sortS ss) ∧ Kept Hs H' v) := by
  unfold TX at h ⊢
  generalize hn : ss.length = n at h
  generalize hu : (ss.map fun s => AV.d (S s)) = us at h
  cases h with
  | nil =>
    obtain rfl := List.length_eq_zero_iff.1 hn
    exact (sort_none L).mono fun av H' ⟨h1, h2⟩ => ⟨h1, by rw [h2, show sortS [] = [] from by simp [sortS]]; exact .nil, by rw [h2]; exact ⟨rfl, Nat.le_refl _, fun _ _ _ => rfl, rfl⟩⟩
  | arr id _ cap cs _ hb hc hl hu' =>
    subst hn
    rw [Nat.mul_one] at hu' hc
    have hlen : ss.length ≤ cs.length := by omega
    refine (sort_av (cap := cap) L hb hlen (hu'.trans hu.symm) hm).mono fun av H' ⟨h1, h2⟩ => ⟨h1, ?_, ?_⟩
    · obtain ⟨⟨cs', q1, q2, q3, q4⟩, _⟩ := Texts.put hb (sortS ss) (by rw [sortS_len]; exact hlen)
      rw [h2]
      rw [sortS_len] at q2 ⊢
      exact .arr id _ cap cs' _ q1 (by rw [q4, hc, Nat.mul_one]) hl (by rw [Nat.mul_one]; exact q2)
    · rw [h2]; exact (Texts.put hb (sortS ss) (by rw [sortS_len]; exact hlen)).kept
theorem TX.compact {ρ : Go.Shelf.Ren} (L : Go.Proofs.Lays.n194 P ρ) (h : TX Hs e v ss) (hm : ss.length ≤ 9223372036854775807) (hp : (compS ss).length ≤ ss.length) :
    ACalls P (ρ.f 194) [v] Hs (fun av H' => TX H' e av (compS ss) ∧ Kept Hs H' v ∧ ∀ id n cap, av = .arr id n cap → ∃ n' cap', v = .arr id n' cap') := by
  unfold TX at h ⊢
  generalize hn : ss.length = n at h
  generalize hu : (ss.map fun s => AV.d (S s)) = us at h
  cases h with
  | nil =>
    obtain rfl := List.length_eq_zero_iff.1 hn
    refine (compact_none L).mono fun av H' ⟨h1, h2⟩ => ⟨?_, by rw [h2]; exact ⟨rfl, Nat.le_refl _, fun _ _ _ => rfl, rfl⟩, fun id n cap e => by rw [h1] at e; cases e⟩
    rw [h1, List.length_eq_zero_iff.1 (Nat.le_zero.1 hp)]
    exact .nil
  | arr id _ cap cs _ hb hc hl hu' =>
    subst hn
    rw [Nat.mul_one] at hu' hc
    have hlen : ss.length ≤ cs.length := by omega
    have hpad : (padS ss).length = ss.length := by simp [padS]; omega
    refine (compact_av (cap := cap) L hb hlen (hu'.trans hu.symm) hm hl hp).mono fun av H' ⟨h1, h2⟩ => ⟨?_, ?_, fun id' n' cap' e => by rw [h1] at e; cases e; exact ⟨_, _, rfl⟩⟩
    · obtain ⟨⟨cs', q1, q2, q3, q4⟩, _⟩ := Texts.put hb (padS ss) (by rw [hpad]; exact hlen)
      rw [h2, h1]
      refine .arr id _ cap cs' _ q1 (by rw [q4, hc, Nat.mul_one]) (by omega) ?_
      have := congrArg (List.take (compS ss).length) q2
      rw [List.take_take, hpad, Nat.min_eq_left hp] at this
      rw [Nat.mul_one, this]
      unfold padS
      rw [List.map_append, List.take_left' (by simp)]
    · rw [h2]; exact (Texts.put hb (padS ss) (by rw [hpad]; exact hlen)).kept
theorem TX.push {H : HS} (h : TX H e v ss) (t : TypeId) (cs : List AV) : TX (H.push t cs) e v ss := by
  unfold TX at h ⊢
  generalize ss.length = n at h ⊢
  generalize (ss.map fun s => AV.d (S s)) = us at h ⊢
  cases h with
  | nil => exact .nil
  | arr id _ cap cs' _ hb hc hl hu => exact .arr id _ cap cs' _ (push_ne hb) hc hl hu
theorem TX.setB {H : HS} {i : Nat} {b : HB} (h : TX H e v ss) (hne : ∀ id n cap, v = .arr id n cap → id ≠ i) : TX (H.setB i b) e v ss := by
  unfold TX at h ⊢
  generalize ss.length = n at h ⊢
  generalize (ss.map fun s => AV.d (S s)) = us at h ⊢
  cases h with
  | nil => exact .nil
  | arr id _ cap cs' _ hb hc hl hu => exact .arr id _ cap cs' _ (by rw [setB_ne (hne _ _ _ rfl)]; exact hb) hc hl hu
theorem TX.setM {H : HS} {i : Nat} {m : MB} (h : TX H e v ss) : TX (H.setM i m) e v ss := by
  unfold TX at h ⊢
  generalize ss.length = n at h ⊢
  generalize (ss.map fun s => AV.d (S s)) = us at h ⊢
  cases h with
  | nil => exact .nil
  | arr id _ cap cs' _ hb hc hl hu => exact .arr id _ cap cs' _ hb hc hl hu
theorem TX.lt {H : HS} (h : TX H e v ss) : ∀ id n cap, v = .arr id n cap → id < H.nb := by
  intro id n cap hv
  unfold TX at h
  generalize ss.length = k at h
  generalize (ss.map fun s => AV.d (S s)) = us at h
  cases h with
  | nil => cases hv
  | arr id' _ cap' cs' _ hb hc hl hu => cases hv; exact (List.getElem?_eq_some_iff.1 hb).1
theorem TX.or {H : HS} (h : TX H e v ss) : (v = nilS ∧ ss = []) ∨ ∃ id cap b, v = .arr id ss.length cap ∧ H.blks[id]? = some b ∧ b.cs.take ss.length = (ss.map fun s => AV.d (S s)) ∧ ss.length ≤ b.cs.length ∧ ss.length ≤ cap := by
  rcases Arr.or h with h | ⟨id, cap, cs, h1, h2, h3, h4, h5⟩
  · exact .inl h
  · exact .inr ⟨id, cap, _, h1, h2, h3, h4, h5⟩
theorem TX.one {H : HS} {e : TypeId} {v : AV} {us : List AV} {s : List UInt8} (h : Arr H e 1 v (ss.length + 1) (us ++ [.d (S s)])) (hu : us = ss.map fun s => AV.d (S s)) : TX H e v (ss ++ [s]) := by
  unfold TX
  rw [List.length_append, List.map_append, ← hu]
  exact h
theorem Kept.ext {B H H' : HS} {v : AV} (k : Kept H H' v) (h : Ext B H) (hv : ∀ id n c, v = .arr id n c → B.nb ≤ id) : Ext B H' :=
  h.of k.toks (fun j hj => k.blks j (by have := nb_le h; omega) fun n c e => by have := hv _ _ _ e; omega) k.maps
theorem TX.grown {B H H1 : HS} (hT : TX H e v ss) (hv : ∀ id n c, v = .arr id n c → B.nb ≤ id) (hB : B.nb ≤ H1.nb) {id3 m3 cap3 : Nat} (hn : v = nilS → H1.nb ≤ id3) (ho : ∀ j n cap, v = .arr j n cap → id3 = j ∨ H1.nb ≤ id3) :
    ∀ i n cap, AV.arr id3 m3 cap3 = .arr i n cap → B.nb ≤ i := by
  intro i n cap h
  cases h
  rcases hT.or with ⟨h, _⟩ | ⟨j, c, b, h, _⟩
  · have := hn h; omega
  · rcases ho _ _ _ h with rfl | h2
    · exact hv _ _ _ h
    · omega
end
end Go.AV
namespace Go.AV.Hist
open Go.AV.Ord Go.AV.Oct
def mE (ps : List (List UInt8 × Pl)) : List (List UInt8 × DV) := ps.map fun x => (x.1, pD x.2)
def getK : List (List UInt8 × Pl) → List UInt8 → Option Pl
  | [], _ => none
  | e :: es, k => if e.1 = k then some e.2 else getK es k
def putK : List (List UInt8 × Pl) → List UInt8 → Pl → List (List UInt8 × Pl)
  | [], k, v => [(k, v)]
  | e :: es, k, v => if e.1 = k then (k, v) :: es else e :: putK es k v
def delK : List (List UInt8 × Pl) → List UInt8 → List (List UInt8 × Pl)
  | [], _ => []
  | e :: es, k => if e.1 = k then es else e :: delK es k
theorem getE_mE : ∀ (ps : List (List UInt8 × Pl)) (k : List UInt8), getE (mE ps) k = (getK ps k).map pD
  | [], _ => rfl
  | e :: ps, k => by
    show (if e.1 = k then some (pD e.2) else getE (mE ps) k) = _
    unfold getK
    by_cases h : e.1 = k
    · rw [if_pos h, if_pos h]; rfl
    · rw [if_neg h, if_neg h]; exact getE_mE ps k
theorem putE_mE : ∀ (ps : List (List UInt8 × Pl)) (k : List UInt8) (p : Pl), putE (mE ps) k (pD p) = mE (putK ps k p)
  | [], _, _ => rfl
  | e :: ps, k, p => by
    show (if e.1 = k then (k, pD p) :: mE ps else (e.1, pD e.2) :: putE (mE ps) k (pD p)) = _
    unfold putK
    by_cases h : e.1 = k
    · rw [if_pos h, if_pos h]; rfl
    · rw [if_neg h, if_neg h, putE_mE ps k p]; rfl
theorem delE_mE : ∀ (ps : List (List UInt8 × Pl)) (k : List UInt8), delE (mE ps) k = mE (delK ps k)
  | [], _ => rfl
  | e :: ps, k => by
    show (if e.1 = k then mE ps else (e.1, pD e.2) :: delE (mE ps) k) = _
    unfold delK
    by_cases h : e.1 = k
    · rw [if_pos h, if_pos h]
    · rw [if_neg h, if_neg h, delE_mE ps k]; rfl
def atK (ps : List (List UInt8 × Pl)) (k : List UInt8) : Pl := (getK ps k).getD P0
def turnT : List (List UInt8 × Pl) → List (List UInt8) → List Wt → Option (List (List UInt8 × Pl) × List (List UInt8))
  | ps, ids, [] => some (ps, ids)
  | ps, ids, w :: ws => if (msgT w.key).2.2 = false then turnT ps ids ws else
    if w.gone then turnT (if (atK ps (msgT w.key).2.1).q = (msgT w.key).1 then delK ps (msgT w.key).2.1 else ps) (ids ++ [(msgT w.key).2.1]) ws else
      if decE w.val = 0 then turnT (putK ps (msgT w.key).2.1 ⟨(msgT w.key).1, decM (msgT w.key).2.1 w.val⟩) (ids ++ [(msgT w.key).2.1]) ws else none
end Go.AV.Hist
namespace Go.AV
def HS.addM (H : HS) (ms : List MB) : HS := { H with maps := H.maps ++ ms }
theorem addM_nil (H : HS) : H.addM [] = H := by cases H; simp [HS.addM]
theorem Ext.pushAdd {Hs H : HS} {ms : List MB} {m : MB} (h : Ext (Hs.addM ms) H) : Ext (Hs.addM (ms ++ [m])) (H.pushM m) :=
  ⟨h.blks, h.toks, by
    show H.maps ++ [m] = Hs.maps ++ (ms ++ [m])
    rw [h.maps]
    show (Hs.maps ++ ms) ++ [m] = _
    rw [List.append_assoc]⟩
theorem NoIt.of {H H' : HS} (h : NoIt H) (e : H'.maps = H.maps) : NoIt H' := fun j o n q => by rw [e]; exact h j o n q
theorem NoIt.push {H : HS} (h : NoIt H) (es : List (List UInt8 × DV)) : NoIt (H.pushM (.map es)) := h.ext (Ext.refl _)
theorem pushM_new {H : HS} {m : MB} : (H.pushM m).maps[H.nm]? = some m := pushM_at (Ext.refl _)
theorem pushM_old {H : HS} {m x : MB} {a : Nat} (h : H.maps[a]? = some x) : (H.pushM m).maps[a]? = some x := by
  show (H.maps ++ [m])[a]? = _
  rw [List.getElem?_append_left (List.getElem?_eq_some_iff.1 h).1]; exact h
theorem ACalls.tidyA {P : Program} {f : FuncId} {args : List AV} {H : HS} {R : AV → HS → Prop}
    (h : ACalls P f args H fun av H' => ∃ ms, Fits H.blks.length H.toks.length av ∧ Ext (H.addM ms) H' ∧ R av (H.addM ms)) : ACalls P f args H R :=
  ACalls.tidyB (h.mono fun av H' ⟨ms, h1, h2, h3⟩ => ⟨H.addM ms, h1, rfl, rfl, fun _ _ hb _ _ => .inl hb, h2, h3⟩)
namespace Hist
open Go.AV.Ord Go.AV.Oct
theorem turnT_len : ∀ (ws : List Wt) {ps ps' : List (List UInt8 × Pl)} {ids ids' : List (List UInt8)}, turnT ps ids ws = some (ps', ids') → ids'.length ≤ ids.length + ws.length
  | [], _, _, _, _, h => by simp [turnT] at h; rw [h.2]; exact Nat.le_add_right _ _
  | w :: ws, ps, ps', ids, ids', h => by
    rw [turnT] at h
    split at h
    · have := turnT_len ws h; simp; omega
    · split at h
      · have := turnT_len ws h; simp at this ⊢; omega
      · split at h
        · have := turnT_len ws h; simp at this ⊢; omega
        · cases h
def evOf (c : Cm) (ps ps' : List (List UInt8 × Pl)) (id : List UInt8) : Ev := ⟨c.seq, c.at_, id, (atK ps id).q, (atK ps' id).q, (atK ps id).m, (atK ps' id).m⟩
def evs (c : Cm) (ps ps' : List (List UInt8 × Pl)) (ids : List (List UInt8)) : List Ev := (ids.filter fun id => !decide (atK ps id = atK ps' id)).map (evOf c ps ps')
theorem evs_len (c : Cm) (ps ps' : List (List UInt8 × Pl)) (ids : List (List UInt8)) : (evs c ps ps' ids).length ≤ ids.length := by
  unfold evs
  rw [List.length_map]
  exact List.length_filter_le _ _
def eventsT : List (List UInt8 × Pl) → List Ev → List Cm → Option (List Ev)
  | _, es, [] => some es
  | ps, es, c :: cs => match turnT ps [] c.ws with
    | none => none
    | some (ps', ids) => eventsT ps' (es ++ evs c ps ps' (compS (sortS ids))) cs
theorem eventsT_none {ps : List (List UInt8 × Pl)} {es : List Ev} {c : Cm} {cs : List Cm} (h : turnT ps [] c.ws = none) : eventsT ps es (c :: cs) = none := by rw [eventsT, h]
theorem eventsT_some {ps ps' : List (List UInt8 × Pl)} {es : List Ev} {c : Cm} {cs : List Cm} {ids : List (List UInt8)} (h : turnT ps [] c.ws = some (ps', ids)) : eventsT ps es (c :: cs) = eventsT ps' (es ++ evs c ps ps' (compS (sortS ids))) cs := by rw [eventsT, h]
section
variable {P : Program} {E : Operand → AV} {H : HS} {dst : Option Tmp} {ty : TypeId} {pos : String} {after : Array Edge} {gd : Option (Nat × Bool)}
end
def msT : List (List UInt8 × Pl) → List Cm → List MB
  | _, [] => []
  | ps, c :: cs => match turnT ps [] c.ws with
    | none => []
    | some (ps', _) => .map (mE ps') :: msT ps' cs
end Hist
end Go.AV
namespace Go.AV.Val
open Go.AV.Ord Go.AV.Oct
structure VTypes (P : Program) (tV tF tK tB tI tS tL tM : TypeId) : Prop where
  v : ∃ fs, P.underlying tV = some (.struct fs) ∧ (∃ f, fs[0]? = some f ∧ f.type = tK ∧ f.offset = 0) ∧ (∃ f, fs[1]? = some f ∧ f.type = tB ∧ f.offset = 1) ∧ (∃ f, fs[2]? = some f ∧ f.type = tI ∧ f.offset = 2) ∧ (∃ f, fs[3]? = some f ∧ f.type = tS ∧ f.offset = 3) ∧ (∃ f, fs[4]? = some f ∧ f.type = tL ∧ f.offset = 4) ∧ (∃ f, fs[5]? = some f ∧ f.type = tM ∧ f.offset = 5) ∧ fs.size = 6
  f : ∃ fs, P.underlying tF = some (.struct fs) ∧ (∃ f, fs[0]? = some f ∧ f.type = tS ∧ f.offset = 0) ∧ (∃ f, fs[1]? = some f ∧ f.type = tV ∧ f.offset = 1) ∧ fs.size = 2
  k : P.underlying tK = some (.int .i64)
  b : P.underlying tB = some .bool
  i : P.underlying tI = some (.int .i64)
  s : P.underlying tS = some .string
  l : P.underlying tL = some (.slice tV)
  m : P.underlying tM = some (.slice tF)
  cV : P.cellsOf tV = 6
  cF : P.cellsOf tF = 7
  cK : P.cellsOf tK = 1
  cB : P.cellsOf tB = 1
  cI : P.cellsOf tI = 1
  cS : P.cellsOf tS = 1
  cL : P.cellsOf tL = 1
  cM : P.cellsOf tM = 1
section
variable {H : Type} {enc : TypeId × Value → H} {P : Program} {W : World} {sp : Nat → Bool} {held : Bool} {tV tF tK tB tI tS tL tM : TypeId}
theorem all_map' {α : Type} {p : α → Prop} {f : α → DV} : ∀ {ys : List DV}, (∀ y ∈ ys, ∃ x, p x ∧ y = f x) → ∃ xs : List α, (∀ x ∈ xs, p x) ∧ ys = xs.map f
  | [], _ => ⟨[], fun _ h => (by cases h), rfl⟩
  | y :: ys, h => by
    obtain ⟨x, hp, rfl⟩ := h y (by simp)
    obtain ⟨xs, hps, rfl⟩ := all_map' (ys := ys) fun z hz => h z (by simp [hz])
    exact ⟨x :: xs, fun z hz => by rcases List.mem_cons.1 hz with rfl | hz; exact hp; exact hps z hz, rfl⟩
theorem list_cell {fuel : Nat} {t e : TypeId} {sz : Nat} (hsz0 : 0 < sz) (Good : DV → Prop) (ht : P.underlying t = some (.slice e)) (hsz : P.cellsOf e = sz) {c : Value} {x : DataW H × List MemPlace} (h : DataW.trod enc P W 0 sp held fuel t [c] = some x)
    (hel : ∀ m, m < fuel → ∀ cs d p, DataW.trod enc P W 0 sp held m e cs = some (d, p) → cs.length = sz → ∃ y, Go.AV.Reads W Good sz cs y) : ∃ ys, RepD (ctx0 W).mem c (.lst sz ys) ∧ (∀ y ∈ ys, Good y) := by
  cases fuel with
  | zero => simp [DataW.trod] at h
  | succ n =>
    rcases DataW.trod_slice ht h with ⟨h1, _⟩ | ⟨a, len, cap, _, _, m, h0, h1, _⟩
    · cases h1
      exact ⟨[], .lstE _ _ _, fun _ h => (by cases h)⟩
    · cases h1
      obtain ⟨d, p⟩ := x
      exact rep_slice hsz0 Good ht hsz (hel n (by omega)) h
theorem one_cell {Good : DV → Prop} {c : Value} {y : DV} (h : Go.AV.Reads W Good 1 [c] y) (e : y.cells = [y]) : RepD (ctx0 W).mem c y := by
  have := h.at_ 0 (by simp) (by rw [e]; simp)
  simpa [e] using this
theorem reads_both (T : VTypes P tV tF tK tB tI tS tL tM) : ∀ (N fuel : Nat), fuel ≤ N →
    (∀ (cs : List Value) d p, DataW.trod enc P W 0 sp held fuel tV cs = some (d, p) → cs.length = 6 → ∃ y, Go.AV.Reads W (fun y => ∃ v, WfV v ∧ y = vD v) 6 cs y) ∧
    (∀ (cs : List Value) d p, DataW.trod enc P W 0 sp held fuel tF cs = some (d, p) → cs.length = 7 → ∃ y, Go.AV.Reads W (fun y => ∃ f : F, WfV f.val ∧ y = fD f) 7 cs y)
  | 0, fuel, hf => by
    have : fuel = 0 := by omega
    subst this
    exact ⟨fun _ _ _ h => by simp [DataW.trod] at h, fun _ _ _ h => by simp [DataW.trod] at h⟩
  | N + 1, fuel, hf => by
    refine ⟨fun cs d p h hl => ?_, fun cs d p h hl => ?_⟩
    · obtain ⟨fs, hu, ⟨f0, g0, e0, o0⟩, ⟨f1, g1, e1, o1⟩, ⟨f2, g2, e2, o2⟩, ⟨f3, g3, e3, o3⟩, ⟨f4, g4, e4, o4⟩, ⟨f5, g5, e5, o5⟩, hsz⟩ := T.v
      obtain ⟨xs, n, hn, _, _, hxl, hx⟩ := DataW.trod_struct hu h
      subst hn
      obtain ⟨c0, c1, c2, c3, c4, c5, rfl⟩ : ∃ c0 c1 c2 c3 c4 c5, cs = [c0, c1, c2, c3, c4, c5] := by
        match cs, hl with
        | [c0, c1, c2, c3, c4, c5], _ => exact ⟨_, _, _, _, _, _, rfl⟩
      have get : ∀ i, i < 6 → ∃ x, xs[i]? = some x := fun i hi => ⟨_, List.getElem?_eq_getElem (by omega)⟩
      have q0 := hx 0 f0 g0
      have q1 := hx 1 f1 g1
      have q2 := hx 2 f2 g2
      have q3 := hx 3 f3 g3
      have q4 := hx 4 f4 g4
      have q5 := hx 5 f5 g5
      rw [e0, o0, T.cK] at q0
      rw [e1, o1, T.cB] at q1
      rw [e2, o2, T.cI] at q2
      rw [e3, o3, T.cS] at q3
      rw [e4, o4, T.cL] at q4
      rw [e5, o5, T.cM] at q5
      obtain ⟨⟨_, _⟩, x0⟩ := get 0 (by decide)
      obtain ⟨⟨_, _⟩, x1⟩ := get 1 (by decide)
      obtain ⟨⟨_, _⟩, x2⟩ := get 2 (by decide)
      obtain ⟨⟨_, _⟩, x3⟩ := get 3 (by decide)
      obtain ⟨⟨_, _⟩, x4⟩ := get 4 (by decide)
      obtain ⟨⟨_, _⟩, x5⟩ := get 5 (by decide)
      rw [x0] at q0; rw [x1] at q1; rw [x2] at q2; rw [x3] at q3; rw [x4] at q4; rw [x5] at q5
      obtain ⟨y0, r0⟩ := reads_int T.k q0
      obtain ⟨y1, r1⟩ := reads_bool T.b q1
      obtain ⟨y2, r2⟩ := reads_int T.i q2
      obtain ⟨y3, r3⟩ := reads_str T.s q3
      obtain ⟨k, rfl, wk⟩ := r0.good
      obtain ⟨b, rfl⟩ := r1.good
      obtain ⟨i, rfl, wi⟩ := r2.good
      obtain ⟨s, rfl⟩ := r3.good
      obtain ⟨ls', r4, l4⟩ := list_cell (by decide) _ T.l T.cV q4 fun m hm => (reads_both T N m (by omega)).1
      obtain ⟨fs', r5, l5⟩ := list_cell (by decide) _ T.m T.cF q5 fun m hm => (reads_both T N m (by omega)).2
      obtain ⟨ls, wl, rfl⟩ := all_map' l4
      obtain ⟨ffs, wf, rfl⟩ := all_map' l5
      refine ⟨vD (.mk k b i s ls ffs), rfl, by rw [vD_cells]; rfl, fun z hz => vC_one _ z hz, ⟨_, .mk _ _ _ _ _ _ (wf_i64 wk) (wf_i64 wi) wl wf, rfl⟩, fun j hj hj' => ?_⟩
      have ec : (vD (.mk k b i s ls ffs)).cells = [.v (.int .i64 k), TF b, .v (.int .i64 i), S s, .lst 6 (ls.map vD), .lst 7 (ffs.map fD)] := vD_cells _
      have p0 := one_cell r0 rfl
      have p1 := one_cell r1 rfl
      have p2 := one_cell r2 rfl
      have p3 := one_cell r3 rfl
      simp only [ec]
      match j, hj with
      | 0, _ => exact p0
      | 1, _ => exact p1
      | 2, _ => exact p2
      | 3, _ => exact p3
      | 4, _ => exact r4
      | 5, _ => exact r5
    · obtain ⟨fs, hu, ⟨f0, g0, e0, o0⟩, ⟨f1, g1, e1, o1⟩, hsz⟩ := T.f
      obtain ⟨xs, n, hn, _, _, hxl, hx⟩ := DataW.trod_struct hu h
      subst hn
      obtain ⟨c0, cs', rfl⟩ : ∃ c0 cs', cs = c0 :: cs' := List.exists_cons_of_ne_nil (by intro e; subst e; cases hl)
      have hl' : cs'.length = 6 := by simpa using hl
      have get : ∀ i, i < 2 → ∃ x, xs[i]? = some x := fun i hi => ⟨_, List.getElem?_eq_getElem (by omega)⟩
      have q0 := hx 0 f0 g0
      have q1 := hx 1 f1 g1
      rw [e0, o0, T.cS] at q0
      rw [e1, o1, T.cV, List.drop_succ_cons, List.drop_zero, List.take_of_length_le (by omega)] at q1
      obtain ⟨⟨_, _⟩, x0⟩ := get 0 (by decide)
      obtain ⟨⟨_, _⟩, x1⟩ := get 1 (by decide)
      rw [x0] at q0; rw [x1] at q1
      obtain ⟨y0, r0⟩ := reads_str T.s q0
      obtain ⟨s, rfl⟩ := r0.good
      obtain ⟨y1, r1⟩ := (reads_both T N n (by omega)).1 _ _ _ q1 hl'
      obtain ⟨v, wv, rfl⟩ := r1.good
      have p0 := one_cell r0 rfl
      have ec : (fD (.mk s v)).cells = S s :: (vD v).cells := fD_cells _
      refine ⟨fD (.mk s v), hl, by rw [ec, List.length_cons, r1.ylen], fun z hz => fC_one _ z hz, ⟨.mk s v, wv, rfl⟩, fun j hj hj' => ?_⟩
      simp only [ec]
      match j, hj with
      | 0, _ => exact p0
      | j + 1, hj => exact r1.at_ j (by simpa using hj) (by rw [ec] at hj'; simpa using hj')
end
end Go.AV.Val
namespace Go.AV.Val
open Go.AV.Ord Go.AV.Oct
section
variable {H : Type} {enc : TypeId × Value → H} {P : Program} {W : World} {sp : Nat → Bool} {held : Bool}
end
end Go.AV.Val
namespace Go.AV.Hist
open Go.AV.Ord Go.AV.Oct Go.AV.Val
structure Pt where
  c : Int
  q : Int
  id : Int
  gone : Bool
  ready : Int
  count : Int
  token : Int
def tC (p : Pt) : List DV := [I p.c, I p.q, I p.id, TF p.gone, I p.ready, I p.count, I p.token]
def tD (p : Pt) : DV := .agg (tC p)
theorem tC_one (p : Pt) : ∀ d ∈ tC p, d.one = true := by simp [tC, DV.one, I, TF]
structure PTypes (P : Program) (tP tI tB tQ : TypeId) : Prop where
  p : ∃ fs, P.underlying tP = some (.struct fs) ∧ (∀ i < 7, ∃ f, fs[i]? = some f ∧ f.type = (if i = 3 then tB else tI) ∧ f.offset = i) ∧ fs.size = 7
  i : P.underlying tI = some (.int .i64)
  b : P.underlying tB = some .bool
  q : P.underlying tQ = some (.slice tP)
  cP : P.cellsOf tP = 7
  cI : P.cellsOf tI = 1
  cB : P.cellsOf tB = 1
section
variable {H : Type} {enc : TypeId × Value → H} {P : Program} {W : World} {sp : Nat → Bool} {held : Bool} {tP tI tB tQ : TypeId}
theorem reads_put (T : PTypes P tP tI tB tQ) {fuel : Nat} {cs : List Value} {d : DataW H} {p : List MemPlace} (h : DataW.trod enc P W 0 sp held fuel tP cs = some (d, p)) (hl : cs.length = 7) : ∃ y, Go.AV.Reads W (fun y => ∃ o : Pt, y = tD o) 7 cs y := by
  obtain ⟨fs, hu, hf, hsz⟩ := T.p
  obtain ⟨xs, n, hn, _, _, hxl, hx⟩ := DataW.trod_struct hu h
  subst hn
  obtain ⟨c0, c1, c2, c3, c4, c5, c6, rfl⟩ : ∃ c0 c1 c2 c3 c4 c5 c6, cs = [c0, c1, c2, c3, c4, c5, c6] := by
    match cs, hl with
    | [c0, c1, c2, c3, c4, c5, c6], _ => exact ⟨_, _, _, _, _, _, _, rfl⟩
  have get : ∀ i, i < 7 → ∃ x, xs[i]? = some x := fun i hi => ⟨_, List.getElem?_eq_getElem (by omega)⟩
  have int : ∀ i, i < 7 → i ≠ 3 → ∀ c, ([c0, c1, c2, c3, c4, c5, c6].drop i).take 1 = [c] → ∃ k : Int, RepD (ctx0 W).mem c (I k) := fun i hi h3 c hc => by
    obtain ⟨f, g, e, o⟩ := hf i hi
    have q := hx i f g
    rw [if_neg h3] at e
    rw [e, o, T.cI, hc] at q
    obtain ⟨⟨_, _⟩, x⟩ := get i hi
    rw [x] at q
    obtain ⟨y, r⟩ := reads_int T.i q
    obtain ⟨k, rfl, _⟩ := r.good
    exact ⟨k, one_cell r rfl⟩
  obtain ⟨k0, r0⟩ := int 0 (by decide) (by decide) c0 rfl
  obtain ⟨k1, r1⟩ := int 1 (by decide) (by decide) c1 rfl
  obtain ⟨k2, r2⟩ := int 2 (by decide) (by decide) c2 rfl
  obtain ⟨k4, r4⟩ := int 4 (by decide) (by decide) c4 rfl
  obtain ⟨k5, r5⟩ := int 5 (by decide) (by decide) c5 rfl
  obtain ⟨k6, r6⟩ := int 6 (by decide) (by decide) c6 rfl
  obtain ⟨b, r3⟩ : ∃ b : Bool, RepD (ctx0 W).mem c3 (TF b) := by
    obtain ⟨f, g, e, o⟩ := hf 3 (by decide)
    have q := hx 3 f g
    rw [if_pos rfl] at e
    rw [e, o, T.cB] at q
    obtain ⟨⟨_, _⟩, x⟩ := get 3 (by decide)
    rw [x] at q
    obtain ⟨y, r⟩ := reads_bool T.b q
    obtain ⟨k, rfl⟩ := r.good
    exact ⟨k, one_cell r rfl⟩
  refine ⟨tD ⟨k0, k1, k2, b, k4, k5, k6⟩, rfl, rfl, fun z hz => tC_one _ z hz, ⟨_, rfl⟩, fun j hj hj' => ?_⟩
  match j, hj with
  | 0, _ => exact r0
  | 1, _ => exact r1
  | 2, _ => exact r2
  | 3, _ => exact r3
  | 4, _ => exact r4
  | 5, _ => exact r5
  | 6, _ => exact r6
theorem put_len {m : Nat → Nat → Option Value} {a : Option Addr} {n cap sz : Nat} {ys : List DV} (h : RepD m (.slice a n cap) (.lst sz ys)) : ys.length = n := by
  cases h with
  | lstE => rfl
  | lst => assumption
theorem arg_puts (T : PTypes P tP tI tB tQ) {r : Reach} {b0 : Nat} {v : Value} {d : DataW H} {ps : List MemPlace} (hval : Value.okWide P W r b0 tQ v) (hd : DataW.Trod enc P W 0 sp held tQ v d ps) :
    ∃ l : List Pt, l.length ≤ 9223372036854775807 ∧ Rep (ctx0 W) v (.d (.lst 7 (l.map tD))) := by
  obtain ⟨ys, h1, h2⟩ := arg_list (by decide) (fun y => ∃ o : Pt, y = tD o) T.q T.cP hval hd fun fuel cs d p h hl => reads_put T h hl
  obtain ⟨l, rfl⟩ := all_map h1
  refine ⟨l, ?_, h2⟩
  obtain ⟨fuel, hf⟩ := hd
  cases h2 with
  | d h2 =>
    cases fuel with
    | zero => simp [DataW.trod] at hf
    | succ n =>
      have h3 := h2
      have hcl : ∀ c, v.cells.toList = [c] → v = c → l.length ≤ 9223372036854775807 := by
        intro c hc hv
        rw [hc] at hf
        rcases DataW.trod_slice T.q hf with ⟨e, _⟩ | ⟨ad, len, cap, _, _, m, h0, e, _, _, q2, q3, _⟩
        · subst hv
          obtain rfl := List.head_eq_of_cons_eq e
          have := put_len h3
          simp at this
          subst this; decide
        · subst hv
          obtain rfl := List.head_eq_of_cons_eq e
          have := put_len h3
          simp at this
          have hmax : (maxLen : Nat) = 9223372036854775807 := by decide
          omega
      generalize l.map tD = m at h2
      cases h2 with
      | lst => exact hcl _ rfl rfl
      | lstE => exact hcl _ rfl rfl
end
end Go.AV.Hist
namespace Go.AV.Val
open Go.AV.Ord Go.AV.Oct
def kind6 (k : Int) : Int := (IntKind.u64.wrap k) % 6
mutual
def lawR : V → V
  | .mk k y i t l fs => if kind6 k = 1 then .mk 1 y 0 [] [] [] else if kind6 k = 2 then .mk 2 false i [] [] [] else if kind6 k = 3 then .mk 3 false 0 t [] [] else if kind6 k = 4 then .mk 4 false 0 [] (lawRs l) [] else if kind6 k = 5 then ofMapV (lawRf fs) else .mk 0 false 0 [] [] []
def lawRs : List V → List V
  | [] => []
  | v :: l => lawR v :: lawRs l
def lawRf : List F → List F
  | [] => []
  | .mk n v :: l => .mk n (lawR v) :: lawRf l
end
def lawF (f : F) : F := .mk f.name (lawR f.val)
theorem lawRs_map : ∀ l : List V, lawRs l = l.map lawR
  | [] => by simp [lawRs]
  | v :: l => by rw [lawRs, lawRs_map l]; rfl
theorem lawRf_map : ∀ l : List F, lawRf l = l.map lawF
  | [] => by simp [lawRf]
  | .mk n v :: l => by rw [lawRf, lawRf_map l]; rfl
theorem lawR_mk (k : Int) (y : Bool) (i : Int) (t : List UInt8) (l : List V) (fs : List F) : lawR (.mk k y i t l fs) = if kind6 k = 1 then .mk 1 y 0 [] [] [] else if kind6 k = 2 then .mk 2 false i [] [] [] else if kind6 k = 3 then .mk 3 false 0 t [] [] else if kind6 k = 4 then .mk 4 false 0 [] (l.map lawR) [] else if kind6 k = 5 then ofMapV (fs.map lawF) else .mk 0 false 0 [] [] [] := by
  rw [lawR, lawRs_map, lawRf_map]
theorem lawR_few : ∀ (n : Nat) (v : V), fewV n v = true → WfV v → rightV n (lawR v) = true ∧ fewV n (lawR v) = true ∧ WfV (lawR v)
  | 0, _, h, _ => by simp [fewV] at h
  | n + 1, .mk k y i t l fs, h, hw => by
    obtain ⟨h1, h2, h3, h4, h5⟩ := few_parts h
    simp only [V.list, V.fields, V.text] at h1 h2 h3 h4 h5
    have hl : ∀ x ∈ l.map lawR, rightV n x = true ∧ fewV n x = true ∧ WfV x := fun x hx => by
      obtain ⟨z, hz, rfl⟩ := List.mem_map.1 hx
      exact lawR_few n z (h4 z hz) (hw.l z hz)
    have hf : ∀ f ∈ ofF (fs.map lawF), f.name.length ≤ 40 ∧ rightV n f.val = true ∧ fewV n f.val = true ∧ WfV f.val := fun f hf => by
      obtain ⟨z, hz, rfl⟩ := List.mem_map.1 (ofF_mem hf)
      have := lawR_few n z.val (h5 z hz).2 (hw.f z hz)
      exact ⟨(h5 z hz).1, this⟩
    have hlen := ofF_len (fs.map lawF)
    rw [List.length_map] at hlen
    rw [lawR_mk]
    split
    · exact ⟨by simp [rightV, onlyV, rises, V.kind, V.yes, V.num, V.text, V.list, V.fields], by simp [fewV, fewTop, V.text, V.list, V.fields], wf_0 _ (by unfold i64; decide) _ _⟩
    · split
      · exact ⟨by simp [rightV, onlyV, rises, V.kind, V.yes, V.num, V.text, V.list, V.fields], by simp [fewV, fewTop, V.text, V.list, V.fields], wf_int hw.n⟩
      · split
        · exact ⟨by simp [rightV, onlyV, rises, V.kind, V.yes, V.num, V.text, V.list, V.fields], by simp [fewV, fewTop, V.text, V.list, V.fields, h3], wf_0 _ (by unfold i64; decide) _ _⟩
        · split
          · refine ⟨?_, ?_, .mk _ _ _ _ _ _ (by unfold i64; decide) i64_0 (fun x hx => (hl x hx).2.2) (fun _ h => by cases h)⟩
            · have : (l.map lawR).all (rightV n) = true := by rw [List.all_eq_true]; exact fun x hx => (hl x hx).1
              rw [rightV]
              simp only [V.fields, V.list, this, rises, Bool.and_true, List.all_nil]; rfl
            · have : (l.map lawR).all (fewV n) = true := by rw [List.all_eq_true]; exact fun x hx => (hl x hx).2.1
              rw [fewV]
              simp only [fewTop, V.fields, V.list, V.text, this, List.all_nil, Bool.and_true, List.length_map, List.length_nil]
              simp [h1]
          · split
            · refine ⟨?_, ?_, .mk _ _ _ _ _ _ (by unfold i64; decide) i64_0 (fun _ h => by cases h) (fun f hf' => (hf f hf').2.2.2)⟩
              · have : (ofF (fs.map lawF)).all (fun f => rightV n f.val) = true := by rw [List.all_eq_true]; exact fun x hx => (hf x hx).2.1
                rw [rightV]
                simp only [ofMapV, V.fields, V.list, this, ofF_rises, Bool.and_true, List.all_nil]; rfl
              · have : ((ofF (fs.map lawF)).all fun f => decide (f.name.length ≤ 40) && fewV n f.val) = true := by
                  rw [List.all_eq_true]; intro x hx
                  have := hf x hx
                  simp [this.1, this.2.2.1]
                rw [fewV]
                simp only [ofMapV, fewTop, V.fields, V.list, V.text, this, List.all_nil, Bool.and_true, List.length_nil]
                have e : (ofF (fs.map lawF)).length ≤ 8 := by omega
                simp [e]
            · exact ⟨by simp [rightV, onlyV, rises, V.kind, V.yes, V.num, V.text, V.list, V.fields], by simp [fewV, fewTop, V.text, V.list, V.fields], wf_0 _ i64_0 _ _⟩
theorem right_mono : ∀ (n m : Nat) (v : V), n ≤ m → rightV n v = true → rightV m v = true
  | 0, _, _, _, h => by simp [rightV] at h
  | n + 1, m, v, hm, h => by
    obtain ⟨k, rfl⟩ : ∃ k, m = k + 1 := ⟨m - 1, by omega⟩
    simp only [rightV, Bool.and_eq_true, List.all_eq_true] at h ⊢
    exact ⟨⟨h.1.1, fun f hf => right_mono n k _ (by omega) (h.1.2 f hf)⟩, fun x hx => right_mono n k _ (by omega) (h.2 x hx)⟩
mutual
def ordV : V → List UInt8
  | .mk k y i t l fs => UInt8.ofNat (k.toNat + 2) :: (if k = 1 then [if y then 3 else 2] else if k = 2 then encI i else if k = 3 then encT t else if k = 4 then ordL l ++ [1] else if k = 5 then ordFs fs ++ [1] else [])
def ordL : List V → List UInt8
  | [] => []
  | v :: l => ordV v ++ ordL l
def ordFs : List F → List UInt8
  | [] => []
  | .mk n v :: l => 2 :: encT n ++ ordV v ++ ordFs l
end
def ordF1 (f : F) : List UInt8 := 2 :: (encT f.name ++ ordV f.val)
theorem ordL_flat : ∀ l : List V, ordL l = l.flatMap ordV
  | [] => by simp [ordL]
  | v :: l => by rw [ordL, ordL_flat l]; rfl
theorem ordFs_flat : ∀ l : List F, ordFs l = l.flatMap ordF1
  | [] => by simp [ordFs]
  | .mk n v :: l => by rw [ordFs, ordFs_flat l]; simp [ordF1, F.name, F.val]
theorem ordV_mk (k : Int) (y : Bool) (i : Int) (t : List UInt8) (l : List V) (fs : List F) : ordV (.mk k y i t l fs) = UInt8.ofNat (k.toNat + 2) :: (if k = 1 then [if y then 3 else 2] else if k = 2 then encI i else if k = 3 then encT t else if k = 4 then l.flatMap ordV ++ [1] else if k = 5 then fs.flatMap ordF1 ++ [1] else []) := by
  rw [ordV, ordL_flat, ordFs_flat]
end Go.AV.Val
namespace Go.AV.Val
open Go.AV.Ord Go.AV.Oct
structure TwoB (Hs : HS) (tV : TypeId) (H : HS) (b : HB) : Prop where
  e0 : H.blks[Hs.nb]? = some (vBlk tV 0 false 0 [] nilS nilS)
  e1 : H.blks[Hs.nb + 1]? = some b
  ext : Ext Hs H
section
variable {Hs H : HS} {tV : TypeId} {b : HB}
theorem TwoB.start (Hs : HS) (tV : TypeId) {z : List AV} (b : HB) : TwoB Hs tV (((Hs.push tV (vs6 0 false 0 [] nilS nilS)).push tV z).setB (Hs.nb + 1) b) b := by
  have n1 : (Hs.push tV (vs6 0 false 0 [] nilS nilS)).nb = Hs.nb + 1 := push_nb
  refine ⟨by rw [setB_ne (by omega)]; exact push_ne push_at, ?_, ((((Ext.refl Hs).push _ _).push _ _).setB (by omega))⟩
  exact setB_at (b := ⟨tV, z, false⟩) (by rw [← n1]; exact push_at)
theorem TwoB.lt (h : TwoB Hs tV H b) : Hs.nb + 1 < H.nb := lt_nb h.e1
theorem TwoB.up {t : Option Nat} {n m : Nat} (h : TwoB Hs tV H b) (hn : NewTok Hs t) (hok : H.ok t m) : TwoB Hs tV (H.up t n) b := ⟨by rw [HS.up_blks]; exact h.e0, by rw [HS.up_blks]; exact h.e1, (h.ext.upN hn hok).1⟩
end
end Go.AV.Val
namespace Go.AV.Val
open Go.AV.Ord Go.AV.Oct
theorem byL_head {c d : UInt8} {x y : List UInt8} (h : c.toNat < d.toNat) : byL (c :: x) (d :: y) = -1 := by
  have : c < d := UInt8.lt_iff_toNat_lt.2 h
  exact byL_lt (by simp [Op.bytesLess, this])
theorem byL_head' {c d : UInt8} {x y : List UInt8} (h : d.toNat < c.toNat) : byL (c :: x) (d :: y) = 1 := by
  have : d < c := UInt8.lt_iff_toNat_lt.2 h
  exact byL_gt (by simp [Op.bytesLess, this])
theorem byL_cons (c : UInt8) (x y : List UInt8) : byL (c :: x) (c :: y) = byL x y := byL_append [c] x y
theorem ordV_head {d : Nat} {v : V} (h : rightV d v = true) : ∃ c r, ordV v = c :: r ∧ c.toNat = v.kind.toNat + 2 ∧ 0 ≤ v.kind ∧ v.kind ≤ 5 := by
  cases d with
  | zero => simp [rightV] at h
  | succ d =>
    obtain ⟨h1, _⟩ := right_only h
    obtain ⟨h0, h5, _⟩ := only_list h1
    cases v with
    | mk k y i t l fs =>
      simp only [V.kind] at h0 h5 ⊢
      exact ⟨_, _, ordV_mk .., ofNat_toNat (by omega), h0, h5⟩
def Agree {α : Type} (a b : α) (c : Int) (x y : List UInt8) : Prop := (a = b ∧ c = 0) ∨ (a ≠ b ∧ c ≠ 0 ∧ ∀ m o, byL (x ++ m) (y ++ o) = c)
theorem ordL_cmp {d : Nat} : ∀ (l l' : List V), (∀ x ∈ l, rightV d x = true) → (∀ x ∈ l', rightV d x = true) → (∀ x ∈ l, ∀ y ∈ l', Agree x y (cmpV x y) (ordV x) (ordV y)) → Agree l l' (cmpL l l') (l.flatMap ordV ++ [1]) (l'.flatMap ordV ++ [1])
  | [], [], _, _, _ => .inl ⟨rfl, cmpL_nn⟩
  | [], y :: l', _, h2, _ => by
    refine .inr ⟨by simp, by rw [cmpL_nc]; decide, fun m o => ?_⟩
    obtain ⟨c, r, e, hc, _⟩ := ordV_head (h2 y (by simp))
    rw [cmpL_nc, List.flatMap_cons, e]
    exact byL_head (by rw [hc]; show 1 < _; omega)
  | x :: l, [], h1, _, _ => by
    refine .inr ⟨by simp, by rw [cmpL_cn]; decide, fun m o => ?_⟩
    obtain ⟨c, r, e, hc, _⟩ := ordV_head (h1 x (by simp))
    rw [cmpL_cn, List.flatMap_cons, e]
    exact byL_head' (by rw [hc]; show 1 < _; omega)
  | x :: l, y :: l', h1, h2, h => by
    have ih := ordL_cmp l l' (fun z hz => h1 z (by simp [hz])) (fun z hz => h2 z (by simp [hz])) (fun a ha b hb => h a (by simp [ha]) b (by simp [hb]))
    rw [cmpL_cons]
    rcases h x (by simp) y (by simp) with ⟨rfl, h0⟩ | ⟨hne, h0, hb⟩
    · rw [h0]
      rcases ih with ⟨rfl, h3⟩ | ⟨hne, h3, hb⟩
      · exact .inl ⟨rfl, h3⟩
      · refine .inr ⟨by simpa using hne, h3, fun m o => ?_⟩
        rw [List.flatMap_cons, List.flatMap_cons, List.append_assoc, List.append_assoc, List.append_assoc, List.append_assoc, byL_append]
        have := hb m o
        rw [List.append_assoc, List.append_assoc] at this
        exact this
    · rw [if_pos h0]
      refine .inr ⟨fun e => hne (by injection e), h0, fun m o => ?_⟩
      rw [List.flatMap_cons, List.flatMap_cons, List.append_assoc, List.append_assoc, List.append_assoc, List.append_assoc]
      exact hb _ _
theorem ordF_cmp : ∀ (l l' : List F), (∀ x ∈ l, ∀ y ∈ l', Agree x.val y.val (cmpV x.val y.val) (ordV x.val) (ordV y.val)) → Agree l l' (cmpF l l') (l.flatMap ordF1 ++ [1]) (l'.flatMap ordF1 ++ [1])
  | [], [], _ => .inl ⟨rfl, cmpF_nn⟩
  | [], y :: l', _ => by
    refine .inr ⟨by simp, by rw [cmpF_nc]; decide, fun m o => ?_⟩
    rw [cmpF_nc, List.flatMap_cons]
    exact byL_head (by decide)
  | x :: l, [], _ => by
    refine .inr ⟨by simp, by rw [cmpF_cn]; decide, fun m o => ?_⟩
    rw [cmpF_cn, List.flatMap_cons]
    exact byL_head' (by decide)
  | x :: l, y :: l', h => by
    have ih := ordF_cmp l l' (fun a ha b hb => h a (by simp [ha]) b (by simp [hb]))
    rw [cmpF_cons]
    have e1 : ∀ m, (x :: l).flatMap ordF1 ++ [1] ++ m = 2 :: (encT x.name ++ (ordV x.val ++ (l.flatMap ordF1 ++ [1] ++ m))) := fun m => by simp [ordF1]
    have e2 : ∀ m, (y :: l').flatMap ordF1 ++ [1] ++ m = 2 :: (encT y.name ++ (ordV y.val ++ (l'.flatMap ordF1 ++ [1] ++ m))) := fun m => by simp [ordF1]
    by_cases hn : x.name = y.name
    · have hc : Lib.compareBytes x.name y.name = 0 := cb_eq.2 hn
      have hcf : cmpF1 x y = cmpV x.val y.val := by unfold cmpF1 orI; rw [hc]; simp
      rw [hcf]
      rcases h x (by simp) y (by simp) with ⟨hv, h0⟩ | ⟨hne, h0, hb⟩
      · have hxy : x = y := by
          rw [x.eta, y.eta, hn, hv]
        rw [h0]
        rcases ih with ⟨rfl, h3⟩ | ⟨hne, h3, hb⟩
        · exact .inl ⟨by rw [hxy], h3⟩
        · refine .inr ⟨by simpa [hxy] using hne, h3, fun m o => ?_⟩
          rw [e1, e2, byL_cons, hn, byL_append, hv, byL_append]
          exact hb m o
      · rw [if_pos h0]
        refine .inr ⟨fun e => hne (by injection e with e _; rw [e]), h0, fun m o => ?_⟩
        rw [e1, e2, byL_cons, hn, byL_append]
        exact hb _ _
    · have hc : ¬ Lib.compareBytes x.name y.name = 0 := fun e => hn (cb_eq.1 e)
      have hcf : cmpF1 x y = Lib.compareBytes x.name y.name := by unfold cmpF1 orI; rw [if_pos hc]
      rw [hcf, if_pos hc]
      refine .inr ⟨fun e => hn (by injection e with e _; rw [e]), hc, fun m o => ?_⟩
      rw [e1, e2, byL_cons, byL_encT hn, cb_byL]
theorem cmpI_ne {a b : Int} (h : a ≠ b) : cmpI a b ≠ 0 := by unfold cmpI; (repeat' split) <;> omega
theorem cmpI_self (a : Int) : cmpI a a = 0 := by simp [cmpI]
theorem encI_by {a b : Int} (ha : i64 a) (hb : i64 b) (h : a ≠ b) (m o : List UInt8) : byL (encI a ++ m) (encI b ++ o) = cmpI a b := by
  unfold cmpI
  by_cases h1 : a < b
  · rw [if_pos h1]
    exact byL_lt (less_ext (by rw [encI_len, encI_len]) (encI_less ha hb h1) m o)
  · rw [if_neg h1, if_pos (by omega)]
    exact byL_gt (less_ext (by rw [encI_len, encI_len]) (encI_less hb ha (by omega)) o m)
theorem cmpV_mm (k k' : Int) (y y' : Bool) (i i' : Int) (t t' : List UInt8) (l l' : List V) (fs fs' : List F) : cmpV (.mk k y i t l fs) (.mk k' y' i' t' l' fs') = if cmpI k k' ≠ 0 then cmpI k k' else if k = 1 then cmpI (yesI y) (yesI y') else if k = 2 then cmpI i i' else if k = 3 then Lib.compareBytes t t' else if k = 4 then cmpL l l' else if k = 5 then cmpF fs fs' else 0 := by rw [cmpV_mk]; rfl
theorem ordV_cmp : ∀ (d : Nat) (a b : V), rightV d a = true → rightV d b = true → WfV a → WfV b → Agree a b (cmpV a b) (ordV a) (ordV b)
  | 0, _, _, h, _, _, _ => by simp [rightV] at h
  | d + 1, a, b, ha, hb, wa, wb => by
    obtain ⟨a1, a2, a3, _⟩ := right_only ha
    obtain ⟨b1, b2, b3, _⟩ := right_only hb
    have iL := fun x hx y hy => ordV_cmp d x y (a3 x hx) (b3 y hy) (wa.l x hx) (wb.l y hy)
    have iF := fun x hx y hy => ordV_cmp d (F.val x) (F.val y) (a2 x hx) (b2 y hy) (wa.f x hx) (wb.f y hy)
    have wn := wa.n
    have wn' := wb.n
    obtain ⟨k, y, i, t, l, fs, rfl⟩ : ∃ k y n t l fs, a = .mk k y n t l fs := ⟨_, _, _, _, _, _, a.eta⟩
    obtain ⟨k', y', i', t', l', fs', rfl⟩ : ∃ k y n t l fs, b = .mk k y n t l fs := ⟨_, _, _, _, _, _, b.eta⟩
    rw [only_vals] at a1 b1
    simp only [V.list, V.fields, V.num] at a2 a3 b2 b3 iL iF wn wn'
    simp only [valsV, Bool.and_eq_true, Bool.or_eq_true, beq_iff_eq, List.isEmpty_iff] at a1 b1
    obtain ⟨⟨k0, k5⟩, ⟨⟨⟨⟨py, pi⟩, pt⟩, pl⟩, pf⟩⟩ := a1
    obtain ⟨⟨j0, j5⟩, ⟨⟨⟨⟨qy, qi⟩, qt⟩, ql⟩, qf⟩⟩ := b1
    replace k0 : 0 ≤ k := of_decide_eq_true k0
    replace k5 : k ≤ 5 := of_decide_eq_true k5
    replace j0 : 0 ≤ k' := of_decide_eq_true j0
    replace j5 : k' ≤ 5 := of_decide_eq_true j5
    rw [cmpV_mm, ordV_mk, ordV_mk]
    by_cases hk : k = k'
    · subst hk
      rw [cmpI_self, if_neg (fun h => h rfl)]
      have hcc : ∀ X Y m o, byL ((UInt8.ofNat (k.toNat + 2) :: X) ++ m) ((UInt8.ofNat (k.toNat + 2) :: Y) ++ o) = byL (X ++ m) (Y ++ o) := fun X Y m o => byL_cons ..
      by_cases h1 : k = 1
      · subst h1
        obtain rfl := pi.resolve_left (by decide)
        obtain rfl := pt.resolve_left (by decide)
        obtain rfl := pl.resolve_left (by decide)
        obtain rfl := pf.resolve_left (by decide)
        obtain rfl := qi.resolve_left (by decide)
        obtain rfl := qt.resolve_left (by decide)
        obtain rfl := ql.resolve_left (by decide)
        obtain rfl := qf.resolve_left (by decide)
        rw [if_pos rfl, if_pos rfl, if_pos rfl]
        by_cases h : y = y'
        · subst h; exact .inl ⟨rfl, cmpI_self _⟩
        · refine .inr ⟨fun e => h (by injection e), ?_, fun m o => ?_⟩
          · cases y <;> cases y' <;> first | exact absurd rfl h | decide
          · rw [hcc]
            cases y <;> cases y' <;> first | exact absurd rfl h | exact byL_head (by decide) | exact byL_head' (by decide)
      · obtain rfl := py.resolve_left h1
        obtain rfl := qy.resolve_left h1
        rw [if_neg h1, if_neg h1, if_neg h1]
        by_cases h2 : k = 2
        · subst h2
          obtain rfl := pt.resolve_left (by decide)
          obtain rfl := pl.resolve_left (by decide)
          obtain rfl := pf.resolve_left (by decide)
          obtain rfl := qt.resolve_left (by decide)
          obtain rfl := ql.resolve_left (by decide)
          obtain rfl := qf.resolve_left (by decide)
          rw [if_pos rfl, if_pos rfl, if_pos rfl]
          by_cases h : i = i'
          · subst h; exact .inl ⟨rfl, cmpI_self _⟩
          · exact .inr ⟨fun e => h (by injection e), cmpI_ne h, fun m o => by rw [hcc]; exact encI_by wn wn' h m o⟩
        · obtain rfl := pi.resolve_left h2
          obtain rfl := qi.resolve_left h2
          rw [if_neg h2, if_neg h2, if_neg h2]
          by_cases h3 : k = 3
          · subst h3
            obtain rfl := pl.resolve_left (by decide)
            obtain rfl := pf.resolve_left (by decide)
            obtain rfl := ql.resolve_left (by decide)
            obtain rfl := qf.resolve_left (by decide)
            rw [if_pos rfl, if_pos rfl, if_pos rfl]
            by_cases h : t = t'
            · subst h; exact .inl ⟨rfl, cb_eq.2 rfl⟩
            · exact .inr ⟨fun e => h (by injection e), fun e => h (cb_eq.1 e), fun m o => by rw [hcc, byL_encT h, cb_byL]⟩
          · obtain rfl := pt.resolve_left h3
            obtain rfl := qt.resolve_left h3
            rw [if_neg h3, if_neg h3, if_neg h3]
            by_cases h4 : k = 4
            · subst h4
              obtain rfl := pf.resolve_left (by decide)
              obtain rfl := qf.resolve_left (by decide)
              rw [if_pos rfl, if_pos rfl, if_pos rfl]
              rcases ordL_cmp l l' a3 b3 iL with ⟨rfl, h⟩ | ⟨hne, h, hh⟩
              · exact .inl ⟨rfl, h⟩
              · exact .inr ⟨fun e => hne (by injection e), h, fun m o => by rw [hcc]; exact hh m o⟩
            · obtain rfl := pl.resolve_left h4
              obtain rfl := ql.resolve_left h4
              rw [if_neg h4, if_neg h4, if_neg h4]
              by_cases h5 : k = 5
              · subst h5
                rw [if_pos rfl, if_pos rfl, if_pos rfl]
                rcases ordF_cmp fs fs' iF with ⟨rfl, h⟩ | ⟨hne, h, hh⟩
                · exact .inl ⟨rfl, h⟩
                · exact .inr ⟨fun e => hne (by injection e), h, fun m o => by rw [hcc]; exact hh m o⟩
              · obtain rfl := pf.resolve_left h5
                obtain rfl := qf.resolve_left h5
                rw [if_neg h5]
                exact .inl ⟨rfl, rfl⟩
    · rw [if_pos (cmpI_ne hk)]
      refine .inr ⟨fun e => hk (by injection e), cmpI_ne hk, fun m o => ?_⟩
      have e1 : (UInt8.ofNat (k.toNat + 2)).toNat = k.toNat + 2 := ofNat_toNat (by omega)
      have e2 : (UInt8.ofNat (k'.toNat + 2)).toNat = k'.toNat + 2 := ofNat_toNat (by omega)
      unfold cmpI
      by_cases h : k < k'
      · rw [if_pos h]; exact byL_head (by rw [e1, e2]; omega)
      · rw [if_neg h, if_pos (show k' < k by omega)]; exact byL_head' (by rw [e1, e2]; omega)
section
variable {d : Nat} {a b c : V}
theorem byL_vals (x y : List UInt8) : byL x y = -1 ∨ byL x y = 0 ∨ byL x y = 1 := by
  unfold byL
  split
  · exact .inl rfl
  · split
    · exact .inr (.inr rfl)
    · exact .inr (.inl rfl)
theorem byL_neg (x y : List UInt8) : byL y x = - byL x y := by
  by_cases h : x = y
  · subst h; rw [byL_self]; rfl
  · by_cases h1 : Op.bytesLess x y = true
    · rw [byL_lt h1, byL_gt h1]; rfl
    · have h2 : Op.bytesLess y x = true := by rw [less_total h]; simpa using h1
      rw [byL_lt h2, byL_gt h2]
theorem byL_trans {x y z : List UInt8} (h : byL x y = byL y z) : byL x z = byL x y := by
  rcases byL_vals x y with h1 | h1 | h1
  · have h2 := h.symm.trans h1
    have l1 : Op.bytesLess x y = true := by
      cases hc : Op.bytesLess x y with
      | true => rfl
      | false => unfold byL at h1; rw [hc] at h1; simp at h1; split at h1 <;> cases h1
    have l2 : Op.bytesLess y z = true := by
      cases hc : Op.bytesLess y z with
      | true => rfl
      | false => unfold byL at h2; rw [hc] at h2; simp at h2; split at h2 <;> cases h2
    rw [byL_lt (less_trans l1 l2), h1]
  · have := byL_zero h1
    subst this
    rw [h]
  · have h2 := h.symm.trans h1
    have n1 := byL_neg x y
    have n2 := byL_neg y z
    rw [h1] at n1
    rw [h2] at n2
    have l1 : Op.bytesLess y x = true := by
      cases hc : Op.bytesLess y x with
      | true => rfl
      | false => unfold byL at n1; rw [hc] at n1; simp at n1; split at n1 <;> cases n1
    have l2 : Op.bytesLess z y = true := by
      cases hc : Op.bytesLess z y with
      | true => rfl
      | false => unfold byL at n2; rw [hc] at n2; simp at n2; split at n2 <;> cases n2
    rw [byL_gt (less_trans l2 l1), h1]
theorem ord_apart (ha : rightV d a = true) (hb : rightV d b = true) (wa : WfV a) (wb : WfV b) (h : ¬ cmpV a b = 0) (p : List UInt8) : begins (p ++ ordV a) (p ++ ordV b) = false := by
  cases hc : begins (p ++ ordV a) (p ++ ordV b) with
  | false => rfl
  | true =>
    obtain ⟨r, hr⟩ := begins_iff.1 hc
    rw [List.append_assoc] at hr
    have hr := List.append_cancel_left hr
    rcases ordV_cmp d a b ha hb wa wb with ⟨_, h0⟩ | ⟨_, h0, h2⟩
    · exact absurd h0 h
    · have := h2 [] r
      rw [List.append_nil, hr, byL_self] at this
      exact absurd this.symm h0
end
end Go.AV.Val
namespace Go.AV.Val
open Go.AV.Ord Go.AV.Oct
section
variable {P : Program} {E : Operand → AV} {H : HS} {dst : Option Tmp} {ty : TypeId} {pos : String} {after : Array Edge} {gd : Option (Nat × Bool)}
end
end Go.AV.Val
namespace Go.AV
end Go.AV
namespace Go.AV.Val
open Go.AV.Ord Go.AV.Oct
theorem only_parts {k : Int} {y : Bool} {i : Int} {tx : List UInt8} {ls : List V} {fs : List F} (h : onlyV (.mk k y i tx ls fs) = true) : (k ≠ 1 → y = false) ∧ (k ≠ 2 → i = 0) ∧ (k ≠ 3 → tx = []) ∧ (k ≠ 4 → ls = []) ∧ (k ≠ 5 → fs = []) := by
  simp only [onlyV, V.kind, V.yes, V.num, V.text, V.list, V.fields, Bool.and_eq_true, Bool.or_eq_true, beq_iff_eq, List.isEmpty_iff] at h
  obtain ⟨⟨⟨⟨⟨⟨_, _⟩, h1⟩, h2⟩, h3⟩, h4⟩, h5⟩ := h
  exact ⟨fun e => h1.resolve_left e, fun e => h2.resolve_left e, fun e => h3.resolve_left e, fun e => h4.resolve_left e, fun e => h5.resolve_left e⟩
section
variable {k : Int} {y : Bool} {i : Int} {tx : List UInt8} {ls : List V} {fs : List F} {o : V}
end
end Go.AV.Val
namespace Go.AV.Patch
open Go.AV.Ord Go.AV.Oct Go.AV.Val
def getF (fs : List F) (n : List UInt8) : Option V := (fs.find? fun f => f.name == n).map F.val
def getV (v : V) (n : List UInt8) : V × Bool := match getF v.fields n with
  | some x => (x, decide (v.kind = 5))
  | none => (V0, false)
def withV (v : V) (n : List UInt8) (x : V) : V := if v.kind = 5 then ofMapV (v.fields ++ [⟨n, x⟩]) else v
def withoutV (v : V) (n : List UInt8) : V := .mk v.kind v.yes v.num v.text v.list (v.fields.filter fun f => !(f.name == n))
structure Opn where
  kind : Int
  path : List (List UInt8)
  val : V
def rightO (o : Opn) : Bool := decide (1 ≤ o.kind) && decide (o.kind ≤ 3) && decide (0 < o.path.length) && decide (o.path.length ≤ 16) && rightV 32 o.val && (decide (o.kind ≠ 3) || decide (o.val.kind = 2)) && (decide (o.kind ≠ 2) || decide (o.val.kind = 0))
def addI (a b : Int) : Int × Bool := (IntKind.i64.wrap (a + b), decide (IntKind.i64.wrap (a + b) > a) == decide (b > 0))
def lastV (o : Opn) (v : V) (n : List UInt8) : V × Int :=
  if o.kind = 1 then (withV v n o.val, 0)
  else if (getV v n).2 = false then (V0, 5)
  else if o.kind = 2 then (withoutV v n, 0)
  else if (getV v n).1.kind ≠ 2 then (V0, 1)
  else if (addI (getV v n).1.num o.val.num).2 = false then (V0, 1)
  else (withV v n (ofInt (addI (getV v n).1.num o.val.num).1), 0)
def atV (o : Opn) : V → List (List UInt8) → V × Int
  | v, [] => if v.kind ≠ 5 then (V0, 5) else (V0, 5)
  | v, [n] => if v.kind ≠ 5 then (V0, 5) else lastV o v n
  | v, n :: m :: p => if v.kind ≠ 5 then (V0, 5) else if (getV v n).2 = false then (V0, 5) else
      if (atV o (getV v n).1 (m :: p)).2 ≠ 0 then (V0, (atV o (getV v n).1 (m :: p)).2) else (withV v n (atV o (getV v n).1 (m :: p)).1, 0)
def allV : V → List Opn → V × Int
  | v, [] => if rightV 32 v then (v, 0) else (V0, 3)
  | v, o :: l => if (atV o v o.path).2 ≠ 0 then (V0, (atV o v o.path).2) else allV (atV o v o.path).1 l
def applyV (v : V) (l : List Opn) : V × Int := if 50 < l.length then (V0, 4) else if l.all rightO then allV v l else (V0, 1)
theorem putF_snoc : ∀ (l : List F) (f : F), (∀ x ∈ l, Go.Op.bytesLess x.name f.name = true) → putF l f = l ++ [f]
  | [], f, _ => rfl
  | g :: l, f, h => by
    rw [putF, if_pos (h g (by simp)), putF_snoc l f fun x hx => h x (by simp [hx])]
    rfl
theorem rises_mid : ∀ {l : List F} {f : F} {m : List F}, rises (l ++ f :: m) = true → ∀ x ∈ l, Go.Op.bytesLess x.name f.name = true
  | [], _, _, _, x, hx => by cases hx
  | g :: l, f, m, h, x, hx => by
    rcases List.mem_cons.1 hx with rfl | hx
    · exact rises_all h f (by simp)
    · exact rises_mid (rises_tail h) x hx
theorem foldl_self : ∀ (fs l : List F), rises (l ++ fs) = true → fs.foldl putF l = l ++ fs
  | [], l, _ => by simp
  | f :: fs, l, h => by
    rw [List.foldl_cons, putF_snoc l f (rises_mid h), foldl_self fs (l ++ [f]) (by simpa using h)]
    simp
theorem ofF_self {fs : List F} (h : rises fs = true) : ofF fs = fs := foldl_self fs [] h
theorem ofF_snoc (fs : List F) (f : F) : ofF (fs ++ [f]) = putF (ofF fs) f := by simp [ofF, List.foldl_append]
theorem getF_cons (g : F) (l : List F) (n : List UInt8) : getF (g :: l) n = if g.name = n then some g.val else getF l n := by
  unfold getF
  by_cases h : g.name = n
  · rw [if_pos h, List.find?_cons_of_pos (by simpa using h)]; rfl
  · rw [if_neg h, List.find?_cons_of_neg (by simpa using h)]
theorem getF_put : ∀ (l : List F) (f : F), getF (putF l f) f.name = some f.val
  | [], f => by rw [putF, getF_cons, if_pos rfl]
  | g :: l, f => by
    rw [putF]
    split
    · rename_i h
      rw [getF_cons, if_neg fun e => by rw [e, less_irrefl] at h; cases h]
      exact getF_put l f
    · split
      · rw [getF_cons, if_pos rfl]
      · rw [getF_cons, if_pos rfl]
theorem getF_other : ∀ (l : List F) (f : F) (n : List UInt8), ¬ f.name = n → getF (putF l f) n = getF l n
  | [], f, n, h => by rw [putF, getF_cons, if_neg h]
  | g :: l, f, n, h => by
    rw [putF]
    split
    · rw [getF_cons, getF_cons, getF_other l f n h]
    · split
      · rename_i h2
        have e : g.name = f.name := by simpa using h2
        rw [getF_cons, getF_cons, if_neg h, if_neg (by rw [e]; exact h)]
      · rw [getF_cons f, if_neg h]
theorem getF_none : ∀ {l : List F} {n : List UInt8}, (∀ x ∈ l, ¬ x.name = n) → getF l n = none
  | [], _, _ => rfl
  | g :: l, n, h => by rw [getF_cons, if_neg (h g (by simp)), getF_none fun x hx => h x (by simp [hx])]
theorem getF_below {g : F} {l : List F} {n : List UInt8} (h : rises (g :: l) = true) (hn : n = g.name ∨ Go.Op.bytesLess n g.name = true) : getF l n = none := by
  refine getF_none fun x hx e => ?_
  have h1 := rises_all h x hx
  rcases hn with rfl | hn
  · exact less_ne h1 e.symm
  · exact less_ne (less_trans hn h1) e.symm
theorem fields_ext : ∀ {l m : List F}, rises l = true → rises m = true → (∀ n, getF l n = getF m n) → l = m
  | [], [], _, _, _ => rfl
  | [], g :: m, _, _, h => by have h1 := h g.name; rw [getF_cons, if_pos rfl] at h1; cases h1
  | f :: l, [], _, _, h => by have h1 := h f.name; rw [getF_cons, if_pos rfl] at h1; cases h1
  | f :: l, g :: m, hl, hm, h => by
    have hn : f.name = g.name := by
      by_cases e : f.name = g.name
      · exact e
      · exfalso
        by_cases hlt : Go.Op.bytesLess f.name g.name = true
        · have h1 := h f.name
          rw [getF_cons, if_pos rfl, getF_cons, if_neg fun e2 => e e2.symm, getF_below hm (.inr hlt)] at h1
          cases h1
        · have hgt : Go.Op.bytesLess g.name f.name = true := by rw [less_total e]; simpa using hlt
          have h1 := h g.name
          rw [getF_cons f, if_neg e, getF_cons g, if_pos rfl, getF_below hl (.inr hgt)] at h1
          cases h1
    have hv : f.val = g.val := by
      have h1 := h f.name
      rw [getF_cons, if_pos rfl, getF_cons, if_pos hn.symm] at h1
      exact Option.some.inj h1
    have hfg : f = g := by
      cases f; cases g
      simp only [F.name, F.val] at hn hv
      rw [hn, hv]
    have ht : l = m := fields_ext (rises_tail hl) (rises_tail hm) fun n => by
      by_cases e : f.name = n
      · rw [getF_below hl (.inl e.symm), getF_below hm (.inl (e.symm.trans hn))]
      · have h1 := h n
        rwa [getF_cons, if_neg e, getF_cons, if_neg (by rw [← hn]; exact e)] at h1
    rw [hfg, ht]
def delF (l : List F) (n : List UInt8) : List F := l.filter fun f => !(f.name == n)
theorem delF_cons (g : F) (l : List F) (n : List UInt8) : delF (g :: l) n = if g.name = n then delF l n else g :: delF l n := by
  unfold delF
  by_cases h : g.name = n
  · rw [if_pos h, List.filter_cons_of_neg (by simpa using h)]
  · rw [if_neg h, List.filter_cons_of_pos (by simpa using h)]
theorem getF_del : ∀ (l : List F) (n m : List UInt8), getF (delF l n) m = if m = n then none else getF l m
  | [], n, m => by split <;> rfl
  | g :: l, n, m => by
    rw [delF_cons]
    by_cases h : g.name = n
    · rw [if_pos h, getF_del l n m]
      by_cases e : m = n
      · rw [if_pos e, if_pos e]
      · rw [if_neg e, if_neg e, getF_cons, if_neg (by rw [h]; exact fun x => e x.symm)]
    · rw [if_neg h, getF_cons, getF_del l n m, getF_cons]
      by_cases e : m = n
      · rw [if_pos e, if_pos e, if_neg (by rw [e]; exact h)]
      · rw [if_neg e, if_neg e]
theorem rises_del : ∀ {l : List F} (n : List UInt8), rises l = true → rises (delF l n) = true
  | [], _, _ => rfl
  | g :: l, n, h => by
    rw [delF_cons]
    split
    · exact rises_del n (rises_tail h)
    · exact rises_cons (fun x hx => rises_all h x (List.mem_filter.1 hx).1) (rises_del n (rises_tail h))
theorem del_put {l : List F} {f : F} (hl : rises l = true) (h : getF l f.name = none) : delF (putF l f) f.name = l := by
  refine fields_ext (rises_del _ (putF_rises _ hl)) hl fun m => ?_
  rw [getF_del]
  by_cases e : m = f.name
  · rw [if_pos e, e, h]
  · rw [if_neg e, getF_other _ _ _ fun x => e x.symm]
end Go.AV.Patch
namespace Go.AV.Patch
open Go.AV.Ord Go.AV.Oct Go.AV.Val
theorem atV_one (o : Opn) (v : V) (n : List UInt8) : atV o v [n] = if v.kind ≠ 5 then (V0, 5) else lastV o v n := by rw [atV]
theorem atV_more (o : Opn) (v : V) (n m : List UInt8) (p : List (List UInt8)) : atV o v (n :: m :: p) = if v.kind ≠ 5 then (V0, 5) else if (getV v n).2 = false then (V0, 5) else
      if (atV o (getV v n).1 (m :: p)).2 ≠ 0 then (V0, (atV o (getV v n).1 (m :: p)).2) else (withV v n (atV o (getV v n).1 (m :: p)).1, 0) := by rw [atV]
theorem rightO_eq (o : Opn) : rightO o = (decide (1 ≤ o.kind) && decide (o.kind ≤ 3) && decide (0 < o.path.length) && decide (o.path.length ≤ 16) && rightV 32 o.val && (decide (o.kind ≠ 3) || decide (o.val.kind = 2)) && (decide (o.kind ≠ 2) || decide (o.val.kind = 0))) := rfl
theorem allV_cons (v : V) (o : Opn) (l : List Opn) : allV v (o :: l) = if (atV o v o.path).2 ≠ 0 then (V0, (atV o v o.path).2) else allV (atV o v o.path).1 l := by rw [allV]
end Go.AV.Patch
namespace Go.AV.Patch
open Go.AV.Ord Go.AV.Oct Go.AV.Val
inductive BndV (m : Nat) : V → Prop
  | mk (v : V) (hl : v.list.length ≤ m) (hf : v.fields.length ≤ m) (h1 : ∀ x ∈ v.list, BndV m x) (h2 : ∀ f ∈ v.fields, BndV m f.val) : BndV m v
theorem BndV.ll {m : Nat} {v : V} (h : BndV m v) : v.list.length ≤ m := by cases h; assumption
theorem BndV.fl {m : Nat} {v : V} (h : BndV m v) : v.fields.length ≤ m := by cases h; assumption
theorem BndV.l {m : Nat} {v : V} (h : BndV m v) : ∀ x ∈ v.list, BndV m x := by cases h; assumption
theorem BndV.f {m : Nat} {v : V} (h : BndV m v) : ∀ f ∈ v.fields, BndV m f.val := by cases h; assumption
theorem BndV.small {m : Nat} {v : V} (h : BndV m v) (hm : m ≤ 1000000) : SmallV v := by
  induction h with
  | mk v hl hf _ _ ih1 ih2 =>
    rw [v.eta]
    exact .mk _ _ _ _ _ _ (by omega) (by omega) ih1 ih2
theorem BndV.mono {m m' : Nat} {v : V} (h : BndV m v) (hm : m ≤ m') : BndV m' v := by
  induction h with
  | mk v hl hf _ _ ih1 ih2 => exact .mk v (by omega) (by omega) ih1 ih2
theorem few_bnd : ∀ (n : Nat) (v : V), fewV n v = true → BndV 8 v
  | 0, _, h => by simp [fewV] at h
  | n + 1, v, h => by
    obtain ⟨h1, h2, _, h4, h5⟩ := few_parts h
    exact .mk v h1 h2 (fun x hx => few_bnd n x (h4 x hx)) (fun f hf => few_bnd n f.val (h5 f hf).2)
theorem BndV.leaf {m : Nat} {v : V} (h1 : v.list = []) (h2 : v.fields = []) : BndV m v := .mk v (by rw [h1]; exact Nat.zero_le _) (by rw [h2]; exact Nat.zero_le _) (by rw [h1]; intro x hx; cases hx) (by rw [h2]; intro x hx; cases hx)
theorem BndV.v0 {m : Nat} : BndV m V0 := .leaf rfl rfl
theorem BndV.int {m : Nat} (n : Int) : BndV m (ofInt n) := .leaf rfl rfl
theorem getF_mem : ∀ {l : List F} {n : List UInt8} {x : V}, getF l n = some x → ∃ f ∈ l, f.val = x
  | g :: l, n, x, h => by
    rw [getF_cons] at h
    split at h
    · exact ⟨g, by simp, Option.some.inj h⟩
    · obtain ⟨f, hf, e⟩ := getF_mem h
      exact ⟨f, by simp [hf], e⟩
theorem BndV.get {m : Nat} {v : V} (h : BndV m v) (n : List UInt8) : BndV m (getV v n).1 := by
  unfold getV
  split
  · rename_i x hx
    obtain ⟨f, hf, rfl⟩ := getF_mem hx
    exact h.f f hf
  · exact .v0
theorem BndV.with_ {m : Nat} {v x : V} (h : BndV m v) (hx : BndV (m + 1) x) (n : List UInt8) : BndV (m + 1) (withV v n x) := by
  unfold withV
  split
  · have h1 := ofF_len (v.fields ++ [F.mk n x])
    have h2 := h.fl
    refine .mk _ (Nat.zero_le _) ?_ (fun y hy => by cases hy) (fun f hf => ?_)
    · show (ofF (v.fields ++ [F.mk n x])).length ≤ m + 1
      simp at h1; omega
    · have hf' : f ∈ v.fields ++ [F.mk n x] := ofF_mem hf
      rcases List.mem_append.1 hf' with hf' | hf'
      · exact (h.f f hf').mono (by omega)
      · simp at hf'; subst hf'; exact hx
  · exact h.mono (by omega)
theorem BndV.without {m : Nat} {v : V} (h : BndV m v) (n : List UInt8) : BndV m (withoutV v n) :=
  .mk _ h.ll (Nat.le_trans (List.length_filter_le _ _) h.fl) h.l (fun f hf => h.f f (List.mem_filter.1 hf).1)
theorem BndV.last {m : Nat} {v : V} {o : Opn} (h : BndV m v) (ho : BndV m o.val) (n : List UInt8) : BndV (m + 1) (lastV o v n).1 := by
  unfold lastV
  split
  · exact h.with_ (ho.mono (by omega)) n
  split
  · exact .v0
  split
  · exact (h.without n).mono (by omega)
  split
  · exact .v0
  split
  · exact .v0
  · exact h.with_ (.int _) n
theorem BndV.at_ {m : Nat} {o : Opn} (ho : BndV m o.val) : ∀ (p : List (List UInt8)) {v : V}, BndV m v → BndV (m + 1) (atV o v p).1
  | [], v, h => by unfold atV; split <;> exact .v0
  | [n], v, h => by
    unfold atV
    split
    · exact .v0
    · exact h.last ho n
  | n :: k :: p, v, h => by
    unfold atV
    split
    · exact .v0
    split
    · exact .v0
    split
    · exact .v0
    · exact h.with_ (BndV.at_ ho (k :: p) (h.get n)) n
theorem BndV.all : ∀ (l : List Opn) {m : Nat} {v : V}, BndV m v → (∀ o ∈ l, BndV m o.val) → BndV (m + l.length) (allV v l).1
  | [], m, v, h, _ => by
    rw [allV]
    split
    · exact h
    · exact .v0
  | o :: l, m, v, h, ho => by
    rw [allV_cons]
    split
    · exact .v0
    · have := BndV.all l (BndV.at_ (ho o (by simp)) o.path h) fun x hx => (ho x (by simp [hx])).mono (by omega)
      rwa [List.length_cons, show m + (l.length + 1) = m + 1 + l.length by omega]
theorem BndV.apply {m : Nat} {v : V} {l : List Opn} (h : BndV m v) (ho : ∀ o ∈ l, BndV m o.val) : BndV (m + l.length) (applyV v l).1 := by
  unfold applyV
  split
  · exact .v0
  split
  · exact h.all l ho
  · exact .v0
end Go.AV.Patch
namespace Go.AV.Patch
open Go.AV.Ord Go.AV.Oct Go.AV.Val
theorem cmpI_refl (a : Int) : cmpI a a = 0 := by simp [cmpI]
theorem cmpL_refl : ∀ (l : List V), (∀ x ∈ l, cmpV x x = 0) → cmpL l l = 0
  | [], _ => by rw [cmpL]
  | x :: l, h => by rw [cmpL_cons, if_neg (by rw [h x (by simp)]; simp), cmpL_refl l fun y hy => h y (by simp [hy])]
theorem cmpF_refl : ∀ (l : List F), (∀ x ∈ l, cmpV x.val x.val = 0) → cmpF l l = 0
  | [], _ => by rw [cmpF]
  | .mk n v :: l, h => by
    have h1 : cmpV v v = 0 := h (.mk n v) (by simp)
    have h2 : cmpF1 (.mk n v) (.mk n v) = 0 := by simp [cmpF1, F.name, F.val, cb_eq.2 (rfl : n = n), h1, orI]
    rw [cmpF_cons, h2, cmpF_refl l fun y hy => h y (by simp [hy])]
    rfl
theorem cmp_refl' : ∀ (m : Nat) (v : V), SizeOf.sizeOf v ≤ m → cmpV v v = 0
  | 0, v, hm => by cases v; simp at hm
  | m + 1, v, hm => by
    have hL : cmpL v.list v.list = 0 := cmpL_refl _ fun x hx => cmp_refl' m x (by have := list_lt hx; omega)
    have hF : cmpF v.fields v.fields = 0 := cmpF_refl _ fun x hx => cmp_refl' m x.val (by have := field_lt hx; omega)
    have hT : Lib.compareBytes v.text v.text = 0 := cb_eq.2 rfl
    cases v
    simp only [V.list, V.fields, V.text] at hL hF hT
    rw [cmpV_mk]
    simp [V.kind, V.yes, V.num, V.text, V.list, V.fields, cmpI_refl, hL, hF, hT]
def M (fs : List F) : V := .mk 5 false 0 [] [] fs
theorem map_of {d : Nat} {v : V} (h : rightV (d + 1) v = true) (hk : v.kind = 5) : v = M v.fields ∧ rises v.fields = true := by
  obtain ⟨h1, _, _, h4⟩ := right_only h
  cases v
  simp only [V.kind] at hk
  subst hk
  obtain ⟨a1, a2, a3, a4, _⟩ := only_parts h1
  rw [a1 (by decide), a2 (by decide), a3 (by decide), a4 (by decide)]
  exact ⟨rfl, h4⟩
theorem map_right {d : Nat} {fs : List F} : rightV (d + 1) (M fs) = (rises fs && fs.all fun f => rightV d f.val) := by
  show (onlyV (M fs) && rises fs && fs.all (fun f => rightV d f.val) && ([] : List V).all (rightV d)) = _
  have : onlyV (M fs) = true := by simp [onlyV, M, V.kind, V.yes, V.num, V.text, V.list, V.fields]
  rw [this]; simp
theorem ofMap_rise {fs : List F} (h : rises fs = true) (n : List UInt8) (x : V) : withV (M fs) n x = M (putF fs (.mk n x)) := by
  show (if (5 : Int) = 5 then ofMapV (fs ++ [F.mk n x]) else M fs) = _
  rw [if_pos rfl, ofMapV, ofF_snoc, ofF_self h]; rfl
theorem without_M (fs : List F) (n : List UInt8) : withoutV (M fs) n = M (delF fs n) := rfl
theorem getV_M (fs : List F) (n : List UInt8) : getV (M fs) n = match getF fs n with
  | some x => (x, true)
  | none => (V0, false) := by
  unfold getV
  show (match getF fs n with | some x => (x, decide ((5 : Int) = 5)) | none => (V0, false)) = _
  cases getF fs n <;> rfl
def stepO (o : Opn) : List (List UInt8) → Option V → Int × Option V
  | [], x => if o.kind = 1 then (0, some o.val) else match x with
    | none => (5, none)
    | some y => if o.kind = 2 then (0, none) else if y.kind ≠ 2 then (1, none) else if (addI y.num o.val.num).2 = false then (1, none) else (0, some (ofInt (addI y.num o.val.num).1))
  | m :: p, x => match x with
    | none => (5, none)
    | some y => if (atV o y (m :: p)).2 ≠ 0 then ((atV o y (m :: p)).2, none) else (0, some (atV o y (m :: p)).1)
def updF (fs : List F) (n : List UInt8) : Option V → List F
  | some x => putF fs (.mk n x)
  | none => delF fs n
theorem at_step (o : Opn) {fs : List F} (h : rises fs = true) (n : List UInt8) (p : List (List UInt8)) : atV o (M fs) (n :: p) = if (stepO o p (getF fs n)).1 ≠ 0 then (V0, (stepO o p (getF fs n)).1) else (M (updF fs n (stepO o p (getF fs n)).2), 0) := by
  have hk : ¬ (M fs).kind ≠ 5 := fun e => e rfl
  have hg := getV_M fs n
  cases p with
  | nil =>
    rw [atV_one, if_neg hk, lastV, hg, ofMap_rise h, without_M]
    cases hx : getF fs n with
    | none =>
      simp only [stepO]
      by_cases h1 : o.kind = 1
      · simp [h1, updF]
      · simp [h1]
    | some y =>
      simp only [stepO]
      by_cases h1 : o.kind = 1
      · simp [h1, updF]
      · by_cases h2 : o.kind = 2
        · simp [h2, updF]
        · by_cases h3 : y.kind = 2
          · by_cases h4 : (addI y.num o.val.num).2 = false
            · simp [h1, h2, h3, h4]
            · simp [h1, h2, h3, h4, updF, ofMap_rise h]
          · simp [h1, h2, h3]
  | cons m p =>
    rw [atV_more, if_neg hk, hg]
    cases hx : getF fs n with
    | none => simp [stepO]
    | some y =>
      simp only [stepO]
      by_cases h3 : (atV o y (m :: p)).2 = 0
      · simp [h3, updF, ofMap_rise h]
      · simp [h3]
theorem getF_upd (fs : List F) (n m : List UInt8) (x : Option V) : getF (updF fs n x) m = if m = n then x else getF fs m := by
  cases x with
  | some x =>
    show getF (putF fs (.mk n x)) m = _
    by_cases e : m = n
    · rw [if_pos e, e]; exact getF_put fs (.mk n x)
    · rw [if_neg e, getF_other _ _ _ (by show ¬ n = m; exact fun h => e h.symm)]
  | none => exact getF_del fs n m
theorem getF_upd_ne (fs : List F) {n m : List UInt8} (h : ¬ m = n) (x : Option V) : getF (updF fs n x) m = getF fs m := by rw [getF_upd, if_neg h]
theorem rises_upd {fs : List F} (h : rises fs = true) (n : List UInt8) (x : Option V) : rises (updF fs n x) = true := by
  cases x with
  | some x => exact putF_rises _ h
  | none => exact rises_del n h
theorem upd_comm {fs : List F} (h : rises fs = true) {n m : List UInt8} (hn : ¬ n = m) (a b : Option V) : updF (updF fs n a) m b = updF (updF fs m b) n a := by
  refine fields_ext (rises_upd (rises_upd h _ _) _ _) (rises_upd (rises_upd h _ _) _ _) fun k => ?_
  rw [getF_upd, getF_upd, getF_upd, getF_upd]
  by_cases e1 : k = m
  · rw [if_pos e1, if_neg (fun e => hn (e.symm.trans e1)), if_pos e1]
  · rw [if_neg e1]
    by_cases e2 : k = n
    · rw [if_pos e2, if_pos e2]
    · rw [if_neg e2, if_neg e2, if_neg e1]
theorem right_put {fs : List F} {d : Nat} (h : rightV (d + 1) (M fs) = true) (n : List UInt8) {x : V} (hx : rightV d x = true) : rightV (d + 1) (M (putF fs (.mk n x))) = true := by
  rw [map_right, Bool.and_eq_true] at h ⊢
  refine ⟨putF_rises _ h.1, ?_⟩
  rw [List.all_eq_true] at h ⊢
  intro f hf
  rcases putF_name hf with rfl | hf
  · exact hx
  · exact h.2 f hf
theorem right_del {fs : List F} {d : Nat} (h : rightV (d + 1) (M fs) = true) (n : List UInt8) : rightV (d + 1) (M (delF fs n)) = true := by
  rw [map_right, Bool.and_eq_true] at h ⊢
  refine ⟨rises_del n h.1, ?_⟩
  rw [List.all_eq_true] at h ⊢
  exact fun f hf => h.2 f (List.mem_filter.1 hf).1
theorem add_zero_i64 {k : Int} (hk : i64 k) : addI 0 k = (k, true) := by
  unfold addI
  rw [Int.zero_add, wrap_i64 (by unfold i64 at hk; omega)]
  simp
theorem right_set (n : List UInt8) (k : Int) : rightO ⟨1, [n], ofInt k⟩ = true := by rw [rightO_eq]; simp [right_int]
theorem right_add (n : List UInt8) (k : Int) : rightO ⟨3, [n], ofInt k⟩ = true := by
  rw [rightO_eq]
  have h1 : rightV 32 (ofInt k) = true := right_int 31 k
  have h2 : (ofInt k).kind = 2 := rfl
  simp [h1, h2]
theorem right_V0 : rightV 32 V0 = true := rfl
theorem right_drop (n : List UInt8) : rightO ⟨2, [n], V0⟩ = true := by
  rw [rightO_eq]
  have h2 : V0.kind = 0 := rfl
  simp [right_V0, h2]
def twice (fs : List F) (n : List UInt8) (k : Int) : List F := putF (putF fs (.mk n (ofInt 0))) (.mk n (ofInt k))
theorem twice_law {v : V} (hv : rightV 32 v = true) (hk : v.kind = 5) (n : List UInt8) {k : Int} (h64 : i64 k) :
    applyV v [⟨1, [n], ofInt 0⟩, ⟨3, [n], ofInt k⟩] = (M (twice v.fields n k), 0) ∧ getV (M (twice v.fields n k)) n = (ofInt k, true) ∧ applyV (M (twice v.fields n k)) [⟨2, [n], V0⟩] = (M (delF (twice v.fields n k) n), 0) ∧
      ((getV v n).2 = false → M (delF (twice v.fields n k) n) = v) := by
  obtain ⟨hM, hr⟩ := map_of hv hk
  generalize v.fields = fs at hM hr
  subst hM
  have h1 : rises (putF fs (.mk n (ofInt 0))) = true := putF_rises _ hr
  have h2 : rises (twice fs n k) = true := putF_rises _ h1
  have g1 : getF (putF fs (.mk n (ofInt 0))) n = some (ofInt 0) := getF_put fs (.mk n (ofInt 0))
  have g2 : getF (twice fs n k) n = some (ofInt k) := getF_put _ (.mk n (ofInt k))
  have s1 : atV ⟨1, [n], ofInt 0⟩ (M fs) [n] = (M (putF fs (.mk n (ofInt 0))), 0) := by
    rw [at_step _ hr n []]
    cases getF fs n <;> simp [stepO, updF]
  have s2 : atV ⟨3, [n], ofInt k⟩ (M (putF fs (.mk n (ofInt 0)))) [n] = (M (twice fs n k), 0) := by
    rw [at_step _ h1 n [], g1]
    simp [stepO, updF, twice, ofInt, V.kind, V.num, add_zero_i64 h64]
  have s3 : atV ⟨2, [n], V0⟩ (M (twice fs n k)) [n] = (M (delF (twice fs n k) n), 0) := by
    rw [at_step _ h2 n [], g2]
    simp [stepO, updF]
  have r1 : rightV 32 (M (twice fs n k)) = true := right_put (right_put hv n (right_int 30 0)) n (right_int 30 k)
  refine ⟨?_, ?_, ?_, fun h => ?_⟩
  · have e : applyV (M fs) [⟨1, [n], ofInt 0⟩, ⟨3, [n], ofInt k⟩] = allV (M fs) [⟨1, [n], ofInt 0⟩, ⟨3, [n], ofInt k⟩] := by simp [applyV, right_set, right_add]
    rw [e, allV_cons]
    simp only [s1, ne_eq, not_true_eq_false, if_false]
    rw [allV_cons]
    simp only [s2, ne_eq, not_true_eq_false, if_false]
    rw [allV, r1]; rfl
  · rw [getV_M, g2]
  · have e : applyV (M (twice fs n k)) [⟨2, [n], V0⟩] = allV (M (twice fs n k)) [⟨2, [n], V0⟩] := by simp [applyV, right_drop]
    rw [e, allV_cons]
    simp only [s3, ne_eq, not_true_eq_false, if_false]
    rw [allV, right_del r1 n]; rfl
  · have h0 : getF fs n = none := by
      rw [getV_M] at h
      cases hg : getF fs n with
      | none => rfl
      | some x => rw [hg] at h; cases h
    have e1 : twice fs n k = putF fs (.mk n (ofInt k)) := by
      refine fields_ext (putF_rises _ h1) (putF_rises _ hr) fun m => ?_
      by_cases hm : m = n
      · subst hm; rw [g2]; exact (getF_put fs (.mk m (ofInt k))).symm
      · unfold twice
        rw [getF_other _ _ _ (fun e => hm e.symm), getF_other _ _ _ (fun e => hm e.symm), getF_other _ _ _ (fun e => hm e.symm)]
    rw [e1]
    exact congrArg M (del_put hr h0)
theorem orders_law {v : V} {a b : Opn} (hv : rightV 32 v = true) (ha : rightO a = true) (hb : rightO b = true) {n m : List UInt8} {p q : List (List UInt8)} (hp : a.path = n :: p) (hq : b.path = m :: q) (hne : ¬ n = m) :
    ((applyV v [a, b]).2 = 0 ↔ (applyV v [b, a]).2 = 0) ∧ ((applyV v [a, b]).2 = 0 → (applyV v [a, b]).1 = (applyV v [b, a]).1) := by
  have e1 : applyV v [a, b] = allV v [a, b] := by simp [applyV, ha, hb]
  have e2 : applyV v [b, a] = allV v [b, a] := by simp [applyV, ha, hb]
  rw [e1, e2]
  by_cases hk : v.kind = 5
  · obtain ⟨hM, hr⟩ := map_of hv hk
    generalize v.fields = fs at hM hr
    subst hM
    have sa := at_step a hr n p
    have sb := at_step b hr m q
    rw [allV_cons, allV_cons (M fs) b, hp, hq, sa, sb]
    by_cases ea : (stepO a p (getF fs n)).1 = 0
    · rw [if_neg (show ¬ (stepO a p (getF fs n)).1 ≠ 0 from fun h => h ea)]
      have tb := at_step b (rises_upd hr n (stepO a p (getF fs n)).2) m q
      rw [getF_upd_ne _ (fun e => hne e.symm)] at tb
      simp only [ne_eq, not_true_eq_false, if_false]
      rw [allV_cons, hq, tb]
      by_cases eb : (stepO b q (getF fs m)).1 = 0
      · have ta := at_step a (rises_upd hr m (stepO b q (getF fs m)).2) n p
        rw [getF_upd_ne _ hne] at ta
        simp only [eb, ne_eq, not_true_eq_false, if_false]
        rw [allV_cons, hp, ta]
        simp only [ea, ne_eq, not_true_eq_false, if_false]
        rw [upd_comm hr hne]
        exact ⟨Iff.rfl, fun _ => rfl⟩
      · simp [eb]
    · rw [if_pos ea]
      have hA : ¬ (V0, (stepO a p (getF fs n)).1).2 = 0 := ea
      rw [if_pos hA]
      refine ⟨⟨fun h => absurd h ea, fun h => ?_⟩, fun h => absurd h ea⟩
      exfalso
      by_cases eb : (stepO b q (getF fs m)).1 = 0
      · have ta := at_step a (rises_upd hr m (stepO b q (getF fs m)).2) n p
        rw [getF_upd_ne _ hne] at ta
        simp only [eb, ne_eq, not_true_eq_false, if_false] at h
        rw [allV_cons, hp, ta] at h
        simp [ea] at h
      · simp [eb] at h
  · have hx : ∀ (o : Opn) (p : List (List UInt8)), atV o v p = (V0, 5) := by
      intro o p
      match p with
      | [] => simp [atV, hk]
      | [_] => simp [atV, hk]
      | _ :: _ :: _ => rw [atV_more, if_pos hk]
    have h5 : ∀ o o' : Opn, (allV v [o, o']).2 = 5 := by intro o o'; rw [allV_cons, hx]; simp
    rw [h5, h5]
    exact ⟨Iff.rfl, fun h => absurd h (by decide)⟩
end Go.AV.Patch
namespace Go.AV.Patch
open Go.AV.Ord Go.AV.Oct Go.AV.Val
def eL (fs : List F) : List (List UInt8 × DV) := fs.foldl (fun es f => putE es f.name (.agg (vC f.val))) []
theorem eL_snoc (fs : List F) (f : F) : eL (fs ++ [f]) = putE (eL fs) f.name (.agg (vC f.val)) := by simp [eL, List.foldl_append]
theorem getE_put : ∀ (es : List (List UInt8 × DV)) (k n : List UInt8) (v : DV), getE (putE es k v) n = if k = n then some v else getE es n
  | [], k, n, v => by simp [putE, getE]
  | e :: es, k, n, v => by
    unfold putE
    by_cases hk : e.1 = k
    · rw [if_pos hk]
      simp only [getE]
      by_cases hn : k = n
      · simp [hn]
      · have : ¬ e.1 = n := fun h => hn (hk.symm.trans h)
        simp [hn, this]
    · rw [if_neg hk]
      simp only [getE, getE_put es k n v]
      by_cases he : e.1 = n
      · have : ¬ k = n := fun h => hk (he.trans h.symm)
        simp [he, this]
      · simp [he]
theorem putE_len : ∀ (es : List (List UInt8 × DV)) (k : List UInt8) (v : DV), (putE es k v).length = es.length + (if (getE es k).isSome then 0 else 1)
  | [], k, v => by simp [putE, getE]
  | e :: es, k, v => by
    unfold putE
    by_cases hk : e.1 = k
    · simp [hk, getE]
    · simp only [if_neg hk, getE, List.length_cons, putE_len es k v]
      split <;> omega
theorem mem_put : ∀ {es : List (List UInt8 × DV)} {k : List UInt8} {v : DV} {x : List UInt8 × DV}, x ∈ putE es k v → x = (k, v) ∨ x ∈ es
  | [], _, _, x, h => by simp [putE] at h; exact .inl h
  | e :: es, k, v, x, h => by
    unfold putE at h
    by_cases hk : e.1 = k
    · rw [if_pos hk] at h
      rcases List.mem_cons.1 h with h | h
      · exact .inl h
      · exact .inr (List.mem_cons_of_mem _ h)
    · rw [if_neg hk] at h
      rcases List.mem_cons.1 h with h | h
      · exact .inr (by rw [h]; exact List.mem_cons_self ..)
      · rcases mem_put h with h | h
        · exact .inl h
        · exact .inr (List.mem_cons_of_mem _ h)
def Once (es : List (List UInt8 × DV)) : Prop := (es.map (·.1)).Nodup
theorem Once.put : ∀ {es : List (List UInt8 × DV)} (k : List UInt8) (v : DV), Once es → Once (putE es k v)
  | [], k, v, _ => by simp [putE, Once]
  | e :: es, k, v, h => by
    have h2 := List.nodup_cons.1 (show ((e :: es).map (·.1)).Nodup from h)
    unfold putE
    by_cases hk : e.1 = k
    · rw [if_pos hk]
      exact List.nodup_cons.2 ⟨by rw [← hk]; exact h2.1, h2.2⟩
    · rw [if_neg hk]
      refine List.nodup_cons.2 ⟨fun hm => ?_, Once.put k v h2.2⟩
      obtain ⟨x, hx, hxe⟩ := List.mem_map.1 hm
      rcases mem_put hx with rfl | hx
      · exact hk hxe.symm
      · exact h2.1 (hxe ▸ List.mem_map.2 ⟨x, hx, rfl⟩)
theorem Once.get : ∀ {es : List (List UInt8 × DV)} {k : List UInt8} {d : DV}, Once es → (k, d) ∈ es → getE es k = some d
  | [], _, _, _, h => by cases h
  | e :: es, k, d, h, hm => by
    have h2 := List.nodup_cons.1 (show ((e :: es).map (·.1)).Nodup from h)
    unfold getE
    rcases List.mem_cons.1 hm with rfl | hm
    · rw [if_pos rfl]
    · have : ¬ e.1 = k := fun he => h2.1 (by show e.1 ∈ _; rw [he]; exact List.mem_map.2 ⟨(k, d), hm, rfl⟩)
      rw [if_neg this]
      exact Once.get h2.2 hm
theorem snoc_ind {α : Type} {p : List α → Prop} (h0 : p []) (h1 : ∀ l x, p l → p (l ++ [x])) (l : List α) : p l := by
  have : ∀ m : List α, p m.reverse := fun m => by
    induction m with
    | nil => exact h0
    | cons x m ih => rw [List.reverse_cons]; exact h1 _ _ ih
  simpa using this l.reverse
theorem eL_get (fs : List F) : ∀ n, getE (eL fs) n = (getF (ofF fs) n).map fun v => DV.agg (vC v) := by
  refine snoc_ind (p := fun fs => ∀ n, getE (eL fs) n = (getF (ofF fs) n).map fun v => DV.agg (vC v)) (fun n => rfl) (fun l f ih n => ?_) fs
  rw [eL_snoc, ofF_snoc, getE_put]
  by_cases hn : f.name = n
  · subst hn; rw [if_pos rfl, getF_put]; rfl
  · rw [if_neg hn, getF_other _ _ _ hn, ih]
theorem putF_lenG : ∀ (l : List F) (f : F), rises l = true → (putF l f).length = l.length + (if (getF l f.name).isSome then 0 else 1)
  | [], f, _ => by simp [putF, getF]
  | g :: l, f, h => by
    rw [getF_cons, putF]
    by_cases h1 : Op.bytesLess g.name f.name = true
    · have hne : ¬ g.name = f.name := less_ne h1
      rw [if_pos h1, if_neg hne, List.length_cons, putF_lenG l f (rises_tail h), List.length_cons]
      omega
    · rw [if_neg h1]
      by_cases h2 : g.name = f.name
      · simp [h2]
      · rw [if_neg (by simpa using h2), if_neg h2]
        have hlt : Op.bytesLess f.name g.name = true := by
          rw [less_total h2]; simpa using h1
        rw [getF_below h (.inr hlt)]
        simp
theorem getF_at : ∀ {l : List F} {i : Nat} {f : F}, rises l = true → l[i]? = some f → getF l f.name = some f.val
  | [], _, _, _, h => by simp at h
  | g :: l, 0, f, _, h => by
    simp at h
    subst h
    rw [getF_cons, if_pos rfl]
  | g :: l, i + 1, f, hr, h => by
    simp only [List.getElem?_cons_succ] at h
    have hlt := rises_all hr f (List.mem_of_getElem? h)
    rw [getF_cons, if_neg (less_ne hlt)]
    exact getF_at (rises_tail hr) h
theorem rises_at {l : List F} {i : Nat} {f g : F} (hr : rises l = true) (h1 : l[i]? = some f) (h2 : l[i + 1]? = some g) : Op.bytesLess f.name g.name = true := by
  induction l generalizing i with
  | nil => simp at h1
  | cons a l ih =>
    cases i with
    | zero =>
      simp at h1
      subst h1
      exact rises_all hr g (List.mem_of_getElem? (by simpa using h2))
    | succ i => exact ih (rises_tail hr) (by simpa using h1) (by simpa using h2)
theorem ofMapV_M (fs : List F) : ofMapV fs = M (ofF fs) := rfl
theorem fields_law (fs : List F) (n0 : List UInt8) (x : V) :
    (∃ gx gb, getV (M (ofF fs)) n0 = (gx, gb) ∧ (getE (eL fs) n0).isSome = gb ∧ (getE (eL fs) n0).getD (.agg (vC V0)) = .agg (vC gx)) ∧
    getV (withV (M (ofF fs)) n0 x) n0 = (x, true) ∧ getV (withoutV (M (ofF fs)) n0) n0 = (V0, false) ∧
    ∀ n v, ¬ n = n0 → getF (ofF fs) n = some v → getV (withV (M (ofF fs)) n0 x) n = (v, true) ∧ getV (withoutV (M (ofF fs)) n0) n = (v, true) := by
  have hw : withV (M (ofF fs)) n0 x = M (putF (ofF fs) ⟨n0, x⟩) := by
    show (if (5 : Int) = 5 then ofMapV (ofF fs ++ [⟨n0, x⟩]) else _) = _
    rw [if_pos rfl, ofMapV_M, ofF_snoc, ofF_self (ofF_rises fs)]
  refine ⟨?_, ?_, ?_, fun n v hn hv => ⟨?_, ?_⟩⟩
  · rw [getV_M, eL_get]
    cases getF (ofF fs) n0 with
    | none => exact ⟨_, _, rfl, rfl, rfl⟩
    | some v => exact ⟨_, _, rfl, rfl, rfl⟩
  · rw [hw, getV_M, show getF (putF (ofF fs) ⟨n0, x⟩) n0 = some x from getF_put _ _]
  · rw [without_M, getV_M, getF_del, if_pos rfl]
  · rw [hw, getV_M, getF_other (ofF fs) ⟨n0, x⟩ n (fun e : n0 = n => hn e.symm), hv]
  · rw [without_M, getV_M, getF_del, if_neg hn, hv]
theorem fields_small {fs : List F} (h : ∀ f ∈ fs, fewV 7 f.val = true) : (∀ f ∈ ofF fs, SmallV f.val) ∧ (∀ n v, getF (ofF fs) n = some v → SmallV v) ∧ ∀ n, SmallV (getV (M (ofF fs)) n).1 := by
  have h1 : ∀ f ∈ ofF fs, SmallV f.val := fun f hf => few_small 7 _ (h f (ofF_mem hf))
  have h2 : ∀ n v, getF (ofF fs) n = some v → SmallV v := fun n v hv => by
    obtain ⟨f, hf, rfl⟩ := getF_mem hv
    exact h1 f hf
  refine ⟨h1, h2, fun n => ?_⟩
  rw [getV_M]
  cases hq : getF (ofF fs) n with
  | none => exact (BndV.v0 (m := 8)).small (by decide)
  | some v => exact h2 n v hq
end Go.AV.Patch
namespace Go.AV.Hist
open Go.AV.Ord Go.AV.Oct Go.AV.Val Go.AV.Patch
def low (n : Int) (k : Nat) : Nat := (BitVec.ofInt IntKind.i64.bits n).toNat % k
def idB (i : Nat) : List UInt8 := [UInt8.ofNat (48 + i)]
def qB (i : Nat) : List UInt8 := [UInt8.ofNat (97 + i)]
def tkB (i : Nat) : List UInt8 := if 0 < i then [UInt8.ofNat (116 + i)] else []
def keyQ (q i : Nat) : List UInt8 := keyL [[109], qB q, idB i]
def msgP (p : Pt) : Msg := ⟨idB (low p.id 4), [], (low p.ready 64 : Nat), (low p.count 8 : Nat), tkB (low p.token 4)⟩
def keyP (p : Pt) : List UInt8 := keyQ (low p.q 2) (low p.id 4)
def putW (p : Pt) : Wt := ⟨keyP p, encM (msgP p), false⟩
def goneW (p : Pt) : Wt := ⟨keyP p, [], true⟩
def wtP (p : Pt) : Wt := if p.gone then goneW p else putW p
def lastP (c : Nat) (l : List Pt) (k : List UInt8) : Option Wt := l.foldl (fun o p => if low p.c 8 = c ∧ keyP p = k then some (wtP p) else o) none
theorem lastP_snoc (c : Nat) (l : List Pt) (p : Pt) (k : List UInt8) : lastP c (l ++ [p]) k = if low p.c 8 = c ∧ keyP p = k then some (wtP p) else lastP c l k := by
  simp [lastP]
theorem lastP_some (c : Nat) (l : List Pt) {k : List UInt8} {w : Wt} (h : lastP c l k = some w) : ∃ p : Pt, w = wtP p ∧ keyP p = k := by
  induction l using snoc_ind with
  | h0 => cases h
  | h1 l p ih =>
    rw [lastP_snoc] at h
    split at h
    · rename_i h1
      cases h
      exact ⟨p, rfl, h1.2⟩
    · exact ih h
def Holds (c : Nat) (l : List Pt) (es : List (List UInt8 × DV)) : Prop := ∀ k, getE es k = (lastP c l k).map wD
theorem Holds.nil (c : Nat) : Holds c [] [] := fun _ => rfl
theorem Holds.put {c : Nat} {l : List Pt} {es : List (List UInt8 × DV)} {p : Pt} (h : Holds c l es) (hc : low p.c 8 = c) (hg : p.gone = false) : Holds c (l ++ [p]) (putE es (keyP p) (wD (putW p))) := fun k => by
  rw [lastP_snoc, getE_put]
  by_cases hk : keyP p = k
  · rw [if_pos hk, if_pos ⟨hc, hk⟩]; simp [wtP, hg]
  · rw [if_neg hk, if_neg (fun x => hk x.2)]; exact h k
theorem Holds.gone {c : Nat} {l : List Pt} {es : List (List UInt8 × DV)} {p : Pt} (h : Holds c l es) (hc : low p.c 8 = c) (hg : p.gone = true) : Holds c (l ++ [p]) (putE (putE es (keyP p) (wD (putW p))) (keyP p) (wD (goneW p))) := fun k => by
  rw [lastP_snoc, getE_put, getE_put]
  by_cases hk : keyP p = k
  · rw [if_pos hk, if_pos ⟨hc, hk⟩]; simp [wtP, hg]
  · rw [if_neg hk, if_neg hk, if_neg (fun x => hk x.2)]; exact h k
structure GoodW (w : Wt) : Prop where
  ex : ∃ p : Pt, w = wtP p
theorem rM_enc {m : Msg} (h1 : 0 ≤ m.ready) (h2 : m.ready ≤ 63) (h3 : 0 ≤ m.count) (h4 : m.count ≤ 7) (h5 : m.token.length ≤ 1) (h6 : m.body.length ≤ 1) : rM (encM m) = ((m.ready.toNat, m.count.toNat, m.token, m.body), ([], false)) := by
  have q1 := rNum_fwd (most := 2199023255552) (x := m.ready.toNat) (numB m.count.toNat ++ (textB m.token ++ (textB m.body ++ []))) (szN_8 (by omega)) (by omega)
  have q2 := rNum_fwd (most := 1000) (x := m.count.toNat) (textB m.token ++ (textB m.body ++ [])) (szN_8 (by omega)) (by omega)
  have q3 := rText_fwd (most := 400) (s := m.token) (textB m.body ++ []) (by decide) (by omega)
  have q4 := rText_fwd (most := 2000) (s := m.body) [] (by decide) (by omega)
  have e : encM m = numB m.ready.toNat ++ (numB m.count.toNat ++ (textB m.token ++ (textB m.body ++ []))) := by simp [encM]
  unfold rM
  simp only [e, q1, q2, q3, q4]
theorem turnT_some : ∀ (ws : List Wt) (ps : List (List UInt8 × Pl)) (ids : List (List UInt8)), (∀ w ∈ ws, w.gone = true ∨ decE w.val = 0) → ∃ r, turnT ps ids ws = some r
  | [], ps, ids, _ => ⟨_, rfl⟩
  | w :: ws, ps, ids, h => by
    have h1 := h w (by simp)
    have h2 := fun ps ids => turnT_some ws ps ids fun w hw => h w (by simp [hw])
    rw [turnT]
    split
    · exact h2 _ _
    · split
      · exact h2 _ _
      · rename_i hg
        rw [if_pos (h1.resolve_left (by simpa using hg))]
        exact h2 _ _
def GoodC (c : Cm) : Prop := ∀ w ∈ c.ws, w.gone = true ∨ decE w.val = 0
theorem events_some : ∀ (cs : List Cm) (ps : List (List UInt8 × Pl)) (es : List Ev), (∀ c ∈ cs, GoodC c) → ∃ r, eventsT ps es cs = some (es ++ r) ∧ ∀ e ∈ r, ∃ c ∈ cs, e.seq = c.seq
  | [], ps, es, _ => ⟨[], by simp [eventsT], by simp⟩
  | c :: cs, ps, es, h => by
    obtain ⟨⟨ps', ids⟩, h1⟩ := turnT_some c.ws ps [] (h c (by simp))
    obtain ⟨r, h2, h3⟩ := events_some cs ps' (es ++ evs c ps ps' (compS (sortS ids))) fun c hc => h c (by simp [hc])
    refine ⟨evs c ps ps' (compS (sortS ids)) ++ r, by rw [eventsT_some h1, h2, List.append_assoc], fun e he => ?_⟩
    rcases List.mem_append.1 he with he | he
    · unfold evs at he
      obtain ⟨i, _, rfl⟩ := List.mem_map.1 he
      exact ⟨c, by simp, rfl⟩
    · obtain ⟨c', hc', e'⟩ := h3 e he
      exact ⟨c', by simp [hc'], e'⟩
theorem events_app : ∀ (cs ds : List Cm) (ps : List (List UInt8 × Pl)) (es : List Ev), (∀ c ∈ cs ++ ds, GoodC c) →
    ∃ a b, eventsT ps es cs = some (es ++ a) ∧ eventsT ps es (cs ++ ds) = some (es ++ a ++ b) ∧ ∀ e ∈ b, ∃ c ∈ ds, e.seq = c.seq
  | [], ds, ps, es, h => by
    obtain ⟨r, h1, h2⟩ := events_some ds ps es (by simpa using h)
    exact ⟨[], r, by simp [eventsT], by simpa using h1, h2⟩
  | c :: cs, ds, ps, es, h => by
    obtain ⟨⟨ps', ids⟩, h1⟩ := turnT_some c.ws ps [] (h c (by simp))
    obtain ⟨a, b, h2, h3, h4⟩ := events_app cs ds ps' (es ++ evs c ps ps' (compS (sortS ids))) fun c hc => h c (by simp [hc])
    refine ⟨evs c ps ps' (compS (sortS ids)) ++ a, b, by rw [eventsT_some h1, h2, List.append_assoc], ?_, h4⟩
    rw [List.cons_append, eventsT_some h1, h3]
    simp [List.append_assoc]
theorem events_len {ps : List (List UInt8 × Pl)} {N : Nat} : ∀ (cs : List Cm) (ps : List (List UInt8 × Pl)) (es r : List Ev), eventsT ps es cs = some r → (∀ c ∈ cs, c.ws.length ≤ N) → r.length ≤ es.length + cs.length * N
  | [], ps, es, r, h, _ => by simp [eventsT] at h; subst h; omega
  | c :: cs, ps, es, r, h, hN => by
    cases ht : turnT ps [] c.ws with
    | none => rw [eventsT_none ht] at h; cases h
    | some q =>
      obtain ⟨ps', ids⟩ := q
      rw [eventsT_some ht] at h
      have h1 := events_len (ps := ps) cs ps' _ r h fun c hc => hN c (by simp [hc])
      have h2 := turnT_len _ ht
      have h3 := compS_len (sortS ids)
      rw [sortS_len] at h3
      have h4 := evs_len c ps ps' (compS (sortS ids))
      have h5 := hN c (by simp)
      simp only [List.length_append, List.length_cons, List.length_nil] at h1 h2 ⊢
      rw [Nat.add_mul]
      omega
end Go.AV.Hist
namespace Go.AV
theorem Ext.at0 {Hs H : HS} {m : MB} {l : List MB} (h : Ext (Hs.addM (m :: l)) H) : H.maps[Hs.nm]? = some m := by
  rw [h.maps]
  show (Hs.maps ++ (m :: l))[Hs.maps.length]? = some m
  rw [List.getElem?_append_right (Nat.le_refl _), Nat.sub_self]; rfl
theorem Ext.set0 {Hs H : HS} {m : MB} {l : List MB} (h : Ext (Hs.addM (m :: l)) H) (m' : MB) : Ext (Hs.addM (m' :: l)) (H.setM Hs.nm m') :=
  ⟨h.blks, h.toks, by
    show H.maps.set Hs.nm m' = _
    rw [h.maps]
    show (Hs.maps ++ (m :: l)).set Hs.maps.length m' = Hs.maps ++ (m' :: l)
    rw [List.set_append_right _ _ (Nat.le_refl _), Nat.sub_self]; rfl⟩
theorem NoIt.setM {H : HS} (h : NoIt H) (i : Nat) (es : List (List UInt8 × DV)) : NoIt (H.setM i (.map es)) := fun j o n q he => by
  have he' : (H.maps.set i (.map es))[j]? = some (.iter o n q) := he
  by_cases hj : i = j
  · subst hj
    by_cases hlt : i < H.maps.length
    · rw [List.getElem?_set_self hlt] at he'; cases he'
    · rw [List.set_eq_of_length_le (by omega)] at he'; exact h _ _ _ _ he'
  · rw [List.getElem?_set_ne hj] at he'; exact h _ _ _ _ he'
namespace Hist
open Go.AV.Ord Go.AV.Oct Go.AV.Patch
def bE (l : List (List UInt8)) : List (List UInt8 × DV) := l.map fun k => (k, TF true)
theorem getE_bE : ∀ (l : List (List UInt8)) (k : List UInt8), getE (bE l) k = if k ∈ l then some (TF true) else none
  | [], _ => rfl
  | x :: l, k => by
    show (if x = k then some (TF true) else getE (bE l) k) = _
    rw [getE_bE l k]
    by_cases h : x = k
    · subst h; simp
    · have : ¬ k = x := fun e => h e.symm
      rw [if_neg h]
      by_cases h2 : k ∈ l
      · rw [if_pos h2, if_pos (by simp [h2])]
      · rw [if_neg h2, if_neg (by simp [this, h2])]
theorem putE_bE : ∀ {l : List (List UInt8)} {k : List UInt8}, k ∉ l → putE (bE l) k (TF true) = bE (l ++ [k])
  | [], _, _ => rfl
  | x :: l, k, h => by
    simp only [List.mem_cons, not_or] at h
    show (if x = k then (k, TF true) :: bE l else (x, TF true) :: putE (bE l) k (TF true)) = _
    rw [if_neg (fun e => h.1 e.symm), putE_bE h.2]; rfl
section
variable {P : Program} {E : Operand → AV} {H : HS} {dst : Option Tmp} {ty : TypeId} {pos : String} {after : Array Edge} {gd : Option (Nat × Bool)}
theorem op_lookup_b {x k : Operand} {t kt et : TypeId} {id : Nat} {ss : List (List UInt8)} {l : List UInt8} (ht : P.underlying t = some (.map kt et)) (hkt : P.underlying kt = some .string) (hz : (P.info? et).map (·.zero) = some (some (.bool false)))
    (hx : E x = .map id) (hl : E k = .d (S l)) (hm : H.maps[id]? = some (.map (bE ss))) : OpR P ⟨dst, .lookup t x k false, ty, pos, after, gd⟩ E H (Ret (.d (TF (decide (l ∈ ss)))) H) := by
  have h := op_lookup (d0 := TF false) (dst := dst) (ty := ty) (pos := pos) (after := after) (gd := gd) ht hkt hz (fun _ => .v _ rfl) hx hl hm
  have e : (getE (bE ss) l).getD (TF false) = TF (decide (l ∈ ss)) := by
    rw [getE_bE]; by_cases h : l ∈ ss <;> simp [h]
  rwa [e] at h
def HoldsN (ss : List (List UInt8)) (es : List (List UInt8 × DV)) : Prop := ∀ k, getE es k = if ss.count k = 0 then none else some (I (ss.count k : Nat))
theorem HoldsN.nil : HoldsN [] [] := fun _ => rfl
end
def sound2 (came gone : List (List UInt8)) (e : Ev) : Option (List (List UInt8) × List (List UInt8)) :=
  if e.to = [] then (if e.id ∈ gone ∨ ¬ e.id ∈ came then none else some (came, gone ++ [e.id])) else
  if e.new.token ≠ [] ∧ e.new.token ≠ e.old.token ∧ e.old.token ≠ [] ∧ e.at_ < e.old.ready then none else some (came, gone)
def sound1 (came gone : List (List UInt8)) (e : Ev) : Option (List (List UInt8) × List (List UInt8)) :=
  if e.fr = [] ∧ e.id ∈ came then none else sound2 (if e.fr = [] then came ++ [e.id] else came) gone e
def soundT : List (List UInt8) → List (List UInt8) → List Ev → Bool
  | _, _, [] => true
  | c, g, e :: es => (sound1 c g e).elim false fun q => soundT q.1 q.2 es
end Hist
end Go.AV
namespace Go.AV
theorem addM_addM (H : HS) (a b : List MB) : (H.addM a).addM b = H.addM (a ++ b) := by simp [HS.addM, List.append_assoc]
theorem Ext.addM {Hs X : HS} (h : Ext Hs X) (ms : List MB) : Ext (Hs.addM ms) (X.addM ms) :=
  ⟨h.blks, h.toks, by show X.maps ++ ms = Hs.maps ++ ms; rw [h.maps]⟩
theorem Ext.three {Hs X H : HS} {a b c : List MB} (hX : Ext Hs X) (h : Ext (((X.addM a).addM b).addM c) H) : Ext (Hs.addM (a ++ b ++ c)) H := by
  rw [← addM_addM, ← addM_addM]
  exact (((hX.addM a).addM b).addM c).trans h
theorem NoIt.back {Hs H : HS} (h : NoIt H) (hx : Ext Hs H) : NoIt Hs := h.of hx.maps.symm
theorem noIt_addM {H : HS} {ms : List MB} (h : NoIt H) (hm : ∀ m ∈ ms, ∃ es, m = .map es) : NoIt (H.addM ms) := fun j o n q he => by
  have he' : (H.maps ++ ms)[j]? = some (.iter o n q) := he
  by_cases hj : j < H.maps.length
  · rw [List.getElem?_append_left hj] at he'; exact h _ _ _ _ he'
  · rw [List.getElem?_append_right (by omega)] at he'
    obtain ⟨es, e⟩ := hm _ (List.mem_of_getElem? he')
    cases e
namespace Hist
theorem msT_maps : ∀ (cs : List Cm) (ps : List (List UInt8 × Pl)), ∀ m ∈ MB.map [] :: msT ps cs, ∃ es, m = .map es
  | [], ps, m, h => by simp [msT] at h; exact ⟨_, h⟩
  | c :: cs, ps, m, h => by
    rcases List.mem_cons.1 h with rfl | h
    · exact ⟨_, rfl⟩
    · rw [msT] at h
      split at h
      · cases h
      · rcases List.mem_cons.1 h with rfl | h
        · exact ⟨_, rfl⟩
        · exact msT_maps cs _ m (List.mem_cons_of_mem _ h)
open Go.AV.Ord Go.AV.Oct Go.AV.Patch
theorem dec_enc {m : Msg} (h1 : 0 ≤ m.ready) (h2 : m.ready ≤ 63) (h3 : 0 ≤ m.count) (h4 : m.count ≤ 7) (h5 : m.token.length ≤ 1) (h6 : m.body.length ≤ 1) : decE (encM m) = 0 ∧ decM m.id (encM m) = m := by
  have h := rM_enc h1 h2 h3 h4 h5 h6
  refine ⟨by unfold decE; rw [h]; rfl, ?_⟩
  unfold decM
  rw [h, if_pos (show rEnd (([] : List UInt8), false) = 0 from rfl)]
  show (⟨_, _, ((m.ready.toNat : Nat) : Int), ((m.count.toNat : Nat) : Int), _⟩ : Msg) = _
  rw [Int.toNat_of_nonneg h1, Int.toNat_of_nonneg h3]
def hM1 : Msg := ⟨[49], [120], 0, 0, []⟩
def hM2 : Msg := ⟨[49], [120], 20, 1, [116]⟩
def hK : List UInt8 := keyL [[109], [113], [49]]
def hW1 : Wt := ⟨hK, encM hM1, false⟩
def hW2 : Wt := ⟨hK, encM hM2, false⟩
def hC2 : Cm := ⟨2, 6, [hW2]⟩
theorem msgT_hK : msgT hK = ([113], [49], true) := msg_yes (partsE_key _) (partsA_key _)
theorem hd2 : decE (encM hM2) = 0 ∧ decM [49] (encM hM2) = hM2 := dec_enc (m := hM2) (by decide) (by decide) (by decide) (by decide) (by decide) (by decide)
theorem ht2 : turnT [([49], ⟨[113], hM1⟩)] [] hC2.ws = some ([([49], ⟨[113], hM2⟩)], [[49]]) := by
  show turnT _ [] [hW2] = _
  simp [turnT, hW2, msgT_hK, hd2, putK]
theorem lit_w (w : Wt) : ∀ y ∈ [wD w], y.cells.length = 3 := by
  intro y hy; rcases List.mem_singleton.1 hy with rfl; rfl
theorem lit_w1 (w : Wt) : ∀ d ∈ flat [wD w], d.one = true := by
  intro d hd; simp only [flat, List.flatMap_cons, List.flatMap_nil, List.append_nil] at hd; exact wC_one w d hd
section
variable {P : Program} {E : Operand → AV} {H : HS} {dst : Option Tmp} {ty : TypeId} {pos : String} {after : Array Edge} {gd : Option (Nat × Bool)}
end
end Hist
end Go.AV
namespace Go.Proofs.Ytjbpfnoibeogbaa
open Go.AV Go.AV.Ord Go.AV.Oct Go.AV.Hist Go.AV.Sb Go.AV.Sch
set_option linter.unusedVariables false
set_option linter.unusedSimpArgs false
set_option maxRecDepth 100000 in
theorem from_ok (Hs : HS) (tid : Nat) : ACalls Try.prog 66 [.ptr tid 5, .d (S [])] Hs (Ret (.fn (.func 99) [] [.ptr Hs.nb 0, .elt [S []]]) (Hs.push 193 [.ptr tid 5])) := by
 refine acalls_of_aw Try.func66 rfl ?_
 refine aw_start (T' := [.ptr tid 5, .d (S []), .un, .un, .un, .un]) rfl ?_
 refine aw_seq ?_
 refine aw_region ?_
 refine zst (op_box_ptr (cs := [.ptr tid 5]) (by intro h; cases h) (by rfl)) rfl (by dsimp only [zS, zN, zH, zT]) ?_
 refine zst (op_box_elt (cs := [S []]) (by rfl) (by rfl)) rfl (by dsimp only [zS, zN, zH, zT]) ?_
 refine zst (op_assign_const (by rfl)) rfl (by dsimp only [zS, zN, zH, zT]) ?_
 refine al_end rfl ?_
 refine then_normal ?_
 refine aw_seq ?_
 refine aw_region ?_
 refine zst (op_makeFn .nil (.tmp (by rfl) (.tmp (by rfl) .nil))) rfl (by dsimp only [zS, zN, zH, zT]) ?_
 refine zst (op_assign_tmp (by rfl)) rfl (by dsimp only [zS, zN, zH, zT]) ?_
 refine al_end rfl ?_
 refine then_normal ?_
 refine aw_ret ?_
 refine retPost1 rfl rfl ?_
 exact ⟨rfl, rfl⟩
end Go.Proofs.Ytjbpfnoibeogbaa
namespace Go.Proofs.Ytjbpfnoibeogbaa
open Go.AV Go.AV.Ord Go.AV.Oct Go.AV.Hist Go.AV.Val Go.AV.Sb
set_option linter.unusedVariables false
set_option linter.unusedSimpArgs false
set_option maxRecDepth 100000 in
set_option maxHeartbeats 2000000 in
theorem writes2_ok (Hs : HS) (tid sid : Nat) (lv : AV) (sz : Int) (ls : List (List It)) (vs : List AV) (hr : rises (firstsF ls) = true) (hrl : ∀ lf ∈ ls, rises (keysF lf) = true) (hl9 : ls.length ≤ 2) (hn : ls.flatten.length ≤ 100000) (hT : Hs.blks[tid]? = some ⟨145, [.ptr sid 0, .d (I 0), .d (I 0), .d (I 0), .d (I 0), lv, .d (I sz)], false⟩) (hL : LvT Hs 195 197 lv ls vs) : ACalls Try.prog 32 [.ptr tid 0] Hs (fun av H' => (∃ ms, H'.maps = Hs.maps ++ ms) ∧ ∃ us, Arr H' 51 3 av ls.flatten.length us) := by
 have lt := lt_nb hT
 have hLB : LvT ((Hs.push 46 [nilS]).push 193 [.ptr tid 5]) 195 197 lv ls vs := (hL.push _ _).push _ _
 refine ACalls.mono (acalls_range2 (J := fun v B => ∃ us, Arr ⟨B, [], []⟩ 51 3 v ls.flatten.length us ∧ B[Hs.nb]? = some ⟨46, [v], false⟩) (H0 := Hs) (H1 := (Hs.push 46 [nilS])) (H2 := (Hs.push 46 [nilS])) (H3 := ((Hs.push 46 [nilS]).push 193 [.ptr tid 5])) (T0 := [.ptr tid 0, .un, nilS, .un, .un, .un, .un, .un, .un, .un, .un, .un, .un, .un, .un, .un, .un, .un, .un]) (T1 := [.ptr tid 0, .un, nilS, .ptr Hs.nb 0, .un, .un, .un, .un, .un, .un, .un, .un, .un, .un, .un, .un, .un, .un, .un]) (T2 := [.ptr tid 0, .un, nilS, .ptr Hs.nb 0, .un, .un, .ptr tid 0, .d (TF true), .un, .un, .un, .un, .un, .un, .un, .un, .un, .un, .un]) (T3 := [.ptr tid 0, .un, nilS, .ptr Hs.nb 0, .un, .un, .ptr tid 0, .d (TF true), .ptr tid 0, .ptr tid 0, .ptr tid 5, .fn (.func 99) [] [.ptr (Hs.push 46 [nilS]).nb 0, .elt [S []]], .un, .un, .un, .un, .un, .un, .un]) (cs := [.ptr (Hs.push 46 [nilS]).nb 0, .elt [S []]]) Try.func32 rfl rfl ?_ ?_ ?_ ?_ ?_ ?_ Try.func99 (by rfl) (by rfl) ?_ ?_) ?_
 ·
  refine aw_start (T' := [.ptr tid 0, .un, .un, .un, .un, .un, .un, .un, .un, .un, .un, .un, .un, .un, .un, .un, .un, .un, .un]) rfl ?_
  refine aw_region ?_
  refine zst (op_assign_const (by rfl)) rfl (by dsimp only [zS, zN, zH, zT]) ?_
  refine al_end rfl ?_
  exact ⟨rfl, rfl, rfl⟩
 ·
  refine aw_region ?_
  refine zst (op_alloc (Zr46) (by rfl)) rfl (by dsimp only [zS, zN, zH, zT]) ?_
  refine al_end rfl ?_
  exact ⟨rfl, rfl, rfl⟩
 ·
  refine aw_region ?_
  refine zst (op_move_tmp (by rfl)) rfl (by dsimp only [zS, zN, zH, zT]) ?_
  refine zst (op_ptr_some Try.underlying72 (by rfl) (by rfl)) rfl (by dsimp only [zS, zN, zH, zT]) ?_
  refine al_end rfl ?_
  exact ⟨rfl, rfl, rfl⟩
 · rfl
 ·
  refine aw_region ?_
  refine zst (op_move_tmp (by rfl)) rfl (by dsimp only [zS, zN, zH, zT]) ?_
  refine zst (by first | exact op_nilCheck_ptr (by rfl) | exact op_nilCheck_elt (by rfl)) rfl (by dsimp only [zS, zN, zH, zT]) ?_
  refine zst (by first | exact op_fieldAddr_ptr Try.underlying145 rfl Sz143 (by rfl) (by rfl) | exact op_fieldAddr_elt Try.underlying145 rfl Sz143 (by rfl) (by rfl) (by rfl)) rfl (by dsimp only [zS, zN, zH, zT]) ?_
  refine zst (op_callF Try.func66 (by rfl) (by rfl) (.tmp (by rfl) (.const (by rfl) .nil)) (from_ok _ tid)) rfl (by dsimp only [zS, zN, zH, zT]) ?_
  refine al_end rfl ?_
  exact ⟨rfl, rfl, rfl⟩
 · rfl
 ·
  intro yl rc cap K hKb hKm hy
  refine ACalls.mono (from2_ok K tid sid lv sz ls vs (Hs.push 46 [nilS]).nb yl [.ptr tid 0, .un, nilS, .ptr Hs.nb 0, .un, .un, .ptr tid 0, .d (TF true), .ptr tid 0, .ptr tid 0, .ptr tid 5, .fn (.func 99) [] [.ptr (Hs.push 46 [nilS]).nb 0, .elt [S []]], .un, .un, .un, .un, .un, .un, .un] cap (fun i H => WrJ ((Hs.push 46 [nilS]).push 193 [.ptr tid 5]) 46 51 3 Hs.nb K.maps i H ∧ i ≤ ls.flatten.length) hr hrl hl9 ?_ ?_ ?_ ?_) ?_
  ·
   rintro i H ⟨hJ, _⟩
   exact ⟨hJ.keep _ _ push_at (by rw [push_nb]; omega), hJ.keep _ _ (push_ne (push_ne hT)) (by omega), hLB.mono fun j b hb he => hJ.keep j b hb fun e => by subst e; rw [push_ne push_at] at hb; cases hb; rcases he with he | he <;> cases he⟩
  · exact fun i H cs b h => ⟨h.1.push _ cs b, h.2⟩
  ·
   rintro i x H hx ⟨hJ, hi⟩ dst fo k w ts ty pos after gd E e1 e2 e3
   have hin : i < ls.flatten.length := (List.getElem?_eq_some_iff.1 hx).1
   obtain ⟨v, us, hO, hA, hvn⟩ := hJ.val
   have hlo : Hs.nb < H.nb := lt_nb hO
   have hov : Hs.nb ≠ H.nb := by omega
   have hbn : Hs.nb + 1 < H.nb := by have := lt_nb (hJ.keep _ _ push_at (by rw [push_nb]; omega)); rw [push_nb] at this; exact this
   refine hy H (fun H' => WrJ ((Hs.push 46 [nilS]).push 193 [.ptr tid 5]) 46 51 3 Hs.nb K.maps (i + 1) H' ∧ i + 1 ≤ ls.flatten.length) E dst fo k w ts ty pos after gd e1 (by rw [hJ.maps, hKm]; simp) ?_
   intro r
   rw [e2, e3]
   have hA1 : ∀ b m, Arr (((H.push 51 [.d (S []), .d (S []), .d (TF false)]).setB H.nb b).setM (((Hs.push 46 [nilS]).push 193 [.ptr tid 5]).maps.length + 1) m) 51 3 v i us := fun b m => Arr.mono hA fun id n c e => by show (HS.setB _ _ _).blks[id]? = _; have := Arr.idlt hA e; rw [setB_ne (by omega), push_lt this]
   refine awi_region ?_
   apply ali_normT (T' := [.ptr tid 0, .un, nilS, .ptr Hs.nb 0, .un, .un, .ptr tid 0, .d (TF true), .ptr tid 0, .ptr tid 0, .ptr tid 5, .fn (.func 99) [] [.ptr (Hs.push 46 [nilS]).nb 0, .elt [S []]], .d (S x.key), .d (.agg (wC x.w)), .un, .un, .un, .un, .un])
   · rfl
   refine zsti (op_alloc (Zr51) (by rfl)) (fun c h => by cases h) rfl (by dsimp only [zS, zN, zH, zT]) ?_
   refine zsti (op_storeB (vs := [.d (S x.w.key), .d (S x.w.val), .d (TF x.w.gone)]) (b' := ⟨51, [.d (S x.w.key), .d (S x.w.val), .d (TF x.w.gone)], false⟩) (H' := _) Sz51 (by rfl) push_at (by intro h; cases h) (by rfl) (by rfl) (Nat.le_of_ble_eq_true rfl) (by simp [AV.one, DV.one, TF, S, I, BY]) (by rfl) (by rfl) rfl) (fun c h => by cases h) rfl (by dsimp only [zS, zN, zH, zT]) ?_
   refine ali_end rfl ?_
   refine ⟨rfl, (by show H.maps[_]? = _; rw [hJ.maps, hKm]; simp), ?_⟩
   refine awi_block (awi_region ?_)
   refine zsti (op_load_ptr Try.underlying46 (by rfl) (by rfl) (by show (HS.setB _ _ _).blks[Hs.nb]? = _; rw [setB_ne hov]; exact push_ne hO) (by rfl)) (fun c h => by cases h) rfl (by dsimp only [zS, zN, zH, zT]) ?_
   refine zsti (op_load_ptrsD (wC x.w) Try.underlying51 (by rfl) Sz51 (by rfl) (show (HS.setB _ _ _).blks[H.nb]? = _ from setB_at push_at) (Nat.le_of_ble_eq_true rfl) (by rfl) (wC_one _)) (fun c h => by cases h) rfl (by dsimp only [zS, zN, zH, zT]) ?_
   refine zsti (op_lit Try.underlying46 ZS51 (.cons (y := wD x.w) (by rfl) (.nil _)) (by rfl) (Sb.lit_w _) (Sb.lit_w1 _) (by decide)) (fun c h => by cases h) rfl (by dsimp only [zS, zN, zH, zT]) ?_
   refine ali_cons _ (OpR.toI (op_append_arr Try.underlying46 Inf51 (by rfl) (hA1 _ _) (.list _ _ _ _ Try.underlying46 (LL.own _ _ _)) (by simp) (by simp; omega) (by simp; omega)) (fun c h => by cases h)) rfl ?_
   rintro v17 H17 ⟨hA2, hK2, id2, m2, c2, rfl, hn2, ho2⟩
   apply ali_normT
   · (try dsimp only [zS, zN, zH, zT]); try exact rfl
   have hO2 : H17.blks[Hs.nb]? = some ⟨46, [v], false⟩ := by rw [hK2.blks Hs.nb (by show _ < (HS.setM _ _ _).nb; simp only [setM_nb, setB_nb, push_nb]; omega) (fun n c e => by have := hvn _ _ _ e; rw [push_nb, push_nb] at this; omega)]; show (HS.setB _ _ _).blks[Hs.nb]? = _; rw [setB_ne hov]; exact push_ne hO
   refine zsti (op_storeB (vs := [.arr id2 m2 c2]) (b' := ⟨46, [.arr id2 m2 c2], false⟩) (H' := _) Sz46 (by rfl) hO2 (by intro h; cases h) (by rfl) (by rfl) (Nat.le_of_ble_eq_true rfl) (by simp [AV.one]) (by rfl) (by rfl) rfl) (fun c h => by cases h) rfl (by dsimp only [zS, zN, zH, zT]) ?_
   refine ali_end rfl ?_
   refine inBlock_normal ⟨rfl, ?_, ?_, by omega⟩
   ·
    show H17.maps[_]? = _
    rw [hK2.maps]
    show (H.maps.set _ _)[_]? = _
    rw [List.getElem?_set_self (by rw [hJ.maps, hKm]; simp)]
   ·
    refine ⟨⟨.arr id2 m2 c2, _, setB_at hO2, Arr.mono hA2 fun id n c e => ?_, fun id n c e => ?_⟩, fun j b hj hne => ?_, ?_⟩
    ·
     cases e
     show (HS.setB _ _ _).blks[_]? = _
     refine setB_ne fun e => ?_
     rcases Arr.or hA with h0 | ⟨id3, c3, h3⟩
     · have := hn2 h0; simp only [setM_nb, setB_nb, push_nb] at this; omega
     ·
      rcases ho2 _ _ _ h3 with q | q
      · have := hvn _ _ _ h3; simp only [push_nb] at this; omega
      · simp only [setM_nb, setB_nb, push_nb] at q; omega
    ·
     cases e
     rw [push_nb, push_nb]
     rcases Arr.or hA with h0 | ⟨id3, c3, h3⟩
     · have := hn2 h0; simp only [setM_nb, setB_nb, push_nb] at this; omega
     ·
      rcases ho2 _ _ _ h3 with q | q
      · have := hvn _ _ _ h3; simp only [push_nb] at this; omega
      · simp only [setM_nb, setB_nb, push_nb] at q; omega
    ·
     have h1 := hJ.keep j b hj hne
     have h2 := lt_nb h1
     have h3 := lt_nb hj
     show (HS.setB _ _ _).blks[j]? = _
     rw [setB_ne hne, hK2.blks j (by simp only [setM_nb, setB_nb, push_nb]; omega) (fun n c e => by have := hvn _ _ _ e; omega)]
     show (HS.setB _ _ _).blks[j]? = _
     rw [setB_ne (by omega)]
     exact push_ne h1
    ·
     show H17.maps.set _ _ = _
     rw [hK2.maps]
     show (H.maps.set _ _).set _ _ = _
     rw [List.set_set, hJ.maps, hKm]
     exact set_last
  · exact ⟨⟨⟨nilS, [], by rw [hKb]; exact push_ne push_at, .nil, fun _ _ _ e => by cases e⟩, fun j b hj _ => by rw [hKb]; exact hj, rfl⟩, Nat.zero_le _⟩
  ·
   rintro av K' ⟨e1, h2, _⟩
   obtain ⟨v, us, q1, q2, _⟩ := h2.val
   exact ⟨e1, h2.maps, v, us, Arr.mono q2 fun _ _ _ _ => rfl, q1⟩
 ·
  rintro v K ⟨us, q1, q2⟩
  refine awd_region ?_
  refine ald_step (op_load_ptr Try.underlying46 (by rfl) (by rfl) q2 (by rfl)) rfl (by dsimp only [zS]) ?_
  refine ald_step (op_assign_tmp (by rfl)) rfl (by dsimp only [zS]) ?_
  exact ald_nil ⟨rfl, rfl, rfl⟩
 ·
  rintro av H' ⟨⟨ms, hm⟩, us, q1, q2⟩
  exact ⟨⟨ms, hm⟩, us, Arr.mono q1 fun _ _ _ _ => rfl⟩
end Go.Proofs.Ytjbpfnoibeogbaa
namespace Go.AV.Sch
open Go.AV.Ord Go.AV.Oct
structure CTypes (P : Program) (tC tX tS tB tL : TypeId) : Prop where
  c : ∃ fs, P.underlying tC = some (.struct fs) ∧ (∃ f, fs[0]? = some f ∧ f.type = tS ∧ f.offset = 0) ∧ (∃ f, fs[1]? = some f ∧ f.type = tL ∧ f.offset = 1) ∧ fs.size = 2
  x : ∃ fs, P.underlying tX = some (.struct fs) ∧ (∃ f, fs[0]? = some f ∧ f.type = tS ∧ f.offset = 0) ∧ (∃ f, fs[1]? = some f ∧ f.type = tS ∧ f.offset = 1) ∧ (∃ f, fs[2]? = some f ∧ f.type = tB ∧ f.offset = 2) ∧ fs.size = 3
  s : P.underlying tS = some .string
  b : P.underlying tB = some .bool
  l : P.underlying tL = some (.slice tX)
  cC : P.cellsOf tC = 2
  cX : P.cellsOf tX = 3
  cS : P.cellsOf tS = 1
  cB : P.cellsOf tB = 1
  cL : P.cellsOf tL = 1
section
variable {H : Type} {enc : TypeId × Value → H} {P : Program} {W : World} {sp : Nat → Bool} {held : Bool} {tC tX tS tB tL : TypeId}
theorem lst_len {m : Nat → Nat → Option Value} {a : Option Addr} {n cap sz : Nat} {ys : List DV} (h : RepD m (.slice a n cap) (.lst sz ys)) : ys.length = n := by
  cases h with
  | lstE => rfl
  | lst => assumption
theorem reads_ix (T : CTypes P tC tX tS tB tL) {fuel : Nat} {cs : List Value} {d : DataW H} {p : List MemPlace} (h : DataW.trod enc P W 0 sp held fuel tX cs = some (d, p)) (hl : cs.length = 3) : ∃ y, Go.AV.Reads W (fun y => ∃ x : Ix, y = ixD x) 3 cs y := by
  obtain ⟨fs, hu, ⟨f0, g0, e0, o0⟩, ⟨f1, g1, e1, o1⟩, ⟨f2, g2, e2, o2⟩, hsz⟩ := T.x
  obtain ⟨xs, n, hn, _, _, hxl, hx⟩ := DataW.trod_struct hu h
  subst hn
  obtain ⟨c0, c1, c2, rfl⟩ : ∃ c0 c1 c2, cs = [c0, c1, c2] := by
    match cs, hl with
    | [c0, c1, c2], _ => exact ⟨_, _, _, rfl⟩
  have get : ∀ i, i < 3 → ∃ x, xs[i]? = some x := fun i hi => ⟨_, List.getElem?_eq_getElem (by omega)⟩
  have q0 := hx 0 f0 g0
  have q1 := hx 1 f1 g1
  have q2 := hx 2 f2 g2
  rw [e0, o0, T.cS] at q0
  rw [e1, o1, T.cS] at q1
  rw [e2, o2, T.cB] at q2
  obtain ⟨⟨_, _⟩, x0⟩ := get 0 (by decide)
  obtain ⟨⟨_, _⟩, x1⟩ := get 1 (by decide)
  obtain ⟨⟨_, _⟩, x2⟩ := get 2 (by decide)
  rw [x0] at q0; rw [x1] at q1; rw [x2] at q2
  obtain ⟨y0, r0⟩ := reads_str T.s q0
  obtain ⟨y1, r1⟩ := reads_str T.s q1
  obtain ⟨y2, r2⟩ := reads_bool T.b q2
  obtain ⟨a, rfl⟩ := r0.good
  obtain ⟨b, rfl⟩ := r1.good
  obtain ⟨u, rfl⟩ := r2.good
  have p0 := Val.one_cell r0 rfl
  have p1 := Val.one_cell r1 rfl
  have p2 := Val.one_cell r2 rfl
  have ec : (ixD ⟨a, b, u⟩).cells = [S a, S b, TF u] := rfl
  refine ⟨ixD ⟨a, b, u⟩, rfl, by rw [ec]; rfl, fun z hz => ?_, ⟨_, rfl⟩, fun j hj hj' => ?_⟩
  · rw [ec] at hz
    simp only [List.mem_cons, List.not_mem_nil, or_false] at hz
    rcases hz with rfl | rfl | rfl <;> rfl
  · simp only [ec]
    match j, hj with
    | 0, _ => exact p0
    | 1, _ => exact p1
    | 2, _ => exact p2
end
end Go.AV.Sch
namespace Go.AV.Sch
open Go.AV.Ord Go.AV.Oct Go.AV.Val
def fewIx (x : Ix) : Bool := decide (x.name.length ≤ 60) && decide (x.field.length ≤ 60)
def fewC (name : List UInt8) (xs : List Ix) : Bool := xs.all fewIx && decide (xs.length ≤ 12) && decide (name.length ≤ 60)
theorem fewC_parts {name : List UInt8} {xs : List Ix} (h : fewC name xs = true) : xs.length ≤ 12 ∧ name.length ≤ 60 := by
  simp only [fewC, Bool.and_eq_true, decide_eq_true_eq] at h
  exact ⟨h.1.2, h.2⟩
theorem fewC_step {xs : List Ix} {k : Nat} {y : Ix} (hy : xs[k]? = some y) (h : (xs.take k).all fewIx = true) (h1 : y.name.length ≤ 60) (h2 : y.field.length ≤ 60) : (xs.take (k + 1)).all fewIx = true := by
  rw [take_snoc hy, List.all_append, h]
  simp [fewIx, h1, h2]
theorem fewC_bad {name : List UInt8} {xs : List Ix} {k : Nat} {y : Ix} (hy : xs[k]? = some y) (h : fewIx y = false) : fewC name xs = false := by
  have : xs.all fewIx = false := by
    rw [List.all_eq_false]
    exact ⟨y, List.mem_of_getElem? hy, by simp [h]⟩
  simp [fewC, this]
def entryL (cn xn : List UInt8) (u : Bool) (v : V) (id : List UInt8) : List UInt8 := keyL [[105], cn, xn] ++ ordV v ++ (if u then [] else encT id)
theorem keyL_most : ∀ ps : List (List UInt8), (keyL ps).length ≤ 2 * (ps.map List.length).sum + 2 * ps.length
  | [] => by simp [keyL]
  | p :: ps => by
    have h1 := keyL_most ps
    have h2 := encT_len p
    have h3 := enc0_len p
    simp only [keyL, List.flatMap_cons, List.length_append, List.map_cons, List.sum_cons, List.length_cons] at h1 ⊢
    omega
def ordB : Nat → Nat
  | 0 => 0
  | n + 1 => 8 * ordB n + 1100
theorem ordV_few : ∀ (n : Nat) (v : V), fewV n v = true → (ordV v).length ≤ ordB n
  | 0, _, h => by simp [fewV] at h
  | n + 1, .mk k y i t l fs, h => by
    obtain ⟨h1, h2, h3, h4, h5⟩ := few_parts h
    simp only [V.list, V.fields, V.text] at h1 h2 h3 h4 h5
    have hl := flat_bound ordV (ordB n) l fun x hx => ordV_few n x (h4 x hx)
    have hf := flat_bound ordF1 (ordB n + 83) fs fun f hf => by
      have hh := ordV_few n f.val (h5 f hf).2
      have hn := encT_len f.name
      have hn2 := enc0_len f.name
      have := (h5 f hf).1
      simp only [ordF1, List.length_cons, List.length_append]
      omega
    have hl2 : l.length * ordB n ≤ 8 * ordB n := Nat.mul_le_mul_right _ h1
    have hf2 : fs.length * (ordB n + 83) ≤ 8 * (ordB n + 83) := Nat.mul_le_mul_right _ h2
    have ht := encT_len t
    have ht2 := enc0_len t
    have hi := encI_len i
    rw [ordV_mk]
    show _ ≤ 8 * ordB n + 1100
    split <;> (try split) <;> (try split) <;> (try split) <;> (try split) <;> simp only [List.length_cons, List.length_append, List.length_nil] <;> omega
theorem encT_split {a b m o : List UInt8} (h : encT a ++ m = encT b ++ o) : a = b ∧ m = o := by
  have e := encT_inj h
  subst e
  exact ⟨rfl, List.append_cancel_left h⟩
theorem keyL_cons (p : List UInt8) (ps : List (List UInt8)) (r : List UInt8) : keyL (p :: ps) ++ r = encT p ++ (keyL ps ++ r) := by simp [keyL]
theorem keyL_head {p q : List UInt8} {ps qs : List (List UInt8)} {r s : List UInt8} (h : keyL (p :: ps) ++ r = keyL (q :: qs) ++ s) : p = q ∧ keyL ps ++ r = keyL qs ++ s := by
  rw [keyL_cons, keyL_cons] at h
  exact encT_split h
theorem keyL_second {p q a b : List UInt8} {ps qs : List (List UInt8)} {r s : List UInt8} (h : keyL (p :: a :: ps) ++ r = keyL (q :: b :: qs) ++ s) : a = b := (keyL_head (keyL_head h).2).1
def ordE (uq : Bool) (c : Int) (a b : List UInt8) : Int := if c = 0 ∧ uq = false then byL a b else c
theorem ordE_zero {uq : Bool} {c : Int} {a b : List UInt8} (h : c = 0) (hu : uq = false) : ordE uq c a b = byL a b := by rw [ordE, if_pos ⟨h, hu⟩]
theorem ordE_ne {uq : Bool} {c : Int} {a b : List UInt8} (h : ¬ c = 0) : ordE uq c a b = c := by rw [ordE, if_neg fun e => h e.1]
theorem ordE_uq {uq : Bool} {c : Int} {a b : List UInt8} (hu : uq = true) : ordE uq c a b = c := by rw [ordE, if_neg fun e => by rw [hu] at e; cases e.2]
theorem entry_by {u v : V} (hu : rightV 32 u = true) (hv : rightV 32 v = true) (wu : WfV u) (wv : WfV v) (cn xn : List UInt8) (uq : Bool) (a b : List UInt8) : byL (entryL cn xn uq u a) (entryL cn xn uq v b) = ordE uq (cmpV u v) a b := by
  simp only [entryL, List.append_assoc, byL_append]
  rcases ordV_cmp 32 u v hu hv wu wv with ⟨rfl, hc⟩ | ⟨_, hc, hall⟩
  · rw [byL_append]
    cases uq with
    | true => rw [ordE_uq rfl, hc]; exact byL_self []
    | false =>
      rw [ordE_zero hc rfl]
      by_cases hab : a = b
      · subst hab
        exact (byL_self _).trans (byL_self _).symm
      · have := byL_encT hab [] []
        simpa using this
  · rw [hall, ordE_ne hc]
end Go.AV.Sch
namespace Go.AV
theorem HS.ok_apart {H : HS} {t t' : Option Nat} {n m k : Nat} (h : H.ok t n) (hne : ∀ i, t = some i → t' ≠ some i) (_ : H.ok t' k) : (H.up t' m).ok t n := by
  intro i hi
  have h1 := h i hi
  cases t' with
  | none =>
    simp only [HS.up]
    rw [List.getElem?_append_left (List.getElem?_eq_some_iff.1 h1).1]
    exact h1
  | some j =>
    have hj : j ≠ i := fun e => hne i hi (by rw [e])
    simp only [HS.up]
    rw [List.getElem?_set_ne hj]
    exact h1
theorem apart_up {H : HS} {t t' : Option Nat} {n : Nat} (h : H.ok t n) (hne : ∀ i, t = some i → t' ≠ some i) : ∀ i, t = some i → some (H.tk t') ≠ some i := by
  intro i hi
  have h1 := (List.getElem?_eq_some_iff.1 (h i hi)).1
  cases t' with
  | none =>
    intro e
    have e1 : H.toks.length = i := Option.some.inj e
    omega
  | some j => exact hne i hi
namespace Hist
open Go.AV.Ord Go.AV.Oct Go.AV.Patch
end Hist
end Go.AV
namespace Go.AV.Sb
open Go.AV.Ord Go.AV.Oct Go.AV.Hist Go.AV.Val Go.AV.Sch
theorem rises_iff : ∀ {l : List F}, rises l = true ↔ l.Pairwise (fun a b => Op.bytesLess a.name b.name = true)
  | [] => by simp [rises]
  | a :: l => by
    constructor
    · intro h
      exact .cons (fun x hx => rises_all h x hx) (rises_iff.1 (rises_tail h))
    · intro h
      cases h with
      | cons h1 h2 => exact rises_cons h1 (rises_iff.2 h2)
def Asc (l : List It) : Prop := l.Pairwise (fun a b => Op.bytesLess a.key b.key = true)
theorem asc_iff {l : List It} : rises (keysF l) = true ↔ Asc l := by
  unfold keysF Asc
  rw [rises_iff, List.pairwise_map]
  rfl
theorem asc_leaf {ls : List (List It)} (h : Asc ls.flatten) {l : List It} (hl : l ∈ ls) : Asc l := (List.pairwise_flatten.1 h).1 l hl
theorem head_mem {l : List It} (h : l ≠ []) : headI l ∈ l := by
  cases l with
  | nil => exact absurd rfl h
  | cons x l => exact List.mem_cons_self ..
theorem head_le {l : List It} (ha : Asc l) {x : It} (hx : x ∈ l) : headI l = x ∨ Op.bytesLess (headI l).key x.key = true := by
  cases l with
  | nil => simp at hx
  | cons y l =>
    cases ha with
    | cons h1 h2 =>
      rcases List.mem_cons.1 hx with rfl | hx
      · exact .inl rfl
      · exact .inr (h1 x hx)
theorem asc_firsts {ls : List (List It)} (h : Asc ls.flatten) (hne : ∀ l ∈ ls, l ≠ []) : rises (firstsF ls) = true := by
  unfold firstsF
  rw [rises_iff, List.pairwise_map]
  exact List.Pairwise.imp_of_mem (fun ha hb hr => hr _ (head_mem (hne _ ha)) _ (head_mem (hne _ hb))) (List.pairwise_flatten.1 h).2
theorem firsts_at {ls : List (List It)} {i : Nat} {l : List It} (h : ls[i]? = some l) : (firstsF ls)[i]? = some (toF (headI l)) := by
  unfold firstsF
  rw [List.getElem?_map, h]; rfl
theorem keys_at {l : List It} {i : Nat} {x : It} (h : l[i]? = some x) : (keysF l)[i]? = some (toF x) := by
  unfold keysF
  rw [List.getElem?_map, h]; rfl
theorem pos_at {l : List It} (ha : Asc l) {i : Nat} {x : It} (hx : l[i]? = some x) : posF (keysF l) x.key = i := by
  have hr := asc_iff.2 ha
  have h1 := posF_lt (n := x.key) hr (keys_at hx)
  have h2 : ¬ i < posF (keysF l) x.key := fun h => by
    have := h1.2 h
    rw [show (toF x).name = x.key from rfl, less_irrefl] at this
    cases this
  rcases Nat.lt_or_ge (posF (keysF l) x.key) i with h3 | h3
  · have hil : i < l.length := (List.getElem?_eq_some_iff.1 hx).1
    obtain ⟨y, hy⟩ : ∃ y, l[posF (keysF l) x.key]? = some y := ⟨_, List.getElem?_eq_getElem (by omega)⟩
    have h4 := rises_lt hr (keys_at hy) (keys_at hx) h3
    have h5 := (posF_lt (n := x.key) hr (keys_at hy)).1 h4
    omega
  · omega
theorem has_mem {l : List It} (ha : Asc l) {x : It} (hx : x ∈ l) : hasF (keysF l) x.key = true ∧ fndL l x.key = some x.w := by
  obtain ⟨i, hi, e⟩ := List.getElem_of_mem hx
  have hx' : l[i]? = some x := by rw [List.getElem?_eq_getElem hi, e]
  have hp := pos_at ha hx'
  have hh : hasF (keysF l) x.key = true := by
    unfold hasF
    rw [hp, keys_at hx']
    simp [toF, F.name]
  refine ⟨hh, ?_⟩
  unfold fndL
  rw [if_pos hh, hp, hx']
  rfl
theorem has_not {l : List It} {key : List UInt8} (h : ∀ x ∈ l, x.key ≠ key) : hasF (keysF l) key = false := by
  cases hh : hasF (keysF l) key with
  | false => rfl
  | true =>
    obtain ⟨x, hx, hk, _⟩ := fnd_yes hh
    exact absurd hk (h x (List.mem_of_getElem? hx))
theorem lf_lt {ls : List (List It)} (key : List UInt8) (h : ls ≠ []) : leafI ls key < ls.length := by
  have h1 := posU_le (firstsF ls) key
  have h2 : (firstsF ls).length = ls.length := List.length_map _
  have h3 : 0 < ls.length := List.length_pos_iff.2 h
  unfold leafI
  omega
theorem lf_ex (ls : List (List It)) (key : List UInt8) : ∃ l, LfAt ls key l ∧ (∀ x ∈ l, x ∈ ls.flatten) ∧ (l = [] ∨ l ∈ ls) := by
  by_cases h : ls = []
  · exact ⟨[], .inl ⟨h, rfl⟩, fun x hx => by simp at hx, .inl rfl⟩
  · have := lf_lt key h
    have hm : ls[leafI ls key] ∈ ls := List.getElem_mem this
    exact ⟨ls[leafI ls key], .inr (List.getElem?_eq_getElem this), fun x hx => List.mem_flatten.2 ⟨_, hm, hx⟩, .inr hm⟩
theorem lf_mem {ls : List (List It)} (h : Asc ls.flatten) (hne : ∀ l ∈ ls, l ≠ []) {l : List It} {x : It} (hl : LfAt ls x.key l) (hx : x ∈ ls.flatten) : x ∈ l := by
  obtain ⟨m, hm, hxm⟩ := List.mem_flatten.1 hx
  obtain ⟨j, hj, e⟩ := List.getElem_of_mem hm
  have hj' : ls[j]? = some m := by rw [List.getElem?_eq_getElem hj, e]
  have hl' : ls[leafI ls x.key]? = some l := by
    rcases hl with hl | hl
    · rw [hl.1] at hj; simp at hj
    · exact hl
  have hr := asc_firsts h hne
  have hpw := (List.pairwise_flatten.1 h).2
  have h1 : j < posU (firstsF ls) x.key := by
    refine (posU_lt hr (firsts_at hj')).1 ?_
    rcases head_le (asc_leaf h hm) hxm with q | q
    · exact .inr (by show (headI m).key = _; rw [q])
    · exact .inl q
  have h2 : leafI ls x.key + 1 = posU (firstsF ls) x.key := by unfold leafI; omega
  rcases Nat.lt_or_ge j (leafI ls x.key) with h3 | h3
  · have hil : leafI ls x.key < ls.length := (List.getElem?_eq_some_iff.1 hl').1
    have h4 : ∀ y ∈ l, Op.bytesLess x.key y.key = true := by
      have q := List.pairwise_iff_getElem.1 hpw j (leafI ls x.key) hj hil h3
      rw [e, show ls[leafI ls x.key] = l by rw [List.getElem?_eq_getElem hil] at hl'; exact Option.some.inj hl'] at q
      exact fun y hy => q x hxm y hy
    have hln : l ≠ [] := hne l (List.mem_of_getElem? hl')
    have h5 := h4 _ (head_mem hln)
    have h6 := (posU_lt (key := x.key) hr (firsts_at hl')).2 (by omega)
    rcases h6 with h6 | h6
    · have := less_trans h5 h6
      rw [less_irrefl] at this; cases this
    · rw [show (toF (headI l)).name = (headI l).key from rfl] at h6
      rw [h6, less_irrefl] at h5; cases h5
  · have : j = leafI ls x.key := by omega
    rw [this, hl'] at hj'
    cases hj'
    exact hxm
theorem not_le {a k : List UInt8} (h1 : ¬ (Op.bytesLess a k = true ∨ a = k)) : Op.bytesLess k a = true := by
  have h2 : a ≠ k := fun e => h1 (.inr e)
  rw [less_total h2]
  cases h3 : Op.bytesLess a k with
  | false => rfl
  | true => exact absurd (.inl h3) h1
theorem insI_sides {l : List It} (ha : Asc l) {x : It} (hno : ∀ y ∈ l, y.key ≠ x.key) : (∀ y ∈ l.take (posF (keysF l) x.key), Op.bytesLess y.key x.key = true) ∧ ∀ y ∈ l.drop (posF (keysF l) x.key), Op.bytesLess x.key y.key = true := by
  have hr := asc_iff.2 ha
  refine ⟨fun y hy => ?_, fun y hy => ?_⟩
  · obtain ⟨i, hi, e⟩ := List.getElem_of_mem hy
    rw [List.length_take] at hi
    have hy' : l[i]? = some y := by rw [List.getElem_take] at e; rw [List.getElem?_eq_getElem (by omega), e]
    exact (posF_lt (n := x.key) hr (keys_at hy')).2 (by omega)
  · obtain ⟨i, hi, e⟩ := List.getElem_of_mem hy
    rw [List.length_drop] at hi
    have hy' : l[posF (keysF l) x.key + i]? = some y := by rw [List.getElem_drop] at e; rw [List.getElem?_eq_getElem (by omega), e]
    have h1 := posF_lt (n := x.key) hr (keys_at hy')
    refine not_le fun h => ?_
    rcases h with h | h
    · have := h1.1 h; omega
    · exact hno y (List.mem_of_mem_drop hy) h
theorem split_at {ls : List (List It)} {i : Nat} {l : List It} (h : ls[i]? = some l) : ls = ls.take i ++ l :: ls.drop (i + 1) := by
  have hi : i < ls.length := (List.getElem?_eq_some_iff.1 h).1
  have e : ls[i] = l := by rw [List.getElem?_eq_getElem hi] at h; exact Option.some.inj h
  rw [← e, ← List.drop_eq_getElem_cons hi, List.take_append_drop]
theorem ins_flat {ls : List (List It)} (h : Asc ls.flatten) (hne : ∀ l ∈ ls, l ≠ []) {l : List It} {x : It} (hl : LfAt ls x.key l) (hno : ∀ y ∈ ls.flatten, y.key ≠ x.key) (h8 : l.length ≤ 8) (hcase : l.length = 8 → ls = [l]) :
    ∃ pre post, ls.flatten = pre ++ post ∧ (insL ls x l).flatten = pre ++ x :: post ∧ (∀ y ∈ pre, Op.bytesLess y.key x.key = true) ∧ ∀ y ∈ post, Op.bytesLess x.key y.key = true := by
  by_cases hz : ls = []
  · exact ⟨[], [], by rw [hz]; rfl, by unfold insL; rw [if_pos hz]; rfl, fun y hy => by simp at hy, fun y hy => by simp at hy⟩
  · have hl' : ls[leafI ls x.key]? = some l := by
      rcases hl with hl | hl
      · exact absurd hl.1 hz
      · exact hl
    have hi := (List.getElem?_eq_some_iff.1 hl').1
    have hlm : l ∈ ls := List.mem_of_getElem? hl'
    have hsp := split_at hl'
    have hr := asc_firsts h hne
    obtain ⟨s1, s2⟩ := insI_sides (asc_leaf h hlm) fun y hy => hno y (List.mem_flatten.2 ⟨l, hlm, hy⟩)
    have hpw := (List.pairwise_flatten.1 h).2
    rw [hsp, List.pairwise_append] at hpw
    have hlI := insI_length l x
    refine ⟨(ls.take (leafI ls x.key)).flatten ++ l.take (posF (keysF l) x.key), l.drop (posF (keysF l) x.key) ++ (ls.drop (leafI ls x.key + 1)).flatten, ?_, ?_, fun y hy => ?_, fun y hy => ?_⟩
    · conv => lhs; rw [hsp]
      rw [List.flatten_append, List.flatten_cons, List.append_assoc, ← List.append_assoc (l.take _) (l.drop _), List.take_append_drop]
    · unfold insL
      rw [if_neg hz]
      by_cases h9 : (insI l x).length ≤ 8
      · rw [if_pos h9, List.set_eq_take_append_cons_drop, if_pos hi, List.flatten_append, List.flatten_cons]
        simp [insI]
      · rw [if_neg h9]
        have hls := hcase (by omega)
        have h0 : leafI ls x.key = 0 := by
          have : ls.length = 1 := by rw [hls]; rfl
          omega
        rw [h0, hls]
        simp only [List.flatten_cons, List.flatten_nil, List.append_nil, List.take_append_drop, List.take_zero, List.nil_append, List.drop_succ_cons, List.drop_nil]
        rfl
    · rcases List.mem_append.1 hy with hy | hy
      · obtain ⟨m, hm, hym⟩ := List.mem_flatten.1 hy
        have h1 : ∀ z ∈ l, Op.bytesLess y.key z.key = true := fun z hzl => hpw.2.2 m hm l (List.mem_cons_self ..) y hym z hzl
        have h2 := h1 _ (head_mem (hne l hlm))
        have h3 : 0 < leafI ls x.key := by
          rcases Nat.eq_zero_or_pos (leafI ls x.key) with e | e
          · rw [e] at hm; simp at hm
          · exact e
        have h4 := (posU_lt (key := x.key) hr (firsts_at hl')).2 (by unfold leafI at h3 ⊢; omega)
        rcases h4 with h4 | h4
        · exact less_trans h2 h4
        · rw [show (toF (headI l)).name = (headI l).key from rfl] at h4
          rw [← h4]; exact h2
      · exact s1 y hy
    · rcases List.mem_append.1 hy with hy | hy
      · exact s2 y hy
      · obtain ⟨m, hm, hym⟩ := List.mem_flatten.1 hy
        obtain ⟨j, hj, e⟩ := List.getElem_of_mem hm
        rw [List.length_drop] at hj
        have hj' : ls[leafI ls x.key + 1 + j]? = some m := by rw [List.getElem_drop] at e; rw [List.getElem?_eq_getElem (by omega), e]
        have h1 := posU_lt (key := x.key) hr (firsts_at hj')
        have h2 : Op.bytesLess x.key (headI m).key = true := not_le fun q => by
          have := h1.1 q
          unfold leafI at this
          omega
        rcases head_le (asc_leaf h (List.mem_of_getElem? hj')) hym with q | q
        · rw [← q]; exact h2
        · exact less_trans h2 q
abbrev Cl := List UInt8 × List Ix
def cKey (n : List UInt8) : List UInt8 := keyL [[99], n]
theorem cKey_inj {a b : List UInt8} (h : cKey a = cKey b) : a = b :=
  keyL_second (p := [99]) (q := [99]) (ps := []) (qs := []) (r := []) (s := []) (by rw [List.append_nil, List.append_nil]; exact h)
def cIt (d : Cl) : It := ⟨cKey d.1, ⟨cKey d.1, encC d.2, false⟩⟩
def cDV (d : Cl) : DV := .agg [S d.1, .lst 3 (d.2.map ixD)]
def cE (ds : List Cl) : List (List UInt8 × DV) := ds.map fun d => (d.1, cDV d)
structure TI (ds : List Cl) (ls : List (List It)) : Prop where
  perm : ls.flatten.Perm (ds.map cIt)
  asc : Asc ls.flatten
  ne : ∀ l ∈ ls, l ≠ []
  shape : ls = [] ∨ (∃ l, ls = [l] ∧ l.length ≤ 8) ∨ ∃ a b, ls = [a, b] ∧ 4 ≤ a.length ∧ 4 ≤ b.length
  right : ∀ d ∈ ds, rightC d.1 d.2 = true
  once : (ds.map (·.1)).Nodup
theorem TI.nil : TI [] [] := ⟨.refl _, .nil, fun l hl => by simp at hl, .inl rfl, fun d hd => by simp at hd, .nil⟩
theorem TI.len {ds : List Cl} {ls : List (List It)} (h : TI ds ls) : ls.flatten.length = ds.length := by
  rw [h.perm.length_eq, List.length_map]
theorem TI.two {ds : List Cl} {ls : List (List It)} (h : TI ds ls) : ls.length ≤ 2 := by
  rcases h.shape with e | ⟨l, e, _⟩ | ⟨a, b, e, _⟩ <;> rw [e] <;> simp
theorem TI.firsts {ds : List Cl} {ls : List (List It)} (h : TI ds ls) : rises (firstsF ls) = true := asc_firsts h.asc h.ne
theorem TI.keys {ds : List Cl} {ls : List (List It)} (h : TI ds ls) {l : List It} (hl : l ∈ ls) : rises (keysF l) = true := asc_iff.2 (asc_leaf h.asc hl)
theorem TI.lkeys {ds : List Cl} {ls : List (List It)} (h : TI ds ls) {l : List It} (hl : l = [] ∨ l ∈ ls) : rises (keysF l) = true := by
  rcases hl with rfl | hl
  · rfl
  · exact h.keys hl
theorem TI.no {ds : List Cl} {ls : List (List It)} (h : TI ds ls) {n : List UInt8} (hn : n ∉ ds.map (·.1)) : ∀ y ∈ ls.flatten, y.key ≠ cKey n := fun y hy e => by
  obtain ⟨d, hd, rfl⟩ := List.mem_map.1 (h.perm.mem_iff.1 hy)
  exact hn (List.mem_map.2 ⟨d, hd, cKey_inj e⟩)
theorem TI.has {ds : List Cl} {ls : List (List It)} (h : TI ds ls) {d : Cl} (hd : d ∈ ds) {l : List It} (hl : LfAt ls (cKey d.1) l) (hlm : l = [] ∨ l ∈ ls) : fndL l (cKey d.1) = some ⟨cKey d.1, encC d.2, false⟩ := by
  have hx : cIt d ∈ ls.flatten := h.perm.mem_iff.2 (List.mem_map.2 ⟨d, hd, rfl⟩)
  have h1 := lf_mem h.asc h.ne (x := cIt d) hl hx
  exact (has_mem (asc_iff.1 (h.lkeys hlm)) h1).2
theorem TI.leaf {ds : List Cl} {ls : List (List It)} (h : TI ds ls) (hn : ds.length ≤ 11) {l : List It} (hl : l = [] ∨ l ∈ ls) : l.length ≤ 8 ∧ (l.length = 8 → ls = [l]) := by
  have hlen := h.len
  rcases hl with rfl | hl
  · exact ⟨by simp, fun e => by simp at e⟩
  rcases h.shape with e | ⟨m, e, hm⟩ | ⟨a, b, e, ha, hb⟩
  · rw [e] at hl; simp at hl
  · rw [e] at hl ⊢
    obtain rfl := List.mem_singleton.1 hl
    exact ⟨hm, fun _ => rfl⟩
  · rw [e] at hl hlen
    simp only [List.flatten_cons, List.flatten_nil, List.append_nil, List.length_append] at hlen
    simp only [List.mem_cons, List.not_mem_nil, or_false] at hl
    rcases hl with rfl | rfl
    · exact ⟨by omega, fun _ => by omega⟩
    · exact ⟨by omega, fun _ => by omega⟩
theorem insI_ne (l : List It) (x : It) : insI l x ≠ [] := fun e => by
  have := congrArg List.length e
  rw [insI_length] at this
  simp at this
theorem TI.put {ds : List Cl} {ls : List (List It)} (h : TI ds ls) (hn : ds.length ≤ 11) {d : Cl} {l : List It} (hl : LfAt ls (cKey d.1) l) (hlm : l = [] ∨ l ∈ ls) (hr : rightC d.1 d.2 = true) (hno : d.1 ∉ ds.map (·.1)) : TI (ds ++ [d]) (insL ls (cIt d) l) := by
  obtain ⟨h8, hcase⟩ := h.leaf hn hlm
  obtain ⟨pre, post, e1, e2, p1, p2⟩ := ins_flat h.asc h.ne (x := cIt d) hl (h.no hno) h8 hcase
  have hlI := insI_length l (cIt d)
  have hasc := h.asc
  rw [e1] at hasc
  refine ⟨?_, ?_, ?_, ?_, ?_, ?_⟩
  · rw [e2, List.map_append, List.map_singleton]
    have h1 := h.perm
    rw [e1] at h1
    exact (List.perm_middle.trans (List.Perm.cons _ h1)).trans (List.perm_append_singleton _ _).symm
  · rw [e2]
    unfold Asc at hasc ⊢
    rw [List.pairwise_append] at hasc ⊢
    refine ⟨hasc.1, .cons p2 hasc.2.1, fun a ha b hb => ?_⟩
    rcases List.mem_cons.1 hb with rfl | hb
    · exact p1 a ha
    · exact hasc.2.2 a ha b hb
  · intro m hm
    unfold insL at hm
    by_cases hz : ls = []
    · rw [if_pos hz] at hm
      rcases List.mem_singleton.1 hm with rfl
      simp
    · rw [if_neg hz] at hm
      by_cases h9 : (insI l (cIt d)).length ≤ 8
      · rw [if_pos h9] at hm
        rcases List.mem_or_eq_of_mem_set hm with hm | hm
        · exact h.ne m hm
        · rw [hm]; exact insI_ne _ _
      · rw [if_neg h9] at hm
        obtain ⟨n1, n2, _, _⟩ := half_ne (l := insI l (cIt d)) (by omega)
        simp only [List.mem_cons, List.not_mem_nil, or_false] at hm
        rcases hm with rfl | rfl
        · exact n1
        · exact n2
  · unfold insL
    by_cases hz : ls = []
    · rw [if_pos hz]
      exact .inr (.inl ⟨_, rfl, by simp⟩)
    · rw [if_neg hz]
      have hl' : ls[leafI ls (cKey d.1)]? = some l := by
        rcases hl with hl | hl
        · exact absurd hl.1 hz
        · exact hl
      by_cases h9 : (insI l (cIt d)).length ≤ 8
      · rw [if_pos h9]
        show ls.set (leafI ls (cKey d.1)) _ = [] ∨ (∃ l', ls.set (leafI ls (cKey d.1)) _ = [l'] ∧ _) ∨ ∃ a b, ls.set (leafI ls (cKey d.1)) _ = [a, b] ∧ _
        rcases h.shape with e | ⟨m, e, hm⟩ | ⟨a, b, e, ha, hb⟩
        · exact absurd e hz
        · right; left
          have hi := (List.getElem?_eq_some_iff.1 hl').1
          have h1 : ls.length = 1 := by rw [e]; rfl
          have h0 : leafI ls (cKey d.1) = 0 := by omega
          exact ⟨insI l (cIt d), by rw [h0, e]; rfl, h9⟩
        · right; right
          have hi := (List.getElem?_eq_some_iff.1 hl').1
          have h1 : ls.length = 2 := by rw [e]; rfl
          generalize leafI ls (cKey d.1) = i at hl' hi ⊢
          rw [e] at hl' ⊢
          match i, hl', hi with
          | 0, hl', _ => cases hl'; exact ⟨_, b, rfl, by rw [hlI]; omega, hb⟩
          | 1, hl', _ => cases hl'; exact ⟨a, _, rfl, ha, by rw [hlI]; omega⟩
          | i + 2, _, hi => omega
      · rw [if_neg h9]
        exact .inr (.inr ⟨_, _, rfl, by rw [List.length_take]; omega, by rw [List.length_drop]; omega⟩)
  · intro c hc
    rcases List.mem_append.1 hc with hc | hc
    · exact h.right c hc
    · rw [List.mem_singleton.1 hc]; exact hr
  · rw [List.map_append, List.nodup_append]
    refine ⟨h.once, by simp, fun a ha b hb e => ?_⟩
    simp only [List.map_cons, List.map_nil, List.mem_singleton] at hb
    exact hno (by rw [← hb, ← e]; exact ha)
theorem cE_get {ds : List Cl} {n : List UInt8} (h : n ∉ ds.map (·.1)) : getE (cE ds) n = none := by
  induction ds with
  | nil => rfl
  | cons d ds ih =>
    simp only [List.map_cons, List.mem_cons, not_or] at h
    show (if d.1 = n then _ else getE (cE ds) n) = none
    rw [if_neg (fun e => h.1 e.symm)]
    exact ih h.2
theorem cE_has {ds : List Cl} {n : List UInt8} (h : n ∈ ds.map (·.1)) : ∃ d ∈ ds, d.1 = n ∧ getE (cE ds) n = some (cDV d) := by
  induction ds with
  | nil => simp at h
  | cons d ds ih =>
    by_cases e : d.1 = n
    · exact ⟨d, List.mem_cons_self .., e, by show (if d.1 = n then _ else _) = _; rw [if_pos e]⟩
    · simp only [List.map_cons, List.mem_cons] at h
      rcases h with h | h
      · exact absurd h.symm e
      · obtain ⟨c, h1, h2, h3⟩ := ih h
        exact ⟨c, List.mem_cons_of_mem _ h1, h2, by show (if d.1 = n then _ else getE (cE ds) n) = _; rw [if_neg e]; exact h3⟩
theorem cE_put {ds : List Cl} {d : Cl} (h : d.1 ∉ ds.map (·.1)) : putE (cE ds) d.1 (cDV d) = cE (ds ++ [d]) := by
  induction ds with
  | nil => rfl
  | cons c ds ih =>
    simp only [List.map_cons, List.mem_cons, not_or] at h
    show (if c.1 = d.1 then _ else _ :: putE (cE ds) d.1 (cDV d)) = _
    rw [if_neg (fun e => h.1 e.symm), ih h.2]
    rfl
theorem cE_mem {ds : List Cl} {k : List UInt8} {v : DV} (h : (k, v) ∈ cE ds) : ∃ d ∈ ds, k = d.1 ∧ v = cDV d := by
  obtain ⟨d, hd, e⟩ := List.mem_map.1 h
  cases e
  exact ⟨d, hd, rfl, rfl⟩
theorem cE_len (ds : List Cl) : (cE ds).length = ds.length := List.length_map _
theorem cDV_one (d : Cl) : ∀ y ∈ (cDV d).cells, y.one = true := by
  intro y hy
  simp only [cDV, DV.cells, List.mem_cons, List.not_mem_nil, or_false] at hy
  rcases hy with rfl | rfl <;> rfl
theorem cE_look (ds : List Cl) (n : List UInt8) : ∃ (th : Bool) (m : List UInt8) (ys : List Ix), (getE (cE ds) n).isSome = th ∧ (getE (cE ds) n).getD (.agg [S [], .lst 3 []]) = .agg [S m, .lst 3 (ys.map ixD)] ∧ (th = true ↔ n ∈ ds.map (·.1)) := by
  by_cases h : n ∈ ds.map (·.1)
  · obtain ⟨d, _, _, e⟩ := cE_has h
    exact ⟨true, d.1, d.2, by rw [e]; rfl, by rw [e]; rfl, by simp [h]⟩
  · exact ⟨false, [], [], by rw [cE_get h]; rfl, by rw [cE_get h]; rfl, by simp [h]⟩
theorem TI.find {ds : List Cl} {ls : List (List It)} (h : TI ds ls) {name : List UInt8} {xs : List Ix} (hd : (name, xs) ∈ ds) :
    ∃ l, LfAt ls (keyL [[99], name]) l ∧ rises (keysF l) = true ∧ fndL l (keyL [[99], name]) = some ⟨keyL [[99], name], encC xs, false⟩ := by
  obtain ⟨l, h1, _, h3⟩ := lf_ex ls (cKey name)
  exact ⟨l, h1, h.lkeys h3, h.has hd h1 h3⟩
theorem TI.place {ds : List Cl} {ls : List (List It)} (h : TI ds ls) (hn : ds.length ≤ 11) {name : List UInt8} {xs : List Ix} (hr : rightC name xs = true) (hno : name ∉ ds.map (·.1)) :
    ∃ l, LfAt ls (keyL [[99], name]) l ∧ rises (keysF l) = true ∧ hasF (keysF l) (keyL [[99], name]) = false ∧ l.length ≤ 8 ∧ (l.length = 8 → ls = [l]) ∧
      TI (ds ++ [(name, xs)]) (insL ls ⟨keyL [[99], name], ⟨keyL [[99], name], encC xs, false⟩⟩ l) := by
  obtain ⟨l, h1, h2, h3⟩ := lf_ex ls (cKey name)
  obtain ⟨h4, h5⟩ := h.leaf hn h3
  exact ⟨l, h1, h.lkeys h3, has_not (fun x hx => h.no hno x (h2 x hx)), h4, h5, h.put hn (d := (name, xs)) h1 h3 hr hno⟩
theorem rightC_of_mem {ds : List Cl} {ls : List (List It)} (h : TI ds ls) {name : List UInt8} {xs : List Ix} (hd : (name, xs) ∈ ds) : rightC name xs = true := h.right _ hd
theorem repC0 (m : Mem) : RepD m (.agg #[.string ByteArray.empty, .slice none 0 0]) (.agg [S [], .lst 3 []]) := by
  refine .agg _ _ rfl (fun z hz => ?_) fun i hi => ?_
  · simp only [List.mem_cons, List.not_mem_nil, or_false] at hz
    rcases hz with rfl | rfl <;> rfl
  · match i, hi with
    | 0, _ => exact .v _ rfl
    | 1, _ => exact .lstE _ _ _
theorem addM_nb {H : HS} {ms : List MB} : (H.addM ms).nb = H.nb := rfl
theorem maps_add {H : HS} {ms : List MB} {i : Nat} {m : MB} (h : H.maps[i]? = some m) : (H.addM ms).maps[i]? = some m := by
  show (H.maps ++ ms)[i]? = _
  rw [List.getElem?_append_left (List.getElem?_eq_some_iff.1 h).1]
  exact h
theorem maps_set {H : HS} {i : Nat} {m m' : MB} (h : H.maps[i]? = some m) : (H.setM i m').maps[i]? = some m' := by
  show (H.maps.set i m')[i]? = _
  rw [List.getElem?_set_self (List.getElem?_eq_some_iff.1 h).1]
theorem maps_ne {H : HS} {i j : Nat} {m m' : MB} (h : H.maps[i]? = some m) (hn : j ≠ i) : (H.setM j m').maps[i]? = some m := by
  show (H.maps.set j m')[i]? = _
  rw [List.getElem?_set_ne hn]
  exact h
end Go.AV.Sb
namespace Go.AV.Sch
open Go.AV.Ord Go.AV.Oct Go.AV.Hist
instance decIx : DecidableEq Ix := fun a b => decidable_of_iff (a.name = b.name ∧ a.field = b.field ∧ a.uniq = b.uniq) (by cases a; cases b; simp)
theorem rNum_ext {most : Int} {s r : List UInt8} {x : Nat} (h0 : 0 ≤ most) (hm : most ≤ 4294967295) (h : rNum most (s, false) = (x, (r, false))) (t : List UInt8) : rNum most (s ++ t, false) = (x, (r ++ t, false)) := by
  obtain ⟨h1, h2⟩ := rNum_back h
  rw [h1, List.append_assoc]
  exact rNum_fwd _ (szN_4 (by omega)) (by omega)
theorem rText_ext {most : Int} {s r x : List UInt8} (h0 : 0 ≤ most) (hm : most ≤ 4294967295) (h : rText most (s, false) = (x, (r, false))) (t : List UInt8) : rText most (s ++ t, false) = (x, (r ++ t, false)) := by
  obtain ⟨h1, h2⟩ := rText_back h
  rw [h1, List.append_assoc]
  exact rText_fwd _ hm (by omega)
theorem rFlag_ext {s r : List UInt8} {b : Bool} (h : rFlag (s, false) = (b, (r, false))) (t : List UInt8) : rFlag (s ++ t, false) = (b, (r ++ t, false)) := by
  rw [rFlag_back h, List.append_assoc]
  exact rFlag_fwd _ _
theorem rIx_ext {s r : List UInt8} {x : Ix} (h : rIx (s, false) = (x, (r, false))) (t : List UInt8) : rIx (s ++ t, false) = (x, (r ++ t, false)) := by
  unfold rIx at h ⊢
  obtain ⟨a, ⟨s1, b1⟩, h1⟩ : ∃ n st, rText 40 (s, false) = (n, st) := ⟨_, _, rfl⟩
  obtain ⟨b, ⟨s2, b2⟩, h2⟩ : ∃ n st, rText 40 (s1, b1) = (n, st) := ⟨_, _, rfl⟩
  obtain ⟨c, ⟨s3, b3⟩, h3⟩ : ∃ n st, rFlag (s2, b2) = (n, st) := ⟨_, _, rfl⟩
  simp only [h1, h2, h3, Prod.mk.injEq] at h
  obtain ⟨rfl, rfl, rfl⟩ := h
  cases b1 with
  | true => rw [rText_bad] at h2; cases h2; rw [rFlag_bad] at h3; cases h3
  | false =>
    cases b2 with
    | true => rw [rFlag_bad] at h3; cases h3
    | false => simp only [rText_ext (by decide) (by decide) h1 t, rText_ext (by decide) (by decide) h2 t, rFlag_ext h3 t]
theorem rIxs_ext (t : List UInt8) : ∀ (n : Nat) (s : List UInt8), (rIxs n (s, false)).2.2 = false → rIxs n (s ++ t, false) = ((rIxs n (s, false)).1, ((rIxs n (s, false)).2.1 ++ t, false))
  | 0, s, _ => rfl
  | n + 1, s, h => by
    obtain ⟨a, ⟨s1, b1⟩, h1⟩ : ∃ q st, rIxs n (s, false) = (q, st) := ⟨_, _, rfl⟩
    obtain ⟨x, ⟨s2, b2⟩, h2⟩ : ∃ q st, rIx (s1, b1) = (q, st) := ⟨_, _, rfl⟩
    have e : rIxs (n + 1) (s, false) = (a ++ [x], (s2, b2)) := by simp only [rIxs, h1, h2]
    rw [e] at h ⊢
    have hb2 : b2 = false := h
    subst hb2
    cases b1 with
    | true => have := rIx_bad s1; rw [h2] at this; cases this
    | false =>
      have ih := rIxs_ext t n s (by rw [h1])
      rw [h1] at ih
      simp only [rIxs, ih, rIx_ext h2 t]
theorem rEnd_zero {st : RS} (h : rEnd st = 0) : st = ([], false) := by
  obtain ⟨s, b⟩ := st
  unfold rEnd at h
  split at h
  · cases h
  · rename_i h1
    have : s = [] := List.length_eq_zero_iff.1 (by simpa using h1)
    subst this
    cases b with
    | true => cases h
    | false => rfl
theorem decC_ext {s : List UInt8} (h : rEnd (decC s).2 = 0) (t : List UInt8) : (decC (s ++ t)).2 = (t, false) := by
  have h1 := rEnd_zero h
  unfold decC at h1 ⊢
  obtain ⟨n, ⟨s1, b1⟩, e1⟩ : ∃ q st, rNum 8 (s, false) = (q, st) := ⟨_, _, rfl⟩
  simp only [e1] at h1
  cases b1 with
  | true => rw [rIxs_bad] at h1; cases h1
  | false =>
    simp only [rNum_ext (by decide) (by decide) e1 t]
    rw [rIxs_ext t n s1 (by rw [h1]), h1]
    rfl
theorem short_of {name : List UInt8} {xs : List Ix} (h : rightC name xs = true) : ∀ x ∈ xs, x.name.length ≤ 40 ∧ x.field.length ≤ 40 := fun x hx => (right_ix h x hx).2
theorem dec_right {name : List UInt8} {xs : List Ix} (h : rightC name xs = true) : decErr name (encC xs) = 0 ∧ decName name (encC xs) = name ∧ decIxs name (encC xs) = xs := by
  have hf := decC_fwd (xs := xs) [] (right_bounds h).1 (short_of h)
  rw [List.append_nil] at hf
  have hok : decOk name (encC xs) = true := by
    unfold decOk; rw [hf]; simp [h, rEnd, rErr]
  refine ⟨by simp [decErr, hok], by simp [decName, hok], by simp [decIxs, hok, hf]⟩
theorem dec_cut {name : List UInt8} {xs : List Ix} (h : rightC name xs = true) {m : Nat} (hm : m < (encC xs).length) : decErr name ((encC xs).take m) = 2 := by
  have hok : decOk name ((encC xs).take m) = false := by
    cases hq : decOk name ((encC xs).take m) with
    | false => rfl
    | true =>
      simp only [decOk, Bool.and_eq_true, beq_iff_eq] at hq
      have h1 := decC_ext hq.1 ((encC xs).drop m)
      rw [List.take_append_drop] at h1
      have hf := decC_fwd (xs := xs) [] (right_bounds h).1 (short_of h)
      rw [List.append_nil] at hf
      rw [hf] at h1
      have h2 : (encC xs).drop m = [] := by
        have := congrArg Prod.fst h1
        exact this.symm
      have h3 := congrArg List.length h2
      rw [List.length_drop] at h3
      simp at h3
      omega
  simp [decErr, hok]
def okIx (seen : List (List UInt8)) (x : Ix) : Bool := nameB x.name && decide (x.field.length ≤ 40) && !decide (x.name ∈ seen)
def goodL (seen : List (List UInt8)) : List Ix → List (List UInt8)
  | [] => seen
  | x :: xs => if okIx seen x then goodL (seen ++ [x.name]) xs else seen
def rmsC (name : List UInt8) (xs : List Ix) : List MB := if nameB name && decide (xs.length ≤ 8) then [.map (bE (goodL [] xs))] else []
theorem any_mem (xs : List Ix) (n : List UInt8) : (xs.any fun y => n == y.name) = decide (n ∈ xs.map (·.name)) := by
  rw [Bool.eq_iff_iff, decide_eq_true_iff, List.any_eq_true, List.mem_map]
  simp only [beq_iff_eq]
  exact ⟨fun ⟨y, hy, e⟩ => ⟨y, hy, e.symm⟩, fun ⟨y, hy, e⟩ => ⟨y, hy, e.symm⟩⟩
theorem ok_ix {xs : List Ix} {k : Nat} {x : Ix} (hx : xs[k]? = some x) : okIx ((xs.take k).map (·.name)) x = rightAt xs k := by
  rw [rightAt_some hx, rightIx, any_mem]; rfl
theorem rightC_all {name : List UInt8} {xs : List Ix} (hn : nameB name = true) (h8 : xs.length ≤ 8) (h : (List.range xs.length).all (rightAt xs) = true) : rightC name xs = true := by
  rw [rightC_eq, hn, h]; simp [h8]
theorem nameB_yes {s : List UInt8} (h : s ≠ []) (h2 : s.length ≤ 40) : nameB s = true := by
  rw [nameB_ne h]; exact decide_eq_true (by omega)
theorem nameB_no {s : List UInt8} (h : ¬ s.length ≤ 40) : nameB s = false := by
  simp only [nameB, Bool.and_eq_false_iff, decide_eq_false_iff_not]; exact .inr h
def sameC (n : List UInt8) (xs : List Ix) (m : List UInt8) (ys : List Ix) : Bool := decide (n = m ∧ xs = ys)
theorem rms_no {name : List UInt8} {xs : List Ix} (h : nameB name = false ∨ ¬ xs.length ≤ 8) : rmsC name xs = [] ∧ rightC name xs = false := by
  unfold rmsC
  rw [rightC_eq]
  rcases h with h | h <;> simp [h]
theorem rms_yes {name : List UInt8} {xs : List Ix} (hn : nameB name = true) (h8 : xs.length ≤ 8) : rmsC name xs = [.map (bE (goodL [] xs))] := by
  unfold rmsC; rw [if_pos (by simp [hn, h8])]
def ixV (x : Ix) : List Value := [str x.name, str x.field, .bool x.uniq]
theorem rms_maps (name : List UInt8) (xs : List Ix) : ∀ m ∈ rmsC name xs, ∃ es, m = .map es := fun m hm => by
  unfold rmsC at hm
  split at hm
  · exact ⟨_, List.mem_singleton.1 hm⟩
  · cases hm
theorem same_self (name : List UInt8) (xs : List Ix) : sameC name xs name xs = true := by simp [sameC]
theorem addM_blks {H : HS} {ms : List MB} : (H.addM ms).blks = H.blks := rfl
end Go.AV.Sch
namespace Go.Proofs.Ytjbpfnoibeogbaa
open Go.AV Go.AV.Ord Go.AV.Oct Go.AV.Hist Go.AV.Sb Go.AV.Sch
set_option linter.unusedVariables false
set_option linter.unusedSimpArgs false
theorem run_eqX (w : World) (d : Nat) (a b : Ix) : (Op.equalIn (d + 3) 88 (.agg (ixV a).toArray) (.agg (ixV b).toArray)).run Try.prog w = .ok (decide (a = b)) w := by
  have hS : Try.prog.underlying 88 = some (.struct (Try.prog.fieldsOf 88)) := by kernel_rfl
  have hp : Try.prog.stoodInHeld 88 = false := by kernel_rfl
  have u3 := Try.underlying4
  have a3 := Try.isAgg4
  have u9 := Try.underlying9
  have a9 := Try.isAgg9
  rw [run_equalIn_agg w (d + 2) 88 _ _ hS hp]
  simp only [Program.fieldsOf, Try.underlying88]
  obtain ⟨a1, a2, a3'⟩ := a
  obtain ⟨b1, b2, b3⟩ := b
  simp only [ixV, str]
  go_simp
  by_cases h1 : a1 = b1 <;> by_cases h2 : a2 = b2 <;> by_cases h3 : a3' = b3 <;> simp [h1, h2, h3]
theorem op_neX {E : Operand → AV} {H : HS} {dst : Option Tmp} {ty t' : TypeId} {pos : String} {after : Array Edge} {gd : Option (Nat × Bool)} {x y : Operand} {a b : Ix} (hx : E x = .d (.agg (ixC a))) (hy : E y = .d (.agg (ixC b))) :
    OpR Try.prog ⟨dst, .binOp .neq 88 x y t', ty, pos, after, gd⟩ E H (Ret (.d (TF (!decide (a = b)))) H) :=
  op_bin_agg (X := ixV a) (Y := ixV b) hx hy (fun w => run_eqGuard_agg w .neq 88 x y _ _ (by kernel_rfl)) fun w => by
    rw [run_neq_struct, show (10000 : Nat) = 9997 + 3 from rfl, run_eqX]; simp [Result.andThen]
set_option maxHeartbeats 2000000 in
set_option maxRecDepth 100000 in
theorem lright_ok (Hs : HS) (name : List UInt8) (xs : List Ix) (hno : NoIt Hs) (hl : xs.length ≤ 1000000) : ACalls Try.prog 29 [.d (.agg [S name, .lst 3 (xs.map ixD)])] Hs (Ret (.d (TF (rightC name xs))) (Hs.addM (rmsC name xs))) := by
 refine ACalls.tidyA ?_
 refine acalls_of_aw Try.func29 rfl ?_
 refine aw_start (T' := [.d (.agg [S name, .lst 3 (xs.map ixD)]), .un, .un, .un, .un, .un, .un, .un, .un, .un, .un, .un, .un, .un, .un, .un, .un, .un, .un, .un, .un, .un, .un, .un, .un, .un, .un, .un, .un, .un, .un, .un, .un, .un, .un, .un, .un, .un, .un, .un, .un, .un, .un, .un, .un, .un, .un, .un, .un, .un, .un, .un, .un, .un]) rfl ?_
 refine aw_seq ?_
 refine aw_region ?_
 refine zst (op_box_elt (cs := [S name, .lst 3 (xs.map ixD)]) (by rfl) (by rfl)) rfl (by dsimp only [zS, zN, zH, zT]) ?_
 refine zst (op_assign_const (by rfl)) rfl (by dsimp only [zS, zN, zH, zT]) ?_
 refine al_end rfl ?_
 refine then_normal ?_
 refine aw_seq ?_
 refine aw_seq ?_
 refine aw_region ?_
 refine zst (by first | exact op_fieldAddr_ptr Try.underlying77 rfl Sz9 (by rfl) (by rfl) | exact op_fieldAddr_elt Try.underlying77 rfl Sz9 (by rfl) (by rfl) (by rfl)) rfl (by dsimp only [zS, zN, zH, zT]) ?_
 refine zst (by first | exact op_load_elt Try.underlying9 (by rfl) (by rfl) (by rfl) | exact op_load_ptr Try.underlying9 (by rfl) (by rfl) (by repeat (first | assumption | exact push_at | exact setB_at push_at | (rw [setM_blks]) | (rw [pushM_blks]) | apply push_ne)) (by rfl)) rfl (by dsimp only [zS, zN, zH, zT]) ?_
 refine zst (op_eqS (by rfl) (by rfl)) rfl (by dsimp only [zS, zN, zH, zT]) ?_
 refine zst (op_move_tmp (by rfl)) rfl (by dsimp only [zS, zN, zH, zT]) ?_
 refine al_split 9 rfl (fun hg1 => ?_) (fun hg1 => ?_)
 ·
  (try simp only [y1, y2, y3, y4, y5, y6, y7, y8, y9, y0, List.length_map] at hg1)
  have h0 : name = [] := by simpa using hg1
  obtain ⟨hrm, hrc⟩ := rms_no (name := name) (xs := xs) (.inl (by rw [h0]; rfl))
  apply al_normT
  · (try dsimp only [zS, zN, zH, zT]); try exact rfl
  refine zuw rfl rfl rfl rfl (by dsimp only [zS, zN, zH, zT]) ?_
  refine zuw rfl rfl rfl rfl (by dsimp only [zS, zN, zH, zT]) ?_
  refine zuw rfl rfl rfl rfl (by dsimp only [zS, zN, zH, zT]) ?_
  refine zuw rfl rfl rfl rfl (by dsimp only [zS, zN, zH, zT]) ?_
  refine zst (op_pick_tt (by rfl) (val_const (by rfl))) rfl (by dsimp only [zS, zN, zH, zT]) ?_
  refine zst (op_move_tmp (by rfl)) rfl (by dsimp only [zS, zN, zH, zT]) ?_
  refine zuw rfl rfl rfl rfl (by dsimp only [zS, zN, zH, zT]) ?_
  refine zuw rfl rfl rfl rfl (by dsimp only [zS, zN, zH, zT]) ?_
  refine zuw rfl rfl rfl rfl (by dsimp only [zS, zN, zH, zT]) ?_
  refine zuw rfl rfl rfl rfl (by dsimp only [zS, zN, zH, zT]) ?_
  refine zst (op_pick_tt (by rfl) (val_const (by rfl))) rfl (by dsimp only [zS, zN, zH, zT]) ?_
  refine al_end rfl ?_
  refine then_normal ?_
  refine aw_cond rfl (fun _ => ?_) (fun h => by cases h)
  refine aw_seq ?_
  refine aw_region ?_
  refine zst (op_assign_const (by rfl)) rfl (by dsimp only [zS, zN, zH, zT]) ?_
  refine al_end rfl ?_
  refine then_normal ?_
  refine aw_ret ?_
  refine then_ret ?_
  refine retPost1 rfl rfl ?_
  exact ⟨[], .d _, by rw [addM_nil]; exact Ext.refl _, by rw [hrc]; rfl, by rw [hrm]⟩
 ·
  (try simp only [y1, y2, y3, y4, y5, y6, y7, y8, y9, y0, List.length_map] at hg1)
  have h0 : name ≠ [] := by simpa using hg1
  apply al_normT
  · (try dsimp only [zS, zN, zH, zT]); try exact rfl
  refine zsw rfl rfl rfl (by first | exact op_fieldAddr_ptr Try.underlying77 rfl Sz9 (by rfl) (by rfl) | exact op_fieldAddr_elt Try.underlying77 rfl Sz9 (by rfl) (by rfl) (by rfl)) (by dsimp only [zS, zN, zH, zT]) ?_
  refine zsw rfl rfl rfl (by first | exact op_load_elt Try.underlying9 (by rfl) (by rfl) (by rfl) | exact op_load_ptr Try.underlying9 (by rfl) (by rfl) (by repeat (first | assumption | exact push_at | exact setB_at push_at | (rw [setM_blks]) | (rw [pushM_blks]) | apply push_ne)) (by rfl)) (by dsimp only [zS, zN, zH, zT]) ?_
  refine zsw rfl rfl rfl (op_lenS Try.underlying9 (by rfl)) (by dsimp only [zS, zN, zH, zT]) ?_
  refine zsw rfl rfl rfl (op_gtI (by rfl) (by rfl)) (by dsimp only [zS, zN, zH, zT]) ?_
  refine zst (op_pick_ff (by rfl) (val_tmp (by rfl))) rfl (by dsimp only [zS, zN, zH, zT]) ?_
  refine zst (op_move_tmp (by rfl)) rfl (by dsimp only [zS, zN, zH, zT]) ?_
  refine al_split 15 rfl (fun hg3 => ?_) (fun hg3 => ?_)
  ·
   (try simp only [y1, y2, y3, y4, y5, y6, y7, y8, y9, y0, List.length_map] at hg3)
   have h40 : ¬ name.length ≤ 40 := by omega
   obtain ⟨hrm, hrc⟩ := rms_no (name := name) (xs := xs) (.inl (nameB_no h40))
   apply al_normT
   · (try dsimp only [zS, zN, zH, zT]); try exact rfl
   refine zuw rfl rfl rfl rfl (by dsimp only [zS, zN, zH, zT]) ?_
   refine zuw rfl rfl rfl rfl (by dsimp only [zS, zN, zH, zT]) ?_
   refine zuw rfl rfl rfl rfl (by dsimp only [zS, zN, zH, zT]) ?_
   refine zuw rfl rfl rfl rfl (by dsimp only [zS, zN, zH, zT]) ?_
   refine zst (op_pick_tt (by rfl) (val_const (by rfl))) rfl (by dsimp only [zS, zN, zH, zT]) ?_
   refine al_end rfl ?_
   refine then_normal ?_
   refine aw_cond rfl (fun _ => ?_) (fun h => by cases h)
   refine aw_seq ?_
   refine aw_region ?_
   refine zst (op_assign_const (by rfl)) rfl (by dsimp only [zS, zN, zH, zT]) ?_
   refine al_end rfl ?_
   refine then_normal ?_
   refine aw_ret ?_
   refine then_ret ?_
   refine retPost1 rfl rfl ?_
   exact ⟨[], .d _, by rw [addM_nil]; exact Ext.refl _, by rw [hrc]; rfl, by rw [hrm]⟩
  ·
   (try simp only [y1, y2, y3, y4, y5, y6, y7, y8, y9, y0, List.length_map] at hg3)
   have h40 : name.length ≤ 40 := by omega
   have hnB := nameB_yes h0 h40
   apply al_normT
   · (try dsimp only [zS, zN, zH, zT]); try exact rfl
   refine zsw rfl rfl rfl (by first | exact op_fieldAddr_ptr Try.underlying77 rfl Sz75 (by rfl) (by rfl) | exact op_fieldAddr_elt Try.underlying77 rfl Sz75 (by rfl) (by rfl) (by rfl)) (by dsimp only [zS, zN, zH, zT]) ?_
   refine zsw rfl rfl rfl (by first | exact op_load_elt Try.underlying75 (by rfl) (by rfl) (by rfl) | exact op_load_ptr Try.underlying75 (by rfl) (by rfl) (by repeat (first | assumption | exact push_at | exact setB_at push_at | (rw [setM_blks]) | (rw [pushM_blks]) | apply push_ne)) (by rfl)) (by dsimp only [zS, zN, zH, zT]) ?_
   refine zsw rfl rfl rfl (op_lenL Try.underlying75 (by first | exact LL.d _ _ | exact LL.own _ _ _ | exact LL.nil _ | assumption)) (by dsimp only [zS, zN, zH, zT]) ?_
   refine zsw rfl rfl rfl (op_gtI (by rfl) (by rfl)) (by dsimp only [zS, zN, zH, zT]) ?_
   refine zst (op_pick_ff (by rfl) (val_tmp (by rfl))) rfl (by dsimp only [zS, zN, zH, zT]) ?_
   refine al_end rfl ?_
   refine then_normal ?_
   refine aw_cond rfl (fun hc5 => ?_) (fun hc5 => ?_)
   ·
    (try simp only [y1, y2, y3, y4, y5, y6, y7, y8, y9, y0, List.length_map] at hc5)
    (try simp only [List.length_map] at hc5)
    have h8 : ¬ xs.length ≤ 8 := by omega
    obtain ⟨hrm, hrc⟩ := rms_no (name := name) (xs := xs) (.inr h8)
    refine aw_seq ?_
    refine aw_region ?_
    refine zst (op_assign_const (by rfl)) rfl (by dsimp only [zS, zN, zH, zT]) ?_
    refine al_end rfl ?_
    refine then_normal ?_
    refine aw_ret ?_
    refine then_ret ?_
    refine retPost1 rfl rfl ?_
    exact ⟨[], .d _, by rw [addM_nil]; exact Ext.refl _, by rw [hrc]; rfl, by rw [hrm]⟩
   ·
    (try simp only [y1, y2, y3, y4, y5, y6, y7, y8, y9, y0, List.length_map] at hc5)
    (try simp only [List.length_map] at hc5)
    have h8 : xs.length ≤ 8 := by omega
    refine aw_skip ?_
    refine then_normal ?_
    refine aw_seq ?_
    refine aw_region ?_
    refine zst (op_makeMap) rfl (by dsimp only [zS, zN, zH, zT]) ?_
    refine zst (op_assign_tmp (by rfl)) rfl (by dsimp only [zS, zN, zH, zT]) ?_
    refine al_end rfl ?_
    refine then_normal ?_
    refine aw_seq ?_
    refine aw_seq ?_
    refine aw_region ?_
    refine zst (by first | exact op_fieldAddr_ptr Try.underlying77 rfl Sz75 (by rfl) (by rfl) | exact op_fieldAddr_elt Try.underlying77 rfl Sz75 (by rfl) (by rfl) (by rfl)) rfl (by dsimp only [zS, zN, zH, zT]) ?_
    refine zst (by first | exact op_load_elt Try.underlying75 (by rfl) (by rfl) (by rfl) | exact op_load_ptr Try.underlying75 (by rfl) (by rfl) (by repeat (first | assumption | exact push_at | exact setB_at push_at | (rw [setM_blks]) | (rw [pushM_blks]) | apply push_ne)) (by rfl)) rfl (by dsimp only [zS, zN, zH, zT]) ?_
    refine zst (op_lenL Try.underlying75 (by first | exact LL.d _ _ | exact LL.own _ _ _ | exact LL.nil _ | assumption)) rfl (by dsimp only [zS, zN, zH, zT]) ?_
    refine zst (op_move_const (by rfl)) rfl (by dsimp only [zS, zN, zH, zT]) ?_
    refine al_end rfl ?_
    refine then_normal ?_
    refine aw_block ?_
    apply aw_loopF (fun n T H => ∃ (k : Nat), T = [.un, .elt [S name, .lst 3 (xs.map ixD)], .un, .map Hs.nm, .un, .un, .un, .un, .un, .un, .un, .un, .un, .un, .un, .un, .un, .un, .un, .un, .un, .un, .un, .d (.lst 3 (xs.map ixD)), .d (I (xs.map ixD).length), .d (I k), .un, .un, .un, .un, .un, .un, .un, .un, .un, .un, .un, .un, .un, .un, .un, .un, .un, .un, .un, .un, .un, .un, .un, .un, .un, .un, .un, .un] ∧ k ≤ xs.length ∧ n = xs.length - k ∧ (List.range k).all (rightAt xs) = true ∧ goodL ((xs.take k).map (·.name)) (xs.drop k) = goodL [] xs ∧ Ext (Hs.addM [.map (bE ((xs.take k).map (·.name)))]) H ∧ NoIt H) (xs.length) [false, true, false, true, false, false, false, false, false, false, false, false, false, false, false, false, false, false, false, false, false, false, false, true, true, true, false, false, false, false, false, false, false, false, false, false, false, false, false, false, false, false, false, false, false, false, false, false, false, false, false, false, false, false]
    · (try dsimp only [maskT]); try exact rfl
    · rfl
    · exact ⟨0, rfl, by omega, rfl, rfl, rfl, (Ext.pushAdd (ms := []) (by rw [addM_nil]; exact Ext.refl _)), hno.push _⟩
    rintro n T H ⟨k, rfl, hk, rfl, hall, hgl, hx, hni⟩
    refine aw_seq ?_
    refine aw_region ?_
    refine zst (op_ltI (by rfl) (by rfl)) rfl (by dsimp only [zS, zN, zH, zT]) ?_
    refine al_end rfl ?_
    refine then_normal ?_
    refine aw_seq ?_
    refine aw_cond rfl (fun hc6 => ?_) (fun hc6 => ?_)
    ·
     (try simp only [y1, y2, y3, y4, y5, y6, y7, y8, y9, y0, List.length_map] at hc6)
     (try simp only [List.length_map] at hc6)
     have hlt : k < xs.length := by omega
     obtain ⟨x, hx1⟩ : ∃ z0, xs[k]? = some z0 := ⟨_, List.getElem?_eq_getElem hlt⟩
     refine aw_skip ?_
     refine then_normal ?_
     refine aw_seq ?_
     refine aw_block ?_
     refine aw_seq ?_
     refine aw_region ?_
     refine zst (op_indexAddr (z := ixD x) (cs := [S x.name, S x.field, TF x.uniq]) Try.underlying75 Sz88 (LL.d _ _) (by rfl) (by omega) (by rw [List.getElem?_map, show ((k : Nat) : Int).toNat = k from rfl, hx1]; rfl) (by rfl)) rfl (by dsimp only [zS, zN, zH, zT]) ?_
     refine zst (op_load_elts (ds := ixC x) Try.underlying88 (by rfl) Sz88 (by rfl) (Nat.le_of_ble_eq_true rfl) (by rfl)) rfl (by dsimp only [zS, zN, zH, zT]) ?_
     refine zst (op_alloc (Zr88) (by rfl)) rfl (by dsimp only [zS, zN, zH, zT]) ?_
     refine zst (op_storeB (vs := [.d (S x.name), .d (S x.field), .d (TF x.uniq)]) (b' := ⟨88, [.d (S x.name), .d (S x.field), .d (TF x.uniq)], false⟩) (H' := _) Sz88 (by rfl) push_at (by intro h; cases h) (by rfl) (by rfl) (Nat.le_of_ble_eq_true rfl) (by simp [AV.one, DV.one, TF, S, I, BY]) (by rfl) (by rfl) rfl) rfl (by dsimp only [zS, zN, zH, zT]) ?_
     refine al_end rfl ?_
     refine then_normal ?_
     refine aw_seq ?_
     refine aw_seq ?_
     refine aw_region ?_
     refine zst (by first | exact op_fieldAddr_ptr Try.underlying88 rfl Sz9 (by rfl) (by rfl) | exact op_fieldAddr_elt Try.underlying88 rfl Sz9 (by rfl) (by rfl) (by rfl)) rfl (by dsimp only [zS, zN, zH, zT]) ?_
     refine zst (by first | exact op_load_elt Try.underlying9 (by rfl) (by rfl) (by rfl) | exact op_load_ptr Try.underlying9 (by rfl) (by rfl) (by repeat (first | assumption | exact push_at | exact setB_at push_at | (rw [setM_blks]) | (rw [pushM_blks]) | apply push_ne)) (by rfl)) rfl (by dsimp only [zS, zN, zH, zT]) ?_
     refine zst (op_eqS (by rfl) (by rfl)) rfl (by dsimp only [zS, zN, zH, zT]) ?_
     refine zst (op_move_tmp (by rfl)) rfl (by dsimp only [zS, zN, zH, zT]) ?_
     refine al_split 32 rfl (fun hg7 => ?_) (fun hg7 => ?_)
     ·
      (try simp only [y1, y2, y3, y4, y5, y6, y7, y8, y9, y0, List.length_map] at hg7)
      have q0 : x.name = [] := by simpa using hg7
      have hbad : okIx ((xs.take k).map (·.name)) x = false := by rw [okIx, q0]; rfl
      have hrc := right_bad (name := name) hlt (by rw [← ok_ix hx1]; exact hbad)
      rw [drop_one hx1, goodL, if_neg (by rw [hbad]; decide)] at hgl
      apply al_normT
      · (try dsimp only [zS, zN, zH, zT]); try exact rfl
      refine zuw rfl rfl rfl rfl (by dsimp only [zS, zN, zH, zT]) ?_
      refine zuw rfl rfl rfl rfl (by dsimp only [zS, zN, zH, zT]) ?_
      refine zuw rfl rfl rfl rfl (by dsimp only [zS, zN, zH, zT]) ?_
      refine zuw rfl rfl rfl rfl (by dsimp only [zS, zN, zH, zT]) ?_
      refine zst (op_pick_tt (by rfl) (val_const (by rfl))) rfl (by dsimp only [zS, zN, zH, zT]) ?_
      refine zst (op_move_tmp (by rfl)) rfl (by dsimp only [zS, zN, zH, zT]) ?_
      refine zuw rfl rfl rfl rfl (by dsimp only [zS, zN, zH, zT]) ?_
      refine zuw rfl rfl rfl rfl (by dsimp only [zS, zN, zH, zT]) ?_
      refine zuw rfl rfl rfl rfl (by dsimp only [zS, zN, zH, zT]) ?_
      refine zuw rfl rfl rfl rfl (by dsimp only [zS, zN, zH, zT]) ?_
      refine zst (op_pick_tt (by rfl) (val_const (by rfl))) rfl (by dsimp only [zS, zN, zH, zT]) ?_
      refine zst (op_move_tmp (by rfl)) rfl (by dsimp only [zS, zN, zH, zT]) ?_
      refine zuw rfl rfl rfl rfl (by dsimp only [zS, zN, zH, zT]) ?_
      refine zuw rfl rfl rfl rfl (by dsimp only [zS, zN, zH, zT]) ?_
      refine zuw rfl rfl rfl rfl (by dsimp only [zS, zN, zH, zT]) ?_
      refine zuw rfl rfl rfl rfl (by dsimp only [zS, zN, zH, zT]) ?_
      refine zst (op_pick_tt (by rfl) (val_const (by rfl))) rfl (by dsimp only [zS, zN, zH, zT]) ?_
      refine al_end rfl ?_
      refine then_normal ?_
      refine aw_cond rfl (fun _ => ?_) (fun h => by cases h)
      refine aw_seq ?_
      refine aw_region ?_
      refine zst (op_assign_const (by rfl)) rfl (by dsimp only [zS, zN, zH, zT]) ?_
      refine al_end rfl ?_
      refine then_normal ?_
      refine aw_ret ?_
      refine then_ret (inBlock_ret (then_ret (again_ret (inBlock_ret (then_ret ?_)))))
      refine retPost1 rfl rfl ?_
      exact ⟨[.map (bE ((xs.take k).map (·.name)))], .d _, (by repeat (first | assumption | apply Ext.push | (refine Ext.setB ?_ (by have := nb_le hx; (try simp only [setB_nb, push_nb]); omega)))), by rw [hrc]; rfl, by rw [rms_yes hnB h8, ← hgl]⟩
     ·
      (try simp only [y1, y2, y3, y4, y5, y6, y7, y8, y9, y0, List.length_map] at hg7)
      have q0 : x.name ≠ [] := by simpa using hg7
      apply al_normT
      · (try dsimp only [zS, zN, zH, zT]); try exact rfl
      refine zsw rfl rfl rfl (by first | exact op_fieldAddr_ptr Try.underlying88 rfl Sz9 (by rfl) (by rfl) | exact op_fieldAddr_elt Try.underlying88 rfl Sz9 (by rfl) (by rfl) (by rfl)) (by dsimp only [zS, zN, zH, zT]) ?_
      refine zsw rfl rfl rfl (by first | exact op_load_elt Try.underlying9 (by rfl) (by rfl) (by rfl) | exact op_load_ptr Try.underlying9 (by rfl) (by rfl) (by repeat (first | assumption | exact push_at | exact setB_at push_at | (rw [setM_blks]) | (rw [pushM_blks]) | apply push_ne)) (by rfl)) (by dsimp only [zS, zN, zH, zT]) ?_
      refine zsw rfl rfl rfl (op_lenS Try.underlying9 (by rfl)) (by dsimp only [zS, zN, zH, zT]) ?_
      refine zsw rfl rfl rfl (op_gtI (by rfl) (by rfl)) (by dsimp only [zS, zN, zH, zT]) ?_
      refine zst (op_pick_ff (by rfl) (val_tmp (by rfl))) rfl (by dsimp only [zS, zN, zH, zT]) ?_
      refine zst (op_move_tmp (by rfl)) rfl (by dsimp only [zS, zN, zH, zT]) ?_
      refine al_split 38 rfl (fun hg9 => ?_) (fun hg9 => ?_)
      ·
       (try simp only [y1, y2, y3, y4, y5, y6, y7, y8, y9, y0, List.length_map] at hg9)
       have q40 : ¬ x.name.length ≤ 40 := by omega
       have hbad : okIx ((xs.take k).map (·.name)) x = false := by rw [okIx, nameB_no q40]; rfl
       have hrc := right_bad (name := name) hlt (by rw [← ok_ix hx1]; exact hbad)
       rw [drop_one hx1, goodL, if_neg (by rw [hbad]; decide)] at hgl
       apply al_normT
       · (try dsimp only [zS, zN, zH, zT]); try exact rfl
       refine zuw rfl rfl rfl rfl (by dsimp only [zS, zN, zH, zT]) ?_
       refine zuw rfl rfl rfl rfl (by dsimp only [zS, zN, zH, zT]) ?_
       refine zuw rfl rfl rfl rfl (by dsimp only [zS, zN, zH, zT]) ?_
       refine zuw rfl rfl rfl rfl (by dsimp only [zS, zN, zH, zT]) ?_
       refine zst (op_pick_tt (by rfl) (val_const (by rfl))) rfl (by dsimp only [zS, zN, zH, zT]) ?_
       refine zst (op_move_tmp (by rfl)) rfl (by dsimp only [zS, zN, zH, zT]) ?_
       refine zuw rfl rfl rfl rfl (by dsimp only [zS, zN, zH, zT]) ?_
       refine zuw rfl rfl rfl rfl (by dsimp only [zS, zN, zH, zT]) ?_
       refine zuw rfl rfl rfl rfl (by dsimp only [zS, zN, zH, zT]) ?_
       refine zuw rfl rfl rfl rfl (by dsimp only [zS, zN, zH, zT]) ?_
       refine zst (op_pick_tt (by rfl) (val_const (by rfl))) rfl (by dsimp only [zS, zN, zH, zT]) ?_
       refine al_end rfl ?_
       refine then_normal ?_
       refine aw_cond rfl (fun _ => ?_) (fun h => by cases h)
       refine aw_seq ?_
       refine aw_region ?_
       refine zst (op_assign_const (by rfl)) rfl (by dsimp only [zS, zN, zH, zT]) ?_
       refine al_end rfl ?_
       refine then_normal ?_
       refine aw_ret ?_
       refine then_ret (inBlock_ret (then_ret (again_ret (inBlock_ret (then_ret ?_)))))
       refine retPost1 rfl rfl ?_
       exact ⟨[.map (bE ((xs.take k).map (·.name)))], .d _, (by repeat (first | assumption | apply Ext.push | (refine Ext.setB ?_ (by have := nb_le hx; (try simp only [setB_nb, push_nb]); omega)))), by rw [hrc]; rfl, by rw [rms_yes hnB h8, ← hgl]⟩
      ·
       (try simp only [y1, y2, y3, y4, y5, y6, y7, y8, y9, y0, List.length_map] at hg9)
       have q40 : x.name.length ≤ 40 := by omega
       have qnB := nameB_yes q0 q40
       apply al_normT
       · (try dsimp only [zS, zN, zH, zT]); try exact rfl
       refine zsw rfl rfl rfl (by first | exact op_fieldAddr_ptr Try.underlying88 rfl Sz9 (by rfl) (by rfl) | exact op_fieldAddr_elt Try.underlying88 rfl Sz9 (by rfl) (by rfl) (by rfl)) (by dsimp only [zS, zN, zH, zT]) ?_
       refine zsw rfl rfl rfl (by first | exact op_load_elt Try.underlying9 (by rfl) (by rfl) (by rfl) | exact op_load_ptr Try.underlying9 (by rfl) (by rfl) (by repeat (first | assumption | exact push_at | exact setB_at push_at | (rw [setM_blks]) | (rw [pushM_blks]) | apply push_ne)) (by rfl)) (by dsimp only [zS, zN, zH, zT]) ?_
       refine zsw rfl rfl rfl (op_lenS Try.underlying9 (by rfl)) (by dsimp only [zS, zN, zH, zT]) ?_
       refine zsw rfl rfl rfl (op_gtI (by rfl) (by rfl)) (by dsimp only [zS, zN, zH, zT]) ?_
       refine zst (op_pick_ff (by rfl) (val_tmp (by rfl))) rfl (by dsimp only [zS, zN, zH, zT]) ?_
       refine zst (op_move_tmp (by rfl)) rfl (by dsimp only [zS, zN, zH, zT]) ?_
       refine al_split 44 rfl (fun hg11 => ?_) (fun hg11 => ?_)
       ·
        (try simp only [y1, y2, y3, y4, y5, y6, y7, y8, y9, y0, List.length_map] at hg11)
        have qf : ¬ x.field.length ≤ 40 := by omega
        have hbad : okIx ((xs.take k).map (·.name)) x = false := by rw [okIx, decide_eq_false qf]; simp
        have hrc := right_bad (name := name) hlt (by rw [← ok_ix hx1]; exact hbad)
        rw [drop_one hx1, goodL, if_neg (by rw [hbad]; decide)] at hgl
        apply al_normT
        · (try dsimp only [zS, zN, zH, zT]); try exact rfl
        refine zuw rfl rfl rfl rfl (by dsimp only [zS, zN, zH, zT]) ?_
        refine zuw rfl rfl rfl rfl (by dsimp only [zS, zN, zH, zT]) ?_
        refine zuw rfl rfl rfl rfl (by dsimp only [zS, zN, zH, zT]) ?_
        refine zuw rfl rfl rfl rfl (by dsimp only [zS, zN, zH, zT]) ?_
        refine zst (op_pick_tt (by rfl) (val_const (by rfl))) rfl (by dsimp only [zS, zN, zH, zT]) ?_
        refine al_end rfl ?_
        refine then_normal ?_
        refine aw_cond rfl (fun _ => ?_) (fun h => by cases h)
        refine aw_seq ?_
        refine aw_region ?_
        refine zst (op_assign_const (by rfl)) rfl (by dsimp only [zS, zN, zH, zT]) ?_
        refine al_end rfl ?_
        refine then_normal ?_
        refine aw_ret ?_
        refine then_ret (inBlock_ret (then_ret (again_ret (inBlock_ret (then_ret ?_)))))
        refine retPost1 rfl rfl ?_
        exact ⟨[.map (bE ((xs.take k).map (·.name)))], .d _, (by repeat (first | assumption | apply Ext.push | (refine Ext.setB ?_ (by have := nb_le hx; (try simp only [setB_nb, push_nb]); omega)))), by rw [hrc]; rfl, by rw [rms_yes hnB h8, ← hgl]⟩
       ·
        (try simp only [y1, y2, y3, y4, y5, y6, y7, y8, y9, y0, List.length_map] at hg11)
        have qf : x.field.length ≤ 40 := by omega
        apply al_normT
        · (try dsimp only [zS, zN, zH, zT]); try exact rfl
        refine zsw rfl rfl rfl (op_move_tmp (by rfl)) (by dsimp only [zS, zN, zH, zT]) ?_
        refine zsw rfl rfl rfl (by first | exact op_fieldAddr_ptr Try.underlying88 rfl Sz9 (by rfl) (by rfl) | exact op_fieldAddr_elt Try.underlying88 rfl Sz9 (by rfl) (by rfl) (by rfl)) (by dsimp only [zS, zN, zH, zT]) ?_
        refine zsw rfl rfl rfl (by first | exact op_load_elt Try.underlying9 (by rfl) (by rfl) (by rfl) | exact op_load_ptr Try.underlying9 (by rfl) (by rfl) (by repeat (first | assumption | exact push_at | exact setB_at push_at | (rw [setM_blks]) | (rw [pushM_blks]) | apply push_ne)) (by rfl)) (by dsimp only [zS, zN, zH, zT]) ?_
        refine zsw rfl rfl rfl (op_lookup_b Try.underlying149 Try.underlying9 Zr4 (by rfl) (by rfl) (Ext.at0 (by repeat (first | assumption | apply Ext.push | (refine Ext.setB ?_ (by have := nb_le hx; (try simp only [setB_nb, push_nb]); omega)))))) (by dsimp only [zS, zN, zH, zT]) ?_
        refine zst (op_pick_ff (by rfl) (val_tmp (by rfl))) rfl (by dsimp only [zS, zN, zH, zT]) ?_
        refine al_end rfl ?_
        refine then_normal ?_
        refine aw_cond rfl (fun hc13 => ?_) (fun hc13 => ?_)
        ·
         (try simp only [y1, y2, y3, y4, y5, y6, y7, y8, y9, y0, List.length_map] at hc13)
         have qs : x.name ∈ ((xs.take k).map (·.name)) := by simpa using hc13
         have hbad : okIx ((xs.take k).map (·.name)) x = false := by rw [okIx, decide_eq_true qs]; simp
         have hrc := right_bad (name := name) hlt (by rw [← ok_ix hx1]; exact hbad)
         rw [drop_one hx1, goodL, if_neg (by rw [hbad]; decide)] at hgl
         refine aw_seq ?_
         refine aw_region ?_
         refine zst (op_assign_const (by rfl)) rfl (by dsimp only [zS, zN, zH, zT]) ?_
         refine al_end rfl ?_
         refine then_normal ?_
         refine aw_ret ?_
         refine then_ret (inBlock_ret (then_ret (again_ret (inBlock_ret (then_ret ?_)))))
         refine retPost1 rfl rfl ?_
         exact ⟨[.map (bE ((xs.take k).map (·.name)))], .d _, (by repeat (first | assumption | apply Ext.push | (refine Ext.setB ?_ (by have := nb_le hx; (try simp only [setB_nb, push_nb]); omega)))), by rw [hrc]; rfl, by rw [rms_yes hnB h8, ← hgl]⟩
        ·
         (try simp only [y1, y2, y3, y4, y5, y6, y7, y8, y9, y0, List.length_map] at hc13)
         have qs : ¬ x.name ∈ ((xs.take k).map (·.name)) := by simpa using hc13
         have hgood : okIx ((xs.take k).map (·.name)) x = true := by rw [okIx, qnB, decide_eq_true qf, decide_eq_false qs]; rfl
         have hra : rightAt xs k = true := by rw [← ok_ix hx1]; exact hgood
         rw [drop_one hx1, goodL, if_pos hgood] at hgl
         refine aw_skip ?_
         refine then_normal ?_
         refine aw_region ?_
         refine zst (op_move_tmp (by rfl)) rfl (by dsimp only [zS, zN, zH, zT]) ?_
         refine zst (by first | exact op_fieldAddr_ptr Try.underlying88 rfl Sz9 (by rfl) (by rfl) | exact op_fieldAddr_elt Try.underlying88 rfl Sz9 (by rfl) (by rfl) (by rfl)) rfl (by dsimp only [zS, zN, zH, zT]) ?_
         refine zst (by first | exact op_load_elt Try.underlying9 (by rfl) (by rfl) (by rfl) | exact op_load_ptr Try.underlying9 (by rfl) (by rfl) (by repeat (first | assumption | exact push_at | exact setB_at push_at | (rw [setM_blks]) | (rw [pushM_blks]) | apply push_ne)) (by rfl)) rfl (by dsimp only [zS, zN, zH, zT]) ?_
         refine zst (op_mapUpdate (d := TF true) Try.underlying149 Try.underlying9 (by rfl) (by rfl) (Weak.refl _) (Ext.at0 (by repeat (first | assumption | apply Ext.push | (refine Ext.setB ?_ (by have := nb_le hx; (try simp only [setB_nb, push_nb]); omega))))) (fun j n q => (hni.of rfl) j _ n q)) rfl (by dsimp only [zS, zN, zH, zT]) ?_
         refine al_end rfl ?_
         refine inBlock_normal (then_normal ?_)
         refine aw_region ?_
         refine zst (by first | exact op_add (by rfl) (by rfl) (wrap_i64 ⟨by omega, by omega⟩) | exact op_add (by rfl) (by rfl) (by rfl)) rfl (by dsimp only [zS, zN, zH, zT]) ?_
         refine zst (op_move_tmp (by rfl)) rfl (by dsimp only [zS, zN, zH, zT]) ?_
         refine al_end rfl ?_
         apply again_to (xs.length - (k + 1)) [false, true, false, true, false, false, false, false, false, false, false, false, false, false, false, false, false, false, false, false, false, false, false, true, true, true, false, false, false, false, false, false, false, false, false, false, false, false, false, false, false, false, false, false, false, false, false, false, false, false, false, false, false, false]
         · (try dsimp only [maskT]); try exact rfl
         · rfl
         · omega
         exact ⟨k + 1, rfl, by omega, rfl, right_step hall hra, by rw [take_snoc hx1, List.map_append]; exact hgl, by rw [take_snoc hx1, List.map_append]; show Ext (Hs.addM [.map (bE (((xs.take k).map (·.name)) ++ [x.name]))]) _; rw [← putE_bE qs]; exact Ext.set0 (by repeat (first | assumption | apply Ext.push | (refine Ext.setB ?_ (by have := nb_le hx; (try simp only [setB_nb, push_nb]); omega)))) _, NoIt.setM (hni.of rfl) _ _⟩
    ·
     (try simp only [y1, y2, y3, y4, y5, y6, y7, y8, y9, y0, List.length_map] at hc6)
     (try simp only [List.length_map] at hc6)
     have hke : k = xs.length := by omega
     subst hke
     have hrc := rightC_all hnB h8 hall
     rw [List.drop_length, goodL] at hgl
     refine aw_exit ?_
     refine then_exit (again_exit (inBlock_here (then_normal ?_)))
     refine aw_seq ?_
     refine aw_region ?_
     refine zst (op_assign_const (by rfl)) rfl (by dsimp only [zS, zN, zH, zT]) ?_
     refine al_end rfl ?_
     refine then_normal ?_
     refine aw_ret ?_
     refine retPost1 rfl rfl ?_
     exact ⟨[.map (bE ((xs.take xs.length).map (·.name)))], .d _, (by repeat (first | assumption | apply Ext.push | (refine Ext.setB ?_ (by have := nb_le hx; (try simp only [setB_nb, push_nb]); omega)))), by rw [hrc]; rfl, by rw [rms_yes hnB h8, ← hgl]⟩
set_option maxRecDepth 100000 in
theorem same_ok (Hs : HS) (name : List UInt8) (xs : List Ix) (m : List UInt8) (ys : List Ix) (hl : xs.length ≤ 1000000) : ACalls Try.prog 31 [.d (.agg [S name, .lst 3 (xs.map ixD)]), .d (.agg [S m, .lst 3 (ys.map ixD)])] Hs (Ret (.d (TF (sameC name xs m ys))) Hs) := by
 refine acalls_of_aw Try.func31 rfl ?_
 refine aw_start (T' := [.d (.agg [S name, .lst 3 (xs.map ixD)]), .d (.agg [S m, .lst 3 (ys.map ixD)]), .un, .un, .un, .un, .un, .un, .un, .un, .un, .un, .un, .un, .un, .un, .un, .un, .un, .un, .un, .un, .un, .un, .un, .un, .un, .un, .un, .un, .un, .un, .un, .un, .un, .un, .un, .un]) rfl ?_
 refine aw_seq ?_
 refine aw_region ?_
 refine zst (op_box_elt (cs := [S name, .lst 3 (xs.map ixD)]) (by rfl) (by rfl)) rfl (by dsimp only [zS, zN, zH, zT]) ?_
 refine zst (op_box_elt (cs := [S m, .lst 3 (ys.map ixD)]) (by rfl) (by rfl)) rfl (by dsimp only [zS, zN, zH, zT]) ?_
 refine zst (op_assign_const (by rfl)) rfl (by dsimp only [zS, zN, zH, zT]) ?_
 refine al_end rfl ?_
 refine then_normal ?_
 refine aw_seq ?_
 refine aw_seq ?_
 refine aw_region ?_
 refine zst (by first | exact op_fieldAddr_ptr Try.underlying77 rfl Sz9 (by rfl) (by rfl) | exact op_fieldAddr_elt Try.underlying77 rfl Sz9 (by rfl) (by rfl) (by rfl)) rfl (by dsimp only [zS, zN, zH, zT]) ?_
 refine zst (by first | exact op_load_elt Try.underlying9 (by rfl) (by rfl) (by rfl) | exact op_load_ptr Try.underlying9 (by rfl) (by rfl) (by rfl) (by rfl)) rfl (by dsimp only [zS, zN, zH, zT]) ?_
 refine zst (by first | exact op_fieldAddr_ptr Try.underlying77 rfl Sz9 (by rfl) (by rfl) | exact op_fieldAddr_elt Try.underlying77 rfl Sz9 (by rfl) (by rfl) (by rfl)) rfl (by dsimp only [zS, zN, zH, zT]) ?_
 refine zst (by first | exact op_load_elt Try.underlying9 (by rfl) (by rfl) (by rfl) | exact op_load_ptr Try.underlying9 (by rfl) (by rfl) (by rfl) (by rfl)) rfl (by dsimp only [zS, zN, zH, zT]) ?_
 refine zst (op_neS (by rfl) (by rfl)) rfl (by dsimp only [zS, zN, zH, zT]) ?_
 refine zst (op_move_tmp (by rfl)) rfl (by dsimp only [zS, zN, zH, zT]) ?_
 refine al_split 11 rfl (fun hg1 => ?_) (fun hg1 => ?_)
 ·
  (try simp only [y1, y2, y3, y4, y5, y6, y7, y8, y9, y0, List.length_map] at hg1)
  have hn : ¬ name = m := by simpa using hg1
  apply al_normT
  · (try dsimp only [zS, zN, zH, zT]); try exact rfl
  refine zuw rfl rfl rfl rfl (by dsimp only [zS, zN, zH, zT]) ?_
  refine zuw rfl rfl rfl rfl (by dsimp only [zS, zN, zH, zT]) ?_
  refine zuw rfl rfl rfl rfl (by dsimp only [zS, zN, zH, zT]) ?_
  refine zuw rfl rfl rfl rfl (by dsimp only [zS, zN, zH, zT]) ?_
  refine zuw rfl rfl rfl rfl (by dsimp only [zS, zN, zH, zT]) ?_
  refine zuw rfl rfl rfl rfl (by dsimp only [zS, zN, zH, zT]) ?_
  refine zuw rfl rfl rfl rfl (by dsimp only [zS, zN, zH, zT]) ?_
  refine zst (op_pick_tt (by rfl) (val_const (by rfl))) rfl (by dsimp only [zS, zN, zH, zT]) ?_
  refine al_end rfl ?_
  refine then_normal ?_
  refine aw_cond rfl (fun _ => ?_) (fun h => by cases h)
  refine aw_seq ?_
  refine aw_region ?_
  refine zst (op_assign_const (by rfl)) rfl (by dsimp only [zS, zN, zH, zT]) ?_
  refine al_end rfl ?_
  refine then_normal ?_
  refine aw_ret ?_
  refine then_ret ?_
  refine retPost1 rfl rfl ?_
  exact ⟨by unfold sameC; rw [decide_eq_false (fun h => hn h.1)]; rfl, rfl⟩
 ·
  (try simp only [y1, y2, y3, y4, y5, y6, y7, y8, y9, y0, List.length_map] at hg1)
  have hn : name = m := by simpa using hg1
  apply al_normT
  · (try dsimp only [zS, zN, zH, zT]); try exact rfl
  refine zsw rfl rfl rfl (by first | exact op_fieldAddr_ptr Try.underlying77 rfl Sz75 (by rfl) (by rfl) | exact op_fieldAddr_elt Try.underlying77 rfl Sz75 (by rfl) (by rfl) (by rfl)) (by dsimp only [zS, zN, zH, zT]) ?_
  refine zsw rfl rfl rfl (by first | exact op_load_elt Try.underlying75 (by rfl) (by rfl) (by rfl) | exact op_load_ptr Try.underlying75 (by rfl) (by rfl) (by rfl) (by rfl)) (by dsimp only [zS, zN, zH, zT]) ?_
  refine zsw rfl rfl rfl (op_lenL Try.underlying75 (by first | exact LL.d _ _ | exact LL.own _ _ _ | exact LL.nil _ | assumption)) (by dsimp only [zS, zN, zH, zT]) ?_
  refine zsw rfl rfl rfl (by first | exact op_fieldAddr_ptr Try.underlying77 rfl Sz75 (by rfl) (by rfl) | exact op_fieldAddr_elt Try.underlying77 rfl Sz75 (by rfl) (by rfl) (by rfl)) (by dsimp only [zS, zN, zH, zT]) ?_
  refine zsw rfl rfl rfl (by first | exact op_load_elt Try.underlying75 (by rfl) (by rfl) (by rfl) | exact op_load_ptr Try.underlying75 (by rfl) (by rfl) (by rfl) (by rfl)) (by dsimp only [zS, zN, zH, zT]) ?_
  refine zsw rfl rfl rfl (op_lenL Try.underlying75 (by first | exact LL.d _ _ | exact LL.own _ _ _ | exact LL.nil _ | assumption)) (by dsimp only [zS, zN, zH, zT]) ?_
  refine zsw rfl rfl rfl (op_neI (by rfl) (by rfl)) (by dsimp only [zS, zN, zH, zT]) ?_
  refine zst (op_pick_ff (by rfl) (val_tmp (by rfl))) rfl (by dsimp only [zS, zN, zH, zT]) ?_
  refine al_end rfl ?_
  refine then_normal ?_
  refine aw_cond rfl (fun hc3 => ?_) (fun hc3 => ?_)
  ·
   (try simp only [y1, y2, y3, y4, y5, y6, y7, y8, y9, y0, List.length_map] at hc3)
   (try simp only [List.length_map] at hc3)
   have hll : ¬ xs.length = ys.length := by omega
   refine aw_seq ?_
   refine aw_region ?_
   refine zst (op_assign_const (by rfl)) rfl (by dsimp only [zS, zN, zH, zT]) ?_
   refine al_end rfl ?_
   refine then_normal ?_
   refine aw_ret ?_
   refine then_ret ?_
   refine retPost1 rfl rfl ?_
   exact ⟨by unfold sameC; rw [decide_eq_false (fun h => hll (by rw [h.2]))]; rfl, rfl⟩
  ·
   (try simp only [y1, y2, y3, y4, y5, y6, y7, y8, y9, y0, List.length_map] at hc3)
   (try simp only [List.length_map] at hc3)
   have hll : xs.length = ys.length := by omega
   refine aw_skip ?_
   refine then_normal ?_
   refine aw_seq ?_
   refine aw_seq ?_
   refine aw_region ?_
   refine zst (by first | exact op_fieldAddr_ptr Try.underlying77 rfl Sz75 (by rfl) (by rfl) | exact op_fieldAddr_elt Try.underlying77 rfl Sz75 (by rfl) (by rfl) (by rfl)) rfl (by dsimp only [zS, zN, zH, zT]) ?_
   refine zst (by first | exact op_load_elt Try.underlying75 (by rfl) (by rfl) (by rfl) | exact op_load_ptr Try.underlying75 (by rfl) (by rfl) (by rfl) (by rfl)) rfl (by dsimp only [zS, zN, zH, zT]) ?_
   refine zst (op_lenL Try.underlying75 (by first | exact LL.d _ _ | exact LL.own _ _ _ | exact LL.nil _ | assumption)) rfl (by dsimp only [zS, zN, zH, zT]) ?_
   refine zst (op_move_const (by rfl)) rfl (by dsimp only [zS, zN, zH, zT]) ?_
   refine al_end rfl ?_
   refine then_normal ?_
   refine aw_block ?_
   apply aw_loopF (fun n T H => ∃ (k : Nat), T = [.un, .un, .elt [S name, .lst 3 (xs.map ixD)], .elt [S m, .lst 3 (ys.map ixD)], .un, .un, .un, .un, .un, .un, .un, .un, .un, .un, .un, .un, .un, .un, .un, .un, .un, .d (.lst 3 (xs.map ixD)), .d (I (xs.map ixD).length), .d (I k), .un, .un, .un, .un, .un, .un, .un, .un, .un, .un, .un, .un, .un, .un] ∧ k ≤ xs.length ∧ n = xs.length - k ∧ xs.take k = ys.take k ∧ Hs = H) (xs.length) [false, false, true, true, false, false, false, false, false, false, false, false, false, false, false, false, false, false, false, false, false, true, true, true, false, false, false, false, false, false, false, false, false, false, false, false, false, false]
   · (try dsimp only [maskT]); try exact rfl
   · rfl
   · exact ⟨0, rfl, by omega, rfl, rfl, rfl⟩
   rintro n T H ⟨k, rfl, hk, rfl, htk, rfl⟩
   refine aw_seq ?_
   refine aw_region ?_
   refine zst (op_ltI (by rfl) (by rfl)) rfl (by dsimp only [zS, zN, zH, zT]) ?_
   refine al_end rfl ?_
   refine then_normal ?_
   refine aw_seq ?_
   refine aw_cond rfl (fun hc4 => ?_) (fun hc4 => ?_)
   ·
    (try simp only [y1, y2, y3, y4, y5, y6, y7, y8, y9, y0, List.length_map] at hc4)
    (try simp only [List.length_map] at hc4)
    have hlt : k < xs.length := by omega
    obtain ⟨x, hx1⟩ : ∃ z0, xs[k]? = some z0 := ⟨_, List.getElem?_eq_getElem hlt⟩
    obtain ⟨y, hy1⟩ : ∃ z0, ys[k]? = some z0 := ⟨_, List.getElem?_eq_getElem (by omega)⟩
    refine aw_skip ?_
    refine then_normal ?_
    refine aw_seq ?_
    refine aw_block ?_
    refine aw_seq ?_
    refine aw_region ?_
    refine zst (op_move_tmp (by rfl)) rfl (by dsimp only [zS, zN, zH, zT]) ?_
    refine zst (op_assign_tmp (by rfl)) rfl (by dsimp only [zS, zN, zH, zT]) ?_
    refine al_end rfl ?_
    refine then_normal ?_
    refine aw_seq ?_
    refine aw_draw [0, 1, 0, 0, 1, 0, 1, 0, 0, 1, 0] mixed (by kernel_rfl) ?_
    refine zd0 (fun H => (by first | exact op_fieldAddr_ptr Try.underlying77 rfl Sz75 (by rfl) (by rfl) | exact op_fieldAddr_elt Try.underlying77 rfl Sz75 (by rfl) (by rfl) (by rfl))) rfl (by dsimp only [zS, zN, zH, zT]) ?_
    refine zd1 (by first | exact op_load_elt Try.underlying75 (by rfl) (by rfl) (by rfl) | exact op_load_ptr Try.underlying75 (by rfl) (by rfl) (by rfl) (by rfl)) rfl (by dsimp only [zS, zN, zH, zT]) ?_
    refine zd0 (fun H => (op_move_tmp (by rfl))) rfl (by dsimp only [zS, zN, zH, zT]) ?_
    refine zd0 (fun H => (op_indexAddr (z := ixD x) (cs := [S x.name, S x.field, TF x.uniq]) Try.underlying75 Sz88 (LL.d _ _) (by rfl) (by omega) (by rw [List.getElem?_map, show ((k : Nat) : Int).toNat = k from rfl, hx1]; rfl) (by rfl))) rfl (by dsimp only [zS, zN, zH, zT]) ?_
    refine zd1 (op_load_elts (ds := ixC x) Try.underlying88 (by rfl) Sz88 (by rfl) (Nat.le_of_ble_eq_true rfl) (by rfl)) rfl (by dsimp only [zS, zN, zH, zT]) ?_
    refine zd0 (fun H => (by first | exact op_fieldAddr_ptr Try.underlying77 rfl Sz75 (by rfl) (by rfl) | exact op_fieldAddr_elt Try.underlying77 rfl Sz75 (by rfl) (by rfl) (by rfl))) rfl (by dsimp only [zS, zN, zH, zT]) ?_
    refine zd1 (by first | exact op_load_elt Try.underlying75 (by rfl) (by rfl) (by rfl) | exact op_load_ptr Try.underlying75 (by rfl) (by rfl) (by rfl) (by rfl)) rfl (by dsimp only [zS, zN, zH, zT]) ?_
    refine zd0 (fun H => (op_move_tmp (by rfl))) rfl (by dsimp only [zS, zN, zH, zT]) ?_
    refine zd0 (fun H => (op_indexAddr (z := ixD y) (cs := [S y.name, S y.field, TF y.uniq]) Try.underlying75 Sz88 (LL.d _ _) (by rfl) (by omega) (by rw [List.getElem?_map, show ((k : Nat) : Int).toNat = k from rfl, hy1]; rfl) (by rfl))) rfl (by dsimp only [zS, zN, zH, zT]) ?_
    refine zd1 (op_load_elts (ds := ixC y) Try.underlying88 (by rfl) Sz88 (by rfl) (Nat.le_of_ble_eq_true rfl) (by rfl)) rfl (by dsimp only [zS, zN, zH, zT]) ?_
    refine zd0 (fun H => (op_neX (by rfl) (by rfl))) rfl (by dsimp only [zS, zN, zH, zT]) ?_
    refine drun_end rfl ?_
    refine then_normal ?_
    refine aw_cond rfl (fun hc5 => ?_) (fun hc5 => ?_)
    ·
     (try simp only [y1, y2, y3, y4, y5, y6, y7, y8, y9, y0, List.length_map] at hc5)
     have hxy : ¬ x = y := by simpa using hc5
     refine aw_seq ?_
     refine aw_region ?_
     refine zst (op_assign_const (by rfl)) rfl (by dsimp only [zS, zN, zH, zT]) ?_
     refine al_end rfl ?_
     refine then_normal ?_
     refine aw_ret ?_
     refine inBlock_ret (then_ret (again_ret (inBlock_ret (then_ret ?_))))
     refine retPost1 rfl rfl ?_
     exact ⟨by unfold sameC; rw [decide_eq_false (fun h => hxy (by have h2 := h.2; subst h2; rw [hx1] at hy1; exact Option.some.inj hy1))]; rfl, rfl⟩
    ·
     (try simp only [y1, y2, y3, y4, y5, y6, y7, y8, y9, y0, List.length_map] at hc5)
     have hxy : x = y := by simpa using hc5
     refine aw_skip ?_
     refine inBlock_normal (then_normal ?_)
     refine aw_region ?_
     refine zst (by first | exact op_add (by rfl) (by rfl) (wrap_i64 ⟨by omega, by omega⟩) | exact op_add (by rfl) (by rfl) (by rfl)) rfl (by dsimp only [zS, zN, zH, zT]) ?_
     refine zst (op_move_tmp (by rfl)) rfl (by dsimp only [zS, zN, zH, zT]) ?_
     refine al_end rfl ?_
     apply again_to (xs.length - (k + 1)) [false, false, true, true, false, false, false, false, false, false, false, false, false, false, false, false, false, false, false, false, false, true, true, true, false, false, false, false, false, false, false, false, false, false, false, false, false, false]
     · (try dsimp only [maskT]); try exact rfl
     · rfl
     · omega
     exact ⟨k + 1, rfl, by omega, rfl, by rw [take_snoc hx1, take_snoc hy1, htk, hxy], rfl⟩
   ·
    (try simp only [y1, y2, y3, y4, y5, y6, y7, y8, y9, y0, List.length_map] at hc4)
    (try simp only [List.length_map] at hc4)
    have hke : k = xs.length := by omega
    subst hke
    rw [List.take_length, hll, List.take_length] at htk
    refine aw_exit ?_
    refine then_exit (again_exit (inBlock_here (then_normal ?_)))
    refine aw_seq ?_
    refine aw_region ?_
    refine zst (op_assign_const (by rfl)) rfl (by dsimp only [zS, zN, zH, zT]) ?_
    refine al_end rfl ?_
    refine then_normal ?_
    refine aw_ret ?_
    refine retPost1 rfl rfl ?_
    exact ⟨by unfold sameC; rw [decide_eq_true ⟨hn, htk⟩]; rfl, rfl⟩
end Go.Proofs.Ytjbpfnoibeogbaa
namespace Go.Proofs.Ytjbpfnoibeogbaa
open Go.AV Go.AV.Ord Go.AV.Oct Go.AV.Val Go.AV.Sch
set_option linter.unusedVariables false
set_option linter.unusedSimpArgs false
set_option maxRecDepth 100000 in
theorem cfew_ok (Hs : HS) (name : List UInt8) (xs : List Ix) (hl : xs.length ≤ 9223372036854775807) : ACalls Try.prog 27 [.d (.agg [S name, .lst 3 (xs.map ixD)])] Hs (Ret (.d (TF (fewC name xs))) Hs) := by
 refine ACalls.tidy1 ?_
 refine acalls_of_aw Try.func27 rfl ?_
 refine aw_start (T' := [.d (.agg [S name, .lst 3 (xs.map ixD)]), .un, .un, .un, .un, .un, .un, .un, .un, .un, .un, .un, .un, .un, .un, .un, .un, .un, .un, .un, .un, .un, .un, .un, .un, .un, .un, .un, .un, .un, .un, .un, .un]) rfl ?_
 refine aw_seq ?_
 refine aw_region ?_
 refine zst (op_box_elt (by rfl) (by rfl)) rfl (by dsimp only [zS, zN, zH, zT]) ?_
 refine zst (op_assign_const (by rfl)) rfl (by dsimp only [zS, zN, zH, zT]) ?_
 refine al_end rfl ?_
 refine then_normal ?_
 refine aw_seq ?_
 refine aw_seq ?_
 refine aw_region ?_
 refine zst (by first | exact op_fieldAddr_ptr Try.underlying77 rfl Sz75 (by rfl) (by rfl) | exact op_fieldAddr_elt Try.underlying77 rfl Sz75 (by rfl) (by rfl) (by rfl)) rfl (by dsimp only [zS, zN, zH, zT]) ?_
 refine zst (by first | exact op_load_elt Try.underlying75 (by rfl) (by rfl) (by rfl) | exact op_load_ptr Try.underlying75 (by rfl) (by rfl) (by exact setB_at push_at) (by rfl)) rfl (by dsimp only [zS, zN, zH, zT]) ?_
 refine zst (op_lenL Try.underlying75 (by first | exact LL.d _ _ | exact LL.own _ _ _ | exact LL.nil _ | assumption)) rfl (by dsimp only [zS, zN, zH, zT]) ?_
 refine zst (op_move_const (by rfl)) rfl (by dsimp only [zS, zN, zH, zT]) ?_
 refine al_end rfl ?_
 refine then_normal ?_
 refine aw_block ?_
 apply aw_loopF (fun n T H => ∃ (k : Nat), T = [.un, .elt [S name, .lst 3 (xs.map ixD)], .un, .un, .un, .un, .d (.lst 3 (xs.map ixD)), .d (I (xs.map ixD).length), .d (I k), .un, .un, .un, .un, .un, .un, .un, .un, .un, .un, .un, .un, .un, .un, .un, .un, .un, .un, .un, .un, .un, .un, .un, .un] ∧ k ≤ xs.length ∧ n = xs.length - k ∧ (xs.take k).all fewIx = true ∧ Ext Hs H) (xs.length) [false, true, false, false, false, false, true, true, true, false, false, false, false, false, false, false, false, false, false, false, false, false, false, false, false, false, false, false, false, false, false, false, false]
 · (try dsimp only [maskT]); try exact rfl
 · rfl
 · exact ⟨0, rfl, by omega, rfl, rfl, Ext.refl Hs⟩
 rintro n T H ⟨k, rfl, hk, rfl, hall, hx⟩
 refine aw_seq ?_
 refine aw_region ?_
 refine zst (op_ltI (by rfl) (by rfl)) rfl (by dsimp only [zS, zN, zH, zT]) ?_
 refine al_end rfl ?_
 refine then_normal ?_
 refine aw_seq ?_
 refine aw_cond rfl (fun hc1 => ?_) (fun hc1 => ?_)
 ·
  (try simp only [y1, y2, y3, y4, y5, y6, y7, y8, y9, y0, List.length_map] at hc1)
  (try simp only [List.length_map] at hc1)
  have hlt : k < xs.length := by omega
  obtain ⟨y, hy⟩ : ∃ y, xs[k]? = some y := ⟨_, List.getElem?_eq_getElem hlt⟩
  refine aw_skip ?_
  refine then_normal ?_
  refine aw_seq ?_
  refine aw_block ?_
  refine aw_seq ?_
  refine aw_region ?_
  refine zst (op_indexAddr Try.underlying75 Sz88 (LL.d _ _) (by rfl) (by omega) (show (xs.map ixD)[((k : Nat) : Int).toNat]? = some (ixD y) by rw [List.getElem?_map, show ((k : Nat) : Int).toNat = k from rfl, hy]; rfl) (by rfl)) rfl (by dsimp only [zS, zN, zH, zT]) ?_
  refine zst (op_load_elts (ds := ixC y) Try.underlying88 (by rfl) Sz88 (by rfl) (Nat.le_of_ble_eq_true rfl) (by rfl)) rfl (by dsimp only [zS, zN, zH, zT]) ?_
  refine zst (op_alloc (Zr88) (by rfl)) rfl (by dsimp only [zS, zN, zH, zT]) ?_
  refine zst (op_storeB (vs := [.d (S y.name), .d (S y.field), .d (TF y.uniq)]) (b' := ⟨88, [.d (S y.name), .d (S y.field), .d (TF y.uniq)], false⟩) (H' := _) Sz88 (by rfl) push_at (by intro h; cases h) (by rfl) (by rfl) (Nat.le_of_ble_eq_true rfl) (by simp [AV.one, DV.one, TF, S, I, BY]) (by rfl) (by rfl) rfl) rfl (by dsimp only [zS, zN, zH, zT]) ?_
  refine al_end rfl ?_
  refine then_normal ?_
  refine aw_seq ?_
  refine aw_region ?_
  refine zst (by first | exact op_fieldAddr_ptr Try.underlying88 rfl Sz9 (by rfl) (by rfl) | exact op_fieldAddr_elt Try.underlying88 rfl Sz9 (by rfl) (by rfl) (by rfl)) rfl (by dsimp only [zS, zN, zH, zT]) ?_
  refine zst (by first | exact op_load_elt Try.underlying9 (by rfl) (by rfl) (by rfl) | exact op_load_ptr Try.underlying9 (by rfl) (by rfl) (by exact setB_at push_at) (by rfl)) rfl (by dsimp only [zS, zN, zH, zT]) ?_
  refine zst (op_lenS Try.underlying9 (by rfl)) rfl (by dsimp only [zS, zN, zH, zT]) ?_
  refine zst (op_gtI (by rfl) (by rfl)) rfl (by dsimp only [zS, zN, zH, zT]) ?_
  refine zst (op_move_tmp (by rfl)) rfl (by dsimp only [zS, zN, zH, zT]) ?_
  refine al_split 16 rfl (fun hg2 => ?_) (fun hg2 => ?_)
  ·
   (try simp only [y1, y2, y3, y4, y5, y6, y7, y8, y9, y0, List.length_map] at hg2)
   have h60 : ¬ y.name.length ≤ 60 := by have h : 60 < (y.name.length : Int) := hg2; omega
   apply al_normT
   · (try dsimp only [zS, zN, zH, zT]); try exact rfl
   refine zuw rfl rfl rfl rfl (by dsimp only [zS, zN, zH, zT]) ?_
   refine zuw rfl rfl rfl rfl (by dsimp only [zS, zN, zH, zT]) ?_
   refine zuw rfl rfl rfl rfl (by dsimp only [zS, zN, zH, zT]) ?_
   refine zuw rfl rfl rfl rfl (by dsimp only [zS, zN, zH, zT]) ?_
   refine zst (op_pick_tt (by rfl) (val_const (by rfl))) rfl (by dsimp only [zS, zN, zH, zT]) ?_
   refine al_end rfl ?_
   refine then_normal ?_
   refine aw_cond rfl (fun _ => ?_) (fun h => by cases h)
   refine aw_seq ?_
   refine aw_region ?_
   refine zst (op_assign_const (by rfl)) rfl (by dsimp only [zS, zN, zH, zT]) ?_
   refine al_end rfl ?_
   refine then_normal ?_
   refine aw_ret ?_
   refine inBlock_ret (then_ret (again_ret (inBlock_ret (then_ret ?_))))
   refine retPost1 rfl rfl ?_
   exact ⟨by rw [fewC_bad hy (by simp [fewIx, h60])]; rfl, (hx.push _ _).setB (nb_le hx)⟩
  ·
   (try simp only [y1, y2, y3, y4, y5, y6, y7, y8, y9, y0, List.length_map] at hg2)
   have h60 : y.name.length ≤ 60 := by have h : ¬ 60 < (y.name.length : Int) := hg2; omega
   apply al_normT
   · (try dsimp only [zS, zN, zH, zT]); try exact rfl
   refine zsw rfl rfl rfl (by first | exact op_fieldAddr_ptr Try.underlying88 rfl Sz9 (by rfl) (by rfl) | exact op_fieldAddr_elt Try.underlying88 rfl Sz9 (by rfl) (by rfl) (by rfl)) (by dsimp only [zS, zN, zH, zT]) ?_
   refine zsw rfl rfl rfl (by first | exact op_load_elt Try.underlying9 (by rfl) (by rfl) (by rfl) | exact op_load_ptr Try.underlying9 (by rfl) (by rfl) (by exact setB_at push_at) (by rfl)) (by dsimp only [zS, zN, zH, zT]) ?_
   refine zsw rfl rfl rfl (op_lenS Try.underlying9 (by rfl)) (by dsimp only [zS, zN, zH, zT]) ?_
   refine zsw rfl rfl rfl (op_gtI (by rfl) (by rfl)) (by dsimp only [zS, zN, zH, zT]) ?_
   refine zst (op_pick_ff (by rfl) (val_tmp (by rfl))) rfl (by dsimp only [zS, zN, zH, zT]) ?_
   refine al_end rfl ?_
   refine then_normal ?_
   refine aw_cond rfl (fun hc4 => ?_) (fun hc4 => ?_)
   ·
    (try simp only [y1, y2, y3, y4, y5, y6, y7, y8, y9, y0, List.length_map] at hc4)
    have hf60 : ¬ y.field.length ≤ 60 := by have h : 60 < (y.field.length : Int) := hc4; omega
    refine aw_seq ?_
    refine aw_region ?_
    refine zst (op_assign_const (by rfl)) rfl (by dsimp only [zS, zN, zH, zT]) ?_
    refine al_end rfl ?_
    refine then_normal ?_
    refine aw_ret ?_
    refine inBlock_ret (then_ret (again_ret (inBlock_ret (then_ret ?_))))
    refine retPost1 rfl rfl ?_
    exact ⟨by rw [fewC_bad hy (by simp [fewIx, hf60])]; rfl, (hx.push _ _).setB (nb_le hx)⟩
   ·
    (try simp only [y1, y2, y3, y4, y5, y6, y7, y8, y9, y0, List.length_map] at hc4)
    have hf60 : y.field.length ≤ 60 := by have h : ¬ 60 < (y.field.length : Int) := hc4; omega
    refine aw_skip ?_
    refine inBlock_normal (then_normal ?_)
    refine aw_region ?_
    refine zst (by first | exact op_add (by rfl) (by rfl) (wrap_i64 ⟨by omega, by omega⟩) | exact op_add (by rfl) (by rfl) (by rfl)) rfl (by dsimp only [zS, zN, zH, zT]) ?_
    refine zst (op_move_tmp (by rfl)) rfl (by dsimp only [zS, zN, zH, zT]) ?_
    refine al_end rfl ?_
    apply again_to (xs.length - (k + 1)) [false, true, false, false, false, false, true, true, true, false, false, false, false, false, false, false, false, false, false, false, false, false, false, false, false, false, false, false, false, false, false, false, false]
    · (try dsimp only [maskT]); try exact rfl
    · rfl
    · omega
    exact ⟨k + 1, rfl, by omega, rfl, fewC_step hy hall h60 hf60, (hx.push _ _).setB (nb_le hx)⟩
 ·
  (try simp only [y1, y2, y3, y4, y5, y6, y7, y8, y9, y0, List.length_map] at hc1)
  (try simp only [List.length_map] at hc1)
  have hke : k = xs.length := by omega
  subst hke
  rw [List.take_length] at hall
  refine aw_exit ?_
  refine then_exit (again_exit (inBlock_here (then_normal ?_)))
  refine aw_seq ?_
  refine aw_region ?_
  refine zst (by first | exact op_fieldAddr_ptr Try.underlying77 rfl Sz75 (by rfl) (by rfl) | exact op_fieldAddr_elt Try.underlying77 rfl Sz75 (by rfl) (by rfl) (by rfl)) rfl (by dsimp only [zS, zN, zH, zT]) ?_
  refine zst (by first | exact op_load_elt Try.underlying75 (by rfl) (by rfl) (by rfl) | exact op_load_ptr Try.underlying75 (by rfl) (by rfl) (by exact setB_at push_at) (by rfl)) rfl (by dsimp only [zS, zN, zH, zT]) ?_
  refine zst (op_lenL Try.underlying75 (by first | exact LL.d _ _ | exact LL.own _ _ _ | exact LL.nil _ | assumption)) rfl (by dsimp only [zS, zN, zH, zT]) ?_
  refine zst (op_leI (by rfl) (by rfl)) rfl (by dsimp only [zS, zN, zH, zT]) ?_
  refine zst (op_move_tmp (by rfl)) rfl (by dsimp only [zS, zN, zH, zT]) ?_
  refine al_split 27 rfl (fun hg5 => ?_) (fun hg5 => ?_)
  ·
   (try simp only [y1, y2, y3, y4, y5, y6, y7, y8, y9, y0, List.length_map] at hg5)
   have h12 : xs.length ≤ 12 := by have h : (xs.length : Int) ≤ 12 := hg5; omega
   apply al_normT
   · (try dsimp only [zS, zN, zH, zT]); try exact rfl
   refine zsw rfl rfl rfl (by first | exact op_fieldAddr_ptr Try.underlying77 rfl Sz9 (by rfl) (by rfl) | exact op_fieldAddr_elt Try.underlying77 rfl Sz9 (by rfl) (by rfl) (by rfl)) (by dsimp only [zS, zN, zH, zT]) ?_
   refine zsw rfl rfl rfl (by first | exact op_load_elt Try.underlying9 (by rfl) (by rfl) (by rfl) | exact op_load_ptr Try.underlying9 (by rfl) (by rfl) (by exact setB_at push_at) (by rfl)) (by dsimp only [zS, zN, zH, zT]) ?_
   refine zsw rfl rfl rfl (op_lenS Try.underlying9 (by rfl)) (by dsimp only [zS, zN, zH, zT]) ?_
   refine zsw rfl rfl rfl (op_leI (by rfl) (by rfl)) (by dsimp only [zS, zN, zH, zT]) ?_
   refine zst (op_pick_tt (by rfl) (val_tmp (by rfl))) rfl (by dsimp only [zS, zN, zH, zT]) ?_
   refine zst (op_assign_tmp (by rfl)) rfl (by dsimp only [zS, zN, zH, zT]) ?_
   refine al_end rfl ?_
   refine then_normal ?_
   refine aw_ret ?_
   refine retPost1 rfl rfl ?_
   exact ⟨by simp only [fewC, hall, h12, TF, decide_true, Bool.true_and]; congr 3; exact decide_eq_decide.2 (by omega), hx⟩
  ·
   (try simp only [y1, y2, y3, y4, y5, y6, y7, y8, y9, y0, List.length_map] at hg5)
   have h12 : ¬ xs.length ≤ 12 := by have h : ¬ (xs.length : Int) ≤ 12 := hg5; omega
   apply al_normT
   · (try dsimp only [zS, zN, zH, zT]); try exact rfl
   refine zuw rfl rfl rfl rfl (by dsimp only [zS, zN, zH, zT]) ?_
   refine zuw rfl rfl rfl rfl (by dsimp only [zS, zN, zH, zT]) ?_
   refine zuw rfl rfl rfl rfl (by dsimp only [zS, zN, zH, zT]) ?_
   refine zuw rfl rfl rfl rfl (by dsimp only [zS, zN, zH, zT]) ?_
   refine zst (op_pick_ff (by rfl) (val_const (by rfl))) rfl (by dsimp only [zS, zN, zH, zT]) ?_
   refine zst (op_assign_tmp (by rfl)) rfl (by dsimp only [zS, zN, zH, zT]) ?_
   refine al_end rfl ?_
   refine then_normal ?_
   refine aw_ret ?_
   refine retPost1 rfl rfl ?_
   exact ⟨by simp [fewC, h12, TF], hx⟩
end Go.Proofs.Ytjbpfnoibeogbaa
namespace Go.AV.Sch
open Go.AV.Ord Go.AV.Oct Go.AV.Sb
section
variable {H : Type} {enc : TypeId × Value → H} {P : Program} {W : World} {sp : Nat → Bool} {held : Bool} {tC tX tS tB tL tLC : TypeId}
theorem reads_coll (T : CTypes P tC tX tS tB tL) {fuel : Nat} {cs : List Value} {d : DataW H} {p : List MemPlace} (h : DataW.trod enc P W 0 sp held fuel tC cs = some (d, p)) (hl : cs.length = 2) :
    ∃ y, Go.AV.Reads W (fun y => ∃ c : Cl, c.2.length ≤ 9223372036854775807 ∧ y = cDV c) 2 cs y := by
  obtain ⟨fs, hu, ⟨f0, g0, e0, o0⟩, ⟨f1, g1, e1, o1⟩, hsz⟩ := T.c
  obtain ⟨xs, n, hn, _, _, hxl, hx⟩ := DataW.trod_struct hu h
  subst hn
  obtain ⟨c0, c1, rfl⟩ : ∃ c0 c1, cs = [c0, c1] := by
    match cs, hl with
    | [c0, c1], _ => exact ⟨_, _, rfl⟩
  have get : ∀ i, i < 2 → ∃ x, xs[i]? = some x := fun i hi => ⟨_, List.getElem?_eq_getElem (by omega)⟩
  have q0 := hx 0 f0 g0
  have q1 := hx 1 f1 g1
  rw [e0, o0, T.cS] at q0
  rw [e1, o1, T.cL] at q1
  obtain ⟨⟨_, _⟩, x0⟩ := get 0 (by decide)
  obtain ⟨⟨_, _⟩, x1⟩ := get 1 (by decide)
  rw [x0] at q0; rw [x1] at q1
  replace q0 : DataW.trod enc P W 0 sp held n tS [c0] = _ := q0
  replace q1 : DataW.trod enc P W 0 sp held n tL [c1] = _ := q1
  obtain ⟨y0, r0⟩ := reads_str T.s q0
  obtain ⟨a, rfl⟩ := r0.good
  obtain ⟨ys, r1, l1⟩ := Val.list_cell (by decide) (fun y => ∃ x : Ix, y = ixD x) T.l T.cX q1 fun m hm cs d p h hl => reads_ix T h hl
  have hcap : ys.length ≤ 9223372036854775807 := by
    rcases DataW.trod_slice T.l q1 with ⟨h1, _⟩ | ⟨ad, len, cap, _, _, m, h0, h1, _, _, h2, h3, _⟩
    · cases h1
      rw [lst_len r1]; decide
    · cases h1
      rw [lst_len r1]
      have : (maxLen : Nat) = 9223372036854775807 := by decide
      omega
  obtain ⟨l, _, rfl⟩ := Val.all_map' (p := fun _ : Ix => True) (f := ixD) (ys := ys) fun y hy => (l1 y hy).imp fun x e => ⟨trivial, e⟩
  have p0 := Val.one_cell r0 rfl
  refine ⟨cDV (a, l), rfl, rfl, fun z hz => cDV_one _ z hz, ⟨(a, l), by simpa using hcap, rfl⟩, fun i hi hi' => ?_⟩
  match i, hi with
  | 0, _ => exact p0
  | 1, _ => exact r1
theorem arg_colls (T : CTypes P tC tX tS tB tL) (hLC : P.underlying tLC = some (.slice tC)) {r : Reach} {b0 : Nat} {v : Value} {d : DataW H} {ps : List MemPlace} (hval : Value.okWide P W r b0 tLC v) (hd : DataW.Trod enc P W 0 sp held tLC v d ps) :
    ∃ l : List Cl, (∀ c ∈ l, c.2.length ≤ 9223372036854775807) ∧ Rep (ctx0 W) v (.d (.lst 2 (l.map cDV))) := by
  obtain ⟨ys, h1, h2⟩ := arg_list (by decide) (fun y => ∃ c : Cl, c.2.length ≤ 9223372036854775807 ∧ y = cDV c) hLC T.cC hval hd fun fuel cs d p h hl => reads_coll T h hl
  obtain ⟨l, h3, rfl⟩ := Val.all_map' h1
  exact ⟨l, h3, h2⟩
end
end Go.AV.Sch
