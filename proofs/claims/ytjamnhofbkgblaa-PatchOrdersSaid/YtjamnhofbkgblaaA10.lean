/-
  The AV logic, part 10: from a row's data to abstract values, and back.
-/
import Derived.Test.YtjamnhofbkgblaaA9
import Derived.ProofKit
import Derived.ChangeOld
namespace Go.AV
open Go.RowKit

def ctx0 (w : World) : Ctx := { mem := fun g o => w.cell? ⟨g, o, none⟩, blk := [], tok := [] }
def H0 : HS := { blks := [], toks := [] }
theorem inv0 (w : World) : Inv w.heap.size w (ctx0 w) H0 w :=
  ⟨Nat.le_refl _, Below.refl _ _, fun _ _ _ h => h, rfl, fun i g b h => by simp [ctx0] at h, fun i j g h => by simp [ctx0] at h, rfl, fun i e h => by simp [ctx0] at h, fun i j e e' h => by simp [ctx0] at h⟩
theorem law_calls {P : Program} {f : FuncId} {args : Array Value} {avs : List AV} {W : World} (hs : args.size = avs.length) (hr : ∀ i (hi : i < avs.length), Rep (ctx0 W) (args.getD i undef) avs[i])
    (h : ACalls P f avs H0 fun av _ => av = .d (TF true)) : Calls P f args W fun e w' => e = .returned (.bool true) ∧ Below W.heap.size W w' := by
  refine (h W.heap.size W (ctx0 W) W args (inv0 W) hs hr).mono ?_
  rintro e w' ⟨v, av, H', c', rfl, _, h2, h3, rfl⟩
  exact ⟨by rw [h2.v_eq], h3.below⟩

section
variable {H : Type} {enc : TypeId × Value → H} {P : Program} {W : World} {sp : Nat → Bool} {held : Bool}
theorem mapM_opt {α β : Type} {f : α → Option β} : ∀ {l : List α} {r : List β}, l.mapM f = some r → r.length = l.length ∧ ∀ i (hi : i < l.length) (hi' : i < r.length), f l[i] = some r[i]
  | [], r, h => by
    simp at h
    subst h
    exact ⟨rfl, fun i hi => by simp at hi⟩
  | x :: l, r, h => by
    rw [List.mapM_cons] at h
    cases hx : f x with
    | none => rw [hx] at h; cases h
    | some y =>
      cases hl : l.mapM f with
      | none => rw [hx, hl] at h; cases h
      | some ys =>
        rw [hx, hl] at h
        have e : r = y :: ys := by simpa using h.symm
        subst e
        obtain ⟨h1, h2⟩ := mapM_opt hl
        refine ⟨by simp [h1], fun i hi hi' => ?_⟩
        cases i with
        | zero => simpa using hx
        | succ i => simpa using h2 i (by simpa using hi) (by simpa using hi')
theorem cells_opt {a : Addr} {n : Nat} {cs : List Value} (h : W.cells? 0 a n = some cs) : cs.length = n ∧ ∀ i (_ : i < n) (hi' : i < cs.length), W.cell? (a.add i) = some cs[i] := by
  unfold World.cells? at h
  rw [if_pos (Nat.zero_le _)] at h
  obtain ⟨h1, h2⟩ := mapM_opt h
  simp at h1
  refine ⟨h1, fun i hi hi' => ?_⟩
  have := h2 i (by simpa using hi) hi'
  simpa using this
/-- One value's cells, read as a datum y of the kind Good. -/
structure Reads (W : World) (Good : DV → Prop) (sz : Nat) (cs : List Value) (y : DV) : Prop where
  len : cs.length = sz
  ylen : y.cells.length = sz
  one : ∀ z ∈ y.cells, z.one = true
  good : Good y
  at_ : ∀ i (hi : i < cs.length) (hi' : i < y.cells.length), RepD (ctx0 W).mem cs[i] y.cells[i]
theorem choose_list {α : Type} {n : Nat} {p : Nat → α → Prop} (h : ∀ i, i < n → ∃ y, p i y) : ∃ ys : List α, ys.length = n ∧ ∀ i (hi : i < ys.length), p i ys[i] := by
  induction n with
  | zero => exact ⟨[], rfl, fun i hi => by simp at hi⟩
  | succ n ih =>
    obtain ⟨ys, h1, h2⟩ := ih fun i hi => h i (by omega)
    obtain ⟨y, hy⟩ := h n (by omega)
    refine ⟨ys ++ [y], by simp [h1], fun i hi => ?_⟩
    by_cases hlt : i < ys.length
    · rw [List.getElem_append_left hlt]; exact h2 i hlt
    · have : i = n := by simp at hi; omega
      subst this
      rw [List.getElem_append_right (by omega)]
      simpa [h1] using hy
theorem addr_spot (a : Addr) {v : Value} (h : W.cell? a = some v) : a = ⟨a.block, a.off, none⟩ := by
  unfold World.cell? at h
  split at h
  · split at h
    · cases h
    · rename_i hs
      cases a with
      | mk b o s => cases s with
        | none => rfl
        | some _ => simp at hs
  · cases h
theorem add_add (a : Addr) (m n : Nat) : ((a.add m).add n) = if m + n = 0 then a else ⟨a.block, a.off + (m + n), none⟩ := by
  unfold Addr.add
  by_cases h1 : m = 0 <;> by_cases h2 : n = 0 <;> simp [h1, h2, Nat.add_assoc]
/-- A list that came in. -/
theorem rep_slice {fuel : Nat} {t e : TypeId} {sz : Nat} (hsz0 : 0 < sz) (Good : DV → Prop) (ht : P.underlying t = some (.slice e)) (hsz : P.cellsOf e = sz)
    (hel : ∀ cs d p, DataW.trod enc P W 0 sp held fuel e cs = some (d, p) → cs.length = sz → ∃ y, Reads W Good sz cs y) {a : Option Addr} {n cap : Nat} {d : DataW H} {p : List MemPlace} (h : DataW.trod enc P W 0 sp held (fuel + 1) t [.slice a n cap] = some (d, p)) :
    ∃ ys, RepD (ctx0 W).mem (.slice a n cap) (.lst sz ys) ∧ (∀ y ∈ ys, Good y) := by
  simp only [DataW.trod, ht] at h
  cases a with
  | none =>
    cases n with
    | zero => exact ⟨[], .lstE _ _ _, by simp⟩
    | succ n => simp at h
  | some ad =>
    simp only [] at h
    split at h
    · rename_i hc
      obtain ⟨es, he, _⟩ := Option.bind_eq_some_iff.1 h
      obtain ⟨h1, h2⟩ := mapM_opt he
      simp at h1
      rw [hsz] at h2
      by_cases hn0 : n = 0
      · subst hn0
        exact ⟨[], .lstE _ _ _, by simp⟩
      have hall : ∀ i, i < n → ∃ (cs : List Value) (y : DV), W.cells? 0 (ad.add (i * sz)) sz = some cs ∧ Reads W Good sz cs y := by
        intro i hi
        have h3 := h2 i (by simpa using hi) (by omega)
        simp only [List.getElem_range] at h3
        obtain ⟨cs, h4, h5⟩ := Option.bind_eq_some_iff.1 h3
        have hl := (cells_opt h4).1
        obtain ⟨y, hy⟩ := hel cs _ _ h5 hl
        exact ⟨cs, y, h4, hy⟩
      obtain ⟨ys, hy1, hy2⟩ := choose_list (p := fun i y => ∃ cs, W.cells? 0 (ad.add (i * sz)) sz = some cs ∧ Reads W Good sz cs y) (n := n) (fun i hi => by
        obtain ⟨cs, y, h⟩ := hall i hi
        exact ⟨y, cs, h⟩)
      have hysz : ∀ y ∈ ys, y.cells.length = sz := by
        intro y hy
        obtain ⟨i, hi, rfl⟩ := List.getElem_of_mem hy
        obtain ⟨cs, _, h4⟩ := hy2 i hi
        exact h4.ylen
      have hfl := flat_length hysz
      have had : ad = ⟨ad.block, ad.off, none⟩ := by
        obtain ⟨cs, h3, h4⟩ := hy2 0 (by omega)
        obtain ⟨h5, h6⟩ := cells_opt h3
        have h7 := h6 0 hsz0 (by omega)
        rw [add_add, if_pos (by simp)] at h7
        exact addr_spot ad h7
      have hcell : ∀ i (hi : i < ys.length) k (hk : k < sz), ∃ u, W.cell? ⟨ad.block, ad.off + (i * sz + k), none⟩ = some u ∧ ∃ z, (ys[i]).cells[k]? = some z ∧ RepD (ctx0 W).mem u z := by
        intro i hi k hk
        obtain ⟨cs, h3, h4⟩ := hy2 i hi
        obtain ⟨h5, h6⟩ := cells_opt h3
        have h7 := h6 k hk (by omega)
        rw [had, addr_add, addr_add, Nat.add_assoc] at h7
        exact ⟨_, h7, _, List.getElem?_eq_getElem (by rw [h4.ylen]; exact hk), h4.at_ k (by omega) (by rw [h4.ylen]; exact hk)⟩
      have split : ∀ i, i < (flat ys).length → ∃ u, W.cell? ⟨ad.block, ad.off + i, none⟩ = some u ∧ ∃ z, (flat ys)[i]? = some z ∧ RepD (ctx0 W).mem u z := by
        intro i hi
        rw [hfl] at hi
        have e1 : i = (i / sz) * sz + i % sz := by rw [Nat.mul_comm]; exact (Nat.div_add_mod i sz).symm
        have e2 : i % sz < sz := Nat.mod_lt _ hsz0
        have e3 : i / sz < ys.length := by rw [Nat.div_lt_iff_lt_mul hsz0]; exact hi
        obtain ⟨u, h3, z, h4, h5⟩ := hcell (i / sz) e3 (i % sz) e2
        refine ⟨u, by rw [e1]; exact h3, z, ?_, h5⟩
        have h6 := flat_get hysz (i / sz) e3 (i % sz) e2
        rw [← e1] at h6
        rw [h6, h4]
      refine ⟨ys, ?_, fun y hy => ?_⟩
      · rw [had]
        refine .lst ad.block ad.off n cap sz ys (fun i => (W.cell? ⟨ad.block, ad.off + i, none⟩).getD undef) hy1 hc.2.1 hysz (fun z hz => ?_) (fun i hi => ?_) (fun i hi => ?_)
        · obtain ⟨y, hy, hz'⟩ := List.mem_flatMap.1 hz
          obtain ⟨i, hi, rfl⟩ := List.getElem_of_mem hy
          obtain ⟨cs, _, h4⟩ := hy2 i hi
          exact h4.one z hz'
        · obtain ⟨u, h3, _⟩ := split i hi
          show W.cell? _ = _
          rw [h3]; rfl
        · obtain ⟨u, h3, z, h4, h5⟩ := split i hi
          have : (flat ys)[i] = z := by rw [List.getElem?_eq_getElem hi] at h4; exact Option.some.inj h4
          rw [this, h3]
          exact h5
      · obtain ⟨i, hi, rfl⟩ := List.getElem_of_mem hy
        obtain ⟨cs, _, h4⟩ := hy2 i hi
        exact h4.good
    · cases h

/-- A text among other values. -/
theorem reads_str {fuel : Nat} {t : TypeId} (ht : P.underlying t = some .string) {cs : List Value} {d : DataW H} {p : List MemPlace} (h : DataW.trod enc P W 0 sp held fuel t cs = some (d, p)) : ∃ y, Reads W (fun y => ∃ l : List UInt8, y = S l) 1 cs y := by
  cases fuel with
  | zero => cases h
  | succ fuel =>
    simp only [DataW.trod, ht] at h
    split at h <;> first | (rename_i e; cases e; done) | skip
    all_goals first | (cases h; done) | skip
    rename_i s e1
    refine ⟨S s.data.toList, rfl, rfl, by simp [S, DV.cells, DV.one], ⟨_, rfl⟩, fun i hi hi' => ?_⟩
    have : i = 0 := by simp at hi; omega
    subst this
    have e2 : (⟨s.data.toList.toArray⟩ : ByteArray) = s := by cases s; simp
    have e3 : (DV.cells (S s.data.toList))[0] = .v (.string s) := by simp [S, DV.cells, e2]
    simp only [List.getElem_cons_zero]
    rw [e3]
    exact .v _ rfl
theorem reads_int {fuel : Nat} {t : TypeId} {k : IntKind} (ht : P.underlying t = some (.int k)) {cs : List Value} {d : DataW H} {p : List MemPlace} (h : DataW.trod enc P W 0 sp held fuel t cs = some (d, p)) : ∃ y, Reads W (fun y => ∃ n : Int, y = .v (.int k n) ∧ (Lit.int k n).wf = true) 1 cs y := by
  cases fuel with
  | zero => cases h
  | succ fuel =>
    simp only [DataW.trod, ht] at h
    split at h <;> first | (rename_i e; cases e; done) | skip
    all_goals first | (cases h; done) | skip
    rename_i k1 k' n e1
    cases e1
    split at h
    · rename_i hc
      obtain ⟨rfl, hw⟩ := hc
      refine ⟨.v (.int k' n), rfl, rfl, by simp [DV.cells, DV.one], ⟨n, rfl, hw⟩, fun i hi hi' => ?_⟩
      have : i = 0 := by simp at hi; omega
      subst this
      exact .v _ rfl
    · cases h
theorem reads_bool {fuel : Nat} {t : TypeId} (ht : P.underlying t = some .bool) {cs : List Value} {d : DataW H} {p : List MemPlace} (h : DataW.trod enc P W 0 sp held fuel t cs = some (d, p)) : ∃ y, Reads W (fun y => ∃ b : Bool, y = TF b) 1 cs y := by
  cases fuel with
  | zero => cases h
  | succ fuel =>
    simp only [DataW.trod, ht] at h
    split at h <;> first | (rename_i e; cases e; done) | skip
    all_goals first | (cases h; done) | skip
    rename_i b _
    refine ⟨TF b, rfl, rfl, by simp [TF, DV.cells, DV.one], ⟨b, rfl⟩, fun i hi hi' => ?_⟩
    have : i = 0 := by simp at hi; omega
    subst this
    exact .v _ rfl
theorem Reads.imp {Good Good' : DV → Prop} {sz : Nat} {cs : List Value} {y : DV} (h : Reads W Good sz cs y) (hg : Good y → Good' y) : Reads W Good' sz cs y := ⟨h.len, h.ylen, h.one, hg h.good, h.at_⟩
theorem u8_byte {n : Int} (h : (Lit.int .u8 n).wf = true) : DV.v (.int .u8 n) = BY (UInt8.ofNat n.toNat) := by
  have hb : IntKind.u8.min = 0 ∧ IntKind.u8.max = 255 := by decide
  simp only [Lit.wf, Bool.and_eq_true, decide_eq_true_eq, hb.1, hb.2] at h
  have : ((UInt8.ofNat n.toNat).toNat : Int) = n := by
    rw [UInt8.toNat_ofNat']
    omega
  simp only [BY, this]
theorem all_map {α : Type} {f : α → DV} : ∀ {ys : List DV}, (∀ y ∈ ys, ∃ x, y = f x) → ∃ xs : List α, ys = xs.map f
  | [], _ => ⟨[], rfl⟩
  | y :: ys, h => by
    obtain ⟨x, rfl⟩ := h y (by simp)
    obtain ⟨xs, rfl⟩ := all_map (ys := ys) fun z hz => h z (by simp [hz])
    exact ⟨x :: xs, rfl⟩

section
variable {r : Reach} {b0 : Nat} {t : TypeId} {v : Value} {d : DataW H} {ps : List MemPlace}
theorem arg_str (ht : P.underlying t = some .string) (hval : Value.okWide P W r b0 t v) (_ : DataW.Trod enc P W 0 sp held t v d ps) : ∃ l : List UInt8, Rep (ctx0 W) v (.d (S l)) := by
  obtain ⟨s, rfl⟩ := WideShapes.okWide_string ht hval
  have : (⟨s.data.toList.toArray⟩ : ByteArray) = s := by cases s; simp
  refine ⟨s.data.toList, ?_⟩
  unfold S
  rw [this]
  exact .d (.v _ rfl)
theorem arg_int {k : IntKind} (ht : P.underlying t = some (.int k)) (hval : Value.okWide P W r b0 t v) (hd : DataW.Trod enc P W 0 sp held t v d ps) : ∃ n : Int, (Lit.int k n).wf = true ∧ Rep (ctx0 W) v (.d (.v (.int k n))) := by
  obtain ⟨n, rfl, _, _, hw⟩ := ChangeShapes.open_int ht hval hd
  exact ⟨n, hw, .d (.v _ rfl)⟩
theorem arg_bool (ht : P.underlying t = some .bool) (hval : Value.okWide P W r b0 t v) (_ : DataW.Trod enc P W 0 sp held t v d ps) : ∃ b : Bool, Rep (ctx0 W) v (.d (TF b)) := by
  have : ∃ b, v = .bool b := by
    simp only [Value.okWide, ht, Cell.okWide] at hval
    cases v <;> simp_all [Cell.ok]
  obtain ⟨b, rfl⟩ := this
  exact ⟨b, .d (.v _ rfl)⟩
theorem arg_list {e : TypeId} {sz : Nat} (hsz0 : 0 < sz) (Good : DV → Prop) (ht : P.underlying t = some (.slice e)) (hsz : P.cellsOf e = sz) (hval : Value.okWide P W r b0 t v) (hd : DataW.Trod enc P W 0 sp held t v d ps)
    (hel : ∀ fuel cs d p, DataW.trod enc P W 0 sp held fuel e cs = some (d, p) → cs.length = sz → ∃ y, Reads W Good sz cs y) : ∃ ys : List DV, (∀ y ∈ ys, Good y) ∧ Rep (ctx0 W) v (.d (.lst sz ys)) := by
  obtain ⟨a, n, cap, rfl⟩ := WideShapes.okWide_slice ht hval
  obtain ⟨fuel, hf⟩ := hd
  cases fuel with
  | zero => cases hf
  | succ fuel =>
    obtain ⟨ys, h1, h2⟩ := rep_slice hsz0 Good ht hsz (hel fuel) hf
    exact ⟨ys, h2, .d h1⟩
theorem arg_bytes {e : TypeId} (ht : P.underlying t = some (.slice e)) (he : P.underlying e = some (.int .u8)) (hsz : P.cellsOf e = 1) (hval : Value.okWide P W r b0 t v) (hd : DataW.Trod enc P W 0 sp held t v d ps) : ∃ l : List UInt8, Rep (ctx0 W) v (.d (.lst 1 (l.map BY))) := by
  obtain ⟨ys, h1, h2⟩ := arg_list (by decide) (fun y => ∃ b, y = BY b) ht hsz hval hd fun fuel cs d p h _ => by
    obtain ⟨y, hy⟩ := reads_int he h
    exact ⟨y, hy.imp fun ⟨n, e1, e2⟩ => ⟨_, e1.trans (u8_byte e2)⟩⟩
  obtain ⟨l, rfl⟩ := all_map h1
  exact ⟨l, h2⟩
theorem arg_strs {e : TypeId} (ht : P.underlying t = some (.slice e)) (he : P.underlying e = some .string) (hsz : P.cellsOf e = 1) (hval : Value.okWide P W r b0 t v) (hd : DataW.Trod enc P W 0 sp held t v d ps) : ∃ l : List (List UInt8), Rep (ctx0 W) v (.d (.lst 1 (l.map S))) := by
  obtain ⟨ys, h1, h2⟩ := arg_list (by decide) (fun y => ∃ b, y = S b) ht hsz hval hd fun fuel cs d p h _ => reads_str he h
  obtain ⟨l, rfl⟩ := all_map h1
  exact ⟨l, h2⟩
end
end
end Go.AV
