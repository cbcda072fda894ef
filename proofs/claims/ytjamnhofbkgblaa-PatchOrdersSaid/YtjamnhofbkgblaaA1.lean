/-
  The AV logic, part 1: abstract values, what a concrete value stands for in a world, and that this lives on while the world grows.
-/
import Derived.Below
import Derived.Orders
import Derived.Tactics
import Derived.Laws.Rows
import Derived.Laws.AppendOwn
namespace Go.AV
open Go.RowKit

/-- Scalars that need no memory. -/
def plain : Value → Bool
  | .bool _ => true
  | .int _ _ => true
  | .string _ => true
  | .pointer none => true
  | .slice none 0 0 => true
  | .map none => true
  | .nilFunc => true
  | .nilIface => true
  | _ => false

/-- Deep data: what is read and never written. -/
inductive DV where
  | v (x : Value)
  | agg (cs : List DV)
  | lst (sz : Nat) (xs : List DV)

def DV.cells : DV → List DV
  | .agg cs => cs
  | x => [x]
def DV.one : DV → Bool
  | .agg _ => false
  | _ => true
def flat (xs : List DV) : List DV := xs.flatMap DV.cells
theorem flat_length {sz : Nat} : ∀ {xs : List DV}, (∀ x ∈ xs, x.cells.length = sz) → (flat xs).length = xs.length * sz
  | [], _ => by simp [flat]
  | x :: xs, h => by
    have ih := flat_length (xs := xs) fun y hy => h y (List.mem_cons_of_mem _ hy)
    have hx := h x (List.mem_cons_self ..)
    simp only [flat, List.flatMap_cons, List.length_append, List.length_cons, Nat.add_mul, Nat.one_mul] at ih ⊢
    omega
theorem flat_append (xs ys : List DV) : flat (xs ++ ys) = flat xs ++ flat ys := by simp [flat]
theorem flat_get {sz : Nat} : ∀ {xs : List DV} (_ : ∀ x ∈ xs, x.cells.length = sz) (i : Nat) (hi : i < xs.length) (k : Nat), k < sz → (flat xs)[i * sz + k]? = (xs[i]).cells[k]?
  | [], _, i, hi, _, _ => by simp at hi
  | x :: xs, h, i, hi, k, hk => by
    have hx := h x (List.mem_cons_self ..)
    have h' : ∀ y ∈ xs, y.cells.length = sz := fun y hy => h y (List.mem_cons_of_mem _ hy)
    cases i with
    | zero => simp [flat, List.getElem?_append_left (show k < x.cells.length by omega)]
    | succ i =>
      have ih := flat_get h' i (by simpa using hi) k hk
      have e : (i + 1) * sz + k = x.cells.length + (i * sz + k) := by rw [hx, Nat.add_mul]; omega
      show (x.cells ++ flat xs)[(i + 1) * sz + k]? = _
      rw [e, List.getElem?_append_right (by omega), Nat.add_sub_cancel_left]
      simpa using ih

/-- Protected cells: block, place. -/
abbrev Mem := Nat → Nat → Option Value

inductive RepD (m : Mem) : Value → DV → Prop
  | v (x : Value) (h : plain x = true) : RepD m x (.v x)
  | agg (vs : Array Value) (cs : List DV) (hl : vs.size = cs.length) (h1 : ∀ c ∈ cs, c.one = true) (h : ∀ i (hi : i < cs.length), RepD m (vs.getD i undef) cs[i]) : RepD m (.agg vs) (.agg cs)
  | lst (g o n cap sz : Nat) (xs : List DV) (us : Nat → Value) (hn : xs.length = n) (hc : n ≤ cap) (hsz : ∀ x ∈ xs, x.cells.length = sz) (h1 : ∀ c ∈ flat xs, c.one = true)
      (hm : ∀ i, i < (flat xs).length → m g (o + i) = some (us i)) (h : ∀ i (hi : i < (flat xs).length), RepD m (us i) (flat xs)[i]) : RepD m (.slice (some ⟨g, o, none⟩) n cap) (.lst sz xs)
  | lstE (a : Option Addr) (cap sz : Nat) : RepD m (.slice a 0 cap) (.lst sz [])

inductive AV where
  | un
  | nv
  | d (x : DV)
  | own (t : Option Nat) (sz : Nat) (xs : List DV)
  | elt (cs : List DV)
  | ptr (id off : Nat)
  | arr (id n cap : Nat)
  | sub (id off n cap : Nat)
  | agg (cs : List AV)
  | tup (cs : List AV)
  | fn (f : Fn) (first cap : List AV)

def AV.one : AV → Bool
  | .d x => x.one
  | .un => false
  | .nv => false
  | .agg _ => false
  | .tup _ => false
  | _ => true
def AV.cells : AV → List AV
  | .agg cs => cs
  | .d (.agg cs) => cs.map .d
  | x => [x]

structure Tok where
  g : Nat
  cap : Nat
  sz : Nat
  mark : Nat
structure Ctx where
  mem : Mem
  blk : List Nat
  tok : List Tok

inductive Rep (c : Ctx) : Value → AV → Prop
  | un (x : Value) : Rep c x .un
  | nv : Rep c undef .nv
  | d {x : Value} {y : DV} (h : RepD c.mem x y) : Rep c x (.d y)
  | own0 (sz : Nat) : Rep c (.slice none 0 0) (.own none sz [])
  | own1 (g o n sz : Nat) (xs : List DV) (h : RepD c.mem (.slice (some ⟨g, o, none⟩) n n) (.lst sz xs)) : Rep c (.slice (some ⟨g, o, none⟩) n n) (.own none sz xs)
  | ownt (i : Nat) (e : Tok) (g n cap sz : Nat) (xs : List DV) (h : RepD c.mem (.slice (some ⟨g, 0, none⟩) n cap) (.lst sz xs)) (ht : c.tok[i]? = some e) (hn : n ≤ e.mark)
      (he : e.mark = n → e.g = g ∧ e.cap = cap ∧ e.sz = sz) : Rep c (.slice (some ⟨g, 0, none⟩) n cap) (.own (some i) sz xs)
  | elt (g o : Nat) (cs : List DV) (us : Nat → Value) (h1 : ∀ x ∈ cs, x.one = true) (hm : ∀ i, i < cs.length → c.mem g (o + i) = some (us i)) (h : ∀ i (hi : i < cs.length), RepD c.mem (us i) cs[i]) :
      Rep c (.pointer (some ⟨g, o, none⟩)) (.elt cs)
  | ptr (id off g : Nat) (h : c.blk[id]? = some g) : Rep c (.pointer (some ⟨g, off, none⟩)) (.ptr id off)
  | arr (id n cap g : Nat) (h : c.blk[id]? = some g) : Rep c (.slice (some ⟨g, 0, none⟩) n cap) (.arr id n cap)
  | sub (id off n cap g : Nat) (h : c.blk[id]? = some g) : Rep c (.slice (some ⟨g, off, none⟩) n cap) (.sub id off n cap)
  | agg (vs : Array Value) (cs : List AV) (hl : vs.size = cs.length) (h : ∀ i (hi : i < cs.length), Rep c (vs.getD i undef) cs[i]) : Rep c (.agg vs) (.agg cs)
  | tup (vs : Array Value) (cs : List AV) (hl : vs.size = cs.length) (h : ∀ i (hi : i < cs.length), Rep c (vs.getD i undef) cs[i]) : Rep c (.tuple vs) (.tup cs)
  | fn (f : Fn) (fs cs : Array Value) (fs' cs' : List AV) (hl : fs.size = fs'.length) (h : ∀ i (hi : i < fs'.length), Rep c (fs.getD i undef) fs'[i])
      (hl' : cs.size = cs'.length) (h' : ∀ i (hi : i < cs'.length), Rep c (cs.getD i undef) cs'[i]) : Rep c (.func f fs cs) (.fn f fs' cs')

def MemLe (m m' : Mem) : Prop := ∀ g o u, m g o = some u → m' g o = some u
structure Le (c c' : Ctx) : Prop where
  mem : MemLe c.mem c'.mem
  blk : ∀ (i g : Nat), c.blk[i]? = some g → c'.blk[i]? = some g
  tok : ∀ (i : Nat) (e : Tok), c.tok[i]? = some e → ∃ e' : Tok, c'.tok[i]? = some e' ∧ (e' = e ∨ e.mark < e'.mark)
theorem MemLe.refl (m : Mem) : MemLe m m := fun _ _ _ h => h
theorem MemLe.trans {a b c : Mem} (h : MemLe a b) (k : MemLe b c) : MemLe a c := fun g o u e => k g o u (h g o u e)
theorem Le.refl (c : Ctx) : Le c c := ⟨fun _ _ _ h => h, fun _ _ h => h, fun _ e h => ⟨e, h, .inl rfl⟩⟩
theorem Le.trans {a b c : Ctx} (h : Le a b) (k : Le b c) : Le a c := by
  refine ⟨h.mem.trans k.mem, fun i g e => k.blk i g (h.blk i g e), fun i e he => ?_⟩
  obtain ⟨e1, h1, h2⟩ := h.tok i e he
  obtain ⟨e2, h3, h4⟩ := k.tok i e1 h1
  refine ⟨e2, h3, ?_⟩
  rcases h2 with rfl | h2
  · exact h4
  · rcases h4 with rfl | h4
    · exact .inr h2
    · exact .inr (Nat.lt_trans h2 h4)

theorem RepD.mono {m m' : Mem} (hm : MemLe m m') {x : Value} {y : DV} (h : RepD m x y) : RepD m' x y := by
  induction h with
  | v x h => exact .v x h
  | agg vs cs hl h1 _ ih => exact .agg vs cs hl h1 ih
  | lst g o n cap sz xs us hn hc hsz h1 hmm _ ih => exact .lst g o n cap sz xs us hn hc hsz h1 (fun i hi => hm _ _ _ (hmm i hi)) ih
  | lstE a cap sz => exact .lstE a cap sz
theorem Rep.mono {c c' : Ctx} (hc : Le c c') {x : Value} {y : AV} (h : Rep c x y) : Rep c' x y := by
  induction h with
  | un x => exact .un x
  | nv => exact .nv
  | d h => exact .d (h.mono hc.mem)
  | own0 sz => exact .own0 sz
  | own1 g o n sz xs h => exact .own1 g o n sz xs (h.mono hc.mem)
  | ownt i e g n cap sz xs h ht hn he =>
    obtain ⟨e', ht', hh⟩ := hc.tok i e ht
    rcases hh with rfl | hh
    · exact .ownt i e' g n cap sz xs (h.mono hc.mem) ht' hn he
    · exact .ownt i e' g n cap sz xs (h.mono hc.mem) ht' (by omega) (fun e => by omega)
  | elt g o cs us h1 hm h => exact .elt g o cs us h1 (fun i hi => hc.mem _ _ _ (hm i hi)) fun i hi => (h i hi).mono hc.mem
  | ptr id off g h => exact .ptr id off g (hc.blk _ _ h)
  | arr id n cap g h => exact .arr id n cap g (hc.blk _ _ h)
  | sub id off n cap g h => exact .sub id off n cap g (hc.blk _ _ h)
  | agg vs cs hl _ ih => exact .agg vs cs hl ih
  | tup vs cs hl _ ih => exact .tup vs cs hl ih
  | fn f fs cs fs' cs' hl _ hl' _ ih ih' => exact .fn f fs cs fs' cs' hl ih hl' ih'

/-- An exact block: its cells' type and what stands in it. -/
structure HB where
  elem : TypeId
  cs : List AV
  frz : Bool := false
structure HS where
  blks : List HB
  toks : List Nat

structure Inv (B : Nat) (w0 : World) (c : Ctx) (H : HS) (w : World) : Prop where
  base : B ≤ w.heap.size
  below : Below B w0 w
  mem : ∀ g o u, c.mem g o = some u → w.cell? ⟨g, o, none⟩ = some u
  blkLen : c.blk.length = H.blks.length
  blk : ∀ (i g : Nat) (b : HB), c.blk[i]? = some g → H.blks[i]? = some b → B ≤ g ∧ (∀ o, c.mem g o = none) ∧
    ∃ (cur : Array Value) (fr : Nat × Nat), w.heap[g]? = some (Obj.cells cur b.elem fr) ∧ cur.size = b.cs.length ∧ (b.frz = false → ∀ o, ¬ (fr.1 ≤ o ∧ o < fr.2)) ∧ ∀ j (hj : j < b.cs.length), Rep c (cur.getD j undef) b.cs[j]
  blkInj : ∀ (i j g : Nat), c.blk[i]? = some g → c.blk[j]? = some g → i = j
  tokLen : c.tok.length = H.toks.length
  tok : ∀ (i : Nat) (e : Tok), c.tok[i]? = some e → H.toks[i]? = some e.mark ∧ B ≤ e.g ∧ e.mark ≤ e.cap ∧ (∀ o, e.mark * e.sz ≤ o → c.mem e.g o = none) ∧ (∀ j : Nat, c.blk[j]? ≠ some e.g) ∧
    ∃ (cur : Array Value) (et : TypeId) (fr : Nat × Nat), w.heap[e.g]? = some (Obj.cells cur et fr) ∧ cur.size = e.cap * e.sz ∧ (∀ o, o < cur.size → ¬ (fr.1 ≤ o ∧ o < fr.2))
  tokInj : ∀ (i j : Nat) (e e' : Tok), c.tok[i]? = some e → c.tok[j]? = some e' → e.g = e'.g → i = j

theorem Inv.mem_lt {B : Nat} {w0 w : World} {c : Ctx} {H : HS} (h : Inv B w0 c H w) {g o : Nat} {u : Value} (hm : c.mem g o = some u) : g < w.heap.size :=
  World.block_lt_of_cell? w ⟨g, o, none⟩ (h.mem g o u hm)
theorem Inv.fresh {B : Nat} {w0 w : World} {c : Ctx} {H : HS} (h : Inv B w0 c H w) {g : Nat} (hg : w.heap.size ≤ g) (o : Nat) : c.mem g o = none := by
  cases hm : c.mem g o with
  | none => rfl
  | some u => have := h.mem_lt hm; omega
theorem Inv.blk_lt {B : Nat} {w0 w : World} {c : Ctx} {H : HS} (h : Inv B w0 c H w) {i g : Nat} (hi : c.blk[i]? = some g) : g < w.heap.size := by
  have hlt : i < c.blk.length := (List.getElem?_eq_some_iff.1 hi).1
  have hb : ∃ b, H.blks[i]? = some b := ⟨_, List.getElem?_eq_getElem (h.blkLen ▸ hlt)⟩
  obtain ⟨b, hb⟩ := hb
  obtain ⟨_, _, cur, fr, hw, _⟩ := h.blk i g b hi hb
  exact (Array.getElem?_eq_some_iff.1 hw).1
theorem Inv.tok_lt {B : Nat} {w0 w : World} {c : Ctx} {H : HS} (h : Inv B w0 c H w) {i : Nat} {e : Tok} (hi : c.tok[i]? = some e) : e.g < w.heap.size := by
  obtain ⟨_, _, _, _, _, cur, et, fr, hw, _⟩ := h.tok i e hi
  exact (Array.getElem?_eq_some_iff.1 hw).1

/-- The old blocks are as they were, some orders having been drawn: all lives on. -/
theorem Inv.drew {B : Nat} {w0 w : World} {c : Ctx} {H : HS} (h : Inv B w0 c H w) : Inv B w0 c H w.drew :=
  ⟨h.base, h.below.drew, h.mem, h.blkLen, h.blk, h.blkInj, h.tokLen, h.tok, h.tokInj⟩

theorem heap_new (w : World) (o : Obj) : (w.alloc o).heap[w.heap.size]? = some o := by
  show (w.heap.push o)[w.heap.size]? = some o
  simp
theorem heap_old (w : World) (o : Obj) {g : Nat} (hg : g < w.heap.size) : (w.alloc o).heap[g]? = w.heap[g]? := by
  show (w.heap.push o)[g]? = _
  rw [Array.getElem?_push, if_neg (by omega)]
theorem heap_size_alloc (w : World) (o : Obj) : (w.alloc o).heap.size = w.heap.size + 1 := by
  show (w.heap.push o).size = _
  simp
theorem cell_old (w : World) (o : Obj) {a : Addr} {u : Value} (h : w.cell? a = some u) : (w.alloc o).cell? a = some u := by
  have := World.block_lt_of_cell? w a h
  rw [← h]
  exact World.cell?_of_block (heap_old w o this)

/-- A new block that nothing names. -/
theorem Inv.alloc {B : Nat} {w0 w : World} {c : Ctx} {H : HS} (h : Inv B w0 c H w) (o : Obj) : Inv B w0 c H (w.alloc o) where
  base := by have := h.base; rw [heap_size_alloc]; omega
  below := h.below.alloc h.base o
  mem := fun g off u hm => cell_old w o (h.mem g off u hm)
  blkLen := h.blkLen
  blk := fun i g b hg hb => by
    have hlt := h.blk_lt hg
    rw [heap_old w o hlt]
    exact h.blk i g b hg hb
  blkInj := h.blkInj
  tokLen := h.tokLen
  tok := fun i e he => by
    have hlt := h.tok_lt he
    rw [heap_old w o hlt]
    exact h.tok i e he
  tokInj := h.tokInj

/-- Protect the cells of a new block, from its head on, as many as wanted. -/
def Ctx.prot (c : Ctx) (g n : Nat) (us : Nat → Value) : Ctx := { c with mem := fun b o => if b = g ∧ o < n then some (us o) else c.mem b o }
theorem Ctx.prot_le {c : Ctx} {g n : Nat} {us : Nat → Value} (h : ∀ o, o < n → c.mem g o = none ∨ c.mem g o = some (us o)) : Le c (c.prot g n us) := by
  refine ⟨fun b o u hm => ?_, fun _ _ h => h, fun _ e h => ⟨e, h, .inl rfl⟩⟩
  show (if b = g ∧ o < n then some (us o) else c.mem b o) = some u
  by_cases hb : b = g ∧ o < n
  · obtain ⟨rfl, ho⟩ := hb
    rcases h o ho with e | e
    · rw [e] at hm; cases hm
    · rw [if_pos ⟨rfl, ho⟩, ← hm, e]
  · rw [if_neg hb]; exact hm

/-- A new block whose cells are protected: n of them. -/
theorem Inv.allocProt {B : Nat} {w0 w : World} {c : Ctx} {H : HS} (h : Inv B w0 c H w) (cs : Array Value) (et : TypeId) (fr : Nat × Nat) (n : Nat) (hn : n ≤ cs.size) :
    Inv B w0 (c.prot w.heap.size n (fun o => cs.getD o undef)) H (w.alloc (.cells cs et fr)) ∧ Le c (c.prot w.heap.size n (fun o => cs.getD o undef)) := by
  have hle : Le c (c.prot w.heap.size n (fun o => cs.getD o undef)) := Ctx.prot_le fun o _ => .inl (h.fresh (Nat.le_refl _) o)
  have h' := h.alloc (.cells cs et fr)
  refine ⟨⟨h'.base, h'.below, fun g o u hm => ?_, h'.blkLen, fun i g b hg hb => ?_, h'.blkInj, h'.tokLen, fun i e he => ?_, h'.tokInj⟩, hle⟩
  · simp only [Ctx.prot] at hm
    split at hm
    · rename_i hh
      obtain ⟨rfl, ho⟩ := hh
      have : o < cs.size := by omega
      simp only [World.cell?, heap_new]
      simp at hm
      simp [this] at hm ⊢
      exact hm
    · exact h'.mem g o u hm
  · obtain ⟨h1, h2, cur, fr', h3, h4, h5, h6⟩ := h'.blk i g b hg hb
    have hlt := h.blk_lt hg
    refine ⟨h1, fun o => ?_, cur, fr', h3, h4, h5, fun j hj => (h6 j hj).mono hle⟩
    simp only [Ctx.prot]
    rw [if_neg (by omega)]
    exact h2 o
  · obtain ⟨h1, h2, h3, h4, h5, h6⟩ := h'.tok i e he
    have hlt := h.tok_lt he
    refine ⟨h1, h2, h3, fun o ho => ?_, h5, h6⟩
    simp only [Ctx.prot]
    rw [if_neg (by omega)]
    exact h4 o ho

/-- A new exact block. -/
def HS.push (H : HS) (e : TypeId) (cs : List AV) : HS := { H with blks := H.blks ++ [⟨e, cs, false⟩] }
def HS.nb (H : HS) : Nat := H.blks.length
theorem Inv.allocBlk {B : Nat} {w0 w : World} {c : Ctx} {H : HS} (h : Inv B w0 c H w) (cur : Array Value) (et : TypeId) (cs : List AV) (hl : cur.size = cs.length) (hr : ∀ j (hj : j < cs.length), Rep c (cur.getD j undef) cs[j]) :
    Inv B w0 { c with blk := c.blk ++ [w.heap.size] } (H.push et cs) (w.alloc (.cells cur et)) ∧ Le c { c with blk := c.blk ++ [w.heap.size] } := by
  have hle : Le c { c with blk := c.blk ++ [w.heap.size] } := by
    refine ⟨fun _ _ _ h => h, fun i g hi => ?_, fun _ e h => ⟨e, h, .inl rfl⟩⟩
    have : i < c.blk.length := (List.getElem?_eq_some_iff.1 hi).1
    show (c.blk ++ [w.heap.size])[i]? = some g
    rw [List.getElem?_append_left this]; exact hi
  have h' := h.alloc (.cells cur et)
  have lt_or : ∀ i g, (c.blk ++ [w.heap.size])[i]? = some g → (c.blk[i]? = some g ∧ i < c.blk.length) ∨ (i = c.blk.length ∧ g = w.heap.size) := by
    intro i g hi
    by_cases hlt : i < c.blk.length
    · rw [List.getElem?_append_left hlt] at hi
      exact .inl ⟨hi, hlt⟩
    · rw [List.getElem?_append_right (by omega)] at hi
      have : i - c.blk.length = 0 := by
        have := (List.getElem?_eq_some_iff.1 hi).1
        simp at this; omega
      rw [this] at hi
      simp at hi
      exact .inr ⟨by omega, hi.symm⟩
  refine ⟨⟨h'.base, h'.below, h'.mem, ?_, fun i g b hg hb => ?_, fun i j g hi hj => ?_, h'.tokLen, fun i e he => ?_, h'.tokInj⟩, hle⟩
  · simp [HS.push, h.blkLen]
  · rcases lt_or i g hg with ⟨hg', hlt⟩ | ⟨rfl, rfl⟩
    · have hb' : H.blks[i]? = some b := by
        simp only [HS.push] at hb
        rwa [List.getElem?_append_left (by rw [← h.blkLen]; exact hlt)] at hb
      obtain ⟨h1, h2, cur', fr', h3, h4, h5, h6⟩ := h'.blk i g b hg' hb'
      exact ⟨h1, h2, cur', fr', h3, h4, h5, fun j hj => (h6 j hj).mono hle⟩
    · have hb' : b = ⟨et, cs, false⟩ := by
        simp only [HS.push] at hb
        rw [h.blkLen] at hb
        simpa using hb.symm
      subst hb'
      exact ⟨h.base, fun o => h.fresh (Nat.le_refl _) o, cur, (0, 0), heap_new w _, hl, fun _ o => by simp, fun j hj => (hr j hj).mono hle⟩
  · rcases lt_or i g hi with ⟨hi', _⟩ | ⟨rfl, rfl⟩
    · rcases lt_or j g hj with ⟨hj', _⟩ | ⟨rfl, rfl⟩
      · exact h.blkInj i j g hi' hj'
      · have := h.blk_lt hi'; omega
    · rcases lt_or j _ hj with ⟨hj', _⟩ | ⟨rfl, _⟩
      · have := h.blk_lt hj'; omega
      · rfl
  · obtain ⟨h1, h2, h3, h4, h5, h6⟩ := h'.tok i e he
    refine ⟨h1, h2, h3, h4, fun j hj => ?_, h6⟩
    rcases lt_or j _ hj with ⟨hj', _⟩ | ⟨_, hh⟩
    · exact h5 j hj'
    · have := h.tok_lt he; omega

end Go.AV
